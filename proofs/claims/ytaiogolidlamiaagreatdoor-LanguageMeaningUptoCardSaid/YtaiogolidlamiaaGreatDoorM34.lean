import Derived.Maps.AppendAt
import Derived.Test.YtaiogolidlamiaaGreatDoorM33
import Derived.Test.YtaiogolidlamiaaGreatDoorM32
import Derived.Lib.SlBytesConst
import Derived.Test.YtaiogolidlamiaaGreatDoorM31
import Derived.Deep.AppendLies
import Derived.Test.YtaiogolidlamiaaGreatDoorM28
set_option linter.unusedVariables false
set_option linter.unusedSimpArgs false
namespace Go.Proofs.YtaiogolidlamiaaGreatDoor
set_option maxRecDepth 100000
open Go.RowKit Go.Shelf
attribute [local go_sem] Oper.semAt_some
def Wrds (W:World) (v:Value) (l:List (List UInt8)):Prop:=∃ vs:List Value,vs.length=l.length∧W.ownsRow 0 22 1 v l.length vs∧∀ i,i<l.length→WordV W (vs.getD i undef) (l.getD i [])
theorem Wrds.ext {W W':World} {v:Value} {l:List (List UInt8)} (h:Wrds W v l) (hE:Ext W W'):Wrds W' v l:=by
 obtain ⟨vs,h1,h2,h3⟩:=h;exact ⟨vs,h1,Ah h2 hE,fun i hi=>(h3 i hi).ext hE⟩
theorem WordV.put {W:World} {v:Value} {x:List UInt8} (h:WordV W v x) {l:Nat} {o:Obj} (o':Obj) (hl:W.heap[l]? = some o) (hc:o.isCells=false):WordV (W.putObj l o') v x:=ownsRow_putObj h o' hl hc
theorem Kp.grown {B:Nat} {W W':World} {row:Option Nat} (hg:W.grownBy W' row) (hr:∀ k,row=some k→B≤k∧∃ cs fr,W.heap[k]? = some (.cells cs 22 fr)∨W.heap[k]? = some (.cells cs 38 fr)):Kp B W W':=
 ⟨hg.os,hg.tape,hg.output,hg.size,fun k o hk hp=>by
  have hlt:k<W.heap.size:=(Array.getElem?_eq_some_iff.1 hk).1;refine (hg.block k hlt fun e=>?_).trans hk;obtain ⟨h1,cs,fr,h2⟩:=hr k e.symm;rcases hp with hp|hp
  ·omega
  ·rcases h2 with h2|h2
   ·rw [hk] at h2;injection h2 with h2;exact (hp cs fr).1 h2
   ·rw [hk] at h2;injection h2 with h2;exact (hp cs fr).2 h2⟩
theorem Acp {W:World} {base e size:Nat} {v:Value} {n:Nat} {xs:List Value} (h:W.ownsRow base e size v n xs) (k:Nat) (hk:v.ownBlock=some k):base≤k∧∃ cs fr,W.heap[k]? = some (.cells cs e fr):=by
 obtain ⟨_,⟨rfl,_⟩|⟨g,cap,cur,rfl,hb,hg,_⟩⟩:=h
 ·cases hk
 ·have:g=k:=Option.some.inj hk;subst this;exact ⟨hb,_,_,hg⟩
def OutI (W:World) (B g7:Nat) (l:List (List UInt8)):Prop:=∃ v vs,Boxed W g7 38 v∧W.ownsRow B 22 1 v l.length vs∧vs.length=l.length∧∀ i,i<l.length→WordV W (vs.getD i undef) (l.getD i [])
theorem OutI.ext {W W':World} {B g7:Nat} {l:List (List UInt8)} (h:OutI W B g7 l) (hE:Ext W W'):OutI W' B g7 l:=by
 obtain ⟨v,vs,h1,h2,h3,h4⟩:=h;exact ⟨v,vs,hE.heap h1,Ah h2 hE,h3,fun i hi=>(h4 i hi).ext hE⟩
theorem OutI.put {W:World} {B g7:Nat} {l:List (List UInt8)} (h:OutI W B g7 l) {k:Nat} {o:Obj} (o':Obj) (hl:W.heap[k]? = some o) (hc:o.isCells=false):OutI (W.putObj k o') B g7 l:=by
 obtain ⟨v,vs,h1,h2,h3,h4⟩:=h;exact ⟨v,vs,I0 h1 hl hc,ownsRow_putObj h2 o' hl hc,h3,fun i hi=>(h4 i hi).put o' hl hc⟩
theorem Aer (L:List UInt8→Bool) (n:Nat):Ck L (n+1)=Ck L n++Bm L n:=rfl
theorem V1 (L:List UInt8→Bool) (n:Nat):Df L (n+1)=Df L n+Bp L n:=rfl
theorem Afx:(Tryz.prog.info? 22).map (fun i=>(i.zero,i.size,i.bytes))=some (some (.slice none 0 0),1,24):=by kernel_rfl
set_option maxHeartbeats 4000000 in
theorem Oq (d:Dfa) (hv:Val d) (hn:d.nxt.length≤64) (N:Nat) (hN:N≤8) (v:Value) (w:World) (h:IsD w v d) :
  Calls Tryz.prog 22 #[v,iv N] w fun e w'=>Ext w w'∧((Df d.has (N+1)≤4096∧∃ vo,e=.returned (.tuple #[vo,.int .i64 0])∧Wrds w' vo (Ck d.has (N+1)))∨(4096<Df d.has (N+1)∧e=.returned (.tuple #[.slice none 0 0,.int .i64 2]))):=by
 have HD:=Lib.hid h;obtain ⟨bc,oc,cc,bn,on,cn,ba,oa,ca,rfl,hC,hR,-⟩:=h.opened hv;have f47:=fun W (hW:Ext w W)=>Lib.hid (Dr d hv hn _ W (HD.out.ext hW))
 have f62:=fun W (hW:Ext w W)=>Lib.hid (Vu d hv hn N (by omega) _ W (HD.out.ext hW))
 have HSQ:=Lib.hid (fun (gl:Nat) (w0:World) (hE:Ext w w0) (hL:CntT w0 gl d N)=>X4 d hv hn N gl bc oc cc bn on cn (.slice (some ⟨ba,oa,none⟩) d.nxt.length ca) (by omega) w0 (hC.ext hE) (hR.ext hE) hL);have hn0:=hv.pos;have HCD:=Lib.hid (fun n=>show Bq d n 0=Bp d.has n from Lx hv n 0 hv.pos);obtain ⟨Va,hVa⟩:∃ X,dA (.slice (some ⟨bc,oc,none⟩) d.cls.length cc) (.slice (some ⟨bn,on,none⟩) d.nxt.length cn) (.slice (some ⟨ba,oa,none⟩) d.nxt.length ca)=X:=⟨_,rfl⟩;have hiVa:(Tryz.prog.info? 30).map (·.size)=some Va.size:=by rw [← hVa];exact Ad
 rw [hVa] at f47 f62 HSQ HD;rw [hVa];have hE0:=(Ext.refl w).alloc (.cells Va 30);have H1:=Ab w (.cells Va 30);clear h hVa hv hC hR;refine (callsIn_wide (n:=3)).1 ?_;refine callsIn_of_wp_marks Tryz.func22 rfl trivial ?_ rfl;refine wpIn_wide.2 ?_;simp only [Tryz.ntmps22,List.size_toArray,List.length_cons,List.length_nil,Nat.reduceAdd,Nat.reduceSub,Array.replicate_succ,Array.replicate_zero,List.push_toArray,List.append_toArray,List.nil_append,List.cons_append];go_upto_region 1 with (fail)
 obtain ⟨w1,hw1⟩:∃ W,w.alloc (.cells Va 30)=W:=⟨_,rfl⟩;rw [hw1] at hE0 H1;simp only [hw1];clear hw1;have HB1:=Lib.hid H1;clear H1;have hb0:¬ ((N:Int)<0):=by omega
 have hb1:¬ ((8:Int)<(N:Int)):=by omega
 go_upto_region 3 with (first
  | (refine wpList_load_row rfl 30 (.tmp 2) rfl _ rfl _ _ _ _ HB1.out Tryz.underlying30 rfl hiVa ?_)
  | (go_at_call 47;(with_reducible refine (f47 _ hE0).out.mono ?_);rintro e w2 ⟨rfl,hE2⟩;have hE3:=hE0.trans hE2;have HB1:=Lib.hid (hE2.heap HB1.out)))
 go_upto_region 4 with (first
  | (refine wpList_load_row rfl 30 (.tmp 2) rfl _ rfl _ _ _ _ HB1.out Tryz.underlying30 rfl hiVa ?_)
  | (go_at_call 62;(with_reducible refine (f62 _ hE3).out.mono ?_);rintro e w4 ⟨gl,rfl,hL,hE4⟩;have HB4:=Lib.hid (hE4.heap HB1.out);have HL:=Lib.hid hL;have HSQ4:=Lib.hid (HSQ.out gl w4 (hE3.trans hE4) hL);have HE4:=Lib.hid (hE3.trans hE4)))
 clear hL hE4 hE3 hE2 hE0 f47 f62 HSQ HB1;have hE5:=(Ext.refl w4).alloc (.cells #[.slice none 0 0] 38);have hO5:OutI (w4.alloc (.cells #[.slice none 0 0] 38)) w4.heap.size w4.heap.size []:=⟨_,[],Boxed.new w4 38 _,World.ownsRow_nil _ _ _ _,rfl,fun i hi=>by simp at hi⟩;go_upto_region 5 with (fail)
 obtain ⟨w5,hw5⟩:∃ W,w4.alloc (.cells #[.slice none 0 0] 38)=W:=⟨_,rfl⟩;rw [hw5] at hE5 hO5;simp only [hw5];clear hw5;obtain ⟨g7,hg7⟩:∃ x,w4.heap.size=x:=⟨_,rfl⟩;have HG7:=Lib.hid hg7;rw [hg7];rw [hg7] at hO5;clear hg7;have HO5:=Lib.hid hO5;clear hO5;go_upto_region 6 with (fail)
 refine wp_loop (fun a' W=>∃ (n:Nat) (u3 u4 u5 u8 u9 u10 u11 u12 u13 u14 u15 u16 u17 u18 u19 u20 u21 u22 u23 u24 u27 u28 u29 u30 u31 u32 u33 u34 u35 u36 u37 u38 u39 u40 u41 u42 u43 u44 u45 u46 u47 u48 u49:Value) (ds:List Deferred),n≤N+1∧OutI W g7 g7 (Ck d.has n)∧Df d.has n≤4096∧Ext w4 W∧Marks g7 W ds∧
   a'={ tmps:=#[.agg Va,iv N,.pointer (some ⟨w.heap.size,0,none⟩),u3,u4,u5,.slice (some ⟨gl,0,none⟩) (N+1) (N+1),.pointer (some ⟨g7,0,none⟩),u8,u9,u10,u11,u12,u13,u14,u15,u16,u17,u18,u19,u20,u21,u22,u23,u24,.int .i64 ((N:Int)+1),iv n,u27,u28,u29,u30,u31,u32,u33,u34,u35,u36,u37,u38,u39,u40,u41,u42,u43,u44,u45,u46,u47,u48,u49],defers:=ds }) (fun a' _=>N+1-(intOf (a'.tmps.getD 26 undef)).toNat) ?_ ?_
 ·exact ⟨0,_,_,_,_,_,_,_,_,_,_,_,_,_,_,_,_,_,_,_,_,_,_,_,_,_,_,_,_,_,_,_,_,_,_,_,_,_,_,_,_,_,_,_,[],by omega,HO5.out,by simp [Df],hE5,Marks.nil _ _,rfl⟩
 ·rintro a' wr ⟨n,u3,u4,u5,u8,u9,u10,u11,u12,u13,u14,u15,u16,u17,u18,u19,u20,u21,u22,u23,u24,u27,u28,u29,u30,u31,u32,u33,u34,u35,u36,u37,u38,u39,u40,u41,u42,u43,u44,u45,u46,u47,u48,u49,ds,hnN,hO,hcu,hE,hM,rfl⟩;have HM:=Lib.hid hM;clear HO5 hE5 hM;by_cases hlt:n<N+1
  ·have hltI:(n:Int)<(N:Int)+1:=by omega
   have HO:=Lib.hid hO;obtain ⟨vo,vs,hb7,hrow,hvl,hwv⟩:=hO;obtain ⟨gi,hgi,hgs⟩:=HL.out n (by omega);have k1:=Aw (hE.cell hgi);have k2:=Aw (hE.cell (hgs 0 hn0));rw [HCD.out n] at k2;obtain ⟨ao,cpo,rfl⟩:=Ew hrow;have k3:=Aw hb7.cell;obtain ⟨q,hq⟩:∃ q,(Ck d.has n).length=q:=⟨_,rfl⟩;have hqc:q=Df d.has n:=by rw [← hq,Le]
   rw [hq] at k3;have HQC:=Lib.hid hqc;rw [← hqc] at hcu;obtain ⟨ct,hct⟩:∃ c,Bp d.has n=c:=⟨_,rfl⟩;rw [hct] at k2;have HCT:=Lib.hid hct;have HQ:=Lib.hid hq;have hwr:IntKind.i64.wrap (4096-(q:Int))=4096-(q:Int):=by
    simp [IntKind.wrap,IntKind.signed,IntKind.bits];omega
   clear hb7 hrow hvl hwv hgi hgs hqc hct hq;go_upto_region 8 with (fail)
   refine Da (by kernel_rfl) (by kernel_rfl) ?_;iterate 10 (with_reducible refine wpQuiet_step (fun K hK=>?_);go_simp;(refine hK _ ?_;clear hK K))
   refine wpQuiet_nil ?_;rintro _ ⟨e,rfl⟩;have HO6:=Lib.hid (HO.out.ext e.ext);have hE6:=hE.trans e.ext;have HM6:=Lib.hid (HM.out.kp (B':=0) (Kp.of_ext e.ext));clear k1 k2 k3 HO HM hE;generalize e.W=w6 at *;by_cases hbig:4096-q<ct
   ·have hbI:(4096:Int)-(q:Int)<((sat ct:Nat):Int):=by
     unfold sat;omega
    go_wp2;refine Ox (fun W'=>Ext w4 W') (fun W' l o o' h hB hl hc=>h.putObj (by rw [HG7.out];exact hB) o') (fun W' h=>⟨_,results_tmp2 rfl _ _ _,HE4.out.trans h,.inr ⟨?_,rfl⟩⟩) ds w6 HM6.out hE6;have h1:=Ahs d.has (show n+1≤N+1 by omega);rw [V1,HCT.out,← HQC.out] at h1;omega
   ·have hbI:¬ (4096:Int)-(q:Int)<((sat ct:Nat):Int):=by
     unfold sat;omega
    have HB6:=Lib.hid (hE6.heap HB4.out);have f64:∀ W,Calls Tryz.prog 64 #[.agg Va,.slice (some ⟨gl,0,none⟩) (N+1) (N+1),.int .i64 0,iv n] W _:=fun W=>Qt Va gl N 0 n W
    go_wp2_with (first
     | (refine wpList_load_row rfl 30 (.tmp 2) rfl _ rfl _ _ _ _ HB6.out Tryz.underlying30 rfl hiVa ?_)
     | (go_at_call 64;(with_reducible refine (f64 w6).mono ?_);rintro e w7 ⟨Bd,Bl,Bs,Bn,rfl,hBx,hE67⟩))
    have hseq:=HSQ4.out n (by omega) 0 hn0 w7 Bd Bl Bs Bn (hE6.trans hE67) hBx;have HO7:=Lib.hid (HO6.out.ext hE67);have HE7:=Lib.hid (hE6.trans hE67);have HM7:=Lib.hid (HM6.out.kp (B':=0) (Kp.of_ext hE67));have hg77:g7<w7.heap.size:=by
     obtain ⟨_,_,h,_⟩:=HO7.out;exact h.lt
    obtain ⟨i22,hi22,hz0,hz1,hz2⟩:=info_parts Afx;clear HO6 hE6 HM6 hBx hE67 f64 HSQ4;refine (wpIn_wide (n:=3)).1 ?_;refine Qr (gf:=107) rfl (enters_of Tryz.func107 (by kernel_rfl) rfl) hseq rfl
     (fun pre W'=>OutI W' g7 g7 (Ck d.has n++pre)∧Ext w4 W'∧Kp w4.heap.size w7 W')
     (fun st W1 W2 h hE=>⟨h.1.ext hE,h.2.1.trans hE,h.2.2.trans (Kp.of_ext hE)⟩)
     (fun st W1 l' o o' h hl ho hc=>⟨h.1.put o' ho hc,h.2.1.putObj (by rw [HG7.out];omega) o',h.2.2.put_new hl o'⟩)
     ⟨by simpa using HO7.out,HE7.out,Kp.refl _ _⟩
     (fun v=>{ tmps:=#[.agg Va,iv N,.pointer (some ⟨w.heap.size,0,none⟩),u3,u4,u5,.slice (some ⟨gl,0,none⟩) (N+1) (N+1),.pointer (some ⟨g7,0,none⟩),iv n,v,u10,u11,u12,u13,u14,u15,u16,u17,u18,u19,u20,u21,u22,u23,u24,.int .i64 ((N:Int)+1),iv n,.bool true,iv n,.slice (some ⟨gl,0,none⟩) (N+1) (N+1),iv n,.pointer (some ⟨gl,n,none⟩),.slice (some ⟨gi,0,none⟩) d.nxt.length d.nxt.length,.pointer (some ⟨gi,0,none⟩),iv (sat ct),.slice ao q cpo,.int .i64 (q:Int),.int .i64 (4096-(q:Int)),.bool false,.agg Va,.slice (some ⟨gl,0,none⟩) (N+1) (N+1),iv n,.func (.func 107) #[] #[.pointer (some ⟨Bl,0,none⟩),.pointer (some ⟨Bn,0,none⟩),.pointer (some ⟨Bs,0,none⟩),.pointer (some ⟨Bd,0,none⟩)],v,u44,u45,u46,u47,u48,u49],defers:=[] }) ?assign ?body ?done
    case assign=>
     intro l' v W1 K hK
     gi_wp2
     exact hK
    case body=>
     rintro l' pre x v W1 ⟨⟨vo,vs,hb7,hrow,hvl,hwv⟩,hE1,hK71⟩ hv1 hpre m;have hplen:(Ck d.has n++pre).length+1≤4096:=by
      have h1:=hpre.length_le;rw [List.length_append] at h1 ⊢;have h2:(Bm (fun u=>d.ok (d.run 0 u)) n).length=ct:=HCT.out;rw [h2] at h1;have h3:=HQ.out;simp at h1;omega
     obtain ⟨av,cv,rfl⟩:=Ew hv1;obtain ⟨L,hLL⟩:∃ L,(Ck d.has n++pre).length=L:=⟨_,rfl⟩;have HLL:=Lib.hid hLL;rw [hLL] at hrow hvl hplen hwv;clear hLL;have hB1:g7≤W1.heap.size:=by have:=hE1.size;rw [HG7.out] at this;exact this
     have hne:=Ev hrow hb7 (by decide);have c7:=hb7.cell;have HWV:=Lib.hid hwv;have HV1:=Lib.hid hv1;clear hwv hv1;have HBk:=Lib.hid (fun (w8:World) (hgrow:(W1.alloc (.cells #[.slice av x.length cv] 22)).grownBy w8 vo.ownBlock)=>show Boxed w8 g7 38 vo from (hgrow.block g7 (Nat.lt_of_lt_of_le hb7.lt (by rw [World.size_alloc];omega)) (fun e=>by
      rcases hne with h|h
      ·rw [h] at e;cases e
      ·exact h e.symm)).trans (hb7.alloc _))
     refine wpIn_block ?_
     gi_wp2_with (gi_at_builtin;refine wpListIn_append_own _ rfl _ _ 38 rfl g7 22 i22 (.slice none 0 0) 1 24 Tryz.underlying38 hi22 hz0 hz1 hz2 rfl (by decide) _ _ _ rfl (hrow.alloc _) ⟨W1.heap.size,0,none⟩ 1 1 [.slice av x.length cv] rfl rfl (cell_one_new _ _ _) (by simp [Value.oneCell']) (by unfold maxLen;omega) (by omega) (by rw [World.size_alloc];omega) ?_;intro v' w8 hown' hgrow _;obtain ⟨g',cap',rfl⟩:=ownsRow_succ hown';have hb8:=HBk.out w8 hgrow;have hc8:=hb8.cell;have hf8:=hb8.frozen)
     obtain ⟨nv,hnv⟩:∃ x,Value.slice (some ⟨g',0,none⟩) (L+1) cap'=x:=⟨_,rfl⟩;rw [hnv] at hown';rw [hnv];have hsc:w8.setCell ⟨g7,0,none⟩ nv=w8.setRow g7 #[nv]:=setCell_eq_setRow w8 g7 0 #[vo] 38 (0,0) nv hb8;have hb9:Boxed (w8.setRow g7 #[nv]) g7 38 nv:=setRow_heap w8 g7 _ _ _ _ hb8;have hrow9:(w8.setRow g7 #[nv]).ownsRow g7 22 1 nv (L+1) (vs++[.slice av x.length cv]):=hown'.kept (B3 w8 g7 _) (Ev hown' hb8 (by decide));have hK2:Kp w4.heap.size (W1.alloc (.cells #[.slice av x.length cv] 22)) w8:=Kp.grown hgrow fun k e=>by
      obtain ⟨h1,cs,fr,h2⟩:=Acp (hrow.alloc (.cells #[.slice av x.length cv] 22)) k e;exact ⟨by rw [HG7.out];exact h1,cs,fr,.inl h2⟩
     have hK3:Kp w4.heap.size w8 (w8.setRow g7 #[nv]):=Kp.grown (B3 w8 g7 _) fun k e=>by
      cases e
      exact ⟨Nat.le_of_eq HG7.out,_,_,.inr hb8⟩
     have hK19:=((Kp.of_ext (B:=w4.heap.size) ((Ext.refl W1).alloc (.cells #[.slice av x.length cv] 22))).trans hK2).trans hK3;have hlen:(Ck d.has n++(pre++[x])).length=L+1:=by rw [← List.append_assoc,List.length_append,HLL.out];rfl
     rw [hsc];refine ⟨hK19,⟨nv,vs++[.slice av x.length cv],hb9,by rw [hlen];exact hrow9,by rw [hlen,List.length_append,hvl];rfl,fun i hi=>?_⟩,hK19.ext hE1 (Nat.le_refl _),hK71.trans hK19⟩;rw [hlen] at hi;rw [← List.append_assoc];by_cases hiL:i<L
     ·rw [Bi _ _ _ _ (by rw [hvl];exact hiL),Bi _ _ _ _ (by rw [HLL.out];exact hiL)];exact (HWV.out i hiL).kp hK19
     ·obtain rfl:i=L:=by omega
      have e1:(vs++[Value.slice av x.length cv]).getD i undef=.slice av x.length cv:=by rw [← hvl];exact Bw _ _ _
      have e2:(Ck d.has n++pre++[x]).getD i []=x:=by rw [← HLL.out];exact Bw _ _ _
      rw [e1,e2];exact HV1.out.kp hK19
    case done=>
     rintro D W1 hD ⟨hO1,hE1,hK71⟩ hDd;have hMx:=HM7.out.cons hK71 (by omega) hD hDd;have hOx:OutI W1 g7 g7 (Ck d.has (n+1)):=by rw [Aer];exact hO1
     have hcx:Df d.has (n+1)≤4096:=by rw [V1,HCT.out,← HQC.out];omega
     clear hO1 hDd;go_wp2;refine ⟨⟨n+1,_,_,_,_,_,_,_,_,_,_,_,_,_,_,_,_,_,_,_,_,_,_,_,_,_,_,_,_,_,_,_,_,_,_,_,_,_,_,_,_,_,_,_,_,by omega,hOx,hcx,hE1,hMx,rfl⟩,?_⟩;simp [intOf];omega
  ·obtain rfl:n=N+1:=by omega
   obtain ⟨vo,vs,hb7,hrow,hvl,hwv⟩:=hO;obtain ⟨ao,cpo,rfl⟩:=Ew hrow;have c7:=hb7.cell;have hltI:¬ ((N:Int)+1<(N:Int)+1):=by omega
   have HI:=Lib.hid (And.intro (HE4.out.trans hE) (And.intro hrow (And.intro hvl hwv)));have HCU:=Lib.hid hcu;clear hrow hvl hwv hcu;go_wp2;refine Ox (fun W'=>Ext w W'∧W'.ownsRow g7 22 1 (.slice ao (Ck d.has (N+1)).length cpo) (Ck d.has (N+1)).length vs∧vs.length=(Ck d.has (N+1)).length∧∀ i,i<(Ck d.has (N+1)).length→WordV W' (vs.getD i undef) ((Ck d.has (N+1)).getD i []))
    (fun W' l o o' h hB hl hc=>⟨h.1.putObj (Nat.le_trans HE4.out.size (by rw [HG7.out];exact hB)) o',ownsRow_putObj h.2.1 o' hl hc,h.2.2.1,fun i hi=>(h.2.2.2 i hi).put o' hl hc⟩)
    (fun W' h=>⟨_,results_tmp2 rfl _ _ _,h.1,.inl ⟨HCU.out,_,rfl,vs,h.2.2.1,Oa h.2.1,h.2.2.2⟩⟩) ds wr HM.out HI.out
def J5 (c:Nat):Ending:=if c≤1099511627776 then .returned (.tuple #[.int .i64 c,.int .i64 0]) else .returned (.tuple #[.int .i64 0,.int .i64 2])
set_option maxHeartbeats 1000000 in
theorem Pq (d:Dfa) (hv:Val d) (hn:d.nxt.length≤64) (N:Nat) (hN:N≤64) (v:Value) (w:World) (h:IsD w v d) :
  Calls Tryz.prog 20 #[v,iv N] w fun e w'=>e=J5 (Bp d.has N)∧Ext w w':=by
 have HD:=Lib.hid h;obtain ⟨ac,lc,cc,an,cn,aa,la,ca,rfl⟩:=h.agg;have f47:=fun W (hW:Ext w W)=>Lib.hid (Dr d hv hn _ W (HD.out.ext hW))
 have f62:=fun W (hW:Ext w W)=>Lib.hid (Vu d hv hn N hN _ W (HD.out.ext hW))
 have hcd:=Lib.hid (show Bq d N 0=Bp d.has N from Lx hv N 0 hv.pos);have hn0:=hv.pos;obtain ⟨Va,hVa⟩:∃ X,dA (.slice ac lc cc) (.slice an d.nxt.length cn) (.slice aa la ca)=X:=⟨_,rfl⟩;have hiVa:(Tryz.prog.info? 30).map (·.size)=some Va.size:=by rw [← hVa];exact Ad
 rw [hVa] at f47 f62 HD;rw [hVa];have hE0:=(Ext.refl w).alloc (.cells Va 30);have H1:=Ab w (.cells Va 30);clear h hVa hv;go_enter Tryz.func20,Tryz.ntmps20;go_upto_region 1 with (fail)
 obtain ⟨w1,hw1⟩:∃ W,w.alloc (.cells Va 30)=W:=⟨_,rfl⟩;rw [hw1] at hE0 H1;simp only [hw1];clear hw1;have HB1:=Lib.hid H1;clear H1;have hb0:¬ ((N:Int)<0):=by omega
 have hb1:¬ ((64:Int)<(N:Int)):=by omega
 go_upto_region 3 with (first
  | (refine wpList_load_row rfl 30 (.tmp 2) rfl _ rfl _ _ _ _ HB1.out Tryz.underlying30 rfl hiVa ?_)
  | (go_at_call 47;(with_reducible refine (f47 _ hE0).out.mono ?_);rintro e w2 ⟨rfl,hE2⟩;have hE3:=hE0.trans hE2;have HB1:=Lib.hid (hE2.heap HB1.out)))
 go_upto_region 4 with (first
  | (refine wpList_load_row rfl 30 (.tmp 2) rfl _ rfl _ _ _ _ HB1.out Tryz.underlying30 rfl hiVa ?_)
  | (go_at_call 62;(with_reducible refine (f62 _ hE3).out.mono ?_);rintro e w4 ⟨g,rfl,hC,hE4⟩;obtain ⟨gi,hc1,hc2⟩:=hC N (Nat.le_refl _);have hc3:=hc2 0 hn0;rw [hcd.out] at hc3;have HE4:=Lib.hid (hE3.trans hE4);clear hC hc2))
 clear hc1 hc3 hE3 hE2 hE0 f47 f62;have hs:=Nd (Bp d.has N);obtain ⟨c,hc⟩:∃ c,Bp d.has N=c:=⟨_,rfl⟩;rw [hc] at hs ⊢;have HCc:=Lib.hid hc;clear hc hcd;have hsc:c≤1099511627776→sat c=c:=fun h=>by unfold sat;omega
 have hsd:¬ c≤1099511627776→1099511627776<sat c:=fun h=>by unfold sat;omega
 by_cases hle:c≤1099511627776
 ·rw [hsc hle];have hb2:¬ ((1099511627776:Int)<(c:Int)):=by omega
  clear hs hsc hsd;go_wp2;go_ret2;exact ⟨by rw [HCc.out];unfold J5;rw [if_pos hle];rfl,HE4.out⟩
 ·have hb2:=hsd hle;clear hsc hsd;generalize sat c=y at *;have hb3:(1099511627776:Int)<(y:Int):=by omega
  clear hb2;go_wp2;go_ret2;exact ⟨by rw [HCc.out];unfold J5;rw [if_neg hle];rfl,HE4.out⟩
theorem L4 (W:World) (l:List UInt8) (fr:Nat × Nat) (hl:l.length≤1000000):By (W.alloc (.cells (l.map bv).toArray 5 fr)) (.slice (some ⟨W.heap.size,0,none⟩) l.length l.length) l:=by
 refine ⟨by omega,?_⟩;by_cases h0:l.length=0
 ·exact .inl ⟨h0,_,_,by rw [h0]⟩
 ·refine .inr ⟨by omega,W.heap.size,0,l.length,rfl,by simp,fun i hi=>?_⟩;rw [Nat.zero_add,cell_of_row _ _ _ _ 5 fr (Ab W _)];have hi':i<l.length:=by omega
  simp [List.getD_eq_getElem?_getD,hi']
theorem Td (l:List UInt8) (hl:l.length≤1000000) (fr:Nat × Nat) (W:World) (C:Array Value) (hC:C=(l.map bv).toArray) (n:Nat) (hn:n=l.length) (c:Cls) (hc:ofL l=c) :
  Calls Tryz.prog 44 #[.slice (some ⟨W.heap.size,0,none⟩) n n] (W.alloc (.cells C 5 fr)) fun e w'=>e=.returned (.agg (Aa c))∧Ext W w':=by
 subst hC hn hc;exact (Te l _ _ (L4 W l fr hl)).mono fun e w' h=>⟨h.1,((Ext.refl W).alloc _).trans h.2⟩
theorem Adf (l:List UInt8):∀ (k:Nat),k≤l.length→∀ x:UInt8,(ofL (l.take k)).getLsbD x.toNat=true↔x∈l.take k:=by
 intro k;induction k with
 | zero=>intro _ x;simp [ofL]
 | succ k ih=>
  intro hk x;have hlt:k<l.length:=by omega
  rw [Tf l k hlt,List.take_succ_eq_append_getElem hlt,List.mem_append,List.mem_singleton,← ih (by omega) x];have e:l.getD k 0=l[k]:=by rw [List.getD_eq_getElem?_getD,List.getElem?_eq_getElem hlt];rfl
  rw [e];generalize l[k]=y;have h1:=x.toNat_lt;have h2:=y.toNat_lt;rw [Jc _ y.toNat x.toNat h2,Bool.or_eq_true,decide_eq_true_eq];constructor
  ·rintro (h|h)
   ·exact .inl h
   ·exact .inr (UInt8.toNat_inj.1 (by omega))
  ·rintro (h|rfl)
   ·exact .inl h
   ·exact .inr (by omega)
theorem Og (l:List UInt8) (x:UInt8):(ofL l).getLsbD x.toNat=true↔x∈l:=by
 have:=Adf l l.length (Nat.le_refl _) x
 rwa [List.take_length] at this
def flR (ns:List RNode):List Value:=ns.flatMap fun n=>(rnC n).toList
theorem U0 (ns:List RNode):(flR ns).length=ns.length*9:=by
 induction ns with
 | nil=>rfl
 | cons x l ih=>
  have e:flR (x::l)=(rnC x).toList++flR l:=rfl;rw [e,List.length_append,ih,List.length_cons];have:(rnC x).toList.length=9:=rfl;omega
theorem Pf (ns:List RNode) (i j:Nat) (hi:i<ns.length) (hj:j<9):(flR ns)[i*9+j]? = (rnC (ns.getD i ⟨0,0,0,0#256,0,0⟩)).toList[j]? := by
 induction ns generalizing i with
 | nil=>simp at hi
 | cons x l ih=>
  have e:flR (x::l)=(rnC x).toList++flR l:=rfl;have hl:(rnC x).toList.length=9:=rfl;rw [e];cases i with
  | zero=>rw [List.getElem?_append_left (by omega)];simp
  | succ i=>
   rw [List.getElem?_append_right (by omega),hl,show (i+1)*9+j-9=i*9+j by omega];exact ih i (by simpa using hi)
theorem Cv {W:World} {g:Nat} {fr:Nat × Nat} {ns:List RNode} (h:W.heap[g]? = some (.cells (flR ns).toArray 64 fr)):RxAt W g 0 ns:=fun i hi j v hj=>by
 have hj9:j<9:=(List.getElem?_eq_some_iff.1 hj).1;rw [show 0+i*9+j=i*9+j by omega,cell_of_row W g _ _ _ _ h,List.getElem?_toArray,Pf ns i j hi hj9];exact hj
theorem O8:(Tryz.prog.info? 64).map (fun i=>(i.zero,i.size,i.bytes))=some (some (.agg #[.int .i64 0,.int .u64 0,.int .u64 0,.int .u64 0,.int .u64 0,.int .i64 0,.int .i64 0,.int .i64 0,.int .i64 0]),9,72):=by kernel_rfl
theorem Cb {ops:Array Oper} {rest:List Oper} {o:Oper} {a:Act} {w:World} {Q:Exit→Act→World→Prop} (hg:o.guard=none) (ns:List RNode) (n:Nat) (hn:n=ns.length) (h0:0<ns.length) (h1:ns.length≤100) (parts:Array (Nat × Operand)) (ho:o.op=.buildSlice 53 n parts)
  (hp:(parts.map fun (i,x)=>(i,a.eval x)).toList=((ns.map fun n=>Value.agg (rnC n)).zipIdx 0).map fun x=>(x.2,x.1))
  (h:wpList Tryz.prog ops Q rest (a.put o.dst (.slice (some ⟨w.heap.size,0,none⟩) n n)) (w.alloc (.cells (flR ns).toArray 64))):wpList Tryz.prog ops Q (o::rest) a w:=by
 subst hn;obtain ⟨i,hi,hz,hs,hb⟩:=info_parts O8;refine wpList_buildSlice hg 53 64 ns.length _ ho (flR ns).toArray i _ Tryz.underlying53 hi hz (by rw [hs];omega) (by rw [hs];omega) ?_ h;rw [hp,hs];obtain ⟨r,q1,q2,q3⟩:=Great.fill_dense (s:=9) (by omega) (ns.map fun n=>Value.agg (rnC n)) 0 ((Array.range (ns.length*9)).map ((Value.agg #[.int .i64 0,.int .u64 0,.int .u64 0,.int .u64 0,.int .u64 0,.int .i64 0,.int .i64 0,.int .i64 0,.int .i64 0]).cells[· % (Value.agg #[.int .i64 0,.int .u64 0,.int .u64 0,.int .u64 0,.int .u64 0,.int .i64 0,.int .i64 0,.int .i64 0,.int .i64 0]).cells.size]!)) (fun v hv=>by
  obtain ⟨n,_,rfl⟩:=List.mem_map.1 hv;rfl) (by simp)
 rw [q1]
 congr 1
 apply Array.ext_getElem?;intro k;rw [q3];by_cases hk:k<ns.length*9
 ·rw [if_pos (by simp;omega)];have hk9:k / 9<ns.length:=by omega
  have e1:(ns.map fun n=>Value.agg (rnC n))[k / 9-0]? = some (.agg (rnC (ns.getD (k / 9) ⟨0,0,0,0#256,0,0⟩))):=by
   rw [Nat.sub_zero,List.getElem?_map,List.getElem?_eq_getElem hk9,List.getD_eq_getElem?_getD,List.getElem?_eq_getElem hk9];rfl
  rw [e1];have e2:=Pf ns (k / 9) (k % 9) hk9 (by omega);rw [show k / 9*9+k % 9=k by omega] at e2;refine Eq.trans ?_ (Eq.trans e2.symm (List.getElem?_toArray ..).symm);simp [Value.cells]
 ·rw [if_neg (by simp;omega),Array.getElem?_eq_none (by simp;omega)];refine (Eq.trans (List.getElem?_toArray ..) (List.getElem?_eq_none (by rw [U0];omega))).symm
theorem Dx {w':World} {A:Array Value} {d:Dfa} (hD:IsD w' (.agg A) d):Ext w' ((w'.alloc (.cells #[.slice none 0 0,.slice none 0 0,.slice none 0 0] 30)).setRow w'.heap.size A)∧
  ((w'.alloc (.cells #[.slice none 0 0,.slice none 0 0,.slice none 0 0] 30)).setRow w'.heap.size A).heap[w'.heap.size]? = some (.cells A 30 (0,0))∧IsD ((w'.alloc (.cells #[.slice none 0 0,.slice none 0 0,.slice none 0 0] 30)).setRow w'.heap.size A) (.agg A) d:=by
 have hE:=((Ext.refl w').alloc (.cells #[.slice none 0 0,.slice none 0 0,.slice none 0 0] 30)).setRow (Nat.le_refl w'.heap.size) A;exact ⟨hE,setRow_heap _ _ _ _ _ _ (Ab w' _),hD.ext hE⟩
theorem Aja {L:List UInt8→Prop} (f:List UInt8→Nat × Nat) (n m:Nat) (hf:∀ w w',f w=f w'→∀ u,L (w++u)↔L (w'++u)) (hb:∀ w,(f w).1<n∧(f w).2<m) (hnm:n*m≤64):¬ Big L:=by
 rintro ⟨U,h1,h2⟩;have hn:(U.map f).Nodup:=by
  rw [List.nodup_iff_pairwise_ne,List.pairwise_map];exact h2.imp fun {u v} ⟨x,hx⟩ e=>hx (hf u v e x)
 have:=Db (U.map f) (box n m) hn fun s hs=>by
  obtain ⟨u,_,rfl⟩:=List.mem_map.1 hs;exact Jt (hb u).1 (hb u).2
 rw [List.length_map,Ju] at this;omega
theorem Z6 {a:Dfa} {r:Option Dfa} (h:Xm a r) (ha:Fit a (fun w=>w=[97,98]∨w=[97,98,99])):∃ d,r=some d∧Fit d (fun w=>w=[98,97]∨w=[99,98,97]):=by
 have hle:=F5 ha;obtain ⟨x,hx,ex,h1,h2⟩:=h;obtain rfl:=Eo hx ha.1 ex;have hl:=h2 (Aa1 hx.val (by omega) 4096 (Gy x.nxt.length) (fun w=>Xb _ _ (by simp)) (by rw [Xc];exact Nat.le_trans (Nat.pow_le_pow_right (by omega) (Nat.le_trans hle (show 5≤12 by omega))) (by decide)));have e:∀ w:List UInt8,x.has w.reverse=true↔w=[98,97]∨w=[99,98,97]:=fun w=>by
  rw [ha.2];show (w.reverse=[97,98]∨w.reverse=[97,98,99])↔_;have e1:∀ v:List UInt8,w.reverse=v↔w=v.reverse:=fun v=>by
   constructor
   ·rintro rfl;simp
   ·rintro rfl;simp
  rw [e1,e1];rfl
 have hl:=T4 hl e;cases r with
 | some d=>exact ⟨d,rfl,hl.1,hl.2.1⟩
 | none=>
  refine absurd (show Big (fun w=>w=[98,97]∨w=[99,98,97]) from hl) (Aja (fun w=>((Cc [98,97]).run 0 w,(Cc [99,98,97]).run 0 w)) 4 5 (fun w w' hw u=>?_) (fun w=>⟨?_,?_⟩) (by omega))
  ·injection hw with h3 h4
   rw [← Er [98,97] (w++u),← Er [98,97] (w'++u),← Er [99,98,97] (w++u),← Er [99,98,97] (w'++u)];unfold Tbl.has;rw [Cz,Cz,Cz,Cz,h3,h4]
  ·have:=(Ep [98,97]).run_lt w (Ep [98,97]).pos
   rwa [D9] at this
  ·have:=(Ep [99,98,97]).run_lt w (Ep [99,98,97]).pos
   rwa [D9] at this
theorem Ac0 (k:Nat) (hk:1≤k) (hk8:k≤8) (w:World):Calls Tryz.prog 84 #[iv k] w fun e w'=>e=.returned (iv (arK k))∧w'=w:=by
 have hcase:k=1∨k=2∨k=3∨k=4∨k=5∨k=6∨k=7∨k=8:=by omega
 rcases hcase with rfl|rfl|rfl|rfl|rfl|rfl|rfl|rfl<;>
 ·go_enter Tryz.func84,Tryz.ntmps84;go_wp2;go_ret;exact ⟨rfl,rfl⟩
def RxV (W:World) (v:Value) (xs:List RNode):Prop:=∃ b o c,v=.slice (some ⟨b,o,none⟩) xs.length c∧RxAt W b o xs
theorem RxV.ext {W W':World} {v:Value} {xs:List RNode} (h:RxV W v xs) (hE:Ext W W'):RxV W' v xs:=by
 obtain ⟨b,o,c,rfl,h⟩:=h;exact ⟨b,o,c,rfl,h.ext hE⟩
theorem Gp (l m:List RNode):flR (l++m)=flR l++flR m:=by simp [flR]
theorem Fz (x:RNode):flR [x]=(rnC x).toList:=by simp [flR]
theorem Ff (x:RNode):(flR [x]).toArray=rnC x:=by rw [Fz]
theorem R9 {W:World} {base g c n:Nat} {l:List RNode} (h:W.ownsRow base 64 9 (.slice (some ⟨g,0,none⟩) n c) n (flR l)):RxAt W g 0 l:=fun i hi j v hj=>by
 have hj9:j<9:=(List.getElem?_eq_some_iff.1 hj).1;have hn:=h.1;rw [U0] at hn;have:=h.cellAt (i*9+j) (by omega);rw [Nat.zero_add,this,Pf l i j hi hj9];exact hj
theorem Ge (n:RNode):∀ u∈(rnC n).toList,u.oneCell'=true:=by simp [rnC,rnA,Value.oneCell']
theorem Lb (w:World) (e:TypeId) (size:Nat):World.ownsRow (w.alloc (.cells #[] e)) w.heap.size e size (.slice (some ⟨w.heap.size,0,none⟩) 0 0) 0 []:=World.ownsRow_lit (base:=w.heap.size) (e:=e) (size:=size) w #[] 0 (Nat.le_refl _) (by unfold maxLen;omega) (by simp)
theorem Gi (W:World) (m:RNode):∀ j u,(rnC m).toList[j]? = some u→(W.alloc (.cells (rnC m) 64)).cell? ((⟨W.heap.size,0,none⟩:Addr).add j)=some u:=World.news_of_block (Ab W (.cells (rnC m) 64))
theorem Gf (m:RNode):(rnC m).toList.length=1*9:=rfl
theorem Mp (xs:List RNode) (N:Nat) (h:xs.length=N):xs.take N=xs:=by rw [← h];exact List.take_length
set_option maxHeartbeats 400000 in
theorem X6 (xs:List RNode) (hl:xs.length≤8388608) (n:RNode) (v:Value) (w:World) (h:RxV w v xs) :
  Calls Tryz.prog 88 #[v,.agg (rnC n)] w fun e w'=>(∃ v',e=.returned v'∧RxV w' v' (xs++[n]))∧Ext w w':=by
 obtain ⟨i0,hi,hz0,hz1,hz2⟩:=info_parts O8;obtain ⟨b,o,cap,rfl,hR⟩:=h;have HR:=Lib.hid hR;have hE0:=((Ext.refl w).alloc (.cells (rnC n) 64)).alloc (.cells #[] 64);have H3:=Af (Ab w (.cells (rnC n) 64)) (.cells #[] 64);have hO0:=Lb (w.alloc (.cells (rnC n) 64)) 64 9;rw [World.size_alloc] at hO0;obtain ⟨N,hN⟩:∃ N,xs.length=N:=⟨_,rfl⟩;have HN:=Lib.hid hN;rw [hN] at hl;simp only [hN];clear hN hR;go_enter Tryz.func88,Tryz.ntmps88;go_upto_region 2 with (fail)
 obtain ⟨w1,hw1⟩:∃ W,(w.alloc (.cells (rnC n) 64)).alloc (.cells #[] 64)=W:=⟨_,rfl⟩;rw [hw1] at hE0 H3 hO0;simp only [hw1];clear hw1;go_wp2_with (fail);go_loopw [5,6] (fun vx vi W=>∃ (i g c:Nat),i≤N∧vx=.slice (some ⟨g,0,none⟩) i c∧vi=.int .i64 i∧Ext w W∧Hid (W.heap[w.heap.size]? = some (.cells (rnC n) 64 (0,0)))∧W.ownsRow (w.heap.size+1) 64 9 (.slice (some ⟨g,0,none⟩) i c) i (flR (xs.take i)))
  (fun _ vi _=>N-(intOf vi).toNat)
 case atStart=>exact ⟨0,_,_,by omega,rfl,rfl,hE0,Lib.hid H3,hO0⟩
 case round=>
  clear hE0 hO0 H3;obtain ⟨i,g,c,hiN,rfl,rfl,hE,HX,hO⟩:=hrel;have hsz:=hE.size;have hlt0:=Ak HX.out;by_cases hlt:i<N
  ·have hltI:(i:Int)<(N:Int):=by omega
   have hrange:=(HR.out.ext hE) i (by rw [HN.out];exact hlt);have htk:=Lib.hid (Kd xs i (by rw [HN.out];exact hlt));obtain ⟨m,hm⟩:∃ m,xs.getD i ⟨0,0,0,0#256,0,0⟩=m:=⟨_,rfl⟩;rw [hm] at hrange htk;clear hm;go_upto_region 4 with (first
    | (refine wpList_load_mid rfl 64 (.tmp 17) rfl b (o+i*9) rfl _ _ hrange Tryz.underlying64 rfl (Iy m) ?_)
    | (refine Cb rfl [m] 1 rfl (by simp) (by simp) _ rfl (by go_simp) ?_;rw [Ff])
    | (at_builtin;refine wpList_append_lies _ rfl _ _ 53 rfl (w.heap.size+1) 64 i0 (.agg Br) 9 72 Tryz.underlying53 hi hz0 hz1 hz2 rfl (by decide) _ _ _ rfl (hO.alloc _) _ 1 1 (rnC m).toList rfl (Gf m) (Gi wr m) (Ge m) (by decide) (by unfold maxLen;omega) (by omega) (by simp;omega) _ rfl ?_;intro g7 c7 w7 hO7 hgr7 _ _))
   have hE7:=(hE.alloc (.cells (rnC m) 64)).grown hgr7 (fun k e=>by have:=(hO.lt k e).1;omega);have HX7:=Lib.hid ((hgr7.block w.heap.size (by rw [World.size_alloc];omega) (fun e=>by have:=(hO.lt _ e.symm).1;omega)).trans (Af HX.out (.cells (rnC m) 64)));have hO8:w7.ownsRow (w.heap.size+1) 64 9 (.slice (some ⟨g7,0,none⟩) (i+1) c7) (i+1) (flR (xs.take (i+1))):=by
    rw [htk.out,Gp,Fz];exact hO7
   clear hO7 hgr7 hrange;go_wp2;go_roundw
   case rel=>exact ⟨i+1,g7,c7,by omega,rfl,by go_num,hE7,HX7,hO8⟩
   case measure=>simp [intOf];omega
  ·obtain rfl:N=i:=by omega
   rw [Mp xs N HN.out] at hO;have HB:=Lib.hid HX.out;go_wp2_with (first
    | (refine wpList_load_row rfl 64 (.tmp 3) rfl _ rfl _ _ _ _ HB.out Tryz.underlying64 rfl (Et n) ?_)
    | (refine Cb rfl [n] 1 rfl (by simp) (by simp) _ rfl (by go_simp) ?_;rw [Ff])
    | (at_builtin;refine wpList_append_lies _ rfl _ _ 53 rfl (w.heap.size+1) 64 i0 (.agg Br) 9 72 Tryz.underlying53 hi hz0 hz1 hz2 rfl (by decide) _ _ _ rfl (hO.alloc _) _ 1 1 (rnC n).toList rfl (Gf n) (Gi wr n) (Ge n) (by decide) (by unfold maxLen;omega) (by omega) (by simp;omega) _ rfl ?_;intro g7 c7 w7 hO7 hgr7 _ _))
   have hE7:=(hE.alloc (.cells (rnC n) 64)).grown hgr7 (fun k e=>by have:=(hO.lt k e).1;omega);go_ret;have hrx:RxAt w7 g7 0 (xs++[n]):=R9 (by rw [Gp,Fz];exact hO7);exact ⟨⟨_,rfl,g7,0,c7,by rw [List.length_append,HN.out];rfl,hrx⟩,hE7⟩
end Go.Proofs.YtaiogolidlamiaaGreatDoor
