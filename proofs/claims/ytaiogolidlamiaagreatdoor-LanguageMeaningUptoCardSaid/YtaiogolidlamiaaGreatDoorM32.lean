import Derived.Test.YtaiogolidlamiaaGreatDoorM23
import Derived.Test.YtaiogolidlamiaaGreatDoorM20
import Derived.Test.YtaiogolidlamiaaGreatDoorM04
set_option linter.unusedVariables false
set_option linter.unusedSimpArgs false
namespace Go.Proofs.YtaiogolidlamiaaGreatDoor
set_option maxRecDepth 100000
open Go.RowKit Go.Shelf
def CntT (W:World) (g:Nat) (d:Dfa) (N:Nat):Prop:=∀ i,i≤N→∃ gi,W.cell? ⟨g,i,none⟩=some (.slice (some ⟨gi,0,none⟩) d.nxt.length d.nxt.length)∧∀ s,s<d.nxt.length→W.cell? ⟨gi,s,none⟩=some (iv (sat (Bq d i s)))
theorem CntT.ext {W W':World} {g:Nat} {d:Dfa} {N:Nat} (h:CntT W g d N) (hE:Ext W W'):CntT W' g d N:=fun i hi=>by
 obtain ⟨gi,h1,h2⟩:=h i hi;exact ⟨gi,hE.cell h1,fun s hs=>hE.cell (h2 s hs)⟩
theorem Ur {l:List Value} {k:Nat} {v:Value} (hk:k<l.length) (h:l.getD k undef=v):l[k]? = some v:=by
 rw [← h,List.getD_eq_getElem?_getD,List.getElem?_eq_getElem hk];rfl
theorem Ags (f:Nat→Nat) (m k:Nat) (h:f k=0):Bo f m k=Bo f m (k+1):=by
 unfold Bo;refine List.map_congr_left fun q _=>?_
 by_cases e:q=k
 ·subst e;simp [h]
 ·by_cases h1:q<k
  ·rw [if_pos h1,if_pos (by omega)]
  ·rw [if_neg h1,if_neg (by omega)]
theorem Agt (f:Nat→Nat) (m k:Nat):(Bo f m k).set k 0=Bo f m k:=by
 apply List.ext_getElem?;intro i;rw [List.getElem?_set,C4];by_cases e:k=i
 ·subst e;by_cases hk:k<m
  ·simp [Bo,hk]
  ·simp [Bo,hk]
 ·simp [e]
set_option maxHeartbeats 4000000 in
theorem Vu (d:Dfa) (hv:Val d) (hn:d.nxt.length≤64) (N:Nat) (hN:N≤64) (v:Value) (w:World) (h:IsD w v d) :
  Calls Tryz.prog 62 #[v,iv N] w fun e w'=>∃ g,e=.returned (.slice (some ⟨g,0,none⟩) (N+1) (N+1))∧CntT w' g d N∧Ext w w':=by
 obtain ⟨bc,oc,cc,bn,on,cn,ba,oa,ca,rfl,hC,hR,hacc⟩:=h.opened hv;obtain ⟨bc',oc',cc',hcc,hcl⟩:=Sl.form hC hv.parts.pos;injection hcc with e1 e2 e3
 injection e1 with e1
 injection e1 with e1 e4
 subst e1 e4 e3;have HV:=Lib.hid hv;have HCL:=Lib.hid hcl;have HR:=Lib.hid hR;have HACC:=Lib.hid hacc;have hm0:=hv.parts.pos;have hm1:=hv.parts.le;have hn0:=hv.pos;obtain ⟨i0,hi,hz0,hz1,hz2⟩:=info_parts Dm;obtain ⟨k0,hk,hx0,hx1,hx2⟩:=info_parts Lk;obtain ⟨Va,hVa⟩:∃ X,dA (.slice (some ⟨bc,oc,none⟩) d.cls.length cc) (.slice (some ⟨bn,on,none⟩) d.nxt.length cn) (.slice (some ⟨ba,oa,none⟩) d.nxt.length ca)=X:=⟨_,rfl⟩;rw [hVa];have hE0:=(Ext.refl w).alloc (.cells Va 30);have H2:=Ab w (.cells Va 30);have HK0:=Lib.hid (fun (W:World) (hW:Ext (w.alloc (.cells Va 30)) W)=>(cell_of_row W w.heap.size 0 _ _ _ (hW.heap H2)).trans (show Va[0]? = some (.slice (some ⟨bc,oc,none⟩) d.cls.length cc) by rw [← hVa];rfl));have HK1:=Lib.hid (fun (W:World) (hW:Ext (w.alloc (.cells Va 30)) W)=>(cell_of_row W w.heap.size 1 _ _ _ (hW.heap H2)).trans (show Va[1]? = some (.slice (some ⟨bn,on,none⟩) d.nxt.length cn) by rw [← hVa];rfl));have HK2:=Lib.hid (fun (W:World) (hW:Ext (w.alloc (.cells Va 30)) W)=>(cell_of_row W w.heap.size 2 _ _ _ (hW.heap H2)).trans (show Va[2]? = some (.slice (some ⟨ba,oa,none⟩) d.nxt.length ca) by rw [← hVa];rfl));clear hC hcl hR hacc hv hVa H2 h;go_enter Tryz.func62,Tryz.ntmps62;go_upto_region 1 with (fail)
 generalize w.alloc (.cells Va 30)=w1 at *;go_upto_region 2 with (at_make;refine wpList_make_full _ rfl _ _ 27 rfl w1.heap.size 68 k0 (.slice none 0 0) 1 Tryz.underlying27 hk hx0 hx1 .i64 .i64 _ _ (N+1) rfl rfl (by push_cast;rfl) (by push_cast;rfl) (by rw [hx2];omega) (by unfold maxLen;omega) (Nat.le_refl _) ?_;intro w2 hown2 hgrow2)
 have hE2:Ext w1 w2:=(Ext.refl w1).grown hgrow2 (fun k e=>by cases e);have hO2:w2.ownsRow w1.heap.size 68 1 (.slice (some ⟨w1.heap.size,0,none⟩) (N+1) (N+1)) (N+1) (List.replicate (N+1) (.slice none 0 0)):=by
  have:(madeCells (Value.slice none 0 0).cells ((N+1)*1)).toList=List.replicate (N+1) (.slice none 0 0):=by
   rw [Nat.mul_one];exact toList_madeCells_one _ _
  rw [← this];exact hown2
 have hs2:w1.heap.size<w2.heap.size:=(hO2.lt _ rfl).2;clear hown2 hgrow2;generalize hgs:w1.heap.size=gs at *;have HGS:=Lib.hid hgs;clear hgs;go_wp2_with (fail);go_loopw [15] (fun vi W=>∃ (i:Nat) (I:Int) (OX:List Value),i≤N+1∧vi=.int .i64 I∧Hid (I=(i:Int))∧Ext w1 W∧gs<W.heap.size∧Hid (OX.length=N+1)∧
   W.ownsRow gs 68 1 (.slice (some ⟨gs,0,none⟩) (N+1) (N+1)) (N+1) OX∧
   Hid (∀ i',i'<i→∃ gq,OX.getD i' undef=.slice (some ⟨gq,0,none⟩) d.nxt.length d.nxt.length∧W.ownsRow gs 3 1 (.slice (some ⟨gq,0,none⟩) d.nxt.length d.nxt.length) d.nxt.length (((List.range d.nxt.length).map fun s=>sat (Bq d i' s)).map iv)))
  (fun vi _=>N+1-(intOf vi).toNat)
 case atStart=>exact ⟨0,0,_,by omega,rfl,Lib.hid rfl,hE2,hs2,Lib.hid (by simp),hO2,Lib.hid (fun i' h=>by omega)⟩
 case round=>
  clear hE2 hs2 hO2;obtain ⟨i,I,OX,hiN,rfl,HI,hE,hsz,HL,hO,HQ⟩:=hrel;have hI0:0≤I:=by rw [HI.out];omega
  by_cases hlt:i<N+1
  ·have hIN:I<(N:Int)+1:=by have:=HI.out;omega
   have hIt:I.toNat=i:=by rw [HI.out];omega
   have k1:=HK1.out wr hE;have hgs1:w1.heap.size≤gs:=Nat.le_of_eq HGS.out;obtain ⟨wo,hwo⟩:∃ W,W=wr:=⟨_,rfl⟩;subst hwo;have hcO:=hO.cellAt i (by omega);rw [List.getElem?_eq_getElem (by rw [HL.out];exact hlt)] at hcO;obtain ⟨uo,huo⟩:∃ u,OX[i]'(by rw [HL.out];exact hlt)=u:=⟨_,rfl⟩;rw [huo] at hcO;clear huo;have hfO:=hO.frozenAt i;go_upto_region 6 with (at_make;refine wpList_make_full _ rfl _ _ 68 rfl wo.heap.size 3 i0 (.int .i64 0) 1 Tryz.underlying68 hi hz0 hz1 .i64 .i64 _ _ d.nxt.length rfl rfl rfl rfl (by rw [hz2];omega) (by unfold maxLen;omega) (Nat.le_refl _) ?_;intro w3 hown3 hgrow3;have hcO:=(hgrow3.cell_far ⟨gs,i,none⟩ hsz (by simp)).trans hcO;have hfO:=(hgrow3.frozen_far ⟨gs,i,none⟩ hsz (by simp)).trans hfO)
   have hO3:=Bt hO hgrow3;have hO4:=(hO3.stored i (.slice (some ⟨wo.heap.size,0,none⟩) d.nxt.length d.nxt.length)).1;have hgr4:=(hO3.stored i (.slice (some ⟨wo.heap.size,0,none⟩) d.nxt.length d.nxt.length)).2;have hX3:w3.ownsRow wo.heap.size 3 1 (.slice (some ⟨wo.heap.size,0,none⟩) d.nxt.length d.nxt.length) d.nxt.length ((Bo (fun s=>sat (Bq d i s)) d.nxt.length 0).map iv):=by rw [Jf,← Ca];exact hown3
   have hX4:=hX3.kept hgr4 (Ai hX3 hO3 (by decide));have hE4:=(hE.grown hgrow3 (fun k e=>by cases e)).grown hgr4 (fun k e=>by cases e;exact hgs1);have HQ4:=Lib.hid (fun i' (hi':i'<i)=>by
    obtain ⟨gq,hq1,hq2⟩:=HQ.out i' hi';have h1:gq<wo.heap.size:=(hq2.lt gq rfl).2;have hq3:=Bt hq2 hgrow3;exact (⟨gq,hq1,hq3.kept hgr4 (Ai hq3 hO3 (by decide)),h1⟩:∃ gq,OX.getD i' undef=.slice (some ⟨gq,0,none⟩) d.nxt.length d.nxt.length∧(w3.setCell ⟨gs,i,none⟩ (.slice (some ⟨wo.heap.size,0,none⟩) d.nxt.length d.nxt.length)).ownsRow gs 3 1 (.slice (some ⟨gq,0,none⟩) d.nxt.length d.nxt.length) d.nxt.length (((List.range d.nxt.length).map fun s=>sat (Bq d i' s)).map iv)∧gq<wo.heap.size))
   have hsz4:wo.heap.size<(w3.setCell ⟨gs,i,none⟩ (.slice (some ⟨wo.heap.size,0,none⟩) d.nxt.length d.nxt.length)).heap.size:=(hX4.lt _ rfl).2;obtain ⟨w4,hw4⟩:∃ W,w3.setCell ⟨gs,i,none⟩ (.slice (some ⟨wo.heap.size,0,none⟩) d.nxt.length d.nxt.length)=W:=⟨_,rfl⟩;rw [hw4] at hO4 hX4 hE4 HQ4 hsz4 hgr4;simp only [hw4];clear hw4 hO3 hX3 hown3 hgrow3 hgr4 hcO hfO k1 hO hE HQ;have HL4:Hid ((OX.set i (.slice (some ⟨wo.heap.size,0,none⟩) d.nxt.length d.nxt.length)).length=N+1∧(OX.set i (.slice (some ⟨wo.heap.size,0,none⟩) d.nxt.length d.nxt.length)).getD i undef=.slice (some ⟨wo.heap.size,0,none⟩) d.nxt.length d.nxt.length∧∀ i',i'≠i→(OX.set i (.slice (some ⟨wo.heap.size,0,none⟩) d.nxt.length d.nxt.length)).getD i' undef=OX.getD i' undef):=by
    refine Lib.hid ⟨by rw [List.length_set];exact HL.out,?_,fun i' hne=>?_⟩
    ·rw [A5 _ _ _ _ _ (by rw [HL.out];exact hlt),if_pos rfl]
    ·rw [A5 _ _ _ _ _ (by rw [HL.out];exact hlt),if_neg hne]
   generalize hgi:wo.heap.size=gi at *;have hgi1:gs<gi:=hsz;clear hgi;have k1:=HK1.out w4 hE4;go_upto_region 7 with (fail)
   clear k1;go_loopw [28] (fun vs W=>∃ s:Nat,s≤d.nxt.length∧vs=.int .i64 s∧w4.grownBy W (some gi)∧W.ownsRow gi 3 1 (.slice (some ⟨gi,0,none⟩) d.nxt.length d.nxt.length) d.nxt.length ((Bo (fun s=>sat (Bq d i s)) d.nxt.length s).map iv))
    (fun vs _=>d.nxt.length-(intOf vs).toNat)
   case atStart=>exact ⟨0,by omega,rfl,World.grownBy.refl _ _,hX4⟩
   case round=>
    obtain ⟨s,hs,rfl,hg,hX⟩:=hrel;have hE5:=hE4.grown hg (fun k e=>by cases e;exact Nat.le_trans hgs1 (Nat.le_of_lt hgi1));have hO5:=hO4.kept hg (Ai hO4 hX4 (by decide));have hcg:=hO5.cellAt;have hX0:=Ap 0 hX (C4 _ _ _).symm;by_cases hsl:s<d.nxt.length
    ·have HGi:Hid (wr.cell? ⟨gs,i,none⟩=some (.slice (some ⟨gi,0,none⟩) d.nxt.length d.nxt.length)):=Lib.hid (by
      rw [hcg i (by omega)];exact Ur (by rw [HL4.out.1];exact hlt) HL4.out.2.1)
     have HGj:Hid (∀ j,i=j+1→∃ gq,wr.cell? ⟨gs,j,none⟩=some (.slice (some ⟨gq,0,none⟩) d.nxt.length d.nxt.length)∧gq<gi∧∀ x,x<d.nxt.length→wr.cell? ⟨gq,x,none⟩=some (iv (sat (Bq d j x)))):=Lib.hid (fun j hj=>by
      obtain ⟨gq,q1,q2,q3⟩:=HQ4.out j (by omega);have q4:=q2.kept hg (.inr fun e=>by have:gq=gi:=Option.some.inj e;omega);refine ⟨gq,?_,q3,fun x hx=>?_⟩
      ·rw [hcg j (by omega)];exact Ur (by rw [HL4.out.1];omega) ((HL4.out.2.2 j (by omega)).trans q1)
      ·have:=Ap 0 q4 (by simp) x (by simpa using hx);rw [Cq _ _ _ _ hx] at this;exact this)
     have hXs:=hX0 s (by rw [C4];exact hsl);have hv0:(Bo (fun s=>sat (Bq d i s)) d.nxt.length s).getD s 0=0:=by
      unfold Bo;rw [Cq _ _ _ _ hsl,if_neg (Nat.lt_irrefl _)]
     have hfX:=hX.frozenAt s;clear hcg hX0;rcases i with _|j
     ·have hIz:(I==0)=true:=by rw [HI.out];rfl
      have k2:=HK2.out wr hE5;have ka:=((hE0.trans hE5).cell (HACC.out s hsl));have hf0:sat (Bq d 0 s)=if d.ok s then 1 else 0:=by unfold sat Bq;split<;>rfl
      obtain ⟨bo,hbo⟩:∃ b,d.ok s=b:=⟨_,rfl⟩;rw [hbo] at ka hf0;clear hbo;rw [hv0] at hXs;cases bo
      ·have hfs:=Ags (fun s=>sat (Bq d 0 s)) d.nxt.length s (by rw [hf0];rfl);rw [hfs] at hX;clear hfs hf0 hv0 hXs hfX;go_wp2;go_roundw
       case rel=>exact ⟨s+1,by omega,by go_num,hg,hX⟩
       case measure=>simp [intOf];omega
      ·obtain ⟨hXn,hgr⟩:=A3 hX s (sat (Bq d 0 s));rw [Gr (fun s=>sat (Bq d 0 s)) _ _ hsl] at hXn;rw [hf0] at hXn hgr;have hgn:=hg.trans hgr;have c0:=HGi.out;clear hf0 hv0 hgr;go_wp2;go_roundw
       case rel=>exact ⟨s+1,by omega,by go_num,hgn,hXn⟩
       case measure=>simp [intOf];omega
     ·obtain ⟨gq,hgq,hgqi,hgqx⟩:=HGj.out j rfl;have HGQ:=Lib.hid hgqx;have hcq:=hgq;have heq:(I==0)=false:=by rw [HI.out];simp;omega
      have kc:=HK0.out wr hE5;rw [hv0] at hXs;obtain ⟨wq,hwq⟩:∃ W,W=wr:=⟨_,rfl⟩;subst hwq;clear hgqx hgq;go_upto_region 13 with (fail)
      clear kc heq hXs;have hXst:=hX;rw [← Agt (fun s=>sat (Bq d (j+1) s)) d.nxt.length s] at hXst;have hz0:sat (E5 d j s 0)=0:=rfl;go_loopw [46] (fun vk W=>∃ k:Nat,k≤d.cls.length∧vk=.int .i64 k∧wq.grownBy W (some gi)∧W.ownsRow gi 3 1 (.slice (some ⟨gi,0,none⟩) d.nxt.length d.nxt.length) d.nxt.length (((Bo (fun s=>sat (Bq d (j+1) s)) d.nxt.length s).set s (sat (E5 d j s k))).map iv))
       (fun vk _=>d.cls.length-(intOf vk).toNat)
      case atStart=>exact ⟨0,by omega,rfl,World.grownBy.refl _ _,by rw [hz0];exact hXst⟩
      case round=>
       obtain ⟨k,hkm,rfl,hgk,hXk⟩:=hrel;have hEk:=hE5.grown hgk (fun k e=>by cases e;exact Nat.le_trans hgs1 (Nat.le_of_lt hgi1));by_cases hkl:k<d.cls.length
       ·obtain ⟨a0,a1,a2,a3⟩:=Ic (W:=wr) (fun i hi=>(hE0.trans hEk).cell (HCL.out i hi)) k hkl;obtain ⟨c,hcd⟩:∃ c,d.cls.getD k 0#256=c:=⟨_,rfl⟩;rw [hcd] at a0 a1 a2 a3;have HCD:=Lib.hid hcd;clear hcd;go_upto_region 15 with (fail)
        obtain ⟨wz,hwz⟩:∃ W,wr.alloc (.cells (Aa c) 62)=W:=⟨_,rfl⟩;have hEz:Ext wr wz:=hwz▸(Ext.refl wr).alloc _;have H9:=Lib.hid (show wz.heap[wr.heap.size]? = some (.cells (Aa c) 62 (0,0)) from hwz▸Ab wr _);simp only [hwz];clear hwz a0 a1 a2 a3;generalize wr.heap.size=g9 at *;have hX9:=Ah hXk hEz;have cw:=Ap 0 hX9 (by rw [List.length_set,C4]) s (by rw [List.length_set,C4];exact hsl);rw [A5 _ _ _ _ _ (by rw [C4];exact hsl),if_pos rfl] at cw;have hlg:∀ p:Addr,p.block<wq.heap.size→p.block≠gi→wz.cell? p=wq.cell? p:=fun p h1 h2=>by
         have e1:=hgk.cell_far p h1 (by simpa using h2);have e2:=World.cell?_of_block (hEz.block (k:=p.block) (Nat.lt_of_lt_of_le h1 hgk.size));rw [e2,e1]
        have cg:=(hlg ⟨gs,j+1,none⟩ (by have:=F2 HGi.out;exact this) (by show gs≠gi;omega)).trans HGi.out;have cp:=(hlg ⟨gs,j,none⟩ (F2 hcq) (by show gs≠gi;omega)).trans hcq;have hEkz:=hEk.trans hEz;have cn1:=HK1.out wz hEkz;obtain ⟨br,or',cr,hrc,hrr⟩:=HR.out s hsl;have cr1:=(hE0.trans hEkz).cell hrc;have cr2:=(hE0.trans hEkz).cell (hrr k hkl);have hxn:=HV.out.tgt s hsl k hkl;have cq:=(hlg ⟨gq,d.ent2 s k,none⟩ (F2 (HGQ.out _ hxn)) (by show gq≠gi;omega)).trans (HGQ.out _ hxn);have hstep:=Z5 (E5 d j s k) (sz c) (Bq d j (d.ent2 s k)) (by
         have h0:c≠0#256:=by rw [← HCD.out];exact HV.out.parts.nz _ (by rw [List.getD_eq_getElem?_getD,List.getElem?_eq_getElem hkl];exact List.getElem_mem hkl)
         rcases Nat.eq_zero_or_pos (sz c) with h1|h1
         ·exact absurd ((M5 c).1 h1) h0
         ·exact h1)
        rw [← HCD.out,← Aju,HCD.out] at hstep;have hb1:=Nd (E5 d j s k);have hb2:=Nd (Bq d j (d.ent2 s k));have hb3:sz c≤256:=Yw c;have f105:=fun W=>Lib.hid (Rz c W)
        generalize sat (E5 d j s k)=A at *;generalize d.ent2 s k=x at *;generalize sat (Bq d j x)=B at *;have HST:=Lib.hid hstep;generalize sz c=z at *;have hp1:z*B≤256*1099511627777:=Nat.mul_le_mul hb3 hb2;obtain ⟨p,hp⟩:∃ p:Nat,z*B=p:=⟨_,rfl⟩;rw [hp] at hp1;have hpi:(z:Int)*(B:Int)=(p:Int):=by rw [← hp];push_cast;rfl
        have HP:=Lib.hid hp;clear hp hstep hrr hrc hlg;have hkeep:∀ V,Ext wz V→V.cell? ⟨gs,j+1,none⟩=some (.slice (some ⟨gi,0,none⟩) d.nxt.length d.nxt.length)∧V.cell? ⟨gs,j,none⟩=some (.slice (some ⟨gq,0,none⟩) d.nxt.length d.nxt.length)∧V.cell? ⟨gi,s,none⟩=some (iv A)∧
          V.cell? ⟨w.heap.size,1,none⟩=some (.slice (some ⟨bn,on,none⟩) d.nxt.length cn)∧V.cell? ⟨bn,on+s,none⟩=some (.slice (some ⟨br,or',none⟩) d.cls.length cr)∧V.cell? ⟨br,or'+k,none⟩=some (iv x)∧V.cell? ⟨gq,x,none⟩=some (iv B):=
         fun V hV=>⟨hV.cell cg,hV.cell cp,hV.cell cw,hV.cell cn1,hV.cell cr1,hV.cell cr2,hV.cell cq⟩
        clear cg cp cw cn1 cr1 cr2 cq;have hjN:j<N:=by omega
        have hwj:IntKind.i64.wrap (I-1)=(j:Int):=by
         have:=HI.out;rw [show I-1=(j:Int) by omega];exact IntWalk.i64_in _ ⟨by omega,by omega⟩
        have hjN1:(j:Int)<(N:Int)+1:=by omega
        have hwp:IntKind.i64.wrap (p:Int)=(p:Int):=IntWalk.i64_in _ ⟨by omega,by omega⟩;have hwa:IntKind.i64.wrap ((A:Int)+(p:Int))=((A+p:Nat):Int):=by rw [show ((A+p:Nat):Int)=(A:Int)+(p:Int) by push_cast;rfl];exact IntWalk.i64_in _ ⟨by omega,by omega⟩
        refine Dh 33 [(0,true),(1,true),(2,true),(3,true),(4,true),(5,true),(6,true),(7,true),(8,true),(9,true),(10,true),(11,true),(12,true),(14,true),(15,true),(16,true),(17,true),(18,true),(19,true),(20,true),(21,true),(22,true),(23,true),(24,true),(25,true),(26,true),(27,true),(28,true),(13,false),(29,true),(30,true),(31,true),(32,true),(33,false)] (by kernel_rfl) (by kernel_rfl) (fun _ _ _ _ h=>h)
         (fun V=>Ext wz V) (Ext.refl wz).drew ?_
        have hE1:=(Ext.refl wz).drew;obtain ⟨wy,hwy⟩:∃ V,wz.drew=V:=⟨_,rfl⟩;rw [hwy] at hE1;rw [hwy];clear hwy;iterate 12
         refine Ax (v:=?_) rfl rfl (fun V hV=>?_) ?_
         rotate_left
         ·obtain ⟨c0,c1,c2,c3,c4,c5,c6⟩:=hkeep V hV;clear hV;go_simp;first|done|with_reducible rfl
         simp only [Act.put,List.setIfInBounds_toArray,List.set_cons_zero,List.set_cons_succ]
        refine Ax (v:=.agg (Aa c)) rfl rfl (fun V hV=>?_) ?_
        ·exact Ec 62 (.tmp 9) rfl g9 rfl _ _ _ _ (hV.heap H9.out) Tryz.underlying62 rfl Au
        simp only [Act.put,List.setIfInBounds_toArray,List.set_cons_zero,List.set_cons_succ];iterate 15
         refine Ax (v:=?_) rfl rfl (fun V hV=>?_) ?_
         rotate_left
         ·obtain ⟨c0,c1,c2,c3,c4,c5,c6⟩:=hkeep V hV;clear hV;go_simp;first|done|with_reducible rfl
         simp only [Act.put,List.setIfInBounds_toArray,List.set_cons_zero,List.set_cons_succ]
        refine B2 rfl (fun K hK=>?_);go_simp
        (with_reducible refine (f105 wy).out.mono ?_)
        rintro e w7 ⟨rfl,hE3⟩;refine hK _ _ (fun _=>hE1.trans hE3) ?_;clear hK K;refine Ax (v:=.int .i64 (p:Int)) rfl rfl (fun V _=>?_) ?_
        ·go_simp
        simp only [Act.put,List.setIfInBounds_toArray,List.set_cons_zero,List.set_cons_succ];refine Ax (v:=.int .i64 ((A+p:Nat):Int)) rfl rfl (fun V _=>?_) ?_
        ·go_simp
        simp only [Act.put,List.setIfInBounds_toArray,List.set_cons_zero,List.set_cons_succ];refine Ax (v:=.int .i64 ((min (A+p) 1099511627777:Nat):Int)) rfl rfl (fun V _=>?_) ?_
        ·go_simp;omega
        simp only [Act.put,List.setIfInBounds_toArray,List.set_cons_zero,List.set_cons_succ];refine Ax (v:=?_) rfl rfl (fun V hV=>?_) ?_
        rotate_left
        ·clear hV;go_simp;first|done|with_reducible rfl
        simp only [Act.put,List.setIfInBounds_toArray,List.set_cons_zero,List.set_cons_succ];have hX7:=Ah (Ah hX9 hE1) hE3;have hfo7:=hX7.frozenAt s;have hco7:=(hkeep w7 (hE1.trans hE3)).2.2.1;have hst:=A3 hX7 s (min (A+p) 1099511627777);refine B2 rfl (fun K hK=>?_);go_simp;refine hK _ _ (fun h=>absurd h (by omega)) ?_;clear hK K;refine Di ?_;obtain ⟨hXn,hgr⟩:=hst;rw [List.set_set] at hXn;have hmin:min (A+p) 1099511627777=sat (E5 d j s (k+1)):=by rw [← HST.out,HP.out]
        rw [hmin] at hXn hgr;rw [hmin];have hgn:=((hgk.trans ((hEz.trans (hE1.trans hE3)).grownBy _)).trans hgr);clear hgr hX7 hX9 hfo7 hco7 hkeep hmin hwa hwp hwj hpi hE1 hE3 f105 hX hXk hO5;go_wp2;go_roundw
        case rel=>exact ⟨k+1,by omega,by go_num,hgn,hXn⟩
        case measure=>simp [intOf];omega
       ·obtain rfl:k=d.cls.length:=by omega
        rw [Ajv,Gr (fun s=>sat (Bq d (j+1) s)) _ _ hsl] at hXk;have hgn:=hg.trans hgk;go_wp2;go_roundw
        case rel=>exact ⟨s+1,by omega,by go_num,hgn,hXk⟩
        case measure=>simp [intOf];omega
    ·obtain rfl:s=d.nxt.length:=by omega
     rw [Lo] at hX;have HX:=Lib.hid hX;have HO5:=Lib.hid hO5;have hsz5:gs<wr.heap.size:=by have:gi<wr.heap.size:=(hX.lt _ rfl).2;omega
     clear hcg hX0 hX hO5;go_wp2;go_roundw
     case rel=>
      refine ⟨i+1,I+1,_,by omega,by go_num,Lib.hid (by rw [HI.out];push_cast;rfl),hE5,hsz5,Lib.hid HL4.out.1,HO5.out,Lib.hid (fun i' hi'=>?_)⟩;by_cases e:i'=i
      ·subst e;exact ⟨gi,HL4.out.2.1,Oc HX.out (by omega)⟩
      ·obtain ⟨gq,q1,q2,q3⟩:=HQ4.out i' (by omega);exact ⟨gq,by rw [HL4.out.2.2 i' e];exact q1,q2.kept hg (.inr fun e=>by have:gq=gi:=Option.some.inj e;omega)⟩
     case measure=>simp [intOf];have:=HI.out;omega
  ·obtain rfl:i=N+1:=by omega
   have hIN:¬ I<(N:Int)+1:=by have:=HI.out;omega
   go_wp2;go_ret;refine ⟨gs,rfl,fun i' hi'=>?_,hE0.trans hE⟩;obtain ⟨gq,hq1,hq2⟩:=HQ.out i' (by omega);refine ⟨gq,?_,fun s hs=>?_⟩
   ·rw [hO.cellAt i' (by omega),← hq1,List.getD_eq_getElem?_getD,List.getElem?_eq_getElem (by rw [HL.out];omega)];rfl
   ·have:=Ap 0 hq2 (by simp) s (by simpa using hs);rw [Cq _ _ _ _ hs] at this;exact this
open Go Go.RowKit
def N5 (o:Obj):Prop:=∀ cs fr,o≠.cells cs 22 fr∧o≠.cells cs 38 fr
structure Kp (B:Nat) (W W':World):Prop where
 os:W'.os=W.os
 tape:W'.tape=W.tape
 output:W'.output=W.output
 size:W.heap.size≤W'.heap.size
 keep:∀ k o,W.heap[k]? = some o→(k<B∨N5 o)→W'.heap[k]? = some o
theorem Kp.refl (B:Nat) (W:World):Kp B W W:=⟨rfl,rfl,rfl,Nat.le_refl _,fun _ _ h _=>h⟩
theorem Kp.trans {B:Nat} {a b c:World} (h:Kp B a b) (k:Kp B b c):Kp B a c:=
 ⟨k.os.trans h.os,k.tape.trans h.tape,k.output.trans h.output,Nat.le_trans h.size k.size,fun i o hi hp=>k.keep i o (h.keep i o hi hp) hp⟩
theorem Kp.of_ext {B:Nat} {a b:World} (h:Ext a b):Kp B a b:=⟨h.below.os,h.below.tape,h.below.output,h.size,fun _ _ hk _=>h.heap hk⟩
theorem Kp.ext {B:Nat} {w W W':World} (h:Kp B W W') (hw:Ext w W) (hB:w.heap.size≤B):Ext w W':=
 ⟨⟨h.os.trans hw.below.os,h.tape.trans hw.below.tape,h.output.trans hw.below.output,Nat.le_trans hw.size h.size,fun k hk=>by
   have h1:k<W.heap.size:=Nat.lt_of_lt_of_le hk hw.size;have h2:W.heap[k]? = some W.heap[k]:=Array.getElem?_eq_getElem h1;rw [h.keep k _ h2 (.inl (Nat.lt_of_lt_of_le hk hB)),← h2];exact hw.block hk⟩⟩
theorem Kp.cells {B:Nat} {W W':World} (h:Kp B W W') {k:Nat} {cs:Array Value} {t:TypeId} {fr:Nat × Nat} (hk:W.heap[k]? = some (.cells cs t fr)) (h1:t≠22) (h2:t≠38):W'.heap[k]? = some (.cells cs t fr):=
 h.keep k _ hk (.inr fun cs' fr'=>⟨fun e=>by injection e with _ e _;exact h1 e,fun e=>by injection e with _ e _;exact h2 e⟩)
theorem Ab3 (r:Loop):N5 (.loop r):=fun _ _=>⟨by simp,by simp⟩
theorem S1 (r:Option (List Deferred)):N5 (.deferred r):=fun _ _=>⟨by simp,by simp⟩
theorem Kp.put_new {B:Nat} {a b:World} (h:Kp B a b) {l:Nat} (hl:a.heap.size≤l) (o:Obj):Kp B a (b.putObj l o):=by
 have hg:=grownBy_putObj' b l o;exact ⟨hg.os.trans h.os,hg.tape.trans h.tape,hg.output.trans h.output,Nat.le_trans h.size hg.size,fun k o' hk hp=>by
  have:k<a.heap.size:=(Array.getElem?_eq_some_iff.1 hk).1;exact (World.putObj_heap_other (by omega)).trans (h.keep k o' hk hp)⟩
def WordV (W:World) (v:Value) (x:List UInt8):Prop:=W.ownsRow 0 5 1 v x.length (x.map bv)
theorem Oa {W:World} {base e size:Nat} {v:Value} {n:Nat} {xs:List Value} (h:W.ownsRow base e size v n xs):W.ownsRow 0 e size v n xs:=by
 obtain ⟨hl,h|⟨g,cap,cur,hv,hb,h⟩⟩:=h
 ·exact ⟨hl,.inl h⟩
 ·exact ⟨hl,.inr ⟨g,cap,cur,hv,Nat.zero_le _,h⟩⟩
theorem Aco {B:Nat} {W W':World} {base e size:Nat} {v:Value} {n:Nat} {xs:List Value} (h:W.ownsRow base e size v n xs) (hk:Kp B W W') (h1:e≠22) (h2:e≠38):W'.ownsRow base e size v n xs:=by
 obtain ⟨hl,h|⟨g,cap,cur,hv,hb,hg,h⟩⟩:=h
 ·exact ⟨hl,.inl h⟩
 ·exact ⟨hl,.inr ⟨g,cap,cur,hv,hb,hk.cells hg h1 h2,h⟩⟩
theorem WordV.kp {B:Nat} {W W':World} {v:Value} {x:List UInt8} (h:WordV W v x) (hk:Kp B W W'):WordV W' v x:=Aco h hk (by decide) (by decide)
theorem WordV.ext {W W':World} {v:Value} {x:List UInt8} (h:WordV W v x) (hE:Ext W W'):WordV W' v x:=Ah h hE
theorem WordV.by {W:World} {v:Value} {x:List UInt8} (h:WordV W v x) (hx:x.length≤4611686018427387904):By W v x:=By.of_owns h hx
def Xn {β:Type} (I:β→World→Prop):Prop:=∀ s W W',I s W→Ext W W'→I s W'
def Xl (B:Nat) (P:Program) (g:Nat) (lb:Array Value) (total:List (List UInt8)) (w:World):Prop:=
 ∀ (l:Nat) (J:List (List UInt8)→World→Prop) (W:World),Ext w W→Xn J→Mi W.heap.size J→
  (∀ m pre x v W1,J pre W1→WordV W1 v x→(pre++[x]) <+: total→YieldAt Fence.wide m P l #[v] W1 fun e W'=>e=.returned (.bool true)∧J (pre++[x]) W'∧Kp B W1 W')→
  J [] W→
  ∀ n,CallsIn Fence.wide n P g (#[.func (.yield l) #[] #[]]++lb) W fun e W'=>(∃ v,e=.returned v)∧J total W'
def Acu (B:Nat) (I:List (List UInt8)→World→Prop) (xs:List (List UInt8)) (W:World):Exit→Act→World→Prop
 | .normal,_,W'=>Kp B W W'∧I xs W'
 | _,_,_=>False
variable {n:Nat} {P:Program}
theorem Qr {B:Nat} {g:Operand} {ps:Array Tmp} {assign body:Code} {Q:Exit→Act→World→Prop} {a:Act} {w:World}
  {gf:Nat} {lb:Array Value} (hg:a.eval g=.func (.func gf) #[] lb) (eg:∀ args w,(callFunc gf args).run P w=.ok (.enter gf args) w)
  {total:List (List UInt8)} (hseq:Xl B P gf lb total w) (hps:ps.size=1)
  (I:List (List UInt8)→World→Prop) (hIe:Xn I) (hI:Mi w.heap.size I) (h0:I [] w) (a₁:Value→Act)
  (hassign:∀ (l:Nat) (v:Value) (W:World) (K:Act→World→Prop),K (a₁ v) W→
   assign.wpIn (Fence.wide.inRound l) (n-1-1) P (Exit.then K (fun _ _ _=>False)) { tmps:=(ps.zip #[v]).foldl (fun t (p,v)=>t.setIfInBounds p v) a.tmps,defers:=[] } W)
  (hbody:∀ (l:Nat) (pre:List (List UInt8)) (x:List UInt8) (v:Value) (W:World),I pre W→WordV W v x→(pre++[x]) <+: total→∀ m,body.wpIn (Fence.wide.inRound l) m P (Acu B I (pre++[x]) W) (a₁ v) W)
  (hdone:∀ (D:Nat) (W:World),w.heap.size≤D→I total W→W.heap[D]? = some (.deferred (some []))→Q .normal { a with defers:={ target:=.collected D,args:=#[] }::a.defers } W) :
  (Code.rangeFunc g ps assign body).wpIn Fence.wide n P Q a w:=by
 refine wpIn_rangeFunc ?_;intro fn hfn;obtain ⟨rec,hrec⟩:∃ rec:LoopState→Option Code→Loop,rec=fun st pe=>{ state:=st,pending:=pe,fn,tmps:=a.tmps,params:=ps,assign,body,defers:=w.heap.size }:=⟨_,rfl⟩
 obtain ⟨W1,hW1⟩:∃ W1,(w.alloc (.deferred (some []))).alloc (.loop (rec .ready none))=W1:=⟨_,rfl⟩;have hL1:W1.heap[w.heap.size+1]? = some (.loop (rec .ready none)):=by
  rw [← hW1];have:=World.alloc_heap_new (w.alloc (.deferred (some []))) (.loop (rec .ready none));rwa [World.size_alloc] at this
 have hK1:W1.heap[w.heap.size]? = some (.deferred (some [])):=by
  rw [← hW1];exact (Below.heap_alloc _ _ _ (by simp)).trans (World.alloc_heap_new w _)
 have hE1:Ext w W1:=by rw [← hW1];exact ((Ext.refl w).alloc _).alloc _
 have hI1:I [] W1:=hIe _ _ _ h0 hE1;have hs1:W1.heap.size=w.heap.size+2:=by rw [← hW1];simp
 refine ⟨w.heap.size+1,[{ target:=.collected w.heap.size,args:=#[] }],W1,{ target:=.fn (.func gf) lb,args:=#[.func (.yield (w.heap.size+1)) #[] #[]] },W1,gf,
  #[.func (.yield (w.heap.size+1)) #[] #[]]++lb,W1,?_,?_,?_,?_,fun h=>by simp [Fence.wide] at h,?_⟩
 ·rw [← hW1,hrec];exact run_enterLoop_outer _ _ _ _ _
 ·simp only [resolve,hg];simp [go_sem]
 ·intro f' hf';trivial
 ·simp [invoke,go_sem,eg]
 ·refine (hseq (w.heap.size+1)
   (fun pre W=>I pre W∧W.heap[w.heap.size+1]? = some (.loop (rec .ready none))∧W.heap[w.heap.size]? = some (.deferred (some [])))
   W1 hE1 (fun s W W' h hE=>⟨hIe _ _ _ h.1 hE,hE.heap h.2.1,hE.heap h.2.2⟩)
   (fun s W l o o' h hl ho hc=>⟨hI s W l o o' h.1 (by omega) ho hc,(World.putObj_heap_other (by omega)).trans h.2.1,(World.putObj_heap_other (by omega)).trans h.2.2⟩) ?_ ⟨hI1,hL1,hK1⟩ (n-1)).mono ?_
  ·rintro m pre x v W ⟨hi,hl,hk⟩ hv hnx;have hlt:w.heap.size+1<W.heap.size:=(Array.getElem?_eq_some_iff.1 hl).1;have hy:=run_yield (P:=P) (args:=#[v]) hl (by rw [hrec];exact hps.symm);rw [hrec] at hy;refine ⟨fn,_,assign,body,hy,?_⟩;have hround:RoundIn Fence.wide (n-1-1) P (w.heap.size+1) fn ((ps.zip #[v]).foldl (fun t (p,v)=>t.setIfInBounds p v) a.tmps) assign body W (fun e W'=>e=.returned (.bool true)∧(I (pre++[x]) W'∧W'.heap[w.heap.size+1]? = some (.loop (rec .ready none))∧W'.heap[w.heap.size]? = some (.deferred (some [])))∧Kp B W W'):=by
    refine roundIn_of_wpIn hfn (hassign _ v W _ ⟨_,run_beginRound hl (by rw [hrec]),?_⟩);have hl2:(W.putObj (w.heap.size+1) (.loop { rec .ready none with state:=.busy })).heap[w.heap.size+1]? = some (.loop { rec .ready none with state:=.busy }):=World.putObj_heap_same hlt;have hk2:(W.putObj (w.heap.size+1) (.loop { rec .ready none with state:=.busy })).heap[w.heap.size]? = some (.deferred (some [])):=(World.putObj_heap_other (by omega)).trans hk;have hv2:WordV (W.putObj (w.heap.size+1) (.loop { rec .ready none with state:=.busy })) v x:=ownsRow_putObj hv _ hl rfl;refine wpIn_mono (hbody _ pre x v _ (hI _ _ _ _ _ hi (by omega) hl rfl) hv2 hnx _) ?_;rintro e a3 W3 hp;cases e with
    | normal=>
     obtain ⟨hk3,hi3⟩:=hp;have hl3:=hk3.keep _ _ hl2 (.inr (Ab3 _));have hr:=run_endRound (P:=P) none hl3;rw [hrec] at hr;have hlt3:=(Array.getElem?_eq_some_iff.1 hl3).1;refine ⟨_,_,hr,rfl,⟨hI _ _ _ _ _ hi3 (by omega) hl3 rfl,?_,(World.putObj_heap_other (by omega)).trans (hk3.keep _ _ hk2 (.inr (S1 _)))⟩,?_⟩
     ·rw [hrec];exact World.putObj_heap_same hlt3
     ·have hg1:=grownBy_putObj' W (w.heap.size+1) (.loop { rec .ready none with state:=.busy });have hg3:=grownBy_putObj' W3 (w.heap.size+1) (.loop (rec .ready none));rw [hrec] at hg1 hg3 hk3 hl;refine ⟨hg3.os.trans (hk3.os.trans hg1.os),hg3.tape.trans (hk3.tape.trans hg1.tape),hg3.output.trans (hk3.output.trans hg1.output),Nat.le_trans hg1.size (Nat.le_trans hk3.size hg3.size),fun k o hk hp=>?_⟩;by_cases e:k=w.heap.size+1
      ·subst e;rw [hl] at hk;injection hk with hk
       rw [← hk];exact World.putObj_heap_same hlt3
      ·exact (World.putObj_heap_other e).trans (hk3.keep k o ((World.putObj_heap_other e).trans hk) hp)
    | _=>exact hp.elim
   exact ⟨hround.1,fun c cs _=>hround.2 c cs (fun d h=>by simp [Fence.wide] at h)⟩
  ·rintro e W2 ⟨⟨v,rfl⟩,hi,hl,hk⟩;exact ⟨none,_,by have:=run_endLoop (P:=P) hl (by rw [hrec];simp);rw [hrec] at this;exact this,hdone _ _ (Nat.le_refl _) (hI _ _ _ _ _ hi (by omega) hl rfl) ((World.putObj_heap_other (by omega)).trans hk)⟩
def Marks (B:Nat) (W:World) (ds:List Deferred):Prop:=∃ Ds:List Nat,ds=Ds.map (fun D=>{ target:=.collected D,args:=#[] })∧Ds.Nodup∧∀ D,D∈Ds→B≤D∧W.heap[D]? = some (.deferred (some []))
theorem Marks.nil (B:Nat) (W:World):Marks B W []:=⟨[],rfl,List.nodup_nil,fun _ h=>by cases h⟩
theorem Marks.kp {B B':Nat} {W W':World} {ds:List Deferred} (h:Marks B W ds) (hk:Kp B' W W'):Marks B W' ds:=by
 obtain ⟨Ds,h1,h2,h3⟩:=h;exact ⟨Ds,h1,h2,fun D hD=>⟨(h3 D hD).1,hk.keep _ _ (h3 D hD).2 (.inr (S1 _))⟩⟩
theorem Marks.cons {B B':Nat} {W W':World} {ds:List Deferred} (h:Marks B W ds) (hk:Kp B' W W') {D:Nat} (hB:B≤D) (hW:W.heap.size≤D) (hD:W'.heap[D]? = some (.deferred (some []))):Marks B W' ({ target:=.collected D,args:=#[] }::ds):=by
 obtain ⟨Ds,h1,h2,h3⟩:=h.kp hk;obtain ⟨Ds',h1',_,h3'⟩:=h;refine ⟨D::Ds,by rw [h1];rfl,List.nodup_cons.2 ⟨fun hm=>?_,h2⟩,fun D' hD'=>?_⟩
 ·have e:Ds'=Ds:=by
   have:=h1'.symm.trans h1;exact (List.map_inj_right (fun x y e=>by injection e with e;injection e)).1 this
  have h4:=(h3' D (by rw [e];exact hm)).2;have:D<W.heap.size:=(Array.getElem?_eq_some_iff.1 h4).1;omega
 ·rcases List.mem_cons.1 hD' with rfl|hD'
  ·exact ⟨hB,hD⟩
  ·exact h3 D' hD'
theorem Ox {F:Fence} {m:Nat} {fn:Func} {tmps:Array Value} {R:Ending→World→Prop} {B:Nat} (I:World→Prop) (hI:∀ W l (o o':Obj),I W→B≤l→W.heap[l]? = some o→o.isCells=false→I (W.putObj l o'))
  (hend:∀ W,I W→LeavesIn F m P fn tmps R [] .returning W):∀ (ds:List Deferred) (W:World),Marks B W ds→I W→LeavesInM F m P fn tmps R ds .returning W:=by
 intro ds;induction ds with
 | nil=>intro W _ h;exact hend W h
 | cons d ds ih=>
  rintro W ⟨Ds,h1,h2,h3⟩ h;cases Ds with
  | nil=>cases h1
  | cons D Ds=>
   injection h1 with e1 e2
   subst e1 e2;obtain ⟨hB,hD⟩:=h3 D List.mem_cons_self;refine ⟨by simp,.inl ⟨D,_,rfl,run_takeDeferred hD,?_⟩⟩;refine ih _ ⟨Ds,rfl,(List.nodup_cons.1 h2).2,fun D' hD'=>?_⟩ (hI W D _ _ h hB hD rfl);have hne:D'≠D:=fun e=>(List.nodup_cons.1 h2).1 (e▸hD')
   obtain ⟨h4,h5⟩:=h3 D' (List.mem_cons_of_mem _ hD');exact ⟨h4,(World.putObj_heap_other hne).trans h5⟩
end Go.Proofs.YtaiogolidlamiaaGreatDoor
