import Derived.Test.YtaiogolidlamiaaGreatDoorM16
import Derived.Test.YtaiogolidlamiaaGreatDoorM07
set_option linter.unusedVariables false
set_option linter.unusedSimpArgs false
namespace Go.Proofs.YtaiogolidlamiaaGreatDoor
set_option maxRecDepth 100000
open Go.RowKit Go.Shelf
def N0 (w0:World) (n0:Nat) (va vb:Array Value) (a b:Dfa):Nat→Value→World→Prop
 | 0,v,_=>v=.agg va
 | 1,v,_=>∃ A,v=.agg A∧IsT w0 A (Ae a)
 | 2,v,_=>v=.agg vb
 | 3,v,_=>∃ B,v=.agg B∧IsT w0 B (Ae b)
 | _,v,W=>∃ g,v=.pointer (some ⟨g,0,none⟩)∧W.heap[g]? = some (.cells Tryz.zeroCells108 108 (0,0))∧n0≤g
def Nz (i j:Nat) (v u:Value):Prop:=(i=4∧j=5∨i=5∧j=4)→v≠u
theorem Abt (i j:Nat) (v u:Value) (h:Nz i j v u):Nz j i u v:=fun hij=>(h (by omega)).symm
theorem Abu (w0:World) (n0:Nat) (va vb:Array Value) (a b:Dfa):∀ (i:Nat) (v:Value) (w w':World),N0 w0 n0 va vb a b i v w→Ext w w'→N0 w0 n0 va vb a b i v w'
 | 0,_,_,_,h,_=>h
 | 1,_,_,_,h,_=>h
 | 2,_,_,_,h,_=>h
 | 3,_,_,_,h,_=>h
 | _+4,_,_,_,⟨g,h1,h2,h3⟩,hE=>⟨g,h1,hE.heap h2,h3⟩
theorem N9 (x y:Tbl):∀ (w:List UInt8) (p q:Nat),At (pNx x y) ⟨p,q,0⟩ w=⟨x.run p w,y.run q w,0⟩
 | [],_,_=>rfl
 | b::w,p,q=>N9 x y w (x.stp p b.toNat) (y.stp q b.toNat)
theorem Ext.setRow_both {a b:World} (h:Ext a b) {g:Nat} {old:Array Value} {e:TypeId} {fr:Nat × Nat} (hg:a.heap[g]? = some (.cells old e fr)) (cs:Array Value):Ext (a.setRow g cs) (b.setRow g cs):=by
 have hb:=h.heap hg;refine ⟨⟨h.below.os,h.below.tape,h.below.output,by rw [size_setRow,size_setRow];exact h.size,fun k hk=>?_⟩⟩;rw [size_setRow] at hk;by_cases e':k=g
 ·subst e';rw [setRow_heap b k old cs e fr hb,setRow_heap a k old cs e fr hg]
 ·rw [setRow_other b g k cs e',setRow_other a g k cs e'];exact h.block hk
def L8 (n m:Nat):List Sta:=(box n m).map fun p=>⟨p.1,p.2,0⟩
theorem Wu (n m:Nat):(L8 n m).length=n*m:=by rw [L8,List.length_map,Ju]
theorem S4 {x y:Tbl} (hx:TVal x) (hy:TVal y) (w:List UInt8):At (pNx x y) ⟨0,0,0⟩ w∈L8 x.nxt.length y.nxt.length:=by
 rw [N9];exact List.mem_map.2 ⟨(x.run 0 w,y.run 0 w),Jt (hx.run_lt w hx.pos) (hy.run_lt w hy.pos),rfl⟩
theorem Abs {x y:Tbl} (hx:TVal x) (hy:TVal y) {c:Nat→Nat} {bs:List Nat} (hj:Joint x.cell y.cell c bs) {g:Bool→Bool→Bool} {l:List Sta} {t:Tbl} (h:Expl c bs ⟨0,0,0⟩ (pNx x y) (pAc x y g) l t) :
  TVal t∧t.nxt.length≤x.nxt.length*y.nxt.length∧∀ u,t.has u=g (x.has u) (y.has u):=by
 refine ⟨h.tval hj,?_,fun u=>?_⟩
 ·rw [h.len,← Wu];refine Db l _ h.nodup fun s hs=>?_
  obtain ⟨i,hi⟩:=List.getElem?_of_mem hs;obtain ⟨w,rfl⟩:=h.reach i s hi;exact S4 hx hy w
 ·rw [h.has hj (fun s k hk=>?_) u,N9]
  ·rfl
  ·obtain ⟨_,h1,h2⟩:=hj.rep k hk;unfold pNx Tbl.stp;rw [h1,h2]
set_option maxHeartbeats 1000000 in
theorem Su (a b:Dfa) (ha:Val a) (hb:Val b) (hna:a.nxt.length≤64) (hnb:b.nxt.length≤64) (gh:Nat) (g:Bool→Bool→Bool) (hg:Ii gh g) (eh:∀ args w,(callFunc gh args).run Tryz.prog w=.ok (.enter gh args) w) (va vb:Value) (w:World) (hT:Tab w) (hsz:0<w.heap.size) (hva:IsD w va a) (hvb:IsD w vb b) :
  Calls Tryz.prog 85 #[va,vb,.func (.func gh) #[] #[]] w fun e w'=>∃ A t,e=.returned (.agg A)∧IsT w' A t∧TVal t∧t.nxt.length≤4096∧(∀ u,t.has u=g (a.has u) (b.has u))∧Ext w w':=by
 have HDa:=Lib.hid hva;have HDb:=Lib.hid hvb;have HVa:=Lib.hid ha;have HVb:=Lib.hid hb;have HG:=Lib.hid hg;obtain ⟨ac,lc,cc,an,cn,aa,la,ca,rfl⟩:=hva.agg;obtain ⟨ac',lc',cc',an',cn',aa',la',ca',rfl⟩:=hvb.agg;have f68a:=fun W (hW:Ext w W)=>Lib.hid (Ir a ha _ w W hW (hT.below hW.below hsz) (Nat.lt_of_lt_of_le hsz hW.size) HDa.out)
 have f68b:=fun W (hW:Ext w W)=>Lib.hid (Ir b hb _ w W hW (hT.below hW.below hsz) (Nat.lt_of_lt_of_le hsz hW.size) HDb.out)
 obtain ⟨Va,hVa⟩:∃ X,dA (.slice ac lc cc) (.slice an a.nxt.length cn) (.slice aa la ca)=X:=⟨_,rfl⟩;obtain ⟨Vb,hVb⟩:∃ X,dA (.slice ac' lc' cc') (.slice an' b.nxt.length cn') (.slice aa' la' ca')=X:=⟨_,rfl⟩;have hiVa:(Tryz.prog.info? 30).map (·.size)=some Va.size:=by rw [← hVa];exact Ad
 have hiVb:(Tryz.prog.info? 30).map (·.size)=some Vb.size:=by rw [← hVb];exact Ad
 rw [hVa] at f68a HDa;rw [hVb] at f68b HDb;rw [hVa,hVb];have hE0:=((((Ext.refl w).alloc (.cells Va 30)).alloc (.cells Vb 30)).alloc (.cells #[.func (.func gh) #[] #[]] 126)).alloc (.cells Tryz.zeroCells108 108);have H3:=Af (Af (Af (Ab w (.cells Va 30)) (.cells Vb 30)) (.cells #[.func (.func gh) #[] #[]] 126)) (.cells Tryz.zeroCells108 108);have H4:=Af (Af (heap_alloc2_new w (.cells Va 30) (.cells Vb 30)) (.cells #[.func (.func gh) #[] #[]] 126)) (.cells Tryz.zeroCells108 108);have H5:=Af (Ab ((w.alloc (.cells Va 30)).alloc (.cells Vb 30)) (.cells #[.func (.func gh) #[] #[]] 126)) (.cells Tryz.zeroCells108 108);have H6:=Ab (((w.alloc (.cells Va 30)).alloc (.cells Vb 30)).alloc (.cells #[.func (.func gh) #[] #[]] 126)) (.cells Tryz.zeroCells108 108);rw [World.size_alloc,World.size_alloc] at H5;rw [World.size_alloc,World.size_alloc,World.size_alloc] at H6;clear hva hvb ha hb hg hT hVa hVb;go_enter Tryz.func85,Tryz.ntmps85;go_upto_region 1 with (fail)
 obtain ⟨w1,hw1⟩:∃ W,(((w.alloc (.cells Va 30)).alloc (.cells Vb 30)).alloc (.cells #[.func (.func gh) #[] #[]] 126)).alloc (.cells Tryz.zeroCells108 108)=W:=⟨_,rfl⟩;have hs1:w.heap.size+1+1+1<w1.heap.size:=by rw [← hw1,World.size_alloc,World.size_alloc,World.size_alloc,World.size_alloc];omega
 rw [hw1] at hE0 H3 H4 H5 H6;simp only [hw1];clear hw1;have HB3:=Lib.hid H3;have HB4:=Lib.hid H4;have HB5:=Lib.hid H5;have HB6:=Lib.hid H6;clear H3 H4 H5 H6;refine J7 6 35 (by kernel_rfl) (by kernel_rfl) rfl (N0 w w1.heap.size Va Vb a b) Nz Abt (Abu w w1.heap.size Va Vb a b) (fun i hi=>?_) (fun vs w2 hE2 hF hN=>?_)
 ·have hd1:=(Ext.refl w1).drew
  match i,hi with
  | 0,_=>
   refine Ar _ _ rfl rfl rfl fun c W hW hdep hkeep=>?_
   have h3:=hkeep 3 (by kernel_rfl);refine Cy (Ec 30 (.tmp 3) rfl w.heap.size h3 _ _ _ _ ((hd1.trans hW).heap HB3.out) Tryz.underlying30 rfl hiVa) ?_;exact ⟨_,rfl,Ext.refl W,rfl,fun j u _ _ _ h=>by omega⟩
  | 2,_=>
   refine Ar _ _ rfl rfl rfl fun c W hW hdep hkeep=>?_
   have h3:=hkeep 4 (by kernel_rfl);refine Cy (Ec 30 (.tmp 4) rfl (w.heap.size+1) h3 _ _ _ _ ((hd1.trans hW).heap HB4.out) Tryz.underlying30 rfl hiVb) ?_;exact ⟨_,rfl,Ext.refl W,rfl,fun j u _ _ _ h=>by omega⟩
  | 1,_=>
   refine Ar _ _ rfl rfl rfl fun c W hW hdep hkeep=>?_
   have h14:c.tmps.getD 14 undef=.agg Va:=hdep 0 14 (by kernel_rfl);go_simp
   (with_reducible refine (f68a W (hE0.trans (hd1.trans hW))).out.mono ?_)
   rintro e W' ⟨A,rfl,hA,hE⟩;exact ⟨_,rfl,hE,⟨A,rfl,hA⟩,fun j u _ _ _ h=>by omega⟩
  | 3,_=>
   refine Ar _ _ rfl rfl rfl fun c W hW hdep hkeep=>?_
   have h16:c.tmps.getD 16 undef=.agg Vb:=hdep 2 16 (by kernel_rfl);go_simp
   (with_reducible refine (f68b W (hE0.trans (hd1.trans hW))).out.mono ?_)
   rintro e W' ⟨A,rfl,hA,hE⟩;exact ⟨_,rfl,hE,⟨A,rfl,hA⟩,fun j u _ _ _ h=>by omega⟩
  | 4,_=>
   refine Ar _ _ rfl rfl rfl fun c W hW hdep hkeep=>?_
   go_simp;refine ⟨_,rfl,(Ext.refl W).alloc _,⟨_,rfl,Ab W _,(hd1.trans hW).size⟩,fun j u _ _ hu h=>?_⟩;obtain rfl:j=5:=by omega
   obtain ⟨g',rfl,hg',-⟩:=hu;intro e;have:W.heap.size=g':=by simpa using e
   have:=Ak hg';omega
  | 5,_=>
   refine Ar _ _ rfl rfl rfl fun c W hW hdep hkeep=>?_
   go_simp;refine ⟨_,rfl,(Ext.refl W).alloc _,⟨_,rfl,Ab W _,(hd1.trans hW).size⟩,fun j u _ _ hu h=>?_⟩;obtain rfl:j=4:=by omega
   obtain ⟨g',rfl,hg',-⟩:=hu;intro e;have:W.heap.size=g':=by simpa using e
   have:=Ak hg';omega
 ·obtain ⟨A,hA,hAT⟩:=hF 1 (by omega);obtain ⟨B,hB,hBT⟩:=hF 3 (by omega);obtain ⟨g7,h7,H7,hl7⟩:=hF 4 (by omega);obtain ⟨g8,h8,H8,hl8⟩:=hF 5 (by omega);have h78:g7≠g8:=fun e=>hN 4 5 (by omega) (by omega) (by omega) (by omega) (by rw [h7,h8,e])
  have hE3:=(Ext.refl w1).drew.trans hE2;have hF0:vs 0=.agg Va:=hF 0 (by omega);have hF2:vs 2=.agg Vb:=hF 2 (by omega);simp only [Ba,List.drop_succ_cons,List.drop_zero,hA,hB,h7,h8,hF0,hF2,List.getElem?_toArray,List.getElem?_cons_zero,List.getElem?_cons_succ,Option.bind_some,Act.put,List.setIfInBounds_toArray,List.set_cons_zero,List.set_cons_succ];clear hF hN hA hB h7 h8 hF0 hF2;obtain ⟨_,_,_,_,_,_,hAs,hAo,_⟩:=hAT.opened (Be HVa.out);obtain ⟨_,_,_,_,_,_,hBs,hBo,_⟩:=hBT.opened (Be HVb.out);have hiA:(Tryz.prog.info? 108).map (·.size)=some A.size:=by rw [hAs];exact Bv
  have hiB:(Tryz.prog.info? 108).map (·.size)=some B.size:=by rw [hBs];exact Bv
  have hzA:Tryz.zeroCells108.size=A.size:=by rw [Cl,hAs]
  have hzB:Tryz.zeroCells108.size=B.size:=by rw [Cl,hBs]
  have H8':=Bg H8 (Ne.symm h78) A;have hE4:=((hE3.setRow hl7 A).setRow hl8 B);have G7:=Bg (setRow_heap w2 g7 _ A _ _ H7) h78 B;have G8:=setRow_heap (w2.setRow g7 A) g8 _ B _ _ H8';clear hAs hBs;go_upto_region 2 with (first
   | (refine wpList_store_row rfl 108 (.tmp 7) (.tmp 15) rfl _ _ rfl rfl _ _ H7 hiA hzA hAo ?_)
   | (refine wpList_store_row rfl 108 (.tmp 8) (.tmp 17) rfl _ _ rfl rfl _ _ H8' hiB hzB hBo ?_))
  obtain ⟨w3,hw3⟩:∃ W,(w2.setRow g7 A).setRow g8 B=W:=⟨_,rfl⟩;rw [hw3] at hE4 G7 G8;simp only [hw3];clear hw3 hE3 H7 H8 H8' hzA hzB hE2;have hE5:=hE0.trans hE4;have HAT:=Lib.hid (hAT.ext hE5);have HBT:=Lib.hid (hBT.ext hE5);have HG7:=Lib.hid G7;have HG8:=Lib.hid G8;have hJ:=Lib.hid (O5 (Ae a) (Ae b) (Be HVa.out) (Be HVb.out) A B w3 HAT.out HBT.out);have hz77:∀ c,Tryz.zeroCells77.size=(Bk c).size:=fun c=>by rw [Ij,D7,D7]
  have hi77:∀ c,(Tryz.prog.info? 77).map (·.size)=some (Bk c).size:=fun c=>by rw [D7];exact I9
  clear hAT hBT G7 G8;go_upto_region 3 with (first
   | (refine wpList_load_row rfl 108 (.tmp 7) rfl _ rfl _ _ _ _ HG7.out Tryz.underlying108 rfl hiA ?_)
   | (refine wpList_load_row rfl 108 (.tmp 8) rfl _ rfl _ _ _ _ HG8.out Tryz.underlying108 rfl hiB ?_)
   | (go_at_call 70;(with_reducible refine hJ.out.mono ?_);rintro e w4 ⟨c,bs,vj,rfl,hjo,hib,hE6⟩;have hzc:=hz77 c;have hic:=hi77 c;have hoc:=Lz c;obtain ⟨A9,hA9⟩:∃ X,Bk c=X:=⟨_,rfl⟩;rw [hA9] at hzc hic hoc;rw [hA9])
   | (refine wpList_store_row rfl 77 (.tmp 9) (.tmp 22) rfl _ _ rfl rfl _ _ (Ab w4 (.cells Tryz.zeroCells77 77)) hic hzc hoc ?_))
  have hE7:=hE6.trans (((Ext.refl w4).alloc (.cells Tryz.zeroCells77 77)).setRow (Nat.le_refl _) A9);have H9:=setRow_heap (w4.alloc (.cells Tryz.zeroCells77 77)) w4.heap.size _ A9 _ _ (Ab w4 _);have hib5:=hib.ext (((Ext.refl w4).alloc (.cells Tryz.zeroCells77 77)).setRow (Nat.le_refl _) A9);obtain ⟨w5,hw5⟩:∃ W,(w4.alloc (.cells Tryz.zeroCells77 77)).setRow w4.heap.size A9=W:=⟨_,rfl⟩;rw [hw5] at hE7 H9 hib5;simp only [hw5];clear hw5 hE6 hib hz77 hi77 hJ;have HG9:=Lib.hid H9;have HJO:=Lib.hid hjo;have HA9:=Lib.hid hA9;clear H9 hjo hA9 hzc hoc;generalize w4.heap.size=g9 at *;have hm0:0<bs.length:=by have:=HJO.out.lt 0 (by omega);omega
  have hm1:bs.length≤256:=by
   have:=Hj c 256 bs.length (fun j hj=>⟨bs.getD j 0,(HJO.out.byte j hj).1,(HJO.out.byte j hj).2⟩);exact this
  have hE8:=hE5.trans hE7;have HAT5:=Lib.hid (HAT.out.ext hE7);have HBT5:=Lib.hid (HBT.out.ext hE7);have H57:=hE7.heap HG7.out;have H58:=hE7.heap HG8.out;have H55:=(hE4.trans hE7).heap HB5.out;have HNX:=Lib.hid (Ab2 (Ae a) (Ae b) (Be HVa.out) (Be HVb.out) A B g7 g8 w5 HAT5.out HBT5.out H57 H58);have HTX:=Lib.hid (Abr (Ae a) (Ae b) (Be HVa.out) (Be HVb.out) A B g7 g8 (w.heap.size+1+1) gh g HG.out eh w5 HAT5.out HBT5.out H57 H58 H55);have hX:=Lib.hid (Pl c bs hm0 hm1 (fun k hk=>(HJO.out.byte k hk).1) ⟨0,0,0⟩ (pNx (Ae a) (Ae b)) (pAc (Ae a) (Ae b) g) (N8 (Ae a) (Ae b))
   (fun x hx=>⟨by have:=hx.1;have:x.p<a.nxt.length:=this;omega,by have:=hx.2.1;have:x.q<b.nxt.length:=this;omega,by rw [hx.2.2];omega⟩) ⟨HVa.out.pos,HVb.out.pos,rfl⟩
   (fun x hx k hk=>⟨(Be HVa.out).stp_lt hx.1 hk,(Be HVb.out).stp_lt hx.2.1 hk,rfl⟩) 1073741824 (by omega) (by omega) 120 121 _ _ (enters_of Tryz.func120 (by kernel_rfl) rfl) (enters_of Tryz.func121 (by kernel_rfl) rfl) vj w5 hib5 HNX.out HTX.out)
  rw [HA9.out] at hX;clear H57 H58 H55 hib5;have hX':Hid (Calls Tryz.prog 74 #[.agg A9,vj,.agg #[.int .i64 0,.int .i64 0,.int .u64 0],.func (.func 120) #[] #[.pointer (some ⟨g7,0,none⟩),.pointer (some ⟨g8,0,none⟩)],.func (.func 121) #[] #[.pointer (some ⟨w.heap.size+1+1,0,none⟩),.pointer (some ⟨g7,0,none⟩),.pointer (some ⟨g8,0,none⟩)],.int .i64 1073741824] w5 fun e w'=>
    ∃ A t,e=.returned (.tuple #[.agg A,.bool true])∧(IsT w' A t∧∀ g cs,g<w5.heap.size→IsT (w'.setRow g cs) A t)∧TVal t∧t.nxt.length≤4096∧(∀ u,t.has u=g (a.has u) (b.has u))∧Ext w5 w'):=Lib.hid (Calls.mono hX.out fun e w' ⟨hE,h⟩=>by
   have hle:a.nxt.length*b.nxt.length≤4096:=Nat.mul_le_mul hna hnb;rcases h with ⟨A,l,t,he,hT,hX,_,hTg,_⟩|⟨hM,_⟩
   ·obtain ⟨h1,h2,h3⟩:=Abs (Be HVa.out) (Be HVb.out) HJO.out hX;exact ⟨A,t,he,⟨hT,hTg⟩,h1,Nat.le_trans h2 hle,fun u=>by rw [h3,Dt,Dt],hE⟩
   ·exact absurd hM (I4 (L8 a.nxt.length b.nxt.length) (fun u=>S4 (Be HVa.out) (Be HVb.out) u) (by rw [Wu];omega)))
  clear hX;have hBz:Tryz.prog.built 116 []=some #[.int .i64 0,.int .i64 0,.int .u64 0]:=by kernel_rfl
  have HBz:=Lib.hid hBz;clear hBz;have HB6':=Lib.hid ((hE4.trans hE7).heap HB6.out);have i77':(Tryz.prog.info? 77).map (·.size)=some A9.size:=hic;go_upto_region 5 with (first
   | (refine wpList_load_row rfl 77 (.tmp 9) rfl _ rfl _ _ _ _ HG9.out Tryz.underlying77 rfl i77' ?_)
   | (refine Ci rfl 116 _ rfl #[.int .i64 0,.int .i64 0,.int .u64 0] ?_ ?_;(simp;with_reducible exact HBz.out))
   | (go_at_call 74;(with_reducible refine hX'.out.mono ?_);rintro e w6 ⟨AT,t,rfl,⟨hIT,hITg⟩,htv,htn,hhas,hE9⟩;obtain ⟨_,_,_,_,_,_,hTs,hTo,_⟩:=hIT.opened htv;have hiT:(Tryz.prog.info? 108).map (·.size)=some AT.size:=(by rw [hTs];exact Bv);have hzT:Tryz.zeroCells108.size=AT.size:=(by rw [Cl,hTs]);clear hTs)
   | (refine wpList_store_row rfl 108 (.tmp 12) (.tmp 32) rfl _ _ rfl rfl _ _ (Ab w6 (.cells Tryz.zeroCells108 108)) hiT hzT hTo ?_))
  have hE10:=((Ext.refl w6).alloc (.cells Tryz.zeroCells108 108)).setRow (Nat.le_refl _) AT;have H10:=setRow_heap (w6.alloc (.cells Tryz.zeroCells108 108)) w6.heap.size _ AT _ _ (Ab w6 _);obtain ⟨w7,hw7⟩:∃ W,(w6.alloc (.cells Tryz.zeroCells108 108)).setRow w6.heap.size AT=W:=⟨_,rfl⟩;rw [hw7] at hE10 H10;simp only [hw7];clear hw7;have HB66:=hE9.heap HB6'.out;have hfin:=(hITg (w.heap.size+1+1+1) AT (Ak HB6'.out)).ext (hE10.setRow_both HB66 AT);have HB67:=Lib.hid (hE10.heap HB66);have HG10:=Lib.hid H10;have hEf:=(((hE8.trans hE9).trans hE10)).setRow (show w.heap.size≤w.heap.size+1+1+1 by omega) AT;clear hIT hITg HB66 H10;go_wp2_with (first
   | (refine wpList_load_row rfl 108 (.tmp 12) rfl _ rfl _ _ _ _ HG10.out Tryz.underlying108 rfl hiT ?_)
   | (refine wpList_store_row rfl 108 (.tmp 6) (.tmp 34) rfl _ _ rfl rfl _ _ HB67.out hiT hzT hTo ?_))
  refine bodyPost_ret (v:=.agg AT) (results_cell_row rfl _ _ _ _ _ _ _ rfl (setRow_heap w7 _ _ AT 108 (0,0) HB67.out) Tryz.underlying108 rfl hiT) rfl ?_;exact ⟨AT,t,rfl,hfin,htv,htn,hhas,hEf⟩
theorem Dq {P:Program} {ops:Array Oper} {rest:List Oper} {o:Oper} {a:Act} {w:World} {Q:Exit→Act→World→Prop} (hw:Region.wanted o (yielded ops a.tmps)=true) (h:o.wp P a w (wpList P ops Q rest) Q):wpList P ops Q (o::rest) a w:=by
 show if _ then _ else _
 rw [if_pos hw];exact .inl h
theorem ResOf.form {W:World} {e:Ending} {r:Option Dfa} (h:ResOf W e r):∃ ac lc cc an ln cn aa la ca k,e=.returned (.tuple #[.agg (dA (.slice ac lc cc) (.slice an ln cn) (.slice aa la ca)),.int .i64 k]):=by
 cases r with
 | none=>exact ⟨none,0,0,none,0,0,none,0,0,2,h⟩
 | some d=>
  obtain ⟨v,he,hD⟩:=h;obtain ⟨ac,lc,cc,an,cn,aa,la,ca,rfl⟩:=hD.agg;exact ⟨_,_,_,_,_,_,_,_,_,_,he⟩
theorem ResOf.ext {W W':World} {e:Ending} {r:Option Dfa} (h:ResOf W e r) (hE:Ext W W'):ResOf W' e r:=by
 cases r with
 | none=>exact h
 | some d=>
  obtain ⟨v,he,hD⟩:=h;exact ⟨v,he,hD.ext hE⟩
theorem ResOf.setRow {W:World} {e:Ending} {r:Option Dfa} (h:ResOf W e r) (hv:∀ d,r=some d→Val d) {g:Nat} {t:TypeId} {fr:Nat × Nat} (hg:W.heap[g]? = some (.cells #[.slice none 0 0,.slice none 0 0,.slice none 0 0] t fr)) (cs:Array Value):ResOf (W.setRow g cs) e r:=by
 cases r with
 | none=>exact h
 | some d=>
  obtain ⟨v,he,hD⟩:=h;exact ⟨v,he,hD.setRow (hv d rfl) hg cs⟩
theorem Gl {L:List UInt8→Prop} {r:Option Dfa} (h:Lim L r) (d:Dfa) (hd:r=some d):Val d:=by
 subst hd;exact h.1.val
set_option maxHeartbeats 1000000 in
theorem Vv (a b:Dfa) (ha:Val a) (hb:Val b) (hna:a.nxt.length≤64) (hnb:b.nxt.length≤64) (gh:Nat) (g:Bool→Bool→Bool) (hg:Ii gh g) (eh:∀ args w,(callFunc gh args).run Tryz.prog w=.ok (.enter gh args) w) (va vb:Value) (w:World) (hT:Tab w) (hsz:0<w.heap.size) (hva:IsD w va a) (hvb:IsD w vb b) :
  Calls Tryz.prog 78 #[va,vb,.func (.func gh) #[] #[]] w fun e w'=>∃ r,ResOf w' e r∧Lim (fun u=>g (a.has u) (b.has u)=true) r∧Ext w w':=by
 have HDa:=Lib.hid hva;have HDb:=Lib.hid hvb;obtain ⟨ac,lc,cc,an,cn,aa,la,ca,rfl⟩:=hva.agg;obtain ⟨ac',lc',cc',an',cn',aa',la',ca',rfl⟩:=hvb.agg;have f47a:=fun W (hW:Ext w W)=>Lib.hid (Dr a ha hna _ W (HDa.out.ext hW))
 have f47b:=fun W (hW:Ext w W)=>Lib.hid (Dr b hb hnb _ W (HDb.out.ext hW))
 have f85:=fun W (hW:Ext w W)=>Lib.hid (Su a b ha hb hna hnb gh g hg eh _ _ W (hT.below hW.below hsz) (Nat.lt_of_lt_of_le hsz hW.size) (HDa.out.ext hW) (HDb.out.ext hW))
 obtain ⟨Va,hVa⟩:∃ X,dA (.slice ac lc cc) (.slice an a.nxt.length cn) (.slice aa la ca)=X:=⟨_,rfl⟩;obtain ⟨Vb,hVb⟩:∃ X,dA (.slice ac' lc' cc') (.slice an' b.nxt.length cn') (.slice aa' la' ca')=X:=⟨_,rfl⟩;have hiVa:(Tryz.prog.info? 30).map (·.size)=some Va.size:=by rw [← hVa];exact Ad
 have hiVb:(Tryz.prog.info? 30).map (·.size)=some Vb.size:=by rw [← hVb];exact Ad
 rw [hVa] at f47a f85 HDa;rw [hVb] at f47b f85 HDb;rw [hVa,hVb];have hE0:=(((Ext.refl w).alloc (.cells Va 30)).alloc (.cells Vb 30)).alloc (.cells #[.slice none 0 0,.slice none 0 0,.slice none 0 0] 30);have H3:=Af (Af (Ab w (.cells Va 30)) (.cells Vb 30)) (.cells #[.slice none 0 0,.slice none 0 0,.slice none 0 0] 30);have H4:=Af (heap_alloc2_new w (.cells Va 30) (.cells Vb 30)) (.cells #[.slice none 0 0,.slice none 0 0,.slice none 0 0] 30);have H6:=Ab ((w.alloc (.cells Va 30)).alloc (.cells Vb 30)) (.cells #[.slice none 0 0,.slice none 0 0,.slice none 0 0] 30);rw [World.size_alloc,World.size_alloc] at H6;clear hva hvb ha hb hg hT hVa hVb;go_enter Tryz.func78,Tryz.ntmps78;go_upto_region 1 with (fail)
 obtain ⟨w1,hw1⟩:∃ W,((w.alloc (.cells Va 30)).alloc (.cells Vb 30)).alloc (.cells #[.slice none 0 0,.slice none 0 0,.slice none 0 0] 30)=W:=⟨_,rfl⟩;have hs1:w.heap.size+1+1<w1.heap.size:=by rw [← hw1,World.size_alloc,World.size_alloc,World.size_alloc];omega
 rw [hw1] at hE0 H3 H4 H6;simp only [hw1];clear hw1;have HB3:=Lib.hid H3;have HB4:=Lib.hid H4;have HB6:=Lib.hid H6;clear H3 H4 H6;go_upto_region 3 with (first
  | (refine wpList_load_row rfl 30 (.tmp 3) rfl _ rfl _ _ _ _ HB3.out Tryz.underlying30 rfl hiVa ?_)
  | (refine Dq rfl (wp_load_row 30 (.tmp 4) rfl _ rfl _ _ _ _ HB4.out Tryz.underlying30 rfl hiVb ?_))
  | (go_at_call 47;(with_reducible refine (f47a _ hE0).out.mono ?_);rintro e w2 ⟨rfl,hE2⟩;have hE3:=hE0.trans hE2;have HB4:=Lib.hid (hE2.heap HB4.out))
  | (go_at_call 47;(with_reducible refine (f47b _ hE3).out.mono ?_);rintro e w3 ⟨rfl,hE4⟩;have hE5:=hE3.trans hE4))
 have HB3:=Lib.hid ((hE2.trans hE4).heap HB3.out);have HB4:=Lib.hid (hE4.heap HB4.out);have HB6:=Lib.hid ((hE2.trans hE4).heap HB6.out);have HE5:=Lib.hid hE5;have hs5:=hE5.size;clear f47a f47b hE0 hE2 hE3 hE4;go_wp2_with (first
  | (refine wpList_load_row rfl 30 (.tmp 3) rfl _ rfl _ _ _ _ HB3.out Tryz.underlying30 rfl hiVa ?_)
  | (refine wpList_load_row rfl 30 (.tmp 4) rfl _ rfl _ _ _ _ HB4.out Tryz.underlying30 rfl hiVb ?_)
  | (go_at_call 85;(with_reducible refine (f85 _ HE5.out).out.mono ?_);rintro e w4 ⟨A,t,rfl,hIT,htv,htn,hhas,hE6⟩;have hL:=Lib.hid (Ot t htv (show t.nxt.length≤65536 by omega) A w4 hIT);have HH:=Lib.hid hhas;clear hhas)
  | (go_at_call 77;(with_reducible refine hL.out.mono ?_);rintro e w5 ⟨r,hres,hlim,hE7⟩;obtain ⟨ac1,lc1,cc1,an1,ln1,cn1,aa1,la1,ca1,k1,rfl⟩:=hres.form;have HRes:=Lib.hid hres;have HLim:=Lib.hid hlim;clear hres hlim;have HB6:=Lib.hid ((hE6.trans hE7).heap HB6.out))
  | (refine wpList_store_row rfl 30 (.tmp 6) (.tmp 22) rfl _ _ rfl rfl _ _ HB6.out Ad rfl (An _ _ _ rfl rfl rfl) ?_))
 refine bodyPost_ret (v:=.tuple #[.agg (dA (.slice ac1 lc1 cc1) (.slice an1 ln1 cn1) (.slice aa1 la1 ca1)),.int .i64 k1]) (A2 rfl _ _ _ _ _ _ _ rfl _ rfl (setRow_heap w5 _ _ (dA (.slice ac1 lc1 cc1) (.slice an1 ln1 cn1) (.slice aa1 la1 ca1)) 30 (0,0) HB6.out) Tryz.underlying30 rfl Ad) rfl ?_;exact ⟨r,HRes.out.setRow (Gl HLim.out) HB6.out _,Gm HLim.out (fun u=>by rw [HH.out]),((HE5.out.trans hE6).trans hE7).setRow (by omega) _⟩
set_option maxHeartbeats 1000000 in
theorem Od (a b:Dfa) (ha:Val a) (hb:Val b) (hna:a.nxt.length≤64) (hnb:b.nxt.length≤64) (va vb:Value) (w:World) (hT:Tab w) (hsz:0<w.heap.size) (hva:IsD w va a) (hvb:IsD w vb b) :
  Calls Tryz.prog 33 #[va,vb] w fun e w'=>∃ r,ResOf w' e r∧Lim (fun u=>a.has u=true∨b.has u=true) r∧Ext w w':=by
 have HDa:=Lib.hid hva;have HDb:=Lib.hid hvb;obtain ⟨ac,lc,cc,an,cn,aa,la,ca,rfl⟩:=hva.agg;obtain ⟨ac',lc',cc',an',cn',aa',la',ca',rfl⟩:=hvb.agg;have f78:=fun W (hW:Ext w W)=>Lib.hid (Vv a b ha hb hna hnb 79 (fun x y=>x||y) Acw (enters_of Tryz.func79 (by kernel_rfl) rfl) _ _ W (hT.below hW.below hsz) (Nat.lt_of_lt_of_le hsz hW.size) (HDa.out.ext hW) (HDb.out.ext hW))
 obtain ⟨Va,hVa⟩:∃ X,dA (.slice ac lc cc) (.slice an a.nxt.length cn) (.slice aa la ca)=X:=⟨_,rfl⟩;obtain ⟨Vb,hVb⟩:∃ X,dA (.slice ac' lc' cc') (.slice an' b.nxt.length cn') (.slice aa' la' ca')=X:=⟨_,rfl⟩;have hiVa:(Tryz.prog.info? 30).map (·.size)=some Va.size:=by rw [← hVa];exact Ad
 have hiVb:(Tryz.prog.info? 30).map (·.size)=some Vb.size:=by rw [← hVb];exact Ad
 rw [hVa] at f78 HDa;rw [hVb] at f78 HDb;rw [hVa,hVb];have hE0:=(((Ext.refl w).alloc (.cells Va 30)).alloc (.cells Vb 30)).alloc (.cells #[.slice none 0 0,.slice none 0 0,.slice none 0 0] 30);have H3:=Af (Af (Ab w (.cells Va 30)) (.cells Vb 30)) (.cells #[.slice none 0 0,.slice none 0 0,.slice none 0 0] 30);have H4:=Af (heap_alloc2_new w (.cells Va 30) (.cells Vb 30)) (.cells #[.slice none 0 0,.slice none 0 0,.slice none 0 0] 30);have H6:=Ab ((w.alloc (.cells Va 30)).alloc (.cells Vb 30)) (.cells #[.slice none 0 0,.slice none 0 0,.slice none 0 0] 30);rw [World.size_alloc,World.size_alloc] at H6;clear hva hvb ha hb hT hVa hVb;go_enter Tryz.func33,Tryz.ntmps33;go_upto_region 1 with (fail)
 obtain ⟨w1,hw1⟩:∃ W,((w.alloc (.cells Va 30)).alloc (.cells Vb 30)).alloc (.cells #[.slice none 0 0,.slice none 0 0,.slice none 0 0] 30)=W:=⟨_,rfl⟩;rw [hw1] at hE0 H3 H4 H6;simp only [hw1];clear hw1;have HB3:=Lib.hid H3;have HB4:=Lib.hid H4;have HB6:=Lib.hid H6;have HE0:=Lib.hid hE0;clear H3 H4 H6 hE0;go_wp2_with (first
  | (refine wpList_load_row rfl 30 (.tmp 2) rfl _ rfl _ _ _ _ HB3.out Tryz.underlying30 rfl hiVa ?_)
  | (refine wpList_load_row rfl 30 (.tmp 3) rfl _ rfl _ _ _ _ HB4.out Tryz.underlying30 rfl hiVb ?_)
  | (go_at_call 78;(with_reducible refine (f78 _ HE0.out).out.mono ?_);rintro e w5 ⟨r,hres,hlim,hE7⟩;obtain ⟨ac1,lc1,cc1,an1,ln1,cn1,aa1,la1,ca1,k1,rfl⟩:=hres.form;have HRes:=Lib.hid hres;have HLim:=Lib.hid hlim;clear hres hlim;have HB6:=Lib.hid (hE7.heap HB6.out))
  | (refine wpList_store_row rfl 30 (.tmp 4) (.tmp 9) rfl _ _ rfl rfl _ _ HB6.out Ad rfl (An _ _ _ rfl rfl rfl) ?_))
 refine bodyPost_ret (v:=.tuple #[.agg (dA (.slice ac1 lc1 cc1) (.slice an1 ln1 cn1) (.slice aa1 la1 ca1)),.int .i64 k1]) (A2 rfl _ _ _ _ _ _ _ rfl _ rfl (setRow_heap w5 _ _ (dA (.slice ac1 lc1 cc1) (.slice an1 ln1 cn1) (.slice aa1 la1 ca1)) 30 (0,0) HB6.out) Tryz.underlying30 rfl Ad) rfl ?_;exact ⟨r,HRes.out.setRow (Gl HLim.out) HB6.out _,Gm HLim.out (fun u=>by simp),(HE0.out.trans hE7).setRow (by omega) _⟩
set_option maxHeartbeats 1000000 in
theorem Ajl (a b:Dfa) (ha:Val a) (hb:Val b) (hna:a.nxt.length≤64) (hnb:b.nxt.length≤64) (va vb:Value) (w:World) (hT:Tab w) (hsz:0<w.heap.size) (hva:IsD w va a) (hvb:IsD w vb b) :
  Calls Tryz.prog 34 #[va,vb] w fun e w'=>∃ r,ResOf w' e r∧Lim (fun u=>a.has u=true∧b.has u=true) r∧Ext w w':=by
 have HDa:=Lib.hid hva;have HDb:=Lib.hid hvb;obtain ⟨ac,lc,cc,an,cn,aa,la,ca,rfl⟩:=hva.agg;obtain ⟨ac',lc',cc',an',cn',aa',la',ca',rfl⟩:=hvb.agg;have f78:=fun W (hW:Ext w W)=>Lib.hid (Vv a b ha hb hna hnb 80 (fun x y=>x&&y) Ajj (enters_of Tryz.func80 (by kernel_rfl) rfl) _ _ W (hT.below hW.below hsz) (Nat.lt_of_lt_of_le hsz hW.size) (HDa.out.ext hW) (HDb.out.ext hW))
 obtain ⟨Va,hVa⟩:∃ X,dA (.slice ac lc cc) (.slice an a.nxt.length cn) (.slice aa la ca)=X:=⟨_,rfl⟩;obtain ⟨Vb,hVb⟩:∃ X,dA (.slice ac' lc' cc') (.slice an' b.nxt.length cn') (.slice aa' la' ca')=X:=⟨_,rfl⟩;have hiVa:(Tryz.prog.info? 30).map (·.size)=some Va.size:=by rw [← hVa];exact Ad
 have hiVb:(Tryz.prog.info? 30).map (·.size)=some Vb.size:=by rw [← hVb];exact Ad
 rw [hVa] at f78 HDa;rw [hVb] at f78 HDb;rw [hVa,hVb];have hE0:=(((Ext.refl w).alloc (.cells Va 30)).alloc (.cells Vb 30)).alloc (.cells #[.slice none 0 0,.slice none 0 0,.slice none 0 0] 30);have H3:=Af (Af (Ab w (.cells Va 30)) (.cells Vb 30)) (.cells #[.slice none 0 0,.slice none 0 0,.slice none 0 0] 30);have H4:=Af (heap_alloc2_new w (.cells Va 30) (.cells Vb 30)) (.cells #[.slice none 0 0,.slice none 0 0,.slice none 0 0] 30);have H6:=Ab ((w.alloc (.cells Va 30)).alloc (.cells Vb 30)) (.cells #[.slice none 0 0,.slice none 0 0,.slice none 0 0] 30);rw [World.size_alloc,World.size_alloc] at H6;clear hva hvb ha hb hT hVa hVb;go_enter Tryz.func34,Tryz.ntmps34;go_upto_region 1 with (fail)
 obtain ⟨w1,hw1⟩:∃ W,((w.alloc (.cells Va 30)).alloc (.cells Vb 30)).alloc (.cells #[.slice none 0 0,.slice none 0 0,.slice none 0 0] 30)=W:=⟨_,rfl⟩;rw [hw1] at hE0 H3 H4 H6;simp only [hw1];clear hw1;have HB3:=Lib.hid H3;have HB4:=Lib.hid H4;have HB6:=Lib.hid H6;have HE0:=Lib.hid hE0;clear H3 H4 H6 hE0;go_wp2_with (first
  | (refine wpList_load_row rfl 30 (.tmp 2) rfl _ rfl _ _ _ _ HB3.out Tryz.underlying30 rfl hiVa ?_)
  | (refine wpList_load_row rfl 30 (.tmp 3) rfl _ rfl _ _ _ _ HB4.out Tryz.underlying30 rfl hiVb ?_)
  | (go_at_call 78;(with_reducible refine (f78 _ HE0.out).out.mono ?_);rintro e w5 ⟨r,hres,hlim,hE7⟩;obtain ⟨ac1,lc1,cc1,an1,ln1,cn1,aa1,la1,ca1,k1,rfl⟩:=hres.form;have HRes:=Lib.hid hres;have HLim:=Lib.hid hlim;clear hres hlim;have HB6:=Lib.hid (hE7.heap HB6.out))
  | (refine wpList_store_row rfl 30 (.tmp 4) (.tmp 9) rfl _ _ rfl rfl _ _ HB6.out Ad rfl (An _ _ _ rfl rfl rfl) ?_))
 refine bodyPost_ret (v:=.tuple #[.agg (dA (.slice ac1 lc1 cc1) (.slice an1 ln1 cn1) (.slice aa1 la1 ca1)),.int .i64 k1]) (A2 rfl _ _ _ _ _ _ _ rfl _ rfl (setRow_heap w5 _ _ (dA (.slice ac1 lc1 cc1) (.slice an1 ln1 cn1) (.slice aa1 la1 ca1)) 30 (0,0) HB6.out) Tryz.underlying30 rfl Ad) rfl ?_;exact ⟨r,HRes.out.setRow (Gl HLim.out) HB6.out _,Gm HLim.out (fun u=>by simp),(HE0.out.trans hE7).setRow (by omega) _⟩
theorem Wy (S q:Nat) (hS:S<18446744073709551616):(bits BinOp.and IntKind.u64 ((S:Int) / 2 ^ q) 1==1)=S.testBit q:=by
 have e3:((S:Nat):Int) / 2 ^ q=((S / 2 ^ q:Nat):Int):=by rw [Int.natCast_ediv];simp
 have hlt:S / 2 ^ q<18446744073709551616:=Nat.lt_of_le_of_lt (Nat.div_le_self _ _) hS;rw [e3,show (1:Int)=((1:Nat):Int) from rfl,u64_and_nat _ _ hlt (by omega),Nat.testBit_eq_decide_div_mod_eq,Nat.and_one_is_mod];generalize S / 2 ^ q=m;rw [Bool.eq_iff_iff];simp;omega
theorem Zu (t:Tbl) (S:Nat) (h:∀ q,q<t.nxt.length→(t.ok q&&S.testBit q)=false):Cd t S=false:=by
 rw [← Bool.not_eq_true,Iv];rintro ⟨q,hq,h1,h2⟩;have:=h q hq;rw [h1,h2] at this;cases this
theorem Zv (t:Tbl) (S q:Nat) (hq:q<t.nxt.length) (h:(t.ok q&&S.testBit q)=true):Cd t S=true:=by
 rw [Bool.and_eq_true] at h;exact (Iv t S).2 ⟨q,hq,h.1,h.2⟩
set_option maxHeartbeats 2000000 in
theorem Na (t:Tbl) (hv:TVal t) (hn:t.nxt.length≤64) (A:Array Value) (S:Nat) (hS:S<18446744073709551616) (w:World) (h:IsT w A t) :
  Calls Tryz.prog 76 #[.agg A,.agg #[.int .u64 (S:Int)]] w fun e w'=>e=.returned (.bool (Cd t S))∧Ext w w':=by
 obtain ⟨bn,on,cn,ba,oa,ca,hAs,hAo,_,_,_,hA8,_,hacc⟩:=h.opened hv;have hn0:=hv.pos;have HAcc:=Lib.hid hacc;have hE0:=((Ext.refl w).alloc (.cells A 108)).alloc (.cells #[.int .u64 (S:Int)] 114);have H0:=Af (Ab w (.cells A 108)) (.cells #[.int .u64 (S:Int)] 114);have H1:=heap_alloc2_new w (.cells A 108) (.cells #[.int .u64 (S:Int)] 114);clear hacc hv h;go_enter Tryz.func76,Tryz.ntmps76;go_upto_region 1 with (fail)
 generalize (w.alloc (.cells A 108)).alloc (.cells #[.int .u64 (S:Int)] 114)=w1 at *;have k8:=(cell_of_row w1 w.heap.size 258 _ _ _ H0).trans hA8;have HK:=Lib.hid (fun (W:World) (hW:Ext w1 W)=>(cell_of_row W (w.heap.size+1) 0 _ _ _ (hW.heap H1)).trans rfl);clear H0 H1 hA8 hAo hAs;go_wp2_with (fail);clear k8;go_loopw [10] (fun i W=>∃ k:Nat,k≤t.nxt.length∧i=.int .i64 k∧Ext w1 W∧Hid (∀ q,q<k→(t.ok q&&S.testBit q)=false)) (fun i _=>t.nxt.length-(intOf i).toNat)
 case atStart=>exact ⟨0,by omega,rfl,Ext.refl w1,Lib.hid (fun q hq=>by omega)⟩
 case round=>
  obtain ⟨k,hk,rfl,hE,hall⟩:=hrel;by_cases hlt:k<t.nxt.length
  ·have ca:=(hE0.trans hE).cell (HAcc.out k hlt);have cs:=HK.out wr hE;have hb:=Wy S k hS;have HH:=Lib.hid (Zv t S k hlt);have hall':Hid ((t.ok k&&S.testBit k)=false→∀ q,q<k+1→(t.ok q&&S.testBit q)=false):=Lib.hid fun h0 q hq=>by
    by_cases e:q=k
    ·subst e;exact h0
    ·exact hall.out q (by omega)
   generalize t.ok k=b1 at *;generalize S.testBit k=b2 at *;cases b1
   ·go_wp2;go_roundw
    case rel=>exact ⟨k+1,by omega,by go_num,hE,Lib.hid (hall'.out rfl)⟩
    case measure=>simp [intOf];omega
   ·cases b2
    ·go_wp2;go_roundw
     case rel=>exact ⟨k+1,by omega,by go_num,hE,Lib.hid (hall'.out rfl)⟩
     case measure=>simp [intOf];omega
    ·have HF:=Lib.hid (HH.out rfl);go_wp2;go_ret;exact ⟨Hf HF.out.symm,hE0.trans hE⟩
  ·obtain rfl:k=t.nxt.length:=by omega
   have HF:=Lib.hid (Zu t S hall.out);go_wp2;go_ret;exact ⟨Hf HF.out.symm,hE0.trans hE⟩
theorem Ha {t:Tbl} (hv:TVal t) (hn:t.nxt.length≤64) (S c:Nat) (hc:c<256):∀ n,n≤t.nxt.length→Aq t S c n<18446744073709551616
 | 0,_=>by simp [Aq]
 | n+1,h=>by
  have ih:=Ha hv hn S c hc n (by omega);simp only [Aq];split
  ·have h1:=hv.stp_lt (s:=n) (by omega) hc;have h2:2 ^ t.stp n c<2 ^ 64:=Nat.pow_lt_pow_right (by omega) (by omega);have:=Nat.or_lt_two_pow (x:=Aq t S c n) (y:=2 ^ t.stp n c) (n:=64) ih h2;exact this
  ·exact ih
theorem Ta (x:Int):(#[Value.int .u64 x]).all (·.oneCell')=true:=by simp [Value.oneCell']
theorem Acz (x r:Nat) (hx:x<18446744073709551616) (hr:r<64):bits BinOp.or IntKind.u64 (x:Int) (IntKind.u64.wrap (2 ^ r))=((x ||| 2 ^ r:Nat):Int):=by
 rw [Ms r hr,u64_or_nat _ _ hx (Ky r hr)]
set_option maxHeartbeats 2000000 in
theorem Rf (t:Tbl) (hv:TVal t) (hn:t.nxt.length≤64) (A:Array Value) (S:Nat) (hS:S<18446744073709551616) (c:Nat) (hc:c<256) (w:World) (h:IsT w A t) :
  Calls Tryz.prog 73 #[.agg A,.agg #[.int .u64 (S:Int)],.int .i64 (c:Int)] w fun e w'=>e=.returned (.agg #[.int .u64 (Aq t S c t.nxt.length:Nat)])∧Ext w w':=by
 obtain ⟨bn,on,cn,ba,oa,ca,hAs,hAo,hAc,_,hA7,_,hR,_⟩:=h.opened hv;have hn0:=hv.pos;have HR:=Lib.hid hR;have HV:=Lib.hid hv;have hE0:=((((Ext.refl w).alloc (.cells A 108)).alloc (.cells #[.int .u64 (S:Int)] 114)).alloc (.cells #[.int .u64 0] 114)).alloc (.cells #[.int .u64 0] 114);have H0:=Af (Af (Af (Ab w (.cells A 108)) (.cells #[.int .u64 (S:Int)] 114)) (.cells #[.int .u64 0] 114)) (.cells #[.int .u64 0] 114);have H1:=Af (Af (heap_alloc2_new w (.cells A 108) (.cells #[.int .u64 (S:Int)] 114)) (.cells #[.int .u64 0] 114)) (.cells #[.int .u64 0] 114);have H2:=Af (Ab ((w.alloc (.cells A 108)).alloc (.cells #[.int .u64 (S:Int)] 114)) (.cells #[.int .u64 0] 114)) (.cells #[.int .u64 0] 114);have H3:=Ab (((w.alloc (.cells A 108)).alloc (.cells #[.int .u64 (S:Int)] 114)).alloc (.cells #[.int .u64 0] 114)) (.cells #[.int .u64 0] 114);rw [World.size_alloc,World.size_alloc] at H2;rw [World.size_alloc,World.size_alloc,World.size_alloc] at H3;clear hR hv h;go_enter Tryz.func73,Tryz.ntmps73;go_upto_region 2 with (fail)
 obtain ⟨w2,hw2⟩:∃ W,(((w.alloc (.cells A 108)).alloc (.cells #[.int .u64 (S:Int)] 114)).alloc (.cells #[.int .u64 0] 114)).alloc (.cells #[.int .u64 0] 114)=W:=⟨_,rfl⟩;simp only [hw2] at *;clear hw2;have HA7:=Lib.hid hA7;have HAC:=Lib.hid hAc;have k7:=(cell_of_row w2 w.heap.size 257 _ _ _ H0).trans hA7;have HH0:=Lib.hid H0;have HH1:=Lib.hid H1;have HH2:=Lib.hid H2;have HH3:=Lib.hid H3;clear H0 H1 H2 H3 hA7 hAc hAo hAs;go_wp2_with (fail);clear k7;go_loopw [12] (fun i W=>∃ k:Nat,k≤t.nxt.length∧i=.int .i64 k∧Ext w W∧W.heap[w.heap.size]? = some (.cells A 108 (0,0))∧W.heap[w.heap.size+1]? = some (.cells #[.int .u64 (S:Int)] 114 (0,0))∧
   W.heap[w.heap.size+1+1]? = some (.cells #[.int .u64 0] 114 (0,0))∧W.heap[w.heap.size+1+1+1]? = some (.cells #[.int .u64 (Aq t S c k:Nat)] 114 (0,0))) (fun i _=>t.nxt.length-(intOf i).toNat)
 case atStart=>exact ⟨0,by omega,rfl,hE0,HH0.out,HH1.out,HH2.out,HH3.out⟩
 case round=>
  obtain ⟨k,hk,rfl,hE,hB0,hB1,hB2,hB3⟩:=hrel;have HB0:=Lib.hid hB0;have HB1:=Lib.hid hB1;have HB2:=Lib.hid hB2;have HB3:=Lib.hid hB3;clear hB0 hB1 hB2 hB3;by_cases hlt:k<t.nxt.length
  ·have cS:=(cell_of_row wr (w.heap.size+1) 0 _ _ _ HB1.out).trans (show (#[Value.int .u64 (S:Int)])[0]? = some (.int .u64 (S:Int)) from rfl);have hb:=Wy S k hS;have HT:Hid (Aq t S c (k+1)=if S.testBit k then Aq t S c k ||| 2 ^ t.stp k c else Aq t S c k):=Lib.hid rfl;have htl:=Ha HV.out hn S c hc k (by omega);have hr64:t.stp k c<64:=by have:=HV.out.stp_lt hlt hc;omega
   generalize S.testBit k=b at *;cases b
   ·have hT:=HT.out;simp only [Bool.false_eq_true,if_false] at hT;have HT:=Lib.hid hT;clear hT;go_wp2;go_roundw
    case rel=>exact ⟨k+1,by omega,by go_num,hE,HB0.out,HB1.out,HB2.out,by rw [HT.out];exact HB3.out⟩
    case measure=>simp [intOf];omega
   ·have hT:=HT.out;simp only [if_true] at hT;have HT:=Lib.hid hT;have hcell:=HV.out.cell_lt c hc;obtain ⟨br,or',cr,hrc,hrr⟩:=HR.out k hlt;have r1:=Aw (hE.cell hrc);have r2:=Aw (hE.cell (hrr _ hcell));have k7:=Aw ((cell_of_row wr w.heap.size 257 _ _ _ HB0.out).trans HA7.out);have kc:=Aw ((cell_of_row wr w.heap.size c _ _ _ HB0.out).trans (HAC.out c hc));have ko:=Aw ((cell_of_row wr (w.heap.size+1+1+1) 0 _ _ _ HB3.out).trans (show (#[Value.int .u64 (Aq t S c k:Nat)])[0]? = some (.int .u64 (Aq t S c k:Nat)) from rfl));have hst:t.ent2 k (t.cell c)=t.stp k c:=rfl;rw [hst] at r2;have HO:=Lib.hid (Acz (Aq t S c k) (t.stp k c) htl hr64);clear hst hrc hrr htl hT;have hci:(c:Int)<256:=by omega
    generalize Aq t S c k=x at *;generalize t.stp k c=r at *;generalize t.cell c=q at *;go_upto_region 6 with (fail)
    refine Aa5 16 (by kernel_rfl) (by kernel_rfl) ?_;simp only [List.take_succ_cons,List.take_zero,List.drop_succ_cons,List.drop_zero];iterate 16 (with_reducible refine wpQuiet_step (fun K hK=>?_);go_simp;(refine hK _ ?_;clear hK K))
    refine wpQuiet_nil ?_;rintro _ ⟨e,rfl⟩;have HB0:=Lib.hid (e.ext.heap HB0.out);have HB1:=Lib.hid (e.ext.heap HB1.out);have HB2:=Lib.hid (e.ext.heap HB2.out);have HB3:=Lib.hid (e.ext.heap HB3.out);have hE':=hE.trans e.ext;have ko':=ko e;have fo:=frozen_of_row e.W (w.heap.size+1+1+1) 0 _ _ HB3.out;clear r1 r2 k7 kc ko cS;generalize e.W=w5 at *;go_wp2;go_roundw
    case rel=>
     rw [setCell_eq_setRow w5 _ _ _ _ _ _ HB3.out,HO.out];refine ⟨k+1,by omega,by go_num,hE'.setRow (by omega) _,Bg HB0.out (by omega) _,Bg HB1.out (by omega) _,Bg HB2.out (by omega) _,?_⟩;rw [HT.out];exact setRow_heap w5 _ _ _ _ _ HB3.out
    case measure=>simp [intOf];omega
  ·obtain rfl:k=t.nxt.length:=by omega
   have i114:(Tryz.prog.info? 114).map (·.size)=some 1:=by kernel_rfl
   go_wp2_with (first
    | (refine wpList_load_row rfl 114 (.tmp 7) rfl _ rfl _ _ _ _ HB3.out Tryz.underlying114 rfl i114 ?_)
    | (refine wpList_store_row rfl 114 (.tmp 6) (.tmp 38) rfl _ _ rfl rfl _ _ HB2.out i114 rfl (Ta _) ?_))
   refine bodyPost_ret (v:=.agg #[.int .u64 (Aq t S c t.nxt.length:Nat)]) (results_cell_row rfl _ _ _ _ _ _ _ rfl (setRow_heap wr _ _ #[.int .u64 (Aq t S c t.nxt.length:Nat)] 114 (0,0) HB2.out) Tryz.underlying114 rfl i114) rfl ?_;exact ⟨rfl,hE.setRow (by omega) _⟩
end Go.Proofs.YtaiogolidlamiaaGreatDoor
