import Derived.Laws.EntriesVeiled
import Derived.Test.YtaiogolidlamiaaGreatDoorM20
import Derived.Test.YtaiogolidlamiaaGreatDoorM14
set_option linter.unusedVariables false
set_option linter.unusedSimpArgs false
namespace Go.Proofs.YtaiogolidlamiaaGreatDoor
set_option maxRecDepth 100000
open Go.RowKit Go.Shelf
def CanT (a:Dfa) (A:Array Value) (W:World):Prop:=∃ d,Cano d∧(∀ u,d.has u=a.has u)∧∀ W',Near W W'→IsT W' A (Ae d)
def PtrF (n0:Nat) (v:Value) (W:World):Prop:=∃ g,v=.pointer (some ⟨g,0,none⟩)∧W.heap[g]? = some (.cells Tryz.zeroCells108 108 (0,0))∧n0≤g
def Ol (w0:World) (n0:Nat) (va vb:Array Value) (a b:Dfa):Nat→Value→World→Prop
 | 0,v,_=>v=.agg va
 | 1,v,_=>∃ A,v=.agg A∧IsT w0 A (Ae a)
 | 2,v,W=>∃ d,Cano d∧(∀ u,d.has u=a.has u)∧∀ W',Near W W'→IsD W' v d
 | 3,v,W=>∃ A,v=.agg A∧CanT a A W
 | 4,v,_=>v=.agg vb
 | 5,v,_=>∃ A,v=.agg A∧IsT w0 A (Ae b)
 | 6,v,W=>∃ d,Cano d∧(∀ u,d.has u=b.has u)∧∀ W',Near W W'→IsD W' v d
 | 7,v,W=>∃ A,v=.agg A∧CanT b A W
 | _,v,W=>PtrF n0 v W
def Ok (i j:Nat) (v u:Value):Prop:=(i=8∧j=9∨i=9∧j=8)→v≠u
theorem Agl (i j:Nat) (v u:Value) (h:Ok i j v u):Ok j i u v:=fun hij=>(h (by omega)).symm
theorem CanT.ext {a:Dfa} {A:Array Value} {W W':World} (h:CanT a A W) (hE:Ext W W'):CanT a A W':=by
 obtain ⟨d,h1,h2,h3⟩:=h;exact ⟨d,h1,h2,fun W2 hN=>h3 W2 (hN.pre hE)⟩
theorem PtrF.ext {n0:Nat} {v:Value} {W W':World} (h:PtrF n0 v W) (hE:Ext W W'):PtrF n0 v W':=by
 obtain ⟨g,h1,h2,h3⟩:=h;exact ⟨g,h1,hE.heap h2,h3⟩
theorem Agm (w0:World) (n0:Nat) (va vb:Array Value) (a b:Dfa):∀ (i:Nat) (v:Value) (w w':World),Ol w0 n0 va vb a b i v w→Ext w w'→Ol w0 n0 va vb a b i v w'
 | 0,_,_,_,h,_=>h
 | 1,_,_,_,h,_=>h
 | 2,_,_,_,⟨d,h1,h2,h3⟩,hE=>⟨d,h1,h2,fun W2 hN=>h3 W2 (hN.pre hE)⟩
 | 3,_,_,_,⟨A,h1,h2⟩,hE=>⟨A,h1,h2.ext hE⟩
 | 4,_,_,_,h,_=>h
 | 5,_,_,_,h,_=>h
 | 6,_,_,_,⟨d,h1,h2,h3⟩,hE=>⟨d,h1,h2,fun W2 hN=>h3 W2 (hN.pre hE)⟩
 | 7,_,_,_,⟨A,h1,h2⟩,hE=>⟨A,h1,h2.ext hE⟩
 | _+8,_,_,_,h,hE=>PtrF.ext h hE
def TabF (bo:Bool) (L:List UInt8→Prop) (A:Array Value) (W:World):Prop:=A.size=259∧A.all (·.oneCell')=true∧
 (bo=true→∃ t,TVal t∧t.nxt.length≤4096∧(∀ u,t.has u=true↔L u)∧∀ W',Near W W'→IsT W' A t)
theorem TabF.ext {bo:Bool} {L:List UInt8→Prop} {A:Array Value} {W W':World} (h:TabF bo L A W) (hE:Ext W W'):TabF bo L A W':=by
 obtain ⟨h1,h2,h3⟩:=h;refine ⟨h1,h2,fun hb=>?_⟩;obtain ⟨t,t1,t2,t3,t4⟩:=h3 hb;exact ⟨t,t1,t2,t3,fun W2 hN=>t4 W2 (hN.pre hE)⟩
def N9 (n0:Nat) (va:Array Value) (vj f1:Value) (vs:Value) (f2 f3:Value) (bo:Bool) (L:List UInt8→Prop):Nat→Value→World→Prop
 | 0,v,_=>v=.agg va
 | 1,v,_=>v=vj
 | 2,v,_=>v=f1
 | 3,v,_=>v=.agg #[.int .i64 0,.int .i64 0,.int .u64 0]
 | 4,v,_=>v=vs
 | 5,v,_=>v=f2
 | 6,v,_=>v=f3
 | 7,v,W=>∃ A,v=.tuple #[.agg A,.bool bo]∧TabF bo L A W
 | 8,v,W=>∃ A,v=.tuple #[.agg A,.bool bo]∧TabF bo L A W
 | 9,v,W=>∃ A,v=.agg A∧TabF bo L A W
 | 10,v,_=>v=.bool bo
 | _,v,W=>PtrF n0 v W
def N8 (_ _:Nat) (_ _:Value):Prop:=True
theorem Afj (i j:Nat) (v u:Value) (_:N8 i j v u):N8 j i u v:=trivial
theorem Afk (n0:Nat) (va:Array Value) (vj f1:Value) (vs:Value) (f2 f3:Value) (bo:Bool) (L:List UInt8→Prop):∀ (i:Nat) (v:Value) (w w':World),N9 n0 va vj f1 vs f2 f3 bo L i v w→Ext w w'→N9 n0 va vj f1 vs f2 f3 bo L i v w'
 | 0,_,_,_,h,_=>h
 | 1,_,_,_,h,_=>h
 | 2,_,_,_,h,_=>h
 | 3,_,_,_,h,_=>h
 | 4,_,_,_,h,_=>h
 | 5,_,_,_,h,_=>h
 | 6,_,_,_,h,_=>h
 | 7,_,_,_,⟨A,h1,h2⟩,hE=>⟨A,h1,h2.ext hE⟩
 | 8,_,_,_,⟨A,h1,h2⟩,hE=>⟨A,h1,h2.ext hE⟩
 | 9,_,_,_,⟨A,h1,h2⟩,hE=>⟨A,h1,h2.ext hE⟩
 | 10,_,_,_,h,_=>h
 | _+11,_,_,_,h,hE=>PtrF.ext h hE
theorem Agu:Tryz.prog.built 116 []=some #[.int .i64 0,.int .i64 0,.int .u64 0]:=by kernel_rfl
set_option maxHeartbeats 2000000 in
theorem Od (a b:Dfa) (ha:Val a) (hb:Val b) (hna:a.nxt.length≤64) (hnb:b.nxt.length≤64) (va vb:Value) (w:World) (hT:Tab w) (hsz:0<w.heap.size) (hva:IsD w va a) (hvb:IsD w vb b) :
  Calls Tryz.prog 31 #[va,vb] w fun e w'=>∃ r,ResOf w' e r∧Ed a b r∧Ext w w':=by
 have HDa:=Lib.hid hva;have HDb:=Lib.hid hvb;have HVa:=Lib.hid ha;have HVb:=Lib.hid hb;obtain ⟨ac,lc,cc,an,cn,aa,la,ca,rfl⟩:=hva.agg;obtain ⟨ac',lc',cc',an',cn',aa',la',ca',rfl⟩:=hvb.agg;have f47a:=fun W (hW:Ext w W)=>Lib.hid (Dq a ha hna _ W (HDa.out.ext hW))
 have f47b:=fun W (hW:Ext w W)=>Lib.hid (Dq b hb hnb _ W (HDb.out.ext hW))
 have f68a:=fun W (hW:Ext w W)=>Lib.hid (Hz a ha _ w W hW (hT.below hW.below hsz) (Nat.lt_of_lt_of_le hsz hW.size) HDa.out)
 have f68b:=fun W (hW:Ext w W)=>Lib.hid (Hz b hb _ w W hW (hT.below hW.below hsz) (Nat.lt_of_lt_of_le hsz hW.size) HDb.out)
 have HTa:=Lib.hid (fun W (hW:Ext w W)=>hT.below hW.below hsz);obtain ⟨Va,hVa⟩:∃ X,dA (.slice ac lc cc) (.slice an a.nxt.length cn) (.slice aa la ca)=X:=⟨_,rfl⟩;obtain ⟨Vb,hVb⟩:∃ X,dA (.slice ac' lc' cc') (.slice an' b.nxt.length cn') (.slice aa' la' ca')=X:=⟨_,rfl⟩;have hiVa:(Tryz.prog.info? 30).map (·.size)=some Va.size:=by rw [← hVa];exact Ad
 have hiVb:(Tryz.prog.info? 30).map (·.size)=some Vb.size:=by rw [← hVb];exact Ad
 rw [hVa] at f47a f68a HDa;rw [hVb] at f47b f68b HDb;rw [hVa,hVb];have hE0:=(((Ext.refl w).alloc (.cells Va 30)).alloc (.cells Vb 30)).alloc (.cells #[.slice none 0 0,.slice none 0 0,.slice none 0 0] 30);have H3:=Af (Af (Ab w (.cells Va 30)) (.cells Vb 30)) (.cells #[.slice none 0 0,.slice none 0 0,.slice none 0 0] 30);have H4:=Af (heap_alloc2_new w (.cells Va 30) (.cells Vb 30)) (.cells #[.slice none 0 0,.slice none 0 0,.slice none 0 0] 30);have H6:=Ab ((w.alloc (.cells Va 30)).alloc (.cells Vb 30)) (.cells #[.slice none 0 0,.slice none 0 0,.slice none 0 0] 30);rw [World.size_alloc,World.size_alloc] at H6;clear hva hvb ha hb hT hVa hVb;go_enter Tryz.func31,Tryz.ntmps31;go_upto_region 1 with (fail)
 obtain ⟨w1,hw1⟩:∃ W,((w.alloc (.cells Va 30)).alloc (.cells Vb 30)).alloc (.cells #[.slice none 0 0,.slice none 0 0,.slice none 0 0] 30)=W:=⟨_,rfl⟩;have hs1:w.heap.size+1+1<w1.heap.size:=by rw [← hw1,World.size_alloc,World.size_alloc,World.size_alloc];omega
 rw [hw1] at hE0 H3 H4 H6;simp only [hw1];clear hw1;have HB3:=Lib.hid H3;have HB4:=Lib.hid H4;have HB6:=Lib.hid H6;clear H3 H4 H6;go_upto_region 3 with (first
  | (refine wpList_load_row rfl 30 (.tmp 2) rfl _ rfl _ _ _ _ HB3.out Tryz.underlying30 rfl hiVa ?_)
  | (refine Dn rfl (wp_load_row 30 (.tmp 3) rfl _ rfl _ _ _ _ HB4.out Tryz.underlying30 rfl hiVb ?_))
  | (go_at_call 47;(with_reducible refine (f47a _ hE0).out.mono ?_);rintro e w2 ⟨rfl,hE2⟩;have hE3:=hE0.trans hE2;have HB4:=Lib.hid (hE2.heap HB4.out))
  | (go_at_call 47;(with_reducible refine (f47b _ hE3).out.mono ?_);rintro e w3 ⟨rfl,hE4⟩;have hE5:=hE3.trans hE4))
 have HB3:=Lib.hid ((hE2.trans hE4).heap HB3.out);have HB4:=Lib.hid (hE4.heap HB4.out);have HB6:=Lib.hid ((hE2.trans hE4).heap HB6.out);have hs5:w.heap.size+1+1<w3.heap.size:=Nat.lt_of_lt_of_le hs1 (hE2.trans hE4).size;clear f47a f47b hE0 hE2 hE3 hE4 hs1;refine Jk 10 57 (by kernel_rfl) (by kernel_rfl) rfl (Ol w w3.heap.size Va Vb a b) Ok Agl (Agm w w3.heap.size Va Vb a b) (fun i hi=>?_) (fun vs w4 hE6 hF hN=>?_)
 ·have hd1:=(Ext.refl w3).drew
  match i,hi with
  | 0,_=>
   refine At _ _ rfl rfl rfl fun c W hW hdep hkeep=>?_
   have h3:=hkeep 2 (by kernel_rfl);refine C7 (Eo 30 (.tmp 2) rfl w.heap.size h3 _ _ _ _ ((hd1.trans hW).heap HB3.out) Tryz.underlying30 rfl hiVa) ?_;exact ⟨_,rfl,Ext.refl W,rfl,fun j u _ _ _ h=>by omega⟩
  | 4,_=>
   refine At _ _ rfl rfl rfl fun c W hW hdep hkeep=>?_
   have h3:=hkeep 3 (by kernel_rfl);refine C7 (Eo 30 (.tmp 3) rfl (w.heap.size+1) h3 _ _ _ _ ((hd1.trans hW).heap HB4.out) Tryz.underlying30 rfl hiVb) ?_;exact ⟨_,rfl,Ext.refl W,rfl,fun j u _ _ _ h=>by omega⟩
  | 1,_=>
   refine At _ _ rfl rfl rfl fun c W hW hdep hkeep=>?_
   have h14:c.tmps.getD 23 undef=.agg Va:=hdep 0 23 (by kernel_rfl);go_simp
   (with_reducible refine (f68a W (hE5.trans (hd1.trans hW))).out.mono ?_)
   rintro e W' ⟨A,rfl,hA,hE⟩;exact ⟨_,rfl,hE,⟨A,rfl,hA⟩,fun j u _ _ _ h=>by omega⟩
  | 5,_=>
   refine At _ _ rfl rfl rfl fun c W hW hdep hkeep=>?_
   have h16:c.tmps.getD 27 undef=.agg Vb:=hdep 4 27 (by kernel_rfl);go_simp
   (with_reducible refine (f68b W (hE5.trans (hd1.trans hW))).out.mono ?_)
   rintro e W' ⟨A,rfl,hA,hE⟩;exact ⟨_,rfl,hE,⟨A,rfl,hA⟩,fun j u _ _ _ h=>by omega⟩
  | 2,_=>
   refine At _ _ rfl rfl rfl fun c W hW hdep hkeep=>?_
   obtain ⟨A,h24,hIT⟩:∃ A,c.tmps.getD 24 undef=.agg A∧IsT w A (Ae a):=hdep 1 24 (by kernel_rfl);go_simp
   (with_reducible refine (Om (Ae a) (Bf HVa.out) (Nat.le_trans hna (by omega)) A W (hIT.ext (hE5.trans (hd1.trans hW)))).mono ?_)
   rintro e W' ⟨v,d,rfl,hD,h1,h2,hE⟩;exact ⟨_,rfl,hE,⟨d,h1,fun u=>by rw [h2,Da],hD⟩,fun j u _ _ _ h=>by omega⟩
  | 6,_=>
   refine At _ _ rfl rfl rfl fun c W hW hdep hkeep=>?_
   obtain ⟨A,h24,hIT⟩:∃ A,c.tmps.getD 28 undef=.agg A∧IsT w A (Ae b):=hdep 5 28 (by kernel_rfl);go_simp
   (with_reducible refine (Om (Ae b) (Bf HVb.out) (Nat.le_trans hnb (by omega)) A W (hIT.ext (hE5.trans (hd1.trans hW)))).mono ?_)
   rintro e W' ⟨v,d,rfl,hD,h1,h2,hE⟩;exact ⟨_,rfl,hE,⟨d,h1,fun u=>by rw [h2,Da],hD⟩,fun j u _ _ _ h=>by omega⟩
  | 3,_=>
   refine At _ _ rfl rfl rfl fun c W hW hdep hkeep=>?_
   obtain ⟨d,h1,h2,h3⟩:∃ d,Cano d∧(∀ u,d.has u=a.has u)∧∀ W',Near W W'→IsD W' (c.tmps.getD 25 undef) d:=hdep 2 25 (by kernel_rfl);obtain ⟨v,hv⟩:∃ v,c.tmps.getD 25 undef=v:=⟨_,rfl⟩;rw [hv] at h3;have hWW:=hE5.trans (hd1.trans hW);go_simp
   (with_reducible refine (L2 d h1.val v W (HTa.out W hWW) (Nat.lt_of_lt_of_le hsz hWW.size) (h3 W (Near.of_ext (Ext.refl W)))).mono ?_)
   rintro e W' ⟨A,rfl,hA,hE⟩;exact ⟨_,rfl,hE,⟨A,rfl,d,h1,h2,fun W2 hN=>hA W2 (h3 W2 (hN.pre hE))⟩,fun j u _ _ _ h=>by omega⟩
  | 7,_=>
   refine At _ _ rfl rfl rfl fun c W hW hdep hkeep=>?_
   obtain ⟨d,h1,h2,h3⟩:∃ d,Cano d∧(∀ u,d.has u=b.has u)∧∀ W',Near W W'→IsD W' (c.tmps.getD 29 undef) d:=hdep 6 29 (by kernel_rfl);obtain ⟨v,hv⟩:∃ v,c.tmps.getD 29 undef=v:=⟨_,rfl⟩;rw [hv] at h3;have hWW:=hE5.trans (hd1.trans hW);go_simp
   (with_reducible refine (L2 d h1.val v W (HTa.out W hWW) (Nat.lt_of_lt_of_le hsz hWW.size) (h3 W (Near.of_ext (Ext.refl W)))).mono ?_)
   rintro e W' ⟨A,rfl,hA,hE⟩;exact ⟨_,rfl,hE,⟨A,rfl,d,h1,h2,fun W2 hN=>hA W2 (h3 W2 (hN.pre hE))⟩,fun j u _ _ _ h=>by omega⟩
  | 8,_=>
   refine At _ _ rfl rfl rfl fun c W hW hdep hkeep=>?_
   go_simp;refine ⟨_,rfl,(Ext.refl W).alloc _,⟨_,rfl,Ab W _,(hd1.trans hW).size⟩,fun j u _ _ hu h=>?_⟩;obtain rfl:j=9:=by omega
   obtain ⟨g',rfl,hg',-⟩:=hu;intro e;have:W.heap.size=g':=by simpa using e
   have:=Al hg';omega
  | 9,_=>
   refine At _ _ rfl rfl rfl fun c W hW hdep hkeep=>?_
   go_simp;refine ⟨_,rfl,(Ext.refl W).alloc _,⟨_,rfl,Ab W _,(hd1.trans hW).size⟩,fun j u _ _ hu h=>?_⟩;obtain rfl:j=8:=by omega
   obtain ⟨g',rfl,hg',-⟩:=hu;intro e;have:W.heap.size=g':=by simpa using e
   have:=Al hg';omega
 ·obtain ⟨A1,hA1,hA1T⟩:=hF 1 (by omega);obtain ⟨A,hA,x,hCx,hHx,hXT⟩:=hF 3 (by omega);obtain ⟨B1,hB1,hB1T⟩:=hF 5 (by omega);obtain ⟨B,hB,y,hCy,hHy,hYT⟩:=hF 7 (by omega);obtain ⟨g6,h6,H6,hl6⟩:PtrF _ _ _:=hF 8 (by omega);obtain ⟨g7,h7,H7,hl7⟩:PtrF _ _ _:=hF 9 (by omega);have h67:g6≠g7:=fun e=>hN 8 9 (by omega) (by omega) (by omega) (by omega) (by rw [h6,h7,e])
  have hE7:=(Ext.refl w3).drew.trans hE6;have hF0:vs 0=.agg Va:=hF 0 (by omega);have hF4:vs 4=.agg Vb:=hF 4 (by omega);obtain ⟨v2,hv2⟩:∃ v,vs 2=v:=⟨_,rfl⟩;obtain ⟨v6,hv6⟩:∃ v,vs 6=v:=⟨_,rfl⟩;simp only [Bi,List.drop_succ_cons,List.drop_zero,hA,hB,hA1,hB1,h6,h7,hF0,hF4,hv2,hv6,List.getElem?_toArray,List.getElem?_cons_zero,List.getElem?_cons_succ,Option.bind_some,Act.put,List.setIfInBounds_toArray,List.set_cons_zero,List.set_cons_succ];clear hF hN hA hB h6 h7 hF0 hF4 hA1 hB1 hv2 hv6 hA1T hB1T;obtain ⟨_,_,_,_,_,_,hAs,hAo,_⟩:=(hXT w4 (Near.of_ext (Ext.refl w4))).opened (Bf hCx.val);obtain ⟨_,_,_,_,_,_,hBs,hBo,_⟩:=(hYT w4 (Near.of_ext (Ext.refl w4))).opened (Bf hCy.val);have hiA:(Tryz.prog.info? 108).map (·.size)=some A.size:=by rw [hAs];exact Bw
  have hiB:(Tryz.prog.info? 108).map (·.size)=some B.size:=by rw [hBs];exact Bw
  have hzA:Tryz.zeroCells108.size=A.size:=by rw [Cj,hAs]
  have hzB:Tryz.zeroCells108.size=B.size:=by rw [Cj,hBs]
  have H7':=Bq H7 (Ne.symm h67) A;have hE8:=((hE7.setRow hl6 A).setRow hl7 B);have G6:=Bq (setRow_heap w4 g6 _ A _ _ H6) h67 B;have G7:=setRow_heap (w4.setRow g6 A) g7 _ B _ _ H7';have hNr:Near w4 ((w4.setRow g6 A).setRow g7 B):=((Near.of_ext (Ext.refl w4)).setRow H6 Ls A).setRow H7' Ls B;have hXT:=hXT _ hNr;have hYT:=hYT _ hNr;clear hAs hBs hNr;go_upto_region 4 with (first
   | (refine wpList_store_row rfl 108 (.tmp 6) (.tmp 26) rfl _ _ rfl rfl _ _ H6 hiA hzA hAo ?_)
   | (refine wpList_store_row rfl 108 (.tmp 7) (.tmp 30) rfl _ _ rfl rfl _ _ H7' hiB hzB hBo ?_))
  obtain ⟨w5,hw5⟩:∃ W,(w4.setRow g6 A).setRow g7 B=W:=⟨_,rfl⟩;rw [hw5] at hE8 G6 G7 hXT hYT;simp only [hw5];clear hw5 hE7 H6 H7 H7' hzA hzB hE6 hAo hBo;have hE9:=hE5.trans hE8;have HB6:=Lib.hid (hE8.heap HB6.out);have HCx:=Lib.hid hCx;have HCy:=Lib.hid hCy;have HHx:=Lib.hid hHx;have HHy:=Lib.hid hHy;have HXT:=Lib.hid hXT;have HYT:=Lib.hid hYT;have HG6:=Lib.hid G6;have HG7:=Lib.hid G7;have hJ:=Lib.hid (Nt (Ae x) (Ae y) (Bf HCx.out.val) (Bf HCy.out.val) A B w5 HXT.out HYT.out);have hz77:∀ c,Tryz.zeroCells77.size=(Bm c).size:=fun c=>by rw [Hr,Dx,Dx]
  have hi77:∀ c,(Tryz.prog.info? 77).map (·.size)=some (Bm c).size:=fun c=>by rw [Dx];exact Ir
  clear hXT hYT G6 G7 hCx hCy hHx hHy hE5 hE8;go_upto_region 5 with (first
   | (refine wpList_load_row rfl 108 (.tmp 6) rfl _ rfl _ _ _ _ HG6.out Tryz.underlying108 rfl hiA ?_)
   | (refine wpList_load_row rfl 108 (.tmp 7) rfl _ rfl _ _ _ _ HG7.out Tryz.underlying108 rfl hiB ?_)
   | (go_at_call 70;(with_reducible refine hJ.out.mono ?_);rintro e w6 ⟨c,bs,vj,rfl,hjo,hib,hE10⟩;have hzc:=hz77 c;have hic:=hi77 c;have hoc:=K7 c;obtain ⟨A9,hA9⟩:∃ X,Bm c=X:=⟨_,rfl⟩;rw [hA9] at hzc hic hoc;rw [hA9])
   | (refine wpList_store_row rfl 77 (.tmp 8) (.tmp 35) rfl _ _ rfl rfl _ _ (Ab w6 (.cells Tryz.zeroCells77 77)) hic hzc hoc ?_))
  have hE11:=hE10.trans (((Ext.refl w6).alloc (.cells Tryz.zeroCells77 77)).setRow (Nat.le_refl _) A9);have H8:=setRow_heap (w6.alloc (.cells Tryz.zeroCells77 77)) w6.heap.size _ A9 _ _ (Ab w6 _);have hib7:=hib.ext (((Ext.refl w6).alloc (.cells Tryz.zeroCells77 77)).setRow (Nat.le_refl _) A9);obtain ⟨w7,hw7⟩:∃ W,(w6.alloc (.cells Tryz.zeroCells77 77)).setRow w6.heap.size A9=W:=⟨_,rfl⟩;rw [hw7] at hE11 H8 hib7;simp only [hw7];clear hw7 hE10 hib hz77 hi77 hJ hzc hoc;have HG6:=Lib.hid (hE11.heap HG6.out);have HG7:=Lib.hid (hE11.heap HG7.out);have HB6:=Lib.hid (hE11.heap HB6.out);have HXT:=Lib.hid (HXT.out.ext hE11);have HYT:=Lib.hid (HYT.out.ext hE11);have hE12:=hE9.trans hE11;have HG8:=Lib.hid H8;have HJO:=Lib.hid hjo;have HA9:=Lib.hid hA9;clear H8 hjo hA9 hE9 hE11;generalize w6.heap.size=g8 at *;have hc10:=(cell_of_row (w7.alloc (.cells #[.nilFunc] 117)) w7.heap.size 0 _ _ _ (Ab w7 (.cells #[.nilFunc] 117))).trans (show (#[Value.nilFunc]:Array Value)[0]? = some .nilFunc from rfl);have hf10:=frozen_of_row (w7.alloc (.cells #[.nilFunc] 117)) w7.heap.size 0 _ _ (Ab w7 (.cells #[.nilFunc] 117));go_upto_region 7 with (fail)
  have hE13:=(Ext.refl w7).alloc (.cells #[.func (.func 71) #[] #[.pointer (some ⟨g6,0,none⟩)]] 117);have G10:=Ab w7 (.cells #[.func (.func 71) #[] #[.pointer (some ⟨g6,0,none⟩)]] 117);obtain ⟨w8,hw8⟩:∃ W,w7.alloc (.cells #[.func (.func 71) #[] #[.pointer (some ⟨g6,0,none⟩)]] 117)=W:=⟨_,rfl⟩;rw [hw8] at hE13 G10;simp only [hw8];clear hw8 hc10 hf10;generalize w7.heap.size=g10 at *;have HE8:=Lib.hid (hE12.trans hE13);have HG6:=Lib.hid (hE13.heap HG6.out);have HG7:=Lib.hid (hE13.heap HG7.out);have HG8:=Lib.hid (hE13.heap HG8.out);have HB6:=Lib.hid (hE13.heap HB6.out);have HXT:=Lib.hid (HXT.out.ext hE13);have HYT:=Lib.hid (HYT.out.ext hE13);have HIB:=Lib.hid (hib7.ext hE13);have HG10:=Lib.hid G10;clear G10 hib7 hE12 hE13;have hm0:0<bs.length:=by have:=HJO.out.lt 0 (by omega);omega
  have hm1:bs.length≤256:=by
   have:=Gv c 256 bs.length (fun j hj=>⟨bs.getD j 0,(HJO.out.byte j hj).1,(HJO.out.byte j hj).2⟩);exact this
  have hx64:(Ae x).nxt.length≤64:=Nat.le_trans (K9 HCx.out HVa.out HHx.out) hna;have hy64:(Ae y).nxt.length≤64:=Nat.le_trans (K9 HCy.out HVb.out HHy.out) hnb;have hx0:0<(Ae x).nxt.length:=(Bf HCx.out.val).pos;have HTX:=Lib.hid (Bf HCx.out.val);have HTY:=Lib.hid (Bf HCy.out.val);obtain ⟨bo,hbo⟩:∃ bo:Bool,bo=true↔¬ B7 (cnx (Ae x) (Ae y)) (cst (Ae x)) 4096:=by
   by_cases hM:B7 (cnx (Ae x) (Ae y)) (cst (Ae x)) 4096
   ·exact ⟨false,by simp [hM]⟩
   ·exact ⟨true,by simp [hM]⟩
  have HBO:=Lib.hid hbo;clear hbo;obtain ⟨Lc,hLc⟩:∃ L,Cat (fun u=>(Ae x).has u=true) (fun v=>(Ae y).has v=true)=L:=⟨_,rfl⟩;have hX:=fun W (hW:Ext w8 W)=>Lib.hid (Calls.mono (N7 c bs hm0 hm1 (fun k hk=>(HJO.out.byte k hk).1) (cSt (Ae x)) (cNx (Ae x) (Ae y)) (cAc (Ae y)) (I9 (Ae x))
   (fun s hs=>⟨by have:=hs.1;omega,by have:=hs.2.1;omega,hs.2.2⟩) ⟨hx0,rfl,Uw _ _ (by show 0<_;omega)⟩
   (fun s hs k hk=>Agn HTX.out HTY.out hy64 s hs k hk) 4096 (by omega) (by omega) 72 75 _ _ (enters_of Tryz.func72 (by kernel_rfl) rfl) (enters_of Tryz.func75 (by kernel_rfl) rfl) vj W (HIB.out.ext hW)
   (Af8 (Ae x) (Ae y) HTX.out HTY.out hy64 A B g6 g7 g10 W (HXT.out.ext hW) (HYT.out.ext hW) (hW.heap HG6.out) (hW.heap HG7.out) (hW.heap HG10.out))
   (Afv (Ae x) (Ae y) HTY.out hy64 B g7 W (HYT.out.ext hW) (hW.heap HG7.out)))
   (R':=fun e w'=>∃ A,e=.returned (.tuple #[.agg A,.bool bo])∧TabF bo Lc A w'∧Ext W w') fun e w' ⟨hE,h⟩=>by
    rcases h with ⟨A,l,t,he,hT,hXp,hl,_,hTg⟩|⟨hM,he⟩
    ·obtain ⟨h1,h2,h3,h4⟩:=Agk HTX.out HTY.out HJO.out hXp hl;obtain ⟨_,_,_,_,_,_,hTs,hTo,_⟩:=hT.opened h1;obtain rfl:bo=true:=HBO.out.2 h3;exact ⟨A,he,⟨hTs,hTo,fun _=>⟨t,h1,h2,fun u=>by rw [h4,hLc],hTg⟩⟩,hE⟩
    ·have hM':=Sd hM stP (fun s b=>Uv _ _ s b) (fun w w' e=>Jp (Lb _ _ w) (Lb _ _ w') e);have hbf:bo=false:=by
      cases bo
      ·rfl
      ·exact absurd hM' (HBO.out.1 rfl)
     subst hbf;exact ⟨Tryz.zeroCells108,he,⟨Cj,O1,fun h=>by cases h⟩,hE⟩)
  rw [HA9.out] at hX;have f71:∀ W,Ext w8 W→Hid (Calls Tryz.prog 71 #[.agg #[.int .i64 0,.int .i64 0,.int .u64 0],.pointer (some ⟨g6,0,none⟩)] W fun e w'=>e=.returned (stV (cSt (Ae x)))∧Ext W w'):=fun W hW=>
   Lib.hid (Ug (Ae x) HTX.out A g6 w8 HXT.out HG6.out W hW 0 0 hx0 (by omega))
  have HLc:=Lib.hid hLc;clear hLc;have i77':(Tryz.prog.info? 77).map (·.size)=some A9.size:=hic;refine V0 12 57 10 (by kernel_rfl) (by kernel_rfl) rfl (fun _ _ _ _ h=>h) (N9 w8.heap.size A9 vj (.func (.func 71) #[] #[.pointer (some ⟨g6,0,none⟩)]) (stV (cSt (Ae x)))
   (.func (.func 72) #[] #[.pointer (some ⟨g10,0,none⟩),.pointer (some ⟨g6,0,none⟩),.pointer (some ⟨g7,0,none⟩)]) (.func (.func 75) #[] #[.pointer (some ⟨g7,0,none⟩)]) bo Lc) N8 Afj (Afk _ _ _ _ _ _ _ _ _) _ rfl (fun c W hdep=>?_) (fun i hi=>?_) (fun vs w9 hE9 hF hN=>?_)
  ·obtain ⟨AX,h39,-⟩:∃ A,c.tmps.getD 39 undef=.tuple #[.agg A,.bool bo]∧TabF bo Lc A W:=hdep 8 39 (by kernel_rfl);exact ⟨.bool bo,fun W=>by
    simp only [execOp,Act.eval,h39];rfl⟩
  ·have hd1:=(Ext.refl w8).drew
   match i,hi with
   | 0,_=>
    refine At _ _ rfl rfl rfl fun c W hW hdep hkeep=>?_
    have h3:=hkeep 8 (by kernel_rfl);refine C7 (Eo 77 (.tmp 8) rfl g8 h3 _ _ _ _ ((hd1.trans hW).heap HG8.out) Tryz.underlying77 rfl i77') ?_;exact ⟨_,rfl,Ext.refl W,rfl,fun _ _ _ _ _=>trivial⟩
   | 1,_=>
    refine At _ _ rfl rfl rfl fun c W hW hdep hkeep=>?_
    have h3:c.tmps.getD 9 undef=vj:=hkeep 9 (by kernel_rfl);go_simp;exact ⟨_,rfl,Ext.refl W,rfl,fun _ _ _ _ _=>trivial⟩
   | 2,_=>
    refine At _ _ rfl rfl rfl fun c W hW hdep hkeep=>?_
    have h3:c.tmps.getD 10 undef=.pointer (some ⟨g10,0,none⟩):=hkeep 10 (by kernel_rfl);have c10:=(cell_of_row W g10 0 _ _ _ ((hd1.trans hW).heap HG10.out)).trans (show (#[Value.func (.func 71) #[] #[.pointer (some ⟨g6,0,none⟩)]]:Array Value)[0]? = some (.func (.func 71) #[] #[.pointer (some ⟨g6,0,none⟩)]) from rfl);go_simp;exact ⟨_,rfl,Ext.refl W,rfl,fun _ _ _ _ _=>trivial⟩
   | 3,_=>
    refine At _ _ rfl rfl rfl fun c W hW hdep hkeep=>?_
    refine C7 (I0 116 _ rfl (by simpa [Act.eval] using Agu) W) ?_;exact ⟨_,rfl,Ext.refl W,rfl,fun _ _ _ _ _=>trivial⟩
   | 4,_=>
    refine At _ _ rfl rfl rfl fun c W hW hdep hkeep=>?_
    have h42:c.tmps.getD 42 undef=.func (.func 71) #[] #[.pointer (some ⟨g6,0,none⟩)]:=hdep 2 42 (by kernel_rfl);have h43:c.tmps.getD 43 undef=.agg #[.int .i64 0,.int .i64 0,.int .u64 0]:=hdep 3 43 (by kernel_rfl);have e71:=enters_of Tryz.func71 (by kernel_rfl) rfl;go_simp
    (with_reducible refine (f71 W (hd1.trans hW)).out.mono ?_)
    rintro e W' ⟨rfl,hE⟩;exact ⟨_,rfl,hE,rfl,fun _ _ _ _ _=>trivial⟩
   | 5,_=>
    refine At _ _ rfl rfl rfl fun c W hW hdep hkeep=>?_
    have h3:=hkeep 11 (by kernel_rfl);replace h3:c.tmps.getD 11 undef=.func (.func 72) #[] #[.pointer (some ⟨g10,0,none⟩),.pointer (some ⟨g6,0,none⟩),.pointer (some ⟨g7,0,none⟩)]:=h3;go_simp;exact ⟨_,rfl,Ext.refl W,rfl,fun _ _ _ _ _=>trivial⟩
   | 6,_=>
    refine At _ _ rfl rfl rfl fun c W hW hdep hkeep=>?_
    have h3:c.tmps.getD 7 undef=.pointer (some ⟨g7,0,none⟩):=hkeep 7 (by kernel_rfl);go_simp;exact ⟨_,rfl,Ext.refl W,rfl,fun _ _ _ _ _=>trivial⟩
   | 7,_=>
    refine At _ _ rfl rfl rfl fun c W hW hdep hkeep=>?_
    have h40:c.tmps.getD 40 undef=.agg A9:=hdep 0 40 (by kernel_rfl);have h41:c.tmps.getD 41 undef=vj:=hdep 1 41 (by kernel_rfl);have h44:c.tmps.getD 44 undef=stV (cSt (Ae x)):=hdep 4 44 (by kernel_rfl);have h45:c.tmps.getD 45 undef=.func (.func 72) #[] #[.pointer (some ⟨g10,0,none⟩),.pointer (some ⟨g6,0,none⟩),.pointer (some ⟨g7,0,none⟩)]:=hdep 5 45 (by kernel_rfl);have h46:c.tmps.getD 46 undef=.func (.func 75) #[] #[.pointer (some ⟨g7,0,none⟩)]:=hdep 6 46 (by kernel_rfl);go_simp;refine (hX W (hd1.trans hW)).out.mono ?_;rintro e W' ⟨A',rfl,hT,hE⟩;exact ⟨_,rfl,hE,⟨A',rfl,hT⟩,fun _ _ _ _ _=>trivial⟩
   | 8,_=>
    refine At _ _ rfl rfl rfl fun c W hW hdep hkeep=>?_
    obtain ⟨AX,h47,hT⟩:∃ A,c.tmps.getD 47 undef=.tuple #[.agg A,.bool bo]∧TabF bo Lc A W:=hdep 7 47 (by kernel_rfl);go_simp;exact ⟨_,rfl,Ext.refl W,⟨AX,rfl,hT⟩,fun _ _ _ _ _=>trivial⟩
   | 9,_=>
    refine At _ _ rfl rfl rfl fun c W hW hdep hkeep=>?_
    obtain ⟨AX,h47,hT⟩:∃ A,c.tmps.getD 39 undef=.tuple #[.agg A,.bool bo]∧TabF bo Lc A W:=hdep 8 39 (by kernel_rfl);go_simp;exact ⟨_,rfl,Ext.refl W,⟨AX,rfl,hT⟩,fun _ _ _ _ _=>trivial⟩
   | 10,_=>
    refine At _ _ rfl rfl rfl fun c W hW hdep hkeep=>?_
    obtain ⟨AX,h47,hT⟩:∃ A,c.tmps.getD 39 undef=.tuple #[.agg A,.bool bo]∧TabF bo Lc A W:=hdep 8 39 (by kernel_rfl);go_simp;exact ⟨_,rfl,Ext.refl W,rfl,fun _ _ _ _ _=>trivial⟩
   | 11,_=>
    refine At _ _ rfl rfl rfl fun c W hW hdep hkeep=>?_
    go_simp;exact ⟨_,rfl,(Ext.refl W).alloc _,⟨_,rfl,Ab W _,(hd1.trans hW).size⟩,fun _ _ _ _ _=>trivial⟩
  ·have hF0:vs 0=.agg A9:=hF 0 (by omega);have hF1:vs 1=vj:=hF 1 (by omega);have hF2:=hF 2 (by omega);have hF3:vs 3=.agg #[.int .i64 0,.int .i64 0,.int .u64 0]:=hF 3 (by omega);have hF4:vs 4=stV (cSt (Ae x)):=hF 4 (by omega);have hF5:=hF 5 (by omega);have hF6:=hF 6 (by omega);replace hF2:vs 2=.func (.func 71) #[] #[.pointer (some ⟨g6,0,none⟩)]:=hF2;replace hF5:vs 5=.func (.func 72) #[] #[.pointer (some ⟨g10,0,none⟩),.pointer (some ⟨g6,0,none⟩),.pointer (some ⟨g7,0,none⟩)]:=hF5;replace hF6:vs 6=.func (.func 75) #[] #[.pointer (some ⟨g7,0,none⟩)]:=hF6;obtain ⟨A7,hF7,-⟩:∃ A,vs 7=.tuple #[.agg A,.bool bo]∧TabF bo Lc A w9:=hF 7 (by omega);obtain ⟨A8,hF8,-⟩:∃ A,vs 8=.tuple #[.agg A,.bool bo]∧TabF bo Lc A w9:=hF 8 (by omega);obtain ⟨AT,hF9,hTs,hTo,hTT⟩:∃ A,vs 9=.agg A∧TabF bo Lc A w9:=hF 9 (by omega);have hF10:vs 10=.bool bo:=hF 10 (by omega);obtain ⟨g12,hF11,H12,hl12⟩:PtrF _ _ _:=hF 11 (by omega);simp only [Bi,List.drop_succ_cons,List.drop_zero,hF0,hF1,hF2,hF3,hF4,hF5,hF6,hF7,hF8,hF9,hF10,hF11,List.getElem?_toArray,List.getElem?_cons_zero,List.getElem?_cons_succ,Option.bind_some,Act.put,List.setIfInBounds_toArray,List.set_cons_zero,List.set_cons_succ];clear hF hN hF0 hF1 hF2 hF3 hF4 hF5 hF6 hF7 hF8 hF9 hF10 hF11;have hiT:(Tryz.prog.info? 108).map (·.size)=some AT.size:=by rw [hTs];exact Bw
   have hzT:Tryz.zeroCells108.size=AT.size:=by rw [Cj,hTs]
   have hE10:=((Ext.refl w8).drew.trans hE9).setRow hl12 AT;have H12':=setRow_heap w9 g12 _ AT _ _ H12;have hNr:Near w9 (w9.setRow g12 AT):=(Near.of_ext (Ext.refl w9)).setRow H12 Ls AT;clear hTs;go_upto_region 8 with (refine wpList_store_row rfl 108 (.tmp 12) (.tmp 48) rfl _ _ rfl rfl _ _ H12 hiT hzT hTo ?_)
   obtain ⟨w10,hw10⟩:∃ W,w9.setRow g12 AT=W:=⟨_,rfl⟩;rw [hw10] at hE10 H12' hNr;simp only [hw10];clear hw10 hE9 H12;have HB12:=Lib.hid H12';have HB6:=Lib.hid (hE10.heap HB6.out);have HE10:=Lib.hid (HE8.out.trans hE10);clear hE10 H12' hX f71 i77';cases bo
   ·have hBz:=Lib.hid E7;go_wp2_with (first
     | (refine Cd rfl 30 _ rfl #[.slice none 0 0,.slice none 0 0,.slice none 0 0] ?_ ?_;(simp;with_reducible exact hBz.out))
     | (refine wpList_store_row rfl 30 (.tmp 4) (.tmp 52) rfl _ _ rfl rfl _ _ HB6.out Ad rfl Em ?_))
    refine bodyPost_ret (v:=.tuple #[zD,.int .i64 2]) (Az rfl _ _ _ _ _ _ _ rfl _ rfl (setRow_heap w10 _ _ #[.slice none 0 0,.slice none 0 0,.slice none 0 0] 30 (0,0) HB6.out) Tryz.underlying30 rfl Ad) rfl ?_;exact ⟨none,rfl,⟨x,y,HCx.out,HCy.out,HHx.out,HHy.out,fun _=>rfl,fun h=>absurd (HBO.out.2 h) (by simp)⟩,HE10.out.setRow (by omega) _⟩
   ·obtain ⟨t,htv,htn,hhas,hIT⟩:=hTT rfl;have hL:=Lib.hid (Nh t htv (show t.nxt.length≤65536 by omega) AT w10 (hIT _ hNr));have HHas:=Lib.hid hhas;have HMn:=Lib.hid (HBO.out.1 rfl);clear hIT htv htn hhas hNr hTT;go_wp2_with (first
     | (refine wpList_load_row rfl 108 (.tmp 12) rfl _ rfl _ _ _ _ HB12.out Tryz.underlying108 rfl hiT ?_)
     | (go_at_call 77;(with_reducible refine hL.out.mono ?_);rintro e w11 ⟨r,hres,hlim,hE11⟩;obtain ⟨ac2,lc2,cc2,an2,ln2,cn2,aa2,la2,ca2,k2,rfl⟩:=hres.form;have HRes:=Lib.hid hres;have HLim:=Lib.hid hlim;clear hres hlim;have HB6:=Lib.hid (hE11.heap HB6.out))
     | (refine wpList_store_row rfl 30 (.tmp 4) (.tmp 55) rfl _ _ rfl rfl _ _ HB6.out Ad rfl (Aq _ _ _ rfl rfl rfl) ?_))
    refine bodyPost_ret (v:=.tuple #[.agg (dA (.slice ac2 lc2 cc2) (.slice an2 ln2 cn2) (.slice aa2 la2 ca2)),.int .i64 k2]) (Az rfl _ _ _ _ _ _ _ rfl _ rfl (setRow_heap w11 _ _ (dA (.slice ac2 lc2 cc2) (.slice an2 ln2 cn2) (.slice aa2 la2 ca2)) 30 (0,0) HB6.out) Tryz.underlying30 rfl Ad) rfl ?_;refine ⟨r,HRes.out.setRow (F1 HLim.out) HB6.out _,⟨x,y,HCx.out,HCy.out,HHx.out,HHy.out,fun h=>absurd h HMn.out,fun _=>Gz HLim.out fun u=>?_⟩,(HE10.out.trans hE11).setRow (by omega) _⟩;rw [HHas.out,← HLc.out];have e1:(fun u=>(Ae x).has u=true)=fun u=>a.has u=true:=funext fun u=>by rw [Da,HHx.out]
    have e2:(fun u=>(Ae y).has u=true)=fun u=>b.has u=true:=funext fun u=>by rw [Da,HHy.out]
    rw [e1,e2]
def A2 (L:List UInt8→Bool):Nat→List (List UInt8)
 | 0=>[]
 | n+1=>A2 L n++Bb L n
def Cw (L:List UInt8→Bool):Nat→Nat
 | 0=>0
 | n+1=>Cw L n+Ba L n
theorem F0 (L:List UInt8→Bool):∀ n,(A2 L n).length=Cw L n
 | 0=>rfl
 | n+1=>by simp only [A2,Cw,List.length_append,F0 L n,Ba]
theorem Ez (L:List UInt8→Bool) (w:List UInt8):∀ n,w∈A2 L n↔w.length<n∧L w=true
 | 0=>by simp [A2]
 | n+1=>by
  simp only [A2,List.mem_append,Ez L w n,Dp];constructor
  ·rintro (⟨h1,h2⟩|⟨h1,h2⟩)
   ·exact ⟨by omega,h2⟩
   ·exact ⟨by omega,h2⟩
  ·rintro ⟨h1,h2⟩;by_cases h:w.length=n
   ·exact .inr ⟨h,h2⟩
   ·exact .inl ⟨by omega,h2⟩
def Slx (u v:List UInt8):Prop:=u.length<v.length∨(u.length=v.length∧Lex u v)
theorem Ng (L:List UInt8→Bool):∀ n,(A2 L n).Pairwise Slx
 | 0=>List.Pairwise.nil
 | n+1=>by
  simp only [A2];refine List.pairwise_append.2 ⟨Ng L n,?_,fun u hu v hv=>?_⟩
  ·refine List.Pairwise.imp_of_mem (fun {a b} ha hb hab=>?_) (Lx n L);exact .inr ⟨by rw [((Dp n L a).1 ha).1,((Dp n L b).1 hb).1],hab⟩
  ·exact .inl (by rw [((Dp n L v).1 hv).1];exact ((Ez L u n).1 hu).1)
def B0 (l:List (List UInt8)) (k:Nat):Nat:=l.countP fun w=>w.length==k
theorem Sf (L:List UInt8→Bool) (k:Nat):∀ n,B0 (A2 L n) k=if k<n then Ba L k else 0
 | 0=>by simp [B0,A2]
 | n+1=>by
  have h1:B0 (Bb L n) k=if n=k then Ba L k else 0:=by
   unfold B0 Ba;by_cases e:n=k
   ·subst e;rw [if_pos rfl,List.countP_eq_length];intro w hw
    simpa using ((Dp n L w).1 hw).1
   ·rw [if_neg e,List.countP_eq_zero];intro w hw;have:=((Dp n L w).1 hw).1;simp;omega
  have h2:B0 (A2 L (n+1)) k=B0 (A2 L n) k+B0 (Bb L n) k:=by simp [B0,A2,List.countP_append]
  rw [h2,Sf L k n,h1];by_cases e:n=k
  ·subst e;simp
  ·rw [if_neg e];by_cases h:k<n
   ·rw [if_pos h,if_pos (show k<n+1 by omega)];omega
   ·rw [if_neg h,if_neg (show ¬ k<n+1 by omega)]
def Dv (L:List UInt8→Bool) (n k:Nat):List (List UInt8):=(List.range k).flatMap fun b=>(Bb (fun w=>L (UInt8.ofNat b::w)) n).map (UInt8.ofNat b::·)
theorem Aef (L:List UInt8→Bool) (n:Nat):Dv L n 0=[]:=rfl
theorem Kr (L:List UInt8→Bool) (n k:Nat):Dv L n (k+1)=Dv L n k++(Bb (fun w=>L (UInt8.ofNat k::w)) n).map (UInt8.ofNat k::·):=by
 simp [Dv,List.range_succ,List.flatMap_append]
theorem Aeh (L:List UInt8→Bool) (n:Nat):Dv L n 256=Bb L (n+1):=rfl
theorem Wb {L:List UInt8→Bool} {n:Nat} (h:Ba L n=0):Bb L n=[]:=List.eq_nil_of_length_eq_zero h
theorem Ud (L:List UInt8→Bool) {a b:Nat} (h:a≤b):Cw L a≤Cw L b:=by
 induction h with
 | refl=>exact Nat.le_refl _
 | step _ ih=>exact Nat.le_trans ih (Nat.le_add_right _ _)
end Go.Proofs.YtaiogolidlamiaaGreatDoor
