import Derived.Maps.AppendAt
import Derived.Test.YtaiogolidlamiaaGreatDoorM20
import Derived.Test.YtaiogolidlamiaaGreatDoorM22
import Derived.Test.YtaiogolidlamiaaGreatDoorM10
import Derived.Test.YtaiogolidlamiaaGreatDoorM17
import Derived.Test.YtaiogolidlamiaaGreatDoorM11
set_option linter.unusedVariables false
set_option linter.unusedSimpArgs false
namespace Go.Proofs.YtaiogolidlamiaaGreatDoor
set_option maxRecDepth 100000
open Go.RowKit Go.Shelf
theorem G0 {P:Program} (w:World) {o:Oper} {a:Act} {K:Act→World→Prop} {Q:Exit→Act→World→Prop}
  (l c:Operand) (t:TypeId) (hop:o.op=Op.makeSlice t l c)
  (base:Nat) (e:TypeId) (i:TypeInfo) (z:Value) (size:Nat) (h1:P.underlying t=some (.slice e)) (h2:P.info? e=some i) (h3:i.zero=some z) (h4:i.size=size)
  (kl kc:IntKind) (L C:Int) (n:Nat) (hl:a.eval l=.int kl L) (hc:a.eval c=.int kc C) (hL:L=(n:Int)) (hC:C=(n:Int)) (b2:i.bytes*n≤281474976710656) (b3:n≤maxLen) (b4:base≤w.heap.size)
  (hK:∀ w',w'.ownsRow base e size (.slice (some ⟨w.heap.size,0,none⟩) n n) n (madeCells z.cells (n*size)).toList→w.grownBy w' none→K (a.put o.dst (.slice (some ⟨w.heap.size,0,none⟩) n n)) w') :
  o.wp P a w K Q:=by
 obtain ⟨w',hrun,r1,r2⟩:=run_make_full (P:=P) w base t e i z size h1 h2 h3 h4 kl kc n b2 b3 b4;subst hL;subst hC;unfold Oper.wp;simp [execOp,hop,hl,hc,hrun,Result.andThen];exact hK w' r1 r2
theorem P7 (a a' a'':Option Addr) (n n' n'' c c' c'':Nat):Tryz.prog.built 30 [(0,.slice a n c),(1,.slice a' n' c'),(2,.slice a'' n'' c'')]=some (dA (.slice a n c) (.slice a' n' c') (.slice a'' n'' c'')):=by kernel_rfl
theorem Lk:(Tryz.prog.info? 68).map (fun i=>(i.zero,i.size,i.bytes))=some (some (.slice none 0 0),1,24):=by kernel_rfl
theorem Oj (a s g:Nat) (W:World) (hc:W.cell? ⟨g,0,none⟩=some (iv a)) :
  Calls Tryz.prog 49 #[iv s,.pointer (some ⟨g,0,none⟩)] W fun e w'=>e=.returned (iv (swp a s))∧w'=W:=by
 go_enter Tryz.func49,Tryz.ntmps49;unfold swp;obtain ⟨b0,h0⟩:∃ b,((s:Int)==0)=b:=⟨_,rfl⟩;obtain ⟨b1,h1⟩:∃ b,((s:Int)==(a:Int))=b:=⟨_,rfl⟩;have e0:(s=0)↔b0=true:=by rw [← h0];simp
 have e1:(s=a)↔b1=true:=by rw [← h1];simp;omega
 cases b0
 ·rw [if_neg (fun h=>by simpa using e0.1 h)];cases b1
  ·rw [if_neg (fun h=>by simpa using e1.1 h)];clear e0 e1;go_wp2;go_ret;exact ⟨rfl,rfl⟩
  ·rw [if_pos (e1.2 rfl)];clear e0 e1;go_wp2;go_ret;exact ⟨rfl,rfl⟩
 ·rw [if_pos (e0.2 rfl)];clear e0 e1;go_wp2;go_ret;exact ⟨rfl,rfl⟩
theorem F2 {w:World} {p:Addr} {v:Value} (h:w.cell? p=some v):p.block<w.heap.size:=by
 rcases Nat.lt_or_ge p.block w.heap.size with h1|h1
 ·exact h1
 ·unfold World.cell? at h;rw [Array.getElem?_eq_none h1] at h;simp at h
theorem Oc {W:World} {base base' e size:Nat} {v:Value} {n:Nat} {xs:List Value} (h:W.ownsRow base e size v n xs) (hb:base'≤base):W.ownsRow base' e size v n xs:=by
 obtain ⟨h1,h2|⟨g,cap,cur,hv,hg,rest⟩⟩:=h
 ·exact ⟨h1,.inl h2⟩
 ·exact ⟨h1,.inr ⟨g,cap,cur,hv,Nat.le_trans hb hg,rest⟩⟩
def Nv (n0 n g2:Nat) (vc vn:Value):Nat→Value→World→Prop
 | 0,v,_=>v=.pointer (some ⟨g2,0,none⟩)
 | 1,v,_=>v=vc
 | 2,v,_=>v=.pointer (some ⟨g2,1,none⟩)
 | 3,v,_=>v=vn
 | 4,v,_=>v=iv n
 | 5,v,W=>∃ g,v=.slice (some ⟨g,0,none⟩) n n∧W.ownsRow n0 68 1 v n (List.replicate n (.slice none 0 0))
 | 6,v,_=>v=.pointer (some ⟨g2,1,none⟩)
 | 7,v,_=>v=vn
 | 8,v,_=>v=iv n
 | 9,v,W=>∃ g,v=.slice (some ⟨g,0,none⟩) n n∧W.ownsRow n0 4 1 v n ((List.replicate n false).map Value.bool)
 | 10,v,W=>∃ g5 g9,v=.agg (dA vc (.slice (some ⟨g5,0,none⟩) n n) (.slice (some ⟨g9,0,none⟩) n n))∧W.ownsRow n0 68 1 (.slice (some ⟨g5,0,none⟩) n n) n (List.replicate n (.slice none 0 0))∧W.ownsRow n0 4 1 (.slice (some ⟨g9,0,none⟩) n n) n ((List.replicate n false).map Value.bool)
 | _,v,W=>∃ g,v=.pointer (some ⟨g,0,none⟩)∧W.heap[g]? = some (.cells #[.slice none 0 0,.slice none 0 0,.slice none 0 0] 30 (0,0))∧n0≤g
def Hk (_ _:Nat) (_ _:Value):Prop:=True
theorem K3 (i j:Nat) (v u:Value) (_:Hk i j v u):Hk j i u v:=trivial
theorem Abj (n0 n g2:Nat) (vc vn:Value):∀ (i:Nat) (v:Value) (w w':World),Nv n0 n g2 vc vn i v w→Ext w w'→Nv n0 n g2 vc vn i v w'
 | 0,_,_,_,h,_=>h
 | 1,_,_,_,h,_=>h
 | 2,_,_,_,h,_=>h
 | 3,_,_,_,h,_=>h
 | 4,_,_,_,h,_=>h
 | 5,_,_,_,⟨g,h1,h2⟩,hE=>⟨g,h1,Ah h2 hE⟩
 | 6,_,_,_,h,_=>h
 | 7,_,_,_,h,_=>h
 | 8,_,_,_,h,_=>h
 | 9,_,_,_,⟨g,h1,h2⟩,hE=>⟨g,h1,Ah h2 hE⟩
 | 10,_,_,_,⟨g,g',h1,h2,h3⟩,hE=>⟨g,g',h1,Ah h2 hE,Ah h3 hE⟩
 | _+11,_,_,_,⟨g,h1,h2,h3⟩,hE=>⟨g,h1,hE.heap h2,h3⟩
theorem Aej (i:Nat) (h:i<20):i=0∨i=1∨i=2∨i=3∨i=4∨i=5∨i=6∨i=7∨i=8∨i=9∨i=10∨i=11∨i=12∨i=13∨i=14∨i=15∨i=16∨i=17∨i=18∨i=19:=by omega
def Nu (wF:World) (n g2 g5 g6 g8 g9 ba oa ca s js:Nat) (vx:Value) (ok:Bool):Nat→Value→World→Prop
 | 0,v,_=>v=.pointer (some ⟨g8,1,none⟩)
 | 1,v,_=>v=.slice (some ⟨g5,0,none⟩) n n
 | 2,v,_=>v=.func (.func 49) #[] #[.pointer (some ⟨g6,0,none⟩)]
 | 3,v,_=>v=iv s
 | 4,v,_=>v=iv js
 | 5,v,_=>v=.pointer (some ⟨g8,2,none⟩)
 | 6,v,_=>v=.slice (some ⟨g9,0,none⟩) n n
 | 7,v,_=>v=.func (.func 49) #[] #[.pointer (some ⟨g6,0,none⟩)]
 | 8,v,_=>v=iv s
 | 9,v,_=>v=iv js
 | 10,v,_=>v=vx
 | 11,v,_=>v=.pointer (some ⟨g2,2,none⟩)
 | 12,v,_=>v=.slice (some ⟨ba,oa,none⟩) n ca
 | 13,v,_=>v=iv s
 | 14,v,_=>v=.pointer (some ⟨ba,oa+s,none⟩)
 | 15,v,_=>v=.bool ok
 | 16,v,_=>v=.pointer (some ⟨g5,js,none⟩)
 | 17,_,W=>W.heap[g5]? = wF.heap[g5]?
 | 18,v,_=>v=.pointer (some ⟨g9,js,none⟩)
 | _,_,W=>W.heap[g9]? = wF.heap[g9]?
theorem Abi {w1:World} (wF:World) (n g2 g5 g6 g8 g9 ba oa ca s js:Nat) (vx:Value) (ok:Bool) (h5:g5<w1.heap.size) (h9:g9<w1.heap.size):∀ (i:Nat) (v:Value) (w w':World),Nu wF n g2 g5 g6 g8 g9 ba oa ca s js vx ok i v w→Prg w1 wF w w'→Nu wF n g2 g5 g6 g8 g9 ba oa ca s js vx ok i v w'
 | 0,_,_,_,h,_=>h
 | 1,_,_,_,h,_=>h
 | 2,_,_,_,h,_=>h
 | 3,_,_,_,h,_=>h
 | 4,_,_,_,h,_=>h
 | 5,_,_,_,h,_=>h
 | 6,_,_,_,h,_=>h
 | 7,_,_,_,h,_=>h
 | 8,_,_,_,h,_=>h
 | 9,_,_,_,h,_=>h
 | 10,_,_,_,h,_=>h
 | 11,_,_,_,h,_=>h
 | 12,_,_,_,h,_=>h
 | 13,_,_,_,h,_=>h
 | 14,_,_,_,h,_=>h
 | 15,_,_,_,h,_=>h
 | 16,_,_,_,h,_=>h
 | 17,_,_,_,h,hE=>hE.turned h5 h
 | 18,_,_,_,h,_=>h
 | _+19,_,_,_,h,hE=>hE.turned h9 h
set_option maxHeartbeats 2000000 in
theorem Abe (d:Dfa) (hv:Val d) (hn:d.nxt.length≤64) (v:Value) (l:List UInt8) (u:Value) (w:World) (hT:Tab w) (hsz:0<w.heap.size) (h:IsD w v d) (hb:By w u l) :
  Calls Tryz.prog 14 #[v,u] w fun e w'=>∃ r,ResOf w' e (some r)∧Cano r∧(∀ x,r.has x=d.has (l++x))∧Ext w w':=by
 have HD:=Lib.hid h;have HBy:=Lib.hid hb;have HTa:=Lib.hid (fun W (hW:Ext w W)=>hT.below hW.below hsz);obtain ⟨bc,oc,cc,bn,on,cn,ba,oa,ca,rfl,hC,hR,hacc⟩:=h.opened hv;obtain ⟨ub,uc,rfl⟩:=hb.len;have f47:=fun W (hW:Ext w W)=>Lib.hid (Dr d hv hn _ W (HD.out.ext hW))
 have f48:=fun W (hW:Ext w W)=>Lib.hid (Ajr d hv _ l _ W (HD.out.ext hW) (HBy.out.ext hW))
 have hal:=hv.run_lt l hv.pos;have HV:=Lib.hid hv;have HC:=Lib.hid hC;have HR:=Lib.hid hR;have HACC:=Lib.hid hacc;obtain ⟨a,ha⟩:∃ a,d.run 0 l=a:=⟨_,rfl⟩;rw [ha] at f48 hal;have HA:=Lib.hid ha;obtain ⟨vc,hvc⟩:∃ X,Value.slice (some ⟨bc,oc,none⟩) d.cls.length cc=X:=⟨_,rfl⟩;obtain ⟨vn,hvn⟩:∃ X,Value.slice (some ⟨bn,on,none⟩) d.nxt.length cn=X:=⟨_,rfl⟩;obtain ⟨va,hva⟩:∃ X,Value.slice (some ⟨ba,oa,none⟩) d.nxt.length ca=X:=⟨_,rfl⟩;rw [hvc,hvn,hva] at HD f47 f48;rw [hvc] at HC;rw [hvc,hvn,hva];obtain ⟨Va,hVa⟩:∃ X,dA vc vn va=X:=⟨_,rfl⟩;have hiVa:(Tryz.prog.info? 30).map (·.size)=some Va.size:=by rw [← hVa];exact Ad
 rw [hVa] at f47 f48 HD;rw [hVa];have hE0:=((Ext.refl w).alloc (.cells Va 30)).alloc (.cells #[.slice none 0 0,.slice none 0 0,.slice none 0 0] 30);have H2:=Af (Ab w (.cells Va 30)) (.cells #[.slice none 0 0,.slice none 0 0,.slice none 0 0] 30);have H4:=heap_alloc2_new w (.cells Va 30) (.cells #[.slice none 0 0,.slice none 0 0,.slice none 0 0] 30);have HVA:=Lib.hid hVa;have HVN:=Lib.hid hvn;have HVAC:=Lib.hid hva;have HVC:=Lib.hid hvc;clear hb h hT hC hR hacc hv ha hVa hvc hvn hva;go_enter Tryz.func14,Tryz.ntmps14;go_upto_region 1 with (fail)
 obtain ⟨w1,hw1⟩:∃ W,(w.alloc (.cells Va 30)).alloc (.cells #[.slice none 0 0,.slice none 0 0,.slice none 0 0] 30)=W:=⟨_,rfl⟩;have hs1:w.heap.size+1<w1.heap.size:=by rw [← hw1,World.size_alloc,World.size_alloc];omega
 rw [hw1] at hE0 H2 H4;simp only [hw1];clear hw1;have HB2:=Lib.hid H2;have HB4:=Lib.hid H4;have HE0:=Lib.hid hE0;clear H2 H4 hE0;go_upto_region 3 with (first
  | (refine wpList_load_row rfl 30 (.tmp 2) rfl _ rfl _ _ _ _ HB2.out Tryz.underlying30 rfl hiVa ?_)
  | (go_at_call 47;(with_reducible refine (f47 _ HE0.out).out.mono ?_);rintro e w2 ⟨rfl,hE2⟩;have HE2:=Lib.hid (HE0.out.trans hE2);have HB2:=Lib.hid (hE2.heap HB2.out);have HB4:=Lib.hid (hE2.heap HB4.out);clear hE2))
 go_upto_region 4 with (first
  | (refine wpList_load_row rfl 30 (.tmp 2) rfl _ rfl _ _ _ _ HB2.out Tryz.underlying30 rfl hiVa ?_)
  | (go_at_call 48;(with_reducible refine (f48 _ HE2.out).out.mono ?_);rintro e w3 ⟨rfl,hE3⟩;have HE3:=Lib.hid (HE2.out.trans hE3);have HB2:=Lib.hid (hE3.heap HB2.out);have HB4:=Lib.hid (hE3.heap HB4.out);clear hE3;have hc6:=(cell_of_row (w3.alloc (.cells #[.int .i64 0] 3)) w3.heap.size 0 _ _ _ (Ab w3 (.cells #[.int .i64 0] 3))).trans (show (#[Value.int .i64 0]:Array Value)[0]? = some (.int .i64 0) from rfl);have hf6:=frozen_of_row (w3.alloc (.cells #[.int .i64 0] 3)) w3.heap.size 0 _ _ (Ab w3 (.cells #[.int .i64 0] 3))))
 go_upto_region 5 with (fail)
 have hE4:=(Ext.refl w3).alloc (.cells #[iv a] 3);have H6:=Ab w3 (.cells #[iv a] 3);obtain ⟨w4,hw4⟩:∃ W,w3.alloc (.cells #[iv a] 3)=W:=⟨_,rfl⟩;have hw4':w3.alloc (.cells #[.int .i64 (a:Int)] 3)=w4:=hw4;have hs4:w3.heap.size<w4.heap.size:=by rw [← hw4,World.size_alloc];omega
 rw [hw4] at hE4 H6;simp only [hw4'];clear hw4 hw4' hc6 hf6;have HE4:=Lib.hid (HE3.out.trans hE4);have HB2:=Lib.hid (hE4.heap HB2.out);have HB4:=Lib.hid (hE4.heap HB4.out);have HB6:=Lib.hid H6;generalize w3.heap.size=g6 at *;clear hE4 H6 HE2 HE0 HE3 f47 f48;obtain ⟨i0,hi,hz0,hz1,hz2⟩:=info_parts Dm;obtain ⟨j0,hj,hy0,hy1,hy2⟩:=info_parts Fd;obtain ⟨k0,hk,hx0,hx1,hx2⟩:=info_parts Lk;have HK0:=Lib.hid (fun (W:World) (hW:Ext w4 W)=>(cell_of_row W w.heap.size 0 _ _ _ (hW.heap HB2.out)).trans (show Va[0]? = some vc by rw [← HVA.out];rfl));have HK1:=Lib.hid (fun (W:World) (hW:Ext w4 W)=>(cell_of_row W w.heap.size 1 _ _ _ (hW.heap HB2.out)).trans (show Va[1]? = some (.slice (some ⟨bn,on,none⟩) d.nxt.length cn) by rw [← HVA.out,HVN.out];rfl));have HK2:=Lib.hid (fun (W:World) (hW:Ext w4 W)=>(cell_of_row W w.heap.size 2 _ _ _ (hW.heap HB2.out)).trans (show Va[2]? = some (.slice (some ⟨ba,oa,none⟩) d.nxt.length ca) by rw [← HVA.out,HVAC.out];rfl));rw [← HVN.out] at HVA;refine J7 12 81 (by kernel_rfl) (by kernel_rfl) rfl (Nv w4.heap.size d.nxt.length w.heap.size vc (.slice (some ⟨bn,on,none⟩) d.nxt.length cn)) Hk K3 (Abj _ _ _ _ _) (fun i hi'=>?_) (fun vs w5 hE5 hF hN=>?_)
 ·have hd1:=(Ext.refl w4).drew
  match i,hi' with
  | 0,_=>
   refine Ar _ _ rfl rfl rfl fun c W hW hdep hkeep=>?_
   have h3:c.tmps.getD 2 undef=.pointer (some ⟨w.heap.size,0,none⟩):=hkeep 2 (by kernel_rfl);go_simp;exact ⟨_,rfl,Ext.refl W,rfl,fun _ _ _ _ _=>trivial⟩
  | 1,_=>
   refine Ar _ _ rfl rfl rfl fun c W hW hdep hkeep=>?_
   have h3:c.tmps.getD 22 undef=.pointer (some ⟨w.heap.size,0,none⟩):=hdep 0 22 (by kernel_rfl);have c0:=HK0.out W (hd1.trans hW);rw [← HVC.out] at c0;go_simp;exact ⟨_,rfl,Ext.refl W,HVC.out,fun _ _ _ _ _=>trivial⟩
  | 2,_=>
   refine Ar _ _ rfl rfl rfl fun c W hW hdep hkeep=>?_
   have h3:c.tmps.getD 2 undef=.pointer (some ⟨w.heap.size,0,none⟩):=hkeep 2 (by kernel_rfl);go_simp;exact ⟨_,rfl,Ext.refl W,rfl,fun _ _ _ _ _=>trivial⟩
  | 3,_=>
   refine Ar _ _ rfl rfl rfl fun c W hW hdep hkeep=>?_
   have h3:c.tmps.getD 24 undef=.pointer (some ⟨w.heap.size,1,none⟩):=hdep 2 24 (by kernel_rfl);have c1:=HK1.out W (hd1.trans hW);go_simp;exact ⟨_,rfl,Ext.refl W,rfl,fun _ _ _ _ _=>trivial⟩
  | 4,_=>
   refine Ar _ _ rfl rfl rfl fun c W hW hdep hkeep=>?_
   have h3:c.tmps.getD 25 undef=.slice (some ⟨bn,on,none⟩) d.nxt.length cn:=hdep 3 25 (by kernel_rfl);go_simp;exact ⟨_,rfl,Ext.refl W,rfl,fun _ _ _ _ _=>trivial⟩
  | 5,_=>
   refine Ar _ _ rfl rfl rfl fun c W hW hdep hkeep=>?_
   have h3:c.tmps.getD 26 undef=iv d.nxt.length:=hdep 4 26 (by kernel_rfl);refine G0 W _ _ 27 rfl w4.heap.size 68 k0 (.slice none 0 0) 1 Tryz.underlying27 hk hx0 hx1 .i64 .i64 _ _ d.nxt.length h3 h3 rfl rfl (by rw [hx2];omega) (by unfold maxLen;omega) (hd1.trans hW).size ?_;intro W' hown hgr;refine ⟨_,rfl,(Ext.refl W).grown hgr (fun k e=>by cases e),⟨_,rfl,?_⟩,fun _ _ _ _ _=>trivial⟩;have:(madeCells (Value.slice none 0 0).cells (d.nxt.length*1)).toList=List.replicate d.nxt.length (.slice none 0 0):=by
    rw [Nat.mul_one];exact toList_madeCells_one _ _
   rw [← this];exact hown
  | 6,_=>
   refine Ar _ _ rfl rfl rfl fun c W hW hdep hkeep=>?_
   have h3:c.tmps.getD 2 undef=.pointer (some ⟨w.heap.size,0,none⟩):=hkeep 2 (by kernel_rfl);go_simp;exact ⟨_,rfl,Ext.refl W,rfl,fun _ _ _ _ _=>trivial⟩
  | 7,_=>
   refine Ar _ _ rfl rfl rfl fun c W hW hdep hkeep=>?_
   have h3:c.tmps.getD 28 undef=.pointer (some ⟨w.heap.size,1,none⟩):=hdep 6 28 (by kernel_rfl);have c1:=HK1.out W (hd1.trans hW);go_simp;exact ⟨_,rfl,Ext.refl W,rfl,fun _ _ _ _ _=>trivial⟩
  | 8,_=>
   refine Ar _ _ rfl rfl rfl fun c W hW hdep hkeep=>?_
   have h3:c.tmps.getD 29 undef=.slice (some ⟨bn,on,none⟩) d.nxt.length cn:=hdep 7 29 (by kernel_rfl);go_simp;exact ⟨_,rfl,Ext.refl W,rfl,fun _ _ _ _ _=>trivial⟩
  | 9,_=>
   refine Ar _ _ rfl rfl rfl fun c W hW hdep hkeep=>?_
   have h3:c.tmps.getD 30 undef=iv d.nxt.length:=hdep 8 30 (by kernel_rfl);refine G0 W _ _ 28 rfl w4.heap.size 4 j0 (.bool false) 1 Tryz.underlying28 hj hy0 hy1 .i64 .i64 _ _ d.nxt.length h3 h3 rfl rfl (by rw [hy2];omega) (by unfold maxLen;omega) (hd1.trans hW).size ?_;intro W' hown hgr;refine ⟨_,rfl,(Ext.refl W).grown hgr (fun k e=>by cases e),⟨_,rfl,?_⟩,fun _ _ _ _ _=>trivial⟩;rw [← Ca];exact hown
  | 10,_=>
   refine Ar _ _ rfl rfl rfl fun c W hW hdep hkeep=>?_
   have h3:c.tmps.getD 23 undef=vc:=hdep 1 23 (by kernel_rfl);obtain ⟨g5,h27,h5⟩:∃ g,c.tmps.getD 27 undef=.slice (some ⟨g,0,none⟩) d.nxt.length d.nxt.length∧W.ownsRow w4.heap.size 68 1 (c.tmps.getD 27 undef) d.nxt.length (List.replicate d.nxt.length (.slice none 0 0)):=hdep 5 27 (by kernel_rfl);obtain ⟨g9,h31,h9⟩:∃ g,c.tmps.getD 31 undef=.slice (some ⟨g,0,none⟩) d.nxt.length d.nxt.length∧W.ownsRow w4.heap.size 4 1 (c.tmps.getD 31 undef) d.nxt.length ((List.replicate d.nxt.length false).map Value.bool):=hdep 9 31 (by kernel_rfl);rw [h27] at h5;rw [h31] at h9;refine Cy (Jg 30 _ rfl (A:=dA vc (.slice (some ⟨g5,0,none⟩) d.nxt.length d.nxt.length) (.slice (some ⟨g9,0,none⟩) d.nxt.length d.nxt.length)) ?_ W) ?_
   ·have e:(Array.map (fun (i,x)=>(i,c.eval x)) #[(0,Operand.tmp 23),(1,Operand.tmp 27),(2,Operand.tmp 31)]).toList=[(0,c.eval (.tmp 23)),(1,c.eval (.tmp 27)),(2,c.eval (.tmp 31))]:=by simp
    rw [e,show c.eval (.tmp 23)=vc from h3,show c.eval (.tmp 27)=_ from h27,show c.eval (.tmp 31)=_ from h31,← HVC.out];exact P7 _ _ _ _ _ _ _ _ _
   ·exact ⟨_,rfl,Ext.refl W,⟨g5,g9,rfl,h5,h9⟩,fun _ _ _ _ _=>trivial⟩
  | 11,_=>
   refine Ar _ _ rfl rfl rfl fun c W hW hdep hkeep=>?_
   go_simp;exact ⟨_,rfl,(Ext.refl W).alloc _,⟨_,rfl,Ab W _,(hd1.trans hW).size⟩,fun _ _ _ _ _=>trivial⟩
 ·have hF0:vs 0=.pointer (some ⟨w.heap.size,0,none⟩):=hF 0 (by omega);have hF1:vs 1=vc:=hF 1 (by omega);have hF2:vs 2=.pointer (some ⟨w.heap.size,1,none⟩):=hF 2 (by omega);have hF3:vs 3=.slice (some ⟨bn,on,none⟩) d.nxt.length cn:=hF 3 (by omega);have hF4:vs 4=iv d.nxt.length:=hF 4 (by omega);obtain ⟨g5',hF5,-⟩:∃ g,vs 5=.slice (some ⟨g,0,none⟩) d.nxt.length d.nxt.length∧_:=hF 5 (by omega);have hF6:vs 6=.pointer (some ⟨w.heap.size,1,none⟩):=hF 6 (by omega);have hF7:vs 7=.slice (some ⟨bn,on,none⟩) d.nxt.length cn:=hF 7 (by omega);have hF8:vs 8=iv d.nxt.length:=hF 8 (by omega);obtain ⟨g9',hF9,-⟩:∃ g,vs 9=.slice (some ⟨g,0,none⟩) d.nxt.length d.nxt.length∧_:=hF 9 (by omega);obtain ⟨g5,g9,hF10,hO5,hO9⟩:∃ g5 g9,vs 10=.agg (dA vc (.slice (some ⟨g5,0,none⟩) d.nxt.length d.nxt.length) (.slice (some ⟨g9,0,none⟩) d.nxt.length d.nxt.length))∧_∧_:=hF 10 (by omega);obtain ⟨g8,hF11,H8,hl8⟩:∃ g,vs 11=.pointer (some ⟨g,0,none⟩)∧_∧_:=hF 11 (by omega);simp only [Ba,List.drop_succ_cons,List.drop_zero,hF0,hF1,hF2,hF3,hF4,hF5,hF6,hF7,hF8,hF9,hF10,hF11,List.getElem?_toArray,List.getElem?_cons_zero,List.getElem?_cons_succ,Option.bind_some,Act.put,List.setIfInBounds_toArray,List.set_cons_zero,List.set_cons_succ];clear hF hN hF0 hF1 hF2 hF3 hF4 hF5 hF6 hF7 hF8 hF9 hF10 hF11;go_upto_region 6 with (refine wpList_store_row rfl 30 (.tmp 8) (.tmp 32) rfl _ _ rfl rfl _ _ H8 Ad rfl (An _ _ _ (by rw [← HVC.out];rfl) rfl rfl) ?_)
  have hE6:=((Ext.refl w4).drew.trans hE5).setRow hl8 (dA vc (.slice (some ⟨g5,0,none⟩) d.nxt.length d.nxt.length) (.slice (some ⟨g9,0,none⟩) d.nxt.length d.nxt.length));have H8':=setRow_heap w5 g8 _ (dA vc (.slice (some ⟨g5,0,none⟩) d.nxt.length d.nxt.length) (.slice (some ⟨g9,0,none⟩) d.nxt.length d.nxt.length)) _ _ H8;have hO5':=hO5.kept (B3 w5 g8 (dA vc (.slice (some ⟨g5,0,none⟩) d.nxt.length d.nxt.length) (.slice (some ⟨g9,0,none⟩) d.nxt.length d.nxt.length))) (Ev hO5 H8 (by decide));have hO9':=hO9.kept (B3 w5 g8 (dA vc (.slice (some ⟨g5,0,none⟩) d.nxt.length d.nxt.length) (.slice (some ⟨g9,0,none⟩) d.nxt.length d.nxt.length))) (Ev hO9 H8 (by decide));obtain ⟨w6,hw6⟩:∃ W,w5.setRow g8 (dA vc (.slice (some ⟨g5,0,none⟩) d.nxt.length d.nxt.length) (.slice (some ⟨g9,0,none⟩) d.nxt.length d.nxt.length))=W:=⟨_,rfl⟩;rw [hw6] at hE6 H8' hO5' hO9';simp only [hw6];clear hw6 H8 hO5 hO9 hE5;have hm0:=HV.out.parts.pos;have hm1:=HV.out.parts.le;have hgs:w4.heap.size≤w6.heap.size:=hE6.size;have k1:=HK1.out w6 hE6;have H8:=Lib.hid H8';clear H8';go_upto_region 7 with (fail)
  clear k1;go_loopw [36] (fun i W=>∃ (s:Nat) (NX:List Value) (AC:List Bool),s≤d.nxt.length∧i=.int .i64 s∧Ext w4 W∧w4.heap.size≤W.heap.size∧Hid (NX.length=d.nxt.length∧AC.length=d.nxt.length)∧
    W.ownsRow w4.heap.size 68 1 (.slice (some ⟨g5,0,none⟩) d.nxt.length d.nxt.length) d.nxt.length NX∧W.ownsRow w4.heap.size 4 1 (.slice (some ⟨g9,0,none⟩) d.nxt.length d.nxt.length) d.nxt.length (AC.map Value.bool)∧
    Hid (W.heap[g8]? = some (.cells (dA vc (.slice (some ⟨g5,0,none⟩) d.nxt.length d.nxt.length) (.slice (some ⟨g9,0,none⟩) d.nxt.length d.nxt.length)) 30 (0,0)))∧
    Hid (∀ j,j<d.nxt.length→swp a j<s→OwnI W w4.heap.size (NX.getD j undef) ((List.range d.cls.length).map fun q=>swp a (d.ent2 (swp a j) q)))∧
    Hid (∀ j,j<d.nxt.length→swp a j<s→AC.getD j false=d.ok (swp a j)))
   (fun i _=>d.nxt.length-(intOf i).toNat)
  case atStart=>exact ⟨0,_,_,by omega,rfl,hE6,hgs,Lib.hid ⟨by simp,by simp⟩,hO5',hO9',H8,Lib.hid (fun j _ h=>by omega),Lib.hid (fun j _ h=>by omega)⟩
  case round=>
   clear hE6 hgs hO5' hO9' H8;obtain ⟨s,NX,AC,hs,rfl,hE,hgs,HL,hO5,hO9,H8,HQ,HQA⟩:=hrel;by_cases hlt:s<d.nxt.length
   ·obtain ⟨br,or',cr,hrc,hrr⟩:=HR.out s hlt;have cr1:=(HE4.out.trans hE).cell hrc;have HRR:=Lib.hid hrr;clear hrc hrr;have hsz4:=hE.size;go_upto_region 9 with (fail)
    clear cr1;go_upto_region 10 with (at_make;refine wpList_make_full _ rfl _ _ 68 rfl wr.heap.size 3 i0 (.int .i64 0) 1 Tryz.underlying68 hi hz0 hz1 .i64 .i64 _ _ d.cls.length rfl rfl rfl rfl (by rw [hz2];omega) (by unfold maxLen;omega) (Nat.le_refl _) ?_;intro w7 hown7 hgrow7)
    have hE7:=hE.grown hgrow7 (fun k e=>by cases e);have hO5:=Bt hO5 hgrow7;have hO9:=Bt hO9 hgrow7;have H8:=Lib.hid ((hgrow7.block g8 (Ak H8.out) (by simp)).trans H8.out);have HQ:=Lib.hid (fun j hj h1=>And.intro (Bt (HQ.out j hj h1) hgrow7) (fun e=>(show ∀ k,(NX.getD j undef).ownBlock=some k→k<wr.heap.size from fun k e=>((HQ.out j hj h1).lt k e).2) wr.heap.size e));have hX7:w7.ownsRow wr.heap.size 3 1 (.slice (some ⟨wr.heap.size,0,none⟩) d.cls.length d.cls.length) d.cls.length ((Bo (fun q=>swp a (d.ent2 s q)) d.cls.length 0).map iv):=by rw [Jf,← Ca];exact hown7
    have hgs7:=Nat.le_trans hgs hgrow7.size;have hlt7:wr.heap.size<w7.heap.size:=(hX7.lt _ rfl).2;clear hown7 hgrow7;generalize hgn:wr.heap.size=gn at *;clear hgn;go_upto_region 11 with (fail)
    go_loopw [46] (fun i W=>∃ k:Nat,k≤d.cls.length∧i=.int .i64 k∧w7.grownBy W (some gn)∧W.ownsRow gn 3 1 (.slice (some ⟨gn,0,none⟩) d.cls.length d.cls.length) d.cls.length ((Bo (fun q=>swp a (d.ent2 s q)) d.cls.length k).map iv))
     (fun i _=>d.cls.length-(intOf i).toNat)
    case atStart=>exact ⟨0,by omega,rfl,World.grownBy.refl _ _,hX7⟩
    case round=>
     obtain ⟨k,hkm,rfl,hg,hX⟩:=hrel;have hEk:=hE7.grown hg (fun k e=>by cases e;exact hgs);by_cases hkl:k<d.cls.length
     ·have cq:=(HE4.out.trans hEk).cell (HRR.out k hkl);have co:=Ap 0 hX (C4 _ _ _).symm k (by rw [C4];exact hkl);have fo:=hX.frozenAt k;obtain ⟨hXn,hgr⟩:=A3 hX k (swp a (d.ent2 s k));rw [Gr (fun q=>swp a (d.ent2 s q)) _ _ hkl] at hXn;have c6:=(cell_of_row wr g6 0 _ _ _ (hEk.heap HB6.out)).trans (show (#[iv a]:Array Value)[0]? = some (iv a) from rfl);have f49:=Lib.hid (Oj a (d.ent2 s k) g6 wr c6);have e49:=enters_of Tryz.func49 (by kernel_rfl) rfl;have hgn:=hg.trans hgr;clear c6 hgr hEk hg hX;generalize d.ent2 s k=x at *;generalize swp a x=y at *;go_wp2_with (go_at_call 49;(with_reducible refine f49.out.mono ?_);rintro e W' ⟨rfl,rfl⟩);go_roundw
      case rel=>exact ⟨k+1,by omega,by go_num,hgn,hXn⟩
      case measure=>simp [intOf];omega
     ·obtain rfl:k=d.cls.length:=by omega
      rw [Lo] at hX;have hjs:=Fp hal hlt;have hsw:swp a (swp a s)=s:=Fo a s;have hO5k:=hO5.kept hg (Ai hO5 hX7 (by decide));have hO9k:=hO9.kept hg (Ai hO9 hX7 (by decide));have hEk:=hE7.grown hg (fun k e=>by cases e;exact hgs);have hg8n:g8≠gn:=fun e=>by
       have h1:=H8.out;obtain ⟨C,hC,-⟩:=Fv hX7;rw [e,hC] at h1;injection h1 with h1
       injection h1 with _ h2 _
       exact absurd h2 (by decide)
      have H8k:=(hg.block g8 (Ak H8.out) (by simp [hg8n])).trans H8.out;have HQk:=Lib.hid (fun j hj h1=>(HQ.out j hj h1).1.kept hg (.inr fun e=>absurd ((HQ.out j hj h1).2 e) (Nat.lt_irrefl _)));clear HQ hO5 hO9 H8 hX7 hE7;have hdr:=(Ext.refl wr).drew;go_upto_region 15 with (fail)
      obtain ⟨wd,hwd⟩:∃ W,wr.drew=W:=⟨_,rfl⟩;rw [hwd] at hdr;have hO5d:=Ah hO5k hdr;have hO9d:=Ah hO9k hdr;have hXd:=Ah hX hdr;have hEd:=hEk.trans hdr;have H8d:=hdr.heap H8k;have HQd:=Lib.hid (fun j hj h1=>Ah (HQk.out j hj h1) hdr);clear hO5k hO9k hX hEk H8k HQk;obtain ⟨C5,hC5,hC5n⟩:=Fv hO5d;obtain ⟨C9,hC9,hC9n⟩:=Fv hO9d;have h59:g5≠g9:=fun e=>by
       rw [e,hC9] at hC5;injection hC5 with h1
       injection h1 with _ h2 _
       exact absurd h2 (by decide)
      have h58:g8≠g5:=fun e=>by
       rw [← e,H8d] at hC5;injection hC5 with h1
       injection h1 with _ h2 _
       exact absurd h2 (by decide)
      have h98:g8≠g9:=fun e=>by
       rw [← e,H8d] at hC9;injection hC9 with h1
       injection h1 with _ h2 _
       exact absurd h2 (by decide)
      have hlo5:w4.heap.size≤g5:=(hO5d.lt g5 rfl).1;have hlo9:w4.heap.size≤g9:=(hO9d.lt g9 rfl).1;obtain ⟨p1,p2,p3,p4,p5,p6⟩:=Kj wd g5 (swp a s) (.slice (some ⟨gn,0,none⟩) d.cls.length d.cls.length) hC5;have hC9':=(p6 g9 (Ne.symm h59)).trans hC9;obtain ⟨q1,q2,q3,q4,q5,q6⟩:=Kj (wd.setCell ⟨g5,swp a s,none⟩ (.slice (some ⟨gn,0,none⟩) d.cls.length d.cls.length)) g9 (swp a s) (.bool (d.ok s)) hC9';have hO5n:=(hO5d.stored (swp a s) (.slice (some ⟨gn,0,none⟩) d.cls.length d.cls.length)).1;have hgr5:=(hO5d.stored (swp a s) (.slice (some ⟨gn,0,none⟩) d.cls.length d.cls.length)).2;have hO9m:=hO9d.kept hgr5 (Ai hO9d hO5d (by decide));obtain ⟨hO9n,hgr9⟩:=A3 hO9m (swp a s) (d.ok s);have hO5n:=hO5n.kept hgr9 (Ai hO5n hO9m (by decide));have hXn:=(hXd.kept hgr5 (Ai hXd hO5d (by decide))).kept hgr9 (Ai (hXd.kept hgr5 (Ai hXd hO5d (by decide))) hO9m (by decide));have HQn:=Lib.hid (fun j hj h1=>((HQd.out j hj h1).kept hgr5 (Ai (HQd.out j hj h1) hO5d (by decide))).kept hgr9 (Ai ((HQd.out j hj h1).kept hgr5 (Ai (HQd.out j hj h1) hO5d (by decide))) hO9m (by decide)));have hEn:=(hEd.grown hgr5 (fun k e=>by cases e;exact hlo5)).grown hgr9 (fun k e=>by cases e;exact hlo9);obtain ⟨wF,hwF⟩:∃ W,(wd.setCell ⟨g5,swp a s,none⟩ (.slice (some ⟨gn,0,none⟩) d.cls.length d.cls.length)).setCell ⟨g9,swp a s,none⟩ (.bool (d.ok s))=W:=⟨_,rfl⟩;rw [hwF] at q1 q2 q3 q4 q5 q6 hO5n hO9n hXn HQn hEn;have hF5:wF.heap[g5]? = some (.cells (C5.setIfInBounds (swp a s) (.slice (some ⟨gn,0,none⟩) d.cls.length d.cls.length)) 68 (0,0)):=(q6 g5 h59).trans p5;have hkF:∀ k,k≠g5→k≠g9→wF.heap[k]? = wd.heap[k]? := fun k h1 h2=>(q6 k h2).trans (p6 k h1)
      have HKF:=Lib.hid hkF;have hl5:=Ak hC5;have hl9:=Ak hC9;have hl8:=Ak H8d;have hl2:w.heap.size<wd.heap.size:=Ak (hEd.heap HB2.out);have hl6:g6<wd.heap.size:=Ak (hEd.heap HB6.out);have h2lo:w.heap.size<w4.heap.size:=Ak HB2.out;have h6lo:g6<w4.heap.size:=Ak HB6.out;have h8lo:=hgs;have HP:=Lib.hid (fun (W:World) (hW:Prg wd wF wd W)=>show W.cell? ⟨g8,1,none⟩=some (.slice (some ⟨g5,0,none⟩) d.nxt.length d.nxt.length)∧W.cell? ⟨g8,2,none⟩=some (.slice (some ⟨g9,0,none⟩) d.nxt.length d.nxt.length)∧W.cell? ⟨g6,0,none⟩=some (iv a)∧
        W.cell? ⟨w.heap.size,2,none⟩=some (.slice (some ⟨ba,oa,none⟩) d.nxt.length ca)∧W.cell? ⟨ba,oa+s,none⟩=some (.bool (d.ok s)) from
       ⟨hW.cell ((cell_of_row wd g8 1 _ _ _ H8d).trans rfl) hl8 (HKF.out _ h58 h98),hW.cell ((cell_of_row wd g8 2 _ _ _ H8d).trans rfl) hl8 (HKF.out _ h58 h98),
        hW.cell ((cell_of_row wd g6 0 _ _ _ (hEd.heap HB6.out)).trans rfl) hl6 (HKF.out _ (by show g6≠g5;omega) (by show g6≠g9;omega)),
        hW.cell (HK2.out wd hEd) hl2 (HKF.out _ (by show w.heap.size≠g5;omega) (by show w.heap.size≠g9;omega)),
        by
         have hca:=HACC.out s hlt;have hbl:ba<w.heap.size:=F2 hca;exact hW.cell ((HE4.out.trans hEd).cell hca) (by show ba<_;omega) (HKF.out _ (by show ba≠g5;omega) (by show ba≠g9;omega))⟩)
      have HFin:=Lib.hid (fun (W:World) (hW:Prg wd wF wd W) (h1:W.heap[g5]? = wF.heap[g5]?) (h2:W.heap[g9]? = wF.heap[g9]?)=>show Ext wF W from
       hW.done (by rw [q1,p1]) (by rw [q2,p2]) (by rw [q3,p3]) (by rw [q4,p4]) (fun k _=>by
        by_cases e1:k=g5
        ·subst e1;exact .inr h1
        ·by_cases e2:k=g9
         ·subst e2;exact .inr h2
         ·exact .inl (HKF.out k e1 e2)))
      have HS5:=Lib.hid (fun (W:World) (hW:Prg wd wF wd W)=>hW.store hC5 hF5 (by omega));have HS9:=Lib.hid (fun (W:World) (hW:Prg wd wF wd W)=>hW.store hC9 q5 (by omega));have HO5n:=Lib.hid hO5n;have HO9n:=Lib.hid hO9n;have HXn:=Lib.hid hXn;have HEn:=Lib.hid hEn;have HSW:=Lib.hid hsw;rw [← hwd] at HP HFin HS5 HS9 hl5 hl9;have HG8F:=Lib.hid ((HKF.out g8 h58 h98).trans H8d);clear hC5 hC9 hC9' hF5 p1 p2 p3 p4 p5 p6 q1 q2 q3 q4 q5 q6 hkF hO5n hO9n hXn hEn hsw hO5d hO9d hXd hEd H8d HQd hgr5 hgr9 hO9m hwF hwd hdr hC5n hC9n h59 h58 h98 hlo5 hlo9 hl8 hl2 hl6 h2lo h6lo h8lo hg hg8n;refine Mt 20 81 rfl (by kernel_rfl) (by kernel_rfl) rfl (Prg wr.drew wF) (Prg.refl _ _) (Prg.trans _ _) (Nu wF d.nxt.length w.heap.size g5 g6 g8 g9 ba oa ca s (swp a s) (.slice (some ⟨gn,0,none⟩) d.cls.length d.cls.length) (d.ok s)) Hk K3 (Abi _ _ _ _ _ _ _ _ _ _ _ _ _ _ hl5 hl9) (fun i hi'=>?_) (fun vs w8 hR8 hF hN=>?_)
      ·rcases Aej i hi' with rfl|rfl|rfl|rfl|rfl|rfl|rfl|rfl|rfl|rfl|rfl|rfl|rfl|rfl|rfl|rfl|rfl|rfl|rfl|rfl
       ·refine Ay _ _ rfl rfl rfl fun c W hW hdep hdw hkeep=>?_
        have h3:c.tmps.getD 8 undef=.pointer (some ⟨g8,0,none⟩):=hkeep 8 (by kernel_rfl);go_simp;exact ⟨_,rfl,Prg.refl _ _ _,rfl,fun _ _ _ _=>trivial⟩
       ·refine Ay _ _ rfl rfl rfl fun c W hW hdep hdw hkeep=>?_
        have h3:c.tmps.getD 58 undef=.pointer (some ⟨g8,1,none⟩):=hdep 0 58 (by kernel_rfl);have c0:=(HP.out W hW).1;go_simp;exact ⟨_,rfl,Prg.refl _ _ _,rfl,fun _ _ _ _=>trivial⟩
       ·refine Ay _ _ rfl rfl rfl fun c W hW hdep hdw hkeep=>?_
        have h3:c.tmps.getD 7 undef=.func (.func 49) #[] #[.pointer (some ⟨g6,0,none⟩)]:=hkeep 7 (by kernel_rfl);go_simp;exact ⟨_,rfl,Prg.refl _ _ _,rfl,fun _ _ _ _=>trivial⟩
       ·refine Ay _ _ rfl rfl rfl fun c W hW hdep hdw hkeep=>?_
        have h3:c.tmps.getD 9 undef=iv s:=hkeep 9 (by kernel_rfl);go_simp;exact ⟨_,rfl,Prg.refl _ _ _,rfl,fun _ _ _ _=>trivial⟩
       ·refine Ay _ _ rfl rfl rfl fun c W hW hdep hdw hkeep=>?_
        have h60:c.tmps.getD 60 undef=.func (.func 49) #[] #[.pointer (some ⟨g6,0,none⟩)]:=hdep 2 60 (by kernel_rfl);have h61:c.tmps.getD 61 undef=iv s:=hdep 3 61 (by kernel_rfl);have e49:=enters_of Tryz.func49 (by kernel_rfl) rfl;have f49:=Lib.hid (Oj a s g6 W (HP.out W hW).2.2.1);go_simp
        (with_reducible refine f49.out.mono ?_)
        rintro e W' ⟨rfl,rfl⟩;exact ⟨_,rfl,Prg.refl _ _ _,rfl,fun _ _ _ _=>trivial⟩
       ·refine Ay _ _ rfl rfl rfl fun c W hW hdep hdw hkeep=>?_
        have h3:c.tmps.getD 8 undef=.pointer (some ⟨g8,0,none⟩):=hkeep 8 (by kernel_rfl);go_simp;exact ⟨_,rfl,Prg.refl _ _ _,rfl,fun _ _ _ _=>trivial⟩
       ·refine Ay _ _ rfl rfl rfl fun c W hW hdep hdw hkeep=>?_
        have h3:c.tmps.getD 63 undef=.pointer (some ⟨g8,2,none⟩):=hdep 5 63 (by kernel_rfl);have c0:=(HP.out W hW).2.1;go_simp;exact ⟨_,rfl,Prg.refl _ _ _,rfl,fun _ _ _ _=>trivial⟩
       ·refine Ay _ _ rfl rfl rfl fun c W hW hdep hdw hkeep=>?_
        have h3:c.tmps.getD 7 undef=.func (.func 49) #[] #[.pointer (some ⟨g6,0,none⟩)]:=hkeep 7 (by kernel_rfl);go_simp;exact ⟨_,rfl,Prg.refl _ _ _,rfl,fun _ _ _ _=>trivial⟩
       ·refine Ay _ _ rfl rfl rfl fun c W hW hdep hdw hkeep=>?_
        have h3:c.tmps.getD 9 undef=iv s:=hkeep 9 (by kernel_rfl);go_simp;exact ⟨_,rfl,Prg.refl _ _ _,rfl,fun _ _ _ _=>trivial⟩
       ·refine Ay _ _ rfl rfl rfl fun c W hW hdep hdw hkeep=>?_
        have h60:c.tmps.getD 65 undef=.func (.func 49) #[] #[.pointer (some ⟨g6,0,none⟩)]:=hdep 7 65 (by kernel_rfl);have h61:c.tmps.getD 66 undef=iv s:=hdep 8 66 (by kernel_rfl);have e49:=enters_of Tryz.func49 (by kernel_rfl) rfl;have f49:=Lib.hid (Oj a s g6 W (HP.out W hW).2.2.1);go_simp
        (with_reducible refine f49.out.mono ?_)
        rintro e W' ⟨rfl,rfl⟩;exact ⟨_,rfl,Prg.refl _ _ _,rfl,fun _ _ _ _=>trivial⟩
       ·refine Ay _ _ rfl rfl rfl fun c W hW hdep hdw hkeep=>?_
        have h3:c.tmps.getD 11 undef=.slice (some ⟨gn,0,none⟩) d.cls.length d.cls.length:=hkeep 11 (by kernel_rfl);go_simp;exact ⟨_,rfl,Prg.refl _ _ _,rfl,fun _ _ _ _=>trivial⟩
       ·refine Ay _ _ rfl rfl rfl fun c W hW hdep hdw hkeep=>?_
        have h3:c.tmps.getD 2 undef=.pointer (some ⟨w.heap.size,0,none⟩):=hkeep 2 (by kernel_rfl);go_simp;exact ⟨_,rfl,Prg.refl _ _ _,rfl,fun _ _ _ _=>trivial⟩
       ·refine Ay _ _ rfl rfl rfl fun c W hW hdep hdw hkeep=>?_
        have h3:c.tmps.getD 69 undef=.pointer (some ⟨w.heap.size,2,none⟩):=hdep 11 69 (by kernel_rfl);have c0:=(HP.out W hW).2.2.2.1;go_simp;exact ⟨_,rfl,Prg.refl _ _ _,rfl,fun _ _ _ _=>trivial⟩
       ·refine Ay _ _ rfl rfl rfl fun c W hW hdep hdw hkeep=>?_
        have h3:c.tmps.getD 9 undef=iv s:=hkeep 9 (by kernel_rfl);go_simp;exact ⟨_,rfl,Prg.refl _ _ _,rfl,fun _ _ _ _=>trivial⟩
       ·refine Ay _ _ rfl rfl rfl fun c W hW hdep hdw hkeep=>?_
        have h70:c.tmps.getD 70 undef=.slice (some ⟨ba,oa,none⟩) d.nxt.length ca:=hdep 12 70 (by kernel_rfl);have h71:c.tmps.getD 71 undef=iv s:=hdep 13 71 (by kernel_rfl);go_simp;exact ⟨_,rfl,Prg.refl _ _ _,rfl,fun _ _ _ _=>trivial⟩
       ·refine Ay _ _ rfl rfl rfl fun c W hW hdep hdw hkeep=>?_
        have h3:c.tmps.getD 72 undef=.pointer (some ⟨ba,oa+s,none⟩):=hdep 14 72 (by kernel_rfl);have c0:=(HP.out W hW).2.2.2.2;go_simp;exact ⟨_,rfl,Prg.refl _ _ _,rfl,fun _ _ _ _=>trivial⟩
       ·refine Ay _ _ rfl rfl rfl fun c W hW hdep hdw hkeep=>?_
        have h59':c.tmps.getD 59 undef=.slice (some ⟨g5,0,none⟩) d.nxt.length d.nxt.length:=hdep 1 59 (by kernel_rfl);have h62:c.tmps.getD 62 undef=iv (swp a s):=hdep 4 62 (by kernel_rfl);generalize swp a s=js at *;go_simp;exact ⟨_,rfl,Prg.refl _ _ _,rfl,fun _ _ _ _=>trivial⟩
       ·refine Kz _ rfl rfl rfl fun c W hW hdep hdw hkeep=>?_
        have h74:c.tmps.getD 74 undef=.pointer (some ⟨g5,swp a s,none⟩):=hdep 16 74 (by kernel_rfl);have h68:c.tmps.getD 68 undef=.slice (some ⟨gn,0,none⟩) d.cls.length d.cls.length:=hdep 10 68 (by kernel_rfl);obtain ⟨⟨old,hco⟩,hfo,hpr,hhe⟩:=HS5.out W hW;go_simp;exact ⟨hhe,fun _ _ _ _=>trivial⟩
       ·refine Ay _ _ rfl rfl rfl fun c W hW hdep hdw hkeep=>?_
        have h59':c.tmps.getD 64 undef=.slice (some ⟨g9,0,none⟩) d.nxt.length d.nxt.length:=hdep 6 64 (by kernel_rfl);have h62:c.tmps.getD 67 undef=iv (swp a s):=hdep 9 67 (by kernel_rfl);generalize swp a s=js at *;go_simp;exact ⟨_,rfl,Prg.refl _ _ _,rfl,fun _ _ _ _=>trivial⟩
       ·refine Kz _ rfl rfl rfl fun c W hW hdep hdw hkeep=>?_
        have h74:c.tmps.getD 75 undef=.pointer (some ⟨g9,swp a s,none⟩):=hdep 18 75 (by kernel_rfl);have h68:c.tmps.getD 73 undef=.bool (d.ok s):=hdep 15 73 (by kernel_rfl);obtain ⟨⟨old,hco⟩,hfo,hpr,hhe⟩:=HS9.out W hW;go_simp;exact ⟨hhe,fun _ _ _ _=>trivial⟩
      ·have hEF:=HFin.out w8 hR8 (hF 17 (by omega)) (hF 19 (by omega));have v0:vs 0=.pointer (some ⟨g8,1,none⟩):=hF 0 (by omega);have v1:vs 1=.slice (some ⟨g5,0,none⟩) d.nxt.length d.nxt.length:=hF 1 (by omega);have v2:vs 2=.func (.func 49) #[] #[.pointer (some ⟨g6,0,none⟩)]:=hF 2 (by omega);have v3:vs 3=iv s:=hF 3 (by omega);have v4:vs 4=iv (swp a s):=hF 4 (by omega);have v5:vs 5=.pointer (some ⟨g8,2,none⟩):=hF 5 (by omega);have v6:vs 6=.slice (some ⟨g9,0,none⟩) d.nxt.length d.nxt.length:=hF 6 (by omega);have v7:vs 7=.func (.func 49) #[] #[.pointer (some ⟨g6,0,none⟩)]:=hF 7 (by omega);have v8:vs 8=iv s:=hF 8 (by omega);have v9:vs 9=iv (swp a s):=hF 9 (by omega);have v10:vs 10=.slice (some ⟨gn,0,none⟩) d.cls.length d.cls.length:=hF 10 (by omega);have v11:vs 11=.pointer (some ⟨w.heap.size,2,none⟩):=hF 11 (by omega);have v12:vs 12=.slice (some ⟨ba,oa,none⟩) d.nxt.length ca:=hF 12 (by omega);have v13:vs 13=iv s:=hF 13 (by omega);have v14:vs 14=.pointer (some ⟨ba,oa+s,none⟩):=hF 14 (by omega);have v15:vs 15=.bool (d.ok s):=hF 15 (by omega);have v16:vs 16=.pointer (some ⟨g5,swp a s,none⟩):=hF 16 (by omega);have v18:vs 18=.pointer (some ⟨g9,swp a s,none⟩):=hF 18 (by omega);simp only [Ba,v0,v1,v2,v3,v4,v5,v6,v7,v8,v9,v10,v11,v12,v13,v14,v15,v16,v18,List.getElem?_toArray,List.getElem?_cons_zero,List.getElem?_cons_succ,Option.bind_some,Act.put,List.setIfInBounds_toArray,List.set_cons_zero,List.set_cons_succ];clear v0 v1 v2 v3 v4 v5 v6 v7 v8 v9 v10 v11 v12 v13 v14 v15 v16 v18 hF hN hR8;have hEn:=HEn.out.trans hEF;have hO5n:=Ah HO5n.out hEF;have hO9n:=Ah HO9n.out hEF;have hXn:=Ah HXn.out hEF;have HQ8:=Lib.hid (fun j hj h1=>Ah (HQn.out j hj h1) hEF);have H8F:Hid (w8.heap[g8]? = some (.cells (dA vc (.slice (some ⟨g5,0,none⟩) d.nxt.length d.nxt.length) (.slice (some ⟨g9,0,none⟩) d.nxt.length d.nxt.length)) 30 (0,0))):=Lib.hid (hEF.heap HG8F.out);clear hEF HEn HO5n HO9n HXn HQn HFin HS5 HS9 HP HKF HG8F hl5 hl9;go_wp2;go_roundw
       case rel=>
        refine ⟨s+1,_,_,by omega,by go_num,hEn,hEn.size,Lib.hid ⟨by rw [List.length_set];exact HL.out.1,by rw [List.length_set];exact HL.out.2⟩,hO5n,hO9n,H8F,Lib.hid (fun j hj h1=>?_),Lib.hid (fun j hj h1=>?_)⟩
        ·by_cases e:j=swp a s
         ·subst e;rw [A5 _ _ _ _ _ (by rw [HL.out.1];exact hjs),if_pos rfl];have:=Oc hXn (show w4.heap.size≤gn by omega);unfold OwnI;rw [HSW.out,List.length_map,List.length_range];exact this
         ·rw [A5 _ _ _ _ _ (by rw [HL.out.1];exact hjs),if_neg e];refine HQ8.out j hj ?_;have:swp a j≠s:=fun h=>e (by rw [← h,Fo])
          omega
        ·by_cases e:j=swp a s
         ·subst e;rw [A5 _ _ _ _ _ (by rw [HL.out.2];exact hjs),if_pos rfl,HSW.out]
         ·rw [A5 _ _ _ _ _ (by rw [HL.out.2];exact hjs),if_neg e];refine HQA.out j hj ?_;have:swp a j≠s:=fun h=>e (by rw [← h,Fo])
          omega
       case measure=>simp [intOf];omega
   ·obtain rfl:s=d.nxt.length:=by omega
    have hQt:Quot d ⟨d.cls,(List.range d.nxt.length).map fun j=>(List.range d.cls.length).map fun q=>swp a (d.ent2 (swp a j) q),AC⟩ a:=by
     have hrow:∀ s,s<d.nxt.length→((List.range d.nxt.length).map fun j=>(List.range d.cls.length).map fun q=>swp a (d.ent2 (swp a j) q)).getD (swp a s) []=(List.range d.cls.length).map fun q=>swp a (d.ent2 s q):=fun s hs=>by
      rw [Cq _ _ _ _ (Fp hal hs),Fo]
     refine ⟨rfl,by simp,HL.out.2,fun s hs=>?_,fun s hs k hk=>?_,fun s hs=>?_⟩
     ·rw [hrow s hs];simp
     ·show (((List.range d.nxt.length).map fun j=>(List.range d.cls.length).map fun q=>swp a (d.ent2 (swp a j) q)).getD (swp a s) []).getD k 0=_;rw [hrow s hs,Cq _ _ _ _ hk]
     ·show AC.getD (swp a s) false=_;rw [HQA.out (swp a s) (Fp hal hs) (by rw [Fo];exact hs),Fo]
    obtain ⟨q,hq⟩:∃ q:Dfa,Dfa.mk d.cls ((List.range d.nxt.length).map fun j=>(List.range d.cls.length).map fun q=>swp a (d.ent2 (swp a j) q)) AC=q:=⟨_,rfl⟩;have hqv:Val q:=by rw [← hq];exact hQt.val HV.out hal
    have hqn:q.nxt.length=d.nxt.length:=by rw [← hq];simp
    have hqh:∀ x,q.has x=d.has (l++x):=by
     rw [← HA.out] at hQt hq;rw [← hq];exact Abh HV.out hQt
    have hIsD:IsD wr (.agg (dA vc (.slice (some ⟨g5,0,none⟩) d.nxt.length d.nxt.length) (.slice (some ⟨g9,0,none⟩) d.nxt.length d.nxt.length))) q:=by
     refine ⟨vc,_,_,rfl,by rw [← hq];exact HC.out.ext (HE4.out.trans hE),?_,?_⟩
     ·rw [← hq];refine ⟨NX,by rw [HL.out.1];simp,?_,fun i hi=>?_⟩
      ·have:=Sl.of_owns hO5 (show d.nxt.length≤4611686018427387904 by omega) undef;simp only [List.length_map,List.length_range];exact this
      ·have hi':i<d.nxt.length:=by simpa using hi
       have h1:=HQ.out i hi' (Fp hal hi');simp only;rw [Cq _ _ _ _ hi'];exact h1.ints (by simp;omega)
     ·have h9:OwnB wr w4.heap.size (.slice (some ⟨g9,0,none⟩) d.nxt.length d.nxt.length) AC:=by
       unfold OwnB;rw [HL.out.2];exact hO9
      rw [← hq];exact h9.bools (by rw [HL.out.2];omega)
    have hCn:=Lib.hid (Ig q hqv (by rw [hqn];exact hn) _ wr (HTa.out wr (HE4.out.trans hE)) (Nat.lt_of_lt_of_le hsz (HE4.out.trans hE).size) hIsD);have HB4:=Lib.hid (hE.heap HB4.out);have HQH:=Lib.hid hqh;have HE:=Lib.hid (HE4.out.trans hE);clear hqv hqn hqh hIsD hQt hO5 hO9 HQ HQA hE hgs;go_wp2_with (first
     | (refine wpList_load_row rfl 30 (.tmp 8) rfl _ rfl _ _ _ _ H8.out Tryz.underlying30 rfl Ad ?_)
     | (go_at_call 28;(with_reducible refine hCn.out.mono ?_);rintro e w9 ⟨r,hres,hcan,hhas,hE9⟩;obtain ⟨ac2,lc2,cc2,an2,ln2,cn2,aa2,la2,ca2,k2,rfl⟩:=hres.form;have HRes:=Lib.hid hres;have HCan:=Lib.hid hcan;have HHas:=Lib.hid hhas;clear hres hcan hhas;have HB4:=Lib.hid (hE9.heap HB4.out))
     | (refine wpList_store_row rfl 30 (.tmp 4) (.tmp 79) rfl _ _ rfl rfl _ _ HB4.out Ad rfl (An _ _ _ rfl rfl rfl) ?_))
    refine bodyPost_ret (v:=.tuple #[.agg (dA (.slice ac2 lc2 cc2) (.slice an2 ln2 cn2) (.slice aa2 la2 ca2)),.int .i64 k2]) (A2 rfl _ _ _ _ _ _ _ rfl _ rfl (setRow_heap w9 _ _ (dA (.slice ac2 lc2 cc2) (.slice an2 ln2 cn2) (.slice aa2 la2 ca2)) 30 (0,0) HB4.out) Tryz.underlying30 rfl Ad) rfl ?_;exact ⟨r,HRes.out.setRow (fun d' h=>by injection h with h;subst h;exact HCan.out.val) HB4.out _,HCan.out,fun x=>by rw [HHas.out,HQH.out],(HE.out.trans hE9).setRow (by omega) _⟩
end Go.Proofs.YtaiogolidlamiaaGreatDoor
