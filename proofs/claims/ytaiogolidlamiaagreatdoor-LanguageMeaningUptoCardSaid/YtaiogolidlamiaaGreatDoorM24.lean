import Derived.Test.YtaiogolidlamiaaGreatDoorM23
import Derived.Test.YtaiogolidlamiaaGreatDoorM20
import Derived.Lib.SliceRun
set_option linter.unusedVariables false
set_option linter.unusedSimpArgs false
namespace Go.Proofs.YtaiogolidlamiaaGreatDoor
set_option maxRecDepth 100000
open Go.RowKit Go.Shelf
theorem S2 {l L:List Cls} (h:IsCells l L):Parts L:=⟨h.nz,h.dis,h.cover⟩
theorem Wa {L:List Cls} (h:IsCells [] L):∃ c,L=[c]∧∀ b,b<256→c.getLsbD b=true:=by
 have hall:∀ c∈L,∀ b,b<256→c.getLsbD b=true:=fun c hc b hb=>by
  obtain ⟨i,hi,hic⟩:=Md (h.nz c hc);exact (h.cls c hc i hi hic b hb).2 (fun x hx=>by cases hx)
 obtain ⟨c,hc,_⟩:=h.cover 0 (by omega);cases L with
 | nil=>cases hc
 | cons a L=>
  cases L with
  | nil=>exact ⟨a,rfl,hall a (by simp)⟩
  | cons b L=>
   exfalso
   have hd:=(List.pairwise_cons.1 h.dis).1 b (by simp);exact hd 0 ⟨hall a (by simp) 0 (by omega),hall b (by simp) 0 (by omega)⟩
theorem S8 (w:World) (vc:Value) (c:Cls) (a:Bool) (hC:Cs w vc [c]) :
  IsD (((w.alloc (.cells #[.int .i64 0] 3)).alloc (.cells #[.slice (some ⟨w.heap.size,0,none⟩) 1 1] 68)).alloc (.cells #[.bool a] 4)) (.agg #[vc,.slice (some ⟨w.heap.size+1,0,none⟩) 1 1,.slice (some ⟨w.heap.size+1+1,0,none⟩) 1 1]) (Co c a):=by
 have e1:=(Ext.refl w).alloc (.cells #[.int .i64 0] 3);have H1:=Af (Af (Ab w (.cells #[.int .i64 0] 3)) (.cells #[.slice (some ⟨w.heap.size,0,none⟩) 1 1] 68)) (.cells #[.bool a] 4);have H2:=Af (heap_alloc2_new w (.cells #[.int .i64 0] 3) (.cells #[.slice (some ⟨w.heap.size,0,none⟩) 1 1] 68)) (.cells #[.bool a] 4);have H3:=Ab ((w.alloc (.cells #[.int .i64 0] 3)).alloc (.cells #[.slice (some ⟨w.heap.size,0,none⟩) 1 1] 68)) (.cells #[.bool a] 4);rw [World.size_alloc,World.size_alloc] at H3;have hE:=((e1.alloc (.cells #[.slice (some ⟨w.heap.size,0,none⟩) 1 1] 68)).alloc (.cells #[.bool a] 4));obtain ⟨W,hW⟩:∃ W,((w.alloc (.cells #[.int .i64 0] 3)).alloc (.cells #[.slice (some ⟨w.heap.size,0,none⟩) 1 1] 68)).alloc (.cells #[.bool a] 4)=W:=⟨_,rfl⟩;rw [hW] at H1 H2 H3 hE ⊢;refine ⟨vc,_,_,rfl,hC.ext hE,⟨[.slice (some ⟨w.heap.size,0,none⟩) 1 1],rfl,?_,fun i hi=>?_⟩,?_⟩
 ·refine ⟨by show (1:Nat)≤_;omega,.inr ⟨by show 0<1;omega,_,0,1,rfl,Ak H2,fun i hi=>?_⟩⟩;obtain rfl:i=0:=by have:i<1*1:=hi;omega
  exact (cell_of_row W _ 0 _ _ _ H2).trans rfl
 ·obtain rfl:i=0:=by have:i<1:=hi;omega
  refine ⟨by show (1:Nat)≤_;omega,.inr ⟨by show 0<1;omega,_,0,1,rfl,Ak H1,fun i hi=>?_⟩⟩;obtain rfl:i=0:=by have:i<1*1:=hi;omega
  exact (cell_of_row W _ 0 _ _ _ H1).trans rfl
 ·refine ⟨by show (1:Nat)≤_;omega,.inr ⟨by show 0<1;omega,_,0,1,rfl,Ak H3,fun i hi=>?_⟩⟩;obtain rfl:i=0:=by have:i<1*1:=hi;omega
  exact (cell_of_row W _ 0 _ _ _ H3).trans rfl
theorem Vt (w:World):Cs w (.slice none 0 0) []:=Sl.nil w _ _
set_option maxHeartbeats 1000000 in
theorem Tm (w:World) (hT:Tab w) (hsz:0<w.heap.size) :
  Calls Tryz.prog 117 #[] w fun e w'=>∃ r,ResOf w' e (some r)∧Cano r∧(∀ u,r.has u=false)∧Ext w w':=by
 have HTa:=Lib.hid (fun W (hW:Ext w W)=>hT.below hW.below hsz);have hE0:=(Ext.refl w).alloc (.cells #[.slice none 0 0,.slice none 0 0,.slice none 0 0] 30);have H0:=Ab w (.cells #[.slice none 0 0,.slice none 0 0,.slice none 0 0] 30);have f143:=fun W (hW:Ext w W)=>Lib.hid (Wb [] _ W (HTa.out W hW) (Nat.lt_of_lt_of_le hsz hW.size) (Vt W))
 clear hT;go_enter Tryz.func117,Tryz.ntmps117;go_upto_region 1 with (fail)
 obtain ⟨w1,hw1⟩:∃ W,w.alloc (.cells #[.slice none 0 0,.slice none 0 0,.slice none 0 0] 30)=W:=⟨_,rfl⟩;rw [hw1] at hE0 H0;simp only [hw1];clear hw1;have HB0:=Lib.hid H0;have HE0:=Lib.hid hE0;clear H0 hE0;go_wp2_with (first
  | (go_at_call 143;(with_reducible refine (f143 _ HE0.out).out.mono ?_);rintro e w2 ⟨vc,L,rfl,hCs,hP,-,hE2⟩;obtain ⟨c,hLc,hall⟩:=Wa ((O6 []).perm hP);rw [hLc] at hCs;obtain ⟨ac,cc,hvc⟩:∃ ac cc,vc=.slice ac 1 cc:=Sl.len hCs;have hI:=S8 w2 vc c false hCs;have HE3:=Lib.hid ((((HE0.out.trans hE2).alloc (.cells #[.int .i64 0] 3)).alloc (.cells #[.slice (some ⟨w2.heap.size,0,none⟩) 1 1] 68)).alloc (.cells #[.bool false] 4));have HC:=Lib.hid hall;have hCn:=Lib.hid (Ig (Co c false) (K2 c hall false).val (by show (1:Nat)≤64;omega) _ _ (HTa.out _ HE3.out) (Nat.lt_of_lt_of_le hsz HE3.out.size) hI);subst hvc;have HB0:=Lib.hid (Af (Af (Af (hE2.heap HB0.out) (.cells #[.int .i64 0] 3)) (.cells #[.slice (some ⟨w2.heap.size,0,none⟩) 1 1] 68)) (.cells #[.bool false] 4));clear hI hE2 hCs hP hall hLc L)
  | (go_at_call 28;(with_reducible refine hCn.out.mono ?_);rintro e w9 ⟨r,hres,hcan,hhas,hE9⟩;obtain ⟨ac2,lc2,cc2,an2,ln2,cn2,aa2,la2,ca2,k2,rfl⟩:=hres.form;have HRes:=Lib.hid hres;have HCan:=Lib.hid hcan;have HHas:=Lib.hid hhas;clear hres hcan hhas;have HB0:=Lib.hid (hE9.heap HB0.out))
  | (refine wpList_store_row rfl 30 (.tmp 0) (.tmp 8) rfl _ _ rfl rfl _ _ HB0.out Ad rfl (An _ _ _ rfl rfl rfl) ?_))
 refine bodyPost_ret (v:=.tuple #[.agg (dA (.slice ac2 lc2 cc2) (.slice an2 ln2 cn2) (.slice aa2 la2 ca2)),.int .i64 k2]) (A2 rfl _ _ _ _ _ _ _ rfl _ rfl (setRow_heap w9 _ _ (dA (.slice ac2 lc2 cc2) (.slice an2 ln2 cn2) (.slice aa2 la2 ca2)) 30 (0,0) HB0.out) Tryz.underlying30 rfl Ad) rfl ?_;exact ⟨r,HRes.out.setRow (fun d' h=>by injection h with h;subst h;exact HCan.out.val) HB0.out _,HCan.out,fun x=>by rw [HHas.out,S9 c HC.out],(HE3.out.trans hE9).setRow (by omega) _⟩
set_option maxHeartbeats 1000000 in
theorem Aa8 (a:Bool) (w:World) :
  Calls Tryz.prog 46 #[.bool a] w fun e w'=>∃ v c,e=.returned v∧IsD w' v (Co c a)∧(∀ b,b<256→c.getLsbD b=true)∧Ext w w':=by
 have hE0:=(Ext.refl w).alloc (.cells #[.slice none 0 0,.slice none 0 0,.slice none 0 0] 30);have H0:=Ab w (.cells #[.slice none 0 0,.slice none 0 0,.slice none 0 0] 30);have f91:=fun W=>Lib.hid (Abc [] _ W (Vt W))
 go_enter Tryz.func46,Tryz.ntmps46;go_upto_region 1 with (fail)
 obtain ⟨w1,hw1⟩:∃ W,w.alloc (.cells #[.slice none 0 0,.slice none 0 0,.slice none 0 0] 30)=W:=⟨_,rfl⟩;rw [hw1] at hE0 H0;simp only [hw1];clear hw1;have HB0:=Lib.hid H0;have HE0:=Lib.hid hE0;clear H0 hE0;go_wp2_with (first
  | (go_at_call 91;(with_reducible refine (f91 _).out.mono ?_);rintro e w2 ⟨vc,rfl,hCs,hE2⟩;obtain ⟨c,hLc,hall⟩:=Wa (T9 []);rw [hLc] at hCs;obtain ⟨ac,cc,hvc⟩:∃ ac cc,vc=.slice ac 1 cc:=Sl.len hCs;have HI:=Lib.hid (S8 w2 vc c a hCs);have HE3:=Lib.hid ((((HE0.out.trans hE2).alloc (.cells #[.int .i64 0] 3)).alloc (.cells #[.slice (some ⟨w2.heap.size,0,none⟩) 1 1] 68)).alloc (.cells #[.bool a] 4));have HC:=Lib.hid hall;subst hvc;have HB0:=Lib.hid (Af (Af (Af (hE2.heap HB0.out) (.cells #[.int .i64 0] 3)) (.cells #[.slice (some ⟨w2.heap.size,0,none⟩) 1 1] 68)) (.cells #[.bool a] 4));clear hE2 hCs hall hLc)
  | (refine wpList_store_row rfl 30 (.tmp 2) (.tmp 8) rfl _ _ rfl rfl _ _ HB0.out Ad rfl (An _ _ _ rfl rfl rfl) ?_))
 refine bodyPost_ret (v:=.agg #[.slice ac 1 cc,.slice (some ⟨w2.heap.size+1,0,none⟩) 1 1,.slice (some ⟨w2.heap.size+1+1,0,none⟩) 1 1]) (results_cell_row rfl _ _ _ _ _ _ _ rfl (setRow_heap _ _ _ #[.slice ac 1 cc,.slice (some ⟨w2.heap.size+1,0,none⟩) 1 1,.slice (some ⟨w2.heap.size+1+1,0,none⟩) 1 1] 30 (0,0) HB0.out) Tryz.underlying30 rfl Ad) rfl ?_;exact ⟨_,c,rfl,IsD.setRow (K2 c HC.out a).val HI.out HB0.out _,HC.out,HE3.out.setRow (Nat.le_refl _) _⟩
theorem Acm {W:World} {base base' e e' g n cap:Nat} {xs ys:List Value} (h:W.ownsRow base e 1 (.slice (some ⟨g,0,none⟩) n cap) n xs) (h':W.ownsRow base' e' 1 (.slice (some ⟨g,0,none⟩) n cap) n ys):xs=ys:=by
 apply List.ext_getElem?;intro i;by_cases hi:i<n
 ·rw [← h.cellAt i (by omega),← h'.cellAt i (by omega)]
 ·rw [List.getElem?_eq_none (by rw [h.1];omega),List.getElem?_eq_none (by rw [h'.1];omega)]
theorem Aef {V V':List Bool} (h:V.map Value.bool=V'.map Value.bool):V=V':=
 List.map_inj_right (fun x y e=>by injection e) |>.1 h
open Classical in
noncomputable def Ly (gs g n cg:Nat) (W:World):Nat:=if h:∃ V:List Bool,W.ownsRow gs 4 1 (.slice (some ⟨g,0,none⟩) n cg) n (V.map Value.bool) then F1 (Classical.choose h) else 0
theorem V4 {gs g n cg:Nat} {W:World} {V:List Bool} (h:W.ownsRow gs 4 1 (.slice (some ⟨g,0,none⟩) n cg) n (V.map Value.bool)):Ly gs g n cg W=F1 V:=by
 unfold Ly;have hex:∃ V:List Bool,W.ownsRow gs 4 1 (.slice (some ⟨g,0,none⟩) n cg) n (V.map Value.bool):=⟨V,h⟩;rw [dif_pos hex];rw [Aef (Acm (Classical.choose_spec hex) h)]
def Qa:Value→Nat
 | .bool true=>1
 | _=>0
theorem Ahz (V:List Bool) (hV0:0<V.length) (hV1:V.length≤65536) (b o c:Nat) (w:World) (h:∀ s,s<V.length→w.cell? ⟨b,o+s,none⟩=some (.bool (V.getD s false))) :
  Calls Tryz.prog 54 #[.slice (some ⟨b,o,none⟩) V.length c] w fun e w'=>∃ g cg,e=.returned (.slice (some ⟨g,0,none⟩) V.length cg)∧OwnB w' w.heap.size (.slice (some ⟨g,0,none⟩) V.length cg) V∧Ext w w':=by
 obtain ⟨j0,hj,hy0,hy1,hy2⟩:=info_parts Fd;have hown:=World.ownsRow_lit (base:=w.heap.size) (e:=4) (size:=1) w #[] 0 (Nat.le_refl _) (by unfold maxLen;omega) rfl;have hE:=(Ext.refl w).alloc (.cells #[] 4);have hnews:∀ j u,(V.map Value.bool)[j]? = some u→(w.alloc (.cells #[] 4)).cell? ((⟨b,o,none⟩:Addr).add j)=some u:=fun j u hj=>by
  obtain ⟨hj1,hj2⟩:=List.getElem?_eq_some_iff.1 hj;have hjl:j<V.length:=by rwa [List.length_map] at hj1
  have e:(⟨b,o,none⟩:Addr).add j=⟨b,o+j,none⟩:=by
   unfold Addr.add;by_cases h0:j=0
   ·subst h0;rfl
   ·simp [h0]
  rw [e,hE.cell (h j hjl),← hj2,List.getElem_map,List.getD_eq_getElem?_getD,List.getElem?_eq_getElem hjl];rfl
 have HN:=Lib.hid hnews;clear hnews h;have hnil:∀ W,(binOp .eql 28 (.slice (some ⟨b,o,none⟩) V.length c) (.slice none 0 0)).run Tryz.prog W=.ok (.bool false) W:=fun W=>Lib.run_eql_slice_nil W 28 4 _ _ _ _ _ Tryz.underlying28
 go_enter Tryz.func54,Tryz.ntmps54;go_wp2_with (at_builtin;refine wpList_append_lies _ rfl _ _ 28 rfl w.heap.size 4 j0 (.bool false) 1 1 Tryz.underlying28 hj hy0 hy1 hy2 rfl (by decide) _ 0 [] rfl hown ⟨b,o,none⟩ V.length _ (V.map Value.bool) rfl (by simp) HN.out (fun u hu=>by obtain ⟨b',_,rfl⟩:=List.mem_map.1 hu;rfl) hV0 (by unfold maxLen;omega) (by omega) (by rw [World.size_alloc];omega) _ rfl ?_);intro g7 c7 w7 hI7 hgr7 _ hg7;have hE7:Ext w w7:=hE.grown hgr7 (fun k e=>by have:w.heap.size=k:=Option.some.inj e;omega);clear hown hgr7;go_wp2;go_ret;exact ⟨g7,c7,rfl,hI7,hE7⟩
theorem Aeo (g4 g n cg:Nat) (V:List Bool) (x:Nat) (hx:x<n) (W:World) (hc:W.cell? ⟨g4,0,none⟩=some (.slice (some ⟨g,0,none⟩) n cg)) (hv:W.cell? ⟨g,x,none⟩=some (.bool (V.getD x false))) :
  Calls Tryz.prog 56 #[iv x,.pointer (some ⟨g4,0,none⟩)] W fun e w'=>e=.returned (.bool (V.getD x false))∧w'=W:=by
 generalize V.getD x false=b at *;go_enter Tryz.func56,Tryz.ntmps56;go_wp2;go_ret;exact ⟨rfl,rfl⟩
theorem Afz (r:List Nat) (hr:r.length≤65536) (P:Nat→Bool) (caps:Array Value) (b o c:Nat) (w:World) (hc:∀ k,k<r.length→w.cell? ⟨b,o+k,none⟩=some (iv (r.getD k 0)))
  (hP:∀ k,k<r.length→Calls Tryz.prog 56 (#[iv (r.getD k 0)]++caps) w fun e w'=>e=.returned (.bool (P (r.getD k 0)))∧w'=w) :
  Calls Tryz.prog 98 #[.slice (some ⟨b,o,none⟩) r.length c,.func (.func 56) #[] caps] w fun e w'=>∃ z:Int,e=.returned (.int .i64 z)∧((0≤z)↔∃ k,k<r.length∧P (r.getD k 0)=true)∧w'=w:=by
 have HC:=Lib.hid hc;have HP:=Lib.hid hP;have e56:=enters_of Tryz.func56 (by kernel_rfl) rfl;clear hc hP;go_enter Tryz.func98,Tryz.ntmps98;go_wp2_with (fail);go_loopw [8] (fun i W=>∃ k:Nat,k≤r.length∧i=.int .i64 k∧W=w∧Hid (∀ j,j<k→P (r.getD j 0)=false)) (fun i _=>r.length-(intOf i).toNat)
 case atStart=>exact ⟨0,by omega,rfl,rfl,Lib.hid (fun j hj=>by omega)⟩
 case round=>
  obtain ⟨k,hk,rfl,rfl,HN⟩:=hrel;by_cases hlt:k<r.length
  ·have ck:=HC.out k hlt;have f56:=Lib.hid (HP.out k hlt);obtain ⟨x,hx⟩:∃ x,r.getD k 0=x:=⟨_,rfl⟩;rw [hx] at ck f56;have HX:=Lib.hid hx;clear hx;obtain ⟨b',hb'⟩:∃ b',P x=b':=⟨_,rfl⟩;rw [hb'] at f56;have HB:=Lib.hid hb';clear hb';cases b'
   ·go_wp2_with (go_at_call 56;(with_reducible refine f56.out.mono ?_);rintro e W' ⟨rfl,rfl⟩);go_roundw
    case rel=>
     refine ⟨k+1,by omega,by go_num,trivial,Lib.hid (fun j hj=>?_)⟩;by_cases e:j=k
     ·subst e;rw [HX.out];exact HB.out
     ·exact HN.out j (by omega)
    case measure=>simp [intOf];omega
   ·go_wp2_with (go_at_call 56;(with_reducible refine f56.out.mono ?_);rintro e W' ⟨rfl,rfl⟩);go_ret;exact ⟨(k:Int),rfl,⟨fun _=>⟨k,hlt,by rw [HX.out];exact HB.out⟩,fun _=>by omega⟩,rfl⟩
  ·obtain rfl:k=r.length:=by omega
   go_wp2;go_ret;refine ⟨-1,rfl,⟨fun h=>by omega,fun ⟨j,hj,h⟩=>?_⟩,rfl⟩;rw [HN.out j hj] at h;cases h
theorem Ahl (r:List Nat) (hr:r.length≤65536) (P:Nat→Bool) (caps:Array Value) (b o c:Nat) (w:World) (hc:∀ k,k<r.length→w.cell? ⟨b,o+k,none⟩=some (iv (r.getD k 0)))
  (hP:∀ k,k<r.length→Calls Tryz.prog 56 (#[iv (r.getD k 0)]++caps) w fun e w'=>e=.returned (.bool (P (r.getD k 0)))∧w'=w) :
  Calls Tryz.prog 55 #[.slice (some ⟨b,o,none⟩) r.length c,.func (.func 56) #[] caps] w fun e w'=>∃ b:Bool,e=.returned (.bool b)∧(b=true↔∃ k,k<r.length∧P (r.getD k 0)=true)∧w'=w:=by
 have H:=Lib.hid (Afz r hr P caps b o c w hc hP);clear hc hP;go_enter Tryz.func55,Tryz.ntmps55;go_wp2_with (go_at_call 98;(with_reducible refine H.out.mono ?_);rintro e W' ⟨z,rfl,hz,rfl⟩;have HZ:=Lib.hid hz;clear hz);go_ret;exact ⟨_,rfl,by rw [← HZ.out];simp,rfl⟩
set_option maxHeartbeats 2000000 in
theorem Abv (d:Dfa) (hv:Val d) (hn:d.nxt.length≤64) (v:Value) (w:World) (hT:Tab w) (hsz:0<w.heap.size) (h:IsD w v d) :
  Calls Tryz.prog 16 #[v] w fun e w'=>∃ r,ResOf w' e (some r)∧Cano r∧(∀ x,r.has x=true↔∃ u,d.has (x++u)=true)∧Ext w w':=by
 have HD:=Lib.hid h;have HTa:=Lib.hid (fun W (hW:Ext w W)=>hT.below hW.below hsz);have hRows:∃ vn,∀ va vc,v=.agg #[vc,vn,va]→Rows w vn d.nxt:=by
  obtain ⟨vc,vn,va,rfl,h1,h2,h3⟩:=h;exact ⟨vn,fun va' vc' e=>h2⟩
 obtain ⟨vc0,vn0,va0,hv0,hC0,hN0,hA0⟩:=h;obtain ⟨bc,oc,cc,bn,on,cn,ba,oa,ca,rfl,hC,hR,hacc⟩:=HD.out.opened hv;have hvn:vn0=.slice (some ⟨bn,on,none⟩) d.nxt.length cn:=by
  injection hv0 with hv0
  unfold dA at hv0;injection hv0 with hv0
  injection hv0 with _ hv0
  injection hv0 with hv0 _
  exact hv0.symm
 rw [hvn] at hN0;have HN0:=Lib.hid hN0;clear hRows hvn hA0 hC0 hN0;have f47:=fun W (hW:Ext w W)=>Lib.hid (Dr d hv hn _ W (HD.out.ext hW))
 have HV:=Lib.hid hv;have HC:=Lib.hid hC;have HR:=Lib.hid hR;have hn0:=hv.pos;have hal:=hv.accL;have f54:=fun W (hW:Ext w W)=>Lib.hid (Ahz d.acc (by omega) (by omega) ba oa ca W (fun s hs=>hW.cell (hacc s (by omega))))
 rw [hal] at f54;obtain ⟨vc,hvc⟩:∃ X,Value.slice (some ⟨bc,oc,none⟩) d.cls.length cc=X:=⟨_,rfl⟩;rw [hvc] at HD f47 HC;rw [hvc];obtain ⟨Va,hVa⟩:∃ X,dA vc (.slice (some ⟨bn,on,none⟩) d.nxt.length cn) (.slice (some ⟨ba,oa,none⟩) d.nxt.length ca)=X:=⟨_,rfl⟩;have hiVa:(Tryz.prog.info? 30).map (·.size)=some Va.size:=by rw [← hVa];exact Ad
 rw [hVa] at f47 HD;rw [hVa];have hE0:=((Ext.refl w).alloc (.cells Va 30)).alloc (.cells #[.slice none 0 0,.slice none 0 0,.slice none 0 0] 30);have H1:=Af (Ab w (.cells Va 30)) (.cells #[.slice none 0 0,.slice none 0 0,.slice none 0 0] 30);have H2:=heap_alloc2_new w (.cells Va 30) (.cells #[.slice none 0 0,.slice none 0 0,.slice none 0 0] 30);have HVA:=Lib.hid hVa;have HVC:=Lib.hid hvc;clear hT hC hR hacc hv hVa hvc hal hv0;go_enter Tryz.func16,Tryz.ntmps16;go_upto_region 1 with (fail)
 obtain ⟨w1,hw1⟩:∃ W,(w.alloc (.cells Va 30)).alloc (.cells #[.slice none 0 0,.slice none 0 0,.slice none 0 0] 30)=W:=⟨_,rfl⟩;have hs1:w.heap.size+1<w1.heap.size:=by rw [← hw1,World.size_alloc,World.size_alloc];omega
 rw [hw1] at hE0 H1 H2;simp only [hw1];clear hw1;have HB1:=Lib.hid H1;have HB2:=Lib.hid H2;have HE0:=Lib.hid hE0;clear H1 H2 hE0;go_upto_region 3 with (first
  | (refine wpList_load_row rfl 30 (.tmp 1) rfl _ rfl _ _ _ _ HB1.out Tryz.underlying30 rfl hiVa ?_)
  | (go_at_call 47;(with_reducible refine (f47 _ HE0.out).out.mono ?_);rintro e w2 ⟨rfl,hE2⟩;have HE2:=Lib.hid (HE0.out.trans hE2);have HB1:=Lib.hid (hE2.heap HB1.out);have HB2:=Lib.hid (hE2.heap HB2.out);clear hE2))
 have HW1:=HB1;have HW2:=HB2;have c2:=(cell_of_row w2 w.heap.size 2 _ _ _ HB1.out).trans (show Va[2]? = some (.slice (some ⟨ba,oa,none⟩) d.nxt.length ca) by rw [← HVA.out];rfl);go_upto_region 4 with (go_at_call 54;(with_reducible refine (f54 _ HE2.out).out.mono ?_);rintro e w3 ⟨g,cg,rfl,hO3,hE3⟩;have HO3:=Lib.hid hO3;have HE3:=Lib.hid (HE2.out.trans hE3);have HB1:=Lib.hid (hE3.heap HB1.out);have HB2:=Lib.hid (hE3.heap HB2.out);have HE23:=Lib.hid hE3;clear hE3 hO3;have hc4:=(cell_of_row (w3.alloc (.cells #[.slice none 0 0] 28)) w3.heap.size 0 _ _ _ (Ab w3 (.cells #[.slice none 0 0] 28))).trans (show (#[Value.slice none 0 0]:Array Value)[0]? = some (.slice none 0 0) from rfl);have hf4:=frozen_of_row (w3.alloc (.cells #[.slice none 0 0] 28)) w3.heap.size 0 _ _ (Ab w3 (.cells #[.slice none 0 0] 28)))
 clear hc4 hf4 c2;have hE4:=(Ext.refl w3).alloc (.cells #[.slice (some ⟨g,0,none⟩) d.nxt.length cg] 28);have H4:=Ab w3 (.cells #[.slice (some ⟨g,0,none⟩) d.nxt.length cg] 28);have hO4:=Ah HO3.out hE4;have hlt4:g<w3.heap.size:=(HO3.out.lt g rfl).2;obtain ⟨w4,hw4⟩:∃ W,w3.alloc (.cells #[.slice (some ⟨g,0,none⟩) d.nxt.length cg] 28)=W:=⟨_,rfl⟩;rw [hw4] at hE4 H4 hO4;simp only [hw4];clear hw4;have hOg:w4.ownsRow w2.heap.size 4 1 (.slice (some ⟨g,0,none⟩) d.nxt.length cg) d.nxt.length (d.acc.map Value.bool):=by
  have:OwnB w4 w2.heap.size (.slice (some ⟨g,0,none⟩) d.nxt.length cg) d.acc:=hO4;unfold OwnB at this;rw [HV.out.accL] at this;exact this
 have hg2:w2.heap.size≤g:=(hOg.lt g rfl).1;have hE24:=HE23.out.trans hE4;have HB1:=Lib.hid (hE4.heap HB1.out);have HB2:=Lib.hid (hE4.heap HB2.out);have H4':=Lib.hid H4;have hgg4:g≠w3.heap.size:=by omega
 generalize w3.heap.size=g4 at *;have hg4:w2.heap.size≤g4:=by
  have h1:=HE23.out.size;omega
 have HE24:=Lib.hid hE24;have hsz24:=hE24.size;clear HO3 HE3 HE23 hO4 H4 f54 f47 HE0 hE4;go_upto_region 5 with (fail)
 go_loopw [5] (fun c W=>∃ (V:List Bool) (b:Bool),c=.bool b∧Ext w2 W∧w2.heap.size≤W.heap.size∧W.ownsRow w2.heap.size 4 1 (.slice (some ⟨g,0,none⟩) d.nxt.length cg) d.nxt.length (V.map Value.bool)∧
   Hid (W.heap[g4]? = some (.cells #[.slice (some ⟨g,0,none⟩) d.nxt.length cg] 28 (0,0)))∧Hid (PInv d V)∧
   Hid (b=false→∀ s,s<d.nxt.length→V.getD s false=true∨∀ k,k<d.cls.length→V.getD (d.ent2 s k) false=false))
  (fun c W=>2*(d.nxt.length-Ly w2.heap.size g d.nxt.length cg W)+Qa c)
 case atStart=>exact ⟨d.acc,true,rfl,hE24,hsz24,hOg,H4',Lib.hid (Ab4 HV.out),Lib.hid (fun h=>by cases h)⟩
 case round=>
  clear hE24 hsz24 hOg H4' HE24;obtain ⟨V,b,rfl,hE,hsw,hO,H4,HI,HQ⟩:=hrel;cases b
  ·have k0:=(cell_of_row wr w.heap.size 0 _ _ _ (hE.heap HW1.out)).trans (show Va[0]? = some (.slice (some ⟨bc,oc,none⟩) d.cls.length cc) by rw [← HVA.out,← HVC.out];rfl);have k1:=(cell_of_row wr w.heap.size 1 _ _ _ (hE.heap HW1.out)).trans (show Va[1]? = some (.slice (some ⟨bn,on,none⟩) d.nxt.length cn) by rw [← HVA.out];rfl);have c4:=(cell_of_row wr g4 0 _ _ _ H4.out).trans (show (#[Value.slice (some ⟨g,0,none⟩) d.nxt.length cg]:Array Value)[0]? = some (.slice (some ⟨g,0,none⟩) d.nxt.length cg) from rfl);have hq:=Ab6 HV.out HI.out (HQ.out rfl);have hEw:=HE2.out.trans hE;have hIsD:IsD wr (.agg (dA (.slice (some ⟨bc,oc,none⟩) d.cls.length cc) (.slice (some ⟨bn,on,none⟩) d.nxt.length cn) (.slice (some ⟨g,0,none⟩) d.nxt.length cg))) ⟨d.cls,d.nxt,V⟩:=by
    have h9:OwnB wr w2.heap.size (.slice (some ⟨g,0,none⟩) d.nxt.length cg) V:=by
     unfold OwnB;rw [HI.out.len];exact hO
    exact ⟨_,_,_,rfl,by rw [HVC.out];exact HC.out.ext hEw,HN0.out.ext hEw,h9.bools (by rw [HI.out.len];omega)⟩
   have hCn:=Lib.hid (Ig ⟨d.cls,d.nxt,V⟩ (Abw HV.out HI.out.len) hn _ wr (HTa.out wr hEw) (Nat.lt_of_lt_of_le hsz hEw.size) hIsD);have HP:=Lib.hid (fun x=>Aby HV.out hq x);have HB2:=Lib.hid (hE.heap HW2.out);have HEw:=Lib.hid hEw;have hbt:=Lib.hid (P7 (some ⟨bc,oc,none⟩) (some ⟨bn,on,none⟩) (some ⟨g,0,none⟩) d.cls.length d.nxt.length d.nxt.length cc cn cg);clear hq hEw hIsD hO hE HQ hsw;go_wp2_with (first
    | (refine Ci rfl 30 _ rfl (dA (.slice (some ⟨bc,oc,none⟩) d.cls.length cc) (.slice (some ⟨bn,on,none⟩) d.nxt.length cn) (.slice (some ⟨g,0,none⟩) d.nxt.length cg)) ?_ ?_;(simp [Act.eval];with_reducible exact hbt.out))
    | (go_at_call 28;(with_reducible refine hCn.out.mono ?_);rintro e w9 ⟨r,hres,hcan,hhas,hE9⟩;obtain ⟨ac2,lc2,cc2,an2,ln2,cn2,aa2,la2,ca2,k2,rfl⟩:=hres.form;have HRes:=Lib.hid hres;have HCan:=Lib.hid hcan;have HHas:=Lib.hid hhas;clear hres hcan hhas;have HB2:=Lib.hid (hE9.heap HB2.out))
    | (refine wpList_store_row rfl 30 (.tmp 2) (.tmp 45) rfl _ _ rfl rfl _ _ HB2.out Ad rfl (An _ _ _ rfl rfl rfl) ?_))
   refine bodyPost_ret (v:=.tuple #[.agg (dA (.slice ac2 lc2 cc2) (.slice an2 ln2 cn2) (.slice aa2 la2 ca2)),.int .i64 k2]) (A2 rfl _ _ _ _ _ _ _ rfl _ rfl (setRow_heap w9 _ _ (dA (.slice ac2 lc2 cc2) (.slice an2 ln2 cn2) (.slice aa2 la2 ca2)) 30 (0,0) HB2.out) Tryz.underlying30 rfl Ad) rfl ?_;exact ⟨r,HRes.out.setRow (fun d' h=>by injection h with h;subst h;exact HCan.out.val) HB2.out _,HCan.out,fun x=>by rw [HHas.out];exact HP.out x,(HEw.out.trans hE9).setRow (by omega) _⟩
  ·clear HQ;have k1:=(cell_of_row wr w.heap.size 1 _ _ _ (hE.heap HW1.out)).trans (show Va[1]? = some (.slice (some ⟨bn,on,none⟩) d.nxt.length cn) by rw [← HVA.out];rfl);obtain ⟨w5,hw5⟩:∃ W,W=wr:=⟨_,rfl⟩;subst hw5;go_upto_region 8 with (fail)
   clear k1;go_loopw [5,19] (fun c i W=>∃ (V':List Bool) (b:Bool) (s:Nat),c=.bool b∧i=.int .i64 s∧s≤d.nxt.length∧Ext w2 W∧w2.heap.size≤W.heap.size∧W.ownsRow w2.heap.size 4 1 (.slice (some ⟨g,0,none⟩) d.nxt.length cg) d.nxt.length (V'.map Value.bool)∧
     Hid (W.heap[g4]? = some (.cells #[.slice (some ⟨g,0,none⟩) d.nxt.length cg] 28 (0,0)))∧Hid (PInv d V')∧
     Hid ((b=true→F1 V<F1 V')∧(b=false→V'=V∧∀ s',s'<s→V.getD s' false=true∨∀ k,k<d.cls.length→V.getD (d.ent2 s' k) false=false)))
    (fun _ i _=>d.nxt.length-(intOf i).toNat)
   case atStart=>exact ⟨V,false,0,rfl,rfl,by omega,hE,hsw,hO,H4,HI,Lib.hid ⟨fun h=>(by cases h),fun _=>⟨rfl,fun s' hs'=>by omega⟩⟩⟩
   case round=>
    have hcnt0:=V4 hO;obtain ⟨M0,hM0⟩:∃ M,Ly w2.heap.size g d.nxt.length cg w5=M:=⟨_,rfl⟩;rw [hM0] at hcnt0;have HM0:=Lib.hid hM0;have HC0:=Lib.hid hcnt0;clear hE hsw hO H4 HI hM0 hcnt0;obtain ⟨V',b,s,rfl,rfl,hs,hE,hsw,hO,H4,HI,HQ⟩:=hrel;by_cases hlt:s<d.nxt.length
    ·obtain ⟨br,or',cr,hrc,hrr⟩:=HR.out s hlt;have cr1:=(HE2.out.trans hE).cell hrc;have hlen:=HI.out.len;have cs:=Ap false hO hlen.symm s (by rw [hlen];exact hlt);have c4:=(cell_of_row wr g4 0 _ _ _ H4.out).trans (show (#[Value.slice (some ⟨g,0,none⟩) d.nxt.length cg]:Array Value)[0]? = some (.slice (some ⟨g,0,none⟩) d.nxt.length cg) from rfl);have HLEN:=Lib.hid hlen;clear hlen;obtain ⟨bs,hbs⟩:∃ bs,V'.getD s false=bs:=⟨_,rfl⟩;rw [hbs] at cs;have HBS:=Lib.hid hbs;clear hbs;cases bs
     ·obtain ⟨r,hr⟩:∃ r:List Nat,(List.range d.cls.length).map (fun q=>d.ent2 s q)=r:=⟨_,rfl⟩;have hrl:r.length=d.cls.length:=by rw [← hr];simp
      have hrg:∀ k,k<d.cls.length→r.getD k 0=d.ent2 s k:=fun k hk=>by rw [← hr,Cq _ _ _ _ hk]
      have f55:=Ahl r (by rw [hrl];have:=HV.out.parts.le;omega) (fun x=>V'.getD x false) #[.pointer (some ⟨g4,0,none⟩)] br or' cr wr
       (fun k hk=>by rw [hrg k (by omega)];exact (HE2.out.trans hE).cell (hrr k (by omega)))
       (fun k hk=>by
        rw [hrg k (by omega)];have hx:=HV.out.tgt s hlt k (by omega);exact Aeo g4 g d.nxt.length cg V' _ hx wr c4 (Ap false hO HLEN.out.symm _ (by rw [HLEN.out];exact hx)))
      rw [hrl] at f55;obtain ⟨bx,hbx⟩:∃ bx:Bool,bx=true↔∃ k,k<d.cls.length∧V'.getD (r.getD k 0) false=true:=by
       by_cases hex:∃ k,k<d.cls.length∧V'.getD (r.getD k 0) false=true
       ·exact ⟨true,⟨fun _=>hex,fun _=>rfl⟩⟩
       ·exact ⟨false,⟨fun h=>(by cases h),fun h=>absurd h hex⟩⟩
      have f55:Hid (Calls Tryz.prog 55 #[.slice (some ⟨br,or',none⟩) d.cls.length cr,.func (.func 56) #[] #[.pointer (some ⟨g4,0,none⟩)]] wr fun e w'=>e=.returned (.bool bx)∧w'=wr):=
       Lib.hid (f55.mono fun e w' ⟨b2,he,hb2,hw⟩=>⟨by rw [he];congr 2;rw [Bool.eq_iff_iff,hb2,hbx],hw⟩)
      have HBX:=Lib.hid hbx;have HRG:=Lib.hid hrg;clear hr hrl hrg hrr hbx;cases bx
      ·go_wp2_with (go_at_call 55;(with_reducible refine f55.out.mono ?_);rintro e W' ⟨rfl,rfl⟩);go_roundw
       case rel=>
        refine ⟨V',b,s+1,rfl,by go_num,by omega,hE,hsw,hO,H4,HI,Lib.hid ⟨HQ.out.1,fun hb=>?_⟩⟩;obtain ⟨q1,q2⟩:=HQ.out.2 hb;refine ⟨q1,fun s' hs'=>?_⟩;by_cases e:s'=s
        ·subst e;refine .inr fun k hk=>?_
         rw [← q1];cases hh:V'.getD (d.ent2 s' k) false
         ·rfl
         ·exact absurd (HBX.out.2 ⟨k,hk,by rw [HRG.out k hk];exact hh⟩) (by simp)
        ·exact q2 s' (by omega)
       case measure=>simp [intOf];omega
      ·obtain ⟨hOn,hgr⟩:=A3 hO s true;have fo:=hO.frozenAt s;have hEn:=hE.grown hgr (fun k e=>by cases e;exact hg2);have hswn:=Nat.le_trans hsw hgr.size;have H4n:=Lib.hid ((hgr.block g4 (Ak H4.out) (by simp;omega)).trans H4.out);clear hgr hO hE;go_wp2_with (go_at_call 55;(with_reducible refine f55.out.mono ?_);rintro e W' ⟨rfl,rfl⟩);go_roundw
       case rel=>
        refine ⟨V'.set s true,true,s+1,rfl,by go_num,by omega,hEn,hswn,hOn,H4n,Lib.hid ?_,Lib.hid ⟨fun _=>?_,fun h=>by cases h⟩⟩
        ·obtain ⟨k,hk,hv⟩:=HBX.out.1 (by simp);exact Ab5 HV.out HI.out hlt hk (by rw [← HRG.out k hk];exact hv)
        ·rw [Aht (by rw [HLEN.out];exact hlt) HBS.out];cases b
         ·rw [(HQ.out.2 rfl).1];omega
         ·have:=HQ.out.1 rfl;omega
       case measure=>simp [intOf];omega
     ·go_wp2;go_roundw
      case rel=>
       refine ⟨V',b,s+1,rfl,by go_num,by omega,hE,hsw,hO,H4,HI,Lib.hid ⟨HQ.out.1,fun hb=>?_⟩⟩;obtain ⟨q1,q2⟩:=HQ.out.2 hb;refine ⟨q1,fun s' hs'=>?_⟩;by_cases e:s'=s
       ·subst e;exact .inl (by rw [← q1];exact HBS.out)
       ·exact q2 s' (by omega)
      case measure=>simp [intOf];omega
    ·obtain rfl:s=d.nxt.length:=by omega
     have hcnt:=V4 hO;have HCN:=Lib.hid hcnt;clear hcnt;go_wp2;go_roundw
     case rel=>exact ⟨V',b,rfl,hE,hsw,hO,H4,HI,Lib.hid fun hb s hs=>by obtain ⟨q1,q2⟩:=HQ.out.2 hb;rw [q1];exact q2 s hs⟩
     case measure=>
      have h1:=HCN.out;have h2:=HC0.out;have h3:=HM0.out;have h4:=Ahu V';rw [HI.out.len] at h4;have h5:=HQ.out;rw [h1,h3,h2];cases b
      ·rw [(h5.2 rfl).1];simp only [Qa];omega
      ·have:=h5.1 rfl;simp only [Qa];omega
end Go.Proofs.YtaiogolidlamiaaGreatDoor
