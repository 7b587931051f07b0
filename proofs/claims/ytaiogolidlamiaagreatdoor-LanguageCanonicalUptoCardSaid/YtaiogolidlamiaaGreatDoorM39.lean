import Derived.Test.YtaiogolidlamiaaGreatDoorM38
import Derived.Test.YtaiogolidlamiaaGreatDoorM17
import Derived.Test.YtaiogolidlamiaaGreatDoorM35
set_option linter.unusedVariables false
set_option linter.unusedSimpArgs false
namespace Go.Proofs.YtaiogolidlamiaaGreatDoor
set_option maxRecDepth 100000
open Go.RowKit Go.Shelf
theorem LeastF.ext {L:List UInt8→Bool} {W W':World} {e:Ending} (h:LeastF L W e) (hE:Ext W W'):LeastF L W' e:=by
 rcases h with ⟨u,v,h1,h2,h3,h4⟩|h
 ·exact .inl ⟨u,v,h1,h2.ext hE,h3,h4⟩
 ·exact .inr h
theorem LeastF.congr {L M:List UInt8→Bool} {W:World} {e:Ending} (h:LeastF L W e) (hLM:∀ u,L u=M u):LeastF M W e:=by
 rw [show M=L from funext fun u=>(hLM u).symm];exact h
theorem LeastF.form {L:List UInt8→Bool} {W:World} {e:Ending} (h:LeastF L W e):∃ a n c b,e=.returned (.tuple #[.slice a n c,.bool b]):=by
 rcases h with ⟨u,v,h1,h2,_⟩|⟨h,_⟩
 ·obtain ⟨a,c,rfl⟩:=h2.len;exact ⟨_,_,_,_,h1⟩
 ·exact ⟨_,_,_,_,h⟩
theorem Xq:Ii 86 (fun x y=>x != y):=by
 intro W x y;go_enter Tryz.func86,Tryz.ntmps86;cases x<;>cases y<;>(go_wp2;go_ret;exact ⟨rfl,Ext.refl W⟩)
set_option maxHeartbeats 1000000 in
theorem Ajf (a b:Dfa) (ha:Val a) (hb:Val b) (hna:a.nxt.length≤64) (hnb:b.nxt.length≤64) (va vb:Value) (w:World) (hT:Tab w) (hsz:0<w.heap.size) (hva:IsD w va a) (hvb:IsD w vb b) :
  Calls Tryz.prog 38 #[va,vb] w fun e w'=>LeastF (fun u=>a.has u != b.has u) w' e∧Ext w w':=by
 have HDa:=Lib.hid hva;have HDb:=Lib.hid hvb;obtain ⟨ac,lc,cc,an,cn,aa,la,ca,rfl⟩:=hva.agg;obtain ⟨ac',lc',cc',an',cn',aa',la',ca',rfl⟩:=hvb.agg;have f47a:=fun W (hW:Ext w W)=>Lib.hid (Dr a ha hna _ W (HDa.out.ext hW))
 have f47b:=fun W (hW:Ext w W)=>Lib.hid (Dr b hb hnb _ W (HDb.out.ext hW))
 have f85:=fun W (hW:Ext w W)=>Lib.hid (Su a b ha hb hna hnb 86 _ Xq (enters_of Tryz.func86 (by kernel_rfl) rfl) _ _ W (hT.below hW.below hsz) (Nat.lt_of_lt_of_le hsz hW.size) (HDa.out.ext hW) (HDb.out.ext hW))
 obtain ⟨Va,hVa⟩:∃ X,dA (.slice ac lc cc) (.slice an a.nxt.length cn) (.slice aa la ca)=X:=⟨_,rfl⟩;obtain ⟨Vb,hVb⟩:∃ X,dA (.slice ac' lc' cc') (.slice an' b.nxt.length cn') (.slice aa' la' ca')=X:=⟨_,rfl⟩;have hiVa:(Tryz.prog.info? 30).map (·.size)=some Va.size:=by rw [← hVa];exact Ad
 have hiVb:(Tryz.prog.info? 30).map (·.size)=some Vb.size:=by rw [← hVb];exact Ad
 rw [hVa] at f47a f85 HDa;rw [hVb] at f47b f85 HDb;rw [hVa,hVb];have hE0:=((Ext.refl w).alloc (.cells Va 30)).alloc (.cells Vb 30);have H3:=Af (Ab w (.cells Va 30)) (.cells Vb 30);have H4:=heap_alloc2_new w (.cells Va 30) (.cells Vb 30);clear hva hvb ha hb hT hVa hVb;go_enter Tryz.func38,Tryz.ntmps38;go_upto_region 1 with (fail)
 obtain ⟨w1,hw1⟩:∃ W,(w.alloc (.cells Va 30)).alloc (.cells Vb 30)=W:=⟨_,rfl⟩;rw [hw1] at hE0 H3 H4;simp only [hw1];clear hw1;have HB3:=Lib.hid H3;have HB4:=Lib.hid H4;clear H3 H4;go_upto_region 3 with (first
  | (refine wpList_load_row rfl 30 (.tmp 2) rfl _ rfl _ _ _ _ HB3.out Tryz.underlying30 rfl hiVa ?_)
  | (refine Dq rfl (wp_load_row 30 (.tmp 3) rfl _ rfl _ _ _ _ HB4.out Tryz.underlying30 rfl hiVb ?_))
  | (go_at_call 47;(with_reducible refine (f47a _ hE0).out.mono ?_);rintro e w2 ⟨rfl,hE2⟩;have hE3:=hE0.trans hE2;have HB4:=Lib.hid (hE2.heap HB4.out))
  | (go_at_call 47;(with_reducible refine (f47b _ hE3).out.mono ?_);rintro e w3 ⟨rfl,hE4⟩;have hE5:=hE3.trans hE4))
 have HB3:=Lib.hid ((hE2.trans hE4).heap HB3.out);have HB4:=Lib.hid (hE4.heap HB4.out);have HE5:=Lib.hid hE5;clear f47a f47b hE0 hE2 hE3 hE4;go_wp2_with (first
  | (refine wpList_load_row rfl 30 (.tmp 2) rfl _ rfl _ _ _ _ HB3.out Tryz.underlying30 rfl hiVa ?_)
  | (refine wpList_load_row rfl 30 (.tmp 3) rfl _ rfl _ _ _ _ HB4.out Tryz.underlying30 rfl hiVb ?_)
  | (go_at_call 85;(with_reducible refine (f85 _ HE5.out).out.mono ?_);rintro e w4 ⟨A,t,rfl,hIT,htv,htn,hhas,hE6⟩;have hL:=Lib.hid (Ym t htv (show t.nxt.length≤65536 by omega) A w4 hIT);have HH:=Lib.hid hhas;clear hhas;have hE7:=HE5.out.trans hE6)
  | (go_at_call 87;(with_reducible refine hL.out.mono ?_);rintro e w5 ⟨hr,hE8⟩;obtain ⟨ra,rn,rc,rb,rfl⟩:=hr.form;have HR:=Lib.hid hr;have HE8:=Lib.hid (hE7.trans hE8);clear hr hE8))
 go_ret2;exact ⟨HR.out.congr (fun u=>HH.out u),HE8.out⟩
theorem G9 {W:World} {ρ:Operand→Value} {x y:Operand} {u v:Value} (h:Cx W [.c u,.c v] [ρ x,ρ y]):ρ x=u∧ρ y=v:=by
 have:=D5 (us:=[u,v]) h;injection this with h1 h2
 injection h2 with h2 _
 exact ⟨h1,h2⟩
theorem Ac8 {W:World} {ρ:Operand→Value} {x:Operand} {u:Value} (h:Cx W [.c u] [ρ x]):ρ x=u:=by
 have:=D5 (us:=[u]) h;injection this
def Cj (ss:List (List RNode)):Nat:=(ss.map List.length).sum
theorem Fn (a b:List (List RNode)):Cj (a++b)=Cj a+Cj b:=by simp [Cj]
theorem F9 (x:List RNode):Cj [x]=x.length:=by simp [Cj]
theorem Kf (ss:List (List RNode)) (i:Nat) (h:i<ss.length):ss.take (i+1)=ss.take i++[ss.getD i []]:=by
 rw [List.take_succ_eq_append_getElem h,List.getD_eq_getElem?_getD,List.getElem?_eq_getElem h];rfl
theorem Mz (ss:List (List RNode)) (n:Nat):Cj (ss.take n)≤Cj ss:=by
 have h:=Fn (ss.take n) (ss.drop n);rw [List.take_append_drop] at h;omega
theorem Ip (ss:List (List RNode)) (i:Nat) (h:i<ss.length):(ss.getD i []).length≤Cj ss:=by
 have h1:=Mz ss (i+1);rw [Kf ss i h,Fn,F9] at h1;omega
def OkS (ss:List (List RNode)):Prop:=∀ i,i<ss.length→WRx (ss.getD i [])
theorem Of {ss:List (List RNode)} (h:OkS ss) (n:Nat) (hn:n≤ss.length) {x:List RNode} (hx:WRx x):OkS (ss.take n++[x]):=fun i hi=>by
 have hl:(ss.take n).length=n:=by rw [List.length_take];omega
 rw [List.length_append,hl,List.length_singleton] at hi;by_cases e:i<n
 ·rw [List.getD_eq_getElem?_getD,List.getElem?_append_left (by omega),List.getElem?_take,if_pos e,← List.getD_eq_getElem?_getD];exact h i (by omega)
 ·obtain rfl:i=n:=by omega
  rw [List.getD_eq_getElem?_getD,List.getElem?_append_right (by omega),hl,Nat.sub_self];exact hx
structure PushR (ss:List (List RNode)) (x:Nat) (ss':List (List RNode)):Prop where
 ok:OkS ss'
 tot:Cj ss'≤Cj ss+1
 len:ss'.length≤ss.length+1
 pos:0<ss'.length
 five:x=5→2≤ss.length→ss'.length+1=ss.length
theorem Abq {ss:List (List RNode)} (h:OkS ss) (n:Nat) (hn:ss.length=n+2) (k x:Nat) (hk:k=4∨k=5∨k=6):PushR ss x (ss.take n++[bin k (ss.getD n []) (ss.getD (n+1) [])]):=by
 have hl:(ss.take n).length=n:=by rw [List.length_take];omega
 refine ⟨Of h n (by omega) (Mr (h n (by omega)) (h (n+1) (by omega)) hk),?_,?_,?_,fun _ _=>?_⟩
 ·have h1:=Mz ss (n+1+1);rw [Kf ss (n+1) (by omega),Kf ss n (by omega),Fn,Fn,F9,F9] at h1;rw [Fn,F9,Gw];omega
 ·rw [List.length_append,hl,List.length_singleton];omega
 ·rw [List.length_append,hl,List.length_singleton];omega
 ·rw [List.length_append,hl,List.length_singleton];omega
theorem Abo {ss:List (List RNode)} (h:OkS ss) (n:Nat) (hn:ss.length=n+1) (m:RNode) (x:Nat) (hx5:x≠5) (hk:arK m.kind=1) (hl:m.l=(ss.getD n []).length-1) (hm:m.ok (ss.getD n []).length):PushR ss x (ss.take n++[ss.getD n []++[m]]):=by
 have hl':(ss.take n).length=n:=by rw [List.length_take];omega
 refine ⟨Of h n (by omega) (Mq (h n (by omega)) hk hl hm),?_,?_,?_,fun e=>absurd e hx5⟩
 ·have h1:=Mz ss (n+1);rw [Kf ss n (by omega),Fn,F9] at h1;rw [Fn,F9,List.length_append,List.length_singleton];omega
 ·rw [List.length_append,hl',List.length_singleton];omega
 ·rw [List.length_append,hl',List.length_singleton];omega
theorem Abp {ss:List (List RNode)} (h:OkS ss) (m:RNode) (x:Nat) (hx5:¬ (x=5∧2≤ss.length)) (hm:m.ok 0):PushR ss x (ss.take ss.length++[[m]]):=by
 rw [List.take_length];refine ⟨?_,?_,?_,?_,fun e e2=>absurd ⟨e,e2⟩ hx5⟩
 ·have:=Of h ss.length (Nat.le_refl _) (Qm hm)
  rwa [List.take_length] at this
 ·rw [Fn,F9,List.length_singleton];exact Nat.le_refl _
 ·rw [List.length_append,List.length_singleton];exact Nat.le_refl _
 ·rw [List.length_append,List.length_singleton];omega
theorem Y2 (ρ:Operand→Value) (o:Oper) (W:World) (x:Operand) (a:Nat) (h2:a≤1152921504606846976) (ho:o.op=.binOp .sub 3 x (.const (.int .i64 2)) 3) (hx:ρ x=iv (a+2)) (hy:ρ (.const (.int .i64 2))=.int .i64 2):(execOp ρ o).run Tryz.prog W=.ok (.value (iv a)) W:=by
 unfold execOp;simp only [ho,hx,hy];go_simp;exact IntWalk.i64_in _ ⟨by omega,by omega⟩
def Fq {w:World} (x:Operand) (a:Nat) (h2:a≤1152921504606846976):Sc Tryz.prog w:=
 .gen (.binOp .sub 3 x (.const (.int .i64 2)) 3) [.c (iv (a+2)),.c (.int .i64 2)] (.c (iv a)) (AV.mono_c _) fun ρ o W ho _ hh=>⟨_,Y2 ρ o W x a h2 ho (G9 hh).1 (G9 hh).2,rfl⟩
theorem Y1 (ρ:Operand→Value) (o:Oper) (W:World) (x:Operand) (a:Nat) (h2:a≤1152921504606846976) (ho:o.op=.binOp .sub 3 x (.const (.int .i64 1)) 3) (hx:ρ x=iv (a+1)) (hy:ρ (.const (.int .i64 1))=.int .i64 1):(execOp ρ o).run Tryz.prog W=.ok (.value (iv a)) W:=by
 unfold execOp;simp only [ho,hx,hy];go_simp;exact IntWalk.i64_in _ ⟨by omega,by omega⟩
def Dv {w:World} (x:Operand) (a:Nat) (h2:a≤1152921504606846976):Sc Tryz.prog w:=
 .gen (.binOp .sub 3 x (.const (.int .i64 1)) 3) [.c (iv (a+1)),.c (.int .i64 1)] (.c (iv a)) (AV.mono_c _) fun ρ o W ho _ hh=>⟨_,Y1 ρ o W x a h2 ho (G9 hh).1 (G9 hh).2,rfl⟩
theorem Afq (ρ:Operand→Value) (o:Oper) (W:World) (x y:Operand) (b off n c k:Nat) (hk:k<n) (ho:o.op=.indexAddr 127 x y) (hx:ρ x=.slice (some ⟨b,off,none⟩) n c) (hy:ρ y=.int .i64 k):(execOp ρ o).run Tryz.prog W=.ok (.value (.pointer (some ⟨b,off+k,none⟩))) W:=by
 have hI:(k:Int)<(n:Int):=by omega
 unfold execOp;simp only [ho,hx,hy];go_simp
def D4 {w:World} (x y:Operand) (b off n c k:Nat) (hk:k<n):Sc Tryz.prog w:=
 .gen (.indexAddr 127 x y) [.c (.slice (some ⟨b,off,none⟩) n c),.c (.int .i64 k)] (.c (.pointer (some ⟨b,off+k,none⟩))) (AV.mono_c _) fun ρ o W ho _ hh=>⟨_,Afq ρ o W x y b off n c k hk ho (G9 hh).1 (G9 hh).2,rfl⟩
theorem Ae9 (ρ:Operand→Value) (o:Oper) (W:World) (x:Operand) (b k:Nat) (v:Value) (hc:W.cell? ⟨b,k,none⟩=some v) (ho:o.op=.load 53 x) (hx:ρ x=.pointer (some ⟨b,k,none⟩)):(execOp ρ o).run Tryz.prog W=.ok (.value v) W:=by
 unfold execOp;simp only [ho,hx];go_simp
def D3 {w:World} (x:Operand) (b k:Nat) (v:Value) (hc:∀ W,Ext w W→W.cell? ⟨b,k,none⟩=some v):Sc Tryz.prog w:=
 .gen (.load 53 x) [.c (.pointer (some ⟨b,k,none⟩))] (.c v) (AV.mono_c _) fun ρ o W ho hE hh=>⟨_,Ae9 ρ o W x b k v (hc W hE) ho (Ac8 hh),rfl⟩
theorem Ls:Enters Tryz.prog 37:=enters_of Tryz.func37 (by kernel_rfl) rfl
theorem Jh:Enters Tryz.prog 39:=enters_of Tryz.func39 (by kernel_rfl) rfl
theorem Fg:Enters Tryz.prog 113:=enters_of Tryz.func113 (by kernel_rfl) rfl
def ldN {w:World} {g:Nat} {V:Array Value} (h:w.heap[g]? = some (.cells V 64 (0,0))) (hi:(Tryz.prog.info? 64).map (·.size)=some V.size):Sc Tryz.prog w:=
 .load 64 g V 64 (0,0) _ (fun _ hE=>hE.heap h) Tryz.underlying64 rfl hi
theorem StkV.at_ {W:World} {v:Value} {ss:List (List RNode)} (h:StkV W v ss) (h0:0<ss.length):∃ b o c,v=.slice (some ⟨b,o,none⟩) ss.length c∧∀ i,i<ss.length→∃ u,W.cell? ⟨b,o+i,none⟩=some u∧RxV W u (ss.getD i []):=by
 obtain ⟨vs,h1,h2,h3⟩:=h;obtain ⟨b,o,c,hv,hc⟩:=Sl.form h2 h0;exact ⟨b,o,c,hv,fun i hi=>⟨_,hc i (by omega),h3 i hi⟩⟩
end Go.Proofs.YtaiogolidlamiaaGreatDoor
