import Derived.Test.YtaiogolidlamiaaGreatDoorM30
import Derived.Test.YtaiogolidlamiaaGreatDoorM29
import Derived.Test.YtaiogolidlamiaaGreatDoorM36
import Derived.Test.YtaiogolidlamiaaGreatDoorM22
import Derived.Test.YtaiogolidlamiaaGreatDoorM02
import Derived.Test.YtaiogolidlamiaaGreatDoorM37
import Derived.Deep.Upon
import Derived.Test.YtaiogolidlamiaaGreatDoorM09
import Derived.Test.YtaiogolidlamiaaGreatDoorM10
import Derived.Test.YtaiogolidlamiaaGreatDoorM17
import Derived.Test.YtaiogolidlamiaaGreatDoorM35
set_option linter.unusedVariables false
set_option linter.unusedSimpArgs false
namespace Go.Proofs.YtaiogolidlamiaaGreatDoor
set_option maxRecDepth 100000
open Go.RowKit Go.Shelf Go.WideMaps
open Go.Maps (Keyed)
theorem Alc {a b c:World} {r:Option Nat} (h:a.grownBy b r) (k:b.grownBy c r):a.grownBy c r:=by
 obtain ⟨h1,h2,h3,h4,h5⟩:=h;obtain ⟨k1,k2,k3,k4,k5⟩:=k;exact ⟨by rw [k1,h1],by rw [k2,h2],by rw [k3,h3],Nat.le_trans h4 k4,fun i hi hne=>(k5 i (Nat.lt_of_lt_of_le hi h4) hne).trans (h5 i hi hne)⟩
open Go
section
variable {P:Program} {w:World}
theorem Akx {id:Nat} {l:List Oper} {Q:Exit→Act→World→Prop} {a0:Act} (sz:Nat) (dr:Bool) (vs:List Value) (ss:List (Sc P w)) (hm:dr=true→P.follows .mixedOrders=true) (hB:scB l sz=true) (hsz:a0.tmps.size=sz) (hl:l.length=ss.length)
  (hs:∀ W,J0 l (scE P w l ss (ev0 a0)) W l ss=Jz l (scE P w l ss (ev0 a0)) W l ss) (hv:(l.map fun o=>scE P w l ss (ev0 a0) (o.dst.getD 0))=vs.map AV.c)
  (hend:∀ W,Ext w W→Q .normal (B7 l vs a0) W):(Code.region id l.toArray dr).wp P Q a0 w:=
 E6 sz dr _ ss hm hB hsz hl hs hv fun W vs' h1 h2=>by
  rw [D5 h2];exact hend W h1
end
open Go.RowKit Go.Shelf
theorem ByW.short {W:World} {v:Value} {l:List UInt8} (h:ByW W v l) (hl:l.length≤1000000):By W v l:=by
 obtain ⟨_,h|⟨h0,b,off,cap,hv,hb,hc⟩⟩:=h
 ·exact ⟨by omega,.inl h⟩
 ·exact ⟨by omega,.inr ⟨h0,b,off,cap,hv,hb,fun i hi=>hc i (by omega)⟩⟩
structure RawAt (W:World) (S:Nat) (a:Option Addr) (n c A:Nat):Prop where
 hs:S<256
 ha:A<256
 by_:∃ l:List UInt8,l.length=n∧ByW W (.slice a n c) l
theorem RawAt.ext {W W':World} {S:Nat} {a:Option Addr} {n c A:Nat} (h:RawAt W S a n c A) (hE:Ext W W'):RawAt W' S a n c A:=
 ⟨h.hs,h.ha,by obtain ⟨l,h1,h2⟩:=h.by_;exact ⟨l,h1,h2.ext hE⟩⟩
theorem Ak2 {W:World} {b e s n c g:Nat} {xs:List Value} (h:W.ownsRow b e s (.slice (some ⟨g,0,none⟩) n c) n xs):n≤c:=by
 obtain ⟨_,⟨he,_⟩|⟨g',cap,cur,he,_,_,hnc,_⟩⟩:=h
 ·cases he
 ·injection he with _ _ h3
  rw [h3];exact hnc
set_option maxHeartbeats 2000000 in
theorem Amw (l:List UInt8) (v:Value) (n:Nat) (hn:n≤1000) (w:World) (hl:ByW w v l) :
  Calls Tryz.prog 27 #[v,iv n] w fun e w'=>∃ (x:List UInt8) (g c:Nat),e=.returned (.slice (some ⟨g,0,none⟩) x.length c)∧x.length≤n∧By w' (.slice (some ⟨g,0,none⟩) x.length c) x∧x.length≤c∧Ext w w':=by
 obtain ⟨j0,hj,hy0,hy1,hy2⟩:=info_parts (show (Tryz.prog.info? 5).map (fun i=>(i.zero,i.size,i.bytes))=some (some (.int .u8 0),1,1) by kernel_rfl);obtain ⟨a,b,o,ca,rfl,ha1,_,ha3⟩:=hl.split;have hl63:=hl.1;have HC:=Lib.hid (fun (W:World) (hW:Ext w W) i (hi:i<l.length)=>hW.cell (ha3 i hi));have HA:=Lib.hid ha1;clear hl ha1 ha3;have hE0:=(Ext.refl w).alloc (.cells #[] 5);have hO0:World.ownsRow (w.alloc (.cells #[] 5)) w.heap.size 5 1 (.slice (some ⟨w.heap.size,0,none⟩) 0 0) 0 []:=World.ownsRow_lit (base:=w.heap.size) (e:=5) (size:=1) w #[] 0 (Nat.le_refl _) (by unfold maxLen;omega) rfl;go_enter Tryz.func27,Tryz.ntmps27;go_wp2_with (fail);go_loopw [5,6] (fun vx vi W=>∃ (x:List UInt8) (g c:Nat),x.length≤n∧x.length≤l.length∧vx=.slice (some ⟨g,0,none⟩) x.length c∧vi=.int .i64 x.length∧Ext w W∧W.ownsRow w.heap.size 5 1 (.slice (some ⟨g,0,none⟩) x.length c) x.length (x.map bv))
  (fun _ vi _=>n-(intOf vi).toNat)
 case atStart=>exact ⟨[],_,_,by simp,by simp,rfl,rfl,hE0,hO0⟩
 case round=>
  clear hE0 hO0;obtain ⟨x,g,c,hx1,hx2,rfl,rfl,hE,hO⟩:=hrel;obtain ⟨wo,hwo⟩:∃ W,W=wr:=⟨_,rfl⟩;subst hwo;have hsz:=hE.size;obtain ⟨i,hi⟩:∃ i,x.length=i:=⟨_,rfl⟩;rw [hi] at hx1 hx2 hO;have HI:=Lib.hid hi;simp only [hi];clear hi;by_cases hlt:i<l.length∧i<n
  ·obtain ⟨h1,h2⟩:=hlt;have hc1:(i:Int)<(l.length:Int):=by omega
   have hc2:(i:Int)<(n:Int):=by omega
   obtain rfl:=HA.out (by omega);have cx:=HC.out wo hE i h1;obtain ⟨y,hy⟩:∃ y,l.getD i 0=y:=⟨_,rfl⟩;rw [hy] at cx;have hy8:=y.toNat_lt;clear hy;obtain ⟨z,hz⟩:∃ z:UInt8,97+(y.toNat:Int) % 4=(z.toNat:Int):=⟨UInt8.ofNat (97+y.toNat % 4),by rw [u8n _ (by omega)];omega⟩;have HZ:=Lib.hid hz;clear hz;have hcase:(y.toNat:Int)<97∨(97≤(y.toNat:Int)∧(y.toNat:Int)≤100)∨100<(y.toNat:Int):=by omega
   rcases hcase with h|h|h
   ·go_upto_region 8 with (fail)
    clear cx;rw [HZ.out,show (Value.int IntKind.u8 (z.toNat:Int))=bv z from rfl];go_wp2_with (at_builtin;refine wpList_append_lies _ rfl _ _ 22 rfl w.heap.size 5 j0 (.int .u8 0) 1 1 Tryz.underlying22 hj hy0 hy1 hy2 rfl (by decide) _ _ _ rfl (hO.alloc _) _ 1 1 [bv z] rfl rfl (cell_one_new _ _ _) (by simp [Value.oneCell']) (by decide) (by unfold maxLen;omega) (by omega) (by simp;omega) _ rfl ?_;intro g7 c7 w7 hO7 hgr7 hat7 _);have hE7:=(hE.alloc (.cells #[bv z] 5)).grown hgr7 (fun k e=>by have:=(hO.lt k e).1;omega);go_roundw
    case rel=>exact ⟨x++[z],g7,c7,by rw [List.length_append,HI.out];simp;omega,by rw [List.length_append,HI.out];simp;omega,by rw [List.length_append,HI.out];rfl,by rw [List.length_append,HI.out];go_num,hE7,by
     rw [List.length_append,HI.out,List.map_append];exact hO7⟩
    case measure=>simp [intOf];omega
   ·go_upto_region 8 with (fail)
    clear cx;clear HZ;clear z;obtain ⟨z,rfl⟩:∃ z,z=y:=⟨_,rfl⟩
    go_wp2_with (at_builtin;refine wpList_append_lies _ rfl _ _ 22 rfl w.heap.size 5 j0 (.int .u8 0) 1 1 Tryz.underlying22 hj hy0 hy1 hy2 rfl (by decide) _ _ _ rfl (hO.alloc _) _ 1 1 [bv z] rfl rfl (cell_one_new _ _ _) (by simp [Value.oneCell']) (by decide) (by unfold maxLen;omega) (by omega) (by simp;omega) _ rfl ?_;intro g7 c7 w7 hO7 hgr7 hat7 _);have hE7:=(hE.alloc (.cells #[bv z] 5)).grown hgr7 (fun k e=>by have:=(hO.lt k e).1;omega);go_roundw
    case rel=>exact ⟨x++[z],g7,c7,by rw [List.length_append,HI.out];simp;omega,by rw [List.length_append,HI.out];simp;omega,by rw [List.length_append,HI.out];rfl,by rw [List.length_append,HI.out];go_num,hE7,by
     rw [List.length_append,HI.out,List.map_append];exact hO7⟩
    case measure=>simp [intOf];omega
   ·go_upto_region 8 with (fail)
    clear cx;rw [HZ.out,show (Value.int IntKind.u8 (z.toNat:Int))=bv z from rfl];go_wp2_with (at_builtin;refine wpList_append_lies _ rfl _ _ 22 rfl w.heap.size 5 j0 (.int .u8 0) 1 1 Tryz.underlying22 hj hy0 hy1 hy2 rfl (by decide) _ _ _ rfl (hO.alloc _) _ 1 1 [bv z] rfl rfl (cell_one_new _ _ _) (by simp [Value.oneCell']) (by decide) (by unfold maxLen;omega) (by omega) (by simp;omega) _ rfl ?_;intro g7 c7 w7 hO7 hgr7 hat7 _);have hE7:=(hE.alloc (.cells #[bv z] 5)).grown hgr7 (fun k e=>by have:=(hO.lt k e).1;omega);go_roundw
    case rel=>exact ⟨x++[z],g7,c7,by rw [List.length_append,HI.out];simp;omega,by rw [List.length_append,HI.out];simp;omega,by rw [List.length_append,HI.out];rfl,by rw [List.length_append,HI.out];go_num,hE7,by
     rw [List.length_append,HI.out,List.map_append];exact hO7⟩
    case measure=>simp [intOf];omega
  ·have hby:By wo (.slice (some ⟨g,0,none⟩) x.length c) x:=by
    have h0:World.ownsRow wo w.heap.size 5 1 (.slice (some ⟨g,0,none⟩) x.length c) x.length (x.map bv):=by rw [HI.out];exact hO
    exact By.of_owns h0 (by rw [HI.out];omega)
   rw [HI.out] at hby;by_cases h1:i<l.length
   ·have h2:¬ i<n:=fun h=>hlt ⟨h1,h⟩
    go_wp2;go_ret;exact ⟨x,g,c,by rw [HI.out];rfl,by rw [HI.out];omega,by rw [HI.out];exact hby,by rw [HI.out];exact Ak2 hO,hE⟩
   ·go_wp2;go_ret;exact ⟨x,g,c,by rw [HI.out];rfl,by rw [HI.out];omega,by rw [HI.out];exact hby,by rw [HI.out];exact Ak2 hO,hE⟩
theorem Vs {d d':Dfa} (h1:d.cls=d'.cls) (h2:d.nxt=d'.nxt) (h3:d.acc=d'.acc):d=d':=by
 cases d;cases d';simp at h1 h2 h3;simp [h1,h2,h3]
theorem Ahg (d d':Dfa):(d.cls=d'.cls∧d.nxt=d'.nxt∧d.acc=d'.acc)↔d=d':=
 ⟨fun ⟨h1,h2,h3⟩=>Vs h1 h2 h3,fun h=>by subst h;exact ⟨rfl,rfl,rfl⟩⟩
instance dfaDec:DecidableEq Dfa:=fun d d'=>decidable_of_iff _ (Ahg d d')
def LeastF (L:List UInt8→Bool) (W:World) (e:Ending):Prop:=
 (∃ u v,e=.returned (.tuple #[v,.bool true])∧By W v u∧L u=true∧∀ u',L u'=true→rk u≤rk u')∨(e=.returned (.tuple #[.slice none 0 0,.bool false])∧∀ u,L u=false)
def ldA {w:World} {g:Nat} {V:Array Value} (h:w.heap[g]? = some (.cells V 30 (0,0))) (hi:(Tryz.prog.info? 30).map (·.size)=some V.size):Sc Tryz.prog w:=
 .load 30 g V 30 (0,0) _ (fun _ hE=>hE.heap h) Tryz.underlying30 rfl hi
def Eg {P:Program} {w:World} (f:FuncId) (he:Enters P f) (args:List Value) (v:Value) (h:∀ W,Ext w W→Calls P f args.toArray W fun e w'=>e=.returned v∧Ext W w'):Sc P w:=
 .call f he (args.map AV.c) (.c v) (AV.mono_c v) fun W vs hE hh=>by
  rw [D5 hh];exact (h W hE).mono fun e w' ⟨h1,h2⟩=>⟨v,h1,rfl,h2⟩
theorem Ale:Enters Tryz.prog 29:=enters_of Tryz.func29 (by kernel_rfl) rfl
theorem LeastF.ext {L:List UInt8→Bool} {W W':World} {e:Ending} (h:LeastF L W e) (hE:Ext W W'):LeastF L W' e:=by
 rcases h with ⟨u,v,h1,h2,h3,h4⟩|h
 ·exact .inl ⟨u,v,h1,h2.ext hE,h3,h4⟩
 ·exact .inr h
theorem LeastF.congr {L M:List UInt8→Bool} {W:World} {e:Ending} (h:LeastF L W e) (hLM:∀ u,L u=M u):LeastF M W e:=by
 rw [show M=L from funext fun u=>(hLM u).symm];exact h
theorem LeastF.form {L:List UInt8→Bool} {W:World} {e:Ending} (h:LeastF L W e):∃ a n c b,e=.returned (.tuple #[.slice a n c,.bool b]):=by
 rcases h with ⟨u,v,h1,h2,_⟩|⟨h,_⟩
 ·obtain ⟨a,c,rfl⟩:=h2.len;exact ⟨_,_,_,_,h1⟩
 ·exact ⟨_,_,_,_,h⟩
theorem Amv (n:Nat) (k:Int) (hk:k=n) (hn:n≤1000) (l:List UInt8) (v:Value) (w:World) (hl:ByW w v l) :
  Calls Tryz.prog 27 #[v,.int .i64 k] w fun e w'=>∃ (x:List UInt8) (g c:Nat),e=.returned (.slice (some ⟨g,0,none⟩) x.length c)∧x.length≤n∧By w' (.slice (some ⟨g,0,none⟩) x.length c) x∧x.length≤c∧Ext w w':=by
 subst hk;exact Amw l v n hn w hl
theorem G9 {W:World} {ρ:Operand→Value} {x y:Operand} {u v:Value} (h:Cx W [.c u,.c v] [ρ x,ρ y]):ρ x=u∧ρ y=v:=by
 have:=D5 (us:=[u,v]) h;injection this with h1 h2
 injection h2 with h2 _
 exact ⟨h1,h2⟩
theorem Ac8 {W:World} {ρ:Operand→Value} {x:Operand} {u:Value} (h:Cx W [.c u] [ρ x]):ρ x=u:=by
 have:=D5 (us:=[u]) h;injection this
def Cj (ss:List (List RNode)):Nat:=(ss.map List.length).sum
theorem Fn (a b:List (List RNode)):Cj (a++b)=Cj a+Cj b:=by simp [Cj]
theorem F9 (x:List RNode):Cj [x]=x.length:=by simp [Cj]
theorem Kf (ss:List (List RNode)) (i:Nat) (h:i<ss.length):ss.take (i+1)=ss.take i++[ss.getD i []]:=by
 rw [List.take_succ_eq_append_getElem h,List.getD_eq_getElem?_getD,List.getElem?_eq_getElem h];rfl
theorem Mz (ss:List (List RNode)) (n:Nat):Cj (ss.take n)≤Cj ss:=by
 have h:=Fn (ss.take n) (ss.drop n);rw [List.take_append_drop] at h;omega
theorem Ip (ss:List (List RNode)) (i:Nat) (h:i<ss.length):(ss.getD i []).length≤Cj ss:=by
 have h1:=Mz ss (i+1);rw [Kf ss i h,Fn,F9] at h1;omega
def OkS (ss:List (List RNode)):Prop:=∀ i,i<ss.length→WRx (ss.getD i [])
theorem Of {ss:List (List RNode)} (h:OkS ss) (n:Nat) (hn:n≤ss.length) {x:List RNode} (hx:WRx x):OkS (ss.take n++[x]):=fun i hi=>by
 have hl:(ss.take n).length=n:=by rw [List.length_take];omega
 rw [List.length_append,hl,List.length_singleton] at hi;by_cases e:i<n
 ·rw [List.getD_eq_getElem?_getD,List.getElem?_append_left (by omega),List.getElem?_take,if_pos e,← List.getD_eq_getElem?_getD];exact h i (by omega)
 ·obtain rfl:i=n:=by omega
  rw [List.getD_eq_getElem?_getD,List.getElem?_append_right (by omega),hl,Nat.sub_self];exact hx
structure PushR (ss:List (List RNode)) (x:Nat) (ss':List (List RNode)):Prop where
 ok:OkS ss'
 tot:Cj ss'≤Cj ss+1
 len:ss'.length≤ss.length+1
 pos:0<ss'.length
 five:x=5→2≤ss.length→ss'.length+1=ss.length
theorem Abq {ss:List (List RNode)} (h:OkS ss) (n:Nat) (hn:ss.length=n+2) (k x:Nat) (hk:k=4∨k=5∨k=6):PushR ss x (ss.take n++[bin k (ss.getD n []) (ss.getD (n+1) [])]):=by
 have hl:(ss.take n).length=n:=by rw [List.length_take];omega
 refine ⟨Of h n (by omega) (Mr (h n (by omega)) (h (n+1) (by omega)) hk),?_,?_,?_,fun _ _=>?_⟩
 ·have h1:=Mz ss (n+1+1);rw [Kf ss (n+1) (by omega),Kf ss n (by omega),Fn,Fn,F9,F9] at h1;rw [Fn,F9,Gw];omega
 ·rw [List.length_append,hl,List.length_singleton];omega
 ·rw [List.length_append,hl,List.length_singleton];omega
 ·rw [List.length_append,hl,List.length_singleton];omega
theorem Abo {ss:List (List RNode)} (h:OkS ss) (n:Nat) (hn:ss.length=n+1) (m:RNode) (x:Nat) (hx5:x≠5) (hk:arK m.kind=1) (hl:m.l=(ss.getD n []).length-1) (hm:m.ok (ss.getD n []).length):PushR ss x (ss.take n++[ss.getD n []++[m]]):=by
 have hl':(ss.take n).length=n:=by rw [List.length_take];omega
 refine ⟨Of h n (by omega) (Mq (h n (by omega)) hk hl hm),?_,?_,?_,fun e=>absurd e hx5⟩
 ·have h1:=Mz ss (n+1);rw [Kf ss n (by omega),Fn,F9] at h1;rw [Fn,F9,List.length_append,List.length_singleton];omega
 ·rw [List.length_append,hl',List.length_singleton];omega
 ·rw [List.length_append,hl',List.length_singleton];omega
theorem Abp {ss:List (List RNode)} (h:OkS ss) (m:RNode) (x:Nat) (hx5:¬ (x=5∧2≤ss.length)) (hm:m.ok 0):PushR ss x (ss.take ss.length++[[m]]):=by
 rw [List.take_length];refine ⟨?_,?_,?_,?_,fun e e2=>absurd ⟨e,e2⟩ hx5⟩
 ·have:=Of h ss.length (Nat.le_refl _) (Qm hm)
  rwa [List.take_length] at this
 ·rw [Fn,F9,List.length_singleton];exact Nat.le_refl _
 ·rw [List.length_append,List.length_singleton];exact Nat.le_refl _
 ·rw [List.length_append,List.length_singleton];omega
theorem Y2 (ρ:Operand→Value) (o:Oper) (W:World) (x:Operand) (a:Nat) (h2:a≤1152921504606846976) (ho:o.op=.binOp .sub 3 x (.const (.int .i64 2)) 3) (hx:ρ x=iv (a+2)) (hy:ρ (.const (.int .i64 2))=.int .i64 2):(execOp ρ o).run Tryz.prog W=.ok (.value (iv a)) W:=by
 unfold execOp;simp only [ho,hx,hy];go_simp;exact IntWalk.i64_in _ ⟨by omega,by omega⟩
def Fq {w:World} (x:Operand) (a:Nat) (h2:a≤1152921504606846976):Sc Tryz.prog w:=
 .gen (.binOp .sub 3 x (.const (.int .i64 2)) 3) [.c (iv (a+2)),.c (.int .i64 2)] (.c (iv a)) (AV.mono_c _) fun ρ o W ho _ hh=>⟨_,Y2 ρ o W x a h2 ho (G9 hh).1 (G9 hh).2,rfl⟩
theorem Y1 (ρ:Operand→Value) (o:Oper) (W:World) (x:Operand) (a:Nat) (h2:a≤1152921504606846976) (ho:o.op=.binOp .sub 3 x (.const (.int .i64 1)) 3) (hx:ρ x=iv (a+1)) (hy:ρ (.const (.int .i64 1))=.int .i64 1):(execOp ρ o).run Tryz.prog W=.ok (.value (iv a)) W:=by
 unfold execOp;simp only [ho,hx,hy];go_simp;exact IntWalk.i64_in _ ⟨by omega,by omega⟩
def Dv {w:World} (x:Operand) (a:Nat) (h2:a≤1152921504606846976):Sc Tryz.prog w:=
 .gen (.binOp .sub 3 x (.const (.int .i64 1)) 3) [.c (iv (a+1)),.c (.int .i64 1)] (.c (iv a)) (AV.mono_c _) fun ρ o W ho _ hh=>⟨_,Y1 ρ o W x a h2 ho (G9 hh).1 (G9 hh).2,rfl⟩
theorem Afq (ρ:Operand→Value) (o:Oper) (W:World) (x y:Operand) (b off n c k:Nat) (hk:k<n) (ho:o.op=.indexAddr 127 x y) (hx:ρ x=.slice (some ⟨b,off,none⟩) n c) (hy:ρ y=.int .i64 k):(execOp ρ o).run Tryz.prog W=.ok (.value (.pointer (some ⟨b,off+k,none⟩))) W:=by
 have hI:(k:Int)<(n:Int):=by omega
 unfold execOp;simp only [ho,hx,hy];go_simp
def D4 {w:World} (x y:Operand) (b off n c k:Nat) (hk:k<n):Sc Tryz.prog w:=
 .gen (.indexAddr 127 x y) [.c (.slice (some ⟨b,off,none⟩) n c),.c (.int .i64 k)] (.c (.pointer (some ⟨b,off+k,none⟩))) (AV.mono_c _) fun ρ o W ho _ hh=>⟨_,Afq ρ o W x y b off n c k hk ho (G9 hh).1 (G9 hh).2,rfl⟩
theorem Ae9 (ρ:Operand→Value) (o:Oper) (W:World) (x:Operand) (b k:Nat) (v:Value) (hc:W.cell? ⟨b,k,none⟩=some v) (ho:o.op=.load 53 x) (hx:ρ x=.pointer (some ⟨b,k,none⟩)):(execOp ρ o).run Tryz.prog W=.ok (.value v) W:=by
 unfold execOp;simp only [ho,hx];go_simp
def D3 {w:World} (x:Operand) (b k:Nat) (v:Value) (hc:∀ W,Ext w W→W.cell? ⟨b,k,none⟩=some v):Sc Tryz.prog w:=
 .gen (.load 53 x) [.c (.pointer (some ⟨b,k,none⟩))] (.c v) (AV.mono_c _) fun ρ o W ho hE hh=>⟨_,Ae9 ρ o W x b k v (hc W hE) ho (Ac8 hh),rfl⟩
theorem Ls:Enters Tryz.prog 37:=enters_of Tryz.func37 (by kernel_rfl) rfl
theorem Jh:Enters Tryz.prog 39:=enters_of Tryz.func39 (by kernel_rfl) rfl
theorem Fg:Enters Tryz.prog 113:=enters_of Tryz.func113 (by kernel_rfl) rfl
def ldN {w:World} {g:Nat} {V:Array Value} (h:w.heap[g]? = some (.cells V 64 (0,0))) (hi:(Tryz.prog.info? 64).map (·.size)=some V.size):Sc Tryz.prog w:=
 .load 64 g V 64 (0,0) _ (fun _ hE=>hE.heap h) Tryz.underlying64 rfl hi
theorem StkV.at_ {W:World} {v:Value} {ss:List (List RNode)} (h:StkV W v ss) (h0:0<ss.length):∃ b o c,v=.slice (some ⟨b,o,none⟩) ss.length c∧∀ i,i<ss.length→∃ u,W.cell? ⟨b,o+i,none⟩=some u∧RxV W u (ss.getD i []):=by
 obtain ⟨vs,h1,h2,h3⟩:=h;obtain ⟨b,o,c,hv,hc⟩:=Sl.form h2 h0;exact ⟨b,o,c,hv,fun i hi=>⟨_,hc i (by omega),h3 i hi⟩⟩
end Go.Proofs.YtaiogolidlamiaaGreatDoor
