import Derived.Test.YtaiogolidlamiaaGreatDoorM33
import Derived.Test.YtaiogolidlamiaaGreatDoorM37
import Derived.Deep.Upon
import Derived.Test.YtaiogolidlamiaaGreatDoorM12
import Derived.Test.YtaiogolidlamiaaGreatDoorM13
import Derived.Test.YtaiogolidlamiaaGreatDoorM03
import Derived.Test.YtaiogolidlamiaaGreatDoorM18
set_option linter.unusedVariables false
set_option linter.unusedSimpArgs false
namespace Go.Proofs.YtaiogolidlamiaaGreatDoor
set_option maxRecDepth 100000
open Go.RowKit Go.Shelf
def Ex (S:Nat) (a:Option Addr) (n c A:Nat):Array Value:=#[.int .u8 S,.slice a n c,.int .u8 A]
theorem Sv (S:Nat) (a:Option Addr) (n c A:Nat):(Tryz.prog.info? 24).map (·.size)=some (Ex S a n c A).size:=by
 show _=some 3
 kernel_rfl
structure RawAt (W:World) (S:Nat) (a:Option Addr) (n c A:Nat):Prop where
 hs:S<256
 ha:A<256
 by_:∃ l:List UInt8,l.length=n∧ByW W (.slice a n c) l
theorem RawAt.ext {W W':World} {S:Nat} {a:Option Addr} {n c A:Nat} (h:RawAt W S a n c A) (hE:Ext W W'):RawAt W' S a n c A:=
 ⟨h.hs,h.ha,by obtain ⟨l,h1,h2⟩:=h.by_;exact ⟨l,h1,h2.ext hE⟩⟩
theorem Re {W:World} {b e s n c g:Nat} {xs:List Value} (h:W.ownsRow b e s (.slice (some ⟨g,0,none⟩) n c) n xs):n≤c:=by
 obtain ⟨_,⟨he,_⟩|⟨g',cap,cur,he,_,_,hnc,_⟩⟩:=h
 ·cases he
 ·injection he with _ _ h3
  rw [h3];exact hnc
set_option maxHeartbeats 2000000 in
theorem Ae9 (l:List UInt8) (v:Value) (n:Nat) (hn:n≤1000) (w:World) (hl:ByW w v l) :
  Calls Tryz.prog 27 #[v,iv n] w fun e w'=>∃ (x:List UInt8) (g c:Nat),e=.returned (.slice (some ⟨g,0,none⟩) x.length c)∧x.length≤n∧By w' (.slice (some ⟨g,0,none⟩) x.length c) x∧x.length≤c∧Ext w w':=by
 obtain ⟨j0,hj,hy0,hy1,hy2⟩:=info_parts (show (Tryz.prog.info? 5).map (fun i=>(i.zero,i.size,i.bytes))=some (some (.int .u8 0),1,1) by kernel_rfl);obtain ⟨a,b,o,ca,rfl,ha1,_,ha3⟩:=hl.split;have hl63:=hl.1;have HC:=Lib.hid (fun (W:World) (hW:Ext w W) i (hi:i<l.length)=>hW.cell (ha3 i hi));have HA:=Lib.hid ha1;clear hl ha1 ha3;have hE0:=(Ext.refl w).alloc (.cells #[] 5);have hO0:World.ownsRow (w.alloc (.cells #[] 5)) w.heap.size 5 1 (.slice (some ⟨w.heap.size,0,none⟩) 0 0) 0 []:=World.ownsRow_lit (base:=w.heap.size) (e:=5) (size:=1) w #[] 0 (Nat.le_refl _) (by unfold maxLen;omega) rfl;go_enter Tryz.func27,Tryz.ntmps27;go_wp2_with (fail);go_loopw [5,6] (fun vx vi W=>∃ (x:List UInt8) (g c:Nat),x.length≤n∧x.length≤l.length∧vx=.slice (some ⟨g,0,none⟩) x.length c∧vi=.int .i64 x.length∧Ext w W∧W.ownsRow w.heap.size 5 1 (.slice (some ⟨g,0,none⟩) x.length c) x.length (x.map bv))
  (fun _ vi _=>n-(intOf vi).toNat)
 case atStart=>exact ⟨[],_,_,by simp,by simp,rfl,rfl,hE0,hO0⟩
 case round=>
  clear hE0 hO0;obtain ⟨x,g,c,hx1,hx2,rfl,rfl,hE,hO⟩:=hrel;obtain ⟨wo,hwo⟩:∃ W,W=wr:=⟨_,rfl⟩;subst hwo;have hsz:=hE.size;obtain ⟨i,hi⟩:∃ i,x.length=i:=⟨_,rfl⟩;rw [hi] at hx1 hx2 hO;have HI:=Lib.hid hi;simp only [hi];clear hi;by_cases hlt:i<l.length∧i<n
  ·obtain ⟨h1,h2⟩:=hlt;have hc1:(i:Int)<(l.length:Int):=by omega
   have hc2:(i:Int)<(n:Int):=by omega
   obtain rfl:=HA.out (by omega);have cx:=HC.out wo hE i h1;obtain ⟨y,hy⟩:∃ y,l.getD i 0=y:=⟨_,rfl⟩;rw [hy] at cx;have hy8:=y.toNat_lt;clear hy;obtain ⟨z,hz⟩:∃ z:UInt8,97+(y.toNat:Int) % 4=(z.toNat:Int):=⟨UInt8.ofNat (97+y.toNat % 4),by rw [u8n _ (by omega)];omega⟩;have HZ:=Lib.hid hz;clear hz;have hcase:(y.toNat:Int)<97∨(97≤(y.toNat:Int)∧(y.toNat:Int)≤100)∨100<(y.toNat:Int):=by omega
   rcases hcase with h|h|h
   ·go_upto_region 8 with (fail)
    clear cx;rw [HZ.out,show (Value.int IntKind.u8 (z.toNat:Int))=bv z from rfl];go_wp2_with (at_builtin;refine wpList_append_lies _ rfl _ _ 22 rfl w.heap.size 5 j0 (.int .u8 0) 1 1 Tryz.underlying22 hj hy0 hy1 hy2 rfl (by decide) _ _ _ rfl (hO.alloc _) _ 1 1 [bv z] rfl rfl (cell_one_new _ _ _) (by simp [Value.oneCell']) (by decide) (by unfold maxLen;omega) (by omega) (by simp;omega) _ rfl ?_;intro g7 c7 w7 hO7 hgr7 hat7 _);have hE7:=(hE.alloc (.cells #[bv z] 5)).grown hgr7 (fun k e=>by have:=(hO.lt k e).1;omega);go_roundw
    case rel=>exact ⟨x++[z],g7,c7,by rw [List.length_append,HI.out];simp;omega,by rw [List.length_append,HI.out];simp;omega,by rw [List.length_append,HI.out];rfl,by rw [List.length_append,HI.out];go_num,hE7,by
     rw [List.length_append,HI.out,List.map_append];exact hO7⟩
    case measure=>simp [intOf];omega
   ·go_upto_region 8 with (fail)
    clear cx;clear HZ;clear z;obtain ⟨z,rfl⟩:∃ z,z=y:=⟨_,rfl⟩
    go_wp2_with (at_builtin;refine wpList_append_lies _ rfl _ _ 22 rfl w.heap.size 5 j0 (.int .u8 0) 1 1 Tryz.underlying22 hj hy0 hy1 hy2 rfl (by decide) _ _ _ rfl (hO.alloc _) _ 1 1 [bv z] rfl rfl (cell_one_new _ _ _) (by simp [Value.oneCell']) (by decide) (by unfold maxLen;omega) (by omega) (by simp;omega) _ rfl ?_;intro g7 c7 w7 hO7 hgr7 hat7 _);have hE7:=(hE.alloc (.cells #[bv z] 5)).grown hgr7 (fun k e=>by have:=(hO.lt k e).1;omega);go_roundw
    case rel=>exact ⟨x++[z],g7,c7,by rw [List.length_append,HI.out];simp;omega,by rw [List.length_append,HI.out];simp;omega,by rw [List.length_append,HI.out];rfl,by rw [List.length_append,HI.out];go_num,hE7,by
     rw [List.length_append,HI.out,List.map_append];exact hO7⟩
    case measure=>simp [intOf];omega
   ·go_upto_region 8 with (fail)
    clear cx;rw [HZ.out,show (Value.int IntKind.u8 (z.toNat:Int))=bv z from rfl];go_wp2_with (at_builtin;refine wpList_append_lies _ rfl _ _ 22 rfl w.heap.size 5 j0 (.int .u8 0) 1 1 Tryz.underlying22 hj hy0 hy1 hy2 rfl (by decide) _ _ _ rfl (hO.alloc _) _ 1 1 [bv z] rfl rfl (cell_one_new _ _ _) (by simp [Value.oneCell']) (by decide) (by unfold maxLen;omega) (by omega) (by simp;omega) _ rfl ?_;intro g7 c7 w7 hO7 hgr7 hat7 _);have hE7:=(hE.alloc (.cells #[bv z] 5)).grown hgr7 (fun k e=>by have:=(hO.lt k e).1;omega);go_roundw
    case rel=>exact ⟨x++[z],g7,c7,by rw [List.length_append,HI.out];simp;omega,by rw [List.length_append,HI.out];simp;omega,by rw [List.length_append,HI.out];rfl,by rw [List.length_append,HI.out];go_num,hE7,by
     rw [List.length_append,HI.out,List.map_append];exact hO7⟩
    case measure=>simp [intOf];omega
  ·have hby:By wo (.slice (some ⟨g,0,none⟩) x.length c) x:=by
    have h0:World.ownsRow wo w.heap.size 5 1 (.slice (some ⟨g,0,none⟩) x.length c) x.length (x.map bv):=by rw [HI.out];exact hO
    exact By.of_owns h0 (by rw [HI.out];omega)
   rw [HI.out] at hby;by_cases h1:i<l.length
   ·have h2:¬ i<n:=fun h=>hlt ⟨h1,h⟩
    go_wp2;go_ret;exact ⟨x,g,c,by rw [HI.out];rfl,by rw [HI.out];omega,by rw [HI.out];exact hby,by rw [HI.out];exact Re hO,hE⟩
   ·go_wp2;go_ret;exact ⟨x,g,c,by rw [HI.out];rfl,by rw [HI.out];omega,by rw [HI.out];exact hby,by rw [HI.out];exact Re hO,hE⟩
theorem Afu {d d':Dfa} (h1:d.cls=d'.cls) (h2:d.nxt=d'.nxt) (h3:d.acc=d'.acc):d=d':=by
 cases d;cases d';simp at h1 h2 h3;simp [h1,h2,h3]
theorem Aft (d d':Dfa):(d.cls=d'.cls∧d.nxt=d'.nxt∧d.acc=d'.acc)↔d=d':=
 ⟨fun ⟨h1,h2,h3⟩=>Afu h1 h2 h3,fun h=>by subst h;exact ⟨rfl,rfl,rfl⟩⟩
instance dfaDec:DecidableEq Dfa:=fun d d'=>decidable_of_iff _ (Aft d d')
theorem V7 {P:Program} {w:World} {ops:Array Oper} {rest:List Oper} {o:Oper} {a:Act} {Q:Exit→Act→World→Prop} (hgd:o.guard=none) (s x:Operand) (t:TypeId)
  (ho:o.op=.call { callee:=.builtin .append,args:=#[s,x],argTypes:=#[t,t] })
  (e:TypeId) (i:TypeInfo) (ht:P.underlying t=some (.slice e)) (hi:P.info? e=some i)
  (ad:Option Addr) (n c:Nat) (hnc:n≤c) (hs:a.eval s=.slice ad n c) (ad':Addr) (c':Nat) (hx:a.eval x=.slice (some ad') 0 c')
  (h:wpList P ops Q rest (a.put o.dst (.slice ad n c)) w):wpList P ops Q (o::rest) a w:=by
 refine wpList_plain hgd fun K hK=>?_
 have hrun:=run_append_nothing (P:=P) w t t o.type e i ht hi ad n c hnc _ (Src.ofSlice w ht ad' 0 c' [] (by simp) (by simp) (by simp));unfold Oper.wp;simp [execOp,ho,resolve,invoke,builtin,hs,hx,hrun,Result.andThen];exact hK _ _ h
def LeastF (L:List UInt8→Bool) (W:World) (e:Ending):Prop:=
 (∃ u v,e=.returned (.tuple #[v,.bool true])∧By W v u∧L u=true∧∀ u',L u'=true→rk u≤rk u')∨(e=.returned (.tuple #[.slice none 0 0,.bool false])∧∀ u,L u=false)
theorem Tq {t:Tbl} {i b:Nat} {l:List Nat} {W:Nat→List UInt8} {F:List (Option Nat)} {Y:List UInt8} (h:FB t i b l W F Y):∀ k j,j≤k→j<l.length→(W (l.getD j 0)).length≤j
 | 0,j,hj,hl=>by
  obtain rfl:j=0:=by omega
  rw [h.head,h.w0];simp
 | k+1,j,hj,hl=>by
  by_cases h0:l.getD j 0=0
  ·rw [h0,h.w0];simp
  ·have hm:=C0 l j 0 hl;have hs:=(h.seen _ (h.lt _ hm)).2 hm;obtain ⟨p,hp⟩:=Option.isSome_iff_exists.1 hs;obtain ⟨hpl,hw⟩:=h.from_ _ p hp h0;obtain ⟨q,hq,rfl⟩:=Fy hpl;have hr:rk (W (l.getD q 0))<rk (W (l.getD j 0)):=by rw [hw,Fa];omega
   have hqj:q<j:=by
    rcases Nat.lt_trichotomy q j with h1|h1|h1
    ·exact h1
    ·subst h1;omega
    ·have:=h.inc j q h1 hq;omega
   have:=Tq h k q (by omega) hq;rw [hw,List.length_append,List.length_singleton];omega
theorem Agr {W:World} {g:Nat} {l:List UInt8} (h:∀ k,k<l.length→W.cell? ⟨g,k,none⟩=some (bv (l.getD k 0))) (j:Nat) (u:Value) (hj:(l.map bv)[j]? = some u):W.cell? ((⟨g,0,none⟩:Addr).add j)=some u:=by
 obtain ⟨hj1,hj2⟩:=List.getElem?_eq_some_iff.1 hj;have hjl:j<l.length:=by rwa [List.length_map] at hj1
 have e:(⟨g,0,none⟩:Addr).add j=⟨g,j,none⟩:=by
  unfold Addr.add;by_cases h0:j=0
  ·subst h0;rfl
  ·simp [h0]
 rw [e,h j hjl,← hj2,List.getElem_map,List.getD_eq_getElem?_getD,List.getElem?_eq_getElem hjl];rfl
set_option maxHeartbeats 2000000 in
theorem Ww (t:Tbl) (hv:TVal t) (hn:t.nxt.length≤65536) (A:Array Value) (w:World) (h:IsT w A t) :
  Calls Tryz.prog 87 #[.agg A] w fun e w'=>LeastF t.has w' e∧Ext w w':=by
 obtain ⟨bn,on,cn,ba,oa,ca,hAs,hAo,hAc,_,hA7,hA8,hR,hacc⟩:=h.opened hv;have hn0:=hv.pos;have HR:=Lib.hid hR;have HV:=Lib.hid hv;have HACC:=Lib.hid hacc;obtain ⟨i0,hi,hz0,hz1,hz2⟩:=info_parts Cv;obtain ⟨j0,hj,hy0,hy1,hy2⟩:=info_parts Ny;have hE0:=(Ext.refl w).alloc (.cells A 108);have H0:=Ab w (.cells A 108);have HK7:=Lib.hid (fun (W:World) (hW:Ext (w.alloc (.cells A 108)) W)=>(cell_of_row W w.heap.size 257 _ _ _ (hW.heap H0)).trans hA7);have HK8:=Lib.hid (fun (W:World) (hW:Ext (w.alloc (.cells A 108)) W)=>(cell_of_row W w.heap.size 258 _ _ _ (hW.heap H0)).trans hA8);have HKC:=Lib.hid (fun (W:World) (hW:Ext (w.alloc (.cells A 108)) W) b (hb:b<256)=>(cell_of_row W w.heap.size b _ _ _ (hW.heap H0)).trans (hAc b hb));clear hR hv h H0 hA7 hA8 hAc hAo hAs hacc;go_enter Tryz.func87,Tryz.ntmps87;go_upto_region 1 with (fail)
 generalize w.alloc (.cells A 108)=w1 at *;have k1:=HK7.out w1 (Ext.refl w1);go_upto_region 2 with (at_make;refine wpList_make_full _ rfl _ _ 68 rfl w1.heap.size 3 i0 (.int .i64 0) 1 Tryz.underlying68 hi hz0 hz1 .i64 .i64 _ _ t.nxt.length rfl rfl rfl rfl (by rw [hz2];omega) (by unfold maxLen;omega) (Nat.le_refl _) ?_;intro w2 hown2 hgrow2)
 have hE2:Ext w1 w2:=(Ext.refl w1).grown hgrow2 (fun k e=>by cases e);have hF2:w2.ownsRow w1.heap.size 3 1 (.slice (some ⟨w1.heap.size,0,none⟩) t.nxt.length t.nxt.length) t.nxt.length ((Dh t.nxt.length 0).map ov):=by rw [N4,← B6];exact hown2
 have hs2:w1.heap.size<w2.heap.size:=(hF2.lt _ rfl).2;clear hown2 hgrow2 k1;have k2:=HK7.out w2 hE2;go_upto_region 3 with (at_make;refine wpList_make_full _ rfl _ _ 22 rfl w2.heap.size 5 j0 (.int .u8 0) 1 Tryz.underlying22 hj hy0 hy1 .i64 .i64 _ _ t.nxt.length rfl rfl rfl rfl (by rw [hy2];omega) (by unfold maxLen;omega) (Nat.le_refl _) ?_;intro w3 hown3 hgrow3)
 have hE3:=hE2.grown hgrow3 (fun k e=>by cases e);have hF3:=Bt hF2 hgrow3;have hY3:w3.ownsRow w2.heap.size 5 1 (.slice (some ⟨w2.heap.size,0,none⟩) t.nxt.length t.nxt.length) t.nxt.length ((List.replicate t.nxt.length (0:UInt8)).map bv):=by rw [← B6];exact hown3
 have hs3:w2.heap.size<w3.heap.size:=(hY3.lt _ rfl).2;clear hown3 hgrow3 k2 hF2 hE2;generalize hgs:w1.heap.size=gs at *;generalize hg5:w2.heap.size=g5 at *;have HGS:=Lib.hid hgs;clear hgs hg5;go_wp2_with (fail);go_loopw [23] (fun i W=>∃ k:Nat,k≤t.nxt.length∧i=.int .i64 k∧Ext w1 W∧g5<W.heap.size∧
   W.ownsRow gs 3 1 (.slice (some ⟨gs,0,none⟩) t.nxt.length t.nxt.length) t.nxt.length ((Dh t.nxt.length k).map ov)∧
   W.ownsRow g5 5 1 (.slice (some ⟨g5,0,none⟩) t.nxt.length t.nxt.length) t.nxt.length ((List.replicate t.nxt.length (0:UInt8)).map bv))
  (fun i _=>t.nxt.length-(intOf i).toNat)
 case atStart=>exact ⟨0,by omega,rfl,hE3,hs3,hF3,hY3⟩
 case round=>
  clear hE3 hF3 hY3 hs3;obtain ⟨k,hk,rfl,hE,hsz,hF,hY⟩:=hrel;have hgs1:w1.heap.size≤gs:=Nat.le_of_eq HGS.out;by_cases hlt:k<t.nxt.length
  ·have co:=An none hF (F6 _ _).symm k (by rw [F6];exact hlt);have fo:=hF.frozenAt k;obtain ⟨hFd,hgrd⟩:=Av hF k none;rw [N5 _ _ hlt] at hFd;have hEd:=hE.grown hgrd (fun k e=>by cases e;exact hgs1);have hYd:=hY.kept hgrd (Ag hY hF (by decide));have hszd:=Nat.lt_of_lt_of_le hsz hgrd.size;clear hgrd hF hE hY;go_wp2_with (fail);go_roundw
   case rel=>exact ⟨k+1,by omega,by go_num,hEd,hszd,hFd,hYd⟩
   case measure=>simp [intOf];omega
  ·obtain rfl:k=t.nxt.length:=by omega
   rw [N6] at hF;have co:=An none hF (by simp) 0 (by simpa using hn0);have fo:=hF.frozenAt 0;obtain ⟨hFd,hgrd⟩:=Av hF 0 (some 0);have hEd:=hE.grown hgrd (fun k e=>by cases e;exact hgs1);have hYd:=hY.kept hgrd (Ag hY hF (by decide));have hszd:=Nat.lt_of_lt_of_le hsz hgrd.size;clear hgrd hF hE hY hsz;go_upto_region 9 with (fail)
   clear co fo;have hsc:wr.setCell ⟨gs,0,none⟩ (ov (some 0))=wr.setCell ⟨gs,0,none⟩ (.int .i64 0):=rfl;rw [hsc] at hFd hEd hYd hszd;clear hsc;obtain ⟨w4,hw4⟩:∃ W,wr.setCell ⟨gs,0,none⟩ (.int .i64 0)=W:=⟨_,rfl⟩;simp only [hw4] at *;clear hw4;have hE5:=hEd.alloc (.cells #[.int .i64 0] 3);have hF5:=hFd.alloc (.cells #[.int .i64 0] 3);have hY5:=hYd.alloc (.cells #[.int .i64 0] 3);have hl5:OwnI (w4.alloc (.cells #[iv 0] 3)) (g5+1) (.slice (some ⟨w4.heap.size,0,none⟩) 1 1) [0]:=World.ownsRow_lit (base:=g5+1) (e:=3) (size:=1) w4 #[.int .i64 0] 1 (by omega) (by unfold maxLen;omega) rfl;have HS:=Lib.hid (Afa HV.out t.nxt.length rfl);clear hEd hFd hYd;go_wp2_with (fail);go_loopw [7,8] (fun v vi W=>∃ (i:Nat) (l:List Nat) (Wd:Nat→List UInt8) (F:List (Option Nat)) (Y:List UInt8) (g c:Nat),i≤l.length∧vi=.int .i64 i∧v=.slice (some ⟨g,0,none⟩) l.length c∧Ext w1 W∧g5<W.heap.size∧
     W.ownsRow gs 3 1 (.slice (some ⟨gs,0,none⟩) t.nxt.length t.nxt.length) t.nxt.length (F.map ov)∧W.ownsRow g5 5 1 (.slice (some ⟨g5,0,none⟩) t.nxt.length t.nxt.length) t.nxt.length (Y.map bv)∧
     OwnI W (g5+1) v l∧Hid (FB t i 0 l Wd F Y))
    (fun _ vi _=>t.nxt.length-(intOf vi).toNat)
   case atStart=>exact ⟨0,[0],fun _=>[],_,_,w4.heap.size,1,by omega,rfl,rfl,hE5,by rw [World.size_alloc];omega,hF5,hY5,hl5,HS⟩
   case round=>
    clear hE5 hF5 hY5 hl5 HS hszd;obtain ⟨i,l,Wd,F,Y,g,c,hil,rfl,rfl,hE,hsz,hF,hY,hI,HF⟩:=hrel;have hln:=HF.out.len_le;have HlF:=Lib.hid HF.out.lenF;have HlY:=Lib.hid HF.out.lenY;by_cases hlt:i<l.length
    ·have cl:=An 0 hI rfl i hlt;have hsn:=HF.out.lt _ (C0 l i 0 hlt);obtain ⟨s,hsd⟩:∃ s,l.getD i 0=s:=⟨_,rfl⟩;rw [hsd] at cl hsn;have HSD:=Lib.hid hsd;clear hsd;have k8:=HK8.out wr hE;have ka:=(hE0.trans hE).cell (HACC.out s hsn);obtain ⟨bo,hbo⟩:∃ b,t.ok s=b:=⟨_,rfl⟩;rw [hbo] at ka;have HBO:=Lib.hid hbo;clear hbo;cases bo
     ·obtain ⟨br,or',cr,hrc,hrr⟩:=HR.out s hsn;have HRR:=Lib.hid hrr;have HRC:=Lib.hid hrc;clear hrc hrr;have hok:t.ok (l.getD i 0)=false:=by rw [HSD.out];exact HBO.out
      have hgs1:w1.heap.size≤gs:=Nat.le_of_eq HGS.out;have hgs5:gs<g5:=hs2;go_upto_region 21 with (fail)
      clear cl k8 ka;go_loopw [7,63] (fun v vb W=>∃ (b:Nat) (l':List Nat) (Wd':Nat→List UInt8) (F':List (Option Nat)) (Y':List UInt8) (g' c':Nat),b≤256∧vb=.int .i64 b∧v=.slice (some ⟨g',0,none⟩) l'.length c'∧Ext w1 W∧g5<W.heap.size∧
        W.ownsRow gs 3 1 (.slice (some ⟨gs,0,none⟩) t.nxt.length t.nxt.length) t.nxt.length (F'.map ov)∧W.ownsRow g5 5 1 (.slice (some ⟨g5,0,none⟩) t.nxt.length t.nxt.length) t.nxt.length (Y'.map bv)∧
        OwnI W (g5+1) v l'∧Hid (FB t i b l' Wd' F' Y')∧Hid (i<l'.length∧l'.getD i 0=s))
       (fun _ vb _=>256-(intOf vb).toNat)
      case atStart=>exact ⟨0,l,Wd,F,Y,g,c,by omega,rfl,rfl,hE,hsz,hF,hY,hI,HF,Lib.hid ⟨hlt,HSD.out⟩⟩
      case round=>
       clear hE hsz hF hY hI HlF HlY;obtain ⟨b,l',Wd',F',Y',g',c',hb,rfl,rfl,hE,hsz,hF,hY,hI,HF',HK'⟩:=hrel;have hln':=HF'.out.len_le;have HlF:=Lib.hid HF'.out.lenF;have HlY:=Lib.hid HF'.out.lenY;by_cases hb2:b<256
       ·have hcx:=HV.out.cell_lt b hb2;have cb:=Bh (HKC.out wr hE b hb2);have k7:=Bh (HK7.out wr hE);have cr1:=Bh ((hE0.trans hE).cell HRC.out);have cr2:=Bh ((hE0.trans hE).cell (HRR.out _ hcx));have hxs:t.ent2 s (t.cell b)=t.stp s b:=rfl;have hxn:=HV.out.stp_lt hsn hb2;rw [hxs] at cr2;obtain ⟨x,hxd⟩:∃ x,t.stp s b=x:=⟨_,rfl⟩;rw [hxd] at cr2 hxn;have HXD:=Lib.hid hxd;clear hxd hxs;generalize t.cell b=cx at *;have hbi:(b:Int)<256:=by omega
        generalize htc:t.cells=mx at *;go_upto_region 23 with (fail)
        refine Ew (by kernel_rfl) (by kernel_rfl) ?_;iterate 12 (with_reducible refine wpQuiet_step (fun K hK=>?_);go_simp;(refine hK _ ?_;clear hK K))
        refine wpQuiet_nil ?_;rintro _ ⟨e,rfl⟩;clear cb k7 cr1 cr2;have hE:=hE.trans e.ext;have hF:=Ah hF e.ext;have hY:=Ah hY e.ext;have hI:=Ah hI e.ext;have hsz:=Nat.lt_of_lt_of_le hsz e.ext.size;generalize e.W=w5 at *;obtain ⟨fo,hfo⟩:∃ o,F'.getD x none=o:=⟨_,rfl⟩;have co:=An none hF HlF.out.symm x (by rw [HlF.out];exact hxn);rw [hfo] at co;cases fo with
        | some p=>
         have HN:=Lib.hid (Afc HF'.out HK'.out.1 (by rw [HK'.out.2,HXD.out];exact hxn) (by rw [HK'.out.2,HXD.out,hfo];simp));replace co:w5.cell? ⟨gs,x,none⟩=some (.int .i64 p):=co;have hp0:¬ ((p:Int)<0):=by omega
         clear hfo;go_wp2;go_roundw
         case rel=>exact ⟨b+1,l',Wd',F',Y',g',c',by omega,by go_num,rfl,hE,hsz,hF,hY,hI,HN,HK'⟩
         case measure=>simp [intOf];omega
        | none=>
         have HN:=Lib.hid (Aff HV.out HF'.out HK'.out.1 hb2 (by rw [HK'.out.2,HXD.out];exact hfo));rw [HK'.out.2,HXD.out] at HN;replace co:w5.cell? ⟨gs,x,none⟩=some (.int .i64 (-1)):=co;have frF:=hF.frozenAt x;obtain ⟨hF6,hgr6⟩:=Av hF x (some s);rw [show ov (some s)=.int .i64 (s:Int) from rfl] at hF6 hgr6;have hE6:=hE.grown hgr6 (fun k e=>by cases e;exact hgs1);have hY6:=hY.kept hgr6 (Ag hY hF (by decide));have hI6:=hI.kept hgr6 (Am hI (by omega));have hsz6:=Nat.lt_of_lt_of_le hsz hgr6.size;have cy6:=An 0 hY6 HlY.out.symm x (by rw [HlY.out];exact hxn);have frY:=hY6.frozenAt x;obtain ⟨hY7,hgr7⟩:=Av hY6 x (UInt8.ofNat b);have hE7:=hE6.grown hgr7 (fun k e=>by cases e;omega);have hF7:=hF6.kept hgr7 (Ag hF6 hY6 (by decide));have hI7:=hI6.kept hgr7 (Am hI6 (by omega));have hsz7:=Nat.lt_of_lt_of_le hsz6 hgr7.size;have hwb:IntKind.u8.wrap (b:Int)=(b:Int):=IntWalk.u8_in _ ⟨by omega,by omega⟩;have hbb:bv (UInt8.ofNat b)=.int .u8 (b:Int):=by rw [bv,u8n b hb2]
         rw [hbb] at hY7 hgr7 hE7 hF7 hI7 hsz7;clear hfo hgr6 hgr7 hF hY hI hE hsz hE6 hF6 hI6 hsz6;go_upto_region 26 with (fail)
         obtain ⟨w7,hw7⟩:∃ W,(w5.setCell ⟨gs,x,none⟩ (.int .i64 (s:Int))).setCell ⟨g5,x,none⟩ (.int .u8 (b:Int))=W:=⟨_,rfl⟩;simp only [hw7] at *;clear hw7 co frF cy6 frY hY6 hwb hbb;have hgs7:=hE7.size;go_wp2_with (at_builtin;refine wpList_append_lies _ rfl _ _ 68 rfl (g5+1) 3 i0 (.int .i64 0) 1 8 Tryz.underlying68 hi hz0 hz1 hz2 rfl (by decide) _ _ _ rfl (hI7.alloc _) _ 1 1 [iv x] rfl rfl (cell_one_new _ _ _) (by simp [Value.oneCell']) (by decide) (by unfold maxLen;omega) (by omega) (by simp;omega) _ rfl ?_);intro g8 c8 w8 hI8 hgr8 _ _;have hb8:=fun k (hk:(Value.slice (some ⟨g',0,none⟩) l'.length c').ownBlock=some k)=>(hI7.lt k hk).1
         have hF8:=(hF7.alloc (.cells #[iv x] 3)).kept hgr8 (.inr fun e=>by have:=hb8 gs e.symm;omega);have hY8:=(hY7.alloc (.cells #[iv x] 3)).kept hgr8 (.inr fun e=>by have:=hb8 g5 e.symm;omega);have hE8:=(hE7.alloc (.cells #[iv x] 3)).grown hgr8 (fun k e=>by have:=hb8 k e;omega);have hsz8:g5<w8.heap.size:=by have:=hgr8.size;rw [World.size_alloc] at this;omega
         clear hgr8 hI7 hF7 hY7;go_wp2;go_roundw
         case rel=>
          refine ⟨b+1,l'++[x],_,_,_,g8,c8,by omega,by go_num,by rw [List.length_append];rfl,hE8,hsz8,hF8,hY8,?_,HN,Lib.hid ⟨by rw [List.length_append];have:=HK'.out.1;omega,by rw [Bk _ _ _ _ HK'.out.1];exact HK'.out.2⟩⟩;show World.ownsRow _ _ _ _ _ _ _;rw [List.length_append,List.map_append];exact hI8
         case measure=>simp [intOf];omega
       ·obtain rfl:b=256:=by omega
        have e256:((256:Nat):Int)=256:=rfl;simp only [e256];clear e256;have HN:=Lib.hid (Afe HF'.out HK'.out.1 (by rw [HK'.out.2];exact HBO.out));go_wp2;go_roundw
        case rel=>exact ⟨i+1,l',Wd',F',Y',g',c',by have:=HK'.out.1;omega,by go_num,rfl,hE,hsz,hF,hY,hI,HN⟩
        case measure=>simp [intOf];omega
     ·go_upto_region 15 with (fail)
      clear cl k8 ka;go_wp2_with (fail);have hE6:=(Ext.refl wr).alloc (.cells #[] 5);have hsn0:Wd s++[]=Wd s:=List.append_nil _;have hsl:=C0 l i 0 hlt;rw [HSD.out] at hsl;have hwl:(Wd s).length≤65536:=by
       have:=Tq HF.out i i (Nat.le_refl _) hlt;rw [HSD.out] at this;omega
      go_loopw [9,10] (fun v9 v10 W=>∃ (x:Nat) (suf:List UInt8) (g' c':Nat),v9=.int .i64 x∧v10=.slice (some ⟨g',0,none⟩) suf.length c'∧(∀ k,k<suf.length→W.cell? ⟨g',k,none⟩=some (bv (suf.getD k 0)))∧g'<W.heap.size∧Ext wr W∧x∈l∧Hid (Wd x++suf=Wd s))
       (fun v9 _ _=>(Wd (intOf v9).toNat).length)
      case atStart=>exact ⟨s,[],wr.heap.size,0,rfl,rfl,fun k hk=>by simp at hk,by rw [World.size_alloc];omega,hE6,hsl,Lib.hid hsn0⟩
      case round=>
       clear hE6 hsn0 hsl;obtain ⟨wl,hwl'⟩:∃ W,W=wr:=⟨_,rfl⟩;subst hwl';obtain ⟨x,suf,g',c',rfl,rfl,hcs,hgs',hEx,hxl,HX⟩:=hrel;have hxn:=HF.out.lt x hxl;by_cases hx0:x=0
       ·subst hx0;have hsu:suf=Wd s:=by have:=HX.out;rw [HF.out.w0] at this;simpa using this
        have hBy:By wl (.slice (some ⟨g',0,none⟩) suf.length c') suf:=by
         refine ⟨by rw [hsu];omega,?_⟩;rcases Nat.eq_zero_or_pos suf.length with h0|h0
         ·exact .inl ⟨h0,_,_,by rw [h0]⟩
         ·exact .inr ⟨h0,g',0,c',rfl,hgs',fun k hk=>by rw [Nat.zero_add];exact hcs k (by omega)⟩
        have HB:=Lib.hid hBy;have hok:=Afb HF.out hlt (by rw [HSD.out];exact HBO.out);rw [HSD.out,← hsu] at hok;have HOK:=Lib.hid hok;clear hBy hok hsu hcs;go_wp2;go_ret2;exact ⟨.inl ⟨suf,_,rfl,HB.out,HOK.out.1,HOK.out.2⟩,(hE0.trans hE).trans hEx⟩
       ·have hsx:=(HF.out.seen x hxn).2 hxl;obtain ⟨p,hp⟩:=Option.isSome_iff_exists.1 hsx;obtain ⟨hpl,hw⟩:=HF.out.from_ x p hp hx0;have cY:=An 0 (Ah hY hEx) HlY.out.symm x (by rw [HlY.out];exact hxn);have cF:=An none (Ah hF hEx) HlF.out.symm x (by rw [HlF.out];exact hxn);rw [hp] at cF;obtain ⟨y,hy⟩:∃ y,Y.getD x 0=y:=⟨_,rfl⟩;rw [hy] at cY hw;have hX':Wd p++(y::suf)=Wd s:=by rw [← HX.out,hw];simp
        have hsl':suf.length+1≤65536:=by
         have:=congrArg List.length hX';simp at this;omega
        have HX':=Lib.hid hX';have hwx:(Wd x).length=(Wd p).length+1:=by rw [hw];simp
        have cF':wl.cell? ⟨gs,x,none⟩=some (.int .i64 p):=cF;have HCF:=Lib.hid (fun (W:World) (hW:Ext wl W)=>hW.cell cF');have hpx:=hpl;clear hy hp hw cF hX' hsx cF';rcases suf with _|⟨z,suf⟩
        ·have hal:=Ab wl (.cells #[bv y] 5);have hca:=(cell_of_row (wl.alloc (.cells #[bv y] 5)) wl.heap.size 0 _ _ _ hal).trans (show (#[bv y]:Array Value)[0]? = some (bv y) from rfl);have hE7:=hEx.alloc (.cells #[bv y] 5);have c4:=HCF.out _ ((Ext.refl wl).alloc (.cells #[bv y] 5));go_wp2_with (at_builtin;refine V7 rfl _ _ 22 rfl 5 j0 Tryz.underlying22 hj _ _ _ (by omega) rfl _ _ rfl ?_);go_roundw
         case rel=>exact ⟨p,[y],wl.heap.size,1,rfl,rfl,fun k hk=>by simp at hk;subst hk;exact hca,by rw [World.size_alloc];omega,hE7,hpx,HX'⟩
         case measure=>simp [intOf];omega
        ·have hszx:=hEx.size;have hlit:=World.ownsRow_lit (base:=wl.heap.size) (e:=5) (size:=1) wl #[bv y] 1 (Nat.le_refl _) (by unfold maxLen;omega) rfl;have hE7:=(Ext.refl wl).alloc (.cells #[bv y] 5);have hnews:=Agr (fun k hk=>hE7.cell (hcs k hk));have HNW:=Lib.hid hnews;have hgz:g'<(wl.alloc (.cells #[bv y] 5)).heap.size:=by rw [World.size_alloc];omega
         clear hnews;go_wp2_with (at_builtin;refine wpList_append_lies _ rfl _ _ 22 rfl wl.heap.size 5 j0 (.int .u8 0) 1 1 Tryz.underlying22 hj hy0 hy1 hy2 rfl (by decide) _ 1 [bv y] rfl hlit ⟨g',0,none⟩ (suf.length+1) _ ((z::suf).map bv) rfl (by simp) HNW.out (by simp [Value.oneCell']) (by omega) (by unfold maxLen;simp at hsl';omega) (by simp at hsl';omega) (by rw [World.size_alloc];omega) _ rfl ?_);intro g7 c7 w7 hI7 hgr7 _ hg7;have hI7':w7.ownsRow wl.heap.size 5 1 (.slice (some ⟨g7,0,none⟩) (1+(suf.length+1)) c7) (1+(suf.length+1)) ((y::z::suf).map bv):=hI7;have hc7:=fun k (hk:k<(y::z::suf).length)=>An 0 hI7' (by simp;omega) k hk
         have hE8:Ext wr w7:=(hEx.alloc (.cells #[bv y] 5)).grown hgr7 (fun k e=>by have:wl.heap.size=k:=Option.some.inj e;omega);have c4:=HCF.out w7 (hE7.grown hgr7 (fun k e=>by have:wl.heap.size=k:=Option.some.inj e;omega));clear hI7 hgr7 hlit hI7';go_wp2;go_roundw
         case rel=>exact ⟨p,y::z::suf,g7,c7,rfl,by simp;omega,hc7,hg7,hE8,hpx,HX'⟩
         case measure=>simp [intOf];omega
    ·obtain rfl:i=l.length:=by omega
     have HN:=Lib.hid (Afd HF.out (Nat.le_refl _));go_wp2;go_ret2;exact ⟨.inr ⟨rfl,HN.out⟩,hE0.trans hE⟩
def ldA {w:World} {g:Nat} {V:Array Value} (h:w.heap[g]? = some (.cells V 30 (0,0))) (hi:(Tryz.prog.info? 30).map (·.size)=some V.size):Sc Tryz.prog w:=
 .load 30 g V 30 (0,0) _ (fun _ hE=>hE.heap h) Tryz.underlying30 rfl hi
def Gc {P:Program} {w:World} (f:FuncId) (he:Enters P f) (args:List Value) (v:Value) (h:∀ W,Ext w W→Calls P f args.toArray W fun e w'=>e=.returned v∧Ext W w'):Sc P w:=
 .call f he (args.map AV.c) (.c v) (AV.mono_c v) fun W vs hE hh=>by
  rw [Is hh];exact (h W hE).mono fun e w' ⟨h1,h2⟩=>⟨v,h1,rfl,h2⟩
theorem I1:Enters Tryz.prog 29:=enters_of Tryz.func29 (by kernel_rfl) rfl
theorem LeastF.ext {L:List UInt8→Bool} {W W':World} {e:Ending} (h:LeastF L W e) (hE:Ext W W'):LeastF L W' e:=by
 rcases h with ⟨u,v,h1,h2,h3,h4⟩|h
 ·exact .inl ⟨u,v,h1,h2.ext hE,h3,h4⟩
 ·exact .inr h
theorem LeastF.congr {L M:List UInt8→Bool} {W:World} {e:Ending} (h:LeastF L W e) (hLM:∀ u,L u=M u):LeastF M W e:=by
 rw [show M=L from funext fun u=>(hLM u).symm];exact h
theorem LeastF.form {L:List UInt8→Bool} {W:World} {e:Ending} (h:LeastF L W e):∃ a n c b,e=.returned (.tuple #[.slice a n c,.bool b]):=by
 rcases h with ⟨u,v,h1,h2,_⟩|⟨h,_⟩
 ·obtain ⟨a,c,rfl⟩:=h2.len;exact ⟨_,_,_,_,h1⟩
 ·exact ⟨_,_,_,_,h⟩
set_option maxHeartbeats 1000000 in
theorem Adg (a:Dfa) (ha:Val a) (hna:a.nxt.length≤64) (va:Value) (w:World) (hT:Tab w) (hsz:0<w.heap.size) (hva:IsD w va a) :
  Calls Tryz.prog 40 #[va] w fun e w'=>LeastF a.has w' e∧Ext w w':=by
 have HDa:=Lib.hid hva;obtain ⟨ac,lc,cc,an,cn,aa,la,ca,rfl⟩:=hva.agg;have f47a:=fun W (hW:Ext w W)=>Lib.hid (Dq a ha hna _ W (HDa.out.ext hW))
 have f68a:=fun W (hW:Ext w W)=>Lib.hid (Gk a ha _ W (hT.below hW.below hsz) (Nat.lt_of_lt_of_le hsz hW.size) (HDa.out.ext hW))
 obtain ⟨Va,hVa⟩:∃ X,dA (.slice ac lc cc) (.slice an a.nxt.length cn) (.slice aa la ca)=X:=⟨_,rfl⟩;have hiVa:(Tryz.prog.info? 30).map (·.size)=some Va.size:=by rw [← hVa];exact Ad
 have HTv:=Lib.hid (Bf ha);rw [hVa] at f47a f68a HDa;rw [hVa];have hE0:=(Ext.refl w).alloc (.cells Va 30);have H1:=Ab w (.cells Va 30);clear hva ha hT hVa;go_enter Tryz.func40,Tryz.ntmps40;go_upto_region 1 with (fail)
 obtain ⟨w1,hw1⟩:∃ W,w.alloc (.cells Va 30)=W:=⟨_,rfl⟩;rw [hw1] at hE0 H1;simp only [hw1];clear hw1;have HB1:=Lib.hid H1;clear H1;go_upto_region 3 with (first
  | (refine wpList_load_row rfl 30 (.tmp 1) rfl _ rfl _ _ _ _ HB1.out Tryz.underlying30 rfl hiVa ?_)
  | (go_at_call 47;(with_reducible refine (f47a _ hE0).out.mono ?_);rintro e w2 ⟨rfl,hE2⟩;have hE3:=hE0.trans hE2;have HB1:=Lib.hid (hE2.heap HB1.out)))
 go_wp2_with (first
  | (refine wpList_load_row rfl 30 (.tmp 1) rfl _ rfl _ _ _ _ HB1.out Tryz.underlying30 rfl hiVa ?_)
  | (go_at_call 68;(with_reducible refine (f68a _ hE3).out.mono ?_);rintro e w3 ⟨A,rfl,hA,hE4⟩;have hL:=Lib.hid (Ww (Ae a) HTv.out (show a.nxt.length≤65536 by omega) A w3 hA);have hE5:=hE3.trans hE4)
  | (go_at_call 87;(with_reducible refine hL.out.mono ?_);rintro e w4 ⟨hr,hE6⟩;obtain ⟨ra,rn,rc,rb,rfl⟩:=hr.form;have HR:=Lib.hid hr;have HE6:=Lib.hid (hE5.trans hE6);clear hr hE6))
 go_ret2;exact ⟨HR.out.congr (fun u=>Da a u),HE6.out⟩
theorem Ae8 (n:Nat) (k:Int) (hk:k=n) (hn:n≤1000) (l:List UInt8) (v:Value) (w:World) (hl:ByW w v l) :
  Calls Tryz.prog 27 #[v,.int .i64 k] w fun e w'=>∃ (x:List UInt8) (g c:Nat),e=.returned (.slice (some ⟨g,0,none⟩) x.length c)∧x.length≤n∧By w' (.slice (some ⟨g,0,none⟩) x.length c) x∧x.length≤c∧Ext w w':=by
 subst hk;exact Ae9 l v n hn w hl
theorem Ej {W:World} {ρ:Operand→Value} {x y:Operand} {u v:Value} (h:D3 W [.c u,.c v] [ρ x,ρ y]):ρ x=u∧ρ y=v:=by
 have:=Is (us:=[u,v]) h;injection this with h1 h2
 injection h2 with h2 _
 exact ⟨h1,h2⟩
theorem Aba {W:World} {ρ:Operand→Value} {x:Operand} {u:Value} (h:D3 W [.c u] [ρ x]):ρ x=u:=by
 have:=Is (us:=[u]) h;injection this
theorem Adw (ρ:Operand→Value) (o:Oper) (W:World) (x y:Operand) (b n c k:Nat) (hk:k<n) (ho:o.op=.indexAddr 38 x y) (hx:ρ x=.slice (some ⟨b,0,none⟩) n c) (hy:ρ y=.int .i64 k):(execOp ρ o).run Tryz.prog W=.ok (.value (.pointer (some ⟨b,k,none⟩))) W:=by
 have hI:(k:Int)<(n:Int):=by omega
 unfold execOp;simp only [ho,hx,hy];go_simp
def F4 {w:World} (x y:Operand) (b n c k:Nat) (hk:k<n):Sc Tryz.prog w:=
 .gen (.indexAddr 38 x y) [.c (.slice (some ⟨b,0,none⟩) n c),.c (.int .i64 k)] (.c (.pointer (some ⟨b,k,none⟩))) (AV.mono_c _) fun ρ o W ho _ hh=>⟨_,Adw ρ o W x y b n c k hk ho (Ej hh).1 (Ej hh).2,rfl⟩
theorem Adh (ρ:Operand→Value) (o:Oper) (W:World) (x:Operand) (b k:Nat) (v:Value) (hc:W.cell? ⟨b,k,none⟩=some v) (ho:o.op=.load 22 x) (hx:ρ x=.pointer (some ⟨b,k,none⟩)):(execOp ρ o).run Tryz.prog W=.ok (.value v) W:=by
 unfold execOp;simp only [ho,hx];go_simp
def F3 {w:World} (x:Operand) (b k:Nat) (v:Value) (hc:∀ W,Ext w W→W.cell? ⟨b,k,none⟩=some v):Sc Tryz.prog w:=
 .gen (.load 22 x) [.c (.pointer (some ⟨b,k,none⟩))] (.c v) (AV.mono_c _) fun ρ o W ho hE hh=>⟨_,Adh ρ o W x b k v (hc W hE) ho (Aba hh),rfl⟩
theorem Aec (ρ:Operand→Value) (o:Oper) (W:World) (x y:Operand) (a b:Int) (ho:o.op=.binOp .gtr 3 x y 3) (hx:ρ x=.int .i64 a) (hy:ρ y=.int .i64 b):(execOp ρ o).run Tryz.prog W=.ok (.value (.bool (decide (b<a)))) W:=by
 unfold execOp;simp only [ho,hx,hy];go_simp
def F5 {w:World} (x y:Operand) (a b:Int) (r:Bool) (hr:decide (b<a)=r):Sc Tryz.prog w:=
 .gen (.binOp .gtr 3 x y 3) [.c (.int .i64 a),.c (.int .i64 b)] (.c (.bool r)) (AV.mono_c _) fun ρ o W ho _ hh=>⟨_,Aec ρ o W x y a b ho (Ej hh).1 (Ej hh).2,by rw [hr];rfl⟩
theorem Adb (ρ:Operand→Value) (o:Oper) (W:World) (x y:Operand) (a b:Int) (ho:o.op=.binOp .leq 3 x y 3) (hx:ρ x=.int .i64 a) (hy:ρ y=.int .i64 b):(execOp ρ o).run Tryz.prog W=.ok (.value (.bool (decide (a≤b)))) W:=by
 unfold execOp;simp only [ho,hx,hy];go_simp
def Adc {w:World} (x y:Operand) (a b:Int) (r:Bool) (hr:decide (a≤b)=r):Sc Tryz.prog w:=
 .gen (.binOp .leq 3 x y 3) [.c (.int .i64 a),.c (.int .i64 b)] (.c (.bool r)) (AV.mono_c _) fun ρ o W ho _ hh=>⟨_,Adb ρ o W x y a b ho (Ej hh).1 (Ej hh).2,by rw [hr];rfl⟩
theorem Afo (ρ:Operand→Value) (o:Oper) (W:World) (x y:Operand) (a b:Int) (ho:o.op=.binOp .eql 3 x y 3) (hx:ρ x=.int .i64 a) (hy:ρ y=.int .i64 b):(execOp ρ o).run Tryz.prog W=.ok (.value (.bool (decide (a=b)))) W:=by
 unfold execOp;simp only [ho,hx,hy];go_simp;rfl
def Oa {w:World} (x y:Operand) (a b:Int) (r:Bool) (hr:decide (a=b)=r):Sc Tryz.prog w:=
 .gen (.binOp .eql 3 x y 3) [.c (.int .i64 a),.c (.int .i64 b)] (.c (.bool r)) (AV.mono_c _) fun ρ o W ho _ hh=>⟨_,Afo ρ o W x y a b ho (Ej hh).1 (Ej hh).2,by rw [hr];rfl⟩
theorem Xg (ρ:Operand→Value) (o:Oper) (W:World) (x:Operand) (a:Nat) (h1:1≤a) (h2:a≤1152921504606846976) (ho:o.op=.binOp .sub 3 x (.const (.int .i64 1)) 3) (hx:ρ x=.int .i64 a) (hy:ρ (.const (.int .i64 1))=.int .i64 1):(execOp ρ o).run Tryz.prog W=.ok (.value (.int .i64 ((a-1:Nat):Int))) W:=by
 unfold execOp;simp only [ho,hx,hy];obtain ⟨b,rfl⟩:∃ b,a=b+1:=⟨a-1,by omega⟩;go_simp;exact IntWalk.i64_in _ ⟨by omega,by omega⟩
def Xh {w:World} (x:Operand) (a:Nat) (h1:1≤a) (h2:a≤1152921504606846976):Sc Tryz.prog w:=
 .gen (.binOp .sub 3 x (.const (.int .i64 1)) 3) [.c (.int .i64 a),.c (.int .i64 1)] (.c (.int .i64 ((a-1:Nat):Int))) (AV.mono_c _) fun ρ o W ho _ hh=>⟨_,Xg ρ o W x a h1 h2 ho (Ej hh).1 (Ej hh).2,rfl⟩
def Cm (N L s:Nat) (R:List (List Nat)):List (List Nat):=(R.zipIdx).map fun p=>if p.2<s then p.1.set L N else p.1
theorem D9 (N L s:Nat) (R:List (List Nat)):(Cm N L s R).length=R.length:=by simp [Cm]
theorem M3 (N L s:Nat) (R:List (List Nat)) (j:Nat) (hj:j<R.length):(Cm N L s R).getD j []=if j<s then (R.getD j []).set L N else R.getD j []:=by
 simp [Cm,List.getD_eq_getElem?_getD,hj]
theorem Aas (N L:Nat) (R:List (List Nat)):Cm N L 0 R=R:=by
 apply List.ext_getElem?;intro i;by_cases hi:i<R.length
 ·simp [Cm,hi]
 ·simp [Cm,hi]
theorem Aat (N L s:Nat) (R:List (List Nat)) (hs:s<R.length):Cm N L (s+1) R=(Cm N L s R).set s ((R.getD s []).set L N):=by
 apply List.ext_getElem?;intro i;rw [List.getElem?_set,D9];by_cases hi:i<R.length
 ·by_cases e:s=i
  ·subst e;simp [Cm,hi,List.getD_eq_getElem?_getD]
  ·rw [if_neg e];simp [Cm,hi];by_cases h:i<s
   ·rw [if_pos h,if_pos (by omega)]
   ·rw [if_neg h,if_neg (by omega)]
 ·have:s≠i:=by omega
  simp [Cm,hi,this]
def Ch (L N:Nat) (R:List (List Nat)) (Ac:List Bool):Dfa:=⟨Bu L 256,Cm N L N R++[List.replicate (L+1) N],Ac++[false]⟩
theorem M2 {L N:Nat} {R:List (List Nat)} {Ac:List Bool} (h:MadeOk N (L+1) N R Ac):MadeOk (N+1) (L+1) (N+1) (Ch L N R Ac).nxt (Ch L N R Ac).acc:=by
 obtain ⟨h1,h2,h3⟩:=h;refine ⟨by show (Cm N L N R++[List.replicate (L+1) N]).length=N+1;rw [List.length_append,D9,h1];rfl,by show (Ac++[false]).length=N+1;rw [List.length_append,h2];rfl,fun j hj=>?_⟩;show ((Cm N L N R++[List.replicate (L+1) N]).getD j []).length=L+1∧∀ k,k<L+1→((Cm N L N R++[List.replicate (L+1) N]).getD j []).getD k 0<N+1;by_cases hjn:j<N
 ·rw [List.getD_eq_getElem?_getD,List.getElem?_append_left (by rw [D9,h1];exact hjn),← List.getD_eq_getElem?_getD,M3 _ _ _ _ _ (by rw [h1];exact hjn),if_pos hjn];obtain ⟨g1,g2⟩:=h3 j hjn;refine ⟨by rw [List.length_set];exact g1,fun k hk=>?_⟩;rw [List.getD_eq_getElem?_getD,List.getElem?_set];by_cases e:L=k
  ·subst e;rw [if_pos rfl,if_pos (by rw [g1];exact hk)];exact Nat.lt_succ_self N
  ·rw [if_neg e,← List.getD_eq_getElem?_getD];have:=g2 k hk;omega
 ·obtain rfl:j=N:=by omega
  rw [List.getD_eq_getElem?_getD,List.getElem?_append_right (by rw [D9,h1];exact Nat.le_refl _),D9,h1];simp only [Nat.sub_self,List.getElem?_cons_zero,Option.getD_some,List.length_replicate,true_and];intro k hk;simp [List.getD_eq_getElem?_getD,List.getElem?_replicate,hk]
theorem M1 {L N:Nat} {R:List (List Nat)} {Ac:List Bool} (hL:L≤3) (h:MadeOk N (L+1) N R Ac):Val (Ch L N R Ac):=
 (M2 h).val (by omega) (Kj L (by omega)) (C3 _ _)
theorem Rg {L N:Nat} {R:List (List Nat)} {Ac:List Bool} (h:MadeOk N (L+1) N R Ac):(Ch L N R Ac).nxt.length=N+1:=(M2 h).1
theorem Acl (n x:Nat) (h:¬ (97≤x∧x<97+n)):lkL n x=n:=by unfold lkL;rw [if_neg h]
theorem Rf {L N:Nat} {R:List (List Nat)} {Ac:List Bool} (hL:L≤3) (h:MadeOk N (L+1) N R Ac) (s:Nat) (hs:s≤N) (x:UInt8) (hx:¬ (97≤x.toNat∧x.toNat<97+L)∨s=N):(Ch L N R Ac).stp s x.toNat=N:=by
 have hx8:=x.toNat_lt;have hp:=Kj L (by omega);obtain ⟨h1,h2,h3⟩:=h;show (((Cm N L N R++[List.replicate (L+1) N]).getD s [])).getD (Aj (Bu L 256) x.toNat) 0=N;have hc:Aj (Bu L 256) x.toNat=lkL L x.toNat:=Eq hp hx8 (by rw [C3];exact Gy _ _) (by rw [Sj _ _ _ (Gy _ _),F2 _ _ _ _ (Nat.le_refl _)];exact ⟨hx8,rfl⟩);rw [hc];by_cases hsn:s<N
 ·rcases hx with hx|hx
  ·rw [Acl _ _ hx,List.getD_eq_getElem?_getD (l:=_++_),List.getElem?_append_left (by rw [D9,h1];exact hsn),← List.getD_eq_getElem?_getD,M3 _ _ _ _ _ (by rw [h1];exact hsn),if_pos hsn,
    List.getD_eq_getElem?_getD,List.getElem?_set,if_pos rfl,if_pos (by rw [(h3 s hsn).1];omega)]
   rfl
  ·omega
 ·obtain rfl:s=N:=by omega
  rw [List.getD_eq_getElem?_getD (l:=_++_),List.getElem?_append_right (by rw [D9,h1];exact Nat.le_refl _),D9,h1];simp only [Nat.sub_self,List.getElem?_cons_zero,Option.getD_some];have:=Gy L x.toNat;simp [List.getD_eq_getElem?_getD,List.getElem?_replicate,this]
theorem Rh {L N:Nat} {R:List (List Nat)} {Ac:List Bool} (hL:L≤3) (h:MadeOk N (L+1) N R Ac):∀ w:List UInt8,(Ch L N R Ac).run N w=N
 | []=>rfl
 | x::w=>by
  show (Ch L N R Ac).run ((Ch L N R Ac).stp N x.toNat) w=N;rw [Rf hL h N (Nat.le_refl _) x (.inr rfl)];exact Rh hL h w
theorem Aar {L N:Nat} {R:List (List Nat)} {Ac:List Bool} (hL:L≤3) (h:MadeOk N (L+1) N R Ac) (u:List UInt8) (hu:(Ch L N R Ac).has u=true) (x:UInt8) (hx:x∈u):97≤x.toNat∧x.toNat<100:=by
 refine Classical.byContradiction fun hn=>?_
 obtain ⟨p,q,rfl⟩:=List.append_of_mem hx;have hv:=M1 hL h;have hrun:(Ch L N R Ac).run 0 p≤N:=by
  have:=hv.run_lt p hv.pos;rw [Rg h] at this;omega
 have:(Ch L N R Ac).run 0 (p++x::q)=N:=by
  rw [Bx];show (Ch L N R Ac).run ((Ch L N R Ac).stp ((Ch L N R Ac).run 0 p) x.toNat) q=N;rw [Rf hL h _ hrun x (.inl fun hh=>hn ⟨hh.1,by omega⟩)];exact Rh hL h q
 unfold Dfa.has at hu;rw [this] at hu;have e:(Ch L N R Ac).ok N=false:=by
  show (Ac++[false]).getD N false=false;rw [List.getD_eq_getElem?_getD,List.getElem?_append_right (by rw [h.2.1];exact Nat.le_refl _),h.2.1];simp
 rw [e] at hu;cases hu
theorem Oh:∀ (n:Nat) (L:List UInt8→Bool),(∀ w,L w=true→∀ x∈w,97≤x.toNat∧x.toNat<100)→Ba L n≤3 ^ n
 | 0,L,_=>by
  unfold Ba Bb;split<;>simp
 | n+1,L,h=>by
  have key:∀ b,b≤256→(Dv L n b).length≤min (b-97) 3*3 ^ n:=fun b=>by
   induction b with
   | zero=>intro _;simp [Aef]
   | succ b ih=>
    intro hb;have ih:=ih (by omega);rw [Kr,List.length_append,List.length_map];by_cases hl:97≤b∧b<100
    ·have h1:=Oh n (fun w=>L (UInt8.ofNat b::w)) fun w hw x hx=>h _ hw x (List.mem_cons_of_mem _ hx)
     have e:min (b+1-97) 3=min (b-97) 3+1:=by omega
     rw [e,Nat.add_mul,Nat.one_mul];exact Nat.add_le_add ih h1
    ·have h0:Bb (fun w=>L (UInt8.ofNat b::w)) n=[]:=by
      apply List.eq_nil_iff_forall_not_mem.2;intro w hw;have h2:=(Dp _ _ _).1 hw;have h3:=h _ h2.2 (UInt8.ofNat b) List.mem_cons_self;rw [u8n b (by omega)] at h3;exact hl h3
     rw [h0];have e:min (b-97) 3≤min (b+1-97) 3:=by omega
     exact Nat.le_trans ih (Nat.mul_le_mul_right _ e)
  have:=key 256 (Nat.le_refl _);rw [Aeh] at this;unfold Ba;rw [Nat.pow_succ];have e:min (256-97) 3=3:=by decide
  rw [e] at this;omega
theorem K3 (L:List UInt8→Bool) (h:∀ w,L w=true→∀ x∈w,97≤x.toNat∧x.toNat<100) (n:Nat) (hn:n≤6):Cw L n≤4096:=by
 refine Nat.le_trans (Ud L hn) ?_;have c:=fun k=>Oh k L h
 have c0:=c 0;have c1:=c 1;have c2:=c 2;have c3:=c 3;have c4:=c 4;have c5:=c 5
 simp only [Cw];omega
end Go.Proofs.YtaiogolidlamiaaGreatDoor
