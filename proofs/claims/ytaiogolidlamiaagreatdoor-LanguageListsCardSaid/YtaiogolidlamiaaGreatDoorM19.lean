import Derived.Test.YtaiogolidlamiaaGreatDoorM09
import Derived.Deep.MidRow
import Derived.Test.YtaiogolidlamiaaGreatDoorM18
set_option linter.unusedVariables false
set_option linter.unusedSimpArgs false
namespace Go.Proofs.YtaiogolidlamiaaGreatDoor
set_option maxRecDepth 100000
open Go.RowKit Go.Shelf
theorem U7 (S q:Nat) (hS:S<18446744073709551616):(bits BinOp.and IntKind.u64 ((S:Int) / 2 ^ q) 1==1)=S.testBit q:=by
 have e3:((S:Nat):Int) / 2 ^ q=((S / 2 ^ q:Nat):Int):=by rw [Int.natCast_ediv];simp
 have hlt:S / 2 ^ q<18446744073709551616:=Nat.lt_of_le_of_lt (Nat.div_le_self _ _) hS;rw [e3,show (1:Int)=((1:Nat):Int) from rfl,u64_and_nat _ _ hlt (by omega),Nat.testBit_eq_decide_div_mod_eq,Nat.and_one_is_mod];generalize S / 2 ^ q=m;rw [Bool.eq_iff_iff];simp;omega
theorem X4 (t:Tbl) (S:Nat) (h:∀ q,q<t.nxt.length→(t.ok q&&S.testBit q)=false):Cb t S=false:=by
 rw [← Bool.not_eq_true,Ib];rintro ⟨q,hq,h1,h2⟩;have:=h q hq;rw [h1,h2] at this;cases this
theorem X5 (t:Tbl) (S q:Nat) (hq:q<t.nxt.length) (h:(t.ok q&&S.testBit q)=true):Cb t S=true:=by
 rw [Bool.and_eq_true] at h;exact (Ib t S).2 ⟨q,hq,h.1,h.2⟩
set_option maxHeartbeats 2000000 in
theorem L8 (t:Tbl) (hv:TVal t) (hn:t.nxt.length≤64) (A:Array Value) (S:Nat) (hS:S<18446744073709551616) (w:World) (h:IsT w A t) :
  Calls Tryz.prog 76 #[.agg A,.agg #[.int .u64 (S:Int)]] w fun e w'=>e=.returned (.bool (Cb t S))∧Ext w w':=by
 obtain ⟨bn,on,cn,ba,oa,ca,hAs,hAo,_,_,_,hA8,_,hacc⟩:=h.opened hv;have hn0:=hv.pos;have HAcc:=Lib.hid hacc;have hE0:=((Ext.refl w).alloc (.cells A 108)).alloc (.cells #[.int .u64 (S:Int)] 114);have H0:=Af (Ab w (.cells A 108)) (.cells #[.int .u64 (S:Int)] 114);have H1:=heap_alloc2_new w (.cells A 108) (.cells #[.int .u64 (S:Int)] 114);clear hacc hv h;go_enter Tryz.func76,Tryz.ntmps76;go_upto_region 1 with (fail)
 generalize (w.alloc (.cells A 108)).alloc (.cells #[.int .u64 (S:Int)] 114)=w1 at *;have k8:=(cell_of_row w1 w.heap.size 258 _ _ _ H0).trans hA8;have HK:=Lib.hid (fun (W:World) (hW:Ext w1 W)=>(cell_of_row W (w.heap.size+1) 0 _ _ _ (hW.heap H1)).trans rfl);clear H0 H1 hA8 hAo hAs;go_wp2_with (fail);clear k8;go_loopw [10] (fun i W=>∃ k:Nat,k≤t.nxt.length∧i=.int .i64 k∧Ext w1 W∧Hid (∀ q,q<k→(t.ok q&&S.testBit q)=false)) (fun i _=>t.nxt.length-(intOf i).toNat)
 case atStart=>exact ⟨0,by omega,rfl,Ext.refl w1,Lib.hid (fun q hq=>by omega)⟩
 case round=>
  obtain ⟨k,hk,rfl,hE,hall⟩:=hrel;by_cases hlt:k<t.nxt.length
  ·have ca:=(hE0.trans hE).cell (HAcc.out k hlt);have cs:=HK.out wr hE;have hb:=U7 S k hS;have HH:=Lib.hid (X5 t S k hlt);have hall':Hid ((t.ok k&&S.testBit k)=false→∀ q,q<k+1→(t.ok q&&S.testBit q)=false):=Lib.hid fun h0 q hq=>by
    by_cases e:q=k
    ·subst e;exact h0
    ·exact hall.out q (by omega)
   generalize t.ok k=b1 at *;generalize S.testBit k=b2 at *;cases b1
   ·go_wp2;go_roundw
    case rel=>exact ⟨k+1,by omega,by go_num,hE,Lib.hid (hall'.out rfl)⟩
    case measure=>simp [intOf];omega
   ·cases b2
    ·go_wp2;go_roundw
     case rel=>exact ⟨k+1,by omega,by go_num,hE,Lib.hid (hall'.out rfl)⟩
     case measure=>simp [intOf];omega
    ·have HF:=Lib.hid (HH.out rfl);go_wp2;go_ret;exact ⟨Gr HF.out.symm,hE0.trans hE⟩
  ·obtain rfl:k=t.nxt.length:=by omega
   have HF:=Lib.hid (X4 t S hall.out);go_wp2;go_ret;exact ⟨Gr HF.out.symm,hE0.trans hE⟩
theorem Gj {t:Tbl} (hv:TVal t) (hn:t.nxt.length≤64) (S c:Nat) (hc:c<256):∀ n,n≤t.nxt.length→Ap t S c n<18446744073709551616
 | 0,_=>by simp [Ap]
 | n+1,h=>by
  have ih:=Gj hv hn S c hc n (by omega);simp only [Ap];split
  ·have h1:=hv.stp_lt (s:=n) (by omega) hc;have h2:2 ^ t.stp n c<2 ^ 64:=Nat.pow_lt_pow_right (by omega) (by omega);have:=Nat.or_lt_two_pow (x:=Ap t S c n) (y:=2 ^ t.stp n c) (n:=64) ih h2;exact this
  ·exact ih
theorem Rm (x:Int):(#[Value.int .u64 x]).all (·.oneCell')=true:=by simp [Value.oneCell']
theorem Aaz (x r:Nat) (hx:x<18446744073709551616) (hr:r<64):bits BinOp.or IntKind.u64 (x:Int) (IntKind.u64.wrap (2 ^ r))=((x ||| 2 ^ r:Nat):Int):=by
 rw [Lt r hr,u64_or_nat _ _ hx (J5 r hr)]
set_option maxHeartbeats 2000000 in
theorem Pr (t:Tbl) (hv:TVal t) (hn:t.nxt.length≤64) (A:Array Value) (S:Nat) (hS:S<18446744073709551616) (c:Nat) (hc:c<256) (w:World) (h:IsT w A t) :
  Calls Tryz.prog 73 #[.agg A,.agg #[.int .u64 (S:Int)],.int .i64 (c:Int)] w fun e w'=>e=.returned (.agg #[.int .u64 (Ap t S c t.nxt.length:Nat)])∧Ext w w':=by
 obtain ⟨bn,on,cn,ba,oa,ca,hAs,hAo,hAc,_,hA7,_,hR,_⟩:=h.opened hv;have hn0:=hv.pos;have HR:=Lib.hid hR;have HV:=Lib.hid hv;have hE0:=((((Ext.refl w).alloc (.cells A 108)).alloc (.cells #[.int .u64 (S:Int)] 114)).alloc (.cells #[.int .u64 0] 114)).alloc (.cells #[.int .u64 0] 114);have H0:=Af (Af (Af (Ab w (.cells A 108)) (.cells #[.int .u64 (S:Int)] 114)) (.cells #[.int .u64 0] 114)) (.cells #[.int .u64 0] 114);have H1:=Af (Af (heap_alloc2_new w (.cells A 108) (.cells #[.int .u64 (S:Int)] 114)) (.cells #[.int .u64 0] 114)) (.cells #[.int .u64 0] 114);have H2:=Af (Ab ((w.alloc (.cells A 108)).alloc (.cells #[.int .u64 (S:Int)] 114)) (.cells #[.int .u64 0] 114)) (.cells #[.int .u64 0] 114);have H3:=Ab (((w.alloc (.cells A 108)).alloc (.cells #[.int .u64 (S:Int)] 114)).alloc (.cells #[.int .u64 0] 114)) (.cells #[.int .u64 0] 114);rw [World.size_alloc,World.size_alloc] at H2;rw [World.size_alloc,World.size_alloc,World.size_alloc] at H3;clear hR hv h;go_enter Tryz.func73,Tryz.ntmps73;go_upto_region 2 with (fail)
 obtain ⟨w2,hw2⟩:∃ W,(((w.alloc (.cells A 108)).alloc (.cells #[.int .u64 (S:Int)] 114)).alloc (.cells #[.int .u64 0] 114)).alloc (.cells #[.int .u64 0] 114)=W:=⟨_,rfl⟩;simp only [hw2] at *;clear hw2;have HA7:=Lib.hid hA7;have HAC:=Lib.hid hAc;have k7:=(cell_of_row w2 w.heap.size 257 _ _ _ H0).trans hA7;have HH0:=Lib.hid H0;have HH1:=Lib.hid H1;have HH2:=Lib.hid H2;have HH3:=Lib.hid H3;clear H0 H1 H2 H3 hA7 hAc hAo hAs;go_wp2_with (fail);clear k7;go_loopw [12] (fun i W=>∃ k:Nat,k≤t.nxt.length∧i=.int .i64 k∧Ext w W∧W.heap[w.heap.size]? = some (.cells A 108 (0,0))∧W.heap[w.heap.size+1]? = some (.cells #[.int .u64 (S:Int)] 114 (0,0))∧
   W.heap[w.heap.size+1+1]? = some (.cells #[.int .u64 0] 114 (0,0))∧W.heap[w.heap.size+1+1+1]? = some (.cells #[.int .u64 (Ap t S c k:Nat)] 114 (0,0))) (fun i _=>t.nxt.length-(intOf i).toNat)
 case atStart=>exact ⟨0,by omega,rfl,hE0,HH0.out,HH1.out,HH2.out,HH3.out⟩
 case round=>
  obtain ⟨k,hk,rfl,hE,hB0,hB1,hB2,hB3⟩:=hrel;have HB0:=Lib.hid hB0;have HB1:=Lib.hid hB1;have HB2:=Lib.hid hB2;have HB3:=Lib.hid hB3;clear hB0 hB1 hB2 hB3;by_cases hlt:k<t.nxt.length
  ·have cS:=(cell_of_row wr (w.heap.size+1) 0 _ _ _ HB1.out).trans (show (#[Value.int .u64 (S:Int)])[0]? = some (.int .u64 (S:Int)) from rfl);have hb:=U7 S k hS;have HT:Hid (Ap t S c (k+1)=if S.testBit k then Ap t S c k ||| 2 ^ t.stp k c else Ap t S c k):=Lib.hid rfl;have htl:=Gj HV.out hn S c hc k (by omega);have hr64:t.stp k c<64:=by have:=HV.out.stp_lt hlt hc;omega
   generalize S.testBit k=b at *;cases b
   ·have hT:=HT.out;simp only [Bool.false_eq_true,if_false] at hT;have HT:=Lib.hid hT;clear hT;go_wp2;go_roundw
    case rel=>exact ⟨k+1,by omega,by go_num,hE,HB0.out,HB1.out,HB2.out,by rw [HT.out];exact HB3.out⟩
    case measure=>simp [intOf];omega
   ·have hT:=HT.out;simp only [if_true] at hT;have HT:=Lib.hid hT;have hcell:=HV.out.cell_lt c hc;obtain ⟨br,or',cr,hrc,hrr⟩:=HR.out k hlt;have r1:=Bh (hE.cell hrc);have r2:=Bh (hE.cell (hrr _ hcell));have k7:=Bh ((cell_of_row wr w.heap.size 257 _ _ _ HB0.out).trans HA7.out);have kc:=Bh ((cell_of_row wr w.heap.size c _ _ _ HB0.out).trans (HAC.out c hc));have ko:=Bh ((cell_of_row wr (w.heap.size+1+1+1) 0 _ _ _ HB3.out).trans (show (#[Value.int .u64 (Ap t S c k:Nat)])[0]? = some (.int .u64 (Ap t S c k:Nat)) from rfl));have hst:t.ent2 k (t.cell c)=t.stp k c:=rfl;rw [hst] at r2;have HO:=Lib.hid (Aaz (Ap t S c k) (t.stp k c) htl hr64);clear hst hrc hrr htl hT;have hci:(c:Int)<256:=by omega
    generalize Ap t S c k=x at *;generalize t.stp k c=r at *;generalize t.cell c=q at *;go_upto_region 6 with (fail)
    refine Ze 16 (by kernel_rfl) (by kernel_rfl) ?_;simp only [List.take_succ_cons,List.take_zero,List.drop_succ_cons,List.drop_zero];iterate 16 (with_reducible refine wpQuiet_step (fun K hK=>?_);go_simp;(refine hK _ ?_;clear hK K))
    refine wpQuiet_nil ?_;rintro _ ⟨e,rfl⟩;have HB0:=Lib.hid (e.ext.heap HB0.out);have HB1:=Lib.hid (e.ext.heap HB1.out);have HB2:=Lib.hid (e.ext.heap HB2.out);have HB3:=Lib.hid (e.ext.heap HB3.out);have hE':=hE.trans e.ext;have ko':=ko e;have fo:=frozen_of_row e.W (w.heap.size+1+1+1) 0 _ _ HB3.out;clear r1 r2 k7 kc ko cS;generalize e.W=w5 at *;go_wp2;go_roundw
    case rel=>
     rw [setCell_eq_setRow w5 _ _ _ _ _ _ HB3.out,HO.out];refine ⟨k+1,by omega,by go_num,hE'.setRow (by omega) _,Bq HB0.out (by omega) _,Bq HB1.out (by omega) _,Bq HB2.out (by omega) _,?_⟩;rw [HT.out];exact setRow_heap w5 _ _ _ _ _ HB3.out
    case measure=>simp [intOf];omega
  ·obtain rfl:k=t.nxt.length:=by omega
   have i114:(Tryz.prog.info? 114).map (·.size)=some 1:=by kernel_rfl
   go_wp2_with (first
    | (refine wpList_load_row rfl 114 (.tmp 7) rfl _ rfl _ _ _ _ HB3.out Tryz.underlying114 rfl i114 ?_)
    | (refine wpList_store_row rfl 114 (.tmp 6) (.tmp 38) rfl _ _ rfl rfl _ _ HB2.out i114 rfl (Rm _) ?_))
   refine bodyPost_ret (v:=.agg #[.int .u64 (Ap t S c t.nxt.length:Nat)]) (results_cell_row rfl _ _ _ _ _ _ _ rfl (setRow_heap wr _ _ #[.int .u64 (Ap t S c t.nxt.length:Nat)] 114 (0,0) HB2.out) Tryz.underlying114 rfl i114) rfl ?_;exact ⟨rfl,hE.setRow (by omega) _⟩
theorem U8 {σ τ:Type} {nx:σ→Nat→σ} {ny:τ→Nat→τ} (φ:σ→τ) (h:∀ s b,φ (nx s b)=ny (φ s) b) (w:List UInt8):∀ s,φ (Ar nx s w)=Ar ny (φ s) w:=by
 induction w with
 | nil=>exact fun s=>rfl
 | cons x w ih=>
  intro s;show φ (Ar nx (nx s x.toNat) w)=Ar ny (ny (φ s) x.toNat) w;rw [ih,h]
theorem R4 {σ τ:Type} {nx:σ→Nat→σ} {st:σ} (φ:σ→τ) (hi:∀ w w',φ (Ar nx st w)=φ (Ar nx st w')→Ar nx st w=Ar nx st w') (l:List σ) (hl:l.Nodup) (hr:∀ s,s∈l→∃ w,Ar nx st w=s):(l.map φ).Nodup:=by
 rw [List.nodup_iff_pairwise_ne,List.pairwise_map];refine List.Pairwise.imp_of_mem (fun {a b} ha hb hab e=>hab ?_) (List.nodup_iff_pairwise_ne.1 hl);obtain ⟨w,rfl⟩:=hr a ha;obtain ⟨w',rfl⟩:=hr b hb;exact hi w w' e
theorem Expl.conv {σ τ:Type} {c:Nat→Nat} {bs:List Nat} {st:σ} {nx:σ→Nat→σ} {ac:σ→Bool} {l:List σ} {t:Tbl} (h:Expl c bs st nx ac l t) (φ:σ→τ) {ny:τ→Nat→τ} {ad:τ→Bool} (hn:∀ s b,φ (nx s b)=ny (φ s) b) (ha:∀ s,ac s=ad (φ s))
  (hi:∀ w w',φ (Ar nx st w)=φ (Ar nx st w')→Ar nx st w=Ar nx st w'):Expl c bs (φ st) ny ad (l.map φ) t where
 cell:=h.cell
 cells:=h.cells
 len:=by rw [List.length_map];exact h.len
 acl:=by rw [List.length_map];exact h.acl
 pos:=by rw [List.length_map];exact h.pos
 nodup:=R4 φ hi l h.nodup fun s hs=>by
  obtain ⟨i,hi⟩:=List.getElem?_of_mem hs;exact h.reach i s hi
 zero:=by rw [List.getElem?_map,h.zero];rfl
 row:=fun i hl=>h.row i (by simpa using hl)
 tgt:=fun i s hs k hk=>by
  rw [List.getElem?_map] at hs;obtain ⟨x,hx,rfl⟩:=Option.map_eq_some_iff.1 hs;obtain ⟨h1,h2⟩:=h.tgt i x hx k hk;exact ⟨by simpa using h1,by rw [List.getElem?_map,h2,← hn];rfl⟩
 acc:=fun i s hs=>by
  rw [List.getElem?_map] at hs;obtain ⟨x,hx,rfl⟩:=Option.map_eq_some_iff.1 hs;rw [h.acc i x hx,ha]
 reach:=fun i s hs=>by
  rw [List.getElem?_map] at hs;obtain ⟨x,hx,rfl⟩:=Option.map_eq_some_iff.1 hs;obtain ⟨w,rfl⟩:=h.reach i x hx;exact ⟨w,(U8 φ hn w st).symm⟩
theorem Sd {σ τ:Type} {st:σ} {nx:σ→Nat→σ} {m:Nat} (h:B7 nx st m) (φ:σ→τ) {ny:τ→Nat→τ} (hn:∀ s b,φ (nx s b)=ny (φ s) b) (hi:∀ w w',φ (Ar nx st w)=φ (Ar nx st w')→Ar nx st w=Ar nx st w'):B7 ny (φ st) m:=by
 obtain ⟨l,h1,h2,h3⟩:=h;refine ⟨l.map φ,R4 φ hi l h1 h2,fun s hs=>?_,by simpa using h3⟩;obtain ⟨x,hx,rfl⟩:=List.mem_map.1 hs;obtain ⟨w,rfl⟩:=h2 x hx;exact ⟨w,(U8 φ hn w st).symm⟩
theorem Tr {σ:Type} [DecidableEq σ] {c:Nat→Nat} {bs:List Nat} {st:σ} {nx:σ→Nat→σ} {ac:σ→Bool} {l:List σ} {t:Tbl} (h:Expl c bs st nx ac l t) {a b:Nat→Nat} (hj:Joint a b c bs) (hn:∀ s x,x<256→nx s (bs.getD (c x) 0)=nx s x) {m:Nat} (hm:l.length≤m):¬ B7 nx st m:=by
 refine Il l (fun w=>?_) hm;have:∀ (w:List UInt8) i s,l[i]? = some s→Ar nx s w∈l:=fun w=>by
  induction w with
  | nil=>intro i s hi;exact List.mem_of_getElem? hi
  | cons x w ih=>
   intro i s hi;have h1:=(h.tgt i s hi _ (hj.lt _ x.toNat_lt)).2;rw [hn s _ x.toNat_lt] at h1;exact ih _ _ h1
 exact this w 0 st h.zero
def stP (s:Sta):Nat × Nat:=(s.p,s.s)
theorem Jp {s t:Sta} (hs:s.q=0) (ht:t.q=0) (h:stP s=stP t):s=t:=by
 cases s;cases t
 simp [stP] at h hs ht;simp [h,hs,ht]
def sNx (x:Tbl) (s:Sta) (b:Nat):Sta:=⟨0,0,if Cb x (Ap x s.s b x.nxt.length) then Ap x s.s b x.nxt.length ||| 1 else Ap x s.s b x.nxt.length⟩
def sAc (x:Tbl) (s:Sta):Bool:=s.p==1||Cb x s.s
def Jt (s:Sta):Prop:=s.p<2∧s.q=0∧s.s<18446744073709551616
theorem Yu {x:Tbl} (hx:TVal x) (hn:x.nxt.length≤64) (s:Sta) (b:Nat) (hb:b<256):Jt (sNx x s b):=by
 refine ⟨by show 0<2;omega,rfl,?_⟩;have h:=Gj hx hn s.s b hb _ (Nat.le_refl _);unfold sNx;simp only;split
 ·exact Nat.or_lt_two_pow (n:=64) h (by omega)
 ·exact h
theorem Js (x:Tbl) (w:List UInt8):(Ar (sNx x) ⟨1,0,1⟩ w).q=0:=by
 induction w using Du with
 | h0=>rfl
 | h1 w y ih=>rw [D6];rfl
theorem i114:(Tryz.prog.info? 114).map (·.size)=some 1:=by kernel_rfl
theorem Agv (x:Int):Tryz.prog.built 116 [(2,.agg #[.int .u64 x])]=some #[.int .i64 0,.int .i64 0,.int .u64 x]:=by kernel_rfl
theorem Ri (x:Nat) (hx:x<18446744073709551616):bits BinOp.or IntKind.u64 (x:Int) 1=((x ||| 1:Nat):Int):=by
 rw [show (1:Int)=((1:Nat):Int) from rfl,u64_or_nat _ _ hx (by omega)]
set_option maxHeartbeats 1000000 in
theorem X6 (x:Tbl) (hx:TVal x) (hn:x.nxt.length≤64) (A:Array Value) (gx:Nat) (w:World) (hA:IsT w A x) (hgx:w.heap[gx]? = some (.cells A 108 (0,0))) :
  Lo w 157 #[.pointer (some ⟨gx,0,none⟩)] (sNx x) Jt:=by
 intro W hW s hs b hb;obtain ⟨-,-,hss⟩:=hs;have hIT:=hA.ext hW;obtain ⟨_,_,_,_,_,_,hAs,hAo,_⟩:=hIT.opened hx;have hiA:(Tryz.prog.info? 108).map (·.size)=some A.size:=by rw [hAs];exact Bw
 have hgx:=hW.heap hgx;have f73:=fun V (hV:Ext W V)=>Lib.hid (Pr x hx hn A s.s hss b hb V (hIT.ext hV))
 have htl:=Gj hx hn s.s b hb _ (Nat.le_refl _);have f76:=fun V (hV:Ext W V)=>Lib.hid (L8 x hx hn A (Ap x s.s b x.nxt.length) htl V (hIT.ext hV))
 show Calls _ _ _ _ fun e w'=>e=.returned (.agg #[.int .i64 ((0:Nat):Int),.int .i64 ((0:Nat):Int),.int .u64 ((if Cb x (Ap x s.s b x.nxt.length) then Ap x s.s b x.nxt.length ||| 1 else Ap x s.s b x.nxt.length:Nat):Int)])∧Ext W w'
 have hE0:=((Ext.refl W).alloc (.cells #[iv s.p,iv s.q,.int .u64 (s.s:Int)] 116)).alloc (.cells #[.int .i64 0,.int .i64 0,.int .u64 0] 116);have H3:=Af (Ab W (.cells #[iv s.p,iv s.q,.int .u64 (s.s:Int)] 116)) (.cells #[.int .i64 0,.int .i64 0,.int .u64 0] 116);have H5:=heap_alloc2_new W (.cells #[iv s.p,iv s.q,.int .u64 (s.s:Int)] 116) (.cells #[.int .i64 0,.int .i64 0,.int .u64 0] 116);generalize Ap x s.s b x.nxt.length=T at *;generalize Cb x T=bo at *;have HO:=Lib.hid (Ri T htl);clear hA hIT hW;go_enter Tryz.func157,Tryz.ntmps157;go_upto_region 1 with (fail)
 obtain ⟨w1,hw1⟩:∃ V,(W.alloc (.cells #[iv s.p,iv s.q,.int .u64 (s.s:Int)] 116)).alloc (.cells #[.int .i64 0,.int .i64 0,.int .u64 0] 116)=V:=⟨_,rfl⟩;have hs1:W.heap.size+1<w1.heap.size:=by rw [← hw1,World.size_alloc,World.size_alloc];omega
 rw [hw1] at hE0 H3 H5;simp only [hw1];clear hw1;have HGX:=Lib.hid (hE0.heap hgx);have hr3:w1.rangeAt W.heap.size 2 [.int .u64 (s.s:Int)]:=fun j v hv=>by
  obtain rfl:j=0:=by
   rcases j with _|j
   ·rfl
   ·simp at hv
  rw [cell_of_row w1 W.heap.size _ _ _ _ H3];exact hv
 have HB5:=Lib.hid H5;have HE0:=Lib.hid hE0;clear H3 H5 hgx hE0;go_upto_region 2 with (first
  | (refine wpList_load_row rfl 108 (.tmp 2) rfl _ rfl _ _ _ _ HGX.out Tryz.underlying108 rfl hiA ?_)
  | (refine wpList_load_mid rfl 114 (.tmp 8) rfl _ 2 rfl _ _ hr3 Tryz.underlying114 rfl i114 ?_)
  | (go_at_call 73;(with_reducible refine (f73 _ HE0.out).out.mono ?_);rintro e w2 ⟨rfl,hE2⟩)
  | (refine wpList_store_row rfl 114 (.tmp 6) (.tmp 11) rfl _ _ rfl rfl _ _ (Ab w2 (.cells #[.int .u64 0] 114)) i114 rfl (Rm _) ?_))
 have hE3:=((Ext.refl w2).alloc (.cells #[.int .u64 0] 114)).setRow (Nat.le_refl _) #[.int .u64 (T:Int)];have H6:=setRow_heap (w2.alloc (.cells #[.int .u64 0] 114)) w2.heap.size _ #[.int .u64 (T:Int)] _ _ (Ab w2 _);obtain ⟨w3,hw3⟩:∃ V,(w2.alloc (.cells #[.int .u64 0] 114)).setRow w2.heap.size #[.int .u64 (T:Int)]=V:=⟨_,rfl⟩;rw [hw3] at hE3 H6;simp only [hw3];clear hw3;have hE4:=hE2.trans hE3;have hs2:=hE2.size;have HB5:=Lib.hid (hE4.heap HB5.out);have HGX:=Lib.hid (hE4.heap HGX.out);have HB6:=Lib.hid H6;have HE4:=Lib.hid (HE0.out.trans hE4);generalize w2.heap.size=g6 at *;clear H6 hE2 hE3 hE4 hr3 f73;go_upto_if 14 with (first
  | (refine wpList_load_row rfl 108 (.tmp 2) rfl _ rfl _ _ _ _ HGX.out Tryz.underlying108 rfl hiA ?_)
  | (refine wpList_load_row rfl 114 (.tmp 6) rfl _ rfl _ _ _ _ HB6.out Tryz.underlying114 rfl i114 ?_)
  | (go_at_call 76;(with_reducible refine (f76 _ HE4.out).out.mono ?_);rintro e w5 ⟨rfl,hE5⟩;have HB5:=Lib.hid (hE5.heap HB5.out);have HB6:=Lib.hid (hE5.heap HB6.out);have HE5:=Lib.hid (HE4.out.trans hE5)))
 have c6:=(cell_of_row w5 g6 0 _ _ _ HB6.out).trans (show (#[Value.int .u64 (T:Int)])[0]? = some (.int .u64 (T:Int)) from rfl);have f6:=frozen_of_row w5 g6 0 _ _ HB6.out;have hb0:=fun z=>Lib.hid (Agv z)
 cases bo
 ·go_wp2_with (first
   | (refine wpList_load_row rfl 114 (.tmp 6) rfl _ rfl _ _ _ _ HB6.out Tryz.underlying114 rfl i114 ?_)
   | (refine Cd rfl 116 _ rfl #[.int .i64 0,.int .i64 0,.int .u64 (T:Int)] ?_ ?_;(simp [Act.eval];with_reducible exact (hb0 _).out))
   | (refine wpList_store_row rfl 116 (.tmp 5) (.tmp 20) rfl _ _ rfl rfl _ _ HB5.out C4 rfl (by simp [Value.oneCell']) ?_))
  refine bodyPost_ret (v:=.agg #[.int .i64 0,.int .i64 0,.int .u64 (T:Int)]) (results_cell_row rfl _ _ _ _ _ _ _ rfl (setRow_heap w5 _ _ _ 116 (0,0) HB5.out) Tryz.underlying116 rfl C4) rfl ?_;exact ⟨rfl,HE5.out.setRow (by omega) _⟩
 ·go_upto_region 4 with (fail)
  have hsc:w5.setCell ⟨g6,0,none⟩ (.int .u64 (bits BinOp.or IntKind.u64 (T:Int) 1))=w5.setRow g6 #[.int .u64 ((T ||| 1:Nat):Int)]:=by
   rw [setCell_eq_setRow w5 _ _ _ _ _ _ HB6.out,HO.out];rfl
  have hne:W.heap.size+1≠g6:=fun e=>by
   have h1:=HB5.out;rw [e,HB6.out] at h1;injection h1 with h1
   injection h1 with h1 _
   simp at h1
  rw [hsc];have H6':=setRow_heap w5 g6 _ #[.int .u64 ((T ||| 1:Nat):Int)] _ _ HB6.out;have H5':=Bq HB5.out hne #[.int .u64 ((T ||| 1:Nat):Int)];have hE6:=HE5.out.setRow (show W.heap.size≤g6 by omega) #[.int .u64 ((T ||| 1:Nat):Int)];obtain ⟨z,hz⟩:∃ z:Int,((T ||| 1:Nat):Int)=z:=⟨_,rfl⟩;rw [hz] at H6' H5' hE6;rw [hz];obtain ⟨w6,hw6⟩:∃ V,w5.setRow g6 #[.int .u64 z]=V:=⟨_,rfl⟩;rw [hw6] at H6' H5' hE6;rw [hw6];have HB6:=Lib.hid H6';have HB5:=Lib.hid H5';have HE6:=Lib.hid hE6;have HZ:=Lib.hid hz;clear c6 f6 hsc H5' H6' hE6 hz HO hw6;go_wp2_with (first
   | (refine wpList_load_row rfl 114 (.tmp 6) rfl _ rfl _ _ _ _ HB6.out Tryz.underlying114 rfl i114 ?_)
   | (refine Cd rfl 116 _ rfl #[.int .i64 0,.int .i64 0,.int .u64 z] ?_ ?_;(simp [Act.eval];with_reducible exact (hb0 _).out))
   | (refine wpList_store_row rfl 116 (.tmp 5) (.tmp 20) rfl _ _ rfl rfl _ _ HB5.out C4 rfl (by simp [Value.oneCell']) ?_))
  refine bodyPost_ret (v:=.agg #[.int .i64 0,.int .i64 0,.int .u64 z]) (results_cell_row rfl _ _ _ _ _ _ _ rfl (setRow_heap w6 _ _ _ 116 (0,0) HB5.out) Tryz.underlying116 rfl C4) rfl ?_;exact ⟨by rw [← HZ.out],HE6.out.setRow (by omega) _⟩
set_option maxHeartbeats 1000000 in
theorem Xi (x:Tbl) (hx:TVal x) (hn:x.nxt.length≤64) (A:Array Value) (gx:Nat) (w:World) (hA:IsT w A x) (hgx:w.heap[gx]? = some (.cells A 108 (0,0))) :
  Ll w 158 #[.pointer (some ⟨gx,0,none⟩)] (sAc x) Jt:=by
 intro W hW s hs;obtain ⟨hp,-,hss⟩:=hs;have hIT:=hA.ext hW;obtain ⟨_,_,_,_,_,_,hAs,hAo,_⟩:=hIT.opened hx;have hiA:(Tryz.prog.info? 108).map (·.size)=some A.size:=by rw [hAs];exact Bw
 have hgx:=hW.heap hgx;have f76:=fun V (hV:Ext W V)=>Lib.hid (L8 x hx hn A s.s hss V (hIT.ext hV))
 show Calls _ _ _ _ fun e w'=>e=.returned (.bool (s.p==1||Cb x s.s))∧Ext W w'
 have hE0:=(Ext.refl W).alloc (.cells #[iv s.p,iv s.q,.int .u64 (s.s:Int)] 116);have H2:=Ab W (.cells #[iv s.p,iv s.q,.int .u64 (s.s:Int)] 116);generalize Cb x s.s=bo at *;clear hA hIT hW;go_enter Tryz.func158,Tryz.ntmps158;go_upto_region 1 with (fail)
 obtain ⟨w1,hw1⟩:∃ V,W.alloc (.cells #[iv s.p,iv s.q,.int .u64 (s.s:Int)] 116)=V:=⟨_,rfl⟩;rw [hw1] at hE0 H2;simp only [hw1];clear hw1;have HGX:=Lib.hid (hE0.heap hgx);have hr2:w1.rangeAt W.heap.size 2 [.int .u64 (s.s:Int)]:=fun j v hv=>by
  obtain rfl:j=0:=by
   rcases j with _|j
   ·rfl
   ·simp at hv
  rw [cell_of_row w1 W.heap.size _ _ _ _ H2];exact hv
 have c0:=(cell_of_row w1 W.heap.size 0 _ _ _ H2).trans (show (#[iv s.p,iv s.q,.int .u64 (s.s:Int)]:Array Value)[0]? = some (iv s.p) from rfl);have HE0:=Lib.hid hE0;clear H2 hgx hE0;obtain ⟨bp,hbp⟩:∃ b,(s.p==1)=b:=⟨_,rfl⟩;have heq:((s.p:Int)==1)=bp:=by
  rw [← hbp,Bool.eq_iff_iff];simp
  omega
 have HBP:=Lib.hid hbp;clear hbp hp hss;cases bp
 ·go_wp2_with (first
   | (refine Dn rfl (wp_load_row 108 (.tmp 1) rfl _ rfl _ _ _ _ HGX.out Tryz.underlying108 rfl hiA ?_))
   | (refine Dn rfl (wp_load_mid 114 (.tmp 9) rfl _ 2 rfl _ _ hr2 Tryz.underlying114 rfl i114 ?_))
   | (go_at_call 76;(with_reducible refine (f76 _ HE0.out).out.mono ?_);rintro e w5 ⟨rfl,hE5⟩;have HE5:=Lib.hid (HE0.out.trans hE5)))
  go_ret;exact ⟨by rw [HBP.out];rfl,HE5.out⟩
 ·clear hr2 f76 HGX hiA;go_wp2_with (fail);go_ret;exact ⟨by rw [HBP.out];rfl,HE0.out⟩
theorem U2 (p s:Int):Tryz.prog.built 116 [(0,.int .i64 p),(2,.agg #[.int .u64 s])]=some #[.int .i64 p,.int .i64 0,.int .u64 s]:=by kernel_rfl
theorem Agx:Tryz.prog.built 114 [(0,.int .u64 1)]=some #[.int .u64 1]:=by kernel_rfl
theorem O1:Tryz.zeroCells108.all (·.oneCell')=true:=by kernel_rfl
theorem Vu:∃ vn va,Tryz.zeroCells108=Ai (fun _=>0) 0 vn va∧vn=.slice none 0 0∧va=.slice none 0 0:=⟨_,_,(show Tryz.zeroCells108=Ai (fun _=>0) 0 (.slice none 0 0) (.slice none 0 0) by kernel_rfl),rfl,rfl⟩
theorem Ls (o:Nat) (x:Int):Tryz.zeroCells108[o]?≠some (.int .u64 x):=by
 obtain ⟨vn,va,h,rfl,rfl⟩:=Vu;rw [h];intro h;have:=Array.mem_of_getElem? h;simp only [Ai,Dk,List.mem_toArray,List.mem_append,List.mem_map,List.mem_cons,List.not_mem_nil,or_false] at this;rcases this with ⟨b,_,hb⟩|hb|hb|hb<;>simp at hb
theorem Xn {x:Tbl} (hx:TVal x) {c:Nat→Nat} {bs:List Nat} (hj:Joint x.cell x.cell c bs) {l:List Sta} {t:Tbl} (h:Expl c bs ⟨1,0,1⟩ (sNx x) (sAc x) l t) (hl:l.length≤4096) :
  TVal t∧t.nxt.length≤4096∧¬ B7 (snx x) (1,1) 4096∧∀ u,t.has u=true↔Star (fun u=>x.has u=true) u:=by
 have hc:Expl c bs (1,1) (snx x) (fun s=>s.1==1||Cb x s.2) (l.map stP) t:=
  h.conv (st:=⟨1,0,1⟩) stP (fun s b=>rfl) (fun s=>rfl) (fun w w' e=>Jp (Js x w) (Js x w') e)
 have hn:∀ (s:Nat × Nat) b,b<256→snx x s (bs.getD (c b) 0)=snx x s b:=fun s b hb=>by
  obtain ⟨_,h1,_⟩:=hj.rep b hb;have e2:∀ n,Ap x s.2 (bs.getD (c b) 0) n=Ap x s.2 b n:=fun n=>by
   induction n with
   | zero=>rfl
   | succ n ih=>simp only [Ap];rw [ih];unfold Tbl.stp;rw [h1]
  unfold snx;rw [e2]
 exact ⟨h.tval hj,by rw [h.len];exact hl,Tr hc hj hn (by simpa using hl),fun u=>Xl hx hc hj u⟩
set_option maxHeartbeats 1000000 in
theorem Xp (a:Dfa) (ha:Val a) (hna:a.nxt.length≤64) (va:Value) (w:World) (hT:Tab w) (hsz:0<w.heap.size) (hva:IsD w va a) :
  Calls Tryz.prog 147 #[va] w fun e w'=>∃ r,ResOf w' e r∧Hp a r∧Ext w w':=by
 have HDa:=Lib.hid hva;have HVa:=Lib.hid ha;obtain ⟨ac,lc,cc,an,cn,aa,la,ca,rfl⟩:=hva.agg;have f47:=fun W (hW:Ext w W)=>Lib.hid (Dq a ha hna _ W (HDa.out.ext hW))
 have f68a:=fun W (hW:Ext w W)=>Lib.hid (Gk a ha _ W (hT.below hW.below hsz) (Nat.lt_of_lt_of_le hsz hW.size) (HDa.out.ext hW))
 have HTa:=Lib.hid (fun W (hW:Ext w W)=>hT.below hW.below hsz);obtain ⟨Va,hVa⟩:∃ X,dA (.slice ac lc cc) (.slice an a.nxt.length cn) (.slice aa la ca)=X:=⟨_,rfl⟩;have hiVa:(Tryz.prog.info? 30).map (·.size)=some Va.size:=by rw [← hVa];exact Ad
 rw [hVa] at f47 f68a HDa;rw [hVa];have hE0:=((Ext.refl w).alloc (.cells Va 30)).alloc (.cells #[.slice none 0 0,.slice none 0 0,.slice none 0 0] 30);have H1:=Af (Ab w (.cells Va 30)) (.cells #[.slice none 0 0,.slice none 0 0,.slice none 0 0] 30);have H2:=heap_alloc2_new w (.cells Va 30) (.cells #[.slice none 0 0,.slice none 0 0,.slice none 0 0] 30);clear hva ha hT hVa;go_enter Tryz.func147,Tryz.ntmps147;go_upto_region 1 with (fail)
 obtain ⟨w1,hw1⟩:∃ W,(w.alloc (.cells Va 30)).alloc (.cells #[.slice none 0 0,.slice none 0 0,.slice none 0 0] 30)=W:=⟨_,rfl⟩;have hs1:w.heap.size+1<w1.heap.size:=by rw [← hw1,World.size_alloc,World.size_alloc];omega
 rw [hw1] at hE0 H1 H2;simp only [hw1];clear hw1;have HB1:=Lib.hid H1;have HB2:=Lib.hid H2;have HE0:=Lib.hid hE0;clear H1 H2 hE0;go_upto_region 3 with (first
  | (refine wpList_load_row rfl 30 (.tmp 1) rfl _ rfl _ _ _ _ HB1.out Tryz.underlying30 rfl hiVa ?_)
  | (go_at_call 47;(with_reducible refine (f47 _ HE0.out).out.mono ?_);rintro e w2 ⟨rfl,hE2⟩;have HE2:=Lib.hid hE2;clear hE2))
 have HE2':=Lib.hid (HE0.out.trans HE2.out);have HB1:=Lib.hid (HE2.out.heap HB1.out);have HB2:=Lib.hid (HE2.out.heap HB2.out);go_upto_region 4 with (first
  | (refine wpList_load_row rfl 30 (.tmp 1) rfl _ rfl _ _ _ _ HB1.out Tryz.underlying30 rfl hiVa ?_)
  | (go_at_call 68;(with_reducible refine (f68a _ HE2'.out).out.mono ?_);rintro e w3 ⟨A1,rfl,hA1,hE3⟩;have HE3:=Lib.hid hE3;clear hE3;have hC:=Lib.hid (I8 (Ae a) (Bf HVa.out) (show a.nxt.length≤65536 by omega) A1 w3 hA1);clear hA1)
  | (go_at_call 69;(with_reducible refine hC.out.mono ?_);rintro e w4 ⟨v,d,rfl,hd,hcan,hhas,hE4⟩;have HE4:=Lib.hid hE4;have HCa:=Lib.hid hcan;have HH:=Lib.hid hhas;clear hcan hhas hE4 hC;have f68d:=Lib.hid (Gk d HCa.out.val v w4 (HTa.out w4 ((HE2'.out.trans HE3.out).trans HE4.out)) (Nat.lt_of_lt_of_le hsz ((HE2'.out.trans HE3.out).trans HE4.out).size) hd);obtain ⟨ac1,lc1,cc1,an1,cn1,aa1,la1,ca1,rfl⟩:=hd.agg;clear hd)
  | (go_at_call 68;(with_reducible refine f68d.out.mono ?_);rintro e w5 ⟨A,rfl,hA,hE5⟩;have HIT:=Lib.hid hA;have HE5:=Lib.hid hE5;obtain ⟨_,_,_,_,_,_,hAs,hAo,_⟩:=hA.opened (Bf HCa.out.val);clear hA hE5 f68d;have hiA:(Tryz.prog.info? 108).map (·.size)=some A.size:=(by rw [hAs];exact Bw);have hzA:Tryz.zeroCells108.size=A.size:=(by rw [Cj,hAs]);clear hAs)
  | (refine wpList_store_row rfl 108 (.tmp 4) (.tmp 17) rfl _ _ rfl rfl _ _ (Ab w5 (.cells Tryz.zeroCells108 108)) hiA hzA hAo ?_))
 have hE6:=((Ext.refl w5).alloc (.cells Tryz.zeroCells108 108)).setRow (Nat.le_refl _) A;have H4:=setRow_heap (w5.alloc (.cells Tryz.zeroCells108 108)) w5.heap.size _ A _ _ (Ab w5 _);obtain ⟨w6,hw6⟩:∃ W,(w5.alloc (.cells Tryz.zeroCells108 108)).setRow w5.heap.size A=W:=⟨_,rfl⟩;rw [hw6] at hE6 H4;simp only [hw6];clear hw6;have HE6:=Lib.hid ((((HE2'.out.trans HE3.out).trans HE4.out).trans HE5.out).trans hE6);have HB2:=Lib.hid ((((HE3.out.trans HE4.out).trans HE5.out).trans hE6).heap HB2.out);have HIT:=Lib.hid (HIT.out.ext hE6);have HB4:=Lib.hid H4;generalize w5.heap.size=g4 at *;clear hE6 H4 f68a f47 HE0 HE2 HE2' HE3 HE4 HE5 HB1;have hda:d.nxt.length≤a.nxt.length:=K9 HCa.out HVa.out (fun u=>by rw [HH.out,Da]);have hj70:=Lib.hid (Nt (Ae d) (Ae d) (Bf HCa.out.val) (Bf HCa.out.val) A A w6 HIT.out HIT.out);have hz77:∀ c,Tryz.zeroCells77.size=(Bm c).size:=fun c=>by rw [Hr,Dx,Dx]
 have hi77:∀ c,(Tryz.prog.info? 77).map (·.size)=some (Bm c).size:=fun c=>by rw [Dx];exact Ir
 go_upto_region 5 with (first
  | (refine wpList_load_row rfl 108 (.tmp 4) rfl _ rfl _ _ _ _ HB4.out Tryz.underlying108 rfl hiA ?_)
  | (go_at_call 70;(with_reducible refine hj70.out.mono ?_);rintro e w7 ⟨c,bs,vj,rfl,hjo,hib,hE7⟩;have hzc:=hz77 c;have hic:=hi77 c;have hoc:=K7 c;obtain ⟨A9,hA9⟩:∃ X,Bm c=X:=⟨_,rfl⟩;rw [hA9] at hzc hic hoc;rw [hA9])
  | (refine wpList_store_row rfl 77 (.tmp 5) (.tmp 22) rfl _ _ rfl rfl _ _ (Ab w7 (.cells Tryz.zeroCells77 77)) hic hzc hoc ?_))
 have hE8:=hE7.trans (((Ext.refl w7).alloc (.cells Tryz.zeroCells77 77)).setRow (Nat.le_refl _) A9);have H5:=setRow_heap (w7.alloc (.cells Tryz.zeroCells77 77)) w7.heap.size _ A9 _ _ (Ab w7 _);have hib8:=hib.ext (((Ext.refl w7).alloc (.cells Tryz.zeroCells77 77)).setRow (Nat.le_refl _) A9);obtain ⟨w8,hw8⟩:∃ W,(w7.alloc (.cells Tryz.zeroCells77 77)).setRow w7.heap.size A9=W:=⟨_,rfl⟩;rw [hw8] at hE8 H5 hib8;simp only [hw8];clear hw8 hE7 hib hz77 hi77 hj70;have HB5:=Lib.hid H5;have HJO:=Lib.hid hjo;have HA9:=Lib.hid hA9;have HB2:=Lib.hid (hE8.heap HB2.out);have HB4:=Lib.hid (hE8.heap HB4.out);have HIT:=Lib.hid (HIT.out.ext hE8);have HE8:=Lib.hid (HE6.out.trans hE8);clear H5 hjo hA9 hzc hoc hE8 HE6;generalize w7.heap.size=g5 at *;have hm0:0<bs.length:=by have:=HJO.out.lt 0 (by omega);omega
 have hm1:bs.length≤256:=by
  have:=Gv c 256 bs.length (fun j hj=>⟨bs.getD j 0,(HJO.out.byte j hj).1,(HJO.out.byte j hj).2⟩);exact this
 have hd64:(Ae d).nxt.length≤64:=by show d.nxt.length≤64;omega
 have HTV:=Lib.hid (Bf HCa.out.val);have HNX:=Lib.hid (X6 (Ae d) HTV.out hd64 A g4 w8 HIT.out HB4.out);have HTX:=Lib.hid (Xi (Ae d) HTV.out hd64 A g4 w8 HIT.out HB4.out);have hX:=Lib.hid (N7 c bs hm0 hm1 (fun k hk=>(HJO.out.byte k hk).1) ⟨1,0,1⟩ (sNx (Ae d)) (sAc (Ae d)) Jt
  (fun x hx=>⟨by have:=hx.1;omega,by have:=hx.2.1;omega,hx.2.2⟩) ⟨by show 1<2;omega,rfl,by show 1<18446744073709551616;omega⟩
  (fun x hx k hk=>Yu HTV.out hd64 x k hk) 4096 (by omega) (by omega) 157 158 _ _ (enters_of Tryz.func157 (by kernel_rfl) rfl) (enters_of Tryz.func158 (by kernel_rfl) rfl) vj w8 hib8 HNX.out HTX.out)
 rw [HA9.out] at hX;have hX':Hid (Calls Tryz.prog 74 #[.agg A9,vj,.agg #[.int .i64 1,.int .i64 0,.int .u64 1],.func (.func 157) #[] #[.pointer (some ⟨g4,0,none⟩)],.func (.func 158) #[] #[.pointer (some ⟨g4,0,none⟩)],.int .i64 4096] w8 fun e w'=>
   ∃ A b,e=.returned (.tuple #[.agg A,.bool b])∧A.size=259∧A.all (·.oneCell')=true∧(b=false→B7 (snx (Ae d)) (1,1) 4096)∧(b=true→∃ t,IsT w' A t∧TVal t∧t.nxt.length≤4096∧¬ B7 (snx (Ae d)) (1,1) 4096∧(∀ u,t.has u=true↔Star (fun u=>d.has u=true) u))∧Ext w8 w'):=Lib.hid (Calls.mono hX.out fun e w' ⟨hE,h⟩=>by
  rcases h with ⟨A,l,t,he,hT,hX,hl,hTg⟩|⟨hM,he⟩
  ·obtain ⟨h1,h2,h3,h4⟩:=Xn HTV.out HJO.out hX hl;obtain ⟨_,_,_,_,_,_,hTs,hTo,_⟩:=hT.opened h1;refine ⟨A,true,he,hTs,hTo,fun h=>by simp at h,fun _=>⟨t,hT,h1,h2,h3,fun u=>?_⟩,hE⟩;rw [h4];have:(fun u=>(Ae d).has u=true)=fun u=>d.has u=true:=funext fun u=>by rw [Da]
   rw [this]
  ·exact ⟨Tryz.zeroCells108,false,he,Cj,O1,fun _=>Sd hM stP (fun s b=>rfl) (fun w w' e=>Jp (Js _ w) (Js _ w') e),fun h=>by simp at h,hE⟩)
 clear hX HNX HTX hib8;have hb1:=Lib.hid (U2 1 1);have hb2:=Lib.hid Agx;have i77':(Tryz.prog.info? 77).map (·.size)=some A9.size:=hic;go_upto_region 7 with (first
  | (refine wpList_load_row rfl 77 (.tmp 5) rfl _ rfl _ _ _ _ HB5.out Tryz.underlying77 rfl i77' ?_)
  | (refine Cd rfl 114 _ rfl #[.int .u64 1] ?_ ?_;(simp;with_reducible exact hb2.out))
  | (refine Cd rfl 116 _ rfl #[.int .i64 1,.int .i64 0,.int .u64 1] ?_ ?_;(simp [Act.eval];with_reducible exact hb1.out))
  | (go_at_call 74;(with_reducible refine hX'.out.mono ?_);rintro e w9 ⟨AT,bo,rfl,hTs,hTo,hM0,hM1,hE9⟩;have HM0:=Lib.hid hM0;have HM1:=Lib.hid hM1;clear hM0 hM1;have hiT:(Tryz.prog.info? 108).map (·.size)=some AT.size:=(by rw [hTs];exact Bw);have hzT:Tryz.zeroCells108.size=AT.size:=(by rw [Cj,hTs]);clear hTs)
  | (refine wpList_store_row rfl 108 (.tmp 8) (.tmp 33) rfl _ _ rfl rfl _ _ (Ab w9 (.cells Tryz.zeroCells108 108)) hiT hzT hTo ?_))
 have hE10:=((Ext.refl w9).alloc (.cells Tryz.zeroCells108 108)).setRow (Nat.le_refl _) AT;have H8:=setRow_heap (w9.alloc (.cells Tryz.zeroCells108 108)) w9.heap.size _ AT _ _ (Ab w9 _);obtain ⟨w10,hw10⟩:∃ W,(w9.alloc (.cells Tryz.zeroCells108 108)).setRow w9.heap.size AT=W:=⟨_,rfl⟩;rw [hw10] at hE10 H8;simp only [hw10];clear hw10;have HB8:=Lib.hid H8;have HB2:=Lib.hid ((hE9.trans hE10).heap HB2.out);have HE10:=Lib.hid ((HE8.out.trans hE9).trans hE10);have HE10':=Lib.hid hE10;clear hE9 hE10 H8 HB4 HB5 hX';generalize w9.heap.size=g8 at *;cases bo
 ·have hBz:=Lib.hid E7;go_wp2_with (first
   | (refine Cd rfl 30 _ rfl #[.slice none 0 0,.slice none 0 0,.slice none 0 0] ?_ ?_;(simp;with_reducible exact hBz.out))
   | (refine wpList_store_row rfl 30 (.tmp 2) (.tmp 37) rfl _ _ rfl rfl _ _ HB2.out Ad rfl Em ?_))
  refine bodyPost_ret (v:=.tuple #[zD,.int .i64 2]) (Az rfl _ _ _ _ _ _ _ rfl _ rfl (setRow_heap w10 _ _ #[.slice none 0 0,.slice none 0 0,.slice none 0 0] 30 (0,0) HB2.out) Tryz.underlying30 rfl Ad) rfl ?_;exact ⟨none,rfl,⟨d,HCa.out,fun u=>by rw [HH.out,Da],fun _=>rfl,fun h=>absurd (HM0.out (by simp)) h⟩,HE10.out.setRow (by omega) _⟩
 ·obtain ⟨t,hIT,htv,htn,hmany,hhas⟩:=HM1.out rfl;have hL:=Lib.hid (Nh t htv (show t.nxt.length≤65536 by omega) AT w10 (hIT.ext HE10'.out));have HHas:=Lib.hid hhas;have HMn:=Lib.hid hmany;clear hIT htv htn hmany hhas;go_wp2_with (first
   | (refine wpList_load_row rfl 108 (.tmp 8) rfl _ rfl _ _ _ _ HB8.out Tryz.underlying108 rfl hiT ?_)
   | (go_at_call 77;(with_reducible refine hL.out.mono ?_);rintro e w11 ⟨r,hres,hlim,hE11⟩;obtain ⟨ac2,lc2,cc2,an2,ln2,cn2,aa2,la2,ca2,k2,rfl⟩:=hres.form;have HRes:=Lib.hid hres;have HLim:=Lib.hid hlim;clear hres hlim;have HB2:=Lib.hid (hE11.heap HB2.out))
   | (refine wpList_store_row rfl 30 (.tmp 2) (.tmp 40) rfl _ _ rfl rfl _ _ HB2.out Ad rfl (Aq _ _ _ rfl rfl rfl) ?_))
  refine bodyPost_ret (v:=.tuple #[.agg (dA (.slice ac2 lc2 cc2) (.slice an2 ln2 cn2) (.slice aa2 la2 ca2)),.int .i64 k2]) (Az rfl _ _ _ _ _ _ _ rfl _ rfl (setRow_heap w11 _ _ (dA (.slice ac2 lc2 cc2) (.slice an2 ln2 cn2) (.slice aa2 la2 ca2)) 30 (0,0) HB2.out) Tryz.underlying30 rfl Ad) rfl ?_;refine ⟨r,HRes.out.setRow (F1 HLim.out) HB2.out _,⟨d,HCa.out,fun u=>by rw [HH.out,Da],fun h=>absurd h HMn.out,fun _=>Gz HLim.out fun u=>?_⟩,(HE10.out.trans hE11).setRow (by omega) _⟩;rw [HHas.out];have:(fun u=>d.has u=true)=fun u=>a.has u=true:=funext fun u=>by rw [HH.out,Da]
  rw [this]
end Go.Proofs.YtaiogolidlamiaaGreatDoor
