import Derived.Deep.QuietTactic
import Derived.StillTail
import Derived.Test.YtaiogolidlamiaaGreatDoorM01
import Derived.Maps.AppendAt
set_option linter.unusedVariables false
set_option linter.unusedSimpArgs false
namespace Go.Proofs.YtaiogolidlamiaaGreatDoor
set_option maxRecDepth 100000
open Go
section
variable {P:Program} {ops:Array Oper} {md:Region.Mode} {C:World→Prop}
def Ja (P:Program) (md:Region.Mode) (ops:Array Oper) (C:World→Prop) (n:Nat) (L:Array Bool→Act→Prop):Nat→Array Bool→Act→Prop
 | 0,listed,a=>L listed a
 | f+1,listed,a=>
  Region.ready md ops listed≠[]∧∀ i∈Region.ready md ops listed,i<n∧qOp P ops C i (Ja P md ops C n L f (listed.setIfInBounds i true)) a
theorem Ajg {n g:Nat} {L:Array Bool→Act→Prop} {Q':Exit→Act→World→Prop} (hL:∀ listed a w,C w→L listed a→wpAny P md ops Q' g listed a w) :
  ∀ (f:Nat) (listed:Array Bool) (a:Act) (w:World),C w→Ja P md ops C n L f listed a→wpAny P md ops Q' (f+g) listed a w:=by
 intro f;induction f with
 | zero=>intro listed a w hw h;rw [Nat.zero_add];exact hL _ _ _ hw h
 | succ f ih=>
  intro listed a w hw h;rw [show f+1+g=(f+g)+1 by omega];exact ⟨fun h0=>absurd h0 h.1,fun i hi=>wpOp_of_qOp hw (fun a' w' hw' h'=>ih _ a' w' hw' h') (h.2 i hi).2⟩
theorem Af7 {n i:Nat} {oi:Oper} {v:Value} {L:Array Bool→Act→Prop} (hi:ops[i]? = some oi) (hsel:∀ (j:Nat) (o:Oper) cs b,ops[j]? = some o→o.op≠.select cs b)
  (hs:Region.sinkB md ops n=true) (hc:Region.chainB md ops n=true) (hn:n<ops.size) (hin:i<n)
  (hdone:∀ listed a,L listed a→∀ j∈Region.ready md ops listed,n≤j) :
  ∀ (f:Nat) (listed:Array Bool) (a:Act),HeadInv md ops n listed→
   (∀ j oj,ops[j]? = some oj→j≠i→listed.getD j true=false→(∀ e∈oj.after,Region.binds md e=true→e.on≠i)→oi.apart ops oj=true)→
   i∈Region.ready md ops listed→YieldsIn P ops C oi v a→
   Ja P md ops C n L f (listed.setIfInBounds i true) (a.put oi.dst v)→Ja P md ops C n L (f+1) listed a:=by
 intro f;induction f with
 | zero=>
  intro listed a inv _ hr hy H;refine ⟨fun h=>(by rw [h] at hr;cases hr),fun j hj=>?_⟩;have hjn:j<n:=Nat.lt_of_not_le fun h=>tail_waits hs hc hn inv _ i rfl hin (mem_ready.1 hr).1 j h hj
  refine ⟨hjn,?_⟩;by_cases hji:j=i
  ·subst hji;exact hy.qOp hi H
  ·exact absurd (hdone _ _ H j (ready_mono hj hji)) (by omega)
 | succ f ih=>
  intro listed a inv hfree hr hy H;have hun:=(mem_ready.1 hr).1;refine ⟨fun h=>(by rw [h] at hr;cases hr),fun j hj=>?_⟩;have hjn:j<n:=Nat.lt_of_not_le fun h=>tail_waits hs hc hn inv _ i rfl hin hun j h hj
  refine ⟨hjn,?_⟩;by_cases hji:j=i
  ·subst hji;exact hy.qOp hi H
  ·obtain ⟨hjun,oj,hoj,hall⟩:=mem_ready.1 hj;have hnot:∀ e∈oj.after,Region.binds md e=true→e.on≠i:=fun e he hb heq=>by
    have h1:=hall e he hb;rw [heq,getD_both hun] at h1;cases h1
   have h2:=qOp_put hoj (hfree j oj hoj hji hjun hnot) (fun cs b=>hsel i oi cs b hi) (fun cs b=>hsel j oj cs b hoj) hy (H.2 j (ready_mono hj hji)).2;refine qOp_mono (fun a' h3=>ih (listed.setIfInBounds j true) a' (inv.set hj hjn) (fun k ok hk hki hunk hno=>?_) (ready_mono hr (Ne.symm hji)) h3.1 ?_) h2
   ·refine hfree k ok hk hki ?_ hno;by_cases hjk:j=k
    ·subst hjk;exact hjun
    ·rwa [getD_set_ne true hjk] at hunk
   ·rw [Array.setIfInBounds_comm _ _ hji];exact h3.2
theorem Af6 {n g:Nat} {Lq:Act→Prop} (hsel:Region.noSelect ops=true) (hs:Region.sinkB md ops n=true) (hc:Region.chainB md ops n=true) (hn:n<ops.size) :
  ∀ (l:List Oper) (k:Nat) (listed:Array Bool) (a:Act),(∀ j,j<l.length→l[j]? = ops[k+j]?)→k+l.length=n→HeadInv md ops n listed→
  Region.lexHead md ops g l.length k listed=true→wpQuiet P ops C Lq l a→
  Ja P md ops C n (fun listed' a'=>Region.seqB md ops g n listed'=true∧Lq a') l.length listed a:=by
 intro l;induction l with
 | nil=>
  intro k listed a _ hk _ hB h;obtain rfl:k=n:=by simpa using hk
  exact ⟨by simpa [Region.lexHead] using hB,h⟩
 | cons o l ih=>
  intro k listed a hl hk inv hB h;have h0:ops[k]? = some o:=by simpa using (hl 0 (by simp)).symm
  simp only [List.length_cons,Region.lexHead,Bool.and_eq_true] at hB;have hkn:k<n:=by simp only [List.length_cons] at hk;omega
  have hr':k∈Region.ready md ops listed:=by simpa using hB.1.1
  have hst:qOp P ops C k (wpQuiet P ops C Lq l) a:=by unfold qOp;simp only [h0];exact h
  obtain ⟨v,hy,hK⟩:=yieldsIn_of_qOp h0 hst;exact Af7 h0 (Region.noSelect_spec hsel) hs hc hn hkn (fun listed' a' hL=>seqB_ready hL.1) l.length listed a inv (Region.free_spec h0 hB.1.2) hr' hy
   (ih (k+1) _ _ (fun j hj=>by have:=hl (j+1) (by simp;omega);simpa [Nat.add_assoc,Nat.add_comm 1 j] using this) (by simp only [List.length_cons] at hk;omega) (inv.set hr' hkn) hB.2 hK)
theorem Xu {id:Nat} {Q:Exit→Act→World→Prop} {a:Act} {w:World} {l:List Oper} (n:Nat) (hm:P.follows .mixedOrders=true) (hB:Region.lexTailB .any l.toArray n=true) (hC:C { w with drawn:=w.drawn+1 })
  (h:wpQuiet P l.toArray C (fun a'=>∀ w',C w'→wpList P l.toArray Q (l.drop n) a' w') (l.take n) a):(Code.region id l.toArray true).wp P Q a w:=by
 simp only [Region.lexTailB,Bool.and_eq_true,decide_eq_true_eq] at hB;obtain ⟨⟨⟨⟨hsel,hn⟩,hs⟩,hc⟩,hlex⟩:=hB;have hn':n<l.length:=by simpa using hn
 have htl:(l.take n).length=n:=by simp;omega
 have hdl:(l.drop n).length=l.toArray.size-n:=by simp
 have inv0:HeadInv .any l.toArray n (Array.replicate l.toArray.size false):=
  ⟨by simp,fun j oj _ hl=>(by rw [getD_replicate_false] at hl;cases hl),fun t _ ht=>getD_in (by simpa using ht) (getD_replicate_false _ _)⟩
 have H:=Af6 (md:=.any) (g:=l.toArray.size-n) hsel hs hc hn (l.take n) 0 _ a (fun j hj=>by
  have hj':j<n:=by rw [htl] at hj;exact hj
  simp [hj']) (by simpa using htl) inv0 (by rw [htl];exact hlex) h
 refine wp_region_any hm ?_;have:=Ajg (Q':=Q) (g:=l.toArray.size-n) (fun listed a' w' hw' hL=>by
  have:=wpAny_of_seq (md:=.any) (Q':=Q) (l.drop n) n listed a' w' (fun j=>by simp [List.getElem?_drop]) (by rw [hdl];exact hL.1) (hL.2 w' hw')
  rwa [hdl] at this) _ _ _ _ hC H
 rw [htl,show n+(l.toArray.size-n)=l.toArray.size by omega] at this;exact this
theorem Xx {Q:Exit→Act→World→Prop} (r:List Oper):∀ (l:List Oper) (a:Act) (w:World),C w→wpQuiet P ops C (fun a'=>∀ w',C w'→wpList P ops Q r a' w') l a→wpList P ops Q (l++r) a w:=by
 intro l;induction l with
 | nil=>intro a w hw h;exact h w hw
 | cons o l ih=>
  intro a w hw h;show if _ then _ else _
  unfold wpQuiet at h;split at h
  ·rename_i hwa
   rw [if_pos hwa];exact .inl (Oper.wp_of_quiet hw (fun a' w' hw' h'=>ih a' w' hw' h') h)
  ·rename_i hwa
   rw [if_neg hwa];exact ih _ _ hw h
theorem Xt {id:Nat} {Q:Exit→Act→World→Prop} {a:Act} {w:World} {l:List Oper} (n:Nat) (hC:C w)
  (h:wpQuiet P l.toArray C (fun a'=>∀ w',C w'→wpList P l.toArray Q (l.drop n) a' w') (l.take n) a):(Code.region id l.toArray false).wp P Q a w:=by
 refine wp_region_lit ?_;have:=Xx (l.drop n) (l.take n) a w hC h
 rwa [List.take_append_drop] at this
end
structure EW (w:World) where
 W:World
 ext:Ext w W
instance (w:World):Nonempty (EW w):=⟨⟨w,Ext.refl w⟩⟩
section
variable {P:Program}
theorem Da {id:Nat} {Q:Exit→Act→World→Prop} {a:Act} {w:World} {l:List Oper} (hm:P.follows .mixedOrders=true) (hB:Region.lexB .any l.toArray=true)
  (h:wpQuiet P l.toArray (fun W=>∃ e:EW w,W=e.W) (fun a'=>∀ w',(∃ e:EW w,w'=e.W)→Q .normal a' w') l a):(Code.region id l.toArray true).wp P Q a w:=
 wp_region_quiet (C:=fun W=>∃ e:EW w,W=e.W) hm hB ⟨⟨_,(Ext.refl w).drawn1⟩,rfl⟩ (by simpa using h)
theorem Aa5 {id:Nat} {Q:Exit→Act→World→Prop} {a:Act} {w:World} {l:List Oper} (n:Nat) (hm:P.follows .mixedOrders=true) (hB:Region.lexTailB .any l.toArray n=true)
  (h:wpQuiet P l.toArray (fun W=>∃ e:EW w,W=e.W) (fun a'=>∀ w',(∃ e:EW w,w'=e.W)→wpList P l.toArray Q (l.drop n) a' w') (l.take n) a):(Code.region id l.toArray true).wp P Q a w:=
 Xu (C:=fun W=>∃ e:EW w,W=e.W) n hm hB ⟨⟨_,(Ext.refl w).drawn1⟩,rfl⟩ h
theorem Aa4 {id:Nat} {Q:Exit→Act→World→Prop} {a:Act} {w:World} {l:List Oper} (n:Nat)
  (h:wpQuiet P l.toArray (fun W=>∃ e:EW w,W=e.W) (fun a'=>∀ w',(∃ e:EW w,w'=e.W)→wpList P l.toArray Q (l.drop n) a' w') (l.take n) a):(Code.region id l.toArray false).wp P Q a w:=
 Xt (C:=fun W=>∃ e:EW w,W=e.W) n ⟨⟨_,Ext.refl w⟩,rfl⟩ h
theorem F4 {f:FuncId} {args:Array Value} {w:World} {e0:EW w} {v:Value} (h:Calls P f args e0.W fun e w'=>e=.returned v∧Ext e0.W w') :
  Calls P f args e0.W fun e w''=>e=.returned v∧∃ e1:EW w,w''=e1.W:=
 h.mono fun _ w' ⟨he,hw⟩=>⟨he,⟨w',e0.ext.trans hw⟩,rfl⟩
end
open Go.RowKit Go.Shelf
theorem Lp {w:World} {B:Nat} {c:Cls} {t:TypeId} {fr:Nat × Nat} (h:w.heap[B]? = some (.cells (Aa c) t fr)) :
  (∀ e:EW w,e.W.cell? ⟨B,0,none⟩=some (.int .u64 (wd c 0)))∧(∀ e:EW w,e.W.cell? ⟨B,1,none⟩=some (.int .u64 (wd c 1)))∧
  (∀ e:EW w,e.W.cell? ⟨B,2,none⟩=some (.int .u64 (wd c 2)))∧(∀ e:EW w,e.W.cell? ⟨B,3,none⟩=some (.int .u64 (wd c 3))):=
 ⟨fun e=>(cell_of_row e.W _ 0 _ _ _ (e.ext.heap h)).trans rfl,fun e=>(cell_of_row e.W _ 1 _ _ _ (e.ext.heap h)).trans rfl,
  fun e=>(cell_of_row e.W _ 2 _ _ _ (e.ext.heap h)).trans rfl,fun e=>(cell_of_row e.W _ 3 _ _ _ (e.ext.heap h)).trans rfl⟩
theorem Aw {w:World} {p:Addr} {v:Value} (h:w.cell? p=some v):∀ e:EW w,e.W.cell? p=some v:=fun e=>e.ext.cell h
theorem Zm (x:Nat) (h:x<18446744073709551616) (h1:st1 x<18446744073709551616) :
  IntKind.u64.wrap (bits BinOp.and IntKind.u64 ((x:Int) / 2) 6148914691236517205+bits BinOp.and IntKind.u64 (x:Int) 6148914691236517205)=(st1 x:Int):=by
 rw [show ((x:Int) / 2)=((x / 2:Nat):Int) by omega,show (6148914691236517205:Int)=((6148914691236517205:Nat):Int) from rfl,u64_and_nat _ _ (by omega) (by omega),u64_and_nat _ _ h (by omega)];rw [IntKind.wrap_u64];unfold st1 at *;omega
theorem Zl (x:Nat) (h:x<18446744073709551616) (h1:st2 x<18446744073709551616) :
  IntKind.u64.wrap (bits BinOp.and IntKind.u64 ((x:Int) / 4) 3689348814741910323+bits BinOp.and IntKind.u64 (x:Int) 3689348814741910323)=(st2 x:Int):=by
 rw [show ((x:Int) / 4)=((x / 4:Nat):Int) by omega,show (3689348814741910323:Int)=((3689348814741910323:Nat):Int) from rfl,u64_and_nat _ _ (by omega) (by omega),u64_and_nat _ _ h (by omega)];rw [IntKind.wrap_u64];unfold st2 at *;omega
theorem Zk (x:Nat) (h:x≤4919131752989213764):bits BinOp.and IntKind.u64 ((x:Int) / 16+(x:Int)) 1085102592571150095=(st3 x:Int):=by
 rw [show ((x:Int) / 16+(x:Int))=((x / 16+x:Nat):Int) by omega,show (1085102592571150095:Int)=((1085102592571150095:Nat):Int) from rfl,u64_and_nat _ _ (by omega) (by omega)];rfl
theorem Zj (x:Nat) (h:x<9223372036854775808):bits BinOp.and IntKind.i64 (x:Int) 127=((x % 128:Nat):Int):=by
 show IntKind.i64.wrap ((BitVec.ofInt 64 (x:Int) &&& BitVec.ofInt 64 ((127:Nat):Int)).toNat:Int)=_;rw [BitVec.toNat_and,ofInt_u64 x (by omega),ofInt_u64 127 (by omega),show (127:Nat)=2 ^ 7-1 from rfl,Nat.and_two_pow_sub_one_eq_mod];exact IntWalk.i64_in _ ⟨by omega,by omega⟩
theorem Ac7 (x:Nat) (hx:x<18446744073709551616) (w:World) :
  Calls Tryz.prog 135 #[.int .u64 (x:Int)] w fun e w'=>e=.returned (.int .i64 (cnt x.testBit 64))∧w'=w:=by
 obtain ⟨h1,h2,h3,h4⟩:=Zi x hx;have H4:=Lib.hid h4;clear h4;go_enter Tryz.func135,Tryz.ntmps135;go_upto_region 1 with (fail)
 go_cut [0] (fun v W=>v=.int .u64 (st1 x:Int)∧W=w)
 case first=>
  go_wp2;go_meet
  exact ⟨by rw [Zm x hx h1],rfl⟩
 case rest=>
 obtain ⟨rfl,rfl⟩:=hcut;generalize st1 x=x1 at *;go_upto_region 2 with (fail)
 go_cut [0] (fun v W=>v=.int .u64 (st2 x1:Int)∧W=wc)
 case first=>
  go_wp2;go_meet
  exact ⟨by rw [Zl x1 h1 (by omega)],rfl⟩
 case rest=>
 obtain ⟨rfl,rfl⟩:=hcut;generalize st2 x1=x2 at *;go_upto_region 3 with (fail)
 go_cut [0] (fun v W=>v=.int .u64 (st3 x2:Int)∧W=wc)
 case first=>
  go_wp2;go_meet
  exact ⟨by rw [Zk x2 h2],rfl⟩
 case rest=>
 obtain ⟨rfl,rfl⟩:=hcut;generalize st3 x2=x3 at *;go_upto_region 4 with (fail)
 go_cut [0] (fun v W=>v=.int .u64 (st4 x3:Int)∧W=wc)
 case first=>
  go_wp2;go_meet
  exact ⟨by unfold st4;go_num,rfl⟩
 case rest=>
 obtain ⟨rfl,rfl⟩:=hcut;have h5:st4 x3≤1157442765409226768:=by unfold st4;omega
 generalize st4 x3=x4 at *;go_upto_region 5 with (fail)
 go_cut [0] (fun v W=>v=.int .u64 (st5 x4:Int)∧W=wc)
 case first=>
  go_wp2;go_meet
  exact ⟨by unfold st5;go_num,rfl⟩
 case rest=>
 obtain ⟨rfl,rfl⟩:=hcut;have h6:st5 x4≤1157492765409226768:=by unfold st5;omega
 generalize st5 x4=x5 at *;go_upto_region 6 with (fail)
 go_cut [0] (fun v W=>v=.int .u64 (st6 x5:Int)∧W=wc)
 case first=>
  go_wp2;go_meet
  exact ⟨by unfold st6;go_num,rfl⟩
 case rest=>
 obtain ⟨rfl,rfl⟩:=hcut;have h7:st6 x5≤1157500000000000000:=by unfold st6;omega
 generalize st6 x5=x6 at *;go_wp2;go_ret;exact ⟨Nn (by rw [Zj x6 (by omega),H4.out]),rfl⟩
def sz (c:Cls):Nat:=cnt c.getLsbD 256
theorem Yw (c:Cls):sz c≤256:=Ct _ _
theorem Ahp (c:Cls) (k:Nat):cnt c.getLsbD (64*(k+1))=cnt c.getLsbD (64*k)+cnt (wn c k).testBit 64:=by
 rw [show 64*(k+1)=64*k+64 by omega,V0]
 congr 1
 exact Ps _ _ _ fun i hi=>by rw [B8];simp [hi]
theorem Ac6 (c:Cls) (k:Nat) (w:World):Calls Tryz.prog 135 #[.int .u64 (wd c k)] w fun e w'=>e=.returned (.int .i64 (cnt (wn c k).testBit 64))∧w'=w:=
 Ac7 (wn c k) (B9 c k) w
theorem Ui (c:Cls) (k:Nat) (h:k<4) (w:World):(Instr.index 62 (.agg (Aa c)) (.int .i64 (k:Int))).run Tryz.prog w=.ok (.int .u64 (wd c k)) w:=by
 match k,h with
 | 0,_=>exact (by kernel_rfl:(Instr.index 62 (.agg (Aa c)) (.int .i64 ((0:Nat):Int))).run Tryz.prog w=.ok (.int .u64 (wd c 0)) w)
 | 1,_=>exact (by kernel_rfl:(Instr.index 62 (.agg (Aa c)) (.int .i64 ((1:Nat):Int))).run Tryz.prog w=.ok (.int .u64 (wd c 1)) w)
 | 2,_=>exact (by kernel_rfl:(Instr.index 62 (.agg (Aa c)) (.int .i64 ((2:Nat):Int))).run Tryz.prog w=.ok (.int .u64 (wd c 2)) w)
 | 3,_=>exact (by kernel_rfl:(Instr.index 62 (.agg (Aa c)) (.int .i64 ((3:Nat):Int))).run Tryz.prog w=.ok (.int .u64 (wd c 3)) w)
theorem Rz (c:Cls) (w:World) :
  Calls Tryz.prog 105 #[.agg (Aa c)] w fun e w'=>e=.returned (.int .i64 (sz c))∧Ext w w':=by
 have hA:=heap_alloc_new w (.cells (Aa c) 62);have hE:=(Ext.refl w).alloc (.cells (Aa c) 62);have HA:=Lib.hid hA;clear hA;go_enter Tryz.func105,Tryz.ntmps105;go_wp2_with (refine wpList_load_row rfl 62 (.tmp 1) rfl _ rfl _ _ _ _ HA.out Tryz.underlying62 rfl Au ?_);generalize w.alloc (.cells (Aa c) 62)=w1 at *;go_loop [3,7] (fun n i=>∃ k:Nat,k≤4∧i=.int .i64 k∧n=.int .i64 (cnt c.getLsbD (64*k):Nat)) (fun _ i=>4-(intOf i).toNat)
 case atStart=>exact ⟨0,by omega,rfl,rfl⟩
 case round=>
  obtain ⟨k,hk,rfl,rfl⟩:=hrel;by_cases hlt:k<4
  ·have hix:=Ui c k hlt;have hcon:=fun W=>Lib.hid (Ac6 c k W)
   have hb:=Ct c.getLsbD (64*k);have hb2:=Ct (wn c k).testBit 64;have HS:=Lib.hid (Ahp c k);generalize cnt (wn c k).testBit 64=y at *;generalize cnt c.getLsbD (64*k)=z at *;go_wp2_with (go_at_call 135;refine (hcon _).out.mono ?_;rintro e w' ⟨rfl,rfl⟩);go_round
   case rel=>exact ⟨k+1,by omega,by go_num,by rw [HS.out];go_num⟩
   case measure=>simp [intOf];omega
  ·obtain rfl:k=4:=by omega
   go_wp2;go_ret;exact ⟨rfl,hE⟩
def Dj (k c:Cls):List Cls:=[c &&& k,c &&& ~~~k].filter (· != 0#256)
def Cn (k:Cls) (L:List Cls):List Cls:=L.flatMap (Dj k)
def allC:Cls:= ~~~(0#256)
def Dy (l:List Cls):List Cls:=l.foldl (fun L k=>Cn k L) [allC]
theorem Ahq (p q r:Nat→Bool) (n:Nat) (h:∀ k,k<n→(p k).toNat=(q k).toNat+(r k).toNat):cnt p n=cnt q n+cnt r n:=by
 induction n with
 | zero=>rfl
 | succ n ih=>
  have h1:=ih (fun k hk=>h k (by omega));have h2:=h n (by omega);simp only [cnt];cases hp:p n<;>cases hq:q n<;>cases hr:r n<;>simp_all<;>omega
theorem Yv (k c:Cls):sz c=sz (c &&& k)+sz (c &&& ~~~k):=by
 unfold sz;refine Ahq _ _ _ 256 fun j hj=>?_
 simp only [BitVec.getLsbD_and,BitVec.getLsbD_not,hj,decide_true,Bool.true_and];cases c.getLsbD j<;>cases k.getLsbD j<;>rfl
theorem Aho {p:Nat→Bool} {n:Nat} (h:cnt p n=0):∀ k,k<n→p k=false:=by
 induction n with
 | zero=>intro k hk;omega
 | succ n ih=>
  simp only [cnt] at h;intro k hk;by_cases hkn:k=n
  ·subst hkn;cases hp:p k
   ·rfl
   ·rw [hp] at h;simp at h
  ·exact ih (by omega) k (by omega)
theorem Ri:sz 0#256=0:=by
 unfold sz;have:∀ n,cnt (0#256).getLsbD n=0:=fun n=>by
  induction n with
  | zero=>rfl
  | succ n ih=>simp [cnt,ih]
 exact this 256
theorem M5 (c:Cls):sz c=0↔c=0#256:=by
 refine ⟨fun h=>?_,fun h=>by rw [h];exact Ri⟩;apply BitVec.eq_of_getLsbD_eq;intro i hi;rw [Aho h i hi];simp
theorem Yx:sz allC=256:=by
 unfold sz allC;have:∀ n,n≤256→cnt (~~~(0#256)).getLsbD n=n:=fun n=>by
  induction n with
  | zero=>intro _;rfl
  | succ n ih=>
   intro hn;have:=ih (by omega);simp only [cnt,this,BitVec.getLsbD_not,BitVec.getLsbD_zero];simp;omega
 exact this 256 (Nat.le_refl _)
def szs (L:List Cls):Nat:=(L.map sz).sum
theorem M9 (k c:Cls):Dj k c=(if c &&& k=0#256 then [] else [c &&& k])++(if c &&& ~~~k=0#256 then [] else [c &&& ~~~k]):=by
 unfold Dj;generalize c &&& k=x;generalize c &&& ~~~k=y;by_cases h1:x=0#256<;>by_cases h2:y=0#256<;>simp [h1,h2]
theorem Yu (k c:Cls):szs (Dj k c)=sz c:=by
 rw [Yv k c];rw [M9];unfold szs;generalize c &&& k=x;generalize c &&& ~~~k=y;by_cases h1:x=0#256<;>by_cases h2:y=0#256<;>simp [h1,h2,Ri]
theorem Rh (L M:List Cls):szs (L++M)=szs L+szs M:=by simp [szs]
theorem Yt (k:Cls) (L:List Cls):szs (Cn k L)=szs L:=by
 induction L with
 | nil=>rfl
 | cons c L ih=>
  show szs (Dj k c++Cn k L)=szs ([c]++L);rw [Rh,Rh,Yu,ih];simp [szs]
theorem Zq (k c:Cls):∀ x∈Dj k c,x≠0#256:=by
 intro x hx
 simpa using (List.mem_filter.1 hx).2
theorem Rt (k:Cls) (L:List Cls):∀ x∈Cn k L,x≠0#256:=by
 intro x hx;obtain ⟨c,_,hc⟩:=List.mem_flatMap.1 hx;exact Zq k c x hc
def Full (L:List Cls):Prop:=szs L=256∧∀ c∈L,c≠0#256
theorem full_one:Full [allC]:=⟨by simp [szs,Yx],fun c hc=>by simp at hc;subst hc;decide⟩
theorem Full.split {L:List Cls} (h:Full L) (k:Cls):Full (Cn k L):=⟨by rw [Yt,h.1],Rt k L⟩
theorem Ae5 (L:List Cls) (h:∀ c∈L,c≠0#256):L.length≤szs L:=by
 induction L with
 | nil=>simp
 | cons c L ih=>
  have h1:=ih (fun x hx=>h x (by simp [hx]));have h2:sz c≠0:=fun e=>h c (by simp) ((M5 c).1 e)
  simp only [szs,List.map_cons,List.sum_cons,List.length_cons] at *;omega
theorem Full.len {L:List Cls} (h:Full L):L.length≤256:=by rw [← h.1];exact Ae5 L h.2
theorem Full.pos {L:List Cls} (h:Full L):0<L.length:=by
 cases L with
 | nil=>exact absurd h.1 (by simp [szs])
 | cons=>simp
theorem Uv (l:List Cls):Full (Dy l):=by
 have:∀ (l:List Cls) (L:List Cls),Full L→Full (l.foldl (fun L k=>Cn k L) L):=fun l=>by
  induction l with
  | nil=>intro L h;exact h
  | cons k l ih=>intro L h;exact ih _ (h.split k)
 exact this l _ full_one
theorem Ah1 (l:List Cls) (k:Nat) (h:k<l.length):Dy (l.take (k+1))=Cn (l.getD k 0#256) (Dy (l.take k)):=by
 have e:l.take (k+1)=l.take k++[l.getD k 0#256]:=by
  rw [List.take_add_one];congr 1;simp [List.getElem?_eq_getElem h]
 rw [e];simp [Dy,List.foldl_append]
theorem Zn (k:Cls) (L:List Cls) (j:Nat) (h:j<L.length):Cn k (L.take (j+1))=Cn k (L.take j)++Dj k (L.getD j 0#256):=by
 have e:L.take (j+1)=L.take j++[L.getD j 0#256]:=by
  rw [List.take_add_one];congr 1;simp [List.getElem?_eq_getElem h]
 rw [e];simp [Cn,List.flatMap_append]
theorem Zr (k c:Cls):(Dj k c).length≤2:=by
 rw [M9];split<;>split<;>simp
theorem Zo (k:Cls) (L:List Cls):(Cn k L).length≤2*L.length:=by
 induction L with
 | nil=>simp [Cn]
 | cons c L ih=>
  have:=Zr k c;show (Dj k c++Cn k L).length≤_;simp only [List.length_append,List.length_cons];omega
theorem O9:(Tryz.prog.info? 5).map (fun i=>(i.zero,i.size,i.bytes))=some (some (.int .u8 0),1,1):=by kernel_rfl
def Bh (l:List UInt8):Int:=match l with|[]=>-1|x::_=>(x.toNat:Int)
def Cs (W:World) (v:Value) (l:List Cls):Prop:=Sl W v 4 l.length (fun i=>.int .u64 (wd (l.getD (i / 4) 0#256) (i % 4)))
theorem Cs.ext {W W':World} {v:Value} {l:List Cls} (h:Cs W v l) (hE:Ext W W'):Cs W' v l:=Sl.ext h hE
theorem Jk {W:World} {b off:Nat} {l:List Cls} (h:∀ i,i<l.length*4→W.cell? ⟨b,off+i,none⟩=some (.int .u64 (wd (l.getD (i / 4) 0#256) (i % 4)))) (k:Nat) (hk:k<l.length) :
  (∀ e:EW W,e.W.cell? ⟨b,off+k*4,none⟩=some (.int .u64 (wd (l.getD k 0#256) 0)))∧(∀ e:EW W,e.W.cell? ⟨b,off+k*4+1,none⟩=some (.int .u64 (wd (l.getD k 0#256) 1)))∧
  (∀ e:EW W,e.W.cell? ⟨b,off+k*4+2,none⟩=some (.int .u64 (wd (l.getD k 0#256) 2)))∧(∀ e:EW W,e.W.cell? ⟨b,off+k*4+3,none⟩=some (.int .u64 (wd (l.getD k 0#256) 3))):=by
 have H:∀ j,j<4→W.cell? ⟨b,off+k*4+j,none⟩=some (.int .u64 (wd (l.getD k 0#256) j)):=fun j hj=>by
  have:=h (k*4+j) (by omega)
  rwa [show (k*4+j) / 4=k by omega,show (k*4+j) % 4=j by omega,← Nat.add_assoc] at this
 exact ⟨Aw (H 0 (by omega)),Aw (H 1 (by omega)),Aw (H 2 (by omega)),Aw (H 3 (by omega))⟩
set_option maxRecDepth 100000 in
theorem Xd (l:List Cls) (x y:Int) (hx0:0≤x) (hx:x<256) (hy0:0≤y) (hy:y<256) (hl:l.length≤4611686018427387904) (a:Option Addr) (b off cap:Nat) (w:World) (ha:0<l.length→a=some ⟨b,off,none⟩)
  (hc:∀ i,i<l.length*4→w.cell? ⟨b,off+i,none⟩=some (.int .u64 (wd (l.getD (i / 4) 0#256) (i % 4)))) :
  Calls Tryz.prog 123 #[.slice a l.length cap,.int .u8 x,.int .u8 y] w fun e w'=>e=.returned (.bool (l.all fun c=>Bb c x==Bb c y))∧Ext w w':=by
 go_enter Tryz.func123,Tryz.ntmps123;go_wp2_with (fail);go_loopw [7] (fun i W=>∃ k:Nat,k≤l.length∧i=.int .i64 k∧Ext w W∧Hid (∀ j,j<k→Bb (l.getD j 0#256) x=Bb (l.getD j 0#256) y))
  (fun i _=>l.length-(intOf i).toNat)
 case atStart=>exact ⟨0,by omega,rfl,Ext.refl w,Lib.hid (fun j hj=>by omega)⟩
 case round=>
  obtain ⟨k,hk,rfl,hE,hall⟩:=hrel;by_cases hlt:k<l.length
  ·have e:=ha (by omega);obtain ⟨a0,a1,a2,a3⟩:=Jk (W:=wr) (fun i hi=>hE.cell (hc i hi)) k hlt;clear ha hc;subst e;obtain ⟨c,hcd⟩:∃ c,l.getD k 0#256=c:=⟨_,rfl⟩;rw [hcd] at a0 a1 a2 a3;have HCd:=Lib.hid hcd;clear hcd;go_upto_region 4 with (fail)
   have h1:=fun (W:World)=>Lib.hid (Sm c x hx0 hx W)
   have h2:=fun (W:World)=>Lib.hid (Sm c y hy0 hy W)
   generalize hm1:Bb c x=m1 at h1;generalize hm2:Bb c y=m2 at h2;have HM1:=Lib.hid hm1;have HM2:=Lib.hid hm2;clear hm1 hm2;go_cut [26] (fun v W=>v=.bool (m1 != m2)∧∃ e:EW wr,W=e.W)
   case first=>
    refine Da (by kernel_rfl) (by kernel_rfl) ?_;iterate 13 (refine wpQuiet_step (fun K hK=>?_);go_simp;first|(refine hK _ ?_;clear hK K)|(apply Exists.intro;refine ⟨fun _=>?_,hK _ ?_⟩;(first|(with_reducible exact F4 (h1 _).out)|(with_reducible exact F4 (h2 _).out));clear hK K))
    refine wpQuiet_nil ?_;rintro _ ⟨e,rfl⟩;go_wp2;go_meet
    exact ⟨rfl,e,rfl⟩
   case rest=>
    obtain ⟨rfl,e,rfl⟩:=hcut;clear a0 a1 a2 a3 h1 h2;have hE':=hE.trans e.ext;generalize e.W=w1 at *;generalize hmm:(m1 != m2)=mm at *;have HMM:=Lib.hid hmm;clear hmm;cases mm
    ·go_wp2;go_roundw
     case rel=>exact ⟨k+1,by omega,by go_num,hE',Lib.hid (fun j hj=>by
      by_cases hjk:j=k
      ·subst hjk;rw [HCd.out,HM1.out,HM2.out];simpa using HMM.out
      ·exact hall.out j (by omega))⟩
     case measure=>simp [intOf];omega
    ·have hf:(l.all fun c=>Bb c x==Bb c y)=false:=by
      rw [List.all_eq_false];refine ⟨c,?_,by rw [HM1.out,HM2.out];simpa using HMM.out⟩;rw [← HCd.out,List.getD_eq_getElem?_getD,List.getElem?_eq_getElem hlt];exact List.getElem_mem hlt
     have HF:=Lib.hid hf;clear hf;go_wp2;go_ret;exact ⟨Hf HF.out.symm,hE'⟩
  ·obtain rfl:k=l.length:=by omega
   have hf:(l.all fun c=>Bb c x==Bb c y)=true:=by
    rw [List.all_eq_true];intro c hcm;obtain ⟨j,hj,rfl⟩:=List.mem_iff_getElem.1 hcm;have:=hall.out j hj;rw [List.getD_eq_getElem?_getD,List.getElem?_eq_getElem hj] at this
    simpa using this
   have HF:=Lib.hid hf;clear hf hall;go_wp2;go_ret;exact ⟨Hf HF.out.symm,hE⟩
theorem Ajq (l:List Cls) (v:Value) (x y:Int) (hx0:0≤x) (hx:x<256) (hy0:0≤y) (hy:y<256) (w:World) (h:Cs w v l) :
  Calls Tryz.prog 123 #[v,.int .u8 x,.int .u8 y] w fun e w'=>e=.returned (.bool (l.all fun c=>Bb c x==Bb c y))∧Ext w w':=by
 obtain ⟨h0,⟨hn,a,cap,rfl⟩|⟨hn,b,off,cap,rfl,hb,hc⟩⟩:=h
 ·have:=Xd l x y hx0 hx hy0 hy (by omega) a 0 0 cap w (by omega) (fun i hi=>by omega)
  rwa [hn] at this
 ·exact Xd l x y hx0 hx hy0 hy h0 (some ⟨b,off,none⟩) b off cap w (fun _=>rfl) hc
def Fy (l:List Cls) (b:Int):Int:=match l.findIdx? (fun c=>Bb c b) with|some i=>(i:Int)|none=>-1
theorem Uk (l:List Cls) (b:Int) (k:Nat) (hk:k<l.length) (h:Bb (l.getD k 0#256) b=true) (hne:∀ j,j<k→Bb (l.getD j 0#256) b=false):Fy l b=k:=by
 have:l.findIdx? (fun c=>Bb c b)=some k:=by
  rw [List.findIdx?_eq_some_iff_getElem];refine ⟨hk,by rwa [List.getD_eq_getElem?_getD,List.getElem?_eq_getElem hk] at h,fun j hj=>?_⟩;have h1:=hne j hj;rw [List.getD_eq_getElem?_getD,List.getElem?_eq_getElem (by omega)] at h1
  simpa using h1
 unfold Fy;rw [this]
theorem Af1 (l:List Cls) (b:Int) (hne:∀ j,j<l.length→Bb (l.getD j 0#256) b=false):Fy l b=-1:=by
 have:l.findIdx? (fun c=>Bb c b)=none:=by
  rw [List.findIdx?_eq_none_iff];intro c hc;obtain ⟨j,hj,rfl⟩:=List.mem_iff_getElem.1 hc;have h1:=hne j hj
  rwa [List.getD_eq_getElem?_getD,List.getElem?_eq_getElem hj] at h1
 unfold Fy;rw [this]
theorem u8n (k:Nat) (h:k<256):(UInt8.ofNat k).toNat=k:=by simp;omega
theorem Tw (c:Cls) (k:Nat) (hk:k≤256) (x:UInt8):x∈Al c k↔x.toNat<k∧c.getLsbD x.toNat=true:=by
 induction k with
 | zero=>simp [Al]
 | succ k ih=>
  have ih:=ih (by omega);have hx:x=UInt8.ofNat k↔x.toNat=k:=by
   rw [← UInt8.toNat_inj,u8n k (by omega)]
  simp only [Al];split
  ·rename_i h
   rw [List.mem_append,ih,List.mem_singleton,hx];constructor
   ·rintro (⟨h1,h2⟩|h1)
    ·exact ⟨by omega,h2⟩
    ·exact ⟨by omega,by rw [h1];exact h⟩
   ·rintro ⟨h1,h2⟩;by_cases h3:x.toNat=k
    ·exact .inr h3
    ·exact .inl ⟨by omega,h2⟩
  ·rename_i h
   rw [ih];constructor
   ·rintro ⟨h1,h2⟩;exact ⟨by omega,h2⟩
   ·rintro ⟨h1,h2⟩;refine ⟨?_,h2⟩;by_cases h3:x.toNat=k
    ·rw [h3] at h2;exact absurd h2 h
    ·omega
theorem K9 (c:Cls) (x:UInt8):x∈Al c 256↔c.getLsbD x.toNat=true:=by
 rw [Tw c 256 (Nat.le_refl _)];exact ⟨fun h=>h.2,fun h=>⟨x.toNat_lt,h⟩⟩
theorem Ho (c:Cls) (h:c≠0#256):0≤Bh (Al c 256)∧Bh (Al c 256)<256∧c.getLsbD (Bh (Al c 256)).toNat=true:=by
 cases hb:Al c 256 with
 | nil=>
  exfalso;apply h
  apply BitVec.eq_of_getLsbD_eq;intro i hi;rw [BitVec.getLsbD_zero];cases hc:c.getLsbD i
  ·rfl
  ·have:=(K9 c (UInt8.ofNat i)).2 (by rw [u8n i hi];exact hc);rw [hb] at this;cases this
 | cons x t=>
  have hx:=(K9 c x).1 (by rw [hb];exact List.mem_cons_self);have:=x.toNat_lt;simp only [Bh];exact ⟨by omega,by omega,by simpa using hx⟩
def Dis (a b:Cls):Prop:=∀ i,¬ (a.getLsbD i=true∧b.getLsbD i=true)
theorem Ru (k c x:Cls) (h:x∈Dj k c) (i:Nat) (hi:x.getLsbD i=true):c.getLsbD i=true:=by
 have:=(List.mem_filter.1 h).1;simp only [List.mem_cons,List.not_mem_nil,or_false] at this;rcases this with rfl|rfl<;>(rw [BitVec.getLsbD_and] at hi;simp only [Bool.and_eq_true] at hi;exact hi.1)
theorem Zs (k c:Cls):(Dj k c).Pairwise Dis:=by
 unfold Dj;refine List.Pairwise.filter _ ?_;refine List.Pairwise.cons (fun y hy=>?_) (List.pairwise_singleton _ _);simp only [List.mem_singleton] at hy;subst hy;rintro i ⟨h1,h2⟩;simp only [BitVec.getLsbD_and,BitVec.getLsbD_not,Bool.and_eq_true,Bool.not_eq_true'] at h1 h2;rw [h1.2] at h2;exact absurd h2.2.2 (by simp)
theorem Zp (k:Cls) (L:List Cls) (h:L.Pairwise Dis):(Cn k L).Pairwise Dis:=by
 unfold Cn;rw [List.pairwise_flatMap];refine ⟨fun c _=>Zs k c,h.imp ?_⟩;intro a b hab x hx y hy i ⟨h1,h2⟩;exact hab i ⟨Ru k a x hx i h1,Ru k b y hy i h2⟩
def key (c:Cls):Int:=Bh (Al c 256)
theorem Dis.symm {a b:Cls} (h:Dis a b):Dis b a:=fun i ⟨h1,h2⟩=>h i ⟨h2,h1⟩
theorem Afj {L:List Cls} (hd:L.Pairwise Dis) (hz:∀ c∈L,c≠0#256) (a b:Cls) (ha:a∈L) (hb:b∈L) (h:key a=key b):a=b:=by
 have h1:=(Ho a (hz a ha)).2.2;have h2:=(Ho b (hz b hb)).2.2;apply Classical.byContradiction;intro hne;have hd':Dis a b:=by
  obtain ⟨s,t,rfl⟩:=List.append_of_mem ha;rw [List.mem_append,List.mem_cons] at hb;rcases hb with hb|hb|hb
  ·exact ((List.pairwise_append.1 hd).2.2 b hb a List.mem_cons_self).symm
  ·exact absurd hb.symm hne
  ·exact (List.pairwise_cons.1 (List.pairwise_append.1 hd).2.1).1 b hb
 unfold key at h;rw [← h] at h2;exact hd' _ ⟨h1,h2⟩
def Jn (l:List Cls):List Cls:=(Dy l).mergeSort fun a b=>decide (key a≤key b)
theorem Ah3 (l:List Cls):(Jn l).Perm (Dy l):=List.mergeSort_perm _ _
theorem Ah2 (l:List Cls):(Jn l).Pairwise fun a b=>key a≤key b:=by
 have:=List.pairwise_mergeSort (le:=fun a b:Cls=>decide (key a≤key b)) (fun a b c h1 h2=>by simp only [decide_eq_true_eq] at *;omega) (fun a b=>by simp only [Bool.or_eq_true,decide_eq_true_eq];omega) (Dy l);exact this.imp (fun h=>of_decide_eq_true h)
end Go.Proofs.YtaiogolidlamiaaGreatDoor
