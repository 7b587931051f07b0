import Derived.Test.YtaiogolidlamiaaGreatDoorM04
import Derived.Maps.AppendAt
set_option linter.unusedVariables false
set_option linter.unusedSimpArgs false
namespace Go.Proofs.YtaiogolidlamiaaGreatDoor
set_option maxRecDepth 100000
open Go.RowKit Go.Shelf
theorem Xw (x:Nat) (h:x<18446744073709551616) (h1:st1 x<18446744073709551616) :
  IntKind.u64.wrap (bits BinOp.and IntKind.u64 ((x:Int) / 2) 6148914691236517205+bits BinOp.and IntKind.u64 (x:Int) 6148914691236517205)=(st1 x:Int):=by
 rw [show ((x:Int) / 2)=((x / 2:Nat):Int) by omega,show (6148914691236517205:Int)=((6148914691236517205:Nat):Int) from rfl,u64_and_nat _ _ (by omega) (by omega),u64_and_nat _ _ h (by omega)];rw [IntKind.wrap_u64];unfold st1 at *;omega
theorem Xv (x:Nat) (h:x<18446744073709551616) (h1:st2 x<18446744073709551616) :
  IntKind.u64.wrap (bits BinOp.and IntKind.u64 ((x:Int) / 4) 3689348814741910323+bits BinOp.and IntKind.u64 (x:Int) 3689348814741910323)=(st2 x:Int):=by
 rw [show ((x:Int) / 4)=((x / 4:Nat):Int) by omega,show (3689348814741910323:Int)=((3689348814741910323:Nat):Int) from rfl,u64_and_nat _ _ (by omega) (by omega),u64_and_nat _ _ h (by omega)];rw [IntKind.wrap_u64];unfold st2 at *;omega
theorem Xu (x:Nat) (h:x≤4919131752989213764):bits BinOp.and IntKind.u64 ((x:Int) / 16+(x:Int)) 1085102592571150095=(st3 x:Int):=by
 rw [show ((x:Int) / 16+(x:Int))=((x / 16+x:Nat):Int) by omega,show (1085102592571150095:Int)=((1085102592571150095:Nat):Int) from rfl,u64_and_nat _ _ (by omega) (by omega)];rfl
theorem Xt (x:Nat) (h:x<9223372036854775808):bits BinOp.and IntKind.i64 (x:Int) 127=((x % 128:Nat):Int):=by
 show IntKind.i64.wrap ((BitVec.ofInt 64 (x:Int) &&& BitVec.ofInt 64 ((127:Nat):Int)).toNat:Int)=_;rw [BitVec.toNat_and,ofInt_u64 x (by omega),ofInt_u64 127 (by omega),show (127:Nat)=2 ^ 7-1 from rfl,Nat.and_two_pow_sub_one_eq_mod];exact IntWalk.i64_in _ ⟨by omega,by omega⟩
theorem Aa9 (x:Nat) (hx:x<18446744073709551616) (w:World) :
  Calls Tryz.prog 135 #[.int .u64 (x:Int)] w fun e w'=>e=.returned (.int .i64 (cnt x.testBit 64))∧w'=w:=by
 obtain ⟨h1,h2,h3,h4⟩:=Xs x hx;have H4:=Lib.hid h4;clear h4;go_enter Tryz.func135,Tryz.ntmps135;go_upto_region 1 with (fail)
 go_cut [0] (fun v W=>v=.int .u64 (st1 x:Int)∧W=w)
 case first=>
  go_wp2;go_meet
  exact ⟨by rw [Xw x hx h1],rfl⟩
 case rest=>
 obtain ⟨rfl,rfl⟩:=hcut;generalize st1 x=x1 at *;go_upto_region 2 with (fail)
 go_cut [0] (fun v W=>v=.int .u64 (st2 x1:Int)∧W=wc)
 case first=>
  go_wp2;go_meet
  exact ⟨by rw [Xv x1 h1 (by omega)],rfl⟩
 case rest=>
 obtain ⟨rfl,rfl⟩:=hcut;generalize st2 x1=x2 at *;go_upto_region 3 with (fail)
 go_cut [0] (fun v W=>v=.int .u64 (st3 x2:Int)∧W=wc)
 case first=>
  go_wp2;go_meet
  exact ⟨by rw [Xu x2 h2],rfl⟩
 case rest=>
 obtain ⟨rfl,rfl⟩:=hcut;generalize st3 x2=x3 at *;go_upto_region 4 with (fail)
 go_cut [0] (fun v W=>v=.int .u64 (st4 x3:Int)∧W=wc)
 case first=>
  go_wp2;go_meet
  exact ⟨by unfold st4;go_num,rfl⟩
 case rest=>
 obtain ⟨rfl,rfl⟩:=hcut;have h5:st4 x3≤1157442765409226768:=by unfold st4;omega
 generalize st4 x3=x4 at *;go_upto_region 5 with (fail)
 go_cut [0] (fun v W=>v=.int .u64 (st5 x4:Int)∧W=wc)
 case first=>
  go_wp2;go_meet
  exact ⟨by unfold st5;go_num,rfl⟩
 case rest=>
 obtain ⟨rfl,rfl⟩:=hcut;have h6:st5 x4≤1157492765409226768:=by unfold st5;omega
 generalize st5 x4=x5 at *;go_upto_region 6 with (fail)
 go_cut [0] (fun v W=>v=.int .u64 (st6 x5:Int)∧W=wc)
 case first=>
  go_wp2;go_meet
  exact ⟨by unfold st6;go_num,rfl⟩
 case rest=>
 obtain ⟨rfl,rfl⟩:=hcut;have h7:st6 x5≤1157500000000000000:=by unfold st6;omega
 generalize st6 x5=x6 at *;go_wp2;go_ret;exact ⟨Mi (by rw [Xt x6 (by omega),H4.out]),rfl⟩
def sz (c:Cls):Nat:=cnt c.getLsbD 256
theorem Xb (c:Cls):sz c≤256:=Cq _ _
theorem Af3 (c:Cls) (k:Nat):cnt c.getLsbD (64*(k+1))=cnt c.getLsbD (64*k)+cnt (wn c k).testBit 64:=by
 rw [show 64*(k+1)=64*k+64 by omega,Ub]
 congr 1
 exact Oe _ _ _ fun i hi=>by rw [B8];simp [hi]
theorem Aa8 (c:Cls) (k:Nat) (w:World):Calls Tryz.prog 135 #[.int .u64 (wd c k)] w fun e w'=>e=.returned (.int .i64 (cnt (wn c k).testBit 64))∧w'=w:=
 Aa9 (wn c k) (C8 c k) w
theorem Sy (c:Cls) (k:Nat) (h:k<4) (w:World):(Instr.index 62 (.agg (Aa c)) (.int .i64 (k:Int))).run Tryz.prog w=.ok (.int .u64 (wd c k)) w:=by
 match k,h with
 | 0,_=>exact (by kernel_rfl:(Instr.index 62 (.agg (Aa c)) (.int .i64 ((0:Nat):Int))).run Tryz.prog w=.ok (.int .u64 (wd c 0)) w)
 | 1,_=>exact (by kernel_rfl:(Instr.index 62 (.agg (Aa c)) (.int .i64 ((1:Nat):Int))).run Tryz.prog w=.ok (.int .u64 (wd c 1)) w)
 | 2,_=>exact (by kernel_rfl:(Instr.index 62 (.agg (Aa c)) (.int .i64 ((2:Nat):Int))).run Tryz.prog w=.ok (.int .u64 (wd c 2)) w)
 | 3,_=>exact (by kernel_rfl:(Instr.index 62 (.agg (Aa c)) (.int .i64 ((3:Nat):Int))).run Tryz.prog w=.ok (.int .u64 (wd c 3)) w)
theorem Qc (c:Cls) (w:World) :
  Calls Tryz.prog 105 #[.agg (Aa c)] w fun e w'=>e=.returned (.int .i64 (sz c))∧Ext w w':=by
 have hA:=heap_alloc_new w (.cells (Aa c) 62);have hE:=(Ext.refl w).alloc (.cells (Aa c) 62);have HA:=Lib.hid hA;clear hA;go_enter Tryz.func105,Tryz.ntmps105;go_wp2_with (refine wpList_load_row rfl 62 (.tmp 1) rfl _ rfl _ _ _ _ HA.out Tryz.underlying62 rfl A3 ?_);generalize w.alloc (.cells (Aa c) 62)=w1 at *;go_loop [3,7] (fun n i=>∃ k:Nat,k≤4∧i=.int .i64 k∧n=.int .i64 (cnt c.getLsbD (64*k):Nat)) (fun _ i=>4-(intOf i).toNat)
 case atStart=>exact ⟨0,by omega,rfl,rfl⟩
 case round=>
  obtain ⟨k,hk,rfl,rfl⟩:=hrel;by_cases hlt:k<4
  ·have hix:=Sy c k hlt;have hcon:=fun W=>Lib.hid (Aa8 c k W)
   have hb:=Cq c.getLsbD (64*k);have hb2:=Cq (wn c k).testBit 64;have HS:=Lib.hid (Af3 c k);generalize cnt (wn c k).testBit 64=y at *;generalize cnt c.getLsbD (64*k)=z at *;go_wp2_with (go_at_call 135;refine (hcon _).out.mono ?_;rintro e w' ⟨rfl,rfl⟩);go_round
   case rel=>exact ⟨k+1,by omega,by go_num,by rw [HS.out];go_num⟩
   case measure=>simp [intOf];omega
  ·obtain rfl:k=4:=by omega
   go_wp2;go_ret;exact ⟨rfl,hE⟩
def Db (k c:Cls):List Cls:=[c &&& k,c &&& ~~~k].filter (· != 0#256)
def Cl (k:Cls) (L:List Cls):List Cls:=L.flatMap (Db k)
def allC:Cls:= ~~~(0#256)
def Dm (l:List Cls):List Cls:=l.foldl (fun L k=>Cl k L) [allC]
theorem Af4 (p q r:Nat→Bool) (n:Nat) (h:∀ k,k<n→(p k).toNat=(q k).toNat+(r k).toNat):cnt p n=cnt q n+cnt r n:=by
 induction n with
 | zero=>rfl
 | succ n ih=>
  have h1:=ih (fun k hk=>h k (by omega));have h2:=h n (by omega);simp only [cnt];cases hp:p n<;>cases hq:q n<;>cases hr:r n<;>simp_all<;>omega
theorem Xa (k c:Cls):sz c=sz (c &&& k)+sz (c &&& ~~~k):=by
 unfold sz;refine Af4 _ _ _ 256 fun j hj=>?_
 simp only [BitVec.getLsbD_and,BitVec.getLsbD_not,hj,decide_true,Bool.true_and];cases c.getLsbD j<;>cases k.getLsbD j<;>rfl
theorem Af2 {p:Nat→Bool} {n:Nat} (h:cnt p n=0):∀ k,k<n→p k=false:=by
 induction n with
 | zero=>intro k hk;omega
 | succ n ih=>
  simp only [cnt] at h;intro k hk;by_cases hkn:k=n
  ·subst hkn;cases hp:p k
   ·rfl
   ·rw [hp] at h;simp at h
  ·exact ih (by omega) k (by omega)
theorem Pv:sz 0#256=0:=by
 unfold sz;have:∀ n,cnt (0#256).getLsbD n=0:=fun n=>by
  induction n with
  | zero=>rfl
  | succ n ih=>simp [cnt,ih]
 exact this 256
theorem L3 (c:Cls):sz c=0↔c=0#256:=by
 refine ⟨fun h=>?_,fun h=>by rw [h];exact Pv⟩;apply BitVec.eq_of_getLsbD_eq;intro i hi;rw [Af2 h i hi];simp
theorem Xc:sz allC=256:=by
 unfold sz allC;have:∀ n,n≤256→cnt (~~~(0#256)).getLsbD n=n:=fun n=>by
  induction n with
  | zero=>intro _;rfl
  | succ n ih=>
   intro hn;have:=ih (by omega);simp only [cnt,this,BitVec.getLsbD_not,BitVec.getLsbD_zero];simp;omega
 exact this 256 (Nat.le_refl _)
def szs (L:List Cls):Nat:=(L.map sz).sum
theorem L7 (k c:Cls):Db k c=(if c &&& k=0#256 then [] else [c &&& k])++(if c &&& ~~~k=0#256 then [] else [c &&& ~~~k]):=by
 unfold Db;generalize c &&& k=x;generalize c &&& ~~~k=y;by_cases h1:x=0#256<;>by_cases h2:y=0#256<;>simp [h1,h2]
theorem W9 (k c:Cls):szs (Db k c)=sz c:=by
 rw [Xa k c];rw [L7];unfold szs;generalize c &&& k=x;generalize c &&& ~~~k=y;by_cases h1:x=0#256<;>by_cases h2:y=0#256<;>simp [h1,h2,Pv]
theorem Pu (L M:List Cls):szs (L++M)=szs L+szs M:=by simp [szs]
theorem W8 (k:Cls) (L:List Cls):szs (Cl k L)=szs L:=by
 induction L with
 | nil=>rfl
 | cons c L ih=>
  show szs (Db k c++Cl k L)=szs ([c]++L);rw [Pu,Pu,W9,ih];simp [szs]
theorem X0 (k c:Cls):∀ x∈Db k c,x≠0#256:=by
 intro x hx
 simpa using (List.mem_filter.1 hx).2
theorem P7 (k:Cls) (L:List Cls):∀ x∈Cl k L,x≠0#256:=by
 intro x hx;obtain ⟨c,_,hc⟩:=List.mem_flatMap.1 hx;exact X0 k c x hc
def Full (L:List Cls):Prop:=szs L=256∧∀ c∈L,c≠0#256
theorem full_one:Full [allC]:=⟨by simp [szs,Xc],fun c hc=>by simp at hc;subst hc;decide⟩
theorem Full.split {L:List Cls} (h:Full L) (k:Cls):Full (Cl k L):=⟨by rw [W8,h.1],P7 k L⟩
theorem Add (L:List Cls) (h:∀ c∈L,c≠0#256):L.length≤szs L:=by
 induction L with
 | nil=>simp
 | cons c L ih=>
  have h1:=ih (fun x hx=>h x (by simp [hx]));have h2:sz c≠0:=fun e=>h c (by simp) ((L3 c).1 e)
  simp only [szs,List.map_cons,List.sum_cons,List.length_cons] at *;omega
theorem Full.len {L:List Cls} (h:Full L):L.length≤256:=by rw [← h.1];exact Add L h.2
theorem Full.pos {L:List Cls} (h:Full L):0<L.length:=by
 cases L with
 | nil=>exact absurd h.1 (by simp [szs])
 | cons=>simp
theorem Tc (l:List Cls):Full (Dm l):=by
 have:∀ (l:List Cls) (L:List Cls),Full L→Full (l.foldl (fun L k=>Cl k L) L):=fun l=>by
  induction l with
  | nil=>intro L h;exact h
  | cons k l ih=>intro L h;exact ih _ (h.split k)
 exact this l _ full_one
theorem Age (l:List Cls) (k:Nat) (h:k<l.length):Dm (l.take (k+1))=Cl (l.getD k 0#256) (Dm (l.take k)):=by
 have e:l.take (k+1)=l.take k++[l.getD k 0#256]:=by
  rw [List.take_add_one];congr 1;simp [List.getElem?_eq_getElem h]
 rw [e];simp [Dm,List.foldl_append]
theorem Xx (k:Cls) (L:List Cls) (j:Nat) (h:j<L.length):Cl k (L.take (j+1))=Cl k (L.take j)++Db k (L.getD j 0#256):=by
 have e:L.take (j+1)=L.take j++[L.getD j 0#256]:=by
  rw [List.take_add_one];congr 1;simp [List.getElem?_eq_getElem h]
 rw [e];simp [Cl,List.flatMap_append]
theorem X1 (k c:Cls):(Db k c).length≤2:=by
 rw [L7];split<;>split<;>simp
theorem Xy (k:Cls) (L:List Cls):(Cl k L).length≤2*L.length:=by
 induction L with
 | nil=>simp [Cl]
 | cons c L ih=>
  have:=X1 k c;show (Db k c++Cl k L).length≤_;simp only [List.length_append,List.length_cons];omega
theorem Ny:(Tryz.prog.info? 5).map (fun i=>(i.zero,i.size,i.bytes))=some (some (.int .u8 0),1,1):=by kernel_rfl
def Bj (l:List UInt8):Int:=match l with|[]=>-1|x::_=>(x.toNat:Int)
def Cs (W:World) (v:Value) (l:List Cls):Prop:=Sl W v 4 l.length (fun i=>.int .u64 (wd (l.getD (i / 4) 0#256) (i % 4)))
theorem Cs.ext {W W':World} {v:Value} {l:List Cls} (h:Cs W v l) (hE:Ext W W'):Cs W' v l:=Sl.ext h hE
theorem Oc {W:World} {b off:Nat} {l:List Cls} (h:∀ i,i<l.length*4→W.cell? ⟨b,off+i,none⟩=some (.int .u64 (wd (l.getD (i / 4) 0#256) (i % 4)))) (k:Nat) (hk:k<l.length) :
  (∀ e:EW W,e.W.cell? ⟨b,off+k*4,none⟩=some (.int .u64 (wd (l.getD k 0#256) 0)))∧(∀ e:EW W,e.W.cell? ⟨b,off+k*4+1,none⟩=some (.int .u64 (wd (l.getD k 0#256) 1)))∧
  (∀ e:EW W,e.W.cell? ⟨b,off+k*4+2,none⟩=some (.int .u64 (wd (l.getD k 0#256) 2)))∧(∀ e:EW W,e.W.cell? ⟨b,off+k*4+3,none⟩=some (.int .u64 (wd (l.getD k 0#256) 3))):=by
 have H:∀ j,j<4→W.cell? ⟨b,off+k*4+j,none⟩=some (.int .u64 (wd (l.getD k 0#256) j)):=fun j hj=>by
  have:=h (k*4+j) (by omega)
  rwa [show (k*4+j) / 4=k by omega,show (k*4+j) % 4=j by omega,← Nat.add_assoc] at this
 exact ⟨Bh (H 0 (by omega)),Bh (H 1 (by omega)),Bh (H 2 (by omega)),Bh (H 3 (by omega))⟩
set_option maxRecDepth 100000 in
theorem Vi (l:List Cls) (x y:Int) (hx0:0≤x) (hx:x<256) (hy0:0≤y) (hy:y<256) (hl:l.length≤4611686018427387904) (a:Option Addr) (b off cap:Nat) (w:World) (ha:0<l.length→a=some ⟨b,off,none⟩)
  (hc:∀ i,i<l.length*4→w.cell? ⟨b,off+i,none⟩=some (.int .u64 (wd (l.getD (i / 4) 0#256) (i % 4)))) :
  Calls Tryz.prog 123 #[.slice a l.length cap,.int .u8 x,.int .u8 y] w fun e w'=>e=.returned (.bool (l.all fun c=>Bg c x==Bg c y))∧Ext w w':=by
 go_enter Tryz.func123,Tryz.ntmps123;go_wp2_with (fail);go_loopw [7] (fun i W=>∃ k:Nat,k≤l.length∧i=.int .i64 k∧Ext w W∧Hid (∀ j,j<k→Bg (l.getD j 0#256) x=Bg (l.getD j 0#256) y))
  (fun i _=>l.length-(intOf i).toNat)
 case atStart=>exact ⟨0,by omega,rfl,Ext.refl w,Lib.hid (fun j hj=>by omega)⟩
 case round=>
  obtain ⟨k,hk,rfl,hE,hall⟩:=hrel;by_cases hlt:k<l.length
  ·have e:=ha (by omega);obtain ⟨a0,a1,a2,a3⟩:=Oc (W:=wr) (fun i hi=>hE.cell (hc i hi)) k hlt;clear ha hc;subst e;obtain ⟨c,hcd⟩:∃ c,l.getD k 0#256=c:=⟨_,rfl⟩;rw [hcd] at a0 a1 a2 a3;have HCd:=Lib.hid hcd;clear hcd;go_upto_region 4 with (fail)
   have h1:=fun (W:World)=>Lib.hid (Qx c x hx0 hx W)
   have h2:=fun (W:World)=>Lib.hid (Qx c y hy0 hy W)
   generalize hm1:Bg c x=m1 at h1;generalize hm2:Bg c y=m2 at h2;have HM1:=Lib.hid hm1;have HM2:=Lib.hid hm2;clear hm1 hm2;go_cut [26] (fun v W=>v=.bool (m1 != m2)∧∃ e:EW wr,W=e.W)
   case first=>
    refine Ew (by kernel_rfl) (by kernel_rfl) ?_;iterate 13 (refine wpQuiet_step (fun K hK=>?_);go_simp;first|(refine hK _ ?_;clear hK K)|(apply Exists.intro;refine ⟨fun _=>?_,hK _ ?_⟩;(first|(with_reducible exact Gb (h1 _).out)|(with_reducible exact Gb (h2 _).out));clear hK K))
    refine wpQuiet_nil ?_;rintro _ ⟨e,rfl⟩;go_wp2;go_meet
    exact ⟨rfl,e,rfl⟩
   case rest=>
    obtain ⟨rfl,e,rfl⟩:=hcut;clear a0 a1 a2 a3 h1 h2;have hE':=hE.trans e.ext;generalize e.W=w1 at *;generalize hmm:(m1 != m2)=mm at *;have HMM:=Lib.hid hmm;clear hmm;cases mm
    ·go_wp2;go_roundw
     case rel=>exact ⟨k+1,by omega,by go_num,hE',Lib.hid (fun j hj=>by
      by_cases hjk:j=k
      ·subst hjk;rw [HCd.out,HM1.out,HM2.out];simpa using HMM.out
      ·exact hall.out j (by omega))⟩
     case measure=>simp [intOf];omega
    ·have hf:(l.all fun c=>Bg c x==Bg c y)=false:=by
      rw [List.all_eq_false];refine ⟨c,?_,by rw [HM1.out,HM2.out];simpa using HMM.out⟩;rw [← HCd.out,List.getD_eq_getElem?_getD,List.getElem?_eq_getElem hlt];exact List.getElem_mem hlt
     have HF:=Lib.hid hf;clear hf;go_wp2;go_ret;exact ⟨Gr HF.out.symm,hE'⟩
  ·obtain rfl:k=l.length:=by omega
   have hf:(l.all fun c=>Bg c x==Bg c y)=true:=by
    rw [List.all_eq_true];intro c hcm;obtain ⟨j,hj,rfl⟩:=List.mem_iff_getElem.1 hcm;have:=hall.out j hj;rw [List.getD_eq_getElem?_getD,List.getElem?_eq_getElem hj] at this
    simpa using this
   have HF:=Lib.hid hf;clear hf hall;go_wp2;go_ret;exact ⟨Gr HF.out.symm,hE⟩
theorem Ahr (l:List Cls) (v:Value) (x y:Int) (hx0:0≤x) (hx:x<256) (hy0:0≤y) (hy:y<256) (w:World) (h:Cs w v l) :
  Calls Tryz.prog 123 #[v,.int .u8 x,.int .u8 y] w fun e w'=>e=.returned (.bool (l.all fun c=>Bg c x==Bg c y))∧Ext w w':=by
 obtain ⟨h0,⟨hn,a,cap,rfl⟩|⟨hn,b,off,cap,rfl,hb,hc⟩⟩:=h
 ·have:=Vi l x y hx0 hx hy0 hy (by omega) a 0 0 cap w (by omega) (fun i hi=>by omega)
  rwa [hn] at this
 ·exact Vi l x y hx0 hx hy0 hy h0 (some ⟨b,off,none⟩) b off cap w (fun _=>rfl) hc
def Ff (l:List Cls) (b:Int):Int:=match l.findIdx? (fun c=>Bg c b) with|some i=>(i:Int)|none=>-1
theorem S2 (l:List Cls) (b:Int) (k:Nat) (hk:k<l.length) (h:Bg (l.getD k 0#256) b=true) (hne:∀ j,j<k→Bg (l.getD j 0#256) b=false):Ff l b=k:=by
 have:l.findIdx? (fun c=>Bg c b)=some k:=by
  rw [List.findIdx?_eq_some_iff_getElem];refine ⟨hk,by rwa [List.getD_eq_getElem?_getD,List.getElem?_eq_getElem hk] at h,fun j hj=>?_⟩;have h1:=hne j hj;rw [List.getD_eq_getElem?_getD,List.getElem?_eq_getElem (by omega)] at h1
  simpa using h1
 unfold Ff;rw [this]
theorem Ad4 (l:List Cls) (b:Int) (hne:∀ j,j<l.length→Bg (l.getD j 0#256) b=false):Ff l b=-1:=by
 have:l.findIdx? (fun c=>Bg c b)=none:=by
  rw [List.findIdx?_eq_none_iff];intro c hc;obtain ⟨j,hj,rfl⟩:=List.mem_iff_getElem.1 hc;have h1:=hne j hj
  rwa [List.getD_eq_getElem?_getD,List.getElem?_eq_getElem hj] at h1
 unfold Ff;rw [this]
theorem u8n (k:Nat) (h:k<256):(UInt8.ofNat k).toNat=k:=by simp;omega
theorem Sa (c:Cls) (k:Nat) (hk:k≤256) (x:UInt8):x∈Ak c k↔x.toNat<k∧c.getLsbD x.toNat=true:=by
 induction k with
 | zero=>simp [Ak]
 | succ k ih=>
  have ih:=ih (by omega);have hx:x=UInt8.ofNat k↔x.toNat=k:=by
   rw [← UInt8.toNat_inj,u8n k (by omega)]
  simp only [Ak];split
  ·rename_i h
   rw [List.mem_append,ih,List.mem_singleton,hx];constructor
   ·rintro (⟨h1,h2⟩|h1)
    ·exact ⟨by omega,h2⟩
    ·exact ⟨by omega,by rw [h1];exact h⟩
   ·rintro ⟨h1,h2⟩;by_cases h3:x.toNat=k
    ·exact .inr h3
    ·exact .inl ⟨by omega,h2⟩
  ·rename_i h
   rw [ih];constructor
   ·rintro ⟨h1,h2⟩;exact ⟨by omega,h2⟩
   ·rintro ⟨h1,h2⟩;refine ⟨?_,h2⟩;by_cases h3:x.toNat=k
    ·rw [h3] at h2;exact absurd h2 h
    ·omega
theorem Kg (c:Cls) (x:UInt8):x∈Ak c 256↔c.getLsbD x.toNat=true:=by
 rw [Sa c 256 (Nat.le_refl _)];exact ⟨fun h=>h.2,fun h=>⟨x.toNat_lt,h⟩⟩
theorem G0 (c:Cls) (h:c≠0#256):0≤Bj (Ak c 256)∧Bj (Ak c 256)<256∧c.getLsbD (Bj (Ak c 256)).toNat=true:=by
 cases hb:Ak c 256 with
 | nil=>
  exfalso;apply h
  apply BitVec.eq_of_getLsbD_eq;intro i hi;rw [BitVec.getLsbD_zero];cases hc:c.getLsbD i
  ·rfl
  ·have:=(Kg c (UInt8.ofNat i)).2 (by rw [u8n i hi];exact hc);rw [hb] at this;cases this
 | cons x t=>
  have hx:=(Kg c x).1 (by rw [hb];exact List.mem_cons_self);have:=x.toNat_lt;simp only [Bj];exact ⟨by omega,by omega,by simpa using hx⟩
def Dis (a b:Cls):Prop:=∀ i,¬ (a.getLsbD i=true∧b.getLsbD i=true)
theorem P8 (k c x:Cls) (h:x∈Db k c) (i:Nat) (hi:x.getLsbD i=true):c.getLsbD i=true:=by
 have:=(List.mem_filter.1 h).1;simp only [List.mem_cons,List.not_mem_nil,or_false] at this;rcases this with rfl|rfl<;>(rw [BitVec.getLsbD_and] at hi;simp only [Bool.and_eq_true] at hi;exact hi.1)
theorem X2 (k c:Cls):(Db k c).Pairwise Dis:=by
 unfold Db;refine List.Pairwise.filter _ ?_;refine List.Pairwise.cons (fun y hy=>?_) (List.pairwise_singleton _ _);simp only [List.mem_singleton] at hy;subst hy;rintro i ⟨h1,h2⟩;simp only [BitVec.getLsbD_and,BitVec.getLsbD_not,Bool.and_eq_true,Bool.not_eq_true'] at h1 h2;rw [h1.2] at h2;exact absurd h2.2.2 (by simp)
theorem Xz (k:Cls) (L:List Cls) (h:L.Pairwise Dis):(Cl k L).Pairwise Dis:=by
 unfold Cl;rw [List.pairwise_flatMap];refine ⟨fun c _=>X2 k c,h.imp ?_⟩;intro a b hab x hx y hy i ⟨h1,h2⟩;exact hab i ⟨P8 k a x hx i h1,P8 k b y hy i h2⟩
def key (c:Cls):Int:=Bj (Ak c 256)
theorem Dis.symm {a b:Cls} (h:Dis a b):Dis b a:=fun i ⟨h1,h2⟩=>h i ⟨h2,h1⟩
theorem Adp {L:List Cls} (hd:L.Pairwise Dis) (hz:∀ c∈L,c≠0#256) (a b:Cls) (ha:a∈L) (hb:b∈L) (h:key a=key b):a=b:=by
 have h1:=(G0 a (hz a ha)).2.2;have h2:=(G0 b (hz b hb)).2.2;apply Classical.byContradiction;intro hne;have hd':Dis a b:=by
  obtain ⟨s,t,rfl⟩:=List.append_of_mem ha;rw [List.mem_append,List.mem_cons] at hb;rcases hb with hb|hb|hb
  ·exact ((List.pairwise_append.1 hd).2.2 b hb a List.mem_cons_self).symm
  ·exact absurd hb.symm hne
  ·exact (List.pairwise_cons.1 (List.pairwise_append.1 hd).2.1).1 b hb
 unfold key at h;rw [← h] at h2;exact hd' _ ⟨h1,h2⟩
def I5 (l:List Cls):List Cls:=(Dm l).mergeSort fun a b=>decide (key a≤key b)
theorem Agg (l:List Cls):(I5 l).Perm (Dm l):=List.mergeSort_perm _ _
theorem Agf (l:List Cls):(I5 l).Pairwise fun a b=>key a≤key b:=by
 have:=List.pairwise_mergeSort (le:=fun a b:Cls=>decide (key a≤key b)) (fun a b c h1 h2=>by simp only [decide_eq_true_eq] at *;omega) (fun a b=>by simp only [Bool.or_eq_true,decide_eq_true_eq];omega) (Dm l);exact this.imp (fun h=>of_decide_eq_true h)
def Alk (l:List Cls) (i j:Nat):Prop:=∀ c∈l,c.getLsbD i=c.getLsbD j
theorem Alk.refl (l:List Cls) (i:Nat):Alk l i i:=fun _ _=>rfl
theorem Alk.symm {l:List Cls} {i j:Nat} (h:Alk l i j):Alk l j i:=fun c hc=>(h c hc).symm
theorem Alk.trans {l:List Cls} {i j k:Nat} (h:Alk l i j) (h':Alk l j k):Alk l i k:=fun c hc=>(h c hc).trans (h' c hc)
structure IsCells (l L:List Cls):Prop where
 dis:L.Pairwise Dis
 nz:∀ c∈L,c≠0#256
 cover:∀ i,i<256→∃ c∈L,c.getLsbD i=true
 cls:∀ c∈L,∀ i,i<256→c.getLsbD i=true→∀ j,j<256→(c.getLsbD j=true↔Alk l i j)
theorem Nc (k c x:Cls):x∈Db k c↔(x=c &&& k∨x=c &&& ~~~k)∧x≠0#256:=by
 unfold Db;rw [List.mem_filter];simp
theorem Fd {c:Cls} {i:Nat} (h:c.getLsbD i=true):c≠0#256:=by
 rintro rfl;simp at h
theorem Li {c:Cls} (h:c≠0#256):∃ i,i<256∧c.getLsbD i=true:=by
 have h1:=G0 c h;exact ⟨_,by omega,h1.2.2⟩
theorem Ady {l L:List Cls} (k:Cls) (h:IsCells l L):IsCells (l++[k]) (Cl k L) where
 dis:=Xz k L h.dis
 nz:=P7 k L
 cover:=fun i hi=>by
  obtain ⟨c,hc,hci⟩:=h.cover i hi;cases hk:k.getLsbD i
  ·have hx:(c &&& ~~~k).getLsbD i=true:=by rw [BitVec.getLsbD_and,BitVec.getLsbD_not,hci,hk];simp [hi]
   exact ⟨_,List.mem_flatMap.2 ⟨c,hc,(Nc k c _).2 ⟨.inr rfl,Fd hx⟩⟩,hx⟩
  ·have hx:(c &&& k).getLsbD i=true:=by rw [BitVec.getLsbD_and,hci,hk];rfl
   exact ⟨_,List.mem_flatMap.2 ⟨c,hc,(Nc k c _).2 ⟨.inl rfl,Fd hx⟩⟩,hx⟩
 cls:=fun x hx i hi hxi j hj=>by
  obtain ⟨c,hc,hx⟩:=List.mem_flatMap.1 hx;obtain ⟨hx,-⟩:=(Nc k c x).1 hx;have hal:Alk (l++[k]) i j↔Alk l i j∧k.getLsbD i=k.getLsbD j:=by
   constructor
   ·intro h;exact ⟨fun c hc=>h c (by simp [hc]),h k (by simp)⟩
   ·rintro ⟨h1,h2⟩ c hc;rw [List.mem_append,List.mem_singleton] at hc;rcases hc with hc|rfl
    ·exact h1 c hc
    ·exact h2
  rw [hal];rcases hx with rfl|rfl
  ·rw [BitVec.getLsbD_and,Bool.and_eq_true] at hxi;rw [← h.cls c hc i hi hxi.1 j hj,BitVec.getLsbD_and,Bool.and_eq_true,hxi.2];cases k.getLsbD j<;>simp
  ·simp only [BitVec.getLsbD_and,BitVec.getLsbD_not,hi,hj,decide_true,Bool.true_and,Bool.and_eq_true,Bool.not_eq_true'] at hxi ⊢;rw [← h.cls c hc i hi hxi.1 j hj,hxi.2];cases k.getLsbD j<;>simp
theorem Nu (l:List Cls):IsCells l (Dm l):=by
 have:∀ (l m L:List Cls),IsCells m L→IsCells (m++l) (l.foldl (fun L k=>Cl k L) L):=fun l=>by
  induction l with
  | nil=>intro m L h;rw [List.append_nil];exact h
  | cons k l ih=>
   intro m L h;have:=ih (m++[k]) _ (Ady k h);rw [List.append_assoc,List.singleton_append] at this;exact this
 have h0:IsCells [] [allC]:=by
  refine ⟨List.pairwise_singleton _ _,full_one.2,fun i hi=>⟨allC,List.mem_singleton.2 rfl,?_⟩,fun c hc i hi _ j hj=>?_⟩
  ·unfold allC;rw [BitVec.getLsbD_not,BitVec.getLsbD_zero];simp [hi]
  ·rw [List.mem_singleton] at hc;subst hc;constructor
   ·intro _ c hc;cases hc
   ·intro _;unfold allC;rw [BitVec.getLsbD_not,BitVec.getLsbD_zero];simp [hj]
 exact this l [] [allC] h0
theorem IsCells.perm {l L M:List Cls} (h:IsCells l L) (hp:M.Perm L):IsCells l M where
 dis:=hp.symm.pairwise h.dis (fun hab=>Dis.symm hab)
 nz:=fun c hc=>h.nz c (hp.mem_iff.1 hc)
 cover:=fun i hi=>by obtain ⟨c,hc,hi⟩:=h.cover i hi;exact ⟨c,hp.mem_iff.2 hc,hi⟩
 cls:=fun c hc=>h.cls c (hp.mem_iff.1 hc)
theorem So (l:List Cls):IsCells l (I5 l):=(Nu l).perm (Agg l)
theorem IsCells.nodup {l L:List Cls} (h:IsCells l L):L.Nodup:=by
 refine List.Pairwise.imp_of_mem ?_ h.dis;rintro a b ha hb hab rfl;obtain ⟨i,_,hi⟩:=Li (h.nz a ha);exact hab i ⟨hi,hi⟩
theorem IsCells.sub {l m L M:List Cls} (h:IsCells l L) (h':IsCells m M) (hs:∀ i j,i<256→j<256→(Alk l i j↔Alk m i j)) (c:Cls) (hc:c∈L):c∈M:=by
 obtain ⟨i,hi,hci⟩:=Li (h.nz c hc);obtain ⟨d,hd,hdi⟩:=h'.cover i hi;have:c=d:=by
  apply BitVec.eq_of_getLsbD_eq;intro j hj;have h1:=h.cls c hc i hi hci j hj;have h2:=h'.cls d hd i hi hdi j hj;rw [hs i j hi hj] at h1;rw [Bool.eq_iff_iff,h1,h2]
 rw [this];exact hd
theorem IsCells.eq {l m L M:List Cls} (h:IsCells l L) (h':IsCells m M) (hs:∀ i j,i<256→j<256→(Alk l i j↔Alk m i j)) (hL:L.Pairwise fun a b=>key a≤key b) (hM:M.Pairwise fun a b=>key a≤key b):L=M:=by
 have hp:L.Perm M:=(List.perm_ext_iff_of_nodup h.nodup h'.nodup).2 fun c=>⟨h.sub h' hs c,h'.sub h (fun i j hi hj=>(hs i j hi hj).symm) c⟩
 exact List.Perm.eq_of_pairwise (fun a b ha hb h1 h2=>Adp h'.dis h'.nz a b (hp.mem_iff.1 ha) hb (Int.le_antisymm h1 h2)) hL hM hp
theorem Sn (c:Cls) (m:Nat) (hm:m<256) (h:c.getLsbD m=true) (hl:∀ j,j<m→c.getLsbD j=false):key c=m:=by
 have h1:=G0 c (Fd h);have h2:=hl (Bj (Ak c 256)).toNat;unfold key;have h3:¬ (Bj (Ak c 256)).toNat<m:=fun hlt=>by rw [h2 hlt] at h1;exact absurd h1.2.2 (by simp)
 have h4:Bj (Ak c 256)≤m:=by
  have hmem:UInt8.ofNat m∈Ak c 256:=(Kg c _).2 (by rw [u8n m hm];exact h);have hinc:(Ak c 256).Pairwise fun a b=>a.toNat<b.toNat:=by
   have:∀ k,k≤256→(Ak c k).Pairwise fun a b=>a.toNat<b.toNat:=fun k=>by
    induction k with
    | zero=>intro _;exact List.Pairwise.nil
    | succ k ih=>
     intro hk;simp only [Ak];split
     ·rw [List.pairwise_append];refine ⟨ih (by omega),List.pairwise_singleton _ _,fun a ha b hb=>?_⟩;rw [List.mem_singleton] at hb;subst hb;rw [u8n k (by omega)];exact ((Sa c k (by omega) a).1 ha).1
     ·exact ih (by omega)
   exact this 256 (Nat.le_refl _)
  cases hb:Ak c 256 with
  | nil=>rw [hb] at hmem;cases hmem
  | cons x t=>
   rw [hb] at hmem hinc;simp only [Bj];rcases List.mem_cons.1 hmem with e|e
   ·rw [← e,u8n m hm];exact Int.le_refl _
   ·have:=(List.pairwise_cons.1 hinc).1 _ e;rw [u8n m hm] at this;omega
 omega
structure RInv (l:List Cls) (i:Nat) (out:List Cls) (le:List UInt8):Prop where
 len:out.length=le.length
 bound:le.length≤i
 bits:∀ k,k<le.length→∀ j,j<256→((out.getD k 0#256).getLsbD j=true↔j<i∧Alk l (le.getD k 0).toNat j)
 inc:∀ k,k<le.length→(le.getD k 0).toNat<i
 srt:∀ m k,m<k→k<le.length→(le.getD m 0).toNat<(le.getD k 0).toNat
 sep:∀ k j,k<le.length→j<(le.getD k 0).toNat→¬ Alk l j (le.getD k 0).toNat
 all:∀ j,j<i→∃ k,k<le.length∧Alk l (le.getD k 0).toNat j
theorem Y3 (l:List Cls):RInv l 0 [] []:=by
 refine ⟨rfl,?_,?_,?_,?_,?_,?_⟩<;>simp
theorem Bk {α:Type} (l:List α) (x d:α) (k:Nat) (h:k<l.length):(l++[x]).getD k d=l.getD k d:=by
 rw [List.getD_eq_getElem?_getD,List.getElem?_append_left h,← List.getD_eq_getElem?_getD]
theorem B9 {α:Type} (l:List α) (x d:α):(l++[x]).getD l.length d=x:=by
 rw [List.getD_eq_getElem?_getD,List.getElem?_append_right (Nat.le_refl _)];simp
theorem S9 {α:Type} (l:List α) (x d:α) (k:Nat) (h:k<l.length):(l.set k x).getD k d=x:=by
 simp [List.getD_eq_getElem?_getD,h]
theorem Ta {α:Type} (l:List α) (x d:α) (k m:Nat) (h:k≠m):(l.set k x).getD m d=l.getD m d:=by
 simp [List.getD_eq_getElem?_getD,List.getElem?_set_ne h]
theorem Y5 {l:List Cls} {i:Nat} {out:List Cls} {le:List UInt8} (h:RInv l i out le) (hi:i<256) (hn:∀ k,k<le.length→¬ Alk l (le.getD k 0).toNat i) :
  RInv l (i+1) (out++[A4 0#256 (i:Int)]) (le++[UInt8.ofNat i]):=by
 have hu:=u8n i hi;have hlen:=h.len;have hlt:∀ k,k<(le++[UInt8.ofNat i]).length→k<le.length∨k=le.length:=fun k hk=>by simp at hk;omega
 refine ⟨by simp [hlen],by have:=h.bound;simp;omega,fun k hk j hj=>?_,fun k hk=>?_,fun m k hmk hk=>?_,fun k j hk hj=>?_,fun j hj=>?_⟩
 ·rcases hlt k hk with hk|rfl
  ·rw [Bk _ _ _ _ (by omega),Bk _ _ _ _ hk,h.bits k hk j hj];constructor
   ·rintro ⟨h1,h2⟩;exact ⟨by omega,h2⟩
   ·rintro ⟨h1,h2⟩;refine ⟨?_,h2⟩;by_cases e:j=i
    ·rw [e] at h2;exact absurd h2 (hn k hk)
    ·omega
  ·rw [← hlen,B9,hlen,B9,hu,Iv _ _ _ hi];simp only [BitVec.getLsbD_zero,Bool.false_or,decide_eq_true_eq];constructor
   ·rintro rfl;exact ⟨by omega,Alk.refl _ _⟩
   ·rintro ⟨h1,h2⟩;by_cases e:j=i
    ·exact e
    ·obtain ⟨k,hk,hka⟩:=h.all j (by omega);exact absurd (hka.trans h2.symm) (hn k hk)
 ·rcases hlt k hk with hk|rfl
  ·rw [Bk _ _ _ _ hk];have:=h.inc k hk;omega
  ·rw [B9,hu];omega
 ·rcases hlt k hk with hk|rfl
  ·rw [Bk _ _ _ _ hk,Bk _ _ _ _ (by omega)];exact h.srt m k hmk hk
  ·rw [B9,hu,Bk _ _ _ _ hmk];exact h.inc m hmk
 ·rcases hlt k hk with hk|rfl
  ·rw [Bk _ _ _ _ hk] at hj ⊢;exact h.sep k j hk hj
  ·rw [B9,hu] at hj ⊢;intro ha;obtain ⟨k,hk,hka⟩:=h.all j hj;exact hn k hk (hka.trans ha)
 ·by_cases e:j=i
  ·subst e;exact ⟨le.length,by simp,by rw [B9,hu];exact Alk.refl _ _⟩
  ·obtain ⟨k,hk,hka⟩:=h.all j (by omega);exact ⟨k,by simp;omega,by rw [Bk _ _ _ _ hk];exact hka⟩
theorem Y4 {l:List Cls} {i:Nat} {out:List Cls} {le:List UInt8} (h:RInv l i out le) (hi:i<256) (k:Nat) (hk:k<le.length) (ha:Alk l (le.getD k 0).toNat i) :
  RInv l (i+1) (out.set k (A4 (out.getD k 0#256) (i:Int))) le:=by
 have hlen:=h.len;refine ⟨by simp [hlen],by have:=h.bound;omega,fun m hm j hj=>?_,fun m hm=>by have:=h.inc m hm;omega,h.srt,h.sep,fun j hj=>?_⟩
 ·by_cases e:k=m
  ·subst e;rw [S9 _ _ _ _ (by omega),Iv _ _ _ hi,Bool.or_eq_true,h.bits k hk j hj,decide_eq_true_eq];constructor
   ·rintro (⟨h1,h2⟩|rfl)
    ·exact ⟨by omega,h2⟩
    ·exact ⟨by omega,ha⟩
   ·rintro ⟨h1,h2⟩;by_cases e:j=i
    ·exact .inr e
    ·exact .inl ⟨by omega,h2⟩
  ·rw [Ta _ _ _ _ _ e,h.bits m hm j hj];constructor
   ·rintro ⟨h1,h2⟩;exact ⟨by omega,h2⟩
   ·rintro ⟨h1,h2⟩;refine ⟨?_,h2⟩;by_cases e':j=i
    ·exfalso
     subst e';have hkm:=ha.trans h2.symm;rcases Nat.lt_or_gt_of_ne e with hlt|hgt
     ·exact h.sep m _ hm (h.srt k m hlt hm) hkm
     ·exact h.sep k _ hk (h.srt m k hgt hk) hkm.symm
    ·omega
 ·by_cases e:j=i
  ·subst e;exact ⟨k,hk,ha⟩
  ·exact h.all j (by omega)
theorem Fz {α:Type} {l:List α} {x d:α} (h:x∈l):∃ k,k<l.length∧l.getD k d=x:=by
 obtain ⟨k,hk,rfl⟩:=List.mem_iff_getElem.1 h;exact ⟨k,hk,by rw [List.getD_eq_getElem?_getD,List.getElem?_eq_getElem hk];rfl⟩
theorem Y6 {l:List Cls} {out:List Cls} {le:List UInt8} (h:RInv l 256 out le):out=I5 l:=by
 have hlen:=h.len;have hat:∀ k (hk:k<out.length),out[k]=out.getD k 0#256:=fun k hk=>by rw [List.getD_eq_getElem?_getD,List.getElem?_eq_getElem hk];rfl
 have hself:∀ k,k<le.length→(out.getD k 0#256).getLsbD (le.getD k 0).toNat=true:=fun k hk=>
  (h.bits k hk _ (UInt8.toNat_lt _)).2 ⟨UInt8.toNat_lt _,Alk.refl _ _⟩
 have hkey:∀ k,k<le.length→key (out.getD k 0#256)=((le.getD k 0).toNat:Int):=fun k hk=>
  Sn _ _ (UInt8.toNat_lt _) (hself k hk) fun j hj=>by
   rw [← Bool.not_eq_true];intro hb;exact h.sep k j hk hj ((h.bits k hk j (by have:=UInt8.toNat_lt (le.getD k 0);omega)).1 hb).2.symm
 have hcells:IsCells l out:=by
  refine ⟨?_,fun c hc=>?_,fun i hi=>?_,fun c hc i hi hci j hj=>?_⟩
  ·rw [List.pairwise_iff_getElem];intro m k hm hk hmk i ⟨h1,h2⟩;rw [hat m hm] at h1;rw [hat k hk] at h2;have hi:i<256:=by
    apply Classical.byContradiction;intro hn
    rw [BitVec.getLsbD_of_ge _ _ (by omega)] at h1;cases h1
   have a1:=((h.bits m (by omega) i hi).1 h1).2;have a2:=((h.bits k (by omega) i hi).1 h2).2;exact h.sep k _ (by omega) (h.srt m k hmk (by omega)) (a1.trans a2.symm)
  ·obtain ⟨k,hk,rfl⟩:=Fz (d:=0#256) hc;exact Fd (hself k (by omega))
  ·obtain ⟨k,hk,ha⟩:=h.all i hi;refine ⟨out.getD k 0#256,?_,(h.bits k hk i hi).2 ⟨hi,ha⟩⟩;rw [← hat k (by omega)];exact List.getElem_mem _
  ·obtain ⟨k,hk,rfl⟩:=Fz (d:=0#256) hc;have ai:=((h.bits k (by omega) i hi).1 hci).2;rw [h.bits k (by omega) j hj];exact ⟨fun ⟨_,aj⟩=>ai.symm.trans aj,fun aij=>⟨hj,ai.trans aij⟩⟩
 refine hcells.eq (So l) (fun _ _ _ _=>Iff.rfl) ?_ (Agf l);rw [List.pairwise_iff_getElem];intro m k hm hk hmk;rw [hat m hm,hat k hk,hkey m (by omega),hkey k (by omega)];have:=h.srt m k hmk (by omega);omega
theorem Ahq (l:List Cls) (x y:Nat):(l.all fun c=>Bg c (x:Int)==Bg c (y:Int))=true↔Alk l x y:=by
 simp [Alk,Bg]
end Go.Proofs.YtaiogolidlamiaaGreatDoor
