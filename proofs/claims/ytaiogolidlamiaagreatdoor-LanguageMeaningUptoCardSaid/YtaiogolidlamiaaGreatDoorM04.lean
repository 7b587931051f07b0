import Derived.Test.YtaiogolidlamiaaGreatDoorM03
import Derived.Laws.StructEq
import Derived.ChangeKeysEq
import Derived.Test.YtaiogolidlamiaaGreatDoorM01
import Derived.Test.YtaiogolidlamiaaGreatDoorM02
import Derived.Lib.TrailingZeros
import Derived.RangeFuncNested
import Derived.RangeFuncBound
import Derived.RangeFuncCalls
import Derived.RangeFuncLeaves
import Derived.RangeFuncBox
import Derived.OwnWalkIn
import Derived.TacticsInMore
import Derived.LoopNIn
import Derived.LoopIn
set_option linter.unusedVariables false
set_option linter.unusedSimpArgs false
namespace Go.Proofs.YtaiogolidlamiaaGreatDoor
def Aq (y:Tbl) (S c:Nat):Nat→Nat
 | 0=>0
 | n+1=>if S.testBit n then Aq y S c n ||| 2 ^ y.stp n c else Aq y S c n
theorem Rc (y:Tbl) (S c n r:Nat):(Aq y S c n).testBit r=true↔∃ q,q<n∧S.testBit q=true∧y.stp q c=r:=by
 induction n with
 | zero=>simp [Aq]
 | succ n ih=>
  simp only [Aq];split
  ·rename_i h
   rw [Nat.testBit_or,Bool.or_eq_true,ih,Nat.testBit_two_pow,decide_eq_true_eq];constructor
   ·rintro (⟨q,hq,h1,h2⟩|e)
    ·exact ⟨q,by omega,h1,h2⟩
    ·exact ⟨n,by omega,h,e⟩
   ·rintro ⟨q,hq,h1,h2⟩;by_cases e:q=n
    ·subst e;exact .inr h2
    ·exact .inl ⟨q,by omega,h1,h2⟩
  ·rename_i h
   rw [ih];constructor
   ·rintro ⟨q,hq,h1,h2⟩;exact ⟨q,by omega,h1,h2⟩
   ·rintro ⟨q,hq,h1,h2⟩;refine ⟨q,?_,h1,h2⟩;by_cases e:q=n
    ·subst e;exact absurd h1 h
    ·omega
def Cd (y:Tbl) (S:Nat):Bool:=(List.range y.nxt.length).any fun q=>y.ok q&&S.testBit q
theorem Iv (y:Tbl) (S:Nat):Cd y S=true↔∃ q,q<y.nxt.length∧y.ok q=true∧S.testBit q=true:=by
 unfold Cd;rw [List.any_eq_true];constructor
 ·rintro ⟨q,hq,h⟩;rw [Bool.and_eq_true] at h;exact ⟨q,List.mem_range.1 hq,h.1,h.2⟩
 ·rintro ⟨q,hq,h1,h2⟩;exact ⟨q,List.mem_range.2 hq,by rw [h1,h2];rfl⟩
theorem Ek {P:List UInt8→Prop} (h0:P []) (h1:∀ w x,P w→P (w++[x])) (w:List UInt8):P w:=by
 have:∀ v:List UInt8,P v.reverse:=fun v=>by
  induction v with
  | nil=>exact h0
  | cons x v ih=>rw [List.reverse_cons];exact h1 _ _ ih
 have h:=this w.reverse
 rwa [List.reverse_reverse] at h
theorem Eh {σ:Type} (nx:σ→Nat→σ) (s:σ) (w:List UInt8) (x:UInt8):At nx s (w++[x])=nx (At nx s w) x.toNat:=by simp [At,List.foldl_append]
theorem E8 (t:Tbl) (s:Nat) (w:List UInt8) (x:UInt8):t.run s (w++[x])=t.stp (t.run s w) x.toNat:=by rw [Cz];rfl
theorem Qd {u v w:List UInt8} {x:UInt8} (h:w++[x]=u++v):(v=[]∧u=w++[x])∨∃ v',v=v'++[x]∧w=u++v':=by
 rcases List.eq_nil_or_concat v with rfl|⟨v',y,rfl⟩
 ·exact .inl ⟨rfl,by simpa using h.symm⟩
 ·rw [List.concat_eq_append,← List.append_assoc] at h;obtain ⟨h1,h2⟩:=List.append_inj' h rfl;simp at h2;subst h2;exact .inr ⟨v',by rw [List.concat_eq_append],h1⟩
def Cat (L M:List UInt8→Prop) (w:List UInt8):Prop:=∃ u v,w=u++v∧L u∧M v
inductive Star (L:List UInt8→Prop):List UInt8→Prop
 | nil:Star L []
 | app {u v:List UInt8}:Star L u→L v→Star L (u++v)
def Fi (x:Tbl) (p S:Nat):Nat × Nat:=(p,if x.ok p then S ||| 1 else S)
def cnx (x y:Tbl) (s:Nat × Nat) (c:Nat):Nat × Nat:=Fi x (x.stp s.1 c) (Aq y s.2 c y.nxt.length)
def cst (x:Tbl):Nat × Nat:=Fi x 0 0
theorem Wx (S r:Nat):(S ||| 1).testBit r=true↔S.testBit r=true∨r=0:=by
 rw [Nat.testBit_or,Bool.or_eq_true,show (1:Nat)=2 ^ 0 from rfl,Nat.testBit_two_pow,decide_eq_true_eq];constructor<;>rintro (h|h)
 ·exact .inl h
 ·exact .inr h.symm
 ·exact .inl h
 ·exact .inr h.symm
theorem V7 (x:Tbl) (p S r:Nat):(Fi x p S).2.testBit r=true↔S.testBit r=true∨(x.ok p=true∧r=0):=by
 unfold Fi;cases h:x.ok p
 ·simp
 ·simp only [if_true];rw [Wx];simp
theorem Wi {x y:Tbl} (hy:TVal y) (w:List UInt8):(At (cnx x y) (cst x) w).1=x.run 0 w∧
  ∀ r,(At (cnx x y) (cst x) w).2.testBit r=true↔∃ u v,w=u++v∧x.has u=true∧y.run 0 v=r:=by
 induction w using Ek with
 | h0=>
  refine ⟨rfl,fun r=>?_⟩;show (Fi x 0 0).2.testBit r=true↔_;rw [V7];constructor
  ·rintro (h|⟨h,rfl⟩)
   ·simp at h
   ·exact ⟨[],[],rfl,h,rfl⟩
  ·rintro ⟨u,v,h,h1,h2⟩;obtain ⟨rfl,rfl⟩:=List.append_eq_nil_iff.1 h.symm;exact .inr ⟨h1,h2.symm⟩
 | h1 w z ih=>
  obtain ⟨ih1,ih2⟩:=ih;rw [Eh];generalize At (cnx x y) (cst x) w=s at *;refine ⟨?_,fun r=>?_⟩
  ·show x.stp s.1 z.toNat=_;rw [ih1,E8]
  ·show (Fi x (x.stp s.1 z.toNat) (Aq y s.2 z.toNat y.nxt.length)).2.testBit r=true↔_;rw [V7,Rc,ih1,← E8];constructor
   ·rintro (⟨q,hq,hb,he⟩|⟨h,rfl⟩)
    ·obtain ⟨u,v,rfl,hu,hv⟩:=(ih2 q).1 hb;exact ⟨u,v++[z],by rw [List.append_assoc],hu,by rw [E8,hv,he]⟩
    ·exact ⟨w++[z],[],by simp,h,rfl⟩
   ·rintro ⟨u,v,h,hu,hv⟩;rcases Qd h with ⟨rfl,rfl⟩|⟨v',rfl,rfl⟩
    ·exact .inr ⟨hu,hv.symm⟩
    ·rw [E8] at hv;exact .inl ⟨y.run 0 v',hy.run_lt v' hy.pos,(ih2 _).2 ⟨u,v',rfl,hu,rfl⟩,hv⟩
theorem Ah5 {x y:Tbl} (hy:TVal y) {c:Nat→Nat} {bs:List Nat} {l:List (Nat × Nat)} {t:Tbl} (h:Expl c bs (cst x) (cnx x y) (fun s=>Cd y s.2) l t) (hj:Joint x.cell y.cell c bs) (w:List UInt8) :
  t.has w=true↔Cat (fun u=>x.has u=true) (fun v=>y.has v=true) w:=by
 rw [h.has hj (fun s b hb=>?_),Iv]
 ·constructor
  ·rintro ⟨q,_,ha,hb⟩;obtain ⟨u,v,rfl,hu,rfl⟩:=((Wi hy w).2 q).1 hb;exact ⟨u,v,rfl,hu,ha⟩
  ·rintro ⟨u,v,rfl,hu,hv⟩;exact ⟨y.run 0 v,hy.run_lt v hy.pos,hv,((Wi hy _).2 _).2 ⟨u,v,rfl,hu,rfl⟩⟩
 ·obtain ⟨_,h1,h2⟩:=hj.rep b hb;have e1:∀ p,x.stp p (bs.getD (c b) 0)=x.stp p b:=fun p=>by unfold Tbl.stp;rw [h1]
  have e2:∀ n,Aq y s.2 (bs.getD (c b) 0) n=Aq y s.2 b n:=fun n=>by
   induction n with
   | zero=>rfl
   | succ n ih=>simp only [Aq];rw [ih];unfold Tbl.stp;rw [h2]
  unfold cnx;rw [e1,e2]
def snx (x:Tbl) (s:Nat × Nat) (c:Nat):Nat × Nat:=
 (0,if Cd x (Aq x s.2 c x.nxt.length) then Aq x s.2 c x.nxt.length ||| 1 else Aq x s.2 c x.nxt.length)
theorem Zc {x:Tbl} (hx:TVal x) (w:List UInt8):((At (snx x) (1,1) w).1=if w=[] then 1 else 0)∧
  ∀ r,(At (snx x) (1,1) w).2.testBit r=true↔∃ u v,w=u++v∧Star (fun u=>x.has u=true) u∧x.run 0 v=r:=by
 induction w using Ek with
 | h0=>
  refine ⟨rfl,fun r=>?_⟩;show (1:Nat).testBit r=true↔_;rw [show (1:Nat)=2 ^ 0 from rfl,Nat.testBit_two_pow,decide_eq_true_eq];constructor
  ·rintro rfl;exact ⟨[],[],rfl,.nil,rfl⟩
  ·rintro ⟨u,v,h,h1,h2⟩;obtain ⟨rfl,rfl⟩:=List.append_eq_nil_iff.1 h.symm;exact h2
 | h1 w z ih=>
  obtain ⟨_,ih2⟩:=ih;rw [Eh];generalize At (snx x) (1,1) w=s at *;have hb:∀ r,(Aq x s.2 z.toNat x.nxt.length).testBit r=true↔∃ u v',w=u++v'∧Star (fun u=>x.has u=true) u∧x.run 0 (v'++[z])=r:=fun r=>by
   rw [Rc];constructor
   ·rintro ⟨q,hq,hb,he⟩;obtain ⟨u,v,rfl,hu,hv⟩:=(ih2 q).1 hb;exact ⟨u,v,rfl,hu,by rw [E8,hv,he]⟩
   ·rintro ⟨u,v',rfl,hu,hv⟩;rw [E8] at hv;exact ⟨x.run 0 v',hx.run_lt v' hx.pos,(ih2 _).2 ⟨u,v',rfl,hu,rfl⟩,hv⟩
  have hsome:Cd x (Aq x s.2 z.toNat x.nxt.length)=true↔Star (fun u=>x.has u=true) (w++[z]):=by
   rw [Iv];constructor
   ·rintro ⟨q,_,ha,hq⟩;obtain ⟨u,v',rfl,hu,rfl⟩:=(hb q).1 hq;rw [List.append_assoc];exact .app hu ha
   ·intro hs;have:∀ a,Star (fun u=>x.has u=true) a→a=w++[z]→∃ q,q<x.nxt.length∧x.ok q=true∧(Aq x s.2 z.toNat x.nxt.length).testBit q=true:=fun a ha=>by
     induction ha with
     | nil=>intro e;simp at e
     | app hu hv ihu=>
      rename_i u v
      intro e;rcases Qd e.symm with ⟨rfl,he⟩|⟨v',rfl,rfl⟩
      ·exact ihu he
      ·exact ⟨x.run 0 (v'++[z]),hx.run_lt _ hx.pos,hv,(hb _).2 ⟨u,v',rfl,hu,rfl⟩⟩
    exact this _ hs rfl
  refine ⟨?_,fun r=>?_⟩
  ·show (0:Nat)=_;simp
  ·have e:(snx x s z.toNat).2.testBit r=true↔(Aq x s.2 z.toNat x.nxt.length).testBit r=true∨(Star (fun u=>x.has u=true) (w++[z])∧r=0):=by
    show (if Cd x (Aq x s.2 z.toNat x.nxt.length) then _ else _:Nat).testBit r=true↔_;rw [← hsome];cases Cd x (Aq x s.2 z.toNat x.nxt.length)
    ·simp
    ·simp only [if_true];rw [Wx];simp
   rw [e,hb];constructor
   ·rintro (⟨u,v',rfl,hu,hv⟩|⟨hs,rfl⟩)
    ·exact ⟨u,v'++[z],by rw [List.append_assoc],hu,hv⟩
    ·exact ⟨w++[z],[],by simp,hs,rfl⟩
   ·rintro ⟨u,v,h,hu,hv⟩;rcases Qd h with ⟨rfl,rfl⟩|⟨v',rfl,rfl⟩
    ·exact .inr ⟨hu,hv.symm⟩
    ·exact .inl ⟨u,v',rfl,hu,hv⟩
theorem Y9 {x:Tbl} (hx:TVal x) {c:Nat→Nat} {bs:List Nat} {l:List (Nat × Nat)} {t:Tbl} (h:Expl c bs (1,1) (snx x) (fun s=>s.1==1||Cd x s.2) l t) (hj:Joint x.cell x.cell c bs) (w:List UInt8) :
  t.has w=true↔Star (fun u=>x.has u=true) w:=by
 have hn:∀ (s:Nat × Nat) b,b<256→snx x s (bs.getD (c b) 0)=snx x s b:=fun s b hb=>by
  obtain ⟨_,h1,_⟩:=hj.rep b hb;have e2:∀ n,Aq x s.2 (bs.getD (c b) 0) n=Aq x s.2 b n:=fun n=>by
   induction n with
   | zero=>rfl
   | succ n ih=>simp only [Aq];rw [ih];unfold Tbl.stp;rw [h1]
  unfold snx;rw [e2]
 rw [h.has hj hn,Bool.or_eq_true,Iv];obtain ⟨s1,s2⟩:=Zc hx w;constructor
 ·rintro (h1|⟨q,_,ha,hb⟩)
  ·rw [beq_iff_eq,s1] at h1;have:w=[]:=by
    apply Classical.byContradiction;intro hne;rw [if_neg hne] at h1;omega
   rw [this];exact .nil
  ·obtain ⟨u,v,rfl,hu,rfl⟩:=(s2 q).1 hb;exact .app hu ha
 ·intro hs;by_cases hw:w=[]
  ·left;rw [beq_iff_eq,s1,if_pos hw]
  ·right
   have:∀ a,Star (fun u=>x.has u=true) a→a≠[]→∃ u v,a=u++v∧Star (fun u=>x.has u=true) u∧x.has v=true:=fun a ha hne=>by
    cases ha with
    | nil=>exact absurd rfl hne
    | app hu hv=>exact ⟨_,_,rfl,hu,hv⟩
   obtain ⟨u,v,rfl,hu,hv⟩:=this w hs hw;exact ⟨x.run 0 v,hx.run_lt v hx.pos,hv,(s2 _).2 ⟨u,v,rfl,hu,rfl⟩⟩
set_option maxRecDepth 100000
open Go.RowKit
theorem X8 (c d:Cls):(c==d)=(wd c 0==wd d 0&&(wd c 1==wd d 1&&(wd c 2==wd d 2&&wd c 3==wd d 3))):=by
 rw [Bool.eq_iff_iff];simp only [beq_iff_eq,Bool.and_eq_true];constructor
 ·rintro rfl;exact ⟨rfl,rfl,rfl,rfl⟩
 ·rintro ⟨h0,h1,h2,h3⟩;unfold wd at *;exact X5 fun i hi=>by
   match i,hi with
   | 0,_=>omega
   | 1,_=>omega
   | 2,_=>omega
   | 3,_=>omega
theorem Acd (a b c d:Int) (w:World):(part 60 #[.int .u64 a,.int .u64 b,.int .u64 c,.int .u64 d] 0).run Tryz.prog w=.ok (.int .u64 a) w:=by kernel_rfl
theorem Acc (a b c d:Int) (w:World):(part 60 #[.int .u64 a,.int .u64 b,.int .u64 c,.int .u64 d] 1).run Tryz.prog w=.ok (.int .u64 b) w:=by kernel_rfl
theorem Acb (a b c d:Int) (w:World):(part 60 #[.int .u64 a,.int .u64 b,.int .u64 c,.int .u64 d] 2).run Tryz.prog w=.ok (.int .u64 c) w:=by kernel_rfl
theorem Aca (a b c d:Int) (w:World):(part 60 #[.int .u64 a,.int .u64 b,.int .u64 c,.int .u64 d] 3).run Tryz.prog w=.ok (.int .u64 d) w:=by kernel_rfl
theorem Ah4:Tryz.prog.cellsOf 60=1:=by kernel_rfl
theorem Ko (c d:Cls) (w:World):(Op.equalIn 10000 62 (.agg (Aa c)) (.agg (Aa d))).run Tryz.prog w=.ok (c==d) w:=by
 obtain ⟨i,hi⟩:∃ i,Tryz.prog.info? 60=some i:=by
  cases h:Tryz.prog.info? 60 with
  | some i=>exact ⟨i,rfl⟩
  | none => exact absurd h (by intro h; have : (Tryz.prog.info? 60).isSome = true := by kernel_rfl
                               rw [h] at this;cases this)
 rw [X8];have h:=run_equalIn_array (P:=Tryz.prog) (w:=w) 9999 (Aa c) (Aa d) Tryz.underlying62 hi;refine h.trans ?_;rw [Ah4];have e:∀ (x y:Int) (w:World),(Op.equalIn 9999 60 (.int .u64 x) (.int .u64 y)).run Tryz.prog w=.ok (x==y) w:=fun x y w=>run_equalIn_int (P:=Tryz.prog) w 9998 60 .u64 .u64 x y Tryz.underlying60
 simp only [List.range,List.range.loop,Op.eqItems,Sem.run_bind,Acd,Result.andThen_ok,e,Nat.mul_one];cases wd c 0==wd d 0
 ·simp
 simp only [Bool.not_true,Bool.false_eq_true,if_false,Bool.true_and,Sem.run_bind,Acc,Result.andThen_ok,e];cases wd c 1==wd d 1
 ·simp
 simp only [Bool.not_true,Bool.false_eq_true,if_false,Bool.true_and,Sem.run_bind,Acb,Result.andThen_ok,e];cases wd c 2==wd d 2
 ·simp
 simp only [Bool.not_true,Bool.false_eq_true,if_false,Bool.true_and,Sem.run_bind,Aca,Result.andThen_ok,e];cases wd c 3==wd d 3<;>simp
theorem Adv (c d:Cls) (w:World):(binOp .neq 62 (.agg (Aa c)) (.agg (Aa d))).run Tryz.prog w=.ok (.bool (c != d)) w:=by
 rw [run_neq_struct,Ko];rfl
theorem Jb:Tryz.prog.eqGuardType Tryz.prog.depth 62=false:=by kernel_rfl
open Go.RowKit Go.Shelf
def hiB (x p:Nat):Nat:=x / 2 ^ p*2 ^ p
theorem Af5 (x:Nat):hiB x 0=x:=by simp [hiB]
theorem Ul (x p:Nat):hiB x p≤x:=Nat.div_mul_le_self _ _
theorem Hp (x p j:Nat):(hiB x p).testBit j=(decide (p≤j)&&x.testBit j):=by
 unfold hiB;rw [Nat.testBit_mul_two_pow,← Nat.shiftRight_eq_div_pow,Nat.testBit_shiftRight];by_cases h:p≤j
 ·simp only [h,decide_true,Bool.true_and];congr 1;omega
 ·simp [h]
theorem Aek (x p:Nat) (hx:x<2 ^ 64) (h:hiB x p≠0) :
  p≤Lib.ctz 64 (hiB x p)∧Lib.ctz 64 (hiB x p)<64∧hiB x p &&& (hiB x p-1)=hiB x (Lib.ctz 64 (hiB x p)+1)∧x.testBit (Lib.ctz 64 (hiB x p))=true∧∀ j,p≤j→j<Lib.ctz 64 (hiB x p)→x.testBit j=false:=by
 have hy:hiB x p<2 ^ 64:=Nat.lt_of_le_of_lt (Ul x p) hx;obtain ⟨m,hm,ht⟩:=Lib.ctzFrom_spec 64 (hiB x p) (by omega) hy;have e:Lib.ctz 64 (hiB x p)=Lib.ctzFrom 64 (hiB x p):=by simp [Lib.ctz,h]
 rw [e];generalize hT:Lib.ctzFrom 64 (hiB x p)=t at *;have bitsY:∀ j,(hiB x p).testBit j=(decide (t≤j)&&(2*m+1).testBit (j-t)):=fun j=>by
  rw [hm,Nat.mul_comm,Nat.testBit_mul_two_pow]
 have hpt:p≤t:=by
  apply Nat.le_of_not_lt;intro hlt;have h1:=Hp x p t;rw [bitsY t] at h1;simp only [Nat.le_refl,decide_true,Bool.true_and,Nat.sub_self,Nat.testBit_zero] at h1;have:decide (p≤t)=false:=by simp;omega
  rw [this,Bool.false_and] at h1;simp at h1
 have bit_t:x.testBit t=true:=by
  have h1:=Hp x p t;rw [bitsY t] at h1;simp only [Nat.le_refl,decide_true,Bool.true_and,Nat.sub_self,Nat.testBit_zero,hpt] at h1;rw [← h1];simp
 refine ⟨hpt,ht,?_,bit_t,fun j hj1 hj2=>?_⟩
 ·have h1:hiB x p=2 ^ t*(2*m+1)+0:=by rw [hm];rfl
  have hpos:0<2 ^ t:=Nat.pow_pos (by omega);have h2:hiB x p-1=2 ^ t*(2*m)+(2 ^ t-1):=by rw [hm,Nat.mul_add];omega
  rw [h2,h1,Gx t _ _ _ _ hpos (by omega),Nat.zero_and,Nat.add_zero];have h3:(2*m+1) &&& (2*m)=2*m:=by
   have:=Gx 1 m 1 m 0 (by omega) (by omega)
   simpa [Nat.and_self] using this
  rw [h3];apply Nat.eq_of_testBit_eq;intro j;rw [Hp,show 2 ^ t*(2*m)=m*2 ^ (t+1) by rw [Nat.pow_succ,Nat.mul_comm m,Nat.mul_assoc],Nat.testBit_mul_two_pow];by_cases hj:t+1≤j
  ·simp only [hj,decide_true,Bool.true_and];have h4:=Hp x p j;rw [bitsY j] at h4;rw [show decide (t≤j)=true by simp;omega,show decide (p≤j)=true by simp;omega,Bool.true_and,Bool.true_and] at h4;rw [← h4,show j-t=(j-(t+1))+1 by omega,Nat.testBit_succ]
   congr 1;omega
  ·simp [hj]
 ·have h1:=Hp x p j;rw [bitsY j,show decide (t≤j)=false by simp;omega,show decide (p≤j)=true by simp;omega,Bool.false_and,Bool.true_and] at h1;exact h1.symm
theorem Wp (c:Cls) (a b:Nat) (hab:a≤b) (h:∀ j,a≤j→j<b→c.getLsbD j=false):Al c b=Al c a:=by
 induction b with
 | zero=>rw [show a=0 by omega]
 | succ b ih=>
  by_cases hb:a=b+1
  ·rw [hb]
  ·simp only [Al];rw [h b (by omega) (by omega),ih (by omega) (fun j h1 h2=>h j h1 (by omega))];simp
theorem Aea (c:Cls) (i p:Nat) (h:hiB (wn c i) p≠0) :
  Lib.ctz 64 (hiB (wn c i) p)<64∧hiB (wn c i) p &&& (hiB (wn c i) p-1)=hiB (wn c i) (Lib.ctz 64 (hiB (wn c i) p)+1)∧
  Al c (64*i+(Lib.ctz 64 (hiB (wn c i) p)+1))=Al c (64*i+p)++[UInt8.ofNat (64*i+Lib.ctz 64 (hiB (wn c i) p))]:=by
 obtain ⟨h1,h2,h3,h4,h5⟩:=Aek (wn c i) p (B9 c i) h;refine ⟨h2,h3,?_⟩;generalize Lib.ctz 64 (hiB (wn c i) p)=t at *;have hb:∀ j,p≤j→j<t→c.getLsbD (64*i+j)=false:=fun j hj1 hj2=>by
  have:=h5 j hj1 hj2;rw [B8,show decide (j<64)=true by simp;omega,Bool.true_and] at this;exact this
 have ht:c.getLsbD (64*i+t)=true:=by
  rw [B8,show decide (t<64)=true by simp;omega,Bool.true_and] at h4;exact h4
 rw [← Nat.add_assoc];show (if c.getLsbD (64*i+t) then Al c (64*i+t)++[UInt8.ofNat (64*i+t)] else Al c (64*i+t))=_;rw [if_pos ht,Wp c (64*i+p) (64*i+t) (by omega) (fun j hj1 hj2=>by
  have:=hb (j-64*i) (by omega) (by omega)
  rwa [show 64*i+(j-64*i)=j by omega] at this)]
theorem Aeb (c:Cls) (i p:Nat) (hp:p≤64) (h:hiB (wn c i) p=0):Al c (64*(i+1))=Al c (64*i+p):=by
 refine Wp c _ _ (by omega) (fun j hj1 hj2=>?_);have:=Hp (wn c i) p (j-64*i);rw [h,Nat.zero_testBit,show decide (p≤j-64*i)=true by simp;omega,Bool.true_and,B8,show decide (j-64*i<64)=true by simp;omega,Bool.true_and,show 64*i+(j-64*i)=j by omega] at this;exact this.symm
theorem Wq (c:Cls) (a b:Nat) (hab:a≤b):Al c a <+: Al c b:=by
 induction b with
 | zero=>rw [show a=0 by omega];exact List.prefix_refl _
 | succ b ih=>
  by_cases hb:a=b+1
  ·rw [hb];exact List.prefix_refl _
  ·have ih:=ih (by omega);simp only [Al];split
   ·exact ih.trans (List.prefix_append _ _)
   ·exact ih
open Go Go.RowKit
def Mh {α:Type} (F:Fence) (n:Nat) (P:Program) (g:Nat) (lb:Array Value) (encs:α→Array Value) (Nx:List α→α→Prop) (S Sp:List α→Prop) (w:World):Prop:=
 ∀ (l:Nat) (J Jx:List α→World→Prop) (W:World),(∀ pre W',J pre W'→Below w.heap.size w W')→
  (∀ pre x W1,J pre W1→Nx pre x→YieldAt F (n-1) P l (encs x) W1 fun e W'=>(e=.returned (.bool true)∧J (pre++[x]) W')∨(e=.returned (.bool false)∧Jx (pre++[x]) W'))→
  J [] W→
  CallsIn F n P g (#[.func (.yield l) #[] #[]]++lb) W fun e W'=>(∃ v,e=.returned v)∧((∃ xs,S xs∧J xs W')∨(∃ pre,Sp pre∧Jx pre W'))
def Acv {α:Type} (I:List α→World→Prop) (Ix:Code→List α→World→Prop) (xs:List α) (W:World):Exit→Act→World→Prop
 | .normal,_,W'=>KeepsOthers W W'∧I xs W'
 | .ret,_,W'=>KeepsOthers W W'∧Ix .ret xs W'
 | .exit id,_,W'=>KeepsOthers W W'∧Ix (.exit id) xs W'
 | .goto t,_,W'=>KeepsOthers W W'∧Ix (.goto t) xs W'
 | .panic _,_,_=>False
 | .outgrown,_,_=>False
def Mi {β:Type} (B:Nat) (I:β→World→Prop):Prop:=∀ s W l (o o':Obj),I s W→B≤l→W.heap[l]? = some o→o.isCells=false→I s (W.putObj l o')
def Ajw {β:Type} (I:β→World→Prop):Prop:=∀ s W (o:Obj),I s W→I s (W.alloc o)
variable {F:Fence} {n:Nat} {P:Program}
theorem Qs {α:Type} {g:Operand} {ps:Array Tmp} {assign body:Code} {Q:Exit→Act→World→Prop} {a:Act} {w:World}
  (hro:F.round=none) (h1:1≤n) {gf:Nat} {lb:Array Value} (hg:a.eval g=.func (.func gf) #[] lb) (hFg:F.fn gf) (eg:∀ args w,(callFunc gf args).run P w=.ok (.enter gf args) w)
  {encs:α→Array Value} {Nx:List α→α→Prop} {S Sp:List α→Prop} {w0:World} (hseq:Mh F (n-1) P gf lb encs Nx S Sp w0) (hps:∀ x,(encs x).size=ps.size)
  (I:List α→World→Prop) (Ix:Code→List α→World→Prop) (hI:Mi w.heap.size I) (hIn:Ajw I) (hIx:∀ c,Mi w.heap.size (Ix c)) (hb:∀ pre W,I pre W→Below w0.heap.size w0 W) (h0:I [] w) (a₁:α→Act)
  (hassign:∀ (l:Nat) (x:α) (W:World) (K:Act→World→Prop),K (a₁ x) W→
   assign.wpIn (F.inRound l) (n-1-1) P (Exit.then K (fun _ _ _=>False)) { tmps:=(ps.zip (encs x)).foldl (fun t (p,v)=>t.setIfInBounds p v) a.tmps,defers:=[] } W)
  (hbody:∀ (l:Nat) (pre:List α) (x:α) (W:World),I pre W→Nx pre x→body.wpIn (F.inRound l) (n-1-1) P (Acv I Ix (pre++[x]) W) (a₁ x) W)
  (hdone:∀ (D:Nat) (xs:List α) (W:World),w.heap.size≤D→S xs→I xs W→W.heap[D]? = some (.deferred (some []))→Q .normal { a with defers:={ target:=.collected D,args:=#[] }::a.defers } W)
  (hstop:∀ (D:Nat) (c:Code) (pre:List α) (W:World),w.heap.size≤D→Sp pre→Ix c pre W→W.heap[D]? = some (.deferred (some []))→c.wpIn F n P Q { a with defers:={ target:=.collected D,args:=#[] }::a.defers } W) :
  (Code.rangeFunc g ps assign body).wpIn F n P Q a w:=by
 refine wpIn_rangeFunc ?_;intro fn hfn;rw [hro];obtain ⟨rec,hrec⟩:∃ rec:LoopState→Option Code→Loop,rec=fun st pe=>{ state:=st,pending:=pe,fn,tmps:=a.tmps,params:=ps,assign,body,defers:=w.heap.size }:=⟨_,rfl⟩
 obtain ⟨W1,hW1⟩:∃ W1,(w.alloc (.deferred (some []))).alloc (.loop (rec .ready none))=W1:=⟨_,rfl⟩;have hL1:W1.heap[w.heap.size+1]? = some (.loop (rec .ready none)):=by
  rw [← hW1];have:=World.alloc_heap_new (w.alloc (.deferred (some []))) (.loop (rec .ready none));rwa [World.size_alloc] at this
 have hK1:W1.heap[w.heap.size]? = some (.deferred (some [])):=by
  rw [← hW1];exact (Below.heap_alloc _ _ _ (by simp)).trans (World.alloc_heap_new w _)
 have hI1:I [] W1:=by rw [← hW1];exact hIn _ _ _ (hIn _ _ _ h0)
 refine ⟨w.heap.size+1,[{ target:=.collected w.heap.size,args:=#[] }],W1,{ target:=.fn (.func gf) lb,args:=#[.func (.yield (w.heap.size+1)) #[] #[]] },W1,gf,
  #[.func (.yield (w.heap.size+1)) #[] #[]]++lb,W1,?_,?_,?_,?_,fun _=>h1,?_⟩
 ·rw [← hW1,hrec];exact run_enterLoop_outer _ _ _ _ _
 ·simp only [resolve,hg];simp [go_sem]
 ·intro f' hf';simp [Target.leads] at hf';subst hf';exact hFg
 ·simp [invoke,go_sem,eg]
 ·refine (hseq (w.heap.size+1)
   (fun pre W=>I pre W∧W.heap[w.heap.size+1]? = some (.loop (rec .ready none))∧W.heap[w.heap.size]? = some (.deferred (some [])))
   (fun pre W=>∃ c,Ix c pre W∧W.heap[w.heap.size+1]? = some (.loop (rec .done (some c)))∧W.heap[w.heap.size]? = some (.deferred (some [])))
   W1 (fun pre W h=>hb _ _ h.1) ?_ ⟨hI1,hL1,hK1⟩).mono ?_
  ·rintro pre x W ⟨hi,hl,hk⟩ hnx;have hlt:w.heap.size+1<W.heap.size:=(Array.getElem?_eq_some_iff.1 hl).1;have hy:=run_yield (P:=P) (args:=encs x) hl (by rw [hrec];exact hps x);rw [hrec] at hy;refine ⟨fn,_,assign,body,hy,roundIn_of_wpIn hfn (hassign _ x W _ ⟨_,run_beginRound hl (by rw [hrec]),?_⟩)⟩;have hl2:(W.putObj (w.heap.size+1) (.loop { rec .ready none with state:=.busy })).heap[w.heap.size+1]? = some (.loop { rec .ready none with state:=.busy }):=World.putObj_heap_same hlt;have hk2:(W.putObj (w.heap.size+1) (.loop { rec .ready none with state:=.busy })).heap[w.heap.size]? = some (.deferred (some [])):=(World.putObj_heap_other (by omega)).trans hk;refine wpIn_mono (hbody _ pre x _ (hI _ _ _ _ _ hi (by omega) hl rfl) hnx) ?_;have fin:∀ (jump:Option Code) (W3:World),KeepsOthers (W.putObj (w.heap.size+1) (.loop { rec .ready none with state:=.busy })) W3→
     (Instr.endRound (w.heap.size+1) jump).run P W3=.ok (.bool jump.isNone) (W3.putObj (w.heap.size+1) (.loop (rec (if jump.isNone then .ready else .done) jump)))∧
     W3.heap[w.heap.size+1]? = some (.loop { rec .ready none with state:=.busy })∧
     (W3.putObj (w.heap.size+1) (.loop (rec (if jump.isNone then .ready else .done) jump))).heap[w.heap.size+1]? = some (.loop (rec (if jump.isNone then .ready else .done) jump))∧
     (W3.putObj (w.heap.size+1) (.loop (rec (if jump.isNone then .ready else .done) jump))).heap[w.heap.size]? = some (.deferred (some [])):=fun jump W3 hk3=>by
    have hl3:=hk3.same _ _ hl2 rfl;have:=run_endRound (P:=P) jump hl3;rw [hrec] at this ⊢;exact ⟨this,by rw [hrec] at hl3;exact hl3,World.putObj_heap_same (Array.getElem?_eq_some_iff.1 hl3).1,(World.putObj_heap_other (by omega)).trans (hk3.same _ _ hk2 rfl)⟩
   rintro e a3 W3 hp;cases e with
   | normal=>
    obtain ⟨hk3,hi3⟩:=hp;obtain ⟨hr,hl3,hl4,hk4⟩:=fin none W3 hk3;exact ⟨_,_,hr,.inl ⟨rfl,hI _ _ _ _ _ hi3 (by omega) hl3 rfl,hl4,hk4⟩⟩
   | ret=>
    obtain ⟨hk3,hi3⟩:=hp;obtain ⟨hr,hl3,hl4,hk4⟩:=fin (some .ret) W3 hk3;exact ⟨_,_,hr,.inr ⟨rfl,.ret,hIx _ _ _ _ _ _ hi3 (by omega) hl3 rfl,hl4,hk4⟩⟩
   | exit id=>
    obtain ⟨hk3,hi3⟩:=hp;obtain ⟨hr,hl3,hl4,hk4⟩:=fin (some (.exit id)) W3 hk3;exact ⟨_,_,hr,.inr ⟨rfl,.exit id,hIx _ _ _ _ _ _ hi3 (by omega) hl3 rfl,hl4,hk4⟩⟩
   | goto t=>
    obtain ⟨hk3,hi3⟩:=hp;obtain ⟨hr,hl3,hl4,hk4⟩:=fin (some (.goto t)) W3 hk3;exact ⟨_,_,hr,.inr ⟨rfl,.goto t,hIx _ _ _ _ _ _ hi3 (by omega) hl3 rfl,hl4,hk4⟩⟩
   | panic ch=>exact hp.elim
   | outgrown=>exact hp.elim
  ·rintro e W2 ⟨⟨v,rfl⟩,(⟨xs,hS,hi,hl,hk⟩|⟨pre,hSp,c,hi,hl,hk⟩)⟩
   ·exact ⟨none,_,by have:=run_endLoop (P:=P) hl (by rw [hrec];simp);rw [hrec] at this;exact this,hdone _ xs _ (Nat.le_refl _) hS (hI _ _ _ _ _ hi (by omega) hl rfl) ((World.putObj_heap_other (by omega)).trans hk)⟩
   ·exact ⟨some c,_,by have:=run_endLoop (P:=P) hl (by rw [hrec];simp);rw [hrec] at this;exact this,hstop _ c pre _ (Nat.le_refl _) hSp (hIx c _ _ _ _ _ hi (by omega) hl rfl) ((World.putObj_heap_other (by omega)).trans hk)⟩
theorem Ext.putObj {a b:World} (h:Ext a b) {l:Nat} (hl:a.heap.size≤l) (o:Obj):Ext a (b.putObj l o):=
 h.grown (grownBy_putObj' b l o) (fun k e=>by cases e;exact hl)
attribute [local go_sem] Oper.semAt_some
def Tab (w:World):Prop:=∀ j,j<64→w.cell? ⟨0,j,none⟩=some (.int .u8 (Lib.deBruijn64tab.getD j 0:Nat))
theorem Tab.below {w W:World} {B:Nat} (h:Tab w) (hb:Below B w W) (hB:0<B):Tab W:=fun j hj=>(hb.cell (p:=⟨0,j,none⟩) hB).trans (h j hj)
theorem Yi (x a:Nat) (hx:x<18446744073709551616) (hx0:x≠0) (hlow:x &&& (18446744073709551616-x)=a) :
  IntKind.u64.wrap (bits BinOp.and IntKind.u64 (x:Int) (IntKind.u64.wrap (-(x:Int)))*285870213051353865) / 288230376151711744=((a*285870213051353865 % 18446744073709551616 / 288230376151711744:Nat):Int):=by
 have e1:IntKind.u64.wrap (-(x:Int))=((18446744073709551616-x:Nat):Int):=by rw [IntKind.wrap_u64];omega
 rw [e1,u64_and_nat x _ hx (by omega),hlow,IntKind.wrap_u64];omega
theorem Yj (F:Fence) (n:Nat) (h57:F.fn 153) (hro:F.round=none) (x k idx:Nat) (w:World) (hx0:((x:Int)==0)=false)
  (key:IntKind.u64.wrap (bits BinOp.and IntKind.u64 (x:Int) (IntKind.u64.wrap (-(x:Int)))*285870213051353865) / 288230376151711744=(idx:Int))
  (hi:idx<64) (hk:k<64) (hcell:w.cell? ⟨0,idx,none⟩=some (.int .u8 (k:Nat))) :
  CallsIn F n Tryz.prog 153 #[.int .u64 (x:Int)] w fun e w'=>e=.returned (.int .i64 (k:Nat))∧w'=w:=by
 refine callsIn_of_wp Tryz.func153 rfl h57 ?_ hro;simp only [Tryz.ntmps153,List.size_toArray,List.length_cons,List.length_nil,Nat.reduceAdd,Nat.reduceSub,Array.replicate_succ,Array.replicate_zero,List.push_toArray,List.append_toArray,List.nil_append,List.cons_append]
 gi_wp2_with (simp only [key])
 go_ret;exact ⟨rfl,rfl⟩
theorem Yk (F:Fence) (n:Nat) (h57:F.fn 153) (hro:F.round=none) (x:Nat) (hx:x<18446744073709551616) (hx0:x≠0) (w:World) (hT:Tab w) :
  CallsIn F n Tryz.prog 153 #[.int .u64 (x:Int)] w fun e w'=>e=.returned (.int .i64 (Lib.ctz 64 x:Nat))∧w'=w:=by
 obtain ⟨hlow,hk⟩:=Lib.lowest_bit 64 x hx0 hx;obtain ⟨hi,htab⟩:=Lib.deBruijn64_at _ hk;have hcell:=hT _ hi;rw [htab] at hcell;exact Yj F n h57 hro x _ _ w (by simp;omega) (Yi x _ hx hx0 hlow) hi hk hcell
theorem Xa (y:Nat) (h0:y≠0) (h:y<18446744073709551616):bits BinOp.and IntKind.u64 (y:Int) ((y:Int)-1)=((y &&& (y-1):Nat):Int):=by
 rw [show ((y:Int)-1)=((y-1:Nat):Int) by omega,u64_and_nat _ _ h (by omega)]
theorem Yh (k:Nat) (h:k<256):((UInt8.ofNat k).toNat:Int)=(k:Int):=by
 simp
 omega
set_option maxRecDepth 100000 in
theorem Ad9 (F:Fence) (n:Nat) (h56:F.fn 152) (h57:F.fn 153) (hro:F.round=none) (hn:1≤n) (l Bc:Nat) (c:Cls) (J Jx:List UInt8→World→Prop)
  (hT:∀ pre W,J pre W→Tab W)
  (hY:∀ pre x W,J pre W→(pre++[x]) <+: Al c 256→YieldAt F (n-1) Tryz.prog l #[bv x] W fun e W'=>(e=.returned (.bool true)∧J (pre++[x]) W')∨(e=.returned (.bool false)∧Jx (pre++[x]) W'))
  (W:World) (hc:W.heap[Bc]? = some (.cells (Aa c) 62 (0,0))) (h0:J [] W) :
  CallsIn F n Tryz.prog 152 #[.func (.yield l) #[] #[],.pointer (some ⟨Bc,0,none⟩)] W fun e W'=>(∃ v,e=.returned v)∧((∃ xs,xs=Al c 256∧J xs W')∨(∃ pre,pre <+: Al c 256∧Jx pre W')):=by
 have c0:=(cell_of_row W _ 0 _ _ _ hc).trans rfl;have c1:=(cell_of_row W _ 1 _ _ _ hc).trans rfl;have c2:=(cell_of_row W _ 2 _ _ _ hc).trans rfl;have c3:=(cell_of_row W _ 3 _ _ _ hc).trans rfl;clear hc;refine callsIn_of_wp Tryz.func152 rfl h56 ?_ hro;simp only [Tryz.ntmps152,List.size_toArray,List.length_cons,List.length_nil,Nat.reduceAdd,Nat.reduceSub,Array.replicate_succ,Array.replicate_zero,List.push_toArray,List.append_toArray,List.nil_append,List.cons_append]
 gi_wp2
 clear c0 c1 c2 c3
 gi_loopw [6] (fun v6 wr=>∃ k:Nat,k≤4∧v6=.int .i64 k∧J (Al c (64*k)) wr) (fun v6 _=>4-(intOf v6).toNat)
 case atStart=>exact ⟨0,by omega,rfl,h0⟩
 case round=>
  obtain ⟨k,hk,rfl,hJ⟩:=hrel;by_cases hlt:k<4
  ·have hix:=Ui c k hlt;have hdk:decide ((k:Int)<4)=true:=by simp;omega
   gi_wp2
   obtain ⟨wo,rfl⟩:∃ wo:World,wo=wr:=⟨_,rfl⟩;clear hix hdk
   gi_loopw [4] (fun v4 wr=>∃ p:Nat,p≤64∧v4=.int .u64 (hiB (wn c k) p:Nat)∧J (Al c (64*k+p)) wr) (fun v4 _=>(intOf v4).toNat)
   case atStart=>exact ⟨0,by omega,by rw [Af5];rfl,hJ⟩
   case round=>
    obtain ⟨p,hp,rfl,hJ1⟩:=hrel;have hy64:hiB (wn c k) p<18446744073709551616:=Nat.lt_of_le_of_lt (Ul _ _) (B9 c k);by_cases hy0:hiB (wn c k) p=0
    ·have hend:=Aeb c k p hp hy0;rw [hy0];rw [← hend] at hJ1;clear hend hy0 hy64
     gi_wp2
     go_roundw
     case rel=>exact ⟨k+1,by omega,by go_num,hJ1⟩
     case measure=>simp [intOf];omega
    ·obtain ⟨ht,hand,hbt⟩:=Aea c k p hy0;have htz:=Yk F (n-1) h57 hro (hiB (wn c k) p) hy64 hy0 wr (hT _ _ hJ1);have hpre:Al c (64*k+p)++[UInt8.ofNat (64*k+Lib.ctz 64 (hiB (wn c k) p))] <+: Al c 256:=by
      rw [← hbt];exact Wq c _ _ (by omega)
     obtain ⟨fn,tmps,assign,body,hy,hR⟩:=hY _ _ wr hJ1 hpre;rw [← hbt] at hR;have HAnd:=Lib.hid hand;have hlt2:hiB (wn c k) (Lib.ctz 64 (hiB (wn c k) p)+1)<hiB (wn c k) p:=by
      rw [← hand];have:=Nat.and_le_right (n:=hiB (wn c k) p) (m:=hiB (wn c k) p-1);omega
     clear hand hbt hpre;generalize hiB (wn c k) p=y at *;generalize Lib.ctz 64 y=t at *;have hb:bv (UInt8.ofNat (64*k+t))=.int .u8 (64*(k:Int)+(t:Int)):=by
      show Value.int .u8 ((UInt8.ofNat (64*k+t)).toNat:Int)=_;rw [Yh _ (by omega)]
      congr 1
     have hw:IntKind.u8.wrap (64*(k:Int)+(t:Int))=64*(k:Int)+(t:Int):=IntWalk.u8_in _ ⟨by omega,by omega⟩;rw [hb] at hy;have hne:((y:Int) != 0)=true:=by simp;omega
     have hy1:1≤y:=by omega
     have HT:=Lib.hid htz;clear htz hb hy0
     gi_wp2_with (gi_at_call 153;refine HT.out.mono ?_;clear HT;rintro e w' ⟨rfl,rfl⟩)
     refine hR.mono ?_;rintro e W3 (⟨rfl,hJ3⟩|⟨rfl,hJx3⟩)
     ·gi_wp2
      go_roundw
      case rel=>exact ⟨t+1,by omega,by rw [Xa y (by omega) hy64,HAnd.out],hJ3⟩
      case measure=>rw [Xa y (by omega) hy64,HAnd.out];simp [intOf];omega
     ·gi_wp2
      refine bodyPost_ret (results_none rfl _ _ _) rfl ?_;exact ⟨⟨_,rfl⟩,.inr ⟨_,Wq c _ _ (by omega),hJx3⟩⟩
  ·obtain rfl:k=4:=by omega
   gi_wp2
   go_end0
   exact ⟨⟨_,rfl⟩,.inl ⟨_,rfl,hJ⟩⟩
attribute [local go_sem] Oper.semAt_some
theorem Tt (F:Fence) (n:Nat) (h56:F.fn 152) (h57:F.fn 153) (hro:F.round=none) (hn:1≤n) (Bc:Nat) (c:Cls) (w:World) (hT:Tab w) (hc:w.heap[Bc]? = some (.cells (Aa c) 62 (0,0))) :
  Mh F n Tryz.prog 152 #[.pointer (some ⟨Bc,0,none⟩)] (fun x=>#[bv x]) (fun pre x=>(pre++[x]) <+: Al c 256) (·=Al c 256) (· <+: Al c 256) w:=by
 intro l J Jx W hb hY h0;have hlt:=Ak hc;exact Ad9 F n h56 h57 hro hn l Bc c J Jx (fun pre W' h=>hT.below (hb _ _ h) (by omega)) hY W (((hb _ _ h0).block Bc hlt).trans hc) h0
theorem Tu (F:Fence) (n:Nat) (h45:F.fn 138) (hro:F.round=none) (c:Cls) (w:World) :
  CallsIn F n Tryz.prog 138 #[.agg (Aa c)] w fun e w'=>e=.returned (.func (.func 152) #[] #[.pointer (some ⟨w.heap.size,0,none⟩)])∧w'=w.alloc (.cells (Aa c) 62):=by
 refine callsIn_of_wp Tryz.func138 rfl h45 ?_ hro;simp only [Tryz.ntmps138,List.size_toArray,List.length_cons,List.length_nil,Nat.reduceAdd,Nat.reduceSub,Array.replicate_succ,Array.replicate_zero,List.push_toArray,List.append_toArray,List.nil_append,List.cons_append]
 gi_wp2
 go_ret;exact ⟨rfl,rfl⟩
theorem I0 {W:World} {k l:Nat} {o o':Obj} {cs:Array Value} {t:TypeId} {fr:Nat × Nat} (h:W.heap[k]? = some (.cells cs t fr)) (hl:W.heap[l]? = some o) (ho:o.isCells=false):(W.putObj l o').heap[k]? = some (.cells cs t fr):=by
 have hne:k≠l:=by rintro rfl;rw [h] at hl;cases hl;cases ho
 exact (World.putObj_heap_other hne).trans h
theorem Ae6 (F:Fence) (n:Nat) (h23:F.fn 144) (h45:F.fn 138) (h56:F.fn 152) (h57:F.fn 153) (hro:F.round=none) (hn:3≤n) (c:Cls) (w:World) (hT:Tab w) (hsz:0<w.heap.size) :
  CallsIn F n Tryz.prog 144 #[.agg (Aa c)] w fun e w'=>e=.returned (.int .i64 (Bh (Al c 256)))∧Ext w w'∧w.drawn≤w'.drawn:=by
 have h1:1≤n:=by omega
 have h2:1≤n-1:=by omega
 have hA:=Af (heap_alloc_new w (.cells (Aa c) 62)) (.cells #[.int .i64 0] 3);have hR:=heap_alloc2_new w (.cells (Aa c) 62) (.cells #[.int .i64 0] 3);have hE:=((Ext.refl w).alloc (.cells (Aa c) 62)).alloc (.cells #[.int .i64 0] 3);have hD:w.drawn≤((w.alloc (.cells (Aa c) 62)).alloc (.cells #[.int .i64 0] 3)).drawn:=Nat.le_refl _;have hs:((w.alloc (.cells (Aa c) 62)).alloc (.cells #[.int .i64 0] 3)).heap.size=w.heap.size+1+1:=by simp
 refine callsIn_of_wp_marks Tryz.func144 rfl h23 ?_ hro;simp only [Tryz.ntmps144,List.size_toArray,List.length_cons,List.length_nil,Nat.reduceAdd,Nat.reduceSub,Array.replicate_succ,Array.replicate_zero,List.push_toArray,List.append_toArray,List.nil_append,List.cons_append]
 gi_wp2_with (gi_at_call 138;refine (Tu F (n-1) h45 hro c _).mono ?_;rintro e w' ⟨rfl,rfl⟩)
 have hR3:=Af hR (.cells (Aa c) 62);have hC3:=heap_alloc_new ((w.alloc (.cells (Aa c) 62)).alloc (.cells #[.int .i64 0] 3)) (.cells (Aa c) 62);rw [hs] at hC3;have hE3:=hE.alloc (.cells (Aa c) 62);have hD3:w.drawn≤(((w.alloc (.cells (Aa c) 62)).alloc (.cells #[.int .i64 0] 3)).alloc (.cells (Aa c) 62)).drawn:=Nat.le_refl _;have hS3:w.heap.size+2<(((w.alloc (.cells (Aa c) 62)).alloc (.cells #[.int .i64 0] 3)).alloc (.cells (Aa c) 62)).heap.size:=by simp
 clear hA hR hE hD hs;generalize ((w.alloc (.cells (Aa c) 62)).alloc (.cells #[.int .i64 0] 3)).alloc (.cells (Aa c) 62)=w3 at *;have hT3:=hT.below hE3.below hsz;have HR3:=Lib.hid hR3;clear hR3;refine Qs hro h1 (gf:=152) (lb:=#[.pointer (some ⟨w.heap.size+1+1,0,none⟩)]) rfl h56 (enters_of Tryz.func152 (by kernel_rfl) rfl)
  (Tt F (n-1) h56 h57 hro h2 (w.heap.size+1+1) c w3 hT3 hC3) (fun _=>rfl)
  (fun pre W=>pre=[]∧Ext w3 W∧w3.drawn≤W.drawn)
  (fun k pre W=>k=.ret∧∃ x,pre=[x]∧Ext w W∧w.drawn≤W.drawn∧W.heap[w.heap.size+1]? = some (.cells #[.int .i64 (x.toNat:Int)] 3 (0,0)))
  (fun s W l o o' h hl ho hc=>⟨h.1,h.2.1.putObj hl o',h.2.2⟩)
  (fun s W o h=>⟨h.1,h.2.1.alloc o,h.2.2⟩)
  (fun k s W l o o' h hl ho hc=>by
   obtain ⟨hk,x,hs,hE,hD,hr⟩:=h;exact ⟨hk,x,hs,hE.putObj (by omega) o',hD,I0 hr ho hc⟩)
  (fun pre W h=>h.2.1.below) ⟨rfl,Ext.refl _,Nat.le_refl _⟩
  (fun x=>{ tmps:=#[.agg (Aa c),.pointer (some ⟨w.heap.size,0,none⟩),.pointer (some ⟨w.heap.size+1,0,none⟩),bv x,.agg (Aa c),.func (.func 152) #[] #[.pointer (some ⟨w.heap.size+1+1,0,none⟩)],bv x,undef,undef],defers:=[] }) ?assign ?body ?done ?stop
 case assign=>
  intro l x W K hK
  gi_wp2
  exact hK
 case body=>
  rintro l pre x W ⟨rfl,hE,hD⟩ _;have hr:=hE.heap HR3.out;have hrc:=(cell_of_row W _ 0 _ _ _ hr).trans rfl;have hrf:=frozen_of_row W _ 0 _ _ hr;have HR:=Lib.hid hr;have hx:=x.toNat_lt;clear hr
  gi_wp2
  refine ⟨KeepsOthers.setCell _ _ _,rfl,x,rfl,(hE3.trans hE).setCell (by simp) _,Nat.le_trans hD3 hD,?_⟩;rw [setCell_eq_setRow W _ _ _ _ _ _ HR.out,show (#[Value.int .i64 0]:Array Value).setIfInBounds 0 (.int .i64 (x.toNat:Int))=#[.int .i64 (x.toNat:Int)] from rfl];exact setRow_heap W _ _ _ _ _ HR.out
 case done=>
  rintro D ys W hDl rfl ⟨he,hE,hD⟩ hK;have hr:=hE.heap HR3.out;have hrc:=(cell_of_row W _ 0 _ _ _ hr).trans rfl;have hrf:=frozen_of_row W _ 0 _ _ hr;have HR:=Lib.hid hr;have HB:=Lib.hid he;have HK:=Lib.hid hK;clear hr he hK
  gi_wp2
  have hK':=(KeepsOthers.setCell W ⟨w.heap.size+1,0,none⟩ (.int .i64 (-1))).same D _ HK.out rfl;refine ⟨by simp,.inl ⟨_,_,rfl,run_takeDeferred hK',?_⟩⟩;have h5:=I0 (o':=.deferred none) (by rw [setCell_eq_setRow W _ _ _ _ _ _ HR.out];exact setRow_heap W _ _ _ _ _ HR.out) hK' rfl;have hc5:=(cell_of_row _ _ 0 _ _ _ h5).trans rfl;refine ⟨.int .i64 (-1),?_,by rw [HB.out];rfl,((hE3.trans hE).setCell (by simp) _).putObj (by omega) _,Nat.le_trans hD3 hD⟩;simp [results,Tryz.f144,go_sem,hc5]
 case stop=>
  rintro D k pre W hDl hpre ⟨rfl,x,rfl,hE,hD,hr⟩ hK;have HR:=Lib.hid hr;have HK:=Lib.hid hK;clear hr hK
  gi_wp2
  refine ⟨by simp,.inl ⟨_,_,rfl,run_takeDeferred HK.out,?_⟩⟩;have h5:=I0 (o':=.deferred none) HR.out HK.out rfl;have hc5:=(cell_of_row _ _ 0 _ _ _ h5).trans rfl;refine ⟨.int .i64 (x.toNat:Int),?_,?_,hE.putObj (by omega) _,hD⟩
  ·simp [results,Tryz.f144,go_sem,hc5]
  ·obtain ⟨r,hr⟩:=hpre;rw [← hr];rfl
theorem Oy (c:Cls) (w:World) (hT:Tab w) (hsz:0<w.heap.size) :
  Calls Tryz.prog 144 #[.agg (Aa c)] w fun e w'=>e=.returned (.int .i64 (Bh (Al c 256)))∧Ext w w'∧w.drawn≤w'.drawn:=
 callsIn_wide.1 (Ae6 Fence.wide 3 trivial trivial trivial trivial rfl (Nat.le_refl _) c w hT hsz)
end Go.Proofs.YtaiogolidlamiaaGreatDoor
