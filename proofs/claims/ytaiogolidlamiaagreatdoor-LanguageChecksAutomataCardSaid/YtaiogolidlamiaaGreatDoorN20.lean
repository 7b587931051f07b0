import Derived.Test.YtaiogolidlamiaaGreatDoorN13
import Derived.ChangeKeysEq
import Derived.Test.YtaiogolidlamiaaGreatDoorN18
import Derived.Test.YtaiogolidlamiaaGreatDoorN08
import Derived.Test.YtaiogolidlamiaaGreatDoorN19
import Derived.Test.YtaiogolidlamiaaGreatDoorN16
import Derived.Test.YtaiogolidlamiaaGreatDoorN11
set_option linter.unusedVariables false
set_option linter.unusedSimpArgs false
open Array renaming getElem?_eq_getElem → ϟ
open Bool renaming true → Ξ, false → Τ, eq_iff_iff → ϯ
open Classical renaming byContradiction → ϧ
open Go renaming Value → Ν, World → Λ, Calls → ϓ, info_parts → Ϟ, heap_alloc2_new → Ϗ, wpList_load_row → Ο, wpList_store_row → Φ, setRow_heap → μ, maxLen → ϛ, undef → ς, wpList_append_lies → Ϙ, cell_one_new → ϭ, bodyPost_ret → ω
open Go.Act renaming put → Ϛ
open Go.Ending renaming returned → θ
open Go.IntKind renaming i64 → ε, u64 → π
open Go.Lib renaming hid → Α
open Go.Obj renaming cells → Ε
open Go.Operand renaming tmp → η
open Go.Proofs.Tryz renaming prog → Ζ, underlying30 → Κ, zeroCells79 → ϖ, underlying68 → ϔ, underlying28 → Ã, underlying79 → Ϻ
open Go.Result renaming andThen_ok → ï
open Go.RowKit renaming Hid → À
open Go.Value renaming slice → Β, int → ö, oneCell' → ό, pointer → Ω, bool → ο, tuple → ϙ, slice → Ϥ
open Go.World renaming ownsRow → Ϡ
open Int renaming toNat_natCast → å
open List renaming range → ι, map_congr_left → Í, mem_range → υ, getD_eq_getElem?_getD → Η, length_map → ϋ, nodup_iff_pairwise_ne → ϣ, pairwise_map → ü, mem_map → ϸ, getElem?_cons_succ → È, map_cons → Æ, getElem?_eq_getElem → Μ, setIfInBounds_toArray → Ι, set_cons_zero → Χ, set_cons_succ → Ψ, replicate → ζ, length_append → Υ, getElem_mem → í, map_append → ϝ, getElem?_eq_some_iff → ϊ
open List.Pairwise renaming imp_of_mem → á
open Nat renaming lt_of_lt_of_le → δ, zero_add → é, le_trans → ψ
open Option renaming some → Δ, none → Γ
open Option.some renaming inj → ύ
namespace Go.Proofs.YtaiogolidlamiaaGreatDoor
set_option maxRecDepth 100000
set_option maxHeartbeats 8000000
def C7 (x:Dfa) (S k:Nat):Nat->Nat
 | 0=>0
 | n+1=>if S.testBit (x.ent2 n k) then C7 x S k n ||| 2 ^ n else C7 x S k n
def D3 (x:Dfa):Nat->Nat
 | 0=>0
 | n+1=>if x.ok n then D3 x n ||| 2 ^ n else D3 x n
theorem Uw (a n s:Nat):(a ||| 2 ^ n).testBit s=Ξ↔a.testBit s=Ξ\/s=n:=by
 rw[Nat.testBit_or,Bool.or_eq_true,Nat.testBit_two_pow,decide_eq_true_eq];exact⟨λh=>h.imp_right λe=>e.symm,λh=>h.imp_right λe=>e.symm⟩
theorem Td (x:Dfa) (S k:Nat):∀ n s,(C7 x S k n).testBit s=Ξ↔s<n/\S.testBit (x.ent2 s k)=Ξ
 | 0,s=>by simp[C7]
 | n+1,s=>by
  have G:=Td x S k n s;unfold C7;split
  ·rename_i h
   rw[Uw,G];constructor
   ·rintro (⟨E,D⟩|rfl)
    ·exact⟨by omega,D⟩
    ·exact⟨by omega,h⟩
   ·rintro⟨E,D⟩;by_cases e:s=n
    ·exact .inr e
    ·exact .inl ⟨by omega,D⟩
  ·rename_i h
   rw[G];constructor
   ·rintro⟨E,D⟩;exact⟨by omega,D⟩
   ·rintro⟨E,D⟩;refine⟨?_,D⟩;by_cases e:s=n
    ·subst e;exact absurd D h
    ·omega
theorem Zp (x:Dfa):∀ n s,(D3 x n).testBit s=Ξ↔s<n/\x.ok s=Ξ
 | 0,s=>by simp[D3]
 | n+1,s=>by
  have G:=Zp x n s;unfold D3;split
  ·rename_i h
   rw[Uw,G];constructor
   ·rintro (⟨E,D⟩|rfl)
    ·exact⟨by omega,D⟩
    ·exact⟨by omega,h⟩
   ·rintro⟨E,D⟩;by_cases e:s=n
    ·exact .inr e
    ·exact .inl ⟨by omega,D⟩
  ·rename_i h
   rw[G];constructor
   ·rintro⟨E,D⟩;exact⟨by omega,D⟩
   ·rintro⟨E,D⟩;refine⟨?_,D⟩;by_cases e:s=n
    ·subst e;exact absurd D h
    ·omega
theorem Og (x:Dfa) (S k:Nat):∀ n,C7 x S k n<2 ^ n
 | 0=>by simp[C7]
 | n+1=>by
  have E:=Og x S k n;have D:2 ^ n<2 ^ (n+1):=Nat.pow_lt_pow_right (by omega) (by omega);unfold C7;split
  ·exact Nat.or_lt_two_pow (by omega) D
  ·omega
theorem Rm (x:Dfa):∀ n,D3 x n<2 ^ n
 | 0=>by simp[D3]
 | n+1=>by
  have E:=Rm x n;have D:2 ^ n<2 ^ (n+1):=Nat.pow_lt_pow_right (by omega) (by omega);unfold D3;split
  ·exact Nat.or_lt_two_pow (by omega) D
  ·omega
def rnN (x:Dfa) (S b:Nat):Nat:=C7 x S (Ak x.cls b) x.n.length
def rsN (x:Dfa):Nat:=D3 x x.n.length
def Eu (S:Nat):List Bool:=(ι 64).map λs=>S.testBit s
theorem Lz (S s:Nat) (hs:s<64):(Eu S).getD s Τ=S.testBit s:=Km _ s hs
theorem Ach {x:Dfa} (D:Val x) (G:x.n.length<=64) (S b:Nat) (E:b<256):Eu (rnN x S b)=rnx x (Eu S) b:=by
 unfold Eu rnx;refine Í λs hs=>?_
 have hs:=υ.1 hs;rw[ϯ,Bool.and_eq_true,decide_eq_true_eq];unfold rnN;rw[Td];by_cases h:s<x.n.length
 ·have I:x.stp s b<x.n.length:=D.stp_lt h E;have:=Lz S (x.stp s b) (by omega);unfold Eu at this;rw[this];rfl
 ·simp[h]
theorem Acg (x:Dfa) (D:Val x):Eu (rsN x)=rst x:=by
 unfold Eu rst;refine Í λs hs=>?_
 rw[ϯ];unfold rsN;rw[Zp];constructor
 ·exact λh=>h.2
 ·intro h;refine⟨?_,h⟩;by_cases E:s<x.n.length
  ·exact E
  ·unfold Dfa.ok at h;rw[Η,List.getElem?_eq_none (by rw[D.accL];omega)] at h;cases h
theorem Ok {x:Dfa} (D:Val x) (E:x.n.length<=64) (w:List UInt8):Eu (Ax (rnN x) (rsN x) w)=Ax (rnx x) (rst x) w:=by
 induction w using Et with
 | h0=>exact Acg x D
 | h1 w b G=>rw[Ed,Ed,Ach D E _ _ b.toNat_lt,G]
theorem Aci {S D:Nat} (h:S<2 ^ 64) (E:D<2 ^ 64) (he:Eu S=Eu D):S=D:=by
 refine Nat.eq_of_testBit_eq λs=>?_
 by_cases hs:s<64
 ·rw[<-Lz S s hs,<-Lz D s hs,he]
 ·have G:2 ^ 64<=2 ^ s:=Nat.pow_le_pow_right (by omega) (by omega);rw[Nat.testBit_lt_two_pow (by omega),Nat.testBit_lt_two_pow (by omega)]
theorem Ty {x:Dfa} (E:x.n.length<=64) (w:List UInt8):Ax (rnN x) (rsN x) w<2 ^ 64:=by
 have D:2 ^ x.n.length<=2 ^ 64:=Nat.pow_le_pow_right (by omega) E;induction w using Et with
 | h0=>exact δ (Rm x _) D
 | h1 w b _=>rw[Ed];exact δ (Og x _ _ _) D
theorem Ahe {x:Dfa} (G:Val x) (D:x.n.length<=64) {m:Nat} (h:B8 (rnN x) (rsN x) m):B8 (rnx x) (rst x) m:=by
 obtain⟨l,I,E,J⟩:=h;refine⟨l.map Eu,?_,λs hs=>?_,by rw[ϋ];exact J⟩
 ·rw[ϣ,ü];refine á (λ{a b} ha M T e=>?_) (ϣ.1 I);obtain⟨u,rfl⟩:=E a ha;obtain⟨v,rfl⟩:=E b M;exact T (Aci (Ty D u) (Ty D v) e)
 ·obtain⟨S,U,rfl⟩:=ϸ.1 hs;obtain⟨w,rfl⟩:=E S U;exact⟨w,(Ok G D w).symm⟩
theorem Aie {L:List UInt8->Prop} {r:Option Dfa} (h:Lim L r):F8 L r:=by
 cases r with
 | some d=>exact h
 | none=>
  obtain⟨d,hd,E,hn⟩:=h
  classical
  refine⟨(ι d.n.length).map λs=>if h:∃ w,d.run 0 w=s then h.choose else [],by simpa using hn,?_⟩;rw[ü];refine á (λ{a b} ha D G=>?_) (ϣ.1 List.nodup_range);have ha:=υ.1 ha;have D:=υ.1 D;rw[dif_pos (hd.reach a ha),dif_pos (hd.reach b D)];refine ϧ λI=>G (hd.red a b ha D λw=>?_)
  have:L ((hd.reach a ha).choose++w)↔L ((hd.reach b D).choose++w):=ϧ λh=>I ⟨w,h⟩
  rw[<-E,<-E] at this;unfold Dfa.has at this;rw[B9,B9,(hd.reach a ha).choose_spec,(hd.reach b D).choose_spec,<-ϯ] at this;exact this
theorem Ade {x:Dfa} (D:Val x) (E:x.n.length<=64) {l:List Nat} {t:Tbl} (h:Expl (Ak x.cls) (Ce x.cls) (rsN x) (rnN x) (λS=>S.testBit 0) l t) (J:l.length<=4096) :
  ¬ B8 (rnx x) (rst x) 4096/\∀ w,t.has w=x.has w.reverse:=by
 have G:=P7 D.parts;have I:∀ (s b:Nat),b<256->rnN x s ((Ce x.cls).getD (Ak x.cls b) 0)=rnN x s b:=λs b M=>by
  unfold rnN;rw[(Io D.parts (cell_lt D.parts M)).2]
 refine⟨Iw (l.map Eu) (λw=>?_) (by rw[ϋ];exact J),λw=>?_⟩
 ·rw[<-Ok D E w];exact List.mem_map_of_mem (h.closed G I w)
 ·rw[h.has G I w];have:=Fw D E w 0 D.pos;rw[<-Ok D E w,Lz _ _ (by omega)] at this;exact this
open Go.RowKit Go.Shelf
theorem Te (x:Dfa) (S k n:Nat) (hn:n<=64):C7 x S k n<18446744073709551616:=
 δ (Og x S k n) (Nat.pow_le_pow_right (by omega) hn:2 ^ n<=2 ^ 64)
theorem Zq (x:Dfa) (n:Nat) (hn:n<=64):D3 x n<18446744073709551616:=
 δ (Rm x n) (Nat.pow_le_pow_right (by omega) hn:2 ^ n<=2 ^ 64)
theorem Y1 (S q:Nat):(((S:Int) / 2 ^ q).tmod 2==1)=S.testBit q:=by
 have D:((S:Nat):Int) / 2 ^ q=((S / 2 ^ q:Nat):Int):=by rw[Int.natCast_ediv];simp
 rw[D,Nat.testBit_eq_decide_div_mod_eq];generalize S / 2 ^ q=m;rw[Int.tmod_eq_emod_of_nonneg (Int.natCast_nonneg m)];rw[ϯ];simp;omega
theorem Ab6 (x:Dfa) (hv:Val x) (bh:x.n.length<=64) (S k:Nat) (hS:S<18446744073709551616) (hk:k<x.cls.length) (v:Ν) (w:Λ) (h:IsD w v x) :
  ϓ Ζ 59 #[v,.int π (S:Int),.int ε k] w λe w'=>e=θ (.int π (C7 x S k x.n.length:Nat))/\Ext w w':=by
 obtain⟨bC,oC,cC,bn,on,cn,ba,oa,ca,rfl,hC,ag,a1⟩:=h.opened hv;obtain⟨V,I⟩:∃ X,dA (Β (Δ ⟨bC,oC,Γ⟩) x.cls.length cC) (Β (Δ ⟨bn,on,Γ⟩) x.n.length cn) (Β (Δ ⟨ba,oa,Γ⟩) x.n.length ca)=X:=⟨_,rfl⟩;have ah:V[1]? = Δ (Β (Δ ⟨bn,on,Γ⟩) x.n.length cn):=by rw[<-I];rfl
 rw[I];have J:=(Θ w).alloc (Ε V 30);have G:=Aa w (Ε V 30);have a6:=Α ag;have HV:=Α hv;have bk:=hv.parts.le;have bl:(k:Int)<(x.cls.length:Int):=by omega
 clear hC ag a1 h hv I;go_enter Tryz.func59,Tryz.ntmps59;go_upto_region 1 with (fail)
 obtain⟨w1,M⟩:∃ X,w.alloc (Ε V 30)=X:=⟨_,rfl⟩;obtain⟨g3,T⟩:∃ y,w.heap.size=y:=⟨_,rfl⟩;rw[M] at J G;rw[T] at G;simp only[M,T];clear M T;have a8:=Α (λW (hW:Ext w1 W)=>Av (hW.heap G) ah);have U:=Α J;clear G ah J;go_wp2_with (fail);go_loopw [7,8] (λvo vs W=>∃ s:Nat,s<=x.n.length/\vo=.int π (C7 x S k s:Nat)/\vs=.int ε s/\Ext w1 W)
  (λ_ vs _=>x.n.length-(intOf vs).toNat)
 case atStart=>exact⟨0,by omega,rfl,rfl,Θ _⟩
 case round=>
  obtain⟨s,hs,rfl,rfl,D⟩:=hrel;have c1:=a8.out wr D;by_cases ai:s<x.n.length
  ·have bp:(s:Int)<(x.n.length:Int):=by omega
   obtain⟨br,bt,cr,aj,ak⟩:=a6.out s ai;have c2:=(U.out.trans D).cell aj;have c3:=(U.out.trans D).cell (ak k hk);have be:=HV.out.tgt s ai k hk;have E:À (C7 x S k (s+1)=if S.testBit (x.ent2 s k) then C7 x S k s ||| 2 ^ s else C7 x S k s):=Α rfl;have al:=Te x S k s (by omega);obtain⟨y,hy⟩:∃ y,x.ent2 s k=y:=⟨_,rfl⟩;rw[hy] at c3 be E;have hb:=Y1 S y;obtain⟨o,ho⟩:∃ o,C7 x S k s=o:=⟨_,rfl⟩;rw[ho] at al E;simp only[ho];have bx:=Pd o s al (by omega);clear ak aj hy ho;obtain⟨b,ao⟩:∃ b,S.testBit y=b:=⟨_,rfl⟩;rw[ao] at hb E;clear ao;cases b with
   | true=>
    go_wp2;go_roundw
    case rel=>exact⟨s+1,by omega,by rw[E.out,if_pos rfl],by go_num,D⟩
    case measure=>simp[intOf];omega
   | false=>
    go_wp2;go_roundw
    case rel=>exact⟨s+1,by omega,by rw[E.out,if_neg (by simp)],by go_num,D⟩
    case measure=>simp[intOf];omega
  ·obtain rfl:s=x.n.length:=by omega
   have bg:=U.out.trans D;go_wp2;go_ret;exact⟨rfl,bg⟩
def fl2 (l:List Nat):List Ν:=l.flatMap λ(S:Nat)=>[ö ε 0,.int π ((S:Nat):Int)]
def Ey (S:Nat):Array Ν:=#[.int ε 0,.int π (S:Int)]
theorem Akf (l m:List Nat):fl2 (l++m)=fl2 l++fl2 m:=by simp[fl2]
theorem Xb:∀ (l:List Nat) (i:Nat),i<l.length->(fl2 l)[i*2]? = Δ (.int ε 0)/\(fl2 l)[i*2+1]? = Δ (.int π ((l.getD i 0:Nat):Int))
 | S::l,0,_=>⟨rfl,rfl⟩
 | S::l,i+1,h=>by
  have D:=Xb l i (by simpa using h);have e:fl2 (S::l)=ö ε 0::.int π (S:Int)::fl2 l:=rfl;rw[e,show (i+1)*2=i*2+1+1 by omega,È,È,È,È];exact D
theorem Mz:(Ζ.info? 94).map (·.size)=Δ 2:=by kernel_rfl
theorem Ak7 (a b:Int) (W:Λ):(binOp .eql 94 (.agg #[.int ε 0,.int π a]) (.agg #[.int ε 0,.int π b])).run Ζ W=.ok (.bool (a==b)) W:=by
 have I:Ζ.stoodInHeld 94=Τ:=by kernel_rfl
 have J:Ζ.underlying 94=Δ (.struct (Ζ.fieldsOf 94)):=by kernel_rfl
 have D : (Ζ.fieldsOf 94).toList.map (fun f => (decide (f.name = "_"), f.type, f.offset)) = [(Τ, 3, 0), (Τ, 60, 1)] := by kernel_rfl
 have M:Ζ.underlying 3=Δ (.int ε):=by kernel_rfl
 have T:Ζ.underlying 60=Δ (.int π):=by kernel_rfl
 rw[run_eql_struct,run_equalIn_agg _ 9999 94 _ _ J I]
 match E:(Ζ.fieldsOf 94).toList with
 | []=>rw[E] at D;simp at D
 | [f]=>rw[E] at D;simp at D
 | f::g::k::l=>rw[E] at D;simp at D
 | [f,g]=>
  rw[E] at D;simp only[Æ,List.map_nil,List.cons.injEq,Prod.mk.injEq,and_true,decide_eq_false_iff_not] at D;obtain⟨⟨f1,f2,f3⟩,U,g2,g3⟩:=D;have k3:Ζ.plainKey 3=Ξ:=by kernel_rfl
  have ad:Ζ.plainKey 60=Ξ:=by kernel_rfl
  have pa:∀ y:Int,(part 3 #[.int ε 0,.int π y] 0).run Ζ W=.ok (.int ε 0) W:=λy=>run_part_plain _ k3 rfl
  have G:∀ y:Int,(part 60 #[.int ε 0,.int π y] 1).run Ζ W=.ok (.int π y) W:=λy=>run_part_plain _ ad rfl
  have e3:=run_equalIn_int W 9998 3 ε ε 0 0 M;have ag:=run_equalIn_int W 9998 60 π π a b T;simp only[Op.eqFields,f1,f2,f3,U,g2,g3,ne_eq,not_false_eq_true,if_true,Sem.run_bind,pa,G,ï];rw[e3];simp only[ï,beq_self_eq_true,Bool.not_true,Bool.false_eq_true,if_false,Sem.run_bind,G];rw[ag];cases hb:(a==b)<;>simp[Op.eqFields]
theorem Ak3 {o:Oper} {a:Act} (x y:Operand) (t:TypeId) (D:o.op=.binOp .eql 94 x y t) (p q:Int) (E:a.eval x=.agg #[.int ε 0,.int π p]) (G:a.eval y=.agg #[.int ε 0,.int π q]) (W:Λ) :
  (execOp a.eval o).run Ζ W=.ok (.value (.bool (p==q))) W:=by
 have hm:Ζ.eqGuardType Ζ.depth 94=Τ:=by kernel_rfl
 unfold execOp;simp only[D,Sem.run_bind,E,G,run_eqGuard_agg _ _ _ _ _ _ _ hm,ï,Ak7,Sem.run_pure]
theorem Afa {b:Bool} {p q:Prop} (h:b=Ξ) (D:p):if b=Ξ then p else q:=by rw[if_pos h];exact D
theorem Ajk (l:List Nat) (S i:Nat) (hi:i<l.length) (D:∀ j,j<i->l.getD j 0≠S) (he:l.getD i 0=S):l.findIdx (·==S)=i:=by
 rw[List.findIdx_eq hi];refine⟨by rw[Η,Μ hi] at he;simpa using he,λj E=>?_⟩;have:=D j E;rw[Η,Μ (by omega)] at this
 simpa using this
theorem Ajj (l:List Nat) (S:Nat) (E:∀ j,j<l.length->l.getD j 0≠S):l.findIdx (·==S)=l.length:=by
 rw[List.findIdx_eq_length];intro x G;obtain⟨j,D,rfl⟩:=List.mem_iff_getElem.1 G;have:=E j D;rw[Η,Μ D] at this
 simpa using this
theorem Akm (l:List Nat) (S g c:Nat) (w:Λ) (hl:l.length<=1000000) (hr:∀ i,i<l.length->w.rangeAt g (i*2) [.int ε 0,.int π ((l.getD i 0:Nat):Int)]) :
  ϓ Ζ 60 #[Β (Δ ⟨g,0,Γ⟩) l.length c,.agg (Ey S)] w λe w'=>e=θ (iv (l.findIdx (·==S)))/\Ext w w':=by
 have h3:Ζ.stoodInHeld 94=Τ:=by kernel_rfl
 have M:=(Θ w).alloc (Ε (Ey S) 94);have G:=Aa w (Ε (Ey S) 94);obtain⟨E,T⟩:∃ E,Ey S=E:=⟨_,rfl⟩;rw[T] at M G;rw[T];have ai:=Α T;have HR:=Α hr;clear T hr;go_enter Tryz.func60,Tryz.ntmps60;go_upto_region 1 with (fail)
 obtain⟨w1,ab⟩:∃ X,w.alloc (Ε E 94)=X:=⟨_,rfl⟩;obtain⟨g3,ad⟩:∃ y,w.heap.size=y:=⟨_,rfl⟩;rw[ab] at M G;rw[ad] at G;simp only[ab,ad];clear ab ad;have HK:=Α (λW (I:Ext w1 W)=>I.heap G);have ae:=Α M;clear G M;go_wp2_with (fail);go_loopw [5] (λvs W=>∃ s:Nat,s<=l.length/\vs=.int ε s/\À (∀ j,j<s->l.getD j 0≠S)/\Ext w1 W)
  (λvs _=>l.length-(intOf vs).toNat)
 case atStart=>exact⟨0,by omega,rfl,Α (λj hj=>by omega),Θ _⟩
 case round=>
  obtain⟨s,hs,rfl,U,D⟩:=hrel;by_cases aj:s<l.length
  ·have a7:(s:Int)<(l.length:Int):=by omega
   have HG:=Α (λW (I:Ext wr W)=>HK.out W (D.trans I));have au:=Α (λW (I:Ext wr W)=>λj v hv=>(ae.out.trans (D.trans I)).cell (HR.out s aj j v hv));go_upto_region 4 with (fail)
   have hd:=(Θ wr).drew;refine B2 5 [(0,Ξ),(1,Ξ),(2,Ξ),(3,Ξ),(4,Ξ),(5,Τ)] (by kernel_rfl) (by kernel_rfl) (λ_ _ _ _ h=>h)
    (λW=>Ext wr W) hd ?_
   obtain⟨wq,af⟩:∃ X,wr.drew=X:=⟨_,rfl⟩;rw[af] at hd;rw[af];clear af;iterate 3
    refine Ao (v:=?_) rfl rfl (λV J=>?_) ?_
    rotate_left
    ·clear J;go_simp;first|done|with_reducible rfl
    simp only[Ϛ,Ι,Χ,Ψ]
   refine Ao (v:=.agg (Ey (l.getD s 0))) rfl rfl (λV J=>?_) ?_
   ·exact Fl 94 (η 14) rfl g (s*2) rfl _ _ (au.out V J) Tryz.underlying94 rfl Mz
   simp only[Ϛ,Ι,Χ,Ψ];refine Ao (v:=.agg E) rfl rfl (λV J=>D2 94 (η 3) rfl _ rfl _ _ _ _ (HG.out V J) Tryz.underlying94 rfl (by rw[<-ai.out];exact Mz)) ?_;simp only[Ϛ,Ι,Χ,Ψ];refine A5 rfl (λKq ak=>?_);refine Afa rfl (C4 (Ak3 (η 15) (η 16) _ rfl ((l.getD s 0:Nat):Int) (S:Int) rfl ?hy _) ?_)
   case hy=>
    show Ν.agg E=_;rw[<-ai.out];rfl
   refine ak _ _ (λh=>absurd h (by omega)) ?_;clear ak Kq;simp only[Ϛ,Ι,Χ,Ψ];refine B3 ?_;have al:=D.trans hd;by_cases he:l.getD s 0=S
   ·have hb:(((l.getD s 0:Nat):Int)==(S:Int))=Ξ:=by rw[he];simp
    rw[hb];have hf:=Ajk l S s aj U.out he;have ag:=ae.out.trans al;clear D hd;go_wp2;go_ret;exact⟨by rw[hf];rfl,ag⟩
   ·have hb:(((l.getD s 0:Nat):Int)==(S:Int))=Τ:=by
     rw[beq_eq_false_iff_ne];intro e;exact he (by omega)
    rw[hb];have ay:À (∀ j,j<s+1->l.getD j 0≠S):=Α (λj hj=>by
     by_cases e:j=s
     ·rw[e];exact he
     ·exact U.out j (by omega))
    clear D hd U he hb;go_wp2;go_roundw
    case rel=>exact⟨s+1,by omega,by go_num,ay,al⟩
    case measure=>simp[intOf];omega
  ·obtain rfl:s=l.length:=by omega
   have ag:=ae.out.trans D;have he:=Ajj l S U.out;go_wp2;go_ret;exact⟨by rw[he];rfl,ag⟩
theorem Amx (c:Nat->Nat):Ζ.built 79 [(0,.agg (Ar c))]=Δ (trA c (Β Γ 0 0) (Β Γ 0 0)):=by kernel_rfl
theorem Yv (S:Int):Ζ.built 94 [(1,.int π S)]=Δ #[.int ε 0,.int π S]:=by kernel_rfl
theorem Aa0 (c:Nat->Nat) (vn va:Ν):(trA c vn va).extract 0 256=Ar c:=by
 apply Array.ext
 ·simp[trA,trL,Ar]
 ·intro i I D;have hi:i<256:=by simpa [Ar] using D
  have E:=Ih c vn va i hi;have G:=Hu c i hi;rw[ϟ (by rw[Dw];omega)] at E;rw[ϟ D] at G;rw[Array.getElem_extract];simp only[é];rw[ύ E,ύ G]
theorem Akw (A:Array Ν) (W:Λ):(Instr.field 79 (.agg A) 0).run Ζ W=.ok (.agg (A.extract 0 256)) W:=by
 have E:Ζ.underlying 79=Δ (.struct (Ζ.fieldsOf 79)):=by kernel_rfl
 have G:((Ζ.fieldsOf 79)[0]?).map (λf=>(f.type,f.offset))=Δ (77,0):=by kernel_rfl
 obtain⟨f,I,D⟩:=Option.map_eq_some_iff.1 G;rw[Prod.mk.injEq] at D;obtain⟨i,hi,J⟩:=Option.map_eq_some_iff.1 Fj;have e:Ζ.cellsOf 77=256:=by unfold Program.cellsOf;rw[hi];exact J
 unfold Instr.field;simp[run_underlying E,I,D.1,D.2,asAgg,part,isAgg,run_underlying Tryz.underlying77,run_sizeOf _ hi,e]
theorem Ak9 (S:Nat):(Ey S).all (·.oneCell')=Ξ:=by simp[Ey,ό]
theorem Ake (l:List Nat) (S:Nat):fl2 l++[.int ε 0,.int π (S:Int)]=fl2 (l++[S]):=by rw[Akf];rfl
theorem Pc {W:Λ} {base g n E:Nat} {l:List Nat} (h:W.ownsRow base 94 2 (Β (Δ ⟨g,0,Γ⟩) n E) n (fl2 l)) (hn:n=l.length) (i:Nat) (hi:i<l.length) :
  W.rangeAt g (i*2) [.int ε 0,.int π ((l.getD i 0:Nat):Int)]:=λj u D=>by
 subst hn;have hg:=Xb l i hi;rcases j with _|_|j
 ·rw[Nat.add_zero,Ϡ.cellAt h _ (by omega),hg.1]
  simpa using D
 ·rw[Ϡ.cellAt h _ (by omega),hg.2]
  simpa using D
 ·simp at D
theorem Anm (S:Nat):((S:Int).tmod 2==1)=S.testBit 0:=by
 have:=Y1 S 0
 simpa using this
def Ou (E D i S k T:Nat) (A:Array Ν) (G I:Nat):Nat->Ν->Λ->Prop
 | 0,v,_=>v=.agg A
 | 1,v,_=>v=Β (Δ ⟨D,0,Γ⟩) G I
 | 2,v,_=>v=iv i
 | 3,v,_=>v=Ω (Δ ⟨D,i*2,Γ⟩)
 | 4,v,_=>v=Ω (Δ ⟨D,i*2+1,Γ⟩)
 | 5,v,_=>v=.int π (S:Int)
 | 6,v,_=>v=iv k
 | 7,v,_=>v=.int π (T:Int)
 | 8,v,_=>v=.agg (Ey T)
 | _,v,W=>∃ g,v=Ω (Δ ⟨g,0,Γ⟩)/\W.heap[g]? = Δ (Ε #[.int ε 0,.int π 0] 94 (0,0))/\E<=g
theorem Adu (D E i S k T:Nat) (A:Array Ν) (G I:Nat):∀ (j:Nat) (v:Ν) (w w':Λ),Ou D E i S k T A G I j v w->Ext w w'->Ou D E i S k T A G I j v w'
 | 0,_,_,_,h,_=>h
 | 1,_,_,_,h,_=>h
 | 2,_,_,_,h,_=>h
 | 3,_,_,_,h,_=>h
 | 4,_,_,_,h,_=>h
 | 5,_,_,_,h,_=>h
 | 6,_,_,_,h,_=>h
 | 7,_,_,_,h,_=>h
 | 8,_,_,_,h,_=>h
 | _+9,_,_,_,⟨g,J,M,U⟩,hE=>⟨g,J,hE.heap M,U⟩
def Ro (x:Dfa) (m i:Nat) (l:List Nat) (f:Nat->Option Nat) (N:List (List Nat)) (D:List Ν) (Ac:List Bool):Prop:=
 D.length=N.length/\EInv (Ce x.cls) (rsN x) (rnN x) i 0 l f N (ζ m 0)/\Ac.length=i/\(∀ j,j<i->Ac.getD j Τ=(l.getD j 0).testBit 0)/\∀ S,S∈l->S<18446744073709551616
def Lk (x:Dfa) (m i k:Nat) (l D:List Nat) (f:Nat->Option Nat) (N:List (List Nat)) (r:List Nat):Prop:=
 r.length=k/\EInv (Ce x.cls) (rsN x) (rnN x) i k D f N (r++ζ (m-r.length) 0)/\i<D.length/\(∀ j,j<=i->D.getD j 0=l.getD j 0)/\∀ S,S∈D->S<18446744073709551616
theorem Tz {x:Dfa} (D:Parts x.cls) (S k:Nat) (E:k<x.cls.length):rnN x S ((Ce x.cls).getD k 0)=C7 x S k x.n.length:=by
 unfold rnN;rw[(Io D E).2]
theorem Adl {x:Dfa} (M:Parts x.cls) {m i k j S T:Nat} {l D:List Nat} {f:Nat->Option Nat} {N:List (List Nat)} {r:List Nat} (h:Lk x m i k l D f N r) (hm:x.cls.length=m) (hk:k<m) (U:D.getD i 0=S) (hT:C7 x S k x.n.length=T) (hj:D.findIdx (·==T)=j) (ah:j<D.length) :
  Lk x m i (k+1) l D f N (r++[j]):=by
 obtain⟨E,G,I,h4,h5⟩:=h;have hs:D[i]? = Δ S:=by rw[<-U,Η,Μ I];rfl
 have e:rnN x S ((Ce x.cls).getD k 0)=T:=by rw[Tz M S k (by omega),hT]
 have hf:f T=Δ j:=by
  rw[G.num];have J:D.findIdx (·==T)<D.length:=by omega
  have:=List.findIdx_getElem (xs:=D) (p:=(·==T)) (w:=J);subst hj;rw[Μ J]
  simpa using this
 refine⟨by rw[Υ,E];rfl,?_,I,h4,h5⟩;rw[<-Mi r m j (by omega),E];have:=Qx G (by rw[Hd];omega) hs j (by rw[e];exact hf);rw[E] at this;exact this
theorem Adm {x:Dfa} (J:Parts x.cls) {m i k S T:Nat} {l D:List Nat} {f:Nat->Option Nat} {N:List (List Nat)} {r:List Nat} (h:Lk x m i k l D f N r) (hm:x.cls.length=m) (hk:k<m) (hS:D.getD i 0=S) (hT:C7 x S k x.n.length=T) (M:D.findIdx (·==T)=D.length) (ae:T<18446744073709551616) :
  ∃ f',Lk x m i (k+1) l (D++[T]) f' N (r++[D.length]):=by
 obtain⟨G,U,h3,h4,h5⟩:=h;have hs:D[i]? = Δ S:=by rw[<-hS,Η,Μ h3];rfl
 have e:rnN x S ((Ce x.cls).getD k 0)=T:=by rw[Tz J S k (by omega),hT]
 have I:f T=Γ:=by
  cases I:f T with
  | none=>rfl
  | some v=>
   have:=(U.num T v).1 I;have hm:=List.mem_of_getElem? this;have:=List.findIdx_lt_length_of_exists (xs:=D) (p:=(·==T)) ⟨T,hm,by simp⟩;omega
 have hn:=Qy U (by rw[Hd];omega) (λq hq=>(Io J (by rw[Hd] at hq;exact hq)).1) hs (by rw[e];exact I);rw[e] at hn;refine⟨λy=>if y=T then Δ D.length else f y,by rw[Υ,G];rfl,?_,by rw[Υ];omega,λj M=>?_,λy E=>?_⟩
 ·rw[<-Mi r m D.length (by omega),G];rw[G] at hn;exact hn
 ·rw[Bt _ _ _ _ (by omega)];exact h4 j M
 ·rcases List.mem_append.1 E with E|E
  ·exact h5 y E
  ·simp at E;subst E;exact ae
theorem Adj (d:Dfa) (hv:Val d) (hn:d.n.length<=64) (v:Ν) (w:Λ) (h:IsD w v d) :
  ϓ Ζ 19 #[v] w λe w'=>∃ r,ResOf w' e r/\Ju d r/\Ext w w':=by
 have HD:=Α h;have f50:=λW (G:Ext w W)=>Α (G1 d hv hn _ W (HD.out.ext G))
 have f51:=λW (G:Ext w W)=>Α (Kg d hv hv.parts.le _ W (HD.out.ext G))
 have dx:=Α (Bj hv);have dy:=Α (Dp d);have ea:(Ae d).n.length<=65536:=ψ hn (by omega);have ft:=Α (λ(x:Dfa) (hx:Cano x) (e:∀ u,x.has u=d.has u)=>ψ (K8 hx hv e) hn);obtain⟨i0,hi,fv,fw,fx⟩:=Ϟ Cp;obtain⟨i4,j8,j9,ka,kb⟩:=Ϟ D8;obtain⟨i6,kd,ke,kf,kg⟩:=Ϟ (show (Ζ.info? 68).map (λi=>(i.zero,i.size,i.bytes))=Δ (Δ (Β Γ 0 0),1,24) by kernel_rfl);obtain⟨i9,ki,kj,kk,kl⟩:=Ϟ (show (Ζ.info? 94).map (λi=>(i.zero,i.size,i.bytes))=Δ (Δ (.agg #[.int ε 0,.int π 0]),2,16) by kernel_rfl);obtain⟨ac,lc,cc,an,cn,aa,la,ca,rfl⟩:=h.agg;obtain⟨V,hV⟩:∃ X,dA (Β ac lc cc) (Β an d.n.length cn) (Β aa la ca)=X:=⟨_,rfl⟩;have fy:(Ζ.info? 30).map (·.size)=Δ V.size:=by rw[<-hV];exact Ad
 rw[hV] at HD f50 f51 ⊢;have eb:=((Θ w).alloc (Ε V 30)).alloc (Ε #[Β Γ 0 0,Β Γ 0 0,Β Γ 0 0] 30);have H0:=Ag (Aa w (Ε V 30)) (Ε #[Β Γ 0 0,Β Γ 0 0,Β Γ 0 0] 30);have H1:=Ϗ w (Ε V 30) (Ε #[Β Γ 0 0,Β Γ 0 0,Β Γ 0 0] 30);clear h hV hv hn;obtain⟨t0,ec⟩:∃ t,Ae d=t:=⟨_,rfl⟩;rw[ec] at dx dy ea;simp only[ec] at f51;clear ec;have fz:=Α ea;clear ea;go_enter Tryz.func19,Tryz.ntmps19;go_upto_region 1 with (fail)
 obtain⟨w1,ed⟩:∃ X,(w.alloc (Ε V 30)).alloc (Ε #[Β Γ 0 0,Β Γ 0 0,Β Γ 0 0] 30)=X:=⟨_,rfl⟩;rw[ed] at eb H0 H1;simp only[ed];clear ed;obtain⟨g1,ee⟩:∃ y,w.heap.size=y:=⟨_,rfl⟩;obtain⟨g2,ef⟩:∃ y,g1+1=y:=⟨_,rfl⟩;have gd:À (w.heap.size<=g2):=Α (by omega);rw[ee] at H0 H1;rw[ef] at H1;simp only[ee,ef];clear ee ef;have cf:=Α H0;have az:=Α H1;have eg:=Α eb;clear H0 H1 eb;go_upto_region 3 with (first
  | (refine Ο rfl 30 (η 1) rfl _ rfl _ _ _ _ cf.out Κ rfl fy ?_)
  | (go_at_call 50;(with_reducible refine (f50 _ eg.out).out.mono ?_);rintro e w2 ⟨rfl,c6⟩;have eh:=Α (eg.out.trans c6);have cf:=Α (c6.heap cf.out);have az:=Α (c6.heap az.out);clear c6))
 go_upto_region 4 with (first
  | (refine Ο rfl 30 (η 1) rfl _ rfl _ _ _ _ cf.out Κ rfl fy ?_)
  | (go_at_call 51;(with_reducible refine (f51 _ eh.out).out.mono ?_);rintro e w3 ⟨A,rfl,hA,bx⟩;have gf:=Α (eh.out.trans bx);have az:=Α (bx.heap az.out);have f57:=Α (Mq t0 dx.out fz.out A w3 hA);clear bx hA)
  | (go_at_call 57;(with_reducible refine f57.out.mono ?_);rintro e w4 ⟨v4,x,rfl,ei,ch,gg,ej⟩;have ek:=Α ei;obtain⟨bc,oc,b4,bn,on,cm,ba,oa,b7,rfl,hC,hR,hA⟩:=ei.opened ch.val)
  | (refine Φ rfl 30 (η 4) (η 20) rfl _ (dA (Β (Δ ⟨bc,oc,Γ⟩) x.cls.length b4) (Β (Δ ⟨bn,on,Γ⟩) x.n.length cm) (Β (Δ ⟨ba,oa,Γ⟩) x.n.length b7)) rfl rfl _ _ (Aa w4 _) Ad rfl (Aq _ _ _ rfl rfl rfl) ?_))
 have en:∀ u,x.has u=d.has u:=λu=>(gg u).trans (dy.out u)
 have cp:=Α (ft.out x ch en);have bk:=((Θ w4).alloc (Ε #[Β Γ 0 0,Β Γ 0 0,Β Γ 0 0] 30)).setRow (Nat.le_refl _) (dA (Β (Δ ⟨bc,oc,Γ⟩) x.cls.length b4) (Β (Δ ⟨bn,on,Γ⟩) x.n.length cm) (Β (Δ ⟨ba,oa,Γ⟩) x.n.length b7));have H4:=μ (w4.alloc (Ε #[Β Γ 0 0,Β Γ 0 0,Β Γ 0 0] 30)) w4.heap.size _ (dA (Β (Δ ⟨bc,oc,Γ⟩) x.cls.length b4) (Β (Δ ⟨bn,on,Γ⟩) x.n.length cm) (Β (Δ ⟨ba,oa,Γ⟩) x.n.length b7)) _ _ (Aa w4 _);obtain⟨w5,c9⟩:∃ W,(w4.alloc (Ε #[Β Γ 0 0,Β Γ 0 0,Β Γ 0 0] 30)).setRow w4.heap.size (dA (Β (Δ ⟨bc,oc,Γ⟩) x.cls.length b4) (Β (Δ ⟨bn,on,Γ⟩) x.n.length cm) (Β (Δ ⟨ba,oa,Γ⟩) x.n.length b7))=W:=⟨_,rfl⟩;obtain⟨g4,eo⟩:∃ y,w4.heap.size=y:=⟨_,rfl⟩;rw[eo] at c9 bk H4;rw[c9] at bk H4;simp only[eo];simp only[c9];clear c9 eo;obtain⟨V4,b8⟩:∃ X,dA (Β (Δ ⟨bc,oc,Γ⟩) x.cls.length b4) (Β (Δ ⟨bn,on,Γ⟩) x.n.length cm) (Β (Δ ⟨ba,oa,Γ⟩) x.n.length b7)=X:=⟨_,rfl⟩;have gh:(Ζ.info? 30).map (·.size)=Δ V4.size:=by rw[<-b8];exact Ad
 have gi:V4[0]? = Δ (Β (Δ ⟨bc,oc,Γ⟩) x.cls.length b4):=by rw[<-b8];rfl
 have gj:V4[2]? = Δ (Β (Δ ⟨ba,oa,Γ⟩) x.n.length b7):=by rw[<-b8];rfl
 rw[b8] at H4 ek;simp only[b8];have gk:=Α ch;have ep:=Α en;have HV:=Α ch.val;have gm:=Α (λW (G:Ext w5 W)=>G.heap H4);have gn:=Α (λW (G:Ext w5 W)=>Av (G.heap H4) gi);have kz:=Α (λW (G:Ext w5 W)=>Av (G.heap H4) gj);have k5:=Α (λ(W:Λ) (G:Ext w5 W) s (hs:s<x.n.length)=>(bk.trans G).cell (hA s hs));have gp:=Α (λ(W:Λ) (G:Ext w5 W)=>ek.out.ext (bk.trans G));have az:=Α ((ej.trans bk).heap az.out);have nb:À (g2<w5.heap.size):=Α (An az.out);have gu:=Α ((gf.out.trans ej).trans bk);clear gi gj b8 H4 ch gg en bk ej hA hR hC ei ek ft dy dx fz f50 f51 f57 cf HD eg eh gf;have k6:=HV.out.pos;have k7:=HV.out.parts.pos;have gv:=HV.out.parts.le;have gw:=cp.out;go_wp2_with (fail);go_loopw [5,6] (λvs vi W=>∃ s:Nat,s<=x.n.length/\vs=.int π (D3 x s:Nat)/\vi=.int ε s/\Ext w5 W)
  (λ_ vi _=>x.n.length-(intOf vi).toNat)
 case atStart=>exact⟨0,by omega,rfl,rfl,Θ _⟩
 case round=>
  obtain⟨s,hs,rfl,rfl,hE⟩:=hrel;have c1:=kz.out wr hE;by_cases k9:s<x.n.length
  ·have nc:(s:Int)<(x.n.length:Int):=by omega
   have c2:=k5.out wr hE s k9;have db:À (D3 x (s+1)=if x.ok s then D3 x s ||| 2 ^ s else D3 x s):=Α rfl;have dc:=Zq x s (by omega);obtain⟨o,ho⟩:∃ o,D3 x s=o:=⟨_,rfl⟩;rw[ho] at dc db;simp only[ho];have nd:=Pd o s dc (by omega);clear ho;obtain⟨b,gx⟩:∃ b,x.ok s=b:=⟨_,rfl⟩;rw[gx] at c2 db;clear gx;cases b with
   | true=>
    go_wp2;go_roundw
    case rel=>exact⟨s+1,by omega,by rw[db.out,if_pos rfl],by go_num,hE⟩
    case measure=>simp[intOf];omega
   | false=>
    go_wp2;go_roundw
    case rel=>exact⟨s+1,by omega,by rw[db.out,if_neg (by simp)],by go_num,hE⟩
    case measure=>simp[intOf];omega
  ·obtain rfl:s=x.n.length:=by omega
   have f51:=Α (Kg x HV.out gv _ wr (gp.out wr hE));have et:D3 x x.n.length=rsN x:=rfl;have dd:=Zq x x.n.length gw;rw[et] at dd;simp only[et];obtain⟨s0,de⟩:∃ y,rsN x=y:=⟨_,rfl⟩;rw[de] at dd;simp only[de];have lf:=Α de;clear et de;have nf:=Α (Bj HV.out);have gy:À ((Ae x).cell=Ak x.cls):=Α rfl;have hZ:=Α (Amx (Ae x).cell);have hO:=G2 (Ae x).cell (Β Γ 0 0) (Β Γ 0 0) rfl rfl;have hc:ϖ.size=(trA (Ae x).cell (Β Γ 0 0) (Β Γ 0 0)).size:=by rw[Dw,Fb]
   have hf:(Ζ.info? 79).map (·.size)=Δ (trA (Ae x).cell (Β Γ 0 0) (Β Γ 0 0)).size:=by rw[Dw];exact Co
   have lg:=hE;go_upto_region 11 with (first
    | (refine Ο rfl 30 (η 4) rfl _ rfl _ _ _ _ (gm.out wr hE) Κ rfl gh ?_)
    | (go_at_call 51;(with_reducible refine f51.out.mono ?_);rintro e w6 ⟨A6,rfl,lj,hh⟩;obtain⟨lk,ll,hl,_,_⟩:=lj;have eu:=Α (Aa0 (Ae x).cell lk ll);rw[<-hl] at eu;have hp:=Akw A6 w6;rw[eu.out] at hp;clear eu hl)
    | (refine Bw rfl 79 _ rfl (trA (Ae x).cell (Β Γ 0 0) (Β Γ 0 0)) ?_ ?_;(simp[Act.eval];with_reducible exact hZ.out))
    | (refine Φ rfl 79 (η 7) (η 40) rfl _ (trA (Ae x).cell (Β Γ 0 0) (Β Γ 0 0)) rfl rfl _ _ (Aa w6 _) hf hc hO ?_))
   have I:=((Hp.nil w6).new (Ε ϖ 79)).box 0 rfl (trA (Ae x).cell (Β Γ 0 0) (Β Γ 0 0));obtain⟨w7,df⟩:∃ X,(w6.alloc (Ε ϖ 79)).setRow w6.heap.size (trA (Ae x).cell (Β Γ 0 0) (Β Γ 0 0))=X:=⟨_,rfl⟩;obtain⟨g7,ev⟩:∃ y,w6.heap.size=y:=⟨_,rfl⟩;rw[ev] at df I;rw[df] at I;simp only[ev];simp only[df];clear df ev hZ hO hc hf c1 lg hp f51;replace I:Hp w6 w7 [.obj g7 (Ε (trA (Ae x).cell (Β Γ 0 0) (Β Γ 0 0)) 79 (0,0))]:=I;have a6:=Α (hE.trans hh);have hr:=Α (Yv (s0:Int));clear hE hh;go_upto_region 12 with (first
    | (refine Bw rfl 94 _ rfl #[.int ε 0,.int π (s0:Int)] ?_ ?_;(simp[Act.eval];with_reducible exact hr.out)))
   have ct:=I.lit 94 2 (Ey s0) 1 (by unfold ϛ;omega) rfl;replace ct:Hp w6 (w7.alloc (Ε #[.int ε 0,.int π (s0:Int)] 94)) [.row 94 2 (Β (Δ ⟨w7.heap.size,0,Γ⟩) 1 1) 1 (fl2 [s0]),.obj g7 (Ε (trA (Ae x).cell (Β Γ 0 0) (Β Γ 0 0)) 79 (0,0))]:=ct;obtain⟨w8,ew⟩:∃ X,w7.alloc (Ε #[.int ε 0,.int π (s0:Int)] 94)=X:=⟨_,rfl⟩;obtain⟨ln,ey⟩:∃ y,w7.heap.size=y:=⟨_,rfl⟩;rw[ew,ey] at ct;simp only[ew,ey];clear ew ey I hr;have bq:=((ct.swap.nilRow 4 1).nilRow 68 1);have a6:=a6;have lo:=Α (λk (hk:k<x.cls.length)=>(Io HV.out.parts hk).2);have cu:=Α (Hd x.cls);obtain⟨m,hm⟩:∃ y,x.cls.length=y:=⟨_,rfl⟩;have HM:=Α hm;rw[hm] at k7 gv gn lo cu;obtain⟨nn,dg⟩:∃ y,x.n.length=y:=⟨_,rfl⟩;have ni:=Α dg;simp only[dg];rw[dg] at k6 gw;obtain⟨cx,hz⟩:∃ y,(Ae x).cell=y:=⟨_,rfl⟩;rw[hz] at gy bq;have h0:À (Ro x m 0 [s0] (λy=>if y=s0 then Δ 0 else Γ) [] [] []):=Α ⟨rfl,by rw[<-lf.out];exact Qv (Ce x.cls) (rsN x) (rnN x) (ζ m 0) (by rw[cu.out];simp),rfl,λj hj=>by omega,λS hS=>by simp at hS;subst hS;exact dd⟩;clear hm dg hz ct hs dd;go_wp2_with (fail);go_loopw [8,9] (λvo vi W=>∃ (l:List Nat) (f:Nat->Option Nat) (N':List (List Nat)) (Ac:List Bool) (J:List Ν) (gl cl:Nat) (vn va:Ν) (i:Nat),i<=l.length/\l.length<=4096/\vo=Β (Δ ⟨gl,0,Γ⟩) l.length cl/\vi=.int ε i/\
     Hp w6 W (.row 68 1 vn J.length J::.row 4 1 va Ac.length (Ac.map ο)::.obj g7 (Ε (trA cx vn va) 79 (0,0))::.row 94 2 (Β (Δ ⟨gl,0,Γ⟩) l.length cl) l.length (fl2 l)::C1 J N')/\À (Ro x m i l f N' J Ac))
    (λ_ vi _=>4096-(intOf vi).toNat)
   case atStart=>exact⟨[s0],_,[],[],[],ln,1,Β Γ 0 0,Β Γ 0 0,0,by omega,by simp,rfl,rfl,bq,h0⟩
   case round=>
    clear bq h0;obtain⟨l,f,N',Ac,J,gl,cl,vn,va,i,nj,lp,rfl,rfl,I,HI⟩:=hrel;by_cases dc:i<l.length
    ·have nk:(i:Int)<(l.length:Int):=by omega
     go_upto_region 15 with (fail)
     have e1:=I.lit 3 1 #[] 0 (by unfold ϛ;omega) rfl;go_upto_region 16 with (fail)
     obtain⟨wb,e2⟩:∃ X,wr.alloc (Ε #[] 3)=X:=⟨_,rfl⟩;obtain⟨lq,e3⟩:∃ y,wr.heap.size=y:=⟨_,rfl⟩;rw[e2,e3] at e1;simp only[e2,e3];clear e2 e3 I;go_wp2_with (fail);go_loopw [8,10,11] (λvo vr vk W=>∃ (D:List Nat) (f2:Nat->Option Nat) (r:List Nat) (U al gr cr k:Nat),k<=m/\D.length<=4096+k/\vo=Β (Δ ⟨U,0,Γ⟩) D.length al/\vr=Β (Δ ⟨gr,0,Γ⟩) r.length cr/\vk=.int ε k/\
       Hp w6 W (.row 3 1 (Β (Δ ⟨gr,0,Γ⟩) r.length cr) r.length (r.map iv)::.row 68 1 vn J.length J::.row 4 1 va Ac.length (Ac.map ο)::.obj g7 (Ε (trA cx vn va) 79 (0,0))::.row 94 2 (Β (Δ ⟨U,0,Γ⟩) D.length al) D.length (fl2 D)::C1 J N')/\À (Lk x m i k l D f2 N' r))
      (λ_ _ vk _=>m-(intOf vk).toNat)
     case atStart=>exact⟨l,f,[],gl,cl,lq,0,0,by omega,by omega,rfl,rfl,rfl,e1,Α ⟨rfl,by have:=HI.out.2.1;simpa using this,dc,λ_ _=>rfl,HI.out.2.2.2.2⟩⟩
     case round=>
      clear e1;obtain⟨D,f2,r,U,al,gr,cr,k,hk,nm,rfl,rfl,rfl,I,HJ⟩:=hrel;have c0:=gn.out wr (a6.out.trans I.ext);have np:r.length<=256:=by have:=HJ.out.1;omega
      have b9:=I.size;by_cases e5:k<m
      ·have nq:(k:Int)<(m:Int):=by omega
       have a8:i<D.length:=HJ.out.2.2.1;have ls:(i:Int)<(D.length:Int):=by omega
       go_upto_region 19 with (fail)
       have dm:D.getD i 0<18446744073709551616:=by
        refine HJ.out.2.2.2.2 _ ?_;rw[Η,Μ a8];exact í a8
       have h2:=Pc (I.row 4 rfl) rfl i a8;have e6:wr.cell? ⟨U,i*2+1,Γ⟩=Δ (.int π ((D.getD i 0:Nat):Int)):=h2 1 _ rfl;obtain⟨S,hS⟩:∃ y,D.getD i 0=y:=⟨_,rfl⟩;rw[hS] at dm e6;have cv:=Α hS;obtain⟨T,hT⟩:∃ y,C7 x S k x.n.length=y:=⟨_,rfl⟩;have h6:=Α hT;have lu:T<18446744073709551616:=by rw[<-hT];exact Te x S k _ cp.out
       have f59:=Α (λW (G:Ext wr W)=>Ab6 x HV.out cp.out S k dm (by rw[HM.out];exact e5) (.agg V4) W (gp.out W (a6.out.trans (I.ext.trans G))));rw[hT] at f59;have h7:=Α e6;clear hS hT h2 e6 c0;refine Ic 10 108 (by kernel_rfl) (by kernel_rfl) rfl (Ou wr.heap.size U i S k T V4 D.length al) Gk It (Adu _ _ _ _ _ _ _ _ _) (λq hq=>?_) (λvs wf h8 hF hN=>?_)
       ·have dp:=(Θ wr).drew
        match q,hq with
        | 0,_=>
         refine Ap _ _ rfl rfl rfl λc W G ad aj=>?_
         have h4:=aj 4 (by kernel_rfl);refine C4 (D2 30 (η 4) rfl g4 h4 _ _ _ _ (gm.out W (a6.out.trans (I.ext.trans (dp.trans G)))) Κ rfl gh) ?_;exact⟨_,rfl,Θ W,rfl,λ_ _ _ _ _=>trivial⟩
        | 1,_=>
         refine Ap _ _ rfl rfl rfl λc W G ad aj=>?_
         have h3:c.tmps.getD 8 ς=Β (Δ ⟨U,0,Γ⟩) D.length al:=aj 8 (by kernel_rfl);go_simp;exact⟨_,rfl,Θ W,rfl,λ_ _ _ _ _=>trivial⟩
        | 2,_=>
         refine Ap _ _ rfl rfl rfl λc W G ad aj=>?_
         have h3:c.tmps.getD 9 ς=iv i:=aj 9 (by kernel_rfl);go_simp;exact⟨_,rfl,Θ W,rfl,λ_ _ _ _ _=>trivial⟩
        | 3,_=>
         refine Ap _ _ rfl rfl rfl λc W G ad aj=>?_
         have h3:c.tmps.getD 59 ς=Β (Δ ⟨U,0,Γ⟩) D.length al:=ad 1 59 (by kernel_rfl);have h4:c.tmps.getD 60 ς=iv i:=ad 2 60 (by kernel_rfl);go_simp;exact⟨_,rfl,Θ W,rfl,λ_ _ _ _ _=>trivial⟩
        | 4,_=>
         refine Ap _ _ rfl rfl rfl λc W G ad aj=>?_
         have h3:c.tmps.getD 61 ς=Ω (Δ ⟨U,i*2,Γ⟩):=ad 3 61 (by kernel_rfl);go_simp;exact⟨_,rfl,Θ W,rfl,λ_ _ _ _ _=>trivial⟩
        | 5,_=>
         refine Ap _ _ rfl rfl rfl λc W G ad aj=>?_
         have h3:c.tmps.getD 62 ς=Ω (Δ ⟨U,i*2+1,Γ⟩):=ad 4 62 (by kernel_rfl);have c1:=(dp.trans G).cell h7.out;go_simp;exact⟨_,rfl,Θ W,rfl,λ_ _ _ _ _=>trivial⟩
        | 6,_=>
         refine Ap _ _ rfl rfl rfl λc W G ad aj=>?_
         have h3:c.tmps.getD 11 ς=iv k:=aj 11 (by kernel_rfl);go_simp;exact⟨_,rfl,Θ W,rfl,λ_ _ _ _ _=>trivial⟩
        | 7,_=>
         refine Ap _ _ rfl rfl rfl λc W G ad aj=>?_
         have h3:c.tmps.getD 58 ς=.agg V4:=ad 0 58 (by kernel_rfl);have h4:c.tmps.getD 63 ς=.int π (S:Int):=ad 5 63 (by kernel_rfl);have h5:c.tmps.getD 64 ς=iv k:=ad 6 64 (by kernel_rfl);go_simp;with_reducible refine (f59.out W (dp.trans G)).mono ?_
         rintro e W' ⟨rfl,hE⟩;exact⟨_,rfl,hE,rfl,λ_ _ _ _ _=>trivial⟩
        | 8,_=>
         refine Ap _ _ rfl rfl rfl λc W G ad aj=>?_
         have h3:c.tmps.getD 65 ς=.int π (T:Int):=ad 7 65 (by kernel_rfl);refine C4 (Hm 94 _ rfl (A:=Ey T) ?_ W) ?_
         ·have e:(Array.map (λ(a,b)=>(a,c.eval b)) #[(1,Operand.tmp 65)]).toList=[(1,c.eval (η 65))]:=by simp only[List.map_toArray,Æ,List.map_nil]
          rw[e,show c.eval (η 65)=_ from h3];exact Yv _
         exact⟨_,rfl,Θ W,rfl,λ_ _ _ _ _=>trivial⟩
        | 9,_=>
         refine Ap _ _ rfl rfl rfl λc W G ad aj=>?_
         go_simp;exact⟨_,rfl,(Θ W).alloc _,⟨_,rfl,Aa W _,(dp.trans G).size⟩,λ_ _ _ _ _=>trivial⟩
       ·obtain⟨e9,h9,fa,ia⟩:=hF 9 (by omega);have bx:=(Θ wr).drew.trans h8;have ib:vs 0=.agg V4:=hF 0 (by omega);have ic:vs 1=Β (Δ ⟨U,0,Γ⟩) D.length al:=hF 1 (by omega);have ie:vs 2=iv i:=hF 2 (by omega);have ig:vs 3=Ω (Δ ⟨U,i*2,Γ⟩):=hF 3 (by omega);have ih:vs 4=Ω (Δ ⟨U,i*2+1,Γ⟩):=hF 4 (by omega);have ij:vs 5=.int π (S:Int):=hF 5 (by omega);have ik:vs 6=iv k:=hF 6 (by omega);have il:vs 7=.int π (T:Int):=hF 7 (by omega);have im:vs 8=.agg (Ey T):=hF 8 (by omega);simp only[Bq,List.drop_succ_cons,List.drop_zero,h9,ib,ic,ie,ig,ih,ij,ik,il,im,List.getElem?_toArray,List.getElem?_cons_zero,È,Option.bind_some,Ϛ,Ι,Χ,Ψ];clear hF hN h9 ib ic ie ig ih ij ik il im f59 h7;obtain⟨E,cb⟩:∃ E,Ey T=E:=⟨_,rfl⟩;simp only[cb];have iq:=Α cb;have ir:(Ζ.info? 94).map (·.size)=Δ E.size:=by rw[<-cb];exact Mz
        have iu:(#[.int ε 0,.int π 0]:Array Ν).size=E.size:=by rw[<-cb];rfl
        have iw:E.all (·.oneCell')=Ξ:=by rw[<-cb];exact Ak9 T
        clear cb;go_upto_region 20 with (refine Φ rfl 94 (η 12) (η 66) rfl _ E rfl rfl _ _ fa ir iu iw ?_)
        have fb:=bx.setRow ia E;have cw:=Α (μ wf e9 _ E _ _ fa);obtain⟨ws,fc⟩:∃ X,wf.setRow e9 E=X:=⟨_,rfl⟩;rw[fc] at fb cw;simp only[fc];clear fc bx h8 fa ia iu iw;have bq:=I.extW fb;have f60:=Akm D T U al ws (by omega) (λq hq=>Pc (bq.row 4 rfl) rfl q hq);rw[iq.out] at f60;have f60:=Α f60;clear I fb b9;go_upto_region 21 with (first
         | (refine Ο rfl 94 (η 12) rfl _ rfl _ _ _ _ cw.out Tryz.underlying94 rfl ir ?_)
         | (go_at_call 60;(with_reducible refine f60.out.mono ?_);rintro e w9 ⟨rfl,fe⟩))
        have br:=bq.extW fe;have cw:=Α (fe.heap cw.out);obtain⟨j,hj⟩:∃ y,D.findIdx (·==T)=y:=⟨_,rfl⟩;have ns:j<=D.length:=by rw[<-hj];exact List.findIdx_le_length
        simp only[hj];have ix:=Α hj;have b9:=br.size;clear hj bq fe f60;by_cases lz:j<D.length
        ·have nt:(j:Int)<(D.length:Int):=by omega
         have nu:((j:Int)==(D.length:Int))=Τ:=by rw[beq_eq_false_iff_ne];omega
         have HN:=Α (Adl HV.out.parts HJ.out HM.out e5 cv.out h6.out ix.out lz);go_upto_region 23 with (fail)
         go_upto_region 18 with (at_builtin;refine Ϙ _ rfl _ _ 68 rfl w6.heap.size 3 i0 (.int ε 0) 1 8 ϔ hi fv fw fx rfl (by decide) _ _ _ rfl ((br.row 0 rfl).alloc _) _ 1 1 [iv j] rfl rfl (ϭ _ _ _) (by simp[ό]) (by decide) (by unfold ϛ;omega) (by omega) (by simp;omega) _ rfl ?_;intro gq c7 fg cy bd be _)
         have ax:=(br.alloc (Ε #[iv j] 3)).app 0 rfl cy bd be;clear cy bd be br b9;go_wp2;go_roundw
         case rel=>exact⟨D,f2,r++[j],U,al,gq,c7,k+1,by omega,by omega,rfl,by rw[Υ];rfl,by go_num,by rw[Υ,ϝ];exact ax,HN⟩
         case measure=>simp[intOf];omega
        ·obtain rfl:j=D.length:=by omega
         obtain⟨f3,iy⟩:=Adm HV.out.parts HJ.out HM.out e5 cv.out h6.out ix.out lu;have HN:=Α iy;have l4:=Α (show w9.heap[e9]? = Δ (Ε #[.int ε 0,.int π (T:Int)] 94 (0,0)) from by have:=cw.out;rw[<-iq.out] at this;exact this);clear iy;go_upto_region 23 with (first
          | (refine Ο rfl 94 (η 12) rfl _ rfl _ #[.int ε 0,.int π (T:Int)] _ _ l4.out Tryz.underlying94 rfl Mz ?_)
          | (at_builtin;refine Ϙ _ rfl _ _ 95 rfl w6.heap.size 94 i9 (.agg #[.int ε 0,.int π 0]) 2 16 Tryz.underlying95 ki kj kk kl rfl (by decide) _ _ _ rfl ((br.row 4 rfl).alloc _) _ 1 1 [.int ε 0,.int π (T:Int)] rfl rfl (Jk _ _ _ _) (by simp[ό]) (by decide) (by unfold ϛ;omega) (by omega) (by simp;omega) _ rfl ?_;intro gq c7 fg cy bd be _))
         have ax:=(br.alloc (Ε #[.int ε 0,.int π (T:Int)] 94)).app 4 rfl cy bd be;clear cy bd be br b9;have b9:=ax.size;go_upto_region 18 with (at_builtin;refine Ϙ _ rfl _ _ 68 rfl w6.heap.size 3 i0 (.int ε 0) 1 8 ϔ hi fv fw fx rfl (by decide) _ _ _ rfl ((ax.row 0 rfl).alloc _) _ 1 1 [iv D.length] rfl rfl (ϭ _ _ _) (by simp[ό]) (by decide) (by unfold ϛ;omega) (by omega) (by simp;omega) _ rfl ?_;intro l5 c8 nv iz ja jb _)
         have bf:=(ax.alloc (Ε #[iv D.length] 3)).app 0 rfl iz ja jb;clear iz ja jb ax b9;go_wp2;go_roundw
         case rel=>exact⟨D++[T],f3,r++[D.length],gq,c7,l5,c8,k+1,by omega,by rw[Υ];simp;omega,by rw[Υ];rfl,by rw[Υ];rfl,by go_num,by rw[Υ,Υ,ϝ,<-Ake];exact bf,HN⟩
         case measure=>simp[intOf];omega
      ·obtain rfl:k=m:=by omega
       have dq:=Α ((a6.out.trans I.ext).heap az.out);have l7:=Α (gu.out.trans (a6.out.trans I.ext));by_cases l8:4096<D.length
       ·have l9:(4096:Int)<(D.length:Int):=by omega
        have jc:B8 (rnN x) (rsN x) 4096:=⟨D,HJ.out.2.1.nodup,HJ.out.2.1.reach,l8⟩;have ma:=Α (Ahe HV.out cp.out jc);have mb:=Α Dn;clear jc;go_wp2_with (first
         | (refine Bw rfl 30 _ rfl #[Β Γ 0 0,Β Γ 0 0,Β Γ 0 0] ?_ ?_;(simp;with_reducible exact mb.out))
         | (refine Φ rfl 30 (η 2) (η 85) rfl _ _ rfl rfl _ _ dq.out Ad rfl C8 ?_))
        refine ω (v:=ϙ #[zD,.int ε 2]) (A3 rfl _ _ _ _ _ _ _ rfl _ rfl (μ wr _ _ #[Β Γ 0 0,Β Γ 0 0,Β Γ 0 0] 30 (0,0) dq.out) Κ rfl Ad) rfl ?_;exact⟨Γ,rfl,⟨x,gk.out,ep.out,λ_=>rfl,λh=>absurd ma.out h⟩,l7.out.setRow gd.out _⟩
       ·have l9:¬ (4096:Int)<(D.length:Int):=by omega
        have a8:i<D.length:=HJ.out.2.2.1;have ls:(i:Int)<(D.length:Int):=by omega
        have nw:J.length<=4096:=by rw[HI.out.1,HI.out.2.1.lenN];omega
        have dm:D.getD i 0<18446744073709551616:=by
         refine HJ.out.2.2.2.2 _ ?_;rw[Η,Μ a8];exact í a8
        have jd:=Qw (r:=r) (by
         have:=HJ.out.2.1;rw[HJ.out.1,Nat.sub_self,List.replicate_zero,List.append_nil] at this;rw[cu.out];exact this) a8 (ζ k 0) (by rw[cu.out];simp)
        have mc:=Α jd;clear jd;have c1:=Av (I.obj 3 rfl) (Gc cx vn va);go_upto_region 27 with (at_builtin;refine Ϙ _ rfl _ _ 27 rfl w6.heap.size 68 i6 (Β Γ 0 0) 1 24 Tryz.underlying27 kd ke kf kg rfl (by decide) vn J.length J rfl ((I.row 1 rfl).alloc _) _ 1 1 [Β (Δ ⟨gr,0,Γ⟩) r.length cr] rfl rfl (ϭ _ _ _) (by simp[ό]) (by decide) (by unfold ϛ;omega) (by omega) (by simp;omega) _ rfl ?_;intro gq c7 fg je bd be _;have ax:=(I.alloc (Ε #[Β (Δ ⟨gr,0,Γ⟩) r.length cr] 68)).app 1 rfl je bd be;have me:=Av (ax.obj 3 rfl) (Gc cx vn va);have f17:=ax.frozen 3 rfl 256)
        have bf:=(ax.cell 3 rfl 256 (Β (Δ ⟨gq,0,Γ⟩) (J.length+1) c7) (N7 cx vn va _)).park;clear c1 me f17 je bd be ax I;obtain⟨wx,fj⟩:∃ X,fg.setCell ⟨g7,256,Γ⟩ (Β (Δ ⟨gq,0,Γ⟩) (J.length+1) c7)=X:=⟨_,rfl⟩;rw[fj] at bf;simp only[fj];clear fj;obtain⟨bg,fk⟩:∃ v,Ϥ (Δ ⟨gq,0,Γ⟩) (J.length+1) c7=v:=⟨_,rfl⟩;rw[fk] at bf;simp only[fk];clear fk;replace bf:Hp w6 wx (.row 68 1 bg (J.length+1) (J++[Β (Δ ⟨gr,0,Γ⟩) r.length cr])::.row 4 1 va Ac.length (Ac.map ο)::.obj g7 (Ε (trA cx bg va) 79 (0,0))::.row 94 2 (Β (Δ ⟨U,0,Γ⟩) D.length al) D.length (fl2 D)::C1 J N'++[.row 3 1 (Β (Δ ⟨gr,0,Γ⟩) r.length cr) r.length (r.map iv)]):=bf;obtain⟨S,hS⟩:∃ y,D.getD i 0=y:=⟨_,rfl⟩;rw[hS] at dm;have cv:=Α hS;clear hS;have dr:=Α (λ(X:Λ) (vz:Ν) (xs:List Ν) (h:Hp w6 X (.row 68 1 bg (J.length+1) (J++[Β (Δ ⟨gr,0,Γ⟩) r.length cr])::.row 4 1 vz xs.length xs::.obj g7 (Ε (trA cx bg va) 79 (0,0))::.row 94 2 (Β (Δ ⟨U,0,Γ⟩) D.length al) D.length (fl2 D)::C1 J N'++[.row 3 1 (Β (Δ ⟨gr,0,Γ⟩) r.length cr) r.length (r.map iv)]))=>
         (show X.cell? ⟨g7,257,Γ⟩=Δ va/\X.cell? ⟨U,i*2+1,Γ⟩=Δ (.int π (S:Int)) from
          ⟨Av (h.obj 2 rfl) (J3 cx bg va),by rw[<-cv.out];exact Pc (h.row 3 rfl) rfl i a8 1 _ rfl⟩))
        have bw:=bf.extW (Θ wx).drew;have dt:(Ac.map ο).length=Ac.length:=ϋ _;refine B2 12 [(0,Ξ),(1,Ξ),(2,Ξ),(3,Ξ),(4,Ξ),(5,Ξ),(6,Ξ),(7,Ξ),(8,Ξ),(9,Τ),(10,Τ),(11,Ξ),(12,Τ)] (by kernel_rfl) (by kernel_rfl) (λ_ _ _ _ h=>h)
         (λW=>W.cell? ⟨g7,257,Γ⟩=Δ va/\W.cell? ⟨U,i*2+1,Γ⟩=Δ (.int π (S:Int))) (dr.out _ _ (Ac.map ο) (by rw[dt];exact bw)) ?_
        clear bf;obtain⟨wq,fl⟩:∃ X,wx.drew=X:=⟨_,rfl⟩;rw[fl] at bw;rw[fl];clear fl;iterate 9
         refine Ao (v:=?_) rfl rfl (λV hV=>?_) ?_
         rotate_left
         ·obtain⟨k0,k1⟩:=hV;go_simp;first|done|with_reducible rfl
         simp only[Ϛ,Ι,Χ,Ψ]
        obtain⟨ok,fm⟩:∃ b,((S:Int).tmod 2==1)=b:=⟨_,rfl⟩;simp only[fm];have mg:À (ok=S.testBit 0):=Α (by rw[<-fm];exact Anm S);clear fm;have mh:=bw.size;have n2:Ac.length<=65536:=by rw[HI.out.2.2.1];omega
        refine A5 rfl (λKq bh=>?_);go_simp;refine bh _ _ (λ_=>dr.out _ _ (Ac.map ο) (by rw[dt];exact bw.alloc _)) ?_;clear bh Kq;refine A5 rfl (λKq bh=>?_);refine step_append_lies _ rfl _ _ 28 rfl w6.heap.size 4 i4 (.bool Τ) 1 1 Ã j8 j9 ka kb rfl (by decide) va Ac.length (Ac.map ο) rfl ((bw.row 1 rfl).alloc _) _ 1 1 [.bool ok] rfl rfl (ϭ _ _ _) (by simp[ό]) (by decide) (by unfold ϛ;omega) (by omega) (by simp;omega) _ rfl ?_;intro ga jg du jh ji jj _;have c3:=(bw.alloc (Ε #[.bool ok] 4)).app 1 rfl jh ji jj;clear jh ji jj bw mh;have jk:À (du.cell? ⟨g7,257,Γ⟩=Δ va/\du.cell? ⟨U,i*2+1,Γ⟩=Δ (.int π (S:Int))):=Α (dr.out _ _ (Ac.map ο++[.bool ok]) (by rw[Υ,dt];exact c3));refine bh _ _ (λ_=>jk.out) ?_;clear bh Kq;refine Ao (v:=?_) rfl rfl (λV hV=>?_) ?_
        rotate_left
        ·clear hV;go_simp;first|done|with_reducible rfl
        simp only[Ϛ,Ι,Χ,Ψ];have k2:=Av (c3.obj 2 rfl) (J3 cx bg va);have mj:=c3.frozen 2 rfl 257;refine A5 rfl (λKq bh=>?_);go_simp;refine bh _ _ (λh=>absurd h (by omega)) ?_;clear bh Kq k2 mj;refine B3 ?_;have ml:=c3.cell 2 rfl 257 (Β (Δ ⟨ga,0,Γ⟩) (Ac.length+1) jg) (N8 cx bg va _);clear c3 jk dr dt;have mm:À (Ro x k (i+1) D f2 (N'++[r]) (J++[Ϥ (Δ ⟨gr,0,Γ⟩) r.length cr]) (Ac++[ok])):=
         Α ⟨by rw[Υ,Υ,HI.out.1];rfl,mc.out,by rw[Υ,HI.out.2.2.1];rfl,λj hj=>by
          rw[I7,HI.out.2.2.1];by_cases jl:j<i
          ·rw[if_pos jl,HJ.out.2.2.2.1 j (by omega)];exact HI.out.2.2.2.1 j jl
          ·obtain rfl:j=i:=by omega
           rw[if_neg (by omega),if_pos rfl,cv.out,mg.out],HJ.out.2.2.2.2⟩
        go_wp2;go_roundw
        case rel=>exact⟨D,f2,N'++[r],Ac++[ok],J++[Β (Δ ⟨gr,0,Γ⟩) r.length cr],U,al,bg,Β (Δ ⟨ga,0,Γ⟩) (Ac.length+1) jg,i+1,by omega,by omega,rfl,by go_num,by rw[L4 HI.out.1,Υ,Υ,ϝ];exact ml,mm⟩
        case measure=>simp[intOf];omega
    ·obtain rfl:i=l.length:=by omega
     have mo:=HI.out;obtain⟨q1,q2,q3,q4,q5⟩:=HI.out;have dv:=Α (Qz (c:=Ak x.cls) (ac:=λS=>S.testBit 0) q2 rfl q3 (λj S hS=>by
      have hj:j<l.length:=by rw[ϊ] at hS;exact hS.1
      rw[q4 j hj,Η,hS];rfl))
     have fo:=Α (Expl.tval dv.out (P7 HV.out.parts));have fp:=Α (Ade HV.out cp.out dv.out lp);have jn:=Α dv.out.len;have jo:∀ j,j<N'.length->(N'.getD j []).length<=4611686018427387904:=λj hj=>by
      rw[q2.rows j (by rw[q2.lenN] at hj;exact hj),cu.out];omega
     have mr:=q2.lenN;have dw:IsR wr (trA cx vn va) ⟨Ak x.cls,(Ce x.cls).length,N',Ac⟩:=⟨vn,va,by rw[gy.out],Za I.at_ 0 4 rfl (λj=>rfl) q1 (show N'.length<=4611686018427387904 by omega) jo,OwnB.bools (base:=w6.heap.size) (l:=Ac) (I.row 1 rfl) (by omega)⟩;have HO:=Α (I.obj 2 rfl);have jr:(Ζ.info? 79).map (·.size)=Δ (trA cx vn va).size:=by rw[Dw];exact Co
     obtain⟨Af,js⟩:∃ X,trA cx vn va=X:=⟨_,rfl⟩;obtain⟨t,ht⟩:∃ t:Tbl,(⟨Ak x.cls,(Ce x.cls).length,N',Ac⟩:Tbl)=t:=⟨_,rfl⟩;rw[js] at HO jr dw;rw[ht] at dw dv fo fp jn;have f61:=Α (Aid t fo.out (Mq t fo.out (by rw[jn.out];omega)) Af wr dw);have mv:=Α (λ(r:Option Dfa) (h:F8 (λu=>t.has u=Ξ) r)=>Pu (M:=λu=>d.has u.reverse=Ξ) h λu=>by rw[fp.out.2,ep.out]);have dq:=Α ((a6.out.trans I.ext).heap az.out);have mw:=Α (gu.out.trans (a6.out.trans I.ext));clear I q1 q2 q3 q4 q5 jo mr dw js ht mo HI;go_wp2_with (first
      | (refine Ο rfl 79 (η 7) rfl _ rfl _ _ _ _ HO.out Ϻ rfl jr ?_)
      | (go_at_call 61;(with_reducible refine f61.out.mono ?_);rintro e du ⟨r,fq,ju,jv⟩;obtain⟨jw,jx,jy,jz,j0,j1,j2,j3,j4,k3,rfl⟩:=fq.form;have my:=Α fq;have j5:=Α (mv.out r (Aie ju));clear fq ju;have fs:=Α (jv.heap dq.out))
      | (refine Φ rfl 30 (η 2) (η 106) rfl _ _ rfl rfl _ _ fs.out Ad rfl (Aq _ _ _ rfl rfl rfl) ?_))
     refine ω (v:=ϙ #[.agg (dA (Β jw jx jy) (Β jz j0 j1) (Β j2 j3 j4)),.int ε k3]) (A3 rfl _ _ _ _ _ _ _ rfl _ rfl (μ du _ _ (dA (Β jw jx jy) (Β jz j0 j1) (Β j2 j3 j4)) 30 (0,0) fs.out) Κ rfl Ad) rfl ?_;exact⟨r,my.out.setRow (λd' h=>by subst h;exact j5.out.1.val) fs.out _,⟨x,gk.out,ep.out,λhm=>absurd hm fp.out.1,λ_=>j5.out⟩,(mw.out.trans jv).setRow gd.out _⟩
theorem Aew (d:Dfa) (hv:Val d) (hn:d.n.length<=64) (v:Ν) (w:Λ) (h:IsD w v d) :
  ϓ Ζ 17 #[v] w λe w'=>∃ r,ResOf w' e (Δ r)/\Cano r/\(∀ x,r.has x=Ξ↔∃ u,d.has (x++u)=Ξ)/\Ext w w':=by
 have HD:=Α h;have f50:=λW (hW:Ext w W)=>Α (G1 d hv hn _ W (HD.out.ext hW))
 have f51:=λW (hW:Ext w W)=>Α (Kg d hv hv.parts.le _ W (HD.out.ext hW))
 have I:=Α (Bj hv);have b0:=Α (Dp d);have db:(Ae d).n.length<=64:=hn;obtain⟨i4,dd,de,df,dg⟩:=Ϟ D8;obtain⟨ac,lc,cc,an,cn,aa,la,ca,rfl⟩:=h.agg;obtain⟨V,hV⟩:∃ X,dA (Β ac lc cc) (Β an d.n.length cn) (Β aa la ca)=X:=⟨_,rfl⟩;have hi:(Ζ.info? 30).map (·.size)=Δ V.size:=by rw[<-hV];exact Ad
 rw[hV] at HD f50 f51 ⊢;have a6:=((Θ w).alloc (Ε V 30)).alloc (Ε #[Β Γ 0 0,Β Γ 0 0,Β Γ 0 0] 30);have H0:=Ag (Aa w (Ε V 30)) (Ε #[Β Γ 0 0,Β Γ 0 0,Β Γ 0 0] 30);have H1:=Ϗ w (Ε V 30) (Ε #[Β Γ 0 0,Β Γ 0 0,Β Γ 0 0] 30);clear h hV hv hn;obtain⟨t,ht⟩:∃ t,Ae d=t:=⟨_,rfl⟩;rw[ht] at I b0 db;simp only[ht] at f51;clear ht;have e1:=I.out.cle;have dr:=I.out.pos;go_enter Tryz.func17,Tryz.ntmps17;go_upto_region 1 with (fail)
 obtain⟨w1,a8⟩:∃ X,(w.alloc (Ε V 30)).alloc (Ε #[Β Γ 0 0,Β Γ 0 0,Β Γ 0 0] 30)=X:=⟨_,rfl⟩;rw[a8] at a6 H0 H1;simp only[a8];clear a8;obtain⟨g1,bb⟩:∃ y,w.heap.size=y:=⟨_,rfl⟩;obtain⟨g2,bc⟩:∃ y,g1+1=y:=⟨_,rfl⟩;have du:À (w.heap.size<=g2):=Α (by omega);rw[bb] at H0 H1;rw[bc] at H1;simp only[bb,bc];clear bb bc;have al:=Α H0;have ab:=Α H1;have b5:=Α a6;clear H0 H1 a6;go_upto_region 3 with (first
  | (refine Ο rfl 30 (η 1) rfl _ rfl _ _ _ _ al.out Κ rfl hi ?_)
  | (go_at_call 50;(with_reducible refine (f50 _ b5.out).out.mono ?_);rintro e w2 ⟨rfl,ao⟩;have b6:=Α (b5.out.trans ao);have al:=Α (ao.heap al.out);have ab:=Α (ao.heap ab.out);clear ao))
 go_upto_region 4 with (first
  | (refine Ο rfl 30 (η 1) rfl _ rfl _ _ _ _ al.out Κ rfl hi ?_)
  | (go_at_call 51;(with_reducible refine (f51 _ b6.out).out.mono ?_);rintro e G ⟨A,rfl,hA,be⟩;have dv:=Α (b6.out.trans be);have ab:=Α (be.heap ab.out);have HA:=Α hA;clear be;obtain⟨bn,on,e5,ba,oa,e6,b7,dx,e7,dy,b8,ea,eb⟩:=hA.opened I.out;have ec:(Ζ.info? 79).map (·.size)=Δ A.size:=(by rw[b7];exact Co);have b9:ϖ.size=A.size:=(by rw[Fb,b7]))
  | (refine Φ rfl 79 (η 4) (η 14) rfl _ A rfl rfl _ _ (Aa G _) ec b9 dx ?_))
 have D:=((Hp.nil G).new (Ε ϖ 79)).box 0 rfl A;obtain⟨w4,au⟩:∃ X,(G.alloc (Ε ϖ 79)).setRow G.heap.size A=X:=⟨_,rfl⟩;obtain⟨g4,bf⟩:∃ y,G.heap.size=y:=⟨_,rfl⟩;rw[bf] at au D;rw[au] at D;simp only[bf];simp only[au];clear au bf hA b9 f50 f51;replace D:Hp G w4 [.obj g4 (Ε A 79 (0,0))]:=D;have ed:=Α (λW (hW:Ext G W)=>ea.ext hW);have ee:=Α dy;have e8:À (g2<G.heap.size):=Α (An ab.out);have ef:=Av ((D.alloc (Ε #[] 4)).obj 0 rfl) b8;have cd:∀ j u,(t.acc.map ο)[j]? = Δ u->(w4.alloc (Ε #[] 4)).cell? ((⟨ba,oa,Γ⟩:Addr).add j)=Δ u:=λj u hj=>by
  obtain⟨eh,cf⟩:=ϊ.1 hj;have cg:j<t.n.length:=by rw[<-I.out.accL];simpa using eh
  have:=(D.ext.alloc (Ε #[] 4)).cell (eb j cg);rw[List.getElem_map] at cf;have e:(⟨ba,oa,Γ⟩:Addr).add j=⟨ba,oa+j,Γ⟩:=by
   unfold Addr.add;by_cases h0:j=0
   ·subst h0;rfl
   ·simp[h0]
  rw[<-cf,e,this];unfold Tbl.ok;rw[Η,Μ (by rw[I.out.accL];exact cg)];rfl
 have cj:(t.acc.map ο).length=t.n.length*1:=by rw[ϋ,I.out.accL,Nat.mul_one]
 have aw:=D.lit 4 1 #[] 0 (by unfold ϛ;omega) rfl;have ck:=aw.size;have cl:∀ u∈t.acc.map ο,u.oneCell'=Ξ:=λu hu=>by
  obtain⟨b,_,rfl⟩:=ϸ.1 hu;rfl
 go_upto_region 5 with (at_builtin;refine Ϙ _ rfl _ _ 28 rfl G.heap.size 4 i4 (.bool Τ) 1 1 Ã dd de df dg rfl (by decide) _ _ _ rfl (aw.row 0 rfl) ⟨ba,oa,Γ⟩ t.n.length _ (t.acc.map ο) rfl cj cd cl dr (by unfold ϛ;omega) (by omega) ck _ rfl ?_;intro J M w5 cm cp cq _)
 have ah:=aw.app 0 rfl cm cp cq;replace ah:Hp G w5 [.row 4 1 (Β (Δ ⟨J,0,Γ⟩) t.n.length M) t.n.length (t.acc.map ο),.obj g4 (Ε A 79 (0,0))]:=by
  have e:(#[]:Array Ν).toList++t.acc.map ο=t.acc.map ο:=rfl;rw[e,é] at ah;exact ah
 clear cm cp cq cd cj cl ck aw D ef;have ct:=Α (Ahh I.out);go_wp2_with (fail);go_loopw [6] (λT W=>∃ (L:List Bool) (r:Nat),r<=t.n.length/\T=.int ε r/\Hp G W [.row 4 1 (Β (Δ ⟨J,0,Γ⟩) t.n.length M) t.n.length (L.map ο),.obj g4 (Ε A 79 (0,0))]/\À (LvInv t r 0 0 L))
  (λT _=>t.n.length-(intOf T).toNat)
 case atStart=>exact⟨t.acc,0,by omega,rfl,ah,ct⟩
 case round=>
  clear ah ct;obtain⟨L,r,hr,rfl,D,E⟩:=hrel;by_cases fa:r<t.n.length
  ·have fb:(r:Int)<(t.n.length:Int):=by omega
   go_wp2_with (fail);go_loopw [7] (λT W=>∃ (L:List Bool) (s:Nat),s<=t.n.length/\T=.int ε s/\Hp G W [.row 4 1 (Β (Δ ⟨J,0,Γ⟩) t.n.length M) t.n.length (L.map ο),.obj g4 (Ε A 79 (0,0))]/\À (LvInv t r s 0 L))
    (λT _=>t.n.length-(intOf T).toNat)
   case atStart=>exact⟨L,0,by omega,rfl,D,E⟩
   case round=>
    clear D E;obtain⟨L,s,hs,rfl,D,E⟩:=hrel;by_cases ai:s<t.n.length
    ·have fc:(s:Int)<(t.n.length:Int):=by omega
     obtain⟨br,ff,cr,cu,cv⟩:=ed.out G (Θ G) s ai;have ej:=Α cu;have ek:=Α cv;clear cu cv;go_wp2_with (fail);go_loopw [8] (λT W=>∃ (L:List Bool) (k:Nat),k<=t.cells/\T=.int ε k/\Hp G W [.row 4 1 (Β (Δ ⟨J,0,Γ⟩) t.n.length M) t.n.length (L.map ο),.obj g4 (Ε A 79 (0,0))]/\À (LvInv t r s k L))
      (λT _=>t.cells-(intOf T).toNat)
     case atStart=>exact⟨L,0,by omega,rfl,D,E⟩
     case round=>
      clear D E;obtain⟨L,k,hk,rfl,D,E⟩:=hrel;have cN:=Av (D.obj 1 rfl) ee.out;have cR:=D.ext.cell ej.out;by_cases bg:k<t.cells
      ·have fl:(k:Int)<(t.cells:Int):=by omega
       have U:=Α (Ahl I.out E.out ai bg);have ax:=Α E.out.len;have ce:=D.ext.cell (ek.out k bg);have cw:=I.out.tgt s ai k bg;obtain⟨x,hx⟩:∃ x,t.ent2 s k=x:=⟨_,rfl⟩;rw[hx] at ce cw U;clear hx;have fm:(x:Int)<(t.n.length:Int):=by omega
       have cs:=Am Τ (D.row 0 rfl) ax.out.symm s (by rw[ax.out];exact ai);have cx:=Am Τ (D.row 0 rfl) ax.out.symm x (by rw[ax.out];exact cw);have fs:=(D.row 0 rfl).frozenAt s;obtain⟨b,hb⟩:∃ b,L.getD s Τ=b:=⟨_,rfl⟩;obtain⟨b2,c1⟩:∃ b,L.getD x Τ=b:=⟨_,rfl⟩;rw[hb] at cs U;rw[c1] at cx U;clear hb c1;have ay:=D.putf 0 rfl s (b||b2);clear D E;cases b with
       | true=>
        rw[Bool.true_or] at U ay;go_wp2;go_roundw
        case rel=>exact⟨_,k+1,by omega,by go_num,ay,U⟩
        case measure=>simp[intOf];omega
       | false=>
        rw[Bool.false_or] at U ay;go_wp2;go_roundw
        case rel=>exact⟨_,k+1,by omega,by go_num,ay,U⟩
        case measure=>simp[intOf];omega
      ·obtain rfl:k=t.cells:=by omega
       have HR:=Α (Ahi I.out E.out ai);clear E;go_wp2;go_roundw
       case rel=>exact⟨L,s+1,by omega,by go_num,D,HR⟩
       case measure=>simp[intOf];omega
    ·obtain rfl:s=t.n.length:=by omega
     have HR:=Α (Ahj E.out);clear E;go_wp2;go_roundw
     case rel=>exact⟨L,r+1,by omega,by go_num,D,HR⟩
     case measure=>simp[intOf];omega
  ·obtain rfl:r=t.n.length:=by omega
   have cA:=Av (D.obj 1 rfl) b8;have fA:=D.frozen 1 rfl 257;obtain⟨aj,fp,c2,c3,et⟩:=HA.out;have ae:=D.cell 1 rfl 257 (Β (Δ ⟨J,0,Γ⟩) t.n.length M) (cs':=trA t.cell aj (Β (Δ ⟨J,0,Γ⟩) t.n.length M)) (by rw[c2];exact N8 _ _ _ _);go_upto_region 16 with (fail)
   clear D cA fA;obtain⟨w6,bk⟩:∃ X,wr.setCell ⟨g4,257,Γ⟩ (Β (Δ ⟨J,0,Γ⟩) t.n.length M)=X:=⟨_,rfl⟩;rw[bk] at ae;simp only[bk];clear bk;have bl:IsR w6 (trA t.cell aj (Β (Δ ⟨J,0,Γ⟩) t.n.length M)) (Lh t L):=⟨aj,_,rfl,c3.ext ae.ext,by
    have h1:OwnB w6 G.heap.size (Β (Δ ⟨J,0,Γ⟩) t.n.length M) L:=by
     show Ϡ _ _ _ _ _ _ _;rw[E.out.len];exact ae.row 0 rfl
    exact OwnB.bools h1 (by show L.length<=_;rw[E.out.len];omega)⟩
   have c4:(Ζ.info? 79).map (·.size)=Δ (trA t.cell aj (Β (Δ ⟨J,0,Γ⟩) t.n.length M)).size:=by rw[Dw];exact Co
   have HO:=Α (ae.obj 1 rfl);obtain⟨Af,c7⟩:∃ X,trA t.cell aj (Β (Δ ⟨J,0,Γ⟩) t.n.length M)=X:=⟨_,rfl⟩;rw[c7] at bl c4 HO;have f57:=Α (Mq (Lh t L) (An9 I.out E.out.len) (show t.n.length<=65536 by omega) Af w6 bl);have ew:=Α (Ahz I.out E.out);have ey:=Α (ae.ext.heap ab.out);clear bl c7 c2 c3 et E;go_wp2_with (first
    | (refine Ο rfl 79 (η 4) rfl _ rfl _ _ _ _ HO.out Ϻ rfl c4 ?_)
    | (go_at_call 57;with_reducible refine f57.out.mono ?_;rintro e w9 ⟨v,d9,rfl,hD,c9,e0,da⟩;obtain⟨bm,bo,bp,bq,bt,bu,bw,bx,rfl⟩:=hD.agg;have bz:=Α (da.heap ey.out))
    | (refine Φ rfl 30 (η 2) (η 64) rfl _ (dA (Β bm bo bp) (Β bq d9.n.length bt) (Β bu bw bx)) rfl rfl _ _ bz.out Ad rfl (Aq _ _ _ rfl rfl rfl) ?_))
   refine ω (v:=ϙ #[.agg (dA (Β bm bo bp) (Β bq d9.n.length bt) (Β bu bw bx)),.int ε 0]) (A3 rfl _ _ _ _ _ _ _ rfl _ rfl (μ w9 _ _ (dA (Β bm bo bp) (Β bq d9.n.length bt) (Β bu bw bx)) 30 (0,0) bz.out) Κ rfl Ad) rfl ?_;exact⟨d9,⟨_,rfl,hD.setRow c9.val bz.out _⟩,c9,λx=>by
    rw[e0,ew.out x];simp only[b0.out],((dv.out.trans ae.ext).trans da).setRow du.out _⟩
theorem Ali (d:Dfa) (hv:Val d) (hn:d.n.length<=64) (n:Int) (hb:n<0\/64<n) (v:Ν) (w:Λ) (h:IsD w v d) :
  ϓ Ζ 20 #[v,.int ε n] w λe w'=>e=θ (ϙ #[.int ε 0,.int ε 1])/\Ext w w':=by
 have M:=Α h;obtain⟨ac,lc,cc,an,cn,aa,la,ca,rfl⟩:=h.agg;have T:=λW (hW:Ext w W)=>Α (Ef d hv hn _ W (M.out.ext hW))
 obtain⟨D,E⟩:∃ X,dA (Β ac lc cc) (Β an d.n.length cn) (Β aa la ca)=X:=⟨_,rfl⟩;have al:(Ζ.info? 30).map (·.size)=Δ D.size:=by rw[<-E];exact Ad
 rw[E] at T M;rw[E];have G:=(Θ w).alloc (Ε D 30);have I:=Aa w (Ε D 30);clear h E hv;go_enter Tryz.func20,Tryz.ntmps20;go_upto_region 1 with (fail)
 obtain⟨w1,J⟩:∃ W,w.alloc (Ε D 30)=W:=⟨_,rfl⟩;rw[J] at G I;simp only[J];clear J;have ao:=Α I;have U:=Α G;clear I G;rcases (show n<0\/(¬ n<0/\64<n) from by omega) with aq|⟨aq,au⟩
 all_goals
  clear hb;go_wp2_with (first
   | (refine Ο rfl 30 (η 2) rfl _ rfl _ _ _ _ ao.out Κ rfl al ?_)
   | (go_at_call 47;(with_reducible refine (T _ U.out).out.mono ?_);rintro e w2 ⟨rfl,ab⟩;have ar:=Α (U.out.trans ab);clear ab))
  go_ret2;exact⟨rfl,ar.out⟩
theorem Aln (d:Dfa) (hv:Val d) (hn:d.n.length<=64) (n:Int) (hb:n<0\/64<n) (v:Ν) (w:Λ) (h:IsD w v d) :
  ϓ Ζ 21 #[v,.int ε n] w λe w'=>e=θ (ϙ #[.int ε 0,.int ε 1])/\Ext w w':=by
 have M:=Α h;obtain⟨ac,lc,cc,an,cn,aa,la,ca,rfl⟩:=h.agg;have T:=λW (hW:Ext w W)=>Α (G1 d hv hn _ W (M.out.ext hW))
 obtain⟨D,E⟩:∃ X,dA (Β ac lc cc) (Β an d.n.length cn) (Β aa la ca)=X:=⟨_,rfl⟩;have al:(Ζ.info? 30).map (·.size)=Δ D.size:=by rw[<-E];exact Ad
 rw[E] at T M;rw[E];have G:=(Θ w).alloc (Ε D 30);have I:=Aa w (Ε D 30);clear h E hv;go_enter Tryz.func21,Tryz.ntmps21;go_upto_region 1 with (fail)
 obtain⟨w1,J⟩:∃ W,w.alloc (Ε D 30)=W:=⟨_,rfl⟩;rw[J] at G I;simp only[J];clear J;have ao:=Α I;have U:=Α G;clear I G;rcases (show n<0\/(¬ n<0/\64<n) from by omega) with aq|⟨aq,au⟩
 all_goals
  clear hb;go_wp2_with (first
   | (refine Ο rfl 30 (η 2) rfl _ rfl _ _ _ _ ao.out Κ rfl al ?_)
   | (go_at_call 50;(with_reducible refine (T _ U.out).out.mono ?_);rintro e w2 ⟨rfl,ab⟩;have ar:=Α (U.out.trans ab);clear ab))
  go_ret2;exact⟨rfl,ar.out⟩
theorem Ah3 (d:Dfa) (hv:Val d) (hn:d.n.length<=64) (n:Int) (hb:n<0\/8<n) (v:Ν) (w:Λ) (h:IsD w v d) :
  ϓ Ζ 22 #[v,.int ε n] w λe w'=>e=θ (ϙ #[Β Γ 0 0,.int ε 1])/\Ext w w':=by
 have M:=Α h;obtain⟨ac,lc,cc,an,cn,aa,la,ca,rfl⟩:=h.agg;have T:=λW (hW:Ext w W)=>Α (Ef d hv hn _ W (M.out.ext hW))
 obtain⟨D,E⟩:∃ X,dA (Β ac lc cc) (Β an d.n.length cn) (Β aa la ca)=X:=⟨_,rfl⟩;have al:(Ζ.info? 30).map (·.size)=Δ D.size:=by rw[<-E];exact Ad
 rw[E] at T M;rw[E];have G:=(Θ w).alloc (Ε D 30);have I:=Aa w (Ε D 30);clear h E hv;refine (callsIn_wide (n:=3)).1 ?_;refine callsIn_of_wp_marks Tryz.func22 rfl trivial ?_ rfl;refine wpIn_wide.2 ?_;simp only[Tryz.ntmps22,List.size_toArray,List.length_cons,List.length_nil,Nat.reduceAdd,Nat.reduceSub,Array.replicate_succ,Array.replicate_zero,List.push_toArray,List.append_toArray,List.nil_append,List.cons_append];go_upto_region 1 with (fail)
 obtain⟨w1,J⟩:∃ W,w.alloc (Ε D 30)=W:=⟨_,rfl⟩;rw[J] at G I;simp only[J];clear J;have ao:=Α I;have U:=Α G;clear I G;rcases (show n<0\/(¬ n<0/\8<n) from by omega) with aq|⟨aq,au⟩
 all_goals
  clear hb;go_wp2_with (first
   | (refine Ο rfl 30 (η 2) rfl _ rfl _ _ _ _ ao.out Κ rfl al ?_)
   | (go_at_call 47;(with_reducible refine (T _ U.out).out.mono ?_);rintro e w2 ⟨rfl,ab⟩;have ar:=Α (U.out.trans ab);clear ab))
  exact⟨_,results_tmp2 rfl _ _ _,rfl,ar.out⟩
theorem Ah8 (d:Dfa) (hv:Val d) (hn:d.n.length<=64) (n:Int) (hb:n<0\/8<n) (v:Ν) (w:Λ) (h:IsD w v d) :
  ϓ Ζ 23 #[v,.int ε n] w λe w'=>e=θ (ϙ #[Β Γ 0 0,.int ε 1])/\Ext w w':=by
 have M:=Α h;obtain⟨ac,lc,cc,an,cn,aa,la,ca,rfl⟩:=h.agg;have T:=λW (hW:Ext w W)=>Α (G1 d hv hn _ W (M.out.ext hW))
 obtain⟨D,E⟩:∃ X,dA (Β ac lc cc) (Β an d.n.length cn) (Β aa la ca)=X:=⟨_,rfl⟩;have al:(Ζ.info? 30).map (·.size)=Δ D.size:=by rw[<-E];exact Ad
 rw[E] at T M;rw[E];have G:=(Θ w).alloc (Ε D 30);have I:=Aa w (Ε D 30);clear h E hv;go_enter Tryz.func23,Tryz.ntmps23;go_upto_region 1 with (fail)
 obtain⟨w1,J⟩:∃ W,w.alloc (Ε D 30)=W:=⟨_,rfl⟩;rw[J] at G I;simp only[J];clear J;have ao:=Α I;have U:=Α G;clear I G;rcases (show n<0\/(¬ n<0/\8<n) from by omega) with aq|⟨aq,au⟩
 all_goals
  clear hb;go_wp2_with (first
   | (refine Ο rfl 30 (η 2) rfl _ rfl _ _ _ _ ao.out Κ rfl al ?_)
   | (go_at_call 50;(with_reducible refine (T _ U.out).out.mono ?_);rintro e w2 ⟨rfl,ab⟩;have ar:=Α (U.out.trans ab);clear ab))
  go_ret2;exact⟨rfl,ar.out⟩
def Ej (d:Dfa) (n:Int):Int × Nat:=if n<0\/64<n then (0,1) else if Ba d.has n.toNat<=1099511627776 then ((Ba d.has n.toNat:Nat),0) else (0,2)
def Cf (d:Dfa) (n:Int):List (List UInt8) × Nat:=if n<0\/8<n then ([],1) else if Bx d.has (n.toNat+1)<=4096 then (Ca d.has (n.toNat+1),0) else ([],2)
theorem X8 (d:Dfa) (N:Nat) (D:N<=64):E1 (Ba d.has N)=θ (ϙ #[.int ε (Ej d N).1,.int ε ((Ej d N).2:Nat)]):=by
 unfold E1 Ej;rw[if_neg (show ¬ ((N:Int)<0\/64<(N:Int)) by omega),å];by_cases h:Ba d.has N<=1099511627776
 ·rw[if_pos h,if_pos h];rfl
 ·rw[if_neg h,if_neg h];rfl
theorem Alj (d:Dfa) (hv:Val d) (hn:d.n.length<=64) (n:Int) (v:Ν) (w:Λ) (h:IsD w v d) :
  ϓ Ζ 20 #[v,.int ε n] w λe w'=>e=θ (ϙ #[.int ε (Ej d n).1,.int ε ((Ej d n).2:Nat)])/\Ext w w':=by
 by_cases G:n<0\/64<n
 ·refine (Ali d hv hn n G v w h).mono λe w' ⟨D,E⟩=>⟨?_,E⟩
  rw[D];unfold Ej;rw[if_pos G];rfl
 ·obtain⟨N,rfl⟩:∃ N:Nat,n=N:=⟨n.toNat,by omega⟩;refine (Na d hv hn N (by omega) v w h).mono λe w' ⟨D,E⟩=>⟨?_,E⟩
  rw[D,X8 d N (by omega)]
theorem Alo (d:Dfa) (hv:Val d) (hn:d.n.length<=64) (n:Int) (v:Ν) (w:Λ) (h:IsD w v d) :
  ϓ Ζ 21 #[v,.int ε n] w λe w'=>e=θ (ϙ #[.int ε (Ej d n).1,.int ε ((Ej d n).2:Nat)])/\Ext w w':=by
 by_cases G:n<0\/64<n
 ·refine (Aln d hv hn n G v w h).mono λe w' ⟨D,E⟩=>⟨?_,E⟩
  rw[D];unfold Ej;rw[if_pos G];rfl
 ·obtain⟨N,rfl⟩:∃ N:Nat,n=N:=⟨n.toNat,by omega⟩;refine (Xz d hv hn N (by omega) v w h).mono λe w' ⟨D,E⟩=>⟨?_,E⟩
  rw[D,X8 d N (by omega)]
theorem Ah4 (d:Dfa) (hv:Val d) (hn:d.n.length<=64) (n:Int) (v:Ν) (w:Λ) (h:IsD w v d) :
  ϓ Ζ 22 #[v,.int ε n] w λe w'=>∃ D,e=θ (ϙ #[D,.int ε ((Cf d n).2:Nat)])/\Wrds w' D (Cf d n).1/\Ext w w':=by
 by_cases G:n<0\/8<n
 ·refine (Ah3 d hv hn n G v w h).mono λe w' ⟨I,E⟩=>⟨Β Γ 0 0,?_,?_,E⟩
  ·rw[I];unfold Cf;rw[if_pos G];rfl
  ·unfold Cf;rw[if_pos G];exact Wrds.nil w'
 ·obtain⟨N,rfl⟩:∃ N:Nat,n=N:=⟨n.toNat,by omega⟩;refine (Mt d hv hn N (by omega) v w h).mono λe w' ⟨E,I⟩=>?_
  rcases I with⟨J,D,rfl,M⟩|⟨J,rfl⟩
  ·refine⟨D,?_,?_,E⟩
   ·unfold Cf;rw[if_neg (show ¬ ((N:Int)<0\/8<(N:Int)) by omega),å,if_pos J];rfl
   ·unfold Cf;rw[if_neg (show ¬ ((N:Int)<0\/8<(N:Int)) by omega),å,if_pos J];exact M
  ·refine⟨Β Γ 0 0,?_,?_,E⟩
   ·unfold Cf;rw[if_neg (show ¬ ((N:Int)<0\/8<(N:Int)) by omega),å,if_neg (show ¬ Bx d.has (N+1)<=4096 by omega)];rfl
   ·unfold Cf;rw[if_neg (show ¬ ((N:Int)<0\/8<(N:Int)) by omega),å,if_neg (show ¬ Bx d.has (N+1)<=4096 by omega)];exact Wrds.nil w'
theorem Ah9 (d:Dfa) (hv:Val d) (hn:d.n.length<=64) (n:Int) (v:Ν) (w:Λ) (h:IsD w v d) :
  ϓ Ζ 23 #[v,.int ε n] w λe w'=>∃ D,e=θ (ϙ #[D,.int ε ((Cf d n).2:Nat)])/\Wrds w' D (Cf d n).1/\Ext w w':=by
 by_cases G:n<0\/8<n
 ·refine (Ah8 d hv hn n G v w h).mono λe w' ⟨I,E⟩=>⟨Β Γ 0 0,?_,?_,E⟩
  ·rw[I];unfold Cf;rw[if_pos G];rfl
  ·unfold Cf;rw[if_pos G];exact Wrds.nil w'
 ·obtain⟨N,rfl⟩:∃ N:Nat,n=N:=⟨n.toNat,by omega⟩;refine (Aib d hv hn N (by omega) v w h).mono λe w' ⟨E,I⟩=>?_
  rcases I with⟨J,D,rfl,M⟩|⟨J,rfl⟩
  ·refine⟨D,?_,?_,E⟩
   ·unfold Cf;rw[if_neg (show ¬ ((N:Int)<0\/8<(N:Int)) by omega),å,if_pos J];rfl
   ·unfold Cf;rw[if_neg (show ¬ ((N:Int)<0\/8<(N:Int)) by omega),å,if_pos J];exact M
  ·refine⟨Β Γ 0 0,?_,?_,E⟩
   ·unfold Cf;rw[if_neg (show ¬ ((N:Int)<0\/8<(N:Int)) by omega),å,if_neg (show ¬ Bx d.has (N+1)<=4096 by omega)];rfl
   ·unfold Cf;rw[if_neg (show ¬ ((N:Int)<0\/8<(N:Int)) by omega),å,if_neg (show ¬ Bx d.has (N+1)<=4096 by omega)];exact Wrds.nil w'
theorem Ahs (d:Dfa) (n:Int):(Cf d n).1.length<=65536:=by
 unfold Cf;split
 ·simp
 ·split
  ·rename_i h
   show (Ca _ _).length<=_;rw[Iy];omega
  ·simp
theorem Ahr (d:Dfa) (n:Int):∀ x∈(Cf d n).1,x.length<=65536:=by
 intro x D;unfold Cf at D;split at D
 ·cases D
 ·split at D
  ·rename_i E h
   have:=((Vx _ _ _).1 D).1;omega
  ·cases D
def Fn:Dfa:=⟨[],[],[]⟩
theorem Hi (w:Λ):IsD w zD Fn:=⟨Β Γ 0 0,Β Γ 0 0,Β Γ 0 0,rfl,Sl.nil _ _ _,⟨[],rfl,Sl.nil _ _ _,λi hi=>by simp[Fn] at hi⟩,Sl.nil _ _ _⟩
def dOf (r:Option Dfa):Dfa:=r.getD Fn
def kOf (r:Option Dfa):Nat:=if r.isSome then 0 else 2
theorem T6 {W:Λ} {e:Ending} {r:Option Dfa} (h:ResOf W e r):∃ v,e=θ (ϙ #[v,.int ε (kOf r:Nat)])/\IsD W v (dOf r):=by
 cases r with
 | none=>exact⟨zD,h,Hi W⟩
 | some d=>exact h
end Go.Proofs.YtaiogolidlamiaaGreatDoor
