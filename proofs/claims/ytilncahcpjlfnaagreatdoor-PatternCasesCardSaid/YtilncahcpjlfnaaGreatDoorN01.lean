import GoSem.Core.Value
import Derived.WalkKit
import Derived.Laws.BitsAllLaws
import Derived.Deep.Quiet
import Derived.Lib.Hide
import Derived.Test.YtilncahcpjlfnaaGreatDoorProg
import Derived.Outline
import Derived.BigRegion
import Derived.Deep.DeepCutAuto
import Derived.Shelf.Abstract
import Derived.Deep.RegionWith
import Derived.Deep.CutBlock
import Derived.Deep.QuietTactic
import Derived.StillTail
import Derived.Maps.AppendAt
import Derived.Laws.StructEq
import Derived.ChangeKeysEq
import Derived.Deep.AppendLies
import Derived.Deep.MidRow
import Derived.Lib.TrailingZeros
import Derived.RangeFuncNested
import Derived.RangeFuncBound
import Derived.RangeFuncCalls
import Derived.RangeFuncLeaves
import Derived.RangeFuncBox
import Derived.OwnWalkIn
import Derived.TacticsInMore
import Derived.LoopNIn
import Derived.LoopIn
set_option linter.unusedVariables false
set_option linter.unusedSimpArgs false
set_option maxRecDepth 100000
open Array renaming getElem?_eq_some_iff → Ϙ, getElem?_toList → Ϲ
open BitVec renaming getLsbD_and → ú, getLsbD_zero → ï
open Bool renaming true → Α, false → Ε, true_and → Ð, eq_iff_iff → ϴ, and_eq_true → ς, false_eq_true → Í, or_eq_true → Ô
open Classical renaming byContradiction → Å
open Go renaming Program → Ö, Oper → Ϭ, Act → ë, World → Γ, TypeId → ϫ, Operand → á, Value → Δ, wpList_store_row → ã, cell_of_row → Τ, heap_alloc_new → Ã, Calls → Ϟ, frozen_of_row → Â, setCell_eq_setRow → ϧ, setRow_heap → Φ, bodyPost_ret → ω, results_cell_row → Æ, mem_ready → ý, getD_replicate_false → ϛ
open Go.Ending renaming returned → Ω
open Go.IntKind renaming u64 → γ, u64 → ϩ, i64 → Χ, i64 → å
open Go.Lib renaming hid → Z
open Go.Obj renaming cells → Β
open Go.Operand renaming tmp → ε
open Go.Proofs.Tryz renaming prog → Ι, underlying91 → ϋ
open Go.Region renaming ready → Ϯ
open Go.Value renaming pointer → η, slice → U
open Go.World renaming size_alloc → Ο
open List renaming mem_cons → ù, not_mem_nil → è, mem_map → Ϫ, length_map → ι, map_cons → ÿ, getD_eq_getElem?_getD → Ζ, getElem?_eq_getElem → Θ, foldl_append → ô, length_cons → ϒ, length_append → Ν, mem_append → Ä, mem_singleton → ϖ, mem_cons_self → É, append_assoc → ê, getElem?_append_left → ϊ, getElem?_append_right → χ, range → π, length_set → ο, getElem?_eq_none → û, pairwise_iff_getElem → Ϧ, getElem_mem → ϯ, mem_range → ώ, length_nil → à, nil_append → Ú
open Nat renaming zero_add → Ϣ, le_refl → Υ
open Option renaming some → I, none → J
open UInt8 renaming ofNat → ϔ
namespace Go.Proofs.YtilncahcpjlfnaaGreatDoor
theorem _root_.Go.RowKit.Hid.o {p:Prop} (h:Go.RowKit.Hid p):p:=h.out
theorem Xq {α:Sort _} (e:α):∃ x,e=x:=⟨e,rfl⟩
theorem Lr {P:Ö} {ops:Array Ϭ} {rest:List Ϭ} {o:Ϭ} {a:ë} {w:Γ} {Q:Exit -> ë -> Γ -> Prop} (ty:ϫ) (x:á) {g:Nat} {t:ϫ} {cs:Array Δ} {fr:Nat × Nat} {d:TypeDesc} (hg:w.heap[g]? = I (Β cs t fr)) (hu:P.underlying ty = I d) (hi:(P.info? ty).map (·.size) = I cs.size) (h:wpList P ops Q rest (a.put o.dst (.agg cs)) w) (E:o.guard = J := by exact rfl) (G:o.op = .load ty x := by exact rfl) (hx:a.eval x = η (I ⟨g,0,J⟩) := by exact rfl) (hd:(match d with | .struct _ | .array _ _ => Α | _ => Ε) = Α := by exact rfl):wpList P ops Q (o :: rest) a w:=wpList_load_row E ty x G g hx t cs fr d hg hu hd hi h
theorem Sr {P:Ö} {ops:Array Ϭ} {rest:List Ϭ} {o:Ϭ} {a:ë} {w:Γ} {Q:Exit -> ë -> Γ -> Prop} (ty:ϫ) (x y:á) {g:Nat} {cells:Array Δ} (G:a.eval y = .agg cells) {t:ϫ} {E:Array Δ} (hg:w.heap[g]? = I (Β E t (0,0))) (hi:(P.info? ty).map (·.size) = I cells.size) (H:E.size = cells.size) (h1:cells.all (·.oneCell') = Α) (h:wpList P ops Q rest (a.put o.dst undef) (w.setRow g cells)) (T:o.guard = J := by exact rfl) (X:o.op = .store ty x y := by exact rfl) (hx:a.eval x = η (I ⟨g,0,J⟩) := by exact rfl):wpList P ops Q (o :: rest) a w:=ã T ty x y X g cells hx G t E hg hi H h1 h
open Go.RowKit
abbrev Cls:=BitVec 256
def wn (c:Cls) (i:Nat):Nat:=c.toNat / 2 ^ (64*i) % 2 ^ 64
def wd (c:Cls) (i:Nat):Int:=(wn c i:Nat)
abbrev Ab (c:Cls):Array Δ:=#[.int γ (wd c 0),.int γ (wd c 1),.int γ (wd c 2),.int γ (wd c 3)]
def Fn (c:Cls) (b:Int):Bool:=c.getLsbD b.toNat
def Ax (c:Cls) (b:Int):Cls:=c ||| BitVec.twoPow 256 b.toNat
theorem Dy (c:Cls) (i:Nat):wn c i<18446744073709551616:=by unfold wn;omega
theorem Gs (c:Cls) (i:Nat):0<=wd c i/\wd c i<18446744073709551616:=by have:=Dy c i;unfold wd;omega
theorem Ij (c:Cls) (i:Nat) (h:i<4):(Ab c)[i]? = I (.int γ (wd c i)):=by
 match i,h with
 | 0,_=>rfl
 | 1,_=>rfl
 | 2,_=>rfl
 | 3,_=>rfl
theorem Cn (c:Cls) (i j:Nat):(wn c i).testBit j=(decide (j<64)&&c.getLsbD (64*i+j)):=by unfold wn;rw[Nat.testBit_mod_two_pow,<-Nat.shiftRight_eq_div_pow,Nat.testBit_shiftRight];rfl
theorem CO {c d:Cls} (h:∀ i,i<4->wn c i=wn d i):c=d:=by
 apply BitVec.eq_of_getLsbD_eq;intro k G;have h1:=Cn c (k / 64) (k % 64);have E:=Cn d (k / 64) (k % 64);rw[h (k / 64) (by omega)] at h1;have hm:k % 64<64:=Nat.mod_lt _ (by omega);have he:64*(k / 64)+k % 64=k:=by omega
 rw[he] at h1 E;simp only[hm,decide_true,Ð] at h1 E;exact h1.symm.trans E
theorem Mv (k:Nat) (h:k<64):2 ^ k<18446744073709551616:=by show 2 ^ k<2 ^ 64;exact Nat.pow_lt_pow_right (by omega) h
theorem Oh (k:Nat) (h:k<64):ϩ.wrap (2 ^ k)=((2 ^ k:Nat):Int):=by rw[IntKind.wrap_u64];have E:=Mv k h;rw[show ((2:Int) ^ k)=((2 ^ k:Nat):Int) by simp];generalize 2 ^ k=m at *;omega
theorem TV (c:Cls) (b:Int) (h0:0<=b) (h1:b<256) :
  (bits BinOp.and ϩ (wd c (b / 64).toNat) (ϩ.wrap (2 ^ (b % 64).toNat)) != 0)=Fn c b:=by
 obtain⟨n,rfl⟩:=Int.eq_ofNat_of_zero_le h0;have H:((n:Int) / 64).toNat=n / 64:=by omega
 have T:((n:Int) % 64).toNat=n % 64:=by omega
 have E:n % 64<64:=Nat.mod_lt _ (by omega);have X:=Mv _ E;rw[H,T,Oh _ E];unfold wd Fn;rw[u64_and_nat _ _ (Dy _ _) X];have G:=Cn c (n / 64) (n % 64);rw[show 64*(n / 64)+n % 64=n by omega,show decide (n % 64<64)=Α by simp;omega,Ð] at G;rw[show ((n:Int)).toNat=n from rfl,<-G];rw[nat_bit,Nat.testBit_eq_decide_div_mod_eq];have aa:0<2 ^ (n % 64):=Nat.pow_pos (by omega);generalize 2 ^ (n % 64)=m at *;rcases Nat.mod_two_eq_zero_or_one (wn c (n / 64) / m) with h|h
 ·simp[h]
 rw[h,ϴ];simp;omega
theorem Ss (c:Cls) (n i:Nat) (hi:i<4) (G:n<256) :
  wn (Ax c (n:Int)) i=if i=n / 64 then wn c i ||| 2 ^ (n % 64) else wn c i:=by
 apply Nat.eq_of_testBit_eq;intro j;rw[Cn];unfold Ax;rw[show ((n:Int)).toNat=n from rfl,BitVec.getLsbD_or,BitVec.getLsbD_twoPow];split
 ·rename_i e;subst e
  rw[Nat.testBit_or,Cn,Nat.testBit_two_pow];by_cases E:j<64
  ·simp only[E,decide_true,Ð]
   congr 1
   rw[ϴ];simp;omega
  simp only[E,decide_false,Bool.false_and,Bool.false_or];simp;omega
 rename_i e
 rw[Cn];by_cases E:j<64
 ·simp only[E,decide_true,Ð];have:(decide (n<256)&&decide (n=64*i+j))=Ε:=by simp;omega
  rw[this,Bool.or_false]
 simp[E]
theorem N7 (c:Cls) (b:Int) (h0:0<=b) (h1:b<256) :
  bits BinOp.or ϩ (wd c (b / 64).toNat) (ϩ.wrap (2 ^ (b % 64).toNat))=wd (Ax c b) (b / 64).toNat:=by
 obtain⟨n,rfl⟩:=Int.eq_ofNat_of_zero_le h0;have G:((n:Int) / 64).toNat=n / 64:=by omega
 have H:((n:Int) % 64).toNat=n % 64:=by omega
 have E:n % 64<64:=Nat.mod_lt _ (by omega);have T:=Mv _ E;rw[G,H,Oh _ E];unfold wd;rw[u64_or_nat _ _ (Dy _ _) T,Ss c n _ (by omega) (by omega),if_pos rfl]
theorem BK (c:Cls) (b:Int) (h0:0<=b) (h1:b<256) :
  (Ab c).setIfInBounds (b / 64).toNat (.int γ (wd (Ax c b) (b / 64).toNat))=Ab (Ax c b):=by
 obtain⟨n,rfl⟩:=Int.eq_ofNat_of_zero_le h0;have G:((n:Int) / 64).toNat=n / 64:=by omega
 rw[G];have E:∀ i,i<4->i≠n / 64->wd (Ax c (n:Int)) i=wd c i:=λi hi H=>by unfold wd;rw[Ss c n i hi (by omega),if_neg H]
 have T:n / 64<4:=by omega
 generalize X:n / 64=k at *
 match k,T with
 | 0,_=>simp[Ab,E 1 (by omega) (by omega),E 2 (by omega) (by omega),E 3 (by omega) (by omega)]
 | 1,_=>simp[Ab,E 0 (by omega) (by omega),E 2 (by omega) (by omega),E 3 (by omega) (by omega)]
 | 2,_=>simp[Ab,E 0 (by omega) (by omega),E 1 (by omega) (by omega),E 3 (by omega) (by omega)]
 | 3,_=>simp[Ab,E 0 (by omega) (by omega),E 1 (by omega) (by omega),E 2 (by omega) (by omega)]
theorem Kb (i:Nat):wd 0#256 i=0:=by unfold wd wn;simp
theorem JA (a b:Cls) (i:Nat) (_hi:i<4):bits BinOp.or ϩ (wd a i) (wd b i)=wd (a ||| b) i:=by
 unfold wd;rw[u64_or_nat _ _ (Dy _ _) (Dy _ _)]
 congr 1
 apply Nat.eq_of_testBit_eq;intro j;rw[Nat.testBit_or,Cn,Cn,Cn,BitVec.getLsbD_or];cases decide (j<64)<;>rfl
theorem VZ (a b:Cls) (i:Nat) (_hi:i<4):bits BinOp.and ϩ (wd a i) (wd b i)=wd (a &&& b) i:=by
 unfold wd;rw[u64_and_nat _ _ (Dy _ _) (Dy _ _)]
 congr 1
 apply Nat.eq_of_testBit_eq;intro j;rw[Nat.testBit_and,Cn,Cn,Cn,ú];cases decide (j<64)<;>simp
theorem V3 (x j:Nat) (hx:x<18446744073709551616):(18446744073709551615-x).testBit j=(decide (j<64)&&!x.testBit j):=by
 have:=Nat.testBit_two_pow_sub_succ (x:=x) (n:=64) hx j
 rwa [show (2 ^ 64-(x+1):Nat)=18446744073709551615-x by omega] at this
theorem V2 (a:Cls) (i:Nat) (hi:i<4):18446744073709551615-wn a i=wn (~~~a) i:=by
 apply Nat.eq_of_testBit_eq;intro j;rw[V3 _ _ (Dy _ _),Cn,Cn,BitVec.getLsbD_not];by_cases E:j<64
 ·simp only[E,decide_true,Ð];rw[show decide (64*i+j<256)=Α by simp;omega,Ð]
 simp[E]
theorem LB (a b:Cls) (i:Nat) (hi:i<4):bits BinOp.andNot ϩ (wd a i) (wd b i)=wd (a &&& ~~~b) i:=by
 unfold wd;rw[u64_andNot_nat _ _ (Dy _ _) (Dy _ _),V2 b i hi]
 congr 1
 apply Nat.eq_of_testBit_eq;intro j;rw[Nat.testBit_and,Cn,Cn,Cn,ú];cases decide (j<64)<;>simp
theorem JV (a:Cls) (i:Nat) (hi:i<4):bits BinOp.xor ϩ ϩ.max (wd a i)=wd (~~~a) i:=by
 unfold wd;rw[show ϩ.max=((18446744073709551615:Nat):Int) from rfl,u64_xor_nat _ _ (by omega) (Dy _ _)]
 congr 1
 rw[<-V2 a i hi];apply Nat.eq_of_testBit_eq;intro j;rw[Nat.testBit_xor,V3 _ _ (Dy _ _),show (18446744073709551615:Nat)=2 ^ 64-1 by omega,Nat.testBit_two_pow_sub_one,Cn];cases decide (j<64)<;>simp
theorem Jk (c:Cls) (n b:Nat) (E:n<256):(Ax c (n:Int)).getLsbD b=(c.getLsbD b||decide (b=n)):=by
 unfold Ax;rw[show ((n:Int)).toNat=n from rfl,BitVec.getLsbD_or,BitVec.getLsbD_twoPow]
 congr 1
 rw[ϴ];simp;omega
def Au (c:Cls):Nat->List UInt8
 | 0=>[]
 | k+1=>if c.getLsbD k then Au c k++[ϔ k] else Au c k
theorem Rz (c:Cls) (k:Nat):(Au c k).length<=k:=by
 induction k with
 | zero=>simp[Au]
 | succ k E=>
  unfold Au;split
  ·simp;omega
  omega
theorem Iq (k q p q' E:Nat) (H:p<2 ^ k) (G:E<2 ^ k):(2 ^ k*q+p) &&& (2 ^ k*q'+E)=2 ^ k*(q &&& q')+(p &&& E):=by have T:p &&& E<2 ^ k:=Nat.and_lt_two_pow _ G;apply Nat.eq_of_testBit_eq;intro j;rw[Nat.testBit_and,Nat.testBit_two_pow_mul_add _ H,Nat.testBit_two_pow_mul_add _ G,Nat.testBit_two_pow_mul_add _ T];split<;>simp[Nat.testBit_and]
def ofD:List Nat->Nat
 | []=>0
 | d::l=>256*ofD l+d
def mk (c n:Nat):Nat:=ofD (List.replicate n c)
def b1 (d:Nat):Nat:=(d / 2 &&& 85)+(d &&& 85)
def b2 (d:Nat):Nat:=(d / 4 &&& 51)+(d &&& 51)
def b3 (d:Nat):Nat:=(d / 16+d) &&& 15
def nib (d:Nat):Bool:=d % 16<=4&&d / 16<=4
theorem t1:∀ d,d<256->∀ t,t<2->((128*t+d / 2) &&& 85)+(d &&& 85)=b1 d/\b1 d<256:=by decide +kernel
theorem t2:∀ d,d<256->∀ t,t<4->((64*t+d / 4) &&& 51)+(d &&& 51)=b2 d/\b2 d<256:=by decide +kernel
theorem t3:∀ d,d<256->nib d=Α->∀ t,t<5->(16*t+d / 16+d) &&& 15=b3 d/\16*t+d / 16+d<256/\b3 d<16:=by decide +kernel
theorem t4:∀ d,d<256->nib (b2 (b1 d))=Α:=by decide +kernel
theorem GE (l:List Nat) (h:∀ d∈l,d<256):(ofD l / 2 &&& mk 85 l.length)+(ofD l &&& mk 85 l.length)=ofD (l.map b1):=by
 induction l with
 | nil=>rfl
 | cons d l E=>
  have E:=E (λx hx=>h x (by simp[hx]));have hd:=h d (by simp);have G:ofD (d::l) / 2=2 ^ 8*(ofD l / 2)+(128*(ofD l % 2)+d / 2):=by simp only[ofD];omega
  have H:ofD (d::l)=2 ^ 8*ofD l+d:=rfl;have T:mk 85 (d::l).length=2 ^ 8*mk 85 l.length+85:=rfl;rw[G,H,T,Iq 8 _ _ _ _ (by omega) (by omega),Iq 8 _ _ _ _ (by omega) (by omega)];have h1:=(t1 d hd (ofD l % 2) (by omega)).1;show _=256*ofD (l.map b1)+b1 d;omega
theorem GD (l:List Nat) (h:∀ d∈l,d<256):(ofD l / 4 &&& mk 51 l.length)+(ofD l &&& mk 51 l.length)=ofD (l.map b2):=by
 induction l with
 | nil=>rfl
 | cons d l E=>
  have E:=E (λx hx=>h x (by simp[hx]));have hd:=h d (by simp);have G:ofD (d::l) / 4=2 ^ 8*(ofD l / 4)+(64*(ofD l % 4)+d / 4):=by simp only[ofD];omega
  have H:ofD (d::l)=2 ^ 8*ofD l+d:=rfl;have T:mk 51 (d::l).length=2 ^ 8*mk 51 l.length+51:=rfl;rw[G,H,T,Iq 8 _ _ _ _ (by omega) (by omega),Iq 8 _ _ _ _ (by omega) (by omega)];have h1:=(t2 d hd (ofD l % 4) (by omega)).1;show _=256*ofD (l.map b2)+b2 d;omega
theorem MI (l:List Nat) (h:∀ d∈l,d<256/\nib d=Α):ofD l % 16<5:=by
 cases l with
 | nil=>simp[ofD]
 | cons d l=>have:=(h d (by simp)).2;simp only[nib,ς,decide_eq_true_eq] at this;simp only[ofD];omega
theorem GC (l:List Nat) (h:∀ d∈l,d<256/\nib d=Α):(ofD l / 16+ofD l) &&& mk 15 l.length=ofD (l.map b3):=by
 induction l with
 | nil=>rfl
 | cons d l E=>
  have G:∀ d∈l,d<256/\nib d=Α:=λx hx=>h x (by simp[hx])
  have E:=E G;have hd:=h d (by simp);have h1:=t3 d hd.1 hd.2 (ofD l % 16) (MI l G);have H:ofD (d::l) / 16+ofD (d::l)=2 ^ 8*(ofD l / 16+ofD l)+(16*(ofD l % 16)+d / 16+d):=by simp only[ofD];omega
  have T:mk 15 (d::l).length=2 ^ 8*mk 15 l.length+15:=rfl;rw[H,T,Iq 8 _ _ _ _ (by omega) (by omega)];show _=256*ofD (l.map b3)+b3 d;omega
def cnt (p:Nat->Bool):Nat->Nat
 | 0=>0
 | n+1=>cnt p n+(if p n then 1 else 0)
theorem Ro (p q:Nat->Bool) (n:Nat) (h:∀ k,k<n->p k=q k):cnt p n=cnt q n:=by
 induction n with
 | zero=>rfl
 | succ n E=>simp only[cnt];rw[E (λk G=>h k (by omega)),h n (by omega)]
theorem Zj (p:Nat->Bool) (m n:Nat):cnt p (m+n)=cnt p m+cnt (λk=>p (m+k)) n:=by
 induction n with
 | zero=>rfl
 | succ n E=>rw[<-Nat.add_assoc];simp only[cnt];rw[E];omega
theorem IH:∀ d,d<256->b3 (b2 (b1 d))=cnt d.testBit 8:=by decide +kernel
theorem Dm (p:Nat->Bool) (n:Nat):cnt p n<=n:=by
 induction n with
 | zero=>simp[cnt]
 | succ n E=>simp only[cnt];split<;>omega
theorem SY (l:List Nat) (h:∀ d∈l,d<256):cnt (ofD l).testBit (8*l.length)=(l.map λd=>cnt d.testBit 8).sum:=by
 induction l with
 | nil=>rfl
 | cons d l E=>
  have E:=E (λx hx=>h x (by simp[hx]));have hd:d<2 ^ 8:=h d (by simp);rw[show 8*(d::l).length=8+8*l.length by simp;omega,Zj];have G:ofD (d::l)=2 ^ 8*ofD l+d:=rfl;have h1:cnt (ofD (d::l)).testBit 8=cnt d.testBit 8:=Ro _ _ _ λk H=>by rw[G,Nat.testBit_two_pow_mul_add _ hd,if_pos H]
  have T:cnt (λk=>(ofD (d::l)).testBit (8+k)) (8*l.length)=cnt (ofD l).testBit (8*l.length):=Ro _ _ _ λk H=>by rw[G,Nat.testBit_two_pow_mul_add _ hd,if_neg (by omega)];congr 1;omega
  rw[h1,T,E];simp
theorem SB (x:Nat) (h:x<18446744073709551616):x=ofD [x % 256,x / 256 % 256,x / 65536 % 256,x / 16777216 % 256,x / 4294967296 % 256,x / 1099511627776 % 256,x / 281474976710656 % 256,x / 72057594037927936 % 256]:=by simp only[ofD];omega
def st1 (x:Nat):Nat:=(x / 2 &&& 6148914691236517205)+(x &&& 6148914691236517205)
def st2 (x:Nat):Nat:=(x / 4 &&& 3689348814741910323)+(x &&& 3689348814741910323)
def st3 (x:Nat):Nat:=(x / 16+x) &&& 1085102592571150095
def st4 (x:Nat):Nat:=x+x / 256
def st5 (x:Nat):Nat:=x+x / 65536
def st6 (x:Nat):Nat:=x+x / 4294967296
theorem DX (a b c d e f g h:Nat) (X:a<=8) (hb:b<=8) (hc:c<=8) (hd:d<=8) (he:e<=8) (hf:f<=8) (hg:g<=8) (hh:h<=8) :
  st6 (st5 (st4 (ofD [a,b,c,d,e,f,g,h]))) % 128=a+b+c+d+e+f+g+h:=by
 have E:∀ (a:Nat) (l:List Nat),a<256->ofD (a::l) / 256=ofD l:=λa l h=>by simp only[ofD];omega
 have G:st4 (ofD [a,b,c,d,e,f,g,h])=ofD [a+b,b+c,c+d,d+e,e+f,f+g,g+h,h]:=by unfold st4;rw[E a _ (by omega)];simp only[ofD];omega
 have H:st5 (ofD [a+b,b+c,c+d,d+e,e+f,f+g,g+h,h])=ofD [a+b+c+d,b+c+d+e,c+d+e+f,d+e+f+g,e+f+g+h,f+g+h,g+h,h]:=by unfold st5;rw[show (65536:Nat)=256*256 from rfl,<-Nat.div_div_eq_div_mul,E _ _ (by omega),E _ _ (by omega)];simp only[ofD];omega
 have T:st6 (ofD [a+b+c+d,b+c+d+e,c+d+e+f,d+e+f+g,e+f+g+h,f+g+h,g+h,h])=ofD [a+b+c+d+e+f+g+h,b+c+d+e+f+g+h,c+d+e+f+g+h,d+e+f+g+h,e+f+g+h,f+g+h,g+h,h]:=by unfold st6;rw[show (4294967296:Nat)=256*256*256*256 from rfl,<-Nat.div_div_eq_div_mul,<-Nat.div_div_eq_div_mul,<-Nat.div_div_eq_div_mul,E _ _ (by omega),E _ _ (by omega),E _ _ (by omega),E _ _ (by omega)];simp only[ofD];omega
 rw[G,H,T];have:∀ (s:Nat) (l:List Nat),ofD (s::l) % 128=s % 128:=λs l=>by simp only[ofD];omega
 rw[this];omega
theorem EM (x:Nat) (h:x<18446744073709551616) :
  st1 x<18446744073709551616/\st2 (st1 x)<=4919131752989213764/\st3 (st2 (st1 x))<=578721382704613384/\st6 (st5 (st4 (st3 (st2 (st1 x))))) % 128=cnt x.testBit 64:=by
 have hx:=SB x h;generalize H:[x % 256,x / 256 % 256,x / 65536 % 256,x / 16777216 % 256,x / 4294967296 % 256,x / 1099511627776 % 256,x / 281474976710656 % 256,x / 72057594037927936 % 256]=l at hx;have E:l.length=8:=by rw[<-H];rfl
 have hb:∀ d∈l,d<256:=by
  rw[<-H];intro d hd
  simp only[ù,è,or_false] at hd;omega
 have T:st1 x=ofD (l.map b1):=by rw[hx,<-GE l hb,E];rfl
 have X:∀ d∈l.map b1,d<256:=by intro d hd;obtain⟨d0,h0,rfl⟩:=Ϫ.1 hd;exact (t1 d0 (hb d0 h0) 0 (by omega)).2
 have e2:st2 (st1 x)=ofD ((l.map b1).map b2):=by rw[T,<-GD _ X,ι,E];rfl
 have ab:∀ d∈(l.map b1).map b2,d<256/\nib d=Α:=by intro d hd;obtain⟨d0,h0,rfl⟩:=Ϫ.1 hd;obtain⟨d1,h1,rfl⟩:=Ϫ.1 h0;exact⟨(t2 _ (t1 d1 (hb d1 h1) 0 (by omega)).2 0 (by omega)).2,t4 d1 (hb d1 h1)⟩
 have G:st3 (st2 (st1 x))=ofD (((l.map b1).map b2).map b3):=by rw[e2,<-GC _ ab,ι,ι,E];rfl
 have e4:((l.map b1).map b2).map b3=l.map λd=>cnt d.testBit 8:=by rw[List.map_map,List.map_map];apply List.map_congr_left;intro d hd;exact IH d (hb d hd)
 have e5:=SY l hb;rw[E,<-hx] at e5;rw[e4] at G;have af:∀ (m:List Nat),m.length=8->(∀ d∈m,d<256)->ofD m<18446744073709551616:=by
  intro m hm hd
  match m,hm with
  | [a,b,c,d,e,f,g,i],_=>simp only[ù,è,or_false,forall_eq_or_imp,forall_eq] at hd;simp only[ofD];omega
 have ag:∀ (m:List Nat),m.length=8->(∀ d∈m,d<256/\nib d=Α)->ofD m<=4919131752989213764:=by
  intro m hm hd;have ah:∀ d∈m,d<=68:=λd h=>by have:=(hd d h).2;simp only[nib,ς,decide_eq_true_eq] at this;omega
  match m,hm with
  | [a,b,c,d,e,f,g,i],_=>simp only[ù,è,or_false,forall_eq_or_imp,forall_eq] at ah;simp only[ofD];omega
 refine⟨by rw[T];exact af _ (by simp[E]) X,by rw[e2];exact ag _ (by simp[E]) ab,?_,?_⟩
 ·rw[G]
  match l,E with
  | [a,b,c,d,e,f,g,i],_=>
   simp only[ÿ,List.map_nil,ofD];have:=Dm a.testBit 8;have:=Dm b.testBit 8;have:=Dm c.testBit 8;have:=Dm d.testBit 8
   have:=Dm e.testBit 8;have:=Dm f.testBit 8;have:=Dm g.testBit 8;have:=Dm i.testBit 8
   omega
 rw[G,e5]
 match l,E with
 | [a,b,c,d,e,f,g,i],_=>rw[ÿ,ÿ,ÿ,ÿ,ÿ,ÿ,ÿ,ÿ,List.map_nil];rw[DX _ _ _ _ _ _ _ _ (Dm _ _) (Dm _ _) (Dm _ _) (Dm _ _) (Dm _ _) (Dm _ _) (Dm _ _) (Dm _ _)];simp only[List.sum_cons,List.sum_nil];omega
structure Ext (w W:Γ):Prop where
 below:Below w.heap.size w W
theorem Κ (w:Γ):Ext w w:=⟨Below.refl _ _⟩
theorem Ext.trans {a b c:Γ} (h:Ext a b) (k:Ext b c):Ext a c:=
 ⟨h.below.trans (k.below.mono h.below.size)⟩
theorem Ext.t {a b c:Γ} (h:Ext a b) (k:Ext b c):Ext a c:=h.trans k
theorem Ext.alloc {a b:Γ} (h:Ext a b) (o:Obj):Ext a (b.alloc o):=⟨h.below.alloc h.below.size o⟩
theorem Ext.drew {a b:Γ} (h:Ext a b):Ext a b.drew:=⟨h.below.drew⟩
theorem Ext.drawn1 {a b:Γ} (h:Ext a b):Ext a { b with drawn:=b.drawn+1 }:=h.drew
theorem Ext.setCell {a b:Γ} (h:Ext a b) {p:Addr} (E:a.heap.size<=p.block) (v:Δ):Ext a (b.setCell p v):=⟨h.below.setCell E v⟩
theorem Ca (w:Γ) (g:Nat) (cs:Array Δ):w.grownBy (w.setRow g cs) (I g):=
 ⟨rfl,rfl,rfl,by simp,λk _ E=>setRow_other w g k cs (λe=>E (by rw[e]))⟩
theorem Ext.setRow {a b:Γ} (h:Ext a b) {g:Nat} (hg:a.heap.size<=g) (cs:Array Δ):Ext a (b.setRow g cs):=
 ⟨h.below.grown (Ca b g cs) h.below.size (λk e=>by cases e;exact hg)⟩
theorem Ext.grown {a b c:Γ} {row:Option Nat} (h:Ext a b) (hg:b.grownBy c row) (E:∀ k,row=I k->a.heap.size<=k):Ext a c:=⟨h.below.grown hg h.below.size E⟩
theorem Ext.size {a b:Γ} (h:Ext a b):a.heap.size<=b.heap.size:=h.below.size
theorem Ext.block {a b:Γ} (h:Ext a b) {k:Nat} (E:k<a.heap.size):b.heap[k]? = a.heap[k]? := h.below.block k E
theorem Ext.heap {a b:Γ} (h:Ext a b) {k:Nat} {o:Obj} (E:a.heap[k]? = I o):b.heap[k]? = I o:=
 (h.block (Ϙ.1 E).1).trans E
theorem Ext.cell {a b:Γ} (h:Ext a b) {p:Addr} {v:Δ} (hc:a.cell? p=I v):b.cell? p=I v:=
 (h.below.cell (Γ.block_lt_of_cell? a p hc)).trans hc
theorem Ag {w:Γ} {k:Nat} {o:Obj} (h:w.heap[k]? = I o) (x:Obj):(w.alloc x).heap[k]? = I o:=
 (Below.heap_alloc w x k (Ϙ.1 h).1).trans h
theorem Bk {w:Γ} {k:Nat} {o:Obj} (h:w.heap[k]? = I o) {g:Nat} (E:k≠g) (cs:Array Δ):(w.setRow g cs).heap[k]? = I o:=
 (setRow_other w g k cs E).trans h
theorem Al {w:Γ} {k:Nat} {o:Obj} (h:w.heap[k]? = I o):k<w.heap.size:=(Ϙ.1 h).1
def Sl (W:Γ) (v:Δ) (k n:Nat) (f:Nat->Δ):Prop:=
 n<=4611686018427387904/\((n=0/\∃ a E,v=U a 0 E)\/(0<n/\∃ b G E,v=U (I ⟨b,G,J⟩) n E/\b<W.heap.size/\∀ i,i<n*k->W.cell? ⟨b,G+i,J⟩=I (f i)))
theorem Sl.ext {W W':Γ} {v:Δ} {k n:Nat} {f:Nat->Δ} (h:Sl W v k n f) (E:Ext W W'):Sl W' v k n f:=by
 obtain⟨h0,h|⟨G,b,H,T,X,hb,hc⟩⟩:=h
 ·exact⟨h0,.inl h⟩
 exact⟨h0,.inr ⟨G,b,H,T,X,Nat.lt_of_lt_of_le hb E.size,λi hi=>E.cell (hc i hi)⟩⟩
theorem Sl.congr {W:Γ} {v:Δ} {k n:Nat} {f g:Nat->Δ} (h:Sl W v k n f) (E:∀ i,i<n*k->f i=g i):Sl W v k n g:=by
 obtain⟨h0,h|⟨G,b,H,T,X,hb,hc⟩⟩:=h
 ·exact⟨h0,.inl h⟩
 exact⟨h0,.inr ⟨G,b,H,T,X,hb,λi hi=>by rw[hc i hi,E i hi]⟩⟩
theorem Sl.nil (W:Γ) (k:Nat) (f:Nat->Δ):Sl W (U J 0 0) k 0 f:=⟨by omega,.inl ⟨rfl,_,_,rfl⟩⟩
abbrev bv (x:UInt8):Δ:=.int .u8 (x.toNat:Int)
def By (W:Γ) (v:Δ) (l:List UInt8):Prop:=Sl W v 1 l.length (λi=>bv (l.getD i 0))
theorem Ext.grownBy {a b:Γ} (h:Ext a b) (row:Option Nat):a.grownBy b row:=⟨h.below.os,h.below.tape,h.below.output,h.size,λ_ E _=>h.block E⟩
theorem Aa {a b:Γ} {base:Nat} {e:ϫ} {size:Nat} {v:Δ} {n:Nat} {xs:List Δ} (h:a.ownsRow base e size v n xs) (E:Ext a b):b.ownsRow base e size v n xs:=
 h.kept (E.grownBy J) (by cases v.ownBlock<;>simp)
theorem Sl.of_owns {w:Γ} {base:Nat} {e:ϫ} {k:Nat} {v:Δ} {n:Nat} {xs:List Δ} (h:w.ownsRow base e k v n xs) (G:n<=4611686018427387904) (d:Δ):Sl w v k n (λi=>xs.getD i d):=by
 refine⟨G,?_⟩;obtain⟨X,⟨rfl,rfl⟩|⟨g,H,cur,rfl,hb,hg,aa,ab,ad,T⟩⟩:=h
 ·exact .inl ⟨rfl,_,_,rfl⟩
 by_cases h0:n=0
 ·subst h0;exact .inl ⟨rfl,_,_,rfl⟩
 refine .inr ⟨by omega,g,0,H,rfl,Al hg,λi hi=>?_⟩;rw[Ϣ,Τ w g i cur e (0,0) hg];have h1:xs[i]? = cur.toList[i]? := by rw[<-T,List.getElem?_take,if_pos hi]
 have E:i<xs.length:=by omega
 show cur[i]? = I (xs.getD i d);rw[Ζ,Θ E,Option.getD_some,<-Ϲ,<-h1,Θ E]
theorem By.of_owns {w:Γ} {base:Nat} {v:Δ} {l:List UInt8} (h:w.ownsRow base 5 1 v l.length (l.map bv)) (E:l.length<=4611686018427387904):By w v l:=
 (Sl.of_owns h E (bv 0)).congr λi hi=>by simp only[Ζ,List.getElem?_map];cases l[i]?<;>rfl
theorem By.ext {W W':Γ} {v:Δ} {l:List UInt8} (h:By W v l) (E:Ext W W'):By W' v l:=Sl.ext h E
theorem By.len {W:Γ} {v:Δ} {l:List UInt8} (h:By W v l):∃ a E,v=U a l.length E:=by
 obtain⟨_,⟨G,a,E,rfl⟩|⟨_,b,H,E,rfl,_⟩⟩:=h
 ·exact⟨a,E,by rw[G]⟩
 exact⟨_,E,rfl⟩
theorem Pd {a b:Bool} (h:a=b):Ending.returned (.bool a)=Ω (.bool b):=by rw[h]
theorem GJ {k:IntKind} {a b:Int} (h:a=b):Ending.returned (.int k a)=Ω (.int k b):=by rw[h]
theorem TI (w:Γ) (cs:Array Δ) (t:ϫ) (i:Nat) (v:Δ) (h:cs[i]? = I v):(w.alloc (Β cs t)).cell? ⟨w.heap.size,i,J⟩=I v:=
 (Τ _ _ i cs t (0,0) (Ã w _)).trans h
theorem Yc (c:Cls) (b:Int) (E:0<=b) (hb:b<256) (w:Γ) :
  Ϟ Ι 97 #[.agg (Ab c),.int .u8 b] w λe w'=>e=Ω (.bool (Fn c b))/\Ext w w':=by
 have hc:=TI w (Ab c) 91 (b / 64).toNat _ (Ij c _ (by omega));have ⟨h1,G⟩:=Gs c (b / 64).toNat;go_enter Tryz.func97,Tryz.ntmps97;go_wp2;go_ret;exact⟨Pd (TV c b E hb),(Κ w).alloc _⟩
theorem Bg:(Ι.info? 91).map (·.size)=I 4:=by kernel_rfl
theorem Ej (c:Cls):(Ab c).all (·.oneCell')=Α:=by simp[Δ.oneCell']
open Go.RowKit Go.Shelf
def Em (g:Nat->Int) (i:Nat):Array Δ:=
 #[.int γ (if 0<i then g 0 else 0),.int γ (if 1<i then g 1 else 0),.int γ (if 2<i then g 2 else 0),.int γ (if 3<i then g 3 else 0)]
theorem CX (g:Nat->Int) (i:Nat) (h:i<4):(Em g i).setIfInBounds i (.int γ (g i))=Em g (i+1):=by
 match i,h with
 | 0,_=>rfl
 | 1,_=>rfl
 | 2,_=>rfl
 | 3,_=>rfl
theorem CY (g:Nat->Int) (i j:Nat) (h:j<4):(Em g i)[j]? = I (.int γ (if j<i then g j else 0)):=by
 match j,h with
 | 0,_=>rfl
 | 1,_=>rfl
 | 2,_=>rfl
 | 3,_=>rfl
def L6 (g:Nat) (F:Int->Int->Int):Prop:=
 ∀ (x y:Int) (w:Γ),0<=x->x<18446744073709551616->0<=y->y<18446744073709551616->Ϟ Ι g #[.int γ x,.int γ y] w λe w'=>e=Ω (.int γ (F x y))/\w'=w
theorem Nr (g:Nat) (F:Int->Int->Int) (hg:L6 g F) (eg:∀ args w,(callFunc g args).run Ι w=.ok (.enter g args) w) (a b c:Cls) (hc:∀ i,i<4->F (wd a i) (wd b i)=wd c i) (w:Γ) :
  Ϟ Ι 85 #[.agg (Ab a),.agg (Ab b),.func (.func g) #[] #[]] w λe w'=>e=Ω (.agg (Ab c))/\Ext w w':=by
 go_enter Tryz.func85,Tryz.ntmps85;go_wp2_with (fail);have hz:(#[.int γ 0,.int γ 0,.int γ 0,.int γ 0]:Array Δ)=Em (wd c) 0:=rfl;go_loopw [9] (λi W=>∃ k:Nat,k<=4/\i=.int Χ k/\Ext w W/\W.heap[w.heap.size]? = I (Β (Ab a) 91 (0,0))/\W.heap[w.heap.size+1]? = I (Β (Ab b) 91 (0,0))/\W.heap[w.heap.size+1+1]? = I (Β (Em (wd c) 0) 91 (0,0))/\W.heap[w.heap.size+1+1+1]? = I (Β (Em (wd c) k) 91 (0,0)))
  (λi _=>4-(intOf i).toNat)
 case atStart=>
  refine⟨0,by omega,rfl,((((Κ w).alloc _).alloc _).alloc _).alloc _,?_,?_,?_,?_⟩
  ·exact Ag (Ag (Ag (Ã w _) _) _) _
  ·have h:=Ag (Ag (Ã (w.alloc (Β (Ab a) 91)) (Β (Ab b) 91)) (Β (Em (wd c) 0) 91)) (Β (Em (wd c) 0) 91)
   rwa [Ο] at h
  ·have h:=Ag (Ã ((w.alloc (Β (Ab a) 91)).alloc (Β (Ab b) 91)) (Β (Em (wd c) 0) 91)) (Β (Em (wd c) 0) 91)
   rwa [Ο,Ο] at h
  have h:=Ã (((w.alloc (Β (Ab a) 91)).alloc (Β (Ab b) 91)).alloc (Β (Em (wd c) 0) 91)) (Β (Em (wd c) 0) 91)
  rwa [Ο,Ο,Ο] at h
 obtain⟨k,hk,rfl,T,X,hB,hR,hC⟩:=hrel;have HA:=Z X;have HB:=Z hB;have E:=Z hC;have H:=Z hR;clear X hB hC hR hz;by_cases G:k<4
 ·have cA:=(Τ wr _ k _ _ _ HA.o).trans (Ij a k G);have cB:=(Τ wr _ k _ _ _ HB.o).trans (Ij b k G);have cC:=(Τ wr _ k _ _ _ E.o).trans (CY (wd c) k k G);have fC:=Â wr _ k _ _ E.o;have ba:=Gs a k;have bb:=Gs b k;go_upto_block 1 with (fail)
  go_cut [] (λW=>Ext w W/\W.heap[w.heap.size]? = I (Β (Ab a) 91 (0,0))/\W.heap[w.heap.size+1]? = I (Β (Ab b) 91 (0,0))/\W.heap[w.heap.size+1+1]? = I (Β (Em (wd c) 0) 91 (0,0))/\W.heap[w.heap.size+1+1+1]? = I (Β (Em (wd c) (k+1)) 91 (0,0)))
  case first=>
   go_wp2;go_region_with (go_at_fn g;refine (hg _ _ _ ba.1 ba.2 bb.1 bb.2).mono ?_;rintro e w' ⟨rfl,rfl⟩)
   all_goals
    go_wp2;go_meet
    rw[ϧ wr _ _ _ _ _ _ E.o,CX _ _ G];exact⟨(T.setRow (by omega) _).drew,Bk HA.o (by omega) _,Bk HB.o (by omega) _,Bk H.o (by omega) _,Φ wr _ _ _ _ _ E.o⟩
  case rest=>
   obtain⟨ay,ai,aj,ak,an⟩:=hcut;have az:=Z ai;have a1:=Z aj;have a6:=Z an;have a7:=Z ak;clear ai aj an ak cA cB cC fC;go_wp2;go_roundw
   case rel=>exact⟨k+1,by omega,by go_num,ay,az.o,a1.o,a7.o,a6.o⟩
   simp[intOf];omega
 obtain rfl:k=4:=by omega
 have ao:wr.heap[w.heap.size+1+1+1]? = I (Β (Ab c) 91 (0,0)):=E.o;have a8:=Z ao;clear ao;go_wp2_with (first
  | (refine wpList_load_row rfl 91 _ rfl _ rfl _ _ _ _ a8.o ϋ rfl Bg ?_)
  | (refine ã rfl 91 _ _ rfl _ _ rfl rfl _ _ H.o Bg rfl (Ej _) ?_))
 refine ω (v:=.agg (Ab c)) (Æ rfl _ _ _ _ _ _ _ rfl (Φ wr _ _ (Ab c) 91 (0,0) H.o) ϋ rfl Bg) rfl ?_;exact⟨rfl,T.setRow (by omega) _⟩
theorem JK:L6 87 (bits BinOp.or ϩ):=by intro x y w h1 E G H;go_enter Tryz.func87,Tryz.ntmps87;go_wp2;go_ret;exact⟨rfl,rfl⟩
theorem JJ:L6 86 (bits BinOp.and ϩ):=by intro x y w h1 E G H;go_enter Tryz.func86,Tryz.ntmps86;go_wp2;go_ret;exact⟨rfl,rfl⟩
theorem JI:L6 118 (bits BinOp.andNot ϩ):=by intro x y w h1 E G H;go_enter Tryz.func118,Tryz.ntmps118;go_wp2;go_ret;exact⟨rfl,rfl⟩
theorem JH:L6 88 (λx _=>bits BinOp.xor ϩ ϩ.max x):=by
 intro x y w h1 E G H;go_enter Tryz.func88,Tryz.ntmps88;go_wp2;all_goals go_ret
 all_goals exact⟨rfl,rfl⟩
theorem Tc (a b:Cls) (w:Γ) :
  Ϟ Ι 63 #[.agg (Ab a),.agg (Ab b)] w λe w'=>e=Ω (.agg (Ab (a ||| b)))/\Ext w w':=by
 have H:∀ args w,(callFunc 87 args).run Ι w=.ok (.enter 87 args) w:=enters_of Tryz.func87 (by kernel_rfl) rfl;have T:=Ag (Ag (Ã w (Β (Ab a) 91)) (Β (Ab b) 91)) (Β #[.int γ 0,.int γ 0,.int γ 0,.int γ 0] 91);have E:=Ag (Ã (w.alloc (Β (Ab a) 91)) (Β (Ab b) 91)) (Β #[.int γ 0,.int γ 0,.int γ 0,.int γ 0] 91);have G:=Ã ((w.alloc (Β (Ab a) 91)).alloc (Β (Ab b) 91)) (Β #[.int γ 0,.int γ 0,.int γ 0,.int γ 0] 91);have hE:=(((Κ w).alloc (Β (Ab a) 91)).alloc (Β (Ab b) 91)).alloc (Β #[.int γ 0,.int γ 0,.int γ 0,.int γ 0] 91);rw[Ο] at E;rw[Ο,Ο] at G;have HB:=Z E;clear E;have HA:=Z T;have HR:=Z G;clear T G;have X:=λW=>Nr 87 _ JK H a b (a ||| b) (λi hi=>JA a b i hi) W
 clear H;go_enter Tryz.func63,Tryz.ntmps63;go_wp2_with (first
  | (refine Lr 91 (ε 2) HA.o ϋ Bg ?_)
  | (refine Lr 91 (ε 3) HB.o ϋ Bg ?_)
  | (go_at_call 85;refine (X _).mono ?_;rintro e w' ⟨rfl,aa⟩;have ab:=Z (aa.heap HR.o);clear X)
  | (refine ã rfl 91 _ _ rfl _ _ rfl rfl _ _ ab.o Bg rfl (Ej _) ?_))
 refine ω (v:=.agg (Ab (a ||| b))) (Æ rfl _ _ _ _ _ _ _ rfl (Φ w' _ _ (Ab (a ||| b)) 91 (0,0) ab.o) ϋ rfl Bg) rfl ?_;exact⟨rfl,(hE.t aa).setRow (by omega) _⟩
theorem Xx (a b:Cls) (w:Γ) :
  Ϟ Ι 62 #[.agg (Ab a),.agg (Ab b)] w λe w'=>e=Ω (.agg (Ab (a &&& b)))/\Ext w w':=by
 have H:∀ args w,(callFunc 86 args).run Ι w=.ok (.enter 86 args) w:=enters_of Tryz.func86 (by kernel_rfl) rfl;have T:=Ag (Ag (Ã w (Β (Ab a) 91)) (Β (Ab b) 91)) (Β #[.int γ 0,.int γ 0,.int γ 0,.int γ 0] 91);have E:=Ag (Ã (w.alloc (Β (Ab a) 91)) (Β (Ab b) 91)) (Β #[.int γ 0,.int γ 0,.int γ 0,.int γ 0] 91);have G:=Ã ((w.alloc (Β (Ab a) 91)).alloc (Β (Ab b) 91)) (Β #[.int γ 0,.int γ 0,.int γ 0,.int γ 0] 91);have hE:=(((Κ w).alloc (Β (Ab a) 91)).alloc (Β (Ab b) 91)).alloc (Β #[.int γ 0,.int γ 0,.int γ 0,.int γ 0] 91);rw[Ο] at E;rw[Ο,Ο] at G;have HB:=Z E;clear E;have HA:=Z T;have HR:=Z G;clear T G;have X:=λW=>Nr 86 _ JJ H a b (a &&& b) (λi hi=>VZ a b i hi) W
 clear H;go_enter Tryz.func62,Tryz.ntmps62;go_wp2_with (first
  | (refine Lr 91 (ε 2) HA.o ϋ Bg ?_)
  | (refine Lr 91 (ε 3) HB.o ϋ Bg ?_)
  | (go_at_call 85;refine (X _).mono ?_;rintro e w' ⟨rfl,aa⟩;have ab:=Z (aa.heap HR.o);clear X)
  | (refine ã rfl 91 _ _ rfl _ _ rfl rfl _ _ ab.o Bg rfl (Ej _) ?_))
 refine ω (v:=.agg (Ab (a &&& b))) (Æ rfl _ _ _ _ _ _ _ rfl (Φ w' _ _ (Ab (a &&& b)) 91 (0,0) ab.o) ϋ rfl Bg) rfl ?_;exact⟨rfl,(hE.t aa).setRow (by omega) _⟩
theorem LD (a b:Cls) (w:Γ) :
  Ϟ Ι 111 #[.agg (Ab a),.agg (Ab b)] w λe w'=>e=Ω (.agg (Ab (a &&& ~~~b)))/\Ext w w':=by
 have H:∀ args w,(callFunc 118 args).run Ι w=.ok (.enter 118 args) w:=enters_of Tryz.func118 (by kernel_rfl) rfl;have T:=Ag (Ag (Ã w (Β (Ab a) 91)) (Β (Ab b) 91)) (Β #[.int γ 0,.int γ 0,.int γ 0,.int γ 0] 91);have E:=Ag (Ã (w.alloc (Β (Ab a) 91)) (Β (Ab b) 91)) (Β #[.int γ 0,.int γ 0,.int γ 0,.int γ 0] 91);have G:=Ã ((w.alloc (Β (Ab a) 91)).alloc (Β (Ab b) 91)) (Β #[.int γ 0,.int γ 0,.int γ 0,.int γ 0] 91);have hE:=(((Κ w).alloc (Β (Ab a) 91)).alloc (Β (Ab b) 91)).alloc (Β #[.int γ 0,.int γ 0,.int γ 0,.int γ 0] 91);rw[Ο] at E;rw[Ο,Ο] at G;have HB:=Z E;clear E;have HA:=Z T;have HR:=Z G;clear T G;have X:=λW=>Nr 118 _ JI H a b (a &&& ~~~b) (λi hi=>LB a b i hi) W
 clear H;go_enter Tryz.func111,Tryz.ntmps111;go_wp2_with (first
  | (refine Lr 91 (ε 2) HA.o ϋ Bg ?_)
  | (refine Lr 91 (ε 3) HB.o ϋ Bg ?_)
  | (go_at_call 85;refine (X _).mono ?_;rintro e w' ⟨rfl,aa⟩;have ab:=Z (aa.heap HR.o);clear X)
  | (refine ã rfl 91 _ _ rfl _ _ rfl rfl _ _ ab.o Bg rfl (Ej _) ?_))
 refine ω (v:=.agg (Ab (a &&& ~~~b))) (Æ rfl _ _ _ _ _ _ _ rfl (Φ w' _ _ (Ab (a &&& ~~~b)) 91 (0,0) ab.o) ϋ rfl Bg) rfl ?_;exact⟨rfl,(hE.t aa).setRow (by omega) _⟩
theorem V4 (a:Cls) (w:Γ) :
  Ϟ Ι 64 #[.agg (Ab a)] w λe w'=>e=Ω (.agg (Ab (~~~a)))/\Ext w w':=by
 have G:∀ args w,(callFunc 88 args).run Ι w=.ok (.enter 88 args) w:=enters_of Tryz.func88 (by kernel_rfl) rfl;have H:=Ag (Ã w (Β (Ab a) 91)) (Β #[.int γ 0,.int γ 0,.int γ 0,.int γ 0] 91);have E:=Ã (w.alloc (Β (Ab a) 91)) (Β #[.int γ 0,.int γ 0,.int γ 0,.int γ 0] 91);have hE:=((Κ w).alloc (Β (Ab a) 91)).alloc (Β #[.int γ 0,.int γ 0,.int γ 0,.int γ 0] 91);rw[Ο] at E;have HA:=Z H;have HR:=Z E;clear H E;have T:=λW=>Nr 88 _ JH G a a (~~~a) (λi hi=>JV a i hi) W
 clear G;go_enter Tryz.func64,Tryz.ntmps64;go_wp2_with (first
  | (refine Lr 91 (ε 1) HA.o ϋ Bg ?_)
  | (go_at_call 85;refine (T _).mono ?_;rintro e w' ⟨rfl,X⟩;have aa:=Z (X.heap HR.o);clear T)
  | (refine ã rfl 91 _ _ rfl _ _ rfl rfl _ _ aa.o Bg rfl (Ej _) ?_))
 refine ω (v:=.agg (Ab (~~~a))) (Æ rfl _ _ _ _ _ _ _ rfl (Φ w' _ _ (Ab (~~~a)) 91 (0,0) aa.o) ϋ rfl Bg) rfl ?_;exact⟨rfl,(hE.t X).setRow (by omega) _⟩
theorem WI (c:Cls) (b:Int) (G:0<=b) (hb:b<256) (B:Nat) (t:ϫ) (w:Γ) (E:w.heap[B]? = I (Β (Ab c) t (0,0))) :
  Ϟ Ι 110 #[η (I ⟨B,0,J⟩),.int .u8 b] w λe w'=>e=Ω (.tuple #[])/\w'=(w.setRow B (Ab (Ax c b))).drew:=by
 have hc:=(Τ w _ (b / 64).toNat _ _ _ E).trans (Ij c _ (by omega));have T:=Â w _ (b / 64).toNat _ _ E;have ⟨h1,X⟩:=Gs c (b / 64).toNat;have H:=Z E;clear E;go_enter Tryz.func110,Tryz.ntmps110;go_wp2;go_region
 all_goals
  go_end0
  rw[N7 c b G hb,ϧ w _ _ _ _ _ _ H.o,BK c b G hb];exact⟨rfl,rfl⟩
def ofL (l:List UInt8):Cls:=l.foldl (λc x=>Ax c (x.toNat:Int)) 0#256
theorem JT (l:List UInt8) (k:Nat) (h:k<l.length):ofL (l.take (k+1))=Ax (ofL (l.take k)) ((l.getD k 0).toNat:Int):=by unfold ofL;rw[List.take_succ_eq_append_getElem h,ô];simp[Ζ,h]
abbrev zA:Array Δ:=#[.int γ 0,.int γ 0,.int γ 0,.int γ 0]
theorem encA_zero:Ab 0#256=zA:=by simp[Ab,Kb]
theorem V1 (l:List UInt8) (hl:l.length<=9223372036854775807) (a:Option Addr) (b T ae:Nat) (w:Γ) (X:0<l.length->a=I ⟨b,T,J⟩) (_hb:0<l.length->b<w.heap.size)
  (hc:∀ i,i<l.length->w.cell? ⟨b,T+i,J⟩=I (bv (l.getD i 0))) :
  Ϟ Ι 93 #[U a l.length ae] w λe w'=>e=Ω (.agg (Ab (ofL l)))/\Ext w w':=by
 go_enter Tryz.func93,Tryz.ntmps93;go_wp2_with (fail);go_loopw [8] (λi W=>∃ k:Nat,k<=l.length/\i=.int Χ k/\Ext w W/\W.heap[w.heap.size]? = I (Β zA 91 (0,0))/\W.heap[w.heap.size+1]? = I (Β (Ab (ofL (l.take k))) 91 (0,0)))
  (λi _=>l.length-(intOf i).toNat)
 case atStart=>refine⟨0,by omega,rfl,((Κ w).alloc _).alloc _,Ag (Ã w _) _,?_⟩;rw[show ofL (l.take 0)=0#256 from rfl,encA_zero];exact heap_alloc2_new w _ _
 obtain⟨k,hk,rfl,G,hR,hC⟩:=hrel;have E:=Z hC;have H:=Z hR;clear hC hR;by_cases af:k<l.length
 ·have cA:=G.cell (hc k af);have HS:=Z (JT l k (by omega));have hx:=(l.getD k 0).toNat_lt;have e:=X (by omega);clear X hc;subst e;generalize l.getD k 0=x at *;have HA:=Z (WI (ofL (l.take k)) (x.toNat:Int) (by omega) (by omega) (w.heap.size+1) 91 wr E.o);go_wp2_with (go_at_call 110;refine HA.o.mono ?_;rintro e w' ⟨rfl,rfl⟩;clear HA);go_roundw
  case rel=>refine⟨k+1,by omega,by go_num,(G.setRow (by omega) _).drew,Bk H.o (by omega) _,?_⟩;rw[HS.o];exact Φ wr _ _ _ _ _ E.o
  case measure=>simp[intOf];omega
 obtain rfl:k=l.length:=by omega
 rw[List.take_of_length_le (by omega)] at E;go_wp2_with (first
  | (refine wpList_load_row rfl 91 _ rfl _ rfl _ _ _ _ E.o ϋ rfl Bg ?_)
  | (refine ã rfl 91 _ _ rfl _ _ rfl rfl _ _ H.o Bg rfl (Ej _) ?_))
 refine ω (v:=.agg (Ab (ofL l))) (Æ rfl _ _ _ _ _ _ _ rfl (Φ wr _ _ (Ab (ofL l)) 91 (0,0) H.o) ϋ rfl Bg) rfl ?_;exact⟨rfl,G.setRow (Υ _) _⟩
theorem JS (l:List UInt8) (v:Δ) (w:Γ) (h:By w v l):Ϟ Ι 93 #[v] w λe w'=>e=Ω (.agg (Ab (ofL l)))/\Ext w w':=by
 obtain⟨h0,⟨G,a,E,rfl⟩|⟨G,b,H,E,rfl,hb,hc⟩⟩:=h
 ·have:=V1 l (by omega) a 0 0 E w (by omega) (by omega) (λi hi=>by omega)
  rwa [G] at this
 exact V1 l (by omega) (I ⟨b,H,J⟩) b H E w (λ_=>rfl) (λ_=>hb) (λi hi=>hc i (by omega))
open Go
section
variable {P:Program} {ops:Array Oper} {md:Region.Mode} {C:World->Prop}
def Li (P:Ö) (md:Region.Mode) (ops:Array Ϭ) (C:Γ->Prop) (n:Nat) (L:Array Bool->ë->Prop):Nat->Array Bool->ë->Prop
 | 0,listed,a=>L listed a
 | f+1,listed,a=>Ϯ md ops listed≠[]/\∀ i∈Ϯ md ops listed,i<n/\qOp P ops C i (Li P md ops C n L f (listed.setIfInBounds i Α)) a
theorem VX {n g:Nat} {L:Array Bool->ë->Prop} {Q':Exit->ë->Γ->Prop} (G:∀ listed a w,C w->L listed a->wpAny P md ops Q' g listed a w) :
  ∀ (f:Nat) (listed:Array Bool) (a:ë) (w:Γ),C w->Li P md ops C n L f listed a->wpAny P md ops Q' (f+g) listed a w:=by
 intro f;induction f with
 | zero=>intro listed a w E h;rw[Ϣ];exact G _ _ _ E h
 | succ f H=>intro listed a w E h;rw[show f+1+g=(f+g)+1 by omega];exact⟨λh0=>absurd h0 h.1,λi hi=>wpOp_of_qOp E (λT w' X h'=>H _ T w' X h') (h.2 i hi).2⟩
theorem PL {n i:Nat} {oi:Ϭ} {v:Δ} {L:Array Bool->ë->Prop} (hi:ops[i]? = I oi) (ae:∀ (j:Nat) (o:Ϭ) cs b,ops[j]? = I o->o.op≠.select cs b)
  (hs:Region.sinkB md ops n=Α) (hc:Region.chainB md ops n=Α) (hn:n<ops.size) (ah:i<n)
  (aq:∀ listed a,L listed a->∀ j∈Ϯ md ops listed,n<=j) :
  ∀ (f:Nat) (listed:Array Bool) (a:ë),HeadInv md ops n listed->(∀ j oj,ops[j]? = I oj->j≠i->listed.getD j Α=Ε->(∀ e∈oj.after,Region.binds md e=Α->e.on≠i)->oi.apart ops oj=Α)->i∈Ϯ md ops listed->YieldsIn P ops C oi v a->
   Li P md ops C n L f (listed.setIfInBounds i Α) (a.put oi.dst v)->Li P md ops C n L (f+1) listed a:=by
 intro f;induction f with
 | zero=>
  intro listed a X _ E hy H;refine⟨λh=>(by rw[h] at E;cases E),λj T=>?_⟩;have ab:j<n:=Nat.lt_of_not_le λh=>tail_waits hs hc hn X _ i rfl ah (ý.1 E).1 j h T
  refine⟨ab,?_⟩;by_cases G:j=i
  ·subst G;exact hy.qOp hi H
  exact absurd (aq _ _ H j (ready_mono T G)) (by omega)
 | succ f ih=>
  intro listed a X ai E hy H;have aj:=(ý.1 E).1;refine⟨λh=>(by rw[h] at E;cases E),λj T=>?_⟩;have ab:j<n:=Nat.lt_of_not_le λh=>tail_waits hs hc hn X _ i rfl ah aj j h T
  refine⟨ab,?_⟩;by_cases G:j=i
  ·subst G;exact hy.qOp hi H
  obtain⟨ak,oj,ad,au⟩:=ý.1 T;have aw:∀ e∈oj.after,Region.binds md e=Α->e.on≠i:=λe he hb ax=>by have h1:=au e he hb;rw[ax,getD_both aj] at h1;cases h1
  have h2:=qOp_put ad (ai j oj ad G ak aw) (λcs b=>ae i oi cs b hi) (λcs b=>ae j oj cs b ad) hy (H.2 j (ready_mono T G)).2;refine qOp_mono (λa' h3=>ih (listed.setIfInBounds j Α) a' (X.set T ab) (λk ok hk a6 a7 a8=>?_) (ready_mono E (Ne.symm G)) h3.1 ?_) h2
  ·refine ai k ok hk a6 ?_ a8;by_cases ao:j=k
   ·subst ao;exact ak
   rwa [getD_set_ne Α ao] at a7
  rw[Array.setIfInBounds_comm _ _ G];exact h3.2
theorem PK {n g:Nat} {H:ë->Prop} (af:Region.noSelect ops=Α) (hs:Region.sinkB md ops n=Α) (hc:Region.chainB md ops n=Α) (hn:n<ops.size):∀ (l:List Ϭ) (k:Nat) (listed:Array Bool) (a:ë),(∀ j,j<l.length->l[j]? = ops[k+j]?)->k+l.length=n->HeadInv md ops n listed->Region.lexHead md ops g l.length k listed=Α->wpQuiet P ops C H l a->
  Li P md ops C n (λT X=>Region.seqB md ops g n T=Α/\H X) l.length listed a:=by
 intro l;induction l with
 | nil=>
  intro k listed a _ G _ E h;obtain rfl:k=n:=by simpa using G
  exact⟨by simpa [Region.lexHead] using E,h⟩
 | cons o l ih=>
  intro k listed a hl G ab E h;have h0:ops[k]? = I o:=by simpa using (hl 0 (by simp)).symm
  simp only[ϒ,Region.lexHead,ς] at E;have ad:k<n:=by simp only[ϒ] at G;omega
  have ae:k∈Ϯ md ops listed:=by simpa using E.1.1
  have aj:qOp P ops C k (wpQuiet P ops C H l) a:=by unfold qOp;simp only[h0];exact h
  obtain⟨v,hy,hK⟩:=yieldsIn_of_qOp h0 aj;exact PL h0 (Region.noSelect_spec af) hs hc hn ad (λT X hL=>seqB_ready hL.1) l.length listed a ab (Region.free_spec h0 E.1.2) ae hy
   (ih (k+1) _ _ (λj hj=>by have:=hl (j+1) (by simp;omega);simpa [Nat.add_assoc,Nat.add_comm 1 j] using this) (by simp only[ϒ] at G;omega) (ab.set ae ad) E.2 hK)
theorem CE {id:Nat} {Q:Exit->ë->Γ->Prop} {a:ë} {w:Γ} {l:List Ϭ} (n:Nat) (hm:P.follows .mixedOrders=Α) (T:Region.lexTailB .any l.toArray n=Α) (hC:C { w with drawn:=w.drawn+1 })
  (h:wpQuiet P l.toArray C (λG=>∀ w',C w'->wpList P l.toArray Q (l.drop n) G w') (l.take n) a):(Code.region id l.toArray Α).wp P Q a w:=by
 simp only[Region.lexTailB,ς,decide_eq_true_eq] at T;obtain⟨⟨⟨⟨ag,X⟩,hs⟩,hc⟩,ai⟩:=T;have ar:n<l.length:=by simpa using X
 have E:(l.take n).length=n:=by simp;omega
 have aa:(l.drop n).length=l.toArray.size-n:=by simp
 have aj:HeadInv .any l.toArray n (Array.replicate l.toArray.size Ε):=
  ⟨by simp,λj oj _ hl=>(by rw[ϛ] at hl;cases hl),λt _ ht=>getD_in (by simpa using ht) (ϛ _ _)⟩
 have H:=PK (md:=.any) (g:=l.toArray.size-n) ag hs hc X (l.take n) 0 _ a (λj hj=>by
  have an:j<n:=by rw[E] at hj;exact hj
  simp[an]) (by simpa using E) aj (by rw[E];exact ai) h
 refine wp_region_any hm ?_;have:=VX (Q':=Q) (g:=l.toArray.size-n) (λlisted G w' aq hL=>by
  have:=wpAny_of_seq (md:=.any) (Q':=Q) (l.drop n) n listed G w' (λj=>by simp[List.getElem?_drop]) (by rw[aa];exact hL.1) (hL.2 w' aq)
  rwa [aa] at this) _ _ _ _ hC H
 rw[E,show n+(l.toArray.size-n)=l.toArray.size by omega] at this;exact this
end
structure EW (w:Γ) where
 W:Γ
 ext:Ext w W
instance (w:Γ):Nonempty (EW w):=⟨⟨w,Κ w⟩⟩
section
variable {P:Program}
theorem Cl {id:Nat} {Q:Exit->ë->Γ->Prop} {a:ë} {w:Γ} {l:List Ϭ} (hm:P.follows .mixedOrders=Α) (E:Region.lexB .any l.toArray=Α)
  (h:wpQuiet P l.toArray (λW=>∃ e:EW w,W=e.W) (λG=>∀ w',(∃ e:EW w,w'=e.W)->Q .normal G w') l a):(Code.region id l.toArray Α).wp P Q a w:=
 wp_region_quiet (C:=λW=>∃ e:EW w,W=e.W) hm E ⟨⟨_,(Κ w).drawn1⟩,rfl⟩ (by simpa using h)
theorem I4 {id:Nat} {Q:Exit->ë->Γ->Prop} {a:ë} {w:Γ} {l:List Ϭ} (n:Nat) (hm:P.follows .mixedOrders=Α) (E:Region.lexTailB .any l.toArray n=Α)
  (h:wpQuiet P l.toArray (λW=>∃ e:EW w,W=e.W) (λG=>∀ w',(∃ e:EW w,w'=e.W)->wpList P l.toArray Q (l.drop n) G w') (l.take n) a):(Code.region id l.toArray Α).wp P Q a w:=
 CE (C:=λW=>∃ e:EW w,W=e.W) n hm E ⟨⟨_,(Κ w).drawn1⟩,rfl⟩ h
theorem E0 {f:FuncId} {args:Array Δ} {w:Γ} {E:EW w} {v:Δ} (h:Ϟ P f args E.W λe w'=>e=Ω v/\Ext E.W w'):Ϟ P f args E.W λe G=>e=Ω v/\∃ H:EW w,G=H.W:=
 h.mono λ_ w' ⟨he,T⟩=>⟨he,⟨w',E.ext.trans T⟩,rfl⟩
theorem TS {f:FuncId} {args:Array Δ} {w:Γ} {E:EW w} {v:Δ} (h:Ϟ P f args E.W λe w'=>e=Ω v/\w'=E.W):Ϟ P f args E.W λe G=>e=Ω v/\∃ H:EW w,G=H.W:=
 h.mono λ_ _ ⟨he,T⟩=>⟨he,E,T⟩
end
theorem Nm {w:Γ} {B:Nat} {c:Cls} {t:ϫ} {fr:Nat × Nat} (h:w.heap[B]? = I (Β (Ab c) t fr)):(∀ e:EW w,e.W.cell? ⟨B,0,J⟩=I (.int γ (wd c 0)))/\(∀ e:EW w,e.W.cell? ⟨B,1,J⟩=I (.int γ (wd c 1)))/\(∀ e:EW w,e.W.cell? ⟨B,2,J⟩=I (.int γ (wd c 2)))/\(∀ e:EW w,e.W.cell? ⟨B,3,J⟩=I (.int γ (wd c 3))):=
 ⟨λe=>(Τ e.W _ 0 _ _ _ (e.ext.heap h)).trans rfl,λe=>(Τ e.W _ 1 _ _ _ (e.ext.heap h)).trans rfl,λe=>(Τ e.W _ 2 _ _ _ (e.ext.heap h)).trans rfl,λe=>(Τ e.W _ 3 _ _ _ (e.ext.heap h)).trans rfl⟩
theorem A4 {w:Γ} {p:Addr} {v:Δ} (h:w.cell? p=I v):∀ e:EW w,e.W.cell? p=I v:=λe=>e.ext.cell h
theorem ET (x:Nat) (h:x<18446744073709551616) (h1:st1 x<18446744073709551616) :
  ϩ.wrap (bits BinOp.and ϩ ((x:Int) / 2) 6148914691236517205+bits BinOp.and ϩ (x:Int) 6148914691236517205)=(st1 x:Int):=by
 rw[show ((x:Int) / 2)=((x / 2:Nat):Int) by omega,show (6148914691236517205:Int)=((6148914691236517205:Nat):Int) from rfl,u64_and_nat _ _ (by omega) (by omega),u64_and_nat _ _ h (by omega)];rw[IntKind.wrap_u64];unfold st1 at *;omega
theorem ES (x:Nat) (h:x<18446744073709551616) (h1:st2 x<18446744073709551616) :
  ϩ.wrap (bits BinOp.and ϩ ((x:Int) / 4) 3689348814741910323+bits BinOp.and ϩ (x:Int) 3689348814741910323)=(st2 x:Int):=by
 rw[show ((x:Int) / 4)=((x / 4:Nat):Int) by omega,show (3689348814741910323:Int)=((3689348814741910323:Nat):Int) from rfl,u64_and_nat _ _ (by omega) (by omega),u64_and_nat _ _ h (by omega)];rw[IntKind.wrap_u64];unfold st2 at *;omega
theorem ER (x:Nat) (h:x<=4919131752989213764):bits BinOp.and ϩ ((x:Int) / 16+(x:Int)) 1085102592571150095=(st3 x:Int):=by rw[show ((x:Int) / 16+(x:Int))=((x / 16+x:Nat):Int) by omega,show (1085102592571150095:Int)=((1085102592571150095:Nat):Int) from rfl,u64_and_nat _ _ (by omega) (by omega)];rfl
theorem EQ (x:Nat) (h:x<9223372036854775808):bits BinOp.and å (x:Int) 127=((x % 128:Nat):Int):=by show å.wrap ((BitVec.ofInt 64 (x:Int) &&& BitVec.ofInt 64 ((127:Nat):Int)).toNat:Int)=_;rw[BitVec.toNat_and,ofInt_u64 x (by omega),ofInt_u64 127 (by omega),show (127:Nat)=2 ^ 7-1 from rfl,Nat.and_two_pow_sub_one_eq_mod];exact IntWalk.i64_in _ ⟨by omega,by omega⟩
theorem JN (x:Nat) (hx:x<18446744073709551616) (w:Γ) :
  Ϟ Ι 114 #[.int γ (x:Int)] w λe w'=>e=Ω (.int Χ (cnt x.testBit 64))/\w'=w:=by
 obtain⟨h1,h2,h3,h4⟩:=EM x hx;have H4:=Z h4;clear h4;go_enter Tryz.func114,Tryz.ntmps114;go_upto_region 1 with (fail)
 go_cut [0] (λv W=>v=.int γ (st1 x:Int)/\W=w)
 case first=>
  go_wp2;go_meet
  exact⟨by rw[ET x hx h1],rfl⟩
 case rest=>
 obtain⟨rfl,rfl⟩:=hcut;generalize st1 x=E at *;go_upto_region 2 with (fail)
 go_cut [0] (λv W=>v=.int γ (st2 E:Int)/\W=wc)
 case first=>
  go_wp2;go_meet
  exact⟨by rw[ES E h1 (by omega)],rfl⟩
 case rest=>
 obtain⟨rfl,rfl⟩:=hcut;generalize st2 E=G at *;go_upto_region 3 with (fail)
 go_cut [0] (λv W=>v=.int γ (st3 G:Int)/\W=wc)
 case first=>
  go_wp2;go_meet
  exact⟨by rw[ER G h2],rfl⟩
 case rest=>
 obtain⟨rfl,rfl⟩:=hcut;generalize st3 G=H at *;go_upto_region 4 with (fail)
 go_cut [0] (λv W=>v=.int γ (st4 H:Int)/\W=wc)
 case first=>
  go_wp2;go_meet
  exact⟨by unfold st4;go_num,rfl⟩
 case rest=>
 obtain⟨rfl,rfl⟩:=hcut;have h5:st4 H<=1157442765409226768:=by unfold st4;omega
 generalize st4 H=T at *;go_upto_region 5 with (fail)
 go_cut [0] (λv W=>v=.int γ (st5 T:Int)/\W=wc)
 case first=>
  go_wp2;go_meet
  exact⟨by unfold st5;go_num,rfl⟩
 case rest=>
 obtain⟨rfl,rfl⟩:=hcut;have h6:st5 T<=1157492765409226768:=by unfold st5;omega
 generalize st5 T=X at *;go_upto_region 6 with (fail)
 go_cut [0] (λv W=>v=.int γ (st6 X:Int)/\W=wc)
 case first=>
  go_wp2;go_meet
  exact⟨by unfold st6;go_num,rfl⟩
 case rest=>
 obtain⟨rfl,rfl⟩:=hcut;have h7:st6 X<=1157500000000000000:=by unfold st6;omega
 generalize st6 X=x6 at *;go_wp2;go_ret;exact⟨GJ (by rw[EQ x6 (by omega),H4.o]),rfl⟩
def sz (c:Cls):Nat:=cnt c.getLsbD 256
theorem SU (c:Cls) (k:Nat):cnt c.getLsbD (64*(k+1))=cnt c.getLsbD (64*k)+cnt (wn c k).testBit 64:=by
 rw[show 64*(k+1)=64*k+64 by omega,Zj]
 congr 1
 exact Ro _ _ _ λi hi=>by rw[Cn];simp[hi]
theorem JM (c:Cls) (k:Nat) (w:Γ):Ϟ Ι 114 #[.int γ (wd c k)] w λe w'=>e=Ω (.int Χ (cnt (wn c k).testBit 64))/\w'=w:=
 JN (wn c k) (Dy c k) w
theorem X4 (c:Cls) (k:Nat) (h:k<4) (w:Γ):(Instr.index 91 (.agg (Ab c)) (.int Χ (k:Int))).run Ι w=.ok (.int γ (wd c k)) w:=by
 match k,h with
 | 0,_=>exact (by kernel_rfl:(Instr.index 91 (.agg (Ab c)) (.int Χ ((0:Nat):Int))).run Ι w=.ok (.int γ (wd c 0)) w)
 | 1,_=>exact (by kernel_rfl:(Instr.index 91 (.agg (Ab c)) (.int Χ ((1:Nat):Int))).run Ι w=.ok (.int γ (wd c 1)) w)
 | 2,_=>exact (by kernel_rfl:(Instr.index 91 (.agg (Ab c)) (.int Χ ((2:Nat):Int))).run Ι w=.ok (.int γ (wd c 2)) w)
 | 3,_=>exact (by kernel_rfl:(Instr.index 91 (.agg (Ab c)) (.int Χ ((3:Nat):Int))).run Ι w=.ok (.int γ (wd c 3)) w)
theorem FL (c:Cls) (w:Γ) :
  Ϟ Ι 96 #[.agg (Ab c)] w λe w'=>e=Ω (.int Χ (sz c))/\Ext w w':=by
 have E:=Ã w (Β (Ab c) 91);have G:=(Κ w).alloc (Β (Ab c) 91);have H:=Z E;clear E;go_enter Tryz.func96,Tryz.ntmps96;go_wp2_with (refine Lr 91 (ε 1) H.o ϋ Bg ?_);generalize w.alloc (Β (Ab c) 91)=w1 at *;go_loop [3,7] (λn i=>∃ k:Nat,k<=4/\i=.int Χ k/\n=.int Χ (cnt c.getLsbD (64*k):Nat)) (λ_ i=>4-(intOf i).toNat)
 case atStart=>exact⟨0,by omega,rfl,rfl⟩
 obtain⟨k,hk,rfl,rfl⟩:=hrel;by_cases T:k<4
 ·have ad:=X4 c k T;have X:=λW=>Z (JM c k W)
  have hb:=Dm c.getLsbD (64*k);have ae:=Dm (wn c k).testBit 64;have HS:=Z (SU c k);generalize cnt (wn c k).testBit 64=y at *;generalize cnt c.getLsbD (64*k)=z at *;go_wp2_with (go_at_call 114;refine (X _).o.mono ?_;rintro e w' ⟨rfl,rfl⟩);go_round
  case rel=>exact⟨k+1,by omega,by go_num,by rw[HS.o];go_num⟩
  simp[intOf];omega
 obtain rfl:k=4:=by omega
 go_wp2;go_ret;exact⟨rfl,G⟩
def Ed (k c:Cls):List Cls:=[c &&& k,c &&& ~~~k].filter (· != 0#256)
def Dc (k:Cls) (L:List Cls):List Cls:=L.flatMap (Ed k)
def allC:Cls:= ~~~(0#256)
def Ft (l:List Cls):List Cls:=l.foldl (λL k=>Dc k L) [allC]
theorem SV (p q r:Nat->Bool) (n:Nat) (h:∀ k,k<n->(p k).toNat=(q k).toNat+(r k).toNat):cnt p n=cnt q n+cnt r n:=by
 induction n with
 | zero=>rfl
 | succ n E=>have h1:=E (λk G=>h k (by omega));have H:=h n (by omega);simp only[cnt];cases T:p n<;>cases X:q n<;>cases hr:r n<;>simp_all<;>omega
theorem DU (k c:Cls):sz c=sz (c &&& k)+sz (c &&& ~~~k):=by
 unfold sz;refine SV _ _ _ 256 λj E=>?_
 simp only[ú,BitVec.getLsbD_not,E,decide_true,Ð];cases c.getLsbD j<;>cases k.getLsbD j<;>rfl
theorem ST {p:Nat->Bool} {n:Nat} (h:cnt p n=0):∀ k,k<n->p k=Ε:=by
 induction n with
 | zero=>intro k E;omega
 | succ n G=>
  simp only[cnt] at h;intro k E;by_cases H:k=n
  ·subst H;cases T:p k
   ·rfl
   rw[T] at h;simp at h
  exact G (by omega) k (by omega)
theorem Tm:sz 0#256=0:=by
 unfold sz;have:∀ n,cnt (0#256).getLsbD n=0:=λn=>by
  induction n with
  | zero=>rfl
  | succ n E=>simp[cnt,E]
 exact this 256
theorem Tn (c:Cls):sz c=0↔c=0#256:=by refine⟨λh=>?_,λh=>by rw[h];exact Tm⟩;apply BitVec.eq_of_getLsbD_eq;intro i hi;rw[ST h i hi];simp
theorem DV:sz allC=256:=by
 unfold sz allC;have:∀ n,n<=256->cnt (~~~(0#256)).getLsbD n=n:=λn=>by
  induction n with
  | zero=>intro _;rfl
  | succ n E=>intro G;have:=E (by omega);simp only[cnt,this,BitVec.getLsbD_not,ï];simp;omega
 exact this 256 (Υ _)
def szs (L:List Cls):Nat:=(L.map sz).sum
theorem Ow (k c:Cls):Ed k c=(if c &&& k=0#256 then [] else [c &&& k])++(if c &&& ~~~k=0#256 then [] else [c &&& ~~~k]):=by unfold Ed;generalize c &&& k=x;generalize c &&& ~~~k=y;by_cases h1:x=0#256<;>by_cases E:y=0#256<;>simp[h1,E]
theorem DT (k c:Cls):szs (Ed k c)=sz c:=by rw[DU k c];rw[Ow];unfold szs;generalize c &&& k=x;generalize c &&& ~~~k=y;by_cases h1:x=0#256<;>by_cases E:y=0#256<;>simp[h1,E,Tm]
theorem Tl (L M:List Cls):szs (L++M)=szs L+szs M:=by simp[szs]
theorem DS (k:Cls) (L:List Cls):szs (Dc k L)=szs L:=by
 induction L with
 | nil=>rfl
 | cons c L E=>show szs (Ed k c++Dc k L)=szs ([c]++L);rw[Tl,Tl,DT,E];simp[szs]
theorem EY (k c:Cls):∀ x∈Ed k c,x≠0#256:=by
 intro x hx
 simpa using (List.mem_filter.1 hx).2
theorem T1 (k:Cls) (L:List Cls):∀ x∈Dc k L,x≠0#256:=by intro x hx;obtain⟨c,_,hc⟩:=List.mem_flatMap.1 hx;exact EY k c x hc
def Full (L:List Cls):Prop:=szs L=256/\∀ c∈L,c≠0#256
theorem full_one:Full [allC]:=⟨by simp[szs,DV],λc hc=>by simp at hc;subst hc;decide⟩
theorem Full.split {L:List Cls} (h:Full L) (k:Cls):Full (Dc k L):=⟨by rw[DS,h.1],T1 k L⟩
theorem NA (L:List Cls) (h:∀ c∈L,c≠0#256):L.length<=szs L:=by
 induction L with
 | nil=>simp
 | cons c L E=>
  have h1:=E (λx hx=>h x (by simp[hx]));have G:sz c≠0:=λe=>h c (by simp) ((Tn c).1 e)
  simp only[szs,ÿ,List.sum_cons,ϒ] at *;omega
theorem Full.len {L:List Cls} (h:Full L):L.length<=256:=by rw[<-h.1];exact NA L h.2
theorem Full.pos {L:List Cls} (h:Full L):0<L.length:=by
 cases L with
 | nil=>exact absurd h.1 (by simp[szs])
 | cons=>simp
theorem Yi (l:List Cls):Full (Ft l):=by
 have:∀ (l:List Cls) (L:List Cls),Full L->Full (l.foldl (λL k=>Dc k L) L):=λl=>by
  induction l with
  | nil=>intro L h;exact h
  | cons k l E=>intro L h;exact E _ (h.split k)
 exact this l _ full_one
theorem TG (l:List Cls) (k:Nat) (h:k<l.length):Ft (l.take (k+1))=Dc (l.getD k 0#256) (Ft (l.take k)):=by
 have e:l.take (k+1)=l.take k++[l.getD k 0#256]:=by rw[List.take_add_one];congr 1;simp[Θ h]
 rw[e];simp[Ft,ô]
theorem EU (k:Cls) (L:List Cls) (j:Nat) (h:j<L.length):Dc k (L.take (j+1))=Dc k (L.take j)++Ed k (L.getD j 0#256):=by
 have e:L.take (j+1)=L.take j++[L.getD j 0#256]:=by rw[List.take_add_one];congr 1;simp[Θ h]
 rw[e];simp[Dc,List.flatMap_append]
theorem EZ (k c:Cls):(Ed k c).length<=2:=by rw[Ow];split<;>split<;>simp
theorem EV (k:Cls) (L:List Cls):(Dc k L).length<=2*L.length:=by
 induction L with
 | nil=>simp[Dc]
 | cons c L E=>have:=EZ k c;show (Ed k c++Dc k L).length<=_;simp only[Ν,ϒ];omega
theorem Lg:(Ι.info? 5).map (λi=>(i.zero,i.size,i.bytes))=I (I (.int .u8 0),1,1):=by kernel_rfl
def Bx (l:List UInt8):Int:=match l with|[]=>-1|x::_=>(x.toNat:Int)
def Cs (W:Γ) (v:Δ) (l:List Cls):Prop:=Sl W v 4 l.length (λi=>.int γ (wd (l.getD (i / 4) 0#256) (i % 4)))
theorem Cs.ext {W W':Γ} {v:Δ} {l:List Cls} (h:Cs W v l) (E:Ext W W'):Cs W' v l:=Sl.ext h E
theorem Rg {W:Γ} {b E:Nat} {l:List Cls} (h:∀ i,i<l.length*4->W.cell? ⟨b,E+i,J⟩=I (.int γ (wd (l.getD (i / 4) 0#256) (i % 4)))) (k:Nat) (G:k<l.length):(∀ e:EW W,e.W.cell? ⟨b,E+k*4,J⟩=I (.int γ (wd (l.getD k 0#256) 0)))/\(∀ e:EW W,e.W.cell? ⟨b,E+k*4+1,J⟩=I (.int γ (wd (l.getD k 0#256) 1)))/\
  (∀ e:EW W,e.W.cell? ⟨b,E+k*4+2,J⟩=I (.int γ (wd (l.getD k 0#256) 2)))/\(∀ e:EW W,e.W.cell? ⟨b,E+k*4+3,J⟩=I (.int γ (wd (l.getD k 0#256) 3))):=by
 have H:∀ j,j<4->W.cell? ⟨b,E+k*4+j,J⟩=I (.int γ (wd (l.getD k 0#256) j)):=λj T=>by
  have:=h (k*4+j) (by omega)
  rwa [show (k*4+j) / 4=k by omega,show (k*4+j) % 4=j by omega,<-Nat.add_assoc] at this
 exact⟨A4 (H 0 (by omega)),A4 (H 1 (by omega)),A4 (H 2 (by omega)),A4 (H 3 (by omega))⟩
theorem u8n (k:Nat) (h:k<256):(ϔ k).toNat=k:=by simp;omega
theorem Wm (c:Cls) (k:Nat) (T:k<=256) (x:UInt8):x∈Au c k↔x.toNat<k/\c.getLsbD x.toNat=Α:=by
 induction k with
 | zero=>simp[Au]
 | succ k G=>
  have G:=G (by omega);have hx:x=ϔ k↔x.toNat=k:=by rw[<-UInt8.toNat_inj,u8n k (by omega)]
  simp only[Au];split
  ·rename_i h
   rw[Ä,G,ϖ,hx];constructor
   ·rintro (⟨h1,E⟩|h1)
    ·exact⟨by omega,E⟩
    exact⟨by omega,by rw[h1];exact h⟩
   rintro⟨h1,E⟩;by_cases H:x.toNat=k
   ·exact .inr H
   exact .inl ⟨by omega,E⟩
  rename_i h
  rw[G];constructor
  ·rintro⟨h1,E⟩;exact⟨by omega,E⟩
  rintro⟨h1,E⟩;refine⟨?_,E⟩;by_cases H:x.toNat=k
  ·rw[H] at E;exact absurd E h
  omega
theorem M3 (c:Cls) (x:UInt8):x∈Au c 256↔c.getLsbD x.toNat=Α:=by rw[Wm c 256 (Υ _)];exact⟨λh=>h.2,λh=>⟨x.toNat_lt,h⟩⟩
theorem Jf (c:Cls) (h:c≠0#256):0<=Bx (Au c 256)/\Bx (Au c 256)<256/\c.getLsbD (Bx (Au c 256)).toNat=Α:=by
 cases hb:Au c 256 with
 | nil=>
  exfalso;apply h
  apply BitVec.eq_of_getLsbD_eq;intro i hi;rw[ï];cases hc:c.getLsbD i
  ·rfl
  have:=(M3 c (ϔ i)).2 (by rw[u8n i hi];exact hc);rw[hb] at this;cases this
 | cons x t=>have hx:=(M3 c x).1 (by rw[hb];exact É);have:=x.toNat_lt;simp only[Bx];exact⟨by omega,by omega,by simpa using hx⟩
def Dis (a b:Cls):Prop:=∀ i,¬ (a.getLsbD i=Α/\b.getLsbD i=Α)
theorem T2 (k c x:Cls) (h:x∈Ed k c) (i:Nat) (hi:x.getLsbD i=Α):c.getLsbD i=Α:=by have:=(List.mem_filter.1 h).1;simp only[ù,è,or_false] at this;rcases this with rfl|rfl<;>(rw[ú] at hi;simp only[ς] at hi;exact hi.1)
theorem FA (k c:Cls):(Ed k c).Pairwise Dis:=by unfold Ed;refine List.Pairwise.filter _ ?_;refine List.Pairwise.cons (λy G=>?_) (List.pairwise_singleton _ _);simp only[ϖ] at G;subst G;rintro i ⟨h1,E⟩;simp only[ú,BitVec.getLsbD_not,ς,Bool.not_eq_true'] at h1 E;rw[h1.2] at E;exact absurd E.2.2 (by simp)
theorem EX (k:Cls) (L:List Cls) (h:L.Pairwise Dis):(Dc k L).Pairwise Dis:=by unfold Dc;rw[List.pairwise_flatMap];refine⟨λc _=>FA k c,h.imp ?_⟩;intro a b E x hx y G i ⟨h1,H⟩;exact E i ⟨T2 k a x hx i h1,T2 k b y G i H⟩
def key (c:Cls):Int:=Bx (Au c 256)
theorem Dis.symm {a b:Cls} (h:Dis a b):Dis b a:=λi ⟨h1,E⟩=>h i ⟨E,h1⟩
theorem OC {L:List Cls} (hd:L.Pairwise Dis) (E:∀ c∈L,c≠0#256) (a b:Cls) (G:a∈L) (hb:b∈L) (h:key a=key b):a=b:=by
 have h1:=(Jf a (E a G)).2.2;have H:=(Jf b (E b hb)).2.2;apply Å;intro T;have X:Dis a b:=by
  obtain⟨s,t,rfl⟩:=List.append_of_mem G;rw[Ä,ù] at hb;rcases hb with hb|hb|hb
  ·exact ((List.pairwise_append.1 hd).2.2 b hb a É).symm
  ·exact absurd hb.symm T
  exact (List.pairwise_cons.1 (List.pairwise_append.1 hd).2.1).1 b hb
 unfold key at h;rw[<-h] at H;exact X _ ⟨h1,H⟩
def Alk (l:List Cls) (i j:Nat):Prop:=∀ c∈l,c.getLsbD i=c.getLsbD j
structure IsCells (l L:List Cls):Prop where
 dis:L.Pairwise Dis
 nz:∀ c∈L,c≠0#256
 cover:∀ i,i<256->∃ c∈L,c.getLsbD i=Α
 cls:∀ c∈L,∀ i,i<256->c.getLsbD i=Α->∀ j,j<256->(c.getLsbD j=Α↔Alk l i j)
theorem P0 (k c x:Cls):x∈Ed k c↔(x=c &&& k\/x=c &&& ~~~k)/\x≠0#256:=by unfold Ed;rw[List.mem_filter];simp
theorem Ku {c:Cls} {i:Nat} (h:c.getLsbD i=Α):c≠0#256:=by rintro rfl;simp at h
theorem N5 {c:Cls} (h:c≠0#256):∃ i,i<256/\c.getLsbD i=Α:=by have h1:=Jf c h;exact⟨_,by omega,h1.2.2⟩
theorem OF {l L:List Cls} (k:Cls) (h:IsCells l L):IsCells (l++[k]) (Dc k L) where
 dis:=EX k L h.dis
 nz:=T1 k L
 cover:=λi hi=>by
  obtain⟨c,hc,H⟩:=h.cover i hi;cases T:k.getLsbD i
  ·have hx:(c &&& ~~~k).getLsbD i=Α:=by rw[ú,BitVec.getLsbD_not,H,T];simp[hi]
   exact⟨_,List.mem_flatMap.2 ⟨c,hc,(P0 k c _).2 ⟨.inr rfl,Ku hx⟩⟩,hx⟩
  have hx:(c &&& k).getLsbD i=Α:=by rw[ú,H,T];rfl
  exact⟨_,List.mem_flatMap.2 ⟨c,hc,(P0 k c _).2 ⟨.inl rfl,Ku hx⟩⟩,hx⟩
 cls:=λx hx i hi E j G=>by
  obtain⟨c,hc,hx⟩:=List.mem_flatMap.1 hx;obtain⟨hx,-⟩:=(P0 k c x).1 hx;have X:Alk (l++[k]) i j↔Alk l i j/\k.getLsbD i=k.getLsbD j:=by
   constructor
   ·intro h;exact⟨λc hc=>h c (by simp[hc]),h k (by simp)⟩
   rintro⟨h1,h2⟩ c hc;rw[Ä,ϖ] at hc;rcases hc with hc|rfl
   ·exact h1 c hc
   exact h2
  rw[X];rcases hx with rfl|rfl
  ·rw[ú,ς] at E;rw[<-h.cls c hc i hi E.1 j G,ú,ς,E.2];cases k.getLsbD j<;>simp
  simp only[ú,BitVec.getLsbD_not,hi,G,decide_true,Ð,ς,Bool.not_eq_true'] at E ⊢;rw[<-h.cls c hc i hi E.1 j G,E.2];cases k.getLsbD j<;>simp
theorem Xw (l:List Cls):IsCells l (Ft l):=by
 have:∀ (l m L:List Cls),IsCells m L->IsCells (m++l) (l.foldl (λL k=>Dc k L) L):=λl=>by
  induction l with
  | nil=>intro m L h;rw[List.append_nil];exact h
  | cons k l E=>intro m L h;have:=E (m++[k]) _ (OF k h);rw[ê,List.singleton_append] at this;exact this
 have h0:IsCells [] [allC]:=by
  refine⟨List.pairwise_singleton _ _,full_one.2,λi hi=>⟨allC,ϖ.2 rfl,?_⟩,λc hc i hi _ j G=>?_⟩
  ·unfold allC;rw[BitVec.getLsbD_not,ï];simp[hi]
  rw[ϖ] at hc;subst hc;constructor
  ·intro _ c hc;cases hc
  intro _;unfold allC;rw[BitVec.getLsbD_not,ï];simp[G]
 exact this l [] [allC] h0
theorem IsCells.perm {l L M:List Cls} (h:IsCells l L) (E:M.Perm L):IsCells l M where
 dis:=E.symm.pairwise h.dis (λG=>Dis.symm G)
 nz:=λc hc=>h.nz c (E.mem_iff.1 hc)
 cover:=λi hi=>by obtain⟨c,hc,hi⟩:=h.cover i hi;exact⟨c,E.mem_iff.2 hc,hi⟩
 cls:=λc hc=>h.cls c (E.mem_iff.1 hc)
theorem IsCells.nodup {l L:List Cls} (h:IsCells l L):L.Nodup:=by refine List.Pairwise.imp_of_mem ?_ h.dis;rintro a b E hb G rfl;obtain⟨i,_,hi⟩:=N5 (h.nz a E);exact G i ⟨hi,hi⟩
theorem IsCells.sub {l m L M:List Cls} (h:IsCells l L) (G:IsCells m M) (H:∀ i j,i<256->j<256->(Alk l i j↔Alk m i j)) (c:Cls) (hc:c∈L):c∈M:=by
 obtain⟨i,hi,T⟩:=N5 (h.nz c hc);obtain⟨d,hd,X⟩:=G.cover i hi;have:c=d:=by apply BitVec.eq_of_getLsbD_eq;intro j E;have h1:=h.cls c hc i hi T j E;have h2:=G.cls d hd i hi X j E;rw[H i j hi E] at h1;rw[ϴ,h1,h2]
 rw[this];exact hd
theorem IsCells.eq {l m L M:List Cls} (h:IsCells l L) (E:IsCells m M) (G:∀ i j,i<256->j<256->(Alk l i j↔Alk m i j)) (T:L.Pairwise λa b=>key a<=key b) (hM:M.Pairwise λa b=>key a<=key b):L=M:=by
 have H:L.Perm M:=(List.perm_ext_iff_of_nodup h.nodup E.nodup).2 λc=>⟨h.sub E G c,E.sub h (λi j hi X=>(G i j hi X).symm) c⟩
 exact List.Perm.eq_of_pairwise (λa b ha hb h1 h2=>OC E.dis E.nz a b (H.mem_iff.1 ha) hb (Int.le_antisymm h1 h2)) T hM H
theorem OB (c:Cls) (m:Nat) (hm:m<256) (h:c.getLsbD m=Α) (T:∀ j,j<m->c.getLsbD j=Ε):key c=m:=by
 have h1:=Jf c (Ku h);have X:=T (Bx (Au c 256)).toNat;unfold key;have h3:¬ (Bx (Au c 256)).toNat<m:=λaa=>by rw[X aa] at h1;exact absurd h1.2.2 (by simp)
 have h4:Bx (Au c 256)<=m:=by
  have E:ϔ m∈Au c 256:=(M3 c _).2 (by rw[u8n m hm];exact h);have G:(Au c 256).Pairwise λa b=>a.toNat<b.toNat:=by
   have:∀ k,k<=256->(Au c k).Pairwise λa b=>a.toNat<b.toNat:=λk=>by
    induction k with
    | zero=>intro _;exact List.Pairwise.nil
    | succ k H=>
     intro hk;simp only[Au];split
     ·rw[List.pairwise_append];refine⟨H (by omega),List.pairwise_singleton _ _,λa ha b hb=>?_⟩;rw[ϖ] at hb;subst hb;rw[u8n k (by omega)];exact ((Wm c k (by omega) a).1 ha).1
     exact H (by omega)
   exact this 256 (Υ _)
  cases hb:Au c 256 with
  | nil=>rw[hb] at E;cases E
  | cons x t=>
   rw[hb] at E G;simp only[Bx];rcases ù.1 E with e|e
   ·rw[<-e,u8n m hm];exact Int.le_refl _
   have:=(List.pairwise_cons.1 G).1 _ e;rw[u8n m hm] at this;omega
 omega
theorem B9 {α:Type} (l:List α) (x d:α) (k:Nat) (h:k<l.length):(l++[x]).getD k d=l.getD k d:=by rw[Ζ,ϊ h,<-Ζ]
theorem Dt {α:Type} (l:List α) (x d:α):(l++[x]).getD l.length d=x:=by rw[Ζ,χ (Υ _)];simp
theorem Qv {α:Type} (l:List α) (x d:α) (k:Nat) (h:k<l.length):(l.set k x).getD k d=x:=by simp[Ζ,h]
theorem Qw {α:Type} (l:List α) (x d:α) (k m:Nat) (h:k≠m):(l.set k x).getD m d=l.getD m d:=by simp[Ζ,List.getElem?_set_ne h]
theorem Ky {α:Type} {l:List α} {x d:α} (h:x∈l):∃ k,k<l.length/\l.getD k d=x:=by obtain⟨k,E,rfl⟩:=List.mem_iff_getElem.1 h;exact⟨k,E,by rw[Ζ,Θ E];rfl⟩
theorem CS (c d:Cls):(c==d)=(wd c 0==wd d 0&&(wd c 1==wd d 1&&(wd c 2==wd d 2&&wd c 3==wd d 3))):=by
 rw[ϴ];simp only[beq_iff_eq,ς];constructor
 ·rintro rfl;exact⟨rfl,rfl,rfl,rfl⟩
 rintro⟨h0,h1,E,G⟩;unfold wd at *;exact CO λi hi=>by
  match i,hi with
  | 0,_=>omega
  | 1,_=>omega
  | 2,_=>omega
  | 3,_=>omega
theorem IP (a b c d:Int) (w:Γ):(part 89 #[.int γ a,.int γ b,.int γ c,.int γ d] 0).run Ι w=.ok (.int γ a) w:=by kernel_rfl
theorem IO1 (a b c d:Int) (w:Γ):(part 89 #[.int γ a,.int γ b,.int γ c,.int γ d] 1).run Ι w=.ok (.int γ b) w:=by kernel_rfl
theorem IN (a b c d:Int) (w:Γ):(part 89 #[.int γ a,.int γ b,.int γ c,.int γ d] 2).run Ι w=.ok (.int γ c) w:=by kernel_rfl
theorem IM (a b c d:Int) (w:Γ):(part 89 #[.int γ a,.int γ b,.int γ c,.int γ d] 3).run Ι w=.ok (.int γ d) w:=by kernel_rfl
theorem TH:Ι.cellsOf 89=1:=by kernel_rfl
theorem Ml (c d:Cls) (w:Γ):(Op.equalIn 10000 91 (.agg (Ab c)) (.agg (Ab d))).run Ι w=.ok (c==d) w:=by
 obtain⟨i,hi⟩:∃ i,Ι.info? 89=I i:=by
  cases h:Ι.info? 89 with
  | some i=>exact⟨i,rfl⟩
  | none => exact absurd h (by intro h; have : (Ι.info? 89).isSome = Α := by kernel_rfl
                               rw[h] at this;cases this)
 rw[CS];have h:=run_equalIn_array (P:=Ι) (w:=w) 9999 (Ab c) (Ab d) ϋ hi;refine h.trans ?_;rw[TH];have e:∀ (x y:Int) (w:Γ),(Op.equalIn 9999 89 (.int γ x) (.int γ y)).run Ι w=.ok (x==y) w:=λx y w=>run_equalIn_int (P:=Ι) w 9998 89 γ γ x y Tryz.underlying89
 simp only[π,π.loop,Op.eqItems,Sem.run_bind,IP,Result.andThen_ok,e,Nat.mul_one];cases wd c 0==wd d 0
 ·simp
 simp only[Bool.not_true,Í,if_false,Ð,Sem.run_bind,IO1,Result.andThen_ok,e];cases wd c 1==wd d 1
 ·simp
 simp only[Bool.not_true,Í,if_false,Ð,Sem.run_bind,IN,Result.andThen_ok,e];cases wd c 2==wd d 2
 ·simp
 simp only[Bool.not_true,Í,if_false,Ð,Sem.run_bind,IM,Result.andThen_ok,e];cases wd c 3==wd d 3<;>simp
theorem KS (c d:Cls) (w:Γ):(binOp .neq 91 (.agg (Ab c)) (.agg (Ab d))).run Ι w=.ok (.bool (c != d)) w:=by rw[run_neq_struct,Ml];rfl
theorem Lj:Ι.eqGuardType Ι.depth 91=Ε:=by kernel_rfl
def Cm (c:Cls):List Δ:=[.int γ (wd c 0),.int γ (wd c 1),.int γ (wd c 2),.int γ (wd c 3)]
theorem Y2 (c:Cls):∀ j,j<4->(Cm c)[j]! = .int γ (wd c j)
 | 0,_=>rfl
 | 1,_=>rfl
 | 2,_=>rfl
 | 3,_=>rfl
 | n+4,h=>by omega
def Ci (L:List Cls):List Δ:=L.flatMap Cm
theorem Nk (L M:List Cls):Ci (L++M)=Ci L++Ci M:=by simp[Ci]
theorem Nj (c:Cls):Ci [c]=Cm c:=by simp[Ci]
theorem Ih (L:List Cls):(Ci L).length=L.length*4:=by
 induction L with
 | nil=>rfl
 | cons c L E=>show (Cm c++Ci L).length=_;rw[Ν,E,ϒ];show 4+_=_;omega
theorem Fr (L:List Cls):∀ i,i<L.length*4->(Ci L)[i]? = I (.int γ (wd (L.getD (i / 4) 0#256) (i % 4))):=by
 induction L with
 | nil=>intro i h;simp at h
 | cons c L G=>
  intro i h;show (Cm c++Ci L)[i]? = _;by_cases E:i<4
  ·rw[ϊ (show i<(Cm c).length from E),Nat.div_eq_of_lt E,Nat.mod_eq_of_lt E]
   match i,E with
   | 0,_=>rfl
   | 1,_=>rfl
   | 2,_=>rfl
   | 3,_=>rfl
   | n+4,h=>omega
  simp only[ϒ] at h;rw[χ (show (Cm c).length<=i from by show 4<=i;omega)];show (Ci L)[i-4]? = _;rw[G (i-4) (by omega),show i / 4=(i-4) / 4+1 by omega,show i % 4=(i-4) % 4 by omega];rfl
abbrev Row (W:Γ) (base:Nat) (v:Δ) (L:List Cls):Prop:=W.ownsRow base 91 4 v L.length (Ci L)
theorem Row.cells {W:Γ} {base:Nat} {v:Δ} {L:List Cls} (h:Row W base v L) (H:0<L.length):∃ g E,v=U (I ⟨g,0,J⟩) L.length E/\base<=g/\g<W.heap.size/\(∀ i,W.frozen? ⟨g,i,J⟩=Ε)/\
  ∀ i,i<L.length*4->W.cell? ⟨g,0+i,J⟩=I (.int γ (wd (L.getD (i / 4) 0#256) (i % 4))):=by
 obtain⟨T,⟨_,h0⟩|⟨g,E,cur,rfl,hb,hg,X,aa,ab,G⟩⟩:=h
 ·omega
 refine⟨g,E,rfl,hb,Al hg,λi=>?_,λi hi=>?_⟩
 ·simp[Γ.frozen?,hg]
 rw[Ϣ,Τ W g i cur 91 (0,0) hg,<-Fr L i hi,<-G,List.getElem?_take,if_pos hi,Ϲ]
theorem Row.toCs {W:Γ} {base:Nat} {v:Δ} {L:List Cls} (h:Row W base v L) (G:L.length<=4611686018427387904):Cs W v L:=by
 refine⟨G,?_⟩;by_cases h0:L.length=0
 ·obtain⟨T,⟨rfl,_⟩|⟨g,E,cur,rfl,_⟩⟩:=h
  ·exact .inl ⟨h0,_,_,rfl⟩
  exact .inl ⟨h0,_,_,by rw[h0]⟩
 obtain⟨g,E,rfl,_,H,_,hc⟩:=h.cells (by omega);exact .inr ⟨by omega,g,0,E,rfl,H,hc⟩
theorem Row.mono {W:Γ} {b b':Nat} {v:Δ} {L:List Cls} (h:Row W b v L) (hb:b'<=b):Row W b' v L:=by
 obtain⟨E,h|⟨g,G,cur,H,hg,r⟩⟩:=h
 ·exact⟨E,.inl h⟩
 exact⟨E,.inr ⟨g,G,cur,H,Nat.le_trans hb hg,r⟩⟩
theorem Jr {W:Γ} {b E:Nat} {l:List Cls} (h:∀ i,i<l.length*4->W.cell? ⟨b,E+i,J⟩=I (.int γ (wd (l.getD (i / 4) 0#256) (i % 4)))) (k:Nat) (G:k<l.length):W.cell? ⟨b,E+k*4,J⟩=I (.int γ (wd (l.getD k 0#256) 0))/\W.cell? ⟨b,E+k*4+1,J⟩=I (.int γ (wd (l.getD k 0#256) 1))/\
  W.cell? ⟨b,E+k*4+2,J⟩=I (.int γ (wd (l.getD k 0#256) 2))/\W.cell? ⟨b,E+k*4+3,J⟩=I (.int γ (wd (l.getD k 0#256) 3)):=by
 obtain⟨a0,H,T,X⟩:=Rg h k G;exact⟨a0 ⟨W,Κ W⟩,H ⟨W,Κ W⟩,T ⟨W,Κ W⟩,X ⟨W,Κ W⟩⟩
theorem KC (w:Γ):Ϟ Ι 64 #[.agg zA] w λe w'=>e=Ω (.agg (Ab allC))/\Ext w w':=by
 have:=V4 0#256 w
 rwa [encA_zero] at this
theorem OW (a b c d e f g h:Int) (w:Γ):(Instr.index 194 (.agg #[.int γ a,.int γ b,.int γ c,.int γ d,.int γ e,.int γ f,.int γ g,.int γ h]) (.int Χ 0)).run Ι w=.ok (.agg #[.int γ a,.int γ b,.int γ c,.int γ d]) w:=by kernel_rfl
theorem OV (a b c d e f g h:Int) (w:Γ):(Instr.index 194 (.agg #[.int γ a,.int γ b,.int γ c,.int γ d,.int γ e,.int γ f,.int γ g,.int γ h]) (.int Χ 1)).run Ι w=.ok (.agg #[.int γ e,.int γ f,.int γ g,.int γ h]) w:=by kernel_rfl
theorem Qn:(Ι.info? 91).map (λi=>(i.zero,i.size,i.bytes))=I (I (.agg zA),4,32):=by kernel_rfl
def Ef (x y:Cls):Nat->List Cls
 | 0=>[]
 | 1=>if x=0#256 then [] else [x]
 | _=>(if x=0#256 then [] else [x])++(if y=0#256 then [] else [y])
theorem IE (x y:Cls):Ef x y 0=[]:=rfl
theorem ID (S:List Cls) (x y:Cls):S++Ef x y 1=(S++Ef x y 0)++if (x==0#256) then [] else [x]:=by simp[Ef]
theorem IC (S:List Cls) (x y:Cls):S++Ef x y 2=(S++Ef x y 1)++if (y==0#256) then [] else [y]:=by simp[Ef]
theorem Vg (S:List Cls) (x y:Cls) (q:Nat):(S++Ef x y q).length<=S.length+2:=by
 match q with
 | 0=>simp[Ef]
 | 1=>simp only[Ef,Ν];split<;>simp
 | n+2=>simp only[Ef,Ν];split<;>split<;>simp
theorem O8 (w:Γ) (x:Cls):∀ j u,(Cm x)[j]? = I u->(w.alloc (Β (Ab x) 91)).cell? ((⟨w.heap.size,0,J⟩:Addr).add j)=I u:=by intro j u h;rw[show ((⟨w.heap.size,0,J⟩:Addr).add j)=⟨w.heap.size,j,J⟩ by rw[Addr.add_lit,Ϣ],Τ _ _ _ _ 91 (0,0) (Ã w _)];rw[<-List.getElem?_toArray] at h;exact h
theorem Aj {W:Γ} {b b':Nat} {e G:ϫ} {s s' n m:Nat} {v u:Δ} {xs ys:List Δ} (h:W.ownsRow b e s v n xs) (H:W.ownsRow b' G s' u m ys) (T:e≠G):v.ownBlock=J\/v.ownBlock≠u.ownBlock:=by
 obtain⟨_,⟨rfl,_⟩|⟨g,aa,cur,rfl,_,hg,_⟩⟩:=h
 ·exact .inl rfl
 obtain⟨_,⟨rfl,_⟩|⟨X,ab,ad,rfl,_,E,_⟩⟩:=H
 ·exact .inr (by simp[Δ.ownBlock])
 refine .inr λhb=>?_
 have:g=X:=by simpa [Δ.ownBlock] using hb
 subst this;rw[hg] at E;simp at E;exact T E.2
theorem QI (L:List Cls) (k:Nat) (c:Cls) (G:k<L.length) :
  Ci (L.set k c)=((((Ci L).set (k*4) (.int γ (wd c 0))).set (k*4+1) (.int γ (wd c 1))).set (k*4+1+1) (.int γ (wd c 2))).set (k*4+1+1+1) (.int γ (wd c 3)):=by
 have E:=Ih L;apply List.ext_getElem?;intro i;by_cases hi:i<L.length*4
 ·rw[Fr _ i (by simpa using hi)];simp only[List.getElem?_set,ο,E];by_cases hd:i / 4=k
  ·subst hd;rw[Qv _ _ _ _ G];have:i % 4=0\/i % 4=1\/i % 4=2\/i % 4=3:=by omega
   rcases this with h|h|h|h
   ·rw[if_neg (by omega),if_neg (by omega),if_neg (by omega),if_pos (by omega),if_pos (by omega),h]
   ·rw[if_neg (by omega),if_neg (by omega),if_pos (by omega),if_pos (by omega),h]
   ·rw[if_neg (by omega),if_pos (by omega),if_pos (by omega),h]
   rw[if_pos (by omega),if_pos (by omega),h]
  rw[Qw _ _ _ _ _ (Ne.symm hd),if_neg (by omega),if_neg (by omega),if_neg (by omega),if_neg (by omega),Fr _ i hi]
 rw[û (by rw[Ih,ο];omega),û (by simp only[ο,E];omega)]
theorem GH {W:Γ} {base g E:Nat} {L:List Cls} (h:Row W base (U (I ⟨g,0,J⟩) L.length E) L) (k:Nat) (T:k<L.length) (c:Cls) :
  Row (W.setCells g (k*4) (Ab c).toList) base (U (I ⟨g,0,J⟩) L.length E) (L.set k c)/\W.grownBy (W.setCells g (k*4) (Ab c).toList) (I g):=by
 have e:W.setCells g (k*4) (Ab c).toList=(((W.setCell ⟨g,k*4,J⟩ (.int γ (wd c 0))).setCell ⟨g,k*4+1,J⟩ (.int γ (wd c 1))).setCell ⟨g,k*4+1+1,J⟩ (.int γ (wd c 2))).setCell ⟨g,k*4+1+1+1,J⟩ (.int γ (wd c 3)):=rfl;have h0:=h.stored (k*4) (.int γ (wd c 0));have h1:=h0.1.stored (k*4+1) (.int γ (wd c 1));have G:=h1.1.stored (k*4+1+1) (.int γ (wd c 2));have H:=G.1.stored (k*4+1+1+1) (.int γ (wd c 3));rw[e];refine⟨?_,h0.2.trans (h1.2.trans (G.2.trans H.2))⟩;show Γ.ownsRow _ _ _ _ _ _ _;rw[QI L k c T,ο];exact H.1
structure Dfa where
 cls:List Cls
 n:List (List Nat)
 acc:List Bool
def Am (L:List Cls) (b:Nat):Nat:=L.findIdx λc=>c.getLsbD b
namespace Dfa
def ent2 (d:Dfa) (s k:Nat):Nat:=(d.n.getD s []).getD k 0
def stp (d:Dfa) (s b:Nat):Nat:=d.ent2 s (Am d.cls b)
def run (d:Dfa) (s:Nat) (w:List UInt8):Nat:=w.foldl (λs x=>d.stp s x.toNat) s
def ok (d:Dfa) (s:Nat):Bool:=d.acc.getD s Ε
def has (d:Dfa) (w:List UInt8):Bool:=d.ok (d.run 0 w)
def ent (d:Dfa) (p:Nat):Nat:=d.ent2 (p / d.cls.length) (p % d.cls.length)
end Dfa
structure Parts (L:List Cls):Prop where
 nz:∀ c∈L,c≠0#256
 dis:L.Pairwise Dis
 cov:∀ i,i<256->∃ c∈L,c.getLsbD i=Α
structure Val (d:Dfa):Prop where
 pos:0<d.n.length
 accL:d.acc.length=d.n.length
 row:∀ s,s<d.n.length->(d.n.getD s []).length=d.cls.length
 tgt:∀ s,s<d.n.length->∀ k,k<d.cls.length->d.ent2 s k<d.n.length
 parts:Parts d.cls
theorem cell_lt {L:List Cls} (h:Parts L) {b:Nat} (hb:b<256):Am L b<L.length:=by obtain⟨c,hc,E⟩:=h.cov b hb;exact List.findIdx_lt_length_of_exists ⟨c,hc,E⟩
theorem Gn {L:List Cls} (h:Parts L) {b:Nat} (hb:b<256):(L.getD (Am L b) 0#256).getLsbD b=Α:=by have:=List.findIdx_getElem (w:=cell_lt h hb);rw[Ζ,Θ (cell_lt h hb)];exact this
theorem Gm {L:List Cls} (h:Parts L) {b k:Nat} (hb:b<256) (E:k<L.length) (hm:(L.getD k 0#256).getLsbD b=Α):Am L b=k:=by
 have h1:=Gn h hb;have G:=cell_lt h hb;rw[Ζ,Θ G] at h1;rw[Ζ,Θ E] at hm;rcases Nat.lt_trichotomy (Am L b) k with H|he|hg
 ·exact absurd ⟨h1,hm⟩ (Ϧ.1 h.dis _ _ G E H b)
 ·exact he
 exact absurd ⟨hm,h1⟩ (Ϧ.1 h.dis _ _ E G hg b)
theorem Lw {L:List Cls} (h:Parts L) {k:Nat} (E:k<L.length):∃ b,b<256/\Am L b=k:=by have G:=h.nz (L.getD k 0#256) (by rw[Ζ,Θ E];exact ϯ E);obtain⟨b,hb,H⟩:=N5 G;exact⟨b,hb,Gm h hb E H⟩
theorem So {L:List Cls} (h:Parts L) {i j:Nat} (hi:i<256) (E:j<256):Alk L i j↔Am L i=Am L j:=by
 constructor
 ·intro H;refine (Gm h E (cell_lt h hi) ?_).symm;rw[<-H _ (by rw[Ζ,Θ (cell_lt h hi)];exact ϯ _)];exact Gn h hi
 intro he c hc;obtain⟨k,G,rfl⟩:=Ky (d:=0#256) hc;rw[ϴ];constructor
 ·intro hb;have:=Gm h hi G hb;rw[<-this,he];exact Gn h E
 intro hb;have:=Gm h E G hb;rw[<-this,<-he];exact Gn h hi
theorem Nb {L:List Cls} (h:Parts L):IsCells L L where
 dis:=h.dis
 nz:=h.nz
 cover:=h.cov
 cls:=λc hc i hi H j E=>by obtain⟨k,G,rfl⟩:=Ky (d:=0#256) hc;rw[So h hi E,Gm h hi G H];exact⟨λhb=>(Gm h E G hb).symm,λe=>by rw[e];exact Gn h E⟩
theorem Val.stp_lt {d:Dfa} (h:Val d) {s b:Nat} (E:s<d.n.length) (hb:b<256):d.stp s b<d.n.length:=
 h.tgt s E _ (cell_lt h.parts hb)
theorem Val.run_lt {d:Dfa} (h:Val d):∀ (w:List UInt8) {s:Nat},s<d.n.length->d.run s w<d.n.length
 | [],_,E=>E
 | x::w,_,E=>h.run_lt w (h.stp_lt E x.toNat_lt)
theorem Bf (d:Dfa) (s:Nat) (u w:List UInt8):d.run s (u++w)=d.run (d.run s u) w:=by simp[Dfa.run,ô]
def mxf (a:Nat->Nat):Nat->Nat
 | 0=>0
 | p+1=>max (mxf a p) (a p)
theorem Wg (a:Nat->Nat) (p q:Nat) (h:q<p):a q<=mxf a p:=by
 induction p with
 | zero=>omega
 | succ p E=>
  simp only[mxf];by_cases e:q=p
  ·subst e;omega
  have:=E (by omega);omega
theorem Ha (a b:Nat->Nat) (p:Nat) (h:∀ q,q<p->a q=b q):mxf a p=mxf b p:=by
 induction p with
 | zero=>rfl
 | succ p E=>simp only[mxf];rw[E λq G=>h q (by omega),h p (by omega)]
structure Cano (d:Dfa):Prop where
 val:Val d
 reach:∀ s,s<d.n.length->∃ w,d.run 0 w=s
 red:∀ s t,s<d.n.length->t<d.n.length->(∀ w,d.ok (d.run s w)=d.ok (d.run t w))->s=t
 col:∀ i j,i<d.cls.length->j<d.cls.length->(∀ s,s<d.n.length->d.ent2 s i=d.ent2 s j)->i=j
 srt:d.cls.Pairwise λa b=>key a<=key b
 rgf:∀ p,p<d.n.length*d.cls.length->d.ent p<=mxf d.ent p+1
section
variable {d e:Dfa}
theorem LQ (hd:Cano d) (he:Cano e) (h:∀ w,d.has w=e.has w):∃ f:Nat->Nat,(∀ w,f (d.run 0 w)=e.run 0 w):=by
 have key:∀ w w',d.run 0 w=d.run 0 w'->e.run 0 w=e.run 0 w':=λw w' G=>by
  refine he.red _ _ (he.val.run_lt _ he.val.pos) (he.val.run_lt _ he.val.pos) λu=>?_
  rw[<-Bf,<-Bf];show e.has _=e.has _;rw[<-h,<-h];unfold Dfa.has;rw[Bf,Bf,G]
 classical
 refine⟨λs=>if E:∃ w,d.run 0 w=s then e.run 0 E.choose else 0,λw=>?_⟩;have E:∃ w',d.run 0 w'=d.run 0 w:=⟨w,rfl⟩;simp only[dif_pos E];exact key _ _ E.choose_spec
theorem Fu (hd:Cano d) (he:Cano e) (h:∀ w,d.has w=e.has w):d=e:=by
 obtain⟨f,hf⟩:=LQ hd he h;have f0:f 0=0:=hf [];have ad:∀ s,s<d.n.length->∀ b,b<256->f (d.stp s b)=e.stp (f s) b:=λs E b hb=>by
  obtain⟨w,rfl⟩:=hd.reach s E;have h1:=hf (w++[ϔ b]);rw[Bf,Bf,<-hf w] at h1;have H:∀ (x:Dfa) (s:Nat),x.run s [ϔ b]=x.stp s b:=λx s=>by show x.stp s (ϔ b).toNat=_;rw[u8n b hb]
  rw[H,H] at h1;exact h1
 have ak:∀ s,s<d.n.length->f s<e.n.length:=λs E=>by obtain⟨w,rfl⟩:=hd.reach s E;rw[hf];exact he.val.run_lt _ he.val.pos
 have an:∀ s,s<d.n.length->e.ok (f s)=d.ok s:=λs E=>by obtain⟨w,rfl⟩:=hd.reach s E;rw[hf];exact (h w).symm
 have aw:∀ (w:List UInt8) s,s<d.n.length->f (d.run s w)=e.run (f s) w:=λw s E=>by obtain⟨u,rfl⟩:=hd.reach s E;rw[<-Bf,hf,Bf,hf]
 have ax:∀ s t,s<d.n.length->t<d.n.length->f s=f t->s=t:=λs t E G bf=>hd.red s t E G λw=>by rw[<-an _ (hd.val.run_lt w E),<-an _ (hd.val.run_lt w G),aw w s E,aw w t G,bf]
 have ay:∀ t,t<e.n.length->∃ s,s<d.n.length/\f s=t:=λt G=>by obtain⟨w,rfl⟩:=he.reach t G;exact⟨d.run 0 w,hd.val.run_lt w hd.val.pos,hf w⟩
 have az:∀ (x:Dfa),Cano x->∀ i j,i<256->j<256->(Am x.cls i=Am x.cls j↔∀ s,s<x.n.length->x.stp s i=x.stp s j):=λx hx i j hi hj=>⟨λhe s _=>by unfold Dfa.stp;rw[he],λE=>hx.col _ _ (cell_lt hx.val.parts hi) (cell_lt hx.val.parts hj) E⟩
 have af:d.cls=e.cls:=by
  refine (Nb hd.val.parts).eq (Nb he.val.parts) (λi j hi hj=>?_) hd.srt he.srt;rw[So hd.val.parts hi hj,So he.val.parts hi hj,az d hd i j hi hj,az e he i j hi hj];constructor
  ·intro E t G;obtain⟨s,ae,rfl⟩:=ay t G;rw[<-ad s ae i hi,<-ad s ae j hj,E s ae]
  intro G s E;exact ax _ _ (hd.val.stp_lt E hi) (hd.val.stp_lt E hj) (by rw[ad s E i hi,ad s E j hj,G _ (ak s E)])
 have hm:d.cls.length=e.cls.length:=by rw[af]
 have bg:∀ s,s<d.n.length->∀ k,k<d.cls.length->f (d.ent2 s k)=e.ent2 (f s) k:=λs E k T=>by obtain⟨b,hb,bh⟩:=Lw hd.val.parts T;have h1:=ad s E b hb;unfold Dfa.stp at h1;rw[<-af,bh] at h1;exact h1
 have ag:0<d.cls.length:=by obtain⟨c,hc,_⟩:=hd.val.parts.cov 0 (by omega);exact List.length_pos_of_mem hc
 have bj:∀ p,p<=d.n.length*d.cls.length->(∀ q,q<p->d.ent q=e.ent q)/\∀ t,t<=mxf d.ent p->f t=t:=by
  intro p;induction p with
  | zero=>exact λ_=>⟨λq hq=>by omega,λt G=>by simp only[mxf] at G;obtain rfl:t=0:=(by omega);exact f0⟩
  | succ p ih=>
   intro hp;obtain⟨a1,ah⟩:=ih (by omega);have E:p / d.cls.length<d.n.length:=Nat.div_lt_of_lt_mul (by rw[Nat.mul_comm];omega);have T:p % d.cls.length<d.cls.length:=Nat.mod_lt _ ag;have a6:p / d.cls.length<=mxf d.ent p:=by
    apply Å;intro hn;have bl:∀ (w:List UInt8) s,s<p / d.cls.length->d.run s w<p / d.cls.length:=λw=>by
     induction w with
     | nil=>intro s E;exact E
     | cons x w bm=>
      intro s ae;refine bm _ ?_;have a7:=cell_lt hd.val.parts x.toNat_lt;have hq:s*d.cls.length+Am d.cls x.toNat<p:=by
       have h1:s*d.cls.length+d.cls.length<=p / d.cls.length*d.cls.length:=by rw[<-Nat.succ_mul];exact Nat.mul_le_mul_right _ ae
       have H:=Nat.div_mul_le_self p d.cls.length;omega
      have X:=Wg d.ent p _ hq;have h4:d.ent (s*d.cls.length+Am d.cls x.toNat)=d.stp s x.toNat:=by unfold Dfa.ent Dfa.stp;rw[Nat.mul_comm,Nat.mul_add_div ag,Nat.div_eq_of_lt a7,Nat.add_zero,Nat.mul_add_mod,Nat.mod_eq_of_lt a7]
      show d.stp s x.toNat<_;omega
    obtain⟨w,hw⟩:=hd.reach _ E;have:=bl w 0 (by omega);omega
   have a8:=ah _ a6;have ba:e.ent p=f (d.ent p):=by unfold Dfa.ent;rw[bg _ E _ T,a8,<-hm]
   have bn:d.ent p<d.n.length:=hd.val.tgt _ E _ T;have bo:p<e.n.length*e.cls.length:=by have h1:=ak _ E;rw[a8] at h1;have H:=Nat.div_add_mod p d.cls.length;rw[<-hm];have X:(p / d.cls.length+1)*d.cls.length<=e.n.length*d.cls.length:=Nat.mul_le_mul_right _ h1;rw[Nat.succ_mul,Nat.mul_comm (p / d.cls.length)] at X;omega
   have b4:=hd.rgf p (by omega);have bp:=he.rgf p bo;rw[<-Ha d.ent e.ent p a1,ba] at bp;have bb:f (d.ent p)=d.ent p:=by
    by_cases aj:d.ent p<=mxf d.ent p
    ·exact ah _ aj
    have h1:¬ f (d.ent p)<=mxf d.ent p:=λhc=>by
     have H:=ah _ hc;have X:f (d.ent p)<d.n.length:=by have:=a6;omega
     exact aj (by rw[ax _ _ bn X H.symm];exact hc)
    omega
   refine⟨λq hq=>?_,λt G=>?_⟩
   ·by_cases bq:q=p
    ·subst bq;rw[ba,bb]
    exact a1 q (by omega)
   simp only[mxf] at G;by_cases aj:t<=mxf d.ent p
   ·exact ah t aj
   obtain rfl:t=d.ent p:=by omega
   exact bb
 obtain⟨br,bt⟩:=bj _ (Υ _);have ar:∀ (x:Dfa),0<x.cls.length->∀ s k,k<x.cls.length->x.ent (s*x.cls.length+k)=x.ent2 s k:=λx h0 s k T=>by unfold Dfa.ent;rw[Nat.mul_comm,Nat.mul_add_div h0,Nat.div_eq_of_lt T,Nat.add_zero,Nat.mul_add_mod,Nat.mod_eq_of_lt T]
 have bc:∀ n s k,s<n->k<d.cls.length->s*d.cls.length+k<n*d.cls.length:=λn s k E T=>by have:(s+1)*d.cls.length<=n*d.cls.length:=Nat.mul_le_mul_right _ E;rw[Nat.succ_mul] at this;omega
 have au:∀ t,t<d.n.length->f t=t:=λt G=>by
  obtain⟨w,hw⟩:=hd.reach t G;rcases List.eq_nil_or_concat w with rfl|⟨u,x,rfl⟩
  ·have:t=0:=hw.symm;rw[this];exact f0
  rw[List.concat_eq_append,Bf] at hw;have T:=cell_lt hd.val.parts x.toNat_lt;have hu:=hd.val.run_lt u hd.val.pos;refine bt t ?_;have h1:=Wg d.ent _ _ (bc _ _ _ hu T);rw[ar d ag _ _ T] at h1;have H:d.ent2 (d.run 0 u) (Am d.cls x.toNat)=t:=hw;rw[H] at h1;exact h1
 have hn:d.n.length=e.n.length:=by
  apply Nat.le_antisymm
  ·apply Å;intro hc;have:=ak e.n.length (by omega);rw[au _ (by omega)] at this;omega
  apply Å;intro hc;obtain⟨s,E,bu⟩:=ay d.n.length (by omega);rw[au s E] at bu;omega
 have bw:∀ s,s<d.n.length->d.n.getD s []=e.n.getD s []:=λs E=>by
  apply List.ext_getElem
  ·rw[hd.val.row s E,he.val.row s (by omega),hm]
  intro k h1 H;rw[hd.val.row s E] at h1;have X:=br _ (bc _ s k E h1);rw[ar d ag s k h1] at X;rw[hm,ar e (by omega) s k (by omega)] at X;unfold Dfa.ent2 at X;rw[Ζ (l:=d.n.getD s []),Ζ (l:=e.n.getD s []),Θ,Θ] at X;exact X
 have bd:d.n=e.n:=by
  apply List.ext_getElem hn;intro s h1 H;have:=bw s h1
  rwa [Ζ,Ζ,Θ h1,Θ H] at this
 have be:d.acc=e.acc:=by apply List.ext_getElem (by rw[hd.val.accL,he.val.accL,hn]);intro s h1 H;have:=an s (by rw[<-hd.val.accL];exact h1);rw[au s (by rw[<-hd.val.accL];exact h1)] at this;unfold Dfa.ok at this;rw[Ζ,Ζ,Θ h1,Θ H] at this;exact this.symm
 cases d;cases e
 simp only at af bd be;subst af;subst bd;subst be
 rfl
end
theorem D5 {α:Type} [DecidableEq α]:∀ (L M:List α),L.Nodup->(∀ x∈L,x∈M)->L.length<=M.length
 | [],M,_,_=>by simp
 | x::L,M,E,G=>by
  have hx:=G x É;have h1:=D5 L (M.erase x) (List.nodup_cons.1 E).2 λy H=>by
   rw[List.mem_erase_of_ne]
   ·exact G y (List.mem_cons_of_mem _ H)
   rintro rfl;exact (List.nodup_cons.1 E).1 H
  rw[List.length_erase_of_mem hx] at h1;have:=List.length_pos_of_mem hx;rw[ϒ];omega
theorem I9 (f:Nat->Nat) (n m:Nat) (h:∀ j,j<m->∃ i,i<n/\f i=j):m<=n:=by
 have:=D5 (π m) ((π n).map f) List.nodup_range λj E=>by obtain⟨i,hi,e⟩:=h j (ώ.1 E);exact Ϫ.2 ⟨i,ώ.2 hi,e⟩
 simpa using this
theorem JL (f:Nat->Nat) (m:Nat) (h:∀ j,j<m->∃ i,i<m/\f i=j) (i j:Nat) (hi:i<m) (G:j<m) (he:f i=f j):i=j:=by
 apply Å;intro H;have:=D5 (π m) (((π m).erase i).map f) List.nodup_range λq T=>by
  obtain⟨p,X,e⟩:=h q (ώ.1 T);by_cases E:p=i
  ·subst E;exact Ϫ.2 ⟨j,(List.mem_erase_of_ne (λe=>H e.symm)).2 (ώ.2 G),by rw[<-he,e]⟩
  exact Ϫ.2 ⟨p,(List.mem_erase_of_ne E).2 (ώ.2 X),e⟩
 rw[ι,List.length_erase_of_mem (ώ.2 hi)] at this;simp at this;omega
structure Tbl where
 cell:Nat->Nat
 cells:Nat
 n:List (List Nat)
 acc:List Bool
namespace Tbl
def ent2 (t:Tbl) (s k:Nat):Nat:=(t.n.getD s []).getD k 0
def stp (t:Tbl) (s b:Nat):Nat:=t.ent2 s (t.cell b)
def run (t:Tbl) (s:Nat) (w:List UInt8):Nat:=w.foldl (λs x=>t.stp s x.toNat) s
def ok (t:Tbl) (s:Nat):Bool:=t.acc.getD s Ε
def has (t:Tbl) (w:List UInt8):Bool:=t.ok (t.run 0 w)
end Tbl
structure TVal (t:Tbl):Prop where
 pos:0<t.n.length
 accL:t.acc.length=t.n.length
 row:∀ s,s<t.n.length->(t.n.getD s []).length=t.cells
 tgt:∀ s,s<t.n.length->∀ k,k<t.cells->t.ent2 s k<t.n.length
 cell_lt:∀ b,b<256->t.cell b<t.cells
 onto:∀ k,k<t.cells->∃ b,b<256/\t.cell b=k
theorem TVal.stp_lt {t:Tbl} (h:TVal t) {s b:Nat} (E:s<t.n.length) (hb:b<256):t.stp s b<t.n.length:=h.tgt s E _ (h.cell_lt b hb)
theorem TVal.run_lt {t:Tbl} (h:TVal t):∀ (w:List UInt8) {s:Nat},s<t.n.length->t.run s w<t.n.length
 | [],_,E=>E
 | x::w,_,E=>h.run_lt w (h.stp_lt E x.toNat_lt)
theorem Kd (t:Tbl) (s:Nat) (u w:List UInt8):t.run s (u++w)=t.run (t.run s u) w:=by simp[Tbl.run,ô]
def Leq (t:Tbl) (s s':Nat):Prop:=∀ w,t.ok (t.run s w)=t.ok (t.run s' w)
theorem Leq.step {t:Tbl} {s s':Nat} (h:Leq t s s') (b:Nat) (hb:b<256):Leq t (t.stp s b) (t.stp s' b):=λw=>by
 have:=h (ϔ b::w);have e:∀ s,t.run s (ϔ b::w)=t.run (t.stp s b) w:=λs=>by show t.run (t.stp s (ϔ b).toNat) w=_;rw[u8n b hb]
 rwa [e,e] at this
structure Reached (t:Tbl) (l:List Nat):Prop where
 head:l.getD 0 0=0
 ne:0<l.length
 nodup:l.Nodup
 lt:∀ s∈l,s<t.n.length
 closed:∀ s∈l,∀ k,k<t.cells->t.ent2 s k∈l
 all:∀ s∈l,∃ w,t.run 0 w=s
theorem Reached.zero {t:Tbl} {l:List Nat} (h:Reached t l):0∈l:=by have:=h.head;rw[Ζ,Θ h.ne] at this;rw[<-(show l[0]'h.ne=0 from this)];exact ϯ _
theorem Reached.stp {t:Tbl} {l:List Nat} (h:Reached t l) (E:TVal t) {s b:Nat} (G:s∈l) (hb:b<256):t.stp s b∈l:=h.closed s G _ (E.cell_lt b hb)
theorem Reached.run {t:Tbl} {l:List Nat} (h:Reached t l) (G:TVal t):∀ (w:List UInt8) {s:Nat},s∈l->t.run s w∈l
 | [],_,E=>E
 | x::w,_,E=>h.run G w (h.stp G E x.toNat_lt)
structure Blk (l:List Nat) (B:Nat->Nat) (R:List Nat):Prop where
 lt:∀ s∈l,B s<R.length
 mem:∀ i,i<R.length->R.getD i 0∈l
 rep:∀ i,i<R.length->B (R.getD i 0)=i
def J5 (t:Tbl) (l:List Nat) (B E:Nat->Nat):Prop:=
 ∀ s∈l,∀ s'∈l,(E s=E s'↔B s=B s'/\∀ k,k<t.cells->B (t.ent2 s k)=B (t.ent2 s' k))
structure Refi (t:Tbl) (l:List Nat) (B:Nat->Nat) (n:Nat):Prop where
 sound:∀ s∈l,∀ s'∈l,Leq t s s'->B s=B s'
 acc:∀ s∈l,∀ s'∈l,B s=B s'->t.ok s=t.ok s'
 num:0<n->∃ R,Blk l B R/\R.length=n
theorem Uz (t:Tbl) (l:List Nat) (B:Nat->Nat) (E:∀ s∈l,B s=if t.ok s then 1 else 0):Refi t l B 0 where
 sound:=λs G s' H h=>by have:=h [];rw[E s G,E s' H,show t.ok s=t.ok s' from this]
 acc:=λs G s' H h=>by rw[E s G,E s' H] at h;cases h1:t.ok s<;>cases T:t.ok s'<;>simp[h1,T] at h ⊢
 num:=λh=>by omega
theorem U0 {t:Tbl} (H:TVal t) {l:List Nat} (X:Reached t l) {B T:Nat->Nat} {n:Nat} (h:Refi t l B n) (hr:J5 t l B T) {R:List Nat} (hb:Blk l T R):Refi t l T R.length where
 sound:=λs E s' G he=>(hr s E s' G).2 ⟨h.sound s E s' G he,λk hk=>by obtain⟨b,hb,rfl⟩:=H.onto k hk;exact h.sound _ (X.stp H E hb) _ (X.stp H G hb) (he.step b hb)⟩
 acc:=λs E s' G he=>h.acc s E s' G ((hr s E s' G).1 he).1
 num:=λ_=>⟨R,hb,rfl⟩
theorem U1 {t:Tbl} {l:List Nat} {B H:Nat->Nat} {n:Nat} (h:Refi t l B n) (X:J5 t l B H) {R:List Nat} (hb:Blk l H R) (h0:0<l.length):n<=R.length/\0<R.length:=by
 have aa:0<R.length:=by have:=hb.lt _ (ϯ h0);omega
 refine⟨?_,aa⟩;by_cases hn:n=0
 ·omega
 obtain⟨T,E,rfl⟩:=h.num (by omega);refine I9 (λi=>B (R.getD i 0)) _ _ λj G=>⟨H (T.getD j 0),hb.lt _ (E.mem j G),?_⟩
 have h1:=hb.rep _ (hb.lt _ (E.mem j G));have h2:=((X _ (hb.mem _ (hb.lt _ (E.mem j G))) _ (E.mem j G)).1 h1).1;show B (R.getD (H (T.getD j 0)) 0)=j;rw[h2,E.rep j G]
theorem GV {t:Tbl} (T:TVal t) {l:List Nat} (X:Reached t l) {B E:Nat->Nat} {n:Nat} (h:Refi t l B n) (hr:J5 t l B E) {R:List Nat} (hb:Blk l E R) (hn:R.length=n) :
  ∀ s∈l,∀ s'∈l,(E s=E s'↔Leq t s s'):=by
 have ak:=(U1 h hr hb X.ne).2;obtain⟨R0,ab,h0⟩:=h.num (by omega);have same:∀ s∈l,∀ s'∈l,B s=B s'->E s=E s':=λs G s' H he=>by
  have ag:=JL (λi=>B (R.getD i 0)) R.length λj hj=>by
   have ad:j<R0.length:=by omega
   refine⟨E (R0.getD j 0),hb.lt _ (ab.mem j ad),?_⟩;have h1:=hb.rep _ (hb.lt _ (ab.mem j ad));have h2:=((hr _ (hb.mem _ (hb.lt _ (ab.mem j ad))) _ (ab.mem j ad)).1 h1).1;show B (R.getD (E (R0.getD j 0)) 0)=j;rw[h2,ab.rep j ad]
  have hB:∀ s∈l,B (R.getD (E s) 0)=B s:=λs G=>((hr _ (hb.mem _ (hb.lt s G)) _ G).1 (hb.rep _ (hb.lt s G))).1
  exact ag _ _ (hb.lt s G) (hb.lt s' H) (by show B (R.getD (E s) 0)=B (R.getD (E s') 0);rw[hB s G,hB s' H,he])
 have stab:∀ (w:List UInt8),∀ s∈l,∀ s'∈l,E s=E s'->E (t.run s w)=E (t.run s' w):=λw=>by
  induction w with
  | nil=>intro s _ s' _ he;exact he
  | cons x w ih=>intro s G s' H he;refine ih _ (X.stp T G x.toNat_lt) _ (X.stp T H x.toNat_lt) (same _ (X.stp T G x.toNat_lt) _ (X.stp T H x.toNat_lt) ?_);exact ((hr s G s' H).1 he).2 _ (T.cell_lt _ x.toNat_lt)
 intro s G s' H;constructor
 ·intro he w;have:=stab w s G s' H he;exact h.acc _ (X.run T w G) _ (X.run T w H) ((hr _ (X.run T w G) _ (X.run T w H)).1 this).1
 intro he;exact (U0 T X h hr hb).sound s G s' H he
structure Blocks (t:Tbl) (l:List Nat) (B:Nat->Nat) (R:List Nat):Prop where
 blk:Blk l B R
 leq:∀ s∈l,∀ s'∈l,(B s=B s'↔Leq t s s')
structure Merged (t:Tbl) (B:Nat->Nat) (R K:List Nat) (L:List Cls):Prop where
 parts:Parts L
 srt:L.Pairwise λa b=>key a<=key b
 len:K.length=L.length
 lt:∀ k,k<K.length->K.getD k 0<t.cells
 cell:∀ b,b<256->∀ i,i<R.length->B (t.ent2 (R.getD i 0) (K.getD (Am L b) 0))=B (t.stp (R.getD i 0) b)
 col:∀ k k',k<K.length->k'<K.length->(∀ i,i<R.length->B (t.ent2 (R.getD i 0) (K.getD k 0))=B (t.ent2 (R.getD i 0) (K.getD k' 0)))->k=k'
structure Laid (t:Tbl) (B:Nat->Nat) (R K:List Nat) (L:List Cls) (O:List Nat) (d:Dfa):Prop where
 cls:d.cls=L
 len:d.n.length=O.length
 acl:d.acc.length=O.length
 zero:O.getD 0 0=B 0
 pos:0<O.length
 nodup:O.Nodup
 lt:∀ i,i<O.length->O.getD i 0<R.length
 row:∀ i,i<O.length->(d.n.getD i []).length=K.length
 tgt:∀ i,i<O.length->∀ k,k<K.length->d.ent2 i k<O.length/\O.getD (d.ent2 i k) 0=B (t.ent2 (R.getD (O.getD i 0) 0) (K.getD k 0))
 acc:∀ i,i<O.length->d.ok i=t.ok (R.getD (O.getD i 0) 0)
 rgf:∀ p,p<d.n.length*d.cls.length->d.ent p<=mxf d.ent p+1
 reach:∀ i,0<i->i<O.length->∃ j k,j<i/\k<K.length/\d.ent2 j k=i
theorem NN {t:Tbl} (hv:TVal t) {l:List Nat} (G:Reached t l) {B:Nat->Nat} {R K:List Nat} {L:List Cls} {O:List Nat} {d:Dfa}
  (hb:Blocks t l B R) (hm:Merged t B R K L) (h:Laid t B R K L O d):Cano d/\∀ w,d.has w=t.has w:=by
 have hn:=h.len;have ar:d.cls.length=K.length:=by rw[h.cls,hm.len]
 have T:∀ i,i<O.length->R.getD (O.getD i 0) 0∈l:=λi hi=>hb.blk.mem _ (h.lt i hi)
 have rB:∀ i,i<O.length->B (R.getD (O.getD i 0) 0)=O.getD i 0:=λi hi=>hb.blk.rep _ (h.lt i hi)
 have au:Val d:=by
  refine⟨by have:=h.pos;omega,by rw[h.acl,hn],λs E=>?_,λs E k hk=>?_,by rw[h.cls];exact hm.parts⟩
  ·rw[h.row s (by omega),ar]
  rw[hn];exact (h.tgt s (by omega) k (by omega)).1
 have aw:∀ i j,i<O.length->j<O.length->O.getD i 0=O.getD j 0->i=j:=λi j hi hj he=>by rw[Ζ,Ζ,Θ hi,Θ hj] at he;exact (List.getElem_inj h.nodup).1 he
 have step:∀ i s,i<O.length->s∈l->O.getD i 0=B s->∀ b,b<256->O.getD (d.stp i b) 0=B (t.stp s b)/\d.stp i b<O.length:=λi s hi E he b X=>by
  have ax:Am L b<K.length:=by rw[hm.len];exact cell_lt hm.parts X
  have h1:=h.tgt i hi _ ax;have h2:=hm.cell b X _ (h.lt i hi);have h3:B (t.stp (R.getD (O.getD i 0) 0) b)=B (t.stp s b):=by have hq:Leq t (R.getD (O.getD i 0) 0) s:=(hb.leq _ (T i hi) _ E).1 (by rw[rB i hi,he]);exact (hb.leq _ (G.stp hv (T i hi) X) _ (G.stp hv E X)).2 (hq.step b X)
  unfold Dfa.stp;rw[h.cls];exact⟨by rw[h1.2,h2,h3],h1.1⟩
 have ai:∀ (w:List UInt8) i s,i<O.length->s∈l->O.getD i 0=B s->O.getD (d.run i w) 0=B (t.run s w)/\d.run i w<O.length:=λw=>by
  induction w with
  | nil=>intro i s hi _ he;exact⟨he,hi⟩
  | cons x w ih=>intro i s hi E he;have h1:=step i s hi E he x.toNat x.toNat_lt;exact ih _ _ h1.2 (G.stp hv E x.toNat_lt) h1.1
 have az:∀ i s,i<O.length->s∈l->O.getD i 0=B s->d.ok i=t.ok s:=λi s hi E he=>by rw[h.acc i hi];exact (hb.leq _ (T i hi) _ E).1 (by rw[rB i hi,he]) []
 have ak:∀ i s,i<O.length->s∈l->O.getD i 0=B s->∀ w,d.ok (d.run i w)=t.ok (t.run s w):=λi s hi E he w=>by have h1:=ai w i s hi E he;exact az _ _ h1.2 (G.run hv w E) h1.1
 refine⟨⟨au,?_,?_,?_,by rw[h.cls];exact hm.srt,h.rgf⟩,λw=>ak 0 0 h.pos G.zero h.zero w⟩
 ·-- a8
  have:∀ n i,i<n->i<O.length->∃ w,d.run 0 w=i:=λn=>by
   induction n with
   | zero=>intro i hi;omega
   | succ n ih=>
    intro i hi H;by_cases h0:i=0
    ·exact⟨[],h0.symm⟩
    obtain⟨j,k,hj,hk,a1⟩:=h.reach i (by omega) H;obtain⟨w,hw⟩:=ih j (by omega) (by omega);obtain⟨b,X,a6⟩:=Lw hm.parts (k:=k) (by rw[<-hm.len];exact hk);refine⟨w++[ϔ b],?_⟩;rw[Bf,hw];show d.stp j (ϔ b).toNat=i;rw[u8n b X];unfold Dfa.stp;rw[h.cls,a6,a1]
  intro s E;exact this (s+1) s (by omega) (by omega)
 ·-- ba
  intro i j hi hj he;have H:i<O.length:=by omega
  have ab:j<O.length:=by omega
  refine aw i j H ab ?_;rw[<-rB i H,<-rB j ab];refine (hb.leq _ (T i H) _ (T j ab)).2 λw=>?_
  rw[<-ak i _ H (T i H) (rB i H).symm w,<-ak j _ ab (T j ab) (rB j ab).symm w];exact he w
 -- bb bc differ
 intro k k' hk bd he;refine hm.col k k' (by omega) (by omega) λi hi=>?_
 have a7:∀ (w:List UInt8),∃ q,q<O.length/\O.getD q 0=B (t.run 0 w):=λw=>⟨d.run 0 w,(ai w 0 0 h.pos G.zero h.zero).2,(ai w 0 0 h.pos G.zero h.zero).1⟩
 obtain⟨w,hw⟩:=G.all _ (hb.blk.mem i hi);obtain⟨q,hq,aq⟩:=a7 w;rw[hw,hb.blk.rep i hi] at aq;have h1:=(h.tgt q hq k (by omega)).2;have h2:=(h.tgt q hq k' (by omega)).2;rw[aq] at h1 h2;rw[<-h1,<-h2,he q (by omega)]
structure Joint (a b:Nat->Nat) (c:Nat->Nat) (bs:List Nat):Prop where
 lt:∀ x,x<256->c x<bs.length
 byte:∀ k,k<bs.length->bs.getD k 0<256/\c (bs.getD k 0)=k
 same:∀ x y,x<256->y<256->(c x=c y↔a x=a y/\b x=b y)
theorem Joint.rep {a b c:Nat->Nat} {bs:List Nat} (h:Joint a b c bs) (x:Nat) (hx:x<256):bs.getD (c x) 0<256/\a (bs.getD (c x) 0)=a x/\b (bs.getD (c x) 0)=b x:=by obtain⟨h1,E⟩:=h.byte _ (h.lt x hx);exact⟨h1,((h.same _ _ h1 hx).1 E).1,((h.same _ _ h1 hx).1 E).2⟩
section
variable {σ:Type}
def Ap (nx:σ->Nat->σ) (s:σ) (w:List UInt8):σ:=w.foldl (λs x=>nx s x.toNat) s
structure Expl (c:Nat->Nat) (bs:List Nat) (st:σ) (nx:σ->Nat->σ) (ac:σ->Bool) (l:List σ) (t:Tbl):Prop where
 cell:t.cell=c
 cells:t.cells=bs.length
 len:t.n.length=l.length
 acl:t.acc.length=l.length
 pos:0<l.length
 nodup:l.Nodup
 zero:l[0]? = I st
 row:∀ i,i<l.length->(t.n.getD i []).length=bs.length
 tgt:∀ (i:Nat) (s:σ),l[i]? = I s->∀ k,k<bs.length->t.ent2 i k<l.length/\l[t.ent2 i k]? = I (nx s (bs.getD k 0))
 acc:∀ (i:Nat) (s:σ),l[i]? = I s->t.ok i=ac s
 reach:∀ (i:Nat) (s:σ),l[i]? = I s->∃ w,Ap nx st w=s
theorem Expl.tval {c:Nat->Nat} {bs:List Nat} {st:σ} {nx:σ->Nat->σ} {ac:σ->Bool} {l:List σ} {t:Tbl} (h:Expl c bs st nx ac l t) {a b:Nat->Nat} (H:Joint a b c bs):TVal t where
 pos:=by rw[h.len];exact h.pos
 accL:=by rw[h.acl,h.len]
 row:=λs G=>by rw[h.row s (by rw[<-h.len];exact G),h.cells]
 tgt:=λs G k E=>by rw[h.len] at G ⊢;exact (h.tgt s _ (Θ G) k (by rw[<-h.cells];exact E)).1
 cell_lt:=λx hx=>by rw[h.cell,h.cells];exact H.lt x hx
 onto:=λk E=>by rw[h.cells] at E;exact⟨_,(H.byte k E).1,by rw[h.cell];exact (H.byte k E).2⟩
theorem Expl.has {c:Nat->Nat} {bs:List Nat} {st:σ} {nx:σ->Nat->σ} {ac:σ->Bool} {l:List σ} {t:Tbl} (h:Expl c bs st nx ac l t) {a b:Nat->Nat} (E:Joint a b c bs)
  (G:∀ s x,x<256->nx s (bs.getD (c x) 0)=nx s x) (w:List UInt8):t.has w=ac (Ap nx st w):=by
 have:∀ (w:List UInt8) i s,l[i]? = I s->l[t.run i w]? = I (Ap nx s w):=λw=>by
  induction w with
  | nil=>intro i s hi;exact hi
  | cons x w H=>intro i s hi;have h1:=(h.tgt i s hi _ (E.lt _ x.toNat_lt)).2;rw[G s _ x.toNat_lt] at h1;refine H (t.stp i x.toNat) _ ?_;unfold Tbl.stp;rw[h.cell];exact h1
 exact h.acc _ _ (this w 0 st h.zero)
end
def Ah (d:Dfa):Tbl:=⟨Am d.cls,d.cls.length,d.n,d.acc⟩
theorem Bt {d:Dfa} (h:Val d):TVal (Ah d) where
 pos:=h.pos
 accL:=h.accL
 row:=h.row
 tgt:=h.tgt
 cell_lt:=λb hb=>cell_lt h.parts hb
 onto:=λk E=>Lw h.parts E
theorem DN (d:Dfa) (w:List UInt8):∀ s,(Ah d).run s w=d.run s w:=by
 induction w with
 | nil=>intro s;rfl
 | cons x w E=>intro s;exact E _
theorem Ec (d:Dfa) (w:List UInt8):(Ah d).has w=d.has w:=by unfold Tbl.has Dfa.has;rw[DN];rfl
def A5 (y:Tbl) (S c:Nat):Nat->Nat
 | 0=>0
 | n+1=>if S.testBit n then A5 y S c n ||| 2 ^ y.stp n c else A5 y S c n
theorem Tg (y:Tbl) (S c n r:Nat):(A5 y S c n).testBit r=Α↔∃ q,q<n/\S.testBit q=Α/\y.stp q c=r:=by
 induction n with
 | zero=>simp[A5]
 | succ n H=>
  simp only[A5];split
  ·rename_i h
   rw[Nat.testBit_or,Ô,H,Nat.testBit_two_pow,decide_eq_true_eq];constructor
   ·rintro (⟨q,G,h1,E⟩|e)
    ·exact⟨q,by omega,h1,E⟩
    exact⟨n,by omega,h,e⟩
   rintro⟨q,G,h1,E⟩;by_cases e:q=n
   ·subst e;exact .inr E
   exact .inl ⟨q,by omega,h1,E⟩
  rename_i h
  rw[H];constructor
  ·rintro⟨q,G,h1,E⟩;exact⟨q,by omega,h1,E⟩
  rintro⟨q,G,h1,E⟩;refine⟨q,?_,h1,E⟩;by_cases e:q=n
  ·subst e;exact absurd h1 h
  omega
def Ct (y:Tbl) (S:Nat):Bool:=(π y.n.length).any λq=>y.ok q&&S.testBit q
theorem Km (y:Tbl) (S:Nat):Ct y S=Α↔∃ q,q<y.n.length/\y.ok q=Α/\S.testBit q=Α:=by
 unfold Ct;rw[List.any_eq_true];constructor
 ·rintro⟨q,E,h⟩;rw[ς] at h;exact⟨q,ώ.1 E,h.1,h.2⟩
 rintro⟨q,E,h1,G⟩;exact⟨q,ώ.2 E,by rw[h1,G];rfl⟩
theorem Gv {P:List UInt8->Prop} (h0:P []) (h1:∀ w x,P w->P (w++[x])) (w:List UInt8):P w:=by
 have:∀ v:List UInt8,P v.reverse:=λv=>by
  induction v with
  | nil=>exact h0
  | cons x v E=>rw[List.reverse_cons];exact h1 _ _ E
 have h:=this w.reverse
 rwa [List.reverse_reverse] at h
theorem E1 {σ:Type} (nx:σ->Nat->σ) (s:σ) (w:List UInt8) (x:UInt8):Ap nx s (w++[x])=nx (Ap nx s w) x.toNat:=by simp[Ap,ô]
theorem F6 (t:Tbl) (s:Nat) (w:List UInt8) (x:UInt8):t.run s (w++[x])=t.stp (t.run s w) x.toNat:=by rw[Kd];rfl
theorem Si {u v w:List UInt8} {x:UInt8} (h:w++[x]=u++v):(v=[]/\u=w++[x])\/∃ E,v=E++[x]/\w=u++E:=by
 rcases List.eq_nil_or_concat v with rfl|⟨E,y,rfl⟩
 ·exact .inl ⟨rfl,by simpa using h.symm⟩
 rw[List.concat_eq_append,<-ê] at h;obtain⟨h1,G⟩:=List.append_inj' h rfl;simp at G;subst G;exact .inr ⟨E,by rw[List.concat_eq_append],h1⟩
def Cat (L M:List UInt8->Prop) (w:List UInt8):Prop:=∃ u v,w=u++v/\L u/\M v
inductive Star (L:List UInt8->Prop):List UInt8->Prop
 | nil:Star L []
 | app {u v:List UInt8}:Star L u->L v->Star L (u++v)
def Gl (x:Tbl) (p S:Nat):Nat × Nat:=(p,if x.ok p then S ||| 1 else S)
def cnx (x y:Tbl) (s:Nat × Nat) (c:Nat):Nat × Nat:=Gl x (x.stp s.1 c) (A5 y s.2 c y.n.length)
def cst (x:Tbl):Nat × Nat:=Gl x 0 0
theorem AK (S r:Nat):(S ||| 1).testBit r=Α↔S.testBit r=Α\/r=0:=by
 rw[Nat.testBit_or,Ô,show (1:Nat)=2 ^ 0 from rfl,Nat.testBit_two_pow,decide_eq_true_eq];constructor<;>rintro (h|h)
 ·exact .inl h
 ·exact .inr h.symm
 ·exact .inl h
 exact .inr h.symm
theorem Zo (x:Tbl) (p S r:Nat):(Gl x p S).2.testBit r=Α↔S.testBit r=Α\/(x.ok p=Α/\r=0):=by
 unfold Gl;cases h:x.ok p
 ·simp
 simp only[if_true];rw[AK];simp
theorem Zx {x y:Tbl} (H:TVal y) (w:List UInt8):(Ap (cnx x y) (cst x) w).1=x.run 0 w/\
  ∀ r,(Ap (cnx x y) (cst x) w).2.testBit r=Α↔∃ u v,w=u++v/\x.has u=Α/\y.run 0 v=r:=by
 induction w using Gv with
 | h0=>
  refine⟨rfl,λr=>?_⟩;show (Gl x 0 0).2.testBit r=Α↔_;rw[Zo];constructor
  ·rintro (h|⟨h,rfl⟩)
   ·simp at h
   exact⟨[],[],rfl,h,rfl⟩
  rintro⟨u,v,h,h1,h2⟩;obtain⟨rfl,rfl⟩:=List.append_eq_nil_iff.1 h.symm;exact .inr ⟨h1,h2.symm⟩
 | h1 w z ih=>
  obtain⟨T,X⟩:=ih;rw[E1];generalize Ap (cnx x y) (cst x) w=s at *;refine⟨?_,λr=>?_⟩
  ·show x.stp s.1 z.toNat=_;rw[T,F6]
  show (Gl x (x.stp s.1 z.toNat) (A5 y s.2 z.toNat y.n.length)).2.testBit r=Α↔_;rw[Zo,Tg,T,<-F6];constructor
  ·rintro (⟨q,hq,hb,he⟩|⟨h,rfl⟩)
   ·obtain⟨u,v,rfl,hu,E⟩:=(X q).1 hb;exact⟨u,v++[z],by rw[ê],hu,by rw[F6,E,he]⟩
   exact⟨w++[z],[],by simp,h,rfl⟩
  rintro⟨u,v,h,hu,E⟩;rcases Si h with⟨rfl,rfl⟩|⟨G,rfl,rfl⟩
  ·exact .inr ⟨hu,E.symm⟩
  rw[F6] at E;exact .inl ⟨y.run 0 G,H.run_lt G H.pos,(X _).2 ⟨u,G,rfl,hu,rfl⟩,E⟩
theorem TJ {x y:Tbl} (E:TVal y) {c:Nat->Nat} {bs:List Nat} {l:List (Nat × Nat)} {t:Tbl} (h:Expl c bs (cst x) (cnx x y) (λs=>Ct y s.2) l t) (G:Joint x.cell y.cell c bs) (w:List UInt8) :
  t.has w=Α↔Cat (λu=>x.has u=Α) (λv=>y.has v=Α) w:=by
 rw[h.has G (λs b hb=>?_),Km]
 ·constructor
  ·rintro⟨q,_,H,hb⟩;obtain⟨u,v,rfl,hu,rfl⟩:=((Zx E w).2 q).1 hb;exact⟨u,v,rfl,hu,H⟩
  rintro⟨u,v,rfl,hu,T⟩;exact⟨y.run 0 v,E.run_lt v E.pos,T,((Zx E _).2 _).2 ⟨u,v,rfl,hu,rfl⟩⟩
 obtain⟨_,h1,X⟩:=G.rep b hb;have e1:∀ p,x.stp p (bs.getD (c b) 0)=x.stp p b:=λp=>by unfold Tbl.stp;rw[h1]
 have e2:∀ n,A5 y s.2 (bs.getD (c b) 0) n=A5 y s.2 b n:=λn=>by
  induction n with
  | zero=>rfl
  | succ n ih=>simp only[A5];rw[ih];unfold Tbl.stp;rw[X]
 unfold cnx;rw[e1,e2]
def snx (x:Tbl) (s:Nat × Nat) (c:Nat):Nat × Nat:=
 (0,if Ct x (A5 x s.2 c x.n.length) then A5 x s.2 c x.n.length ||| 1 else A5 x s.2 c x.n.length)
theorem EH {x:Tbl} (hx:TVal x) (w:List UInt8):((Ap (snx x) (1,1) w).1=if w=[] then 1 else 0)/\
  ∀ r,(Ap (snx x) (1,1) w).2.testBit r=Α↔∃ u v,w=u++v/\Star (λu=>x.has u=Α) u/\x.run 0 v=r:=by
 induction w using Gv with
 | h0=>
  refine⟨rfl,λr=>?_⟩;show (1:Nat).testBit r=Α↔_;rw[show (1:Nat)=2 ^ 0 from rfl,Nat.testBit_two_pow,decide_eq_true_eq];constructor
  ·rintro rfl;exact⟨[],[],rfl,.nil,rfl⟩
  rintro⟨u,v,h,h1,h2⟩;obtain⟨rfl,rfl⟩:=List.append_eq_nil_iff.1 h.symm;exact h2
 | h1 w z ih=>
  obtain⟨_,X⟩:=ih;rw[E1];generalize Ap (snx x) (1,1) w=s at *;have hb:∀ r,(A5 x s.2 z.toNat x.n.length).testBit r=Α↔∃ u E,w=u++E/\Star (λu=>x.has u=Α) u/\x.run 0 (E++[z])=r:=λr=>by
   rw[Tg];constructor
   ·rintro⟨q,hq,hb,he⟩;obtain⟨u,v,rfl,hu,G⟩:=(X q).1 hb;exact⟨u,v,rfl,hu,by rw[F6,G,he]⟩
   rintro⟨u,E,rfl,hu,G⟩;rw[F6] at G;exact⟨x.run 0 E,hx.run_lt E hx.pos,(X _).2 ⟨u,E,rfl,hu,rfl⟩,G⟩
  have ae:Ct x (A5 x s.2 z.toNat x.n.length)=Α↔Star (λu=>x.has u=Α) (w++[z]):=by
   rw[Km];constructor
   ·rintro⟨q,_,H,hq⟩;obtain⟨u,E,rfl,hu,rfl⟩:=(hb q).1 hq;rw[ê];exact .app hu H
   intro T;have:∀ a,Star (λu=>x.has u=Α) a->a=w++[z]->∃ q,q<x.n.length/\x.ok q=Α/\(A5 x s.2 z.toNat x.n.length).testBit q=Α:=λa H=>by
    induction H with
    | nil=>intro e;simp at e
    | app hu G af=>
     rename_i u v
     intro e;rcases Si e.symm with⟨rfl,he⟩|⟨E,rfl,rfl⟩
     ·exact af he
     exact⟨x.run 0 (E++[z]),hx.run_lt _ hx.pos,G,(hb _).2 ⟨u,E,rfl,hu,rfl⟩⟩
   exact this _ T rfl
  refine⟨?_,λr=>?_⟩
  ·show (0:Nat)=_;simp
  have e:(snx x s z.toNat).2.testBit r=Α↔(A5 x s.2 z.toNat x.n.length).testBit r=Α\/(Star (λu=>x.has u=Α) (w++[z])/\r=0):=by
   show (if Ct x (A5 x s.2 z.toNat x.n.length) then _ else _:Nat).testBit r=Α↔_;rw[<-ae];cases Ct x (A5 x s.2 z.toNat x.n.length)
   ·simp
   simp only[if_true];rw[AK];simp
  rw[e,hb];constructor
  ·rintro (⟨u,E,rfl,hu,G⟩|⟨T,rfl⟩)
   ·exact⟨u,E++[z],by rw[ê],hu,G⟩
   exact⟨w++[z],[],by simp,T,rfl⟩
  rintro⟨u,v,h,hu,G⟩;rcases Si h with⟨rfl,rfl⟩|⟨E,rfl,rfl⟩
  ·exact .inr ⟨hu,G.symm⟩
  exact .inl ⟨u,E,rfl,hu,G⟩
theorem EE {x:Tbl} (hx:TVal x) {c:Nat->Nat} {bs:List Nat} {l:List (Nat × Nat)} {t:Tbl} (h:Expl c bs (1,1) (snx x) (λs=>s.1==1||Ct x s.2) l t) (T:Joint x.cell x.cell c bs) (w:List UInt8) :
  t.has w=Α↔Star (λu=>x.has u=Α) w:=by
 have hn:∀ (s:Nat × Nat) b,b<256->snx x s (bs.getD (c b) 0)=snx x s b:=λs b hb=>by
  obtain⟨_,h1,_⟩:=T.rep b hb;have e2:∀ n,A5 x s.2 (bs.getD (c b) 0) n=A5 x s.2 b n:=λn=>by
   induction n with
   | zero=>rfl
   | succ n ih=>simp only[A5];rw[ih];unfold Tbl.stp;rw[h1]
  unfold snx;rw[e2]
 rw[h.has T hn,Ô,Km];obtain⟨X,s2⟩:=EH hx w;constructor
 ·rintro (h1|⟨q,_,E,hb⟩)
  ·rw[beq_iff_eq,X] at h1;have:w=[]:=by apply Å;intro G;rw[if_neg G] at h1;omega
   rw[this];exact .nil
  obtain⟨u,v,rfl,hu,rfl⟩:=(s2 q).1 hb;exact .app hu E
 intro hs;by_cases hw:w=[]
 ·left;rw[beq_iff_eq,X,if_pos hw]
 right
 have:∀ a,Star (λu=>x.has u=Α) a->a≠[]->∃ u v,a=u++v/\Star (λu=>x.has u=Α) u/\x.has v=Α:=λa E G=>by
  cases E with
  | nil=>exact absurd rfl G
  | app hu H=>exact⟨_,_,rfl,hu,H⟩
 obtain⟨u,v,rfl,hu,H⟩:=this w hs hw;exact⟨x.run 0 v,hx.run_lt v hx.pos,H,(s2 _).2 ⟨u,v,rfl,hu,rfl⟩⟩
open Go.RowKit Go.Shelf
open Go.RowKit
def hiB (x p:Nat):Nat:=x / 2 ^ p*2 ^ p
theorem PJ (x:Nat):hiB x 0=x:=by simp[hiB]
theorem X9 (x p:Nat):hiB x p<=x:=Nat.div_mul_le_self _ _
theorem Jj (x p j:Nat):(hiB x p).testBit j=(decide (p<=j)&&x.testBit j):=by
 unfold hiB;rw[Nat.testBit_mul_two_pow,<-Nat.shiftRight_eq_div_pow,Nat.testBit_shiftRight];by_cases h:p<=j
 ·simp only[h,decide_true,Ð];congr 1;omega
 simp[h]
theorem MH (x p:Nat) (hx:x<2 ^ 64) (h:hiB x p≠0) :
  p<=Lib.ctz 64 (hiB x p)/\Lib.ctz 64 (hiB x p)<64/\hiB x p &&& (hiB x p-1)=hiB x (Lib.ctz 64 (hiB x p)+1)/\x.testBit (Lib.ctz 64 (hiB x p))=Α/\∀ j,p<=j->j<Lib.ctz 64 (hiB x p)->x.testBit j=Ε:=by
 have X:hiB x p<2 ^ 64:=Nat.lt_of_le_of_lt (X9 x p) hx;obtain⟨m,hm,ht⟩:=Lib.ctzFrom_spec 64 (hiB x p) (by omega) X;have e:Lib.ctz 64 (hiB x p)=Lib.ctzFrom 64 (hiB x p):=by simp[Lib.ctz,h]
 rw[e];generalize hT:Lib.ctzFrom 64 (hiB x p)=t at *;have E:∀ j,(hiB x p).testBit j=(decide (t<=j)&&(2*m+1).testBit (j-t)):=λj=>by rw[hm,Nat.mul_comm,Nat.testBit_mul_two_pow]
 have H:p<=t:=by
  apply Nat.le_of_not_lt;intro ah;have h1:=Jj x p t;rw[E t] at h1;simp only[Υ,decide_true,Ð,Nat.sub_self,Nat.testBit_zero] at h1;have:decide (p<=t)=Ε:=by simp;omega
  rw[this,Bool.false_and] at h1;simp at h1
 have ab:x.testBit t=Α:=by have h1:=Jj x p t;rw[E t] at h1;simp only[Υ,decide_true,Ð,Nat.sub_self,Nat.testBit_zero,H] at h1;rw[<-h1];simp
 refine⟨H,ht,?_,ab,λj ai aj=>?_⟩
 ·have h1:hiB x p=2 ^ t*(2*m+1)+0:=by rw[hm];rfl
  have ad:0<2 ^ t:=Nat.pow_pos (by omega);have h2:hiB x p-1=2 ^ t*(2*m)+(2 ^ t-1):=by rw[hm,Nat.mul_add];omega
  rw[h2,h1,Iq t _ _ _ _ ad (by omega),Nat.zero_and,Nat.add_zero];have h3:(2*m+1) &&& (2*m)=2*m:=by
   have:=Iq 1 m 1 m 0 (by omega) (by omega)
   simpa [Nat.and_self] using this
  rw[h3];apply Nat.eq_of_testBit_eq;intro j;rw[Jj,show 2 ^ t*(2*m)=m*2 ^ (t+1) by rw[Nat.pow_succ,Nat.mul_comm m,Nat.mul_assoc],Nat.testBit_mul_two_pow];by_cases T:t+1<=j
  ·simp only[T,decide_true,Ð];have G:=Jj x p j;rw[E j] at G;rw[show decide (t<=j)=Α by simp;omega,show decide (p<=j)=Α by simp;omega,Ð,Ð] at G;rw[<-G,show j-t=(j-(t+1))+1 by omega,Nat.testBit_succ]
   congr 1;omega
  simp[T]
 have h1:=Jj x p j;rw[E j,show decide (t<=j)=Ε by simp;omega,show decide (p<=j)=Α by simp;omega,Bool.false_and,Ð] at h1;exact h1.symm
theorem Z6 (c:Cls) (a b:Nat) (G:a<=b) (h:∀ j,a<=j->j<b->c.getLsbD j=Ε):Au c b=Au c a:=by
 induction b with
 | zero=>rw[show a=0 by omega]
 | succ b E=>
  by_cases hb:a=b+1
  ·rw[hb]
  simp only[Au];rw[h b (by omega) (by omega),E (by omega) (λj h1 H=>h j h1 (by omega))];simp
theorem LK (c:Cls) (i p:Nat) (h:hiB (wn c i) p≠0):Lib.ctz 64 (hiB (wn c i) p)<64/\hiB (wn c i) p &&& (hiB (wn c i) p-1)=hiB (wn c i) (Lib.ctz 64 (hiB (wn c i) p)+1)/\
  Au c (64*i+(Lib.ctz 64 (hiB (wn c i) p)+1))=Au c (64*i+p)++[ϔ (64*i+Lib.ctz 64 (hiB (wn c i) p))]:=by
 obtain⟨h1,T,X,E,h5⟩:=MH (wn c i) p (Dy c i) h;refine⟨T,X,?_⟩;generalize Lib.ctz 64 (hiB (wn c i) p)=t at *;have hb:∀ j,p<=j->j<t->c.getLsbD (64*i+j)=Ε:=λj G H=>by have:=h5 j G H;rw[Cn,show decide (j<64)=Α by simp;omega,Ð] at this;exact this
 have ht:c.getLsbD (64*i+t)=Α:=by rw[Cn,show decide (t<64)=Α by simp;omega,Ð] at E;exact E
 rw[<-Nat.add_assoc];show (if c.getLsbD (64*i+t) then Au c (64*i+t)++[ϔ (64*i+t)] else Au c (64*i+t))=_;rw[if_pos ht,Z6 c (64*i+p) (64*i+t) (by omega) (λj G H=>by
  have:=hb (j-64*i) (by omega) (by omega)
  rwa [show 64*i+(j-64*i)=j by omega] at this)]
theorem LL (c:Cls) (i p:Nat) (E:p<=64) (h:hiB (wn c i) p=0):Au c (64*(i+1))=Au c (64*i+p):=by refine Z6 c _ _ (by omega) (λj G H=>?_);have:=Jj (wn c i) p (j-64*i);rw[h,Nat.zero_testBit,show decide (p<=j-64*i)=Α by simp;omega,Ð,Cn,show decide (j-64*i<64)=Α by simp;omega,Ð,show 64*i+(j-64*i)=j by omega] at this;exact this.symm
theorem Z7 (c:Cls) (a b:Nat) (G:a<=b):Au c a <+: Au c b:=by
 induction b with
 | zero=>rw[show a=0 by omega];exact List.prefix_refl _
 | succ b E=>
  by_cases hb:a=b+1
  ·rw[hb];exact List.prefix_refl _
  have E:=E (by omega);simp only[Au];split
  ·exact E.trans (List.prefix_append _ _)
  exact E
open Go Go.RowKit
def Oa {α:Type} (F:Fence) (n:Nat) (P:Ö) (g:Nat) (T:Array Δ) (X:α->Array Δ) (Nx:List α->α->Prop) (S Sp:List α->Prop) (w:Γ):Prop:=
 ∀ (l:Nat) (E G:List α->Γ->Prop) (W:Γ),(∀ pre W',E pre W'->Below w.heap.size w W')->(∀ pre x H,E pre H->Nx pre x->YieldAt F (n-1) P l (X x) H λe W'=>(e=Ω (.bool Α)/\E (pre++[x]) W')\/(e=Ω (.bool Ε)/\G (pre++[x]) W'))->E [] W->CallsIn F n P g (#[.func (.yield l) #[] #[]]++T) W λe W'=>(∃ v,e=Ω v)/\((∃ xs,S xs/\E xs W')\/(∃ pre,Sp pre/\G pre W'))
def IX {α:Type} (G:List α->Γ->Prop) (E:Code->List α->Γ->Prop) (xs:List α) (W:Γ):Exit->ë->Γ->Prop
 | .normal,_,W'=>KeepsOthers W W'/\G xs W'
 | .ret,_,W'=>KeepsOthers W W'/\E .ret xs W'
 | .exit id,_,W'=>KeepsOthers W W'/\E (.exit id) xs W'
 | .goto t,_,W'=>KeepsOthers W W'/\E (.goto t) xs W'
 | .panic _,_,_=>False
 | .outgrown,_,_=>False
def BO {β:Type} (B:Nat) (E:β->Γ->Prop):Prop:=∀ s W l (o G:Obj),E s W->B<=l->W.heap[l]? = I o->o.isCells=Ε->E s (W.putObj l G)
def WK {β:Type} (E:β->Γ->Prop):Prop:=∀ s W (o:Obj),E s W->E s (W.alloc o)
variable {F:Fence} {n:Nat} {P:Program}
theorem S4 {α:Type} {g:á} {ps:Array Tmp} {assign body:Code} {Q:Exit->ë->Γ->Prop} {a:ë} {w:Γ}
  (a6:F.round=J) (h1:1<=n) {gf:Nat} {lb:Array Δ} (hg:a.eval g=.func (.func gf) #[] lb) (a7:F.fn gf) (eg:∀ args w,(callFunc gf args).run P w=.ok (.enter gf args) w)
  {ak:α->Array Δ} {Nx:List α->α->Prop} {S Sp:List α->Prop} {w0:Γ} (ba:Oa F (n-1) P gf lb ak Nx S Sp w0) (bb:∀ x,(ak x).size=ps.size)
  (ab:List α->Γ->Prop) (Ix:Code->List α->Γ->Prop) (hI:BO w.heap.size ab) (ax:WK ab) (ao:∀ c,BO w.heap.size (Ix c)) (hb:∀ pre W,ab pre W->Below w0.heap.size w0 W) (h0:ab [] w) (a₁:α->ë)
  (bc:∀ (l:Nat) (x:α) (W:Γ) (K:ë->Γ->Prop),K (a₁ x) W->assign.wpIn (F.inRound l) (n-1-1) P (Exit.then K (λ_ _ _=>False)) { tmps:=(ps.zip (ak x)).foldl (λt (p,v)=>t.setIfInBounds p v) a.tmps,defers:=[] } W)
  (bd:∀ (l:Nat) (pre:List α) (x:α) (W:Γ),ab pre W->Nx pre x->body.wpIn (F.inRound l) (n-1-1) P (IX ab Ix (pre++[x]) W) (a₁ x) W)
  (be:∀ (D:Nat) (xs:List α) (W:Γ),w.heap.size<=D->S xs->ab xs W->W.heap[D]? = I (.deferred (I []))->Q .normal { a with defers:={ target:=.collected D,args:=#[] }::a.defers } W)
  (bf:∀ (D:Nat) (c:Code) (pre:List α) (W:Γ),w.heap.size<=D->Sp pre->Ix c pre W->W.heap[D]? = I (.deferred (I []))->c.wpIn F n P Q { a with defers:={ target:=.collected D,args:=#[] }::a.defers } W) :
  (Code.rangeFunc g ps assign body).wpIn F n P Q a w:=by
 refine wpIn_rangeFunc ?_;intro fn bg;rw[a6];obtain⟨rec,T⟩:∃ rec:LoopState->Option Code->Loop,rec=λst pe=>{ state:=st,pending:=pe,fn,tmps:=a.tmps,params:=ps,assign,body,defers:=w.heap.size }:=⟨_,rfl⟩
 obtain⟨W1,aq⟩:=Xq ((w.alloc (.deferred (I []))).alloc (.loop (rec .ready J)));have bj:W1.heap[w.heap.size+1]? = I (.loop (rec .ready J)):=by rw[<-aq];have:=Γ.alloc_heap_new (w.alloc (.deferred (I []))) (.loop (rec .ready J));rwa [Ο] at this
 have bk:W1.heap[w.heap.size]? = I (.deferred (I [])):=by rw[<-aq];exact (Below.heap_alloc _ _ _ (by simp)).trans (Γ.alloc_heap_new w _)
 have bl:ab [] W1:=by rw[<-aq];exact ax _ _ _ (ax _ _ _ h0)
 refine⟨w.heap.size+1,[{ target:=.collected w.heap.size,args:=#[] }],W1,{ target:=.fn (.func gf) lb,args:=#[.func (.yield (w.heap.size+1)) #[] #[]] },W1,gf,#[.func (.yield (w.heap.size+1)) #[] #[]]++lb,W1,?_,?_,?_,?_,λ_=>h1,?_⟩
 ·rw[<-aq,T];exact run_enterLoop_outer _ _ _ _ _
 ·simp only[resolve,hg];simp[go_sem]
 ·intro f' az;simp[Target.leads] at az;subst az;exact a7
 ·simp[invoke,go_sem,eg]
 refine (ba (w.heap.size+1)
  (λpre W=>ab pre W/\W.heap[w.heap.size+1]? = I (.loop (rec .ready J))/\W.heap[w.heap.size]? = I (.deferred (I [])))
  (λpre W=>∃ c,Ix c pre W/\W.heap[w.heap.size+1]? = I (.loop (rec .done (I c)))/\W.heap[w.heap.size]? = I (.deferred (I [])))
  W1 (λpre W h=>hb _ _ h.1) ?_ ⟨bl,bj,bk⟩).mono ?_
 ·rintro pre x W ⟨hi,X,hk⟩ bm;have bn:w.heap.size+1<W.heap.size:=(Ϙ.1 X).1;have hy:=run_yield (P:=P) (args:=ak x) X (by rw[T];exact bb x);rw[T] at hy;refine⟨fn,_,assign,body,hy,roundIn_of_wpIn bg (bc _ x W _ ⟨_,run_beginRound X (by rw[T]),?_⟩)⟩;have bo:(W.putObj (w.heap.size+1) (.loop { rec .ready J with state:=.busy })).heap[w.heap.size+1]? = I (.loop { rec .ready J with state:=.busy }):=Γ.putObj_heap_same bn;have bp:(W.putObj (w.heap.size+1) (.loop { rec .ready J with state:=.busy })).heap[w.heap.size]? = I (.deferred (I [])):=(Γ.putObj_heap_other (by omega)).trans hk;refine wpIn_mono (bd _ pre x _ (hI _ _ _ _ _ hi (by omega) X rfl) bm) ?_;have ar:∀ (E:Option Code) (G:Γ),KeepsOthers (W.putObj (w.heap.size+1) (.loop { rec .ready J with state:=.busy })) G->(Instr.endRound (w.heap.size+1) E).run P G=.ok (.bool E.isNone) (G.putObj (w.heap.size+1) (.loop (rec (if E.isNone then .ready else .done) E)))/\G.heap[w.heap.size+1]? = I (.loop { rec .ready J with state:=.busy })/\(G.putObj (w.heap.size+1) (.loop (rec (if E.isNone then .ready else .done) E))).heap[w.heap.size+1]? = I (.loop (rec (if E.isNone then .ready else .done) E))/\
    (G.putObj (w.heap.size+1) (.loop (rec (if E.isNone then .ready else .done) E))).heap[w.heap.size]? = I (.deferred (I [])):=λE G aa=>by
   have H:=aa.same _ _ bo rfl;have:=run_endRound (P:=P) E H;rw[T] at this ⊢;exact⟨this,by rw[T] at H;exact H,Γ.putObj_heap_same (Ϙ.1 H).1,(Γ.putObj_heap_other (by omega)).trans (aa.same _ _ bp rfl)⟩
  rintro e a3 G hp;cases e with
  | normal=>obtain⟨aa,ae⟩:=hp;obtain⟨hr,H,ag,ah⟩:=ar J G aa;exact⟨_,_,hr,.inl ⟨rfl,hI _ _ _ _ _ ae (by omega) H rfl,ag,ah⟩⟩
  | ret=>obtain⟨aa,ae⟩:=hp;obtain⟨hr,H,ag,ah⟩:=ar (I .ret) G aa;exact⟨_,_,hr,.inr ⟨rfl,.ret,ao _ _ _ _ _ _ ae (by omega) H rfl,ag,ah⟩⟩
  | exit id=>obtain⟨aa,ae⟩:=hp;obtain⟨hr,H,ag,ah⟩:=ar (I (.exit id)) G aa;exact⟨_,_,hr,.inr ⟨rfl,.exit id,ao _ _ _ _ _ _ ae (by omega) H rfl,ag,ah⟩⟩
  | goto t=>obtain⟨aa,ae⟩:=hp;obtain⟨hr,H,ag,ah⟩:=ar (I (.goto t)) G aa;exact⟨_,_,hr,.inr ⟨rfl,.goto t,ao _ _ _ _ _ _ ae (by omega) H rfl,ag,ah⟩⟩
  | panic ch=>exact hp.elim
  | outgrown=>exact hp.elim
 rintro e W2 ⟨⟨v,rfl⟩,(⟨xs,hS,hi,X,hk⟩|⟨pre,br,c,hi,X,hk⟩)⟩
 ·exact⟨J,_,by have:=run_endLoop (P:=P) X (by rw[T];simp);rw[T] at this;exact this,be _ xs _ (Υ _) hS (hI _ _ _ _ _ hi (by omega) X rfl) ((Γ.putObj_heap_other (by omega)).trans hk)⟩
 exact⟨I c,_,by have:=run_endLoop (P:=P) X (by rw[T];simp);rw[T] at this;exact this,bf _ c pre _ (Υ _) br (ao c _ _ _ _ _ hi (by omega) X rfl) ((Γ.putObj_heap_other (by omega)).trans hk)⟩
theorem Ext.putObj {a b:Γ} (h:Ext a b) {l:Nat} (E:a.heap.size<=l) (o:Obj):Ext a (b.putObj l o):=
 h.grown (grownBy_putObj' b l o) (λk e=>by cases e;exact E)
attribute [local go_sem] Oper.semAt_some
def Tab (w:Γ):Prop:=∀ j,j<64->w.cell? ⟨0,j,J⟩=I (.int .u8 (Lib.deBruijn64tab.getD j 0:Nat))
theorem Tab.below {w W:Γ} {B:Nat} (h:Tab w) (hb:Below B w W) (E:0<B):Tab W:=λj G=>(hb.cell (p:=⟨0,j,J⟩) E).trans (h j G)
theorem DG (x a:Nat) (hx:x<18446744073709551616) (H:x≠0) (E:x &&& (18446744073709551616-x)=a) :
  ϩ.wrap (bits BinOp.and ϩ (x:Int) (ϩ.wrap (-(x:Int)))*285870213051353865) / 288230376151711744=((a*285870213051353865 % 18446744073709551616 / 288230376151711744:Nat):Int):=by
 have G:ϩ.wrap (-(x:Int))=((18446744073709551616-x:Nat):Int):=by rw[IntKind.wrap_u64];omega
 rw[G,u64_and_nat x _ hx (by omega),E,IntKind.wrap_u64];omega
theorem DH (F:Fence) (n:Nat) (G:F.fn 109) (H:F.round=J) (x k E:Nat) (w:Γ) (T:((x:Int)==0)=Ε)
  (key:ϩ.wrap (bits BinOp.and ϩ (x:Int) (ϩ.wrap (-(x:Int)))*285870213051353865) / 288230376151711744=(E:Int))
  (hi:E<64) (X:k<64) (aa:w.cell? ⟨0,E,J⟩=I (.int .u8 (k:Nat))) :
  CallsIn F n Ι 109 #[.int γ (x:Int)] w λe w'=>e=Ω (.int Χ (k:Nat))/\w'=w:=by
 refine callsIn_of_wp Tryz.func109 rfl G ?_ H;simp only[Tryz.ntmps109,List.size_toArray,ϒ,à,Nat.reduceAdd,Nat.reduceSub,Array.replicate_succ,Array.replicate_zero,List.push_toArray,List.append_toArray,Ú,List.cons_append]
 gi_wp2_with (simp only[key])
 go_ret;exact⟨rfl,rfl⟩
theorem DI (F:Fence) (n:Nat) (T:F.fn 109) (X:F.round=J) (x:Nat) (hx:x<18446744073709551616) (E:x≠0) (w:Γ) (hT:Tab w) :
  CallsIn F n Ι 109 #[.int γ (x:Int)] w λe w'=>e=Ω (.int Χ (Lib.ctz 64 x:Nat))/\w'=w:=by
 obtain⟨ab,G⟩:=Lib.lowest_bit 64 x E hx;obtain⟨hi,ad⟩:=Lib.deBruijn64_at _ G;have H:=hT _ hi;rw[ad] at H;exact DH F n T X x _ _ w (by simp;omega) (DG x _ hx E ab) hi G H
theorem BB (y:Nat) (h0:y≠0) (h:y<18446744073709551616):bits BinOp.and ϩ (y:Int) ((y:Int)-1)=((y &&& (y-1):Nat):Int):=by rw[show ((y:Int)-1)=((y-1:Nat):Int) by omega,u64_and_nat _ _ h (by omega)]
theorem DF (k:Nat) (h:k<256):((ϔ k).toNat:Int)=(k:Int):=by
 simp
 omega
set_option maxRecDepth 100000 in
theorem LJ (F:Fence) (n:Nat) (ar:F.fn 108) (au:F.fn 109) (ae:F.round=J) (hn:1<=n) (l Bc:Nat) (c:Cls) (E Jx:List UInt8->Γ->Prop)
  (hT:∀ pre W,E pre W->Tab W)
  (hY:∀ pre x W,E pre W->(pre++[x]) <+: Au c 256->YieldAt F (n-1) Ι l #[bv x] W λe W'=>(e=Ω (.bool Α)/\E (pre++[x]) W')\/(e=Ω (.bool Ε)/\Jx (pre++[x]) W'))
  (W:Γ) (hc:W.heap[Bc]? = I (Β (Ab c) 91 (0,0))) (h0:E [] W) :
  CallsIn F n Ι 108 #[.func (.yield l) #[] #[],η (I ⟨Bc,0,J⟩)] W λe W'=>(∃ v,e=Ω v)/\((∃ xs,xs=Au c 256/\E xs W')\/(∃ pre,pre <+: Au c 256/\Jx pre W')):=by
 have c0:=(Τ W _ 0 _ _ _ hc).trans rfl;have c1:=(Τ W _ 1 _ _ _ hc).trans rfl;have c2:=(Τ W _ 2 _ _ _ hc).trans rfl;have c3:=(Τ W _ 3 _ _ _ hc).trans rfl;clear hc;refine callsIn_of_wp Tryz.func108 rfl ar ?_ ae;simp only[Tryz.ntmps108,List.size_toArray,ϒ,à,Nat.reduceAdd,Nat.reduceSub,Array.replicate_succ,Array.replicate_zero,List.push_toArray,List.append_toArray,Ú,List.cons_append]
 gi_wp2
 clear c0 c1 c2 c3
 gi_loopw [6] (λX wr=>∃ k:Nat,k<=4/\X=.int Χ k/\E (Au c (64*k)) wr) (λX _=>4-(intOf X).toNat)
 case atStart=>exact⟨0,by omega,rfl,h0⟩
 obtain⟨k,hk,rfl,hJ⟩:=hrel;by_cases az:k<4
 ·have a1:=X4 c k az;have a6:decide ((k:Int)<4)=Α:=by simp;omega
  gi_wp2
  obtain⟨wo,rfl⟩:∃ wo:Γ,wo=wr:=⟨_,rfl⟩;clear a1 a6
  gi_loopw [4] (λv4 wr=>∃ p:Nat,p<=64/\v4=.int γ (hiB (wn c k) p:Nat)/\E (Au c (64*k+p)) wr) (λv4 _=>(intOf v4).toNat)
  case atStart=>exact⟨0,by omega,by rw[PJ];rfl,hJ⟩
  obtain⟨p,hp,rfl,H⟩:=hrel;have T:hiB (wn c k) p<18446744073709551616:=Nat.lt_of_le_of_lt (X9 _ _) (Dy c k);by_cases G:hiB (wn c k) p=0
  ·have aj:=LL c k p hp G;rw[G];rw[<-aj] at H;clear aj G T
   gi_wp2
   go_roundw
   case rel=>exact⟨k+1,by omega,by go_num,H⟩
   simp[intOf];omega
  obtain⟨ht,ab,ad⟩:=LK c k p G;have ak:=DI F (n-1) au ae (hiB (wn c k) p) T G wr (hT _ _ H);have an:Au c (64*k+p)++[ϔ (64*k+Lib.ctz 64 (hiB (wn c k) p))] <+: Au c 256:=by rw[<-ad];exact Z7 c _ _ (by omega)
  obtain⟨fn,bf,bg,bh,hy,hR⟩:=hY _ _ wr H an;rw[<-ad] at hR;have HAnd:=Z ab;have bj:hiB (wn c k) (Lib.ctz 64 (hiB (wn c k) p)+1)<hiB (wn c k) p:=by rw[<-ab];have:=Nat.and_le_right (n:=hiB (wn c k) p) (m:=hiB (wn c k) p-1);omega
  clear ab ad an;generalize hiB (wn c k) p=y at *;generalize Lib.ctz 64 y=t at *;have hb:bv (ϔ (64*k+t))=.int .u8 (64*(k:Int)+(t:Int)):=by
   show Δ.int .u8 ((ϔ (64*k+t)).toNat:Int)=_;rw[DF _ (by omega)]
   congr 1
  have hw:IntKind.u8.wrap (64*(k:Int)+(t:Int))=64*(k:Int)+(t:Int):=IntWalk.u8_in _ ⟨by omega,by omega⟩;rw[hb] at hy;have bl:((y:Int) != 0)=Α:=by simp;omega
  have bm:1<=y:=by omega
  have HT:=Z ak;clear ak hb G
  gi_wp2_with (gi_at_call 109;refine HT.o.mono ?_;clear HT;rintro e w' ⟨rfl,rfl⟩)
  refine hR.mono ?_;rintro e W3 (⟨rfl,ba⟩|⟨rfl,bb⟩)
  ·gi_wp2
   go_roundw
   case rel=>exact⟨t+1,by omega,by rw[BB y (by omega) T,HAnd.o],ba⟩
   rw[BB y (by omega) T,HAnd.o];simp[intOf];omega
  gi_wp2
  refine ω (results_none rfl _ _ _) rfl ?_;exact⟨⟨_,rfl⟩,.inr ⟨_,Z7 c _ _ (by omega),bb⟩⟩
 obtain rfl:k=4:=by omega
 gi_wp2
 go_end0
 exact⟨⟨_,rfl⟩,.inl ⟨_,rfl,hJ⟩⟩
end Go.Proofs.YtilncahcpjlfnaaGreatDoor
