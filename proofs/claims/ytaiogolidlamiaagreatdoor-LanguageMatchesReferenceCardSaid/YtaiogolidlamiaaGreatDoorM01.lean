import GoSem.Core.Value
import Derived.WalkKit
import Derived.Laws.BitsAllLaws
import Derived.Deep.Quiet
import Derived.Lib.Hide
import Derived.Test.YtaiogolidlamiaaGreatDoorProg
import Derived.Outline
import Derived.BigRegion
import Derived.Deep.DeepCutAuto
import Derived.Shelf.Abstract
import Derived.Deep.RegionWith
import Derived.Deep.CutBlock
import Derived.Deep.QuietTactic
import Derived.StillTail
import Derived.Maps.AppendAt
set_option linter.unusedVariables false
set_option linter.unusedSimpArgs false
open Array renaming getElem?_eq_some_iff → ϒ
open BitVec renaming getLsbD_and → ý
open Bool renaming true_and → Ï, true → Ξ, eq_iff_iff → ϰ, false → Τ, and_eq_true → ϝ, or_eq_true → Æ
open Classical renaming byContradiction → ϩ
open Go renaming Value → Ρ, World → Κ, TypeId → Á, cell_of_row → Ω, heap_alloc_new → ϱ, Calls → Ϝ, heap_alloc2_new → Ϙ, frozen_of_row → Ϯ, setCell_eq_setRow → Ϥ, setRow_heap → μ, wpList_load_row → Υ, wpList_store_row → Φ, bodyPost_ret → ϋ, results_cell_row → ϵ, Oper → ϸ, Act → õ, getD_replicate_false → ϭ, wpQuiet_step → í
open Go.Ending renaming returned → ν
open Go.IntKind renaming u64 → π, u64 → ϴ, i64 → ζ, i64 → ç
open Go.Lib renaming hid → Α
open Go.Obj renaming cells → Ε
open Go.Operand renaming tmp → η
open Go.Proofs.Tryz renaming prog → Η, underlying62 → ϗ
open Go.Region renaming ready → Ê
open Go.Value renaming slice → Β, oneCell' → ϊ
open Go.World renaming size_alloc → Λ
open List renaming mem_cons → Û, not_mem_nil → ô, mem_map → À, length_map → Ϗ, map_cons → Ç, getD_eq_getElem?_getD → Ζ, getElem?_eq_getElem → Μ, length_cons → Ϲ, length_append → Ο, getElem_mem → á, mem_append → Ó, mem_singleton → ϳ, pairwise_iff_getElem → ϯ
open List.Pairwise renaming imp_of_mem → æ
open Nat renaming zero_add → î, le_refl → θ
open Option renaming some → Δ, none → Γ
open UInt8 renaming ofNat → χ
namespace Go.Proofs.YtaiogolidlamiaaGreatDoor
set_option maxRecDepth 100000
open Go.RowKit
abbrev Cls:=BitVec 256
def wn (c:Cls) (i:Nat):Nat:=c.toNat / 2 ^ (64*i) % 2 ^ 64
def wd (c:Cls) (i:Nat):Int:=(wn c i:Nat)
abbrev Aa (c:Cls):Array Ρ:=#[.int π (wd c 0),.int π (wd c 1),.int π (wd c 2),.int π (wd c 3)]
def Az (c:Cls) (b:Int):Bool:=c.getLsbD b.toNat
def Bf (c:Cls) (b:Int):Cls:=c ||| BitVec.twoPow 256 b.toNat
theorem D4 (c:Cls) (i:Nat):wn c i<18446744073709551616:=by unfold wn;omega
theorem F8 (c:Cls) (i:Nat):0<=wd c i/\wd c i<18446744073709551616:=by
 have:=D4 c i;unfold wd;omega
theorem F1 (c:Cls) (i:Nat) (h:i<4):(Aa c)[i]? = Δ (.int π (wd c i)):=by
 match i,h with
 | 0,_=>rfl
 | 1,_=>rfl
 | 2,_=>rfl
 | 3,_=>rfl
theorem Cn (c:Cls) (i j:Nat):(wn c i).testBit j=(decide (j<64)&&c.getLsbD (64*i+j)):=by
 unfold wn;rw[Nat.testBit_mod_two_pow,<-Nat.shiftRight_eq_div_pow,Nat.testBit_shiftRight];rfl
theorem Aag {c d:Cls} (h:∀ i,i<4->wn c i=wn d i):c=d:=by
 apply BitVec.eq_of_getLsbD_eq;intro k G;have D:=Cn c (k / 64) (k % 64);have E:=Cn d (k / 64) (k % 64);rw[h (k / 64) (by omega)] at D;have hm:k % 64<64:=Nat.mod_lt _ (by omega);have he:64*(k / 64)+k % 64=k:=by omega
 rw[he] at D E;simp only[hm,decide_true,Ï] at D E;exact D.symm.trans E
theorem Tx (c:Cls) (b:Int) (E:0<=b) (J:b<256) :
  ((wd c (b / 64).toNat / 2 ^ (b % 64).toNat).tmod 2==1)=Az c b:=by
 obtain⟨n,rfl⟩:=Int.eq_ofNat_of_zero_le E;have G:((n:Int) / 64).toNat=n / 64:=by omega
 have H:((n:Int) % 64).toNat=n % 64:=by omega
 rw[G,H];unfold wd Az;have D:=Cn c (n / 64) (n % 64);rw[show 64*(n / 64)+n % 64=n by omega,show decide (n % 64<64)=Ξ by simp;omega,Ï] at D;rw[show ((n:Int)).toNat=n from rfl,<-D,Nat.testBit_eq_decide_div_mod_eq];have I:((wn c (n / 64):Nat):Int) / 2 ^ (n % 64)=((wn c (n / 64) / 2 ^ (n % 64):Nat):Int):=by
  rw[Int.natCast_ediv];simp
 rw[I];generalize wn c (n / 64) / 2 ^ (n % 64)=m;rw[Int.tmod_eq_emod_of_nonneg (by omega)];rw[ϰ];simp;omega
theorem L5 (k:Nat) (h:k<64):2 ^ k<18446744073709551616:=by
 show 2 ^ k<2 ^ 64;exact Nat.pow_lt_pow_right (by omega) h
theorem Nh (k:Nat) (h:k<64):ϴ.wrap (2 ^ k)=((2 ^ k:Nat):Int):=by
 rw[IntKind.wrap_u64];have D:=L5 k h;rw[show ((2:Int) ^ k)=((2 ^ k:Nat):Int) by simp];generalize 2 ^ k=m at *;omega
theorem Al4 (c:Cls) (b:Int) (G:0<=b) (M:b<256) :
  (bits BinOp.and ϴ (wd c (b / 64).toNat) (ϴ.wrap (2 ^ (b % 64).toNat)) != 0)=Az c b:=by
 obtain⟨n,rfl⟩:=Int.eq_ofNat_of_zero_le G;have H:((n:Int) / 64).toNat=n / 64:=by omega
 have I:((n:Int) % 64).toNat=n % 64:=by omega
 have D:n % 64<64:=Nat.mod_lt _ (by omega);have J:=L5 _ D;rw[H,I,Nh _ D];unfold wd Az;rw[u64_and_nat _ _ (D4 _ _) J];have E:=Cn c (n / 64) (n % 64);rw[show 64*(n / 64)+n % 64=n by omega,show decide (n % 64<64)=Ξ by simp;omega,Ï] at E;rw[show ((n:Int)).toNat=n from rfl,<-E];rw[nat_bit,Nat.testBit_eq_decide_div_mod_eq];have T:0<2 ^ (n % 64):=Nat.pow_pos (by omega);generalize 2 ^ (n % 64)=m at *;rcases Nat.mod_two_eq_zero_or_one (wn c (n / 64) / m) with h|h
 ·simp[h]
 ·rw[h,ϰ];simp;omega
theorem Zi (c:Cls) (n i:Nat) (hi:i<4) (hn:n<256) :
  wn (Bf c (n:Int)) i=if i=n / 64 then wn c i ||| 2 ^ (n % 64) else wn c i:=by
 apply Nat.eq_of_testBit_eq;intro j;rw[Cn];unfold Bf;rw[show ((n:Int)).toNat=n from rfl,BitVec.getLsbD_or,BitVec.getLsbD_twoPow];split
 ·rename_i e;subst e
  rw[Nat.testBit_or,Cn,Nat.testBit_two_pow];by_cases D:j<64
  ·simp only[D,decide_true,Ï]
   congr 1
   rw[ϰ];simp;omega
  ·simp only[D,decide_false,Bool.false_and,Bool.false_or];simp;omega
 ·rename_i e
  rw[Cn];by_cases D:j<64
  ·simp only[D,decide_true,Ï];have:(decide (n<256)&&decide (n=64*i+j))=Τ:=by simp;omega
   rw[this,Bool.or_false]
  ·simp[D]
theorem Q7 (c:Cls) (b:Int) (E:0<=b) (J:b<256) :
  bits BinOp.or ϴ (wd c (b / 64).toNat) (ϴ.wrap (2 ^ (b % 64).toNat))=wd (Bf c b) (b / 64).toNat:=by
 obtain⟨n,rfl⟩:=Int.eq_ofNat_of_zero_le E;have G:((n:Int) / 64).toNat=n / 64:=by omega
 have H:((n:Int) % 64).toNat=n % 64:=by omega
 have D:n % 64<64:=Nat.mod_lt _ (by omega);have I:=L5 _ D;rw[G,H,Nh _ D];unfold wd;rw[u64_or_nat _ _ (D4 _ _) I,Zi c n _ (by omega) (by omega),if_pos rfl]
theorem Q8 (c:Cls) (b:Int) (E:0<=b) (J:b<256) :
  (Aa c).setIfInBounds (b / 64).toNat (.int π (wd (Bf c b) (b / 64).toNat))=Aa (Bf c b):=by
 obtain⟨n,rfl⟩:=Int.eq_ofNat_of_zero_le E;have G:((n:Int) / 64).toNat=n / 64:=by omega
 rw[G];have D:∀ i,i<4->i≠n / 64->wd (Bf c (n:Int)) i=wd c i:=λi hi H=>by
  unfold wd;rw[Zi c n i hi (by omega),if_neg H]
 have I:n / 64<4:=by omega
 generalize M:n / 64=k at *
 match k,I with
 | 0,_=>simp[Aa,D 1 (by omega) (by omega),D 2 (by omega) (by omega),D 3 (by omega) (by omega)]
 | 1,_=>simp[Aa,D 0 (by omega) (by omega),D 2 (by omega) (by omega),D 3 (by omega) (by omega)]
 | 2,_=>simp[Aa,D 0 (by omega) (by omega),D 1 (by omega) (by omega),D 3 (by omega) (by omega)]
 | 3,_=>simp[Aa,D 0 (by omega) (by omega),D 1 (by omega) (by omega),D 2 (by omega) (by omega)]
theorem Aai (i:Nat):wd 0#256 i=0:=by unfold wd wn;simp
theorem Afq (a b:Cls) (i:Nat) (_hi:i<4):bits BinOp.or ϴ (wd a i) (wd b i)=wd (a ||| b) i:=by
 unfold wd;rw[u64_or_nat _ _ (D4 _ _) (D4 _ _)]
 congr 1
 apply Nat.eq_of_testBit_eq;intro j;rw[Nat.testBit_or,Cn,Cn,Cn,BitVec.getLsbD_or];cases decide (j<64)<;>rfl
theorem Am7 (a b:Cls) (i:Nat) (_hi:i<4):bits BinOp.and ϴ (wd a i) (wd b i)=wd (a &&& b) i:=by
 unfold wd;rw[u64_and_nat _ _ (D4 _ _) (D4 _ _)]
 congr 1
 apply Nat.eq_of_testBit_eq;intro j;rw[Nat.testBit_and,Cn,Cn,Cn,ý];cases decide (j<64)<;>simp
theorem Uy (x j:Nat) (D:x<18446744073709551616):(18446744073709551615-x).testBit j=(decide (j<64)&&!x.testBit j):=by
 have:=Nat.testBit_two_pow_sub_succ (x:=x) (n:=64) D j
 rwa [show (2 ^ 64-(x+1):Nat)=18446744073709551615-x by omega] at this
theorem Ux (a:Cls) (i:Nat) (hi:i<4):18446744073709551615-wn a i=wn (~~~a) i:=by
 apply Nat.eq_of_testBit_eq;intro j;rw[Uy _ _ (D4 _ _),Cn,Cn,BitVec.getLsbD_not];by_cases D:j<64
 ·simp only[D,decide_true,Ï];rw[show decide (64*i+j<256)=Ξ by simp;omega,Ï]
 ·simp[D]
theorem Agp (a b:Cls) (i:Nat) (hi:i<4):bits BinOp.andNot ϴ (wd a i) (wd b i)=wd (a &&& ~~~b) i:=by
 unfold wd;rw[u64_andNot_nat _ _ (D4 _ _) (D4 _ _),Ux b i hi]
 congr 1
 apply Nat.eq_of_testBit_eq;intro j;rw[Nat.testBit_and,Cn,Cn,Cn,ý];cases decide (j<64)<;>simp
theorem Af3 (a:Cls) (i:Nat) (hi:i<4):bits BinOp.xor ϴ ϴ.max (wd a i)=wd (~~~a) i:=by
 unfold wd;rw[show ϴ.max=((18446744073709551615:Nat):Int) from rfl,u64_xor_nat _ _ (by omega) (D4 _ _)]
 congr 1
 rw[<-Ux a i hi];apply Nat.eq_of_testBit_eq;intro j;rw[Nat.testBit_xor,Uy _ _ (D4 _ _),show (18446744073709551615:Nat)=2 ^ 64-1 by omega,Nat.testBit_two_pow_sub_one,Cn];cases decide (j<64)<;>simp
def P6 (p:Nat->Bool):Nat->Cls
 | 0=>0#256
 | k+1=>if p k then Bf (P6 p k) (k:Int) else P6 p k
theorem Iz (c:Cls) (n b:Nat) (hn:n<256):(Bf c (n:Int)).getLsbD b=(c.getLsbD b||decide (b=n)):=by
 unfold Bf;rw[show ((n:Int)).toNat=n from rfl,BitVec.getLsbD_or,BitVec.getLsbD_twoPow]
 congr 1
 rw[ϰ];simp;omega
def Al (c:Cls):Nat->List UInt8
 | 0=>[]
 | k+1=>if c.getLsbD k then Al c k++[χ k] else Al c k
theorem Kz (c:Cls) (k:Nat):(Al c k).length<=k:=by
 induction k with
 | zero=>simp[Al]
 | succ k D=>
  unfold Al;split
  ·simp;omega
  ·omega
theorem Ho (k q p q' D:Nat) (G:p<2 ^ k) (E:D<2 ^ k):(2 ^ k*q+p) &&& (2 ^ k*q'+D)=2 ^ k*(q &&& q')+(p &&& D):=by
 have H:p &&& D<2 ^ k:=Nat.and_lt_two_pow _ E;apply Nat.eq_of_testBit_eq;intro j;rw[Nat.testBit_and,Nat.testBit_two_pow_mul_add _ G,Nat.testBit_two_pow_mul_add _ E,Nat.testBit_two_pow_mul_add _ H];split<;>simp[Nat.testBit_and]
def ofD:List Nat->Nat
 | []=>0
 | d::l=>256*ofD l+d
def mk (c n:Nat):Nat:=ofD (List.replicate n c)
def b1 (d:Nat):Nat:=(d / 2 &&& 85)+(d &&& 85)
def b2 (d:Nat):Nat:=(d / 4 &&& 51)+(d &&& 51)
def b3 (d:Nat):Nat:=(d / 16+d) &&& 15
def nib (d:Nat):Bool:=d % 16<=4&&d / 16<=4
theorem t1:∀ d,d<256->∀ t,t<2->((128*t+d / 2) &&& 85)+(d &&& 85)=b1 d/\b1 d<256:=by decide +kernel
theorem t2:∀ d,d<256->∀ t,t<4->((64*t+d / 4) &&& 51)+(d &&& 51)=b2 d/\b2 d<256:=by decide +kernel
theorem t3:∀ d,d<256->nib d=Ξ->∀ t,t<5->(16*t+d / 16+d) &&& 15=b3 d/\16*t+d / 16+d<256/\b3 d<16:=by decide +kernel
theorem t4:∀ d,d<256->nib (b2 (b1 d))=Ξ:=by decide +kernel
theorem Ac8 (l:List Nat) (h:∀ d∈l,d<256):(ofD l / 2 &&& mk 85 l.length)+(ofD l &&& mk 85 l.length)=ofD (l.map b1):=by
 induction l with
 | nil=>rfl
 | cons d l D=>
  have D:=D (λx E=>h x (by simp[E]));have hd:=h d (by simp);have G:ofD (d::l) / 2=2 ^ 8*(ofD l / 2)+(128*(ofD l % 2)+d / 2):=by simp only[ofD];omega
  have H:ofD (d::l)=2 ^ 8*ofD l+d:=rfl;have I:mk 85 (d::l).length=2 ^ 8*mk 85 l.length+85:=rfl;rw[G,H,I,Ho 8 _ _ _ _ (by omega) (by omega),Ho 8 _ _ _ _ (by omega) (by omega)];have J:=(t1 d hd (ofD l % 2) (by omega)).1;show _=256*ofD (l.map b1)+b1 d;omega
theorem Ac7 (l:List Nat) (h:∀ d∈l,d<256):(ofD l / 4 &&& mk 51 l.length)+(ofD l &&& mk 51 l.length)=ofD (l.map b2):=by
 induction l with
 | nil=>rfl
 | cons d l D=>
  have D:=D (λx E=>h x (by simp[E]));have hd:=h d (by simp);have G:ofD (d::l) / 4=2 ^ 8*(ofD l / 4)+(64*(ofD l % 4)+d / 4):=by simp only[ofD];omega
  have H:ofD (d::l)=2 ^ 8*ofD l+d:=rfl;have I:mk 51 (d::l).length=2 ^ 8*mk 51 l.length+51:=rfl;rw[G,H,I,Ho 8 _ _ _ _ (by omega) (by omega),Ho 8 _ _ _ _ (by omega) (by omega)];have J:=(t2 d hd (ofD l % 4) (by omega)).1;show _=256*ofD (l.map b2)+b2 d;omega
theorem Ahi (l:List Nat) (h:∀ d∈l,d<256/\nib d=Ξ):ofD l % 16<5:=by
 cases l with
 | nil=>simp[ofD]
 | cons d l=>
  have:=(h d (by simp)).2;simp only[nib,ϝ,decide_eq_true_eq] at this;simp only[ofD];omega
theorem Ac6 (l:List Nat) (h:∀ d∈l,d<256/\nib d=Ξ):(ofD l / 16+ofD l) &&& mk 15 l.length=ofD (l.map b3):=by
 induction l with
 | nil=>rfl
 | cons d l D=>
  have E:∀ d∈l,d<256/\nib d=Ξ:=λx G=>h x (by simp[G])
  have D:=D E;have hd:=h d (by simp);have J:=t3 d hd.1 hd.2 (ofD l % 16) (Ahi l E);have H:ofD (d::l) / 16+ofD (d::l)=2 ^ 8*(ofD l / 16+ofD l)+(16*(ofD l % 16)+d / 16+d):=by simp only[ofD];omega
  have I:mk 15 (d::l).length=2 ^ 8*mk 15 l.length+15:=rfl;rw[H,I,Ho 8 _ _ _ _ (by omega) (by omega)];show _=256*ofD (l.map b3)+b3 d;omega
def cnt (p:Nat->Bool):Nat->Nat
 | 0=>0
 | n+1=>cnt p n+(if p n then 1 else 0)
theorem Qp (p q:Nat->Bool) (n:Nat) (h:∀ k,k<n->p k=q k):cnt p n=cnt q n:=by
 induction n with
 | zero=>rfl
 | succ n D=>simp only[cnt];rw[D (λk E=>h k (by omega)),h n (by omega)]
theorem Xy (p:Nat->Bool) (m n:Nat):cnt p (m+n)=cnt p m+cnt (λk=>p (m+k)) n:=by
 induction n with
 | zero=>rfl
 | succ n D=>rw[<-Nat.add_assoc];simp only[cnt];rw[D];omega
theorem Ae1:∀ d,d<256->b3 (b2 (b1 d))=cnt d.testBit 8:=by decide +kernel
theorem Di (p:Nat->Bool) (n:Nat):cnt p n<=n:=by
 induction n with
 | zero=>simp[cnt]
 | succ n D=>simp only[cnt];split<;>omega
theorem Alc (l:List Nat) (h:∀ d∈l,d<256):cnt (ofD l).testBit (8*l.length)=(l.map λd=>cnt d.testBit 8).sum:=by
 induction l with
 | nil=>rfl
 | cons d l D=>
  have D:=D (λx H=>h x (by simp[H]));have hd:d<2 ^ 8:=h d (by simp);rw[show 8*(d::l).length=8+8*l.length by simp;omega,Xy];have E:ofD (d::l)=2 ^ 8*ofD l+d:=rfl;have I:cnt (ofD (d::l)).testBit 8=cnt d.testBit 8:=Qp _ _ _ λk G=>by
   rw[E,Nat.testBit_two_pow_mul_add _ hd,if_pos G]
  have J:cnt (λk=>(ofD (d::l)).testBit (8+k)) (8*l.length)=cnt (ofD l).testBit (8*l.length):=Qp _ _ _ λk G=>by
   rw[E,Nat.testBit_two_pow_mul_add _ hd,if_neg (by omega)];congr 1;omega
  rw[I,J,D];simp
theorem Akw (x:Nat) (h:x<18446744073709551616):x=ofD [x % 256,x / 256 % 256,x / 65536 % 256,x / 16777216 % 256,x / 4294967296 % 256,x / 1099511627776 % 256,x / 281474976710656 % 256,x / 72057594037927936 % 256]:=by
 simp only[ofD];omega
def st1 (x:Nat):Nat:=(x / 2 &&& 6148914691236517205)+(x &&& 6148914691236517205)
def st2 (x:Nat):Nat:=(x / 4 &&& 3689348814741910323)+(x &&& 3689348814741910323)
def st3 (x:Nat):Nat:=(x / 16+x) &&& 1085102592571150095
def st4 (x:Nat):Nat:=x+x / 256
def st5 (x:Nat):Nat:=x+x / 65536
def st6 (x:Nat):Nat:=x+x / 4294967296
theorem Abh (a b c d e f g h:Nat) (ha:a<=8) (I:b<=8) (J:c<=8) (hd:d<=8) (he:e<=8) (M:f<=8) (hg:g<=8) (T:h<=8) :
  st6 (st5 (st4 (ofD [a,b,c,d,e,f,g,h]))) % 128=a+b+c+d+e+f+g+h:=by
 have D:∀ (a:Nat) (l:List Nat),a<256->ofD (a::l) / 256=ofD l:=λa l h=>by simp only[ofD];omega
 have E:st4 (ofD [a,b,c,d,e,f,g,h])=ofD [a+b,b+c,c+d,d+e,e+f,f+g,g+h,h]:=by
  unfold st4;rw[D a _ (by omega)];simp only[ofD];omega
 have G:st5 (ofD [a+b,b+c,c+d,d+e,e+f,f+g,g+h,h])=ofD [a+b+c+d,b+c+d+e,c+d+e+f,d+e+f+g,e+f+g+h,f+g+h,g+h,h]:=by
  unfold st5;rw[show (65536:Nat)=256*256 from rfl,<-Nat.div_div_eq_div_mul,D _ _ (by omega),D _ _ (by omega)];simp only[ofD];omega
 have H:st6 (ofD [a+b+c+d,b+c+d+e,c+d+e+f,d+e+f+g,e+f+g+h,f+g+h,g+h,h])=ofD [a+b+c+d+e+f+g+h,b+c+d+e+f+g+h,c+d+e+f+g+h,d+e+f+g+h,e+f+g+h,f+g+h,g+h,h]:=by
  unfold st6;rw[show (4294967296:Nat)=256*256*256*256 from rfl,<-Nat.div_div_eq_div_mul,<-Nat.div_div_eq_div_mul,<-Nat.div_div_eq_div_mul,D _ _ (by omega),D _ _ (by omega),D _ _ (by omega),D _ _ (by omega)];simp only[ofD];omega
 rw[E,G,H];have:∀ (s:Nat) (l:List Nat),ofD (s::l) % 128=s % 128:=λs l=>by simp only[ofD];omega
 rw[this];omega
theorem Abt (x:Nat) (h:x<18446744073709551616) :
  st1 x<18446744073709551616/\st2 (st1 x)<=4919131752989213764/\st3 (st2 (st1 x))<=578721382704613384/\st6 (st5 (st4 (st3 (st2 (st1 x))))) % 128=cnt x.testBit 64:=by
 have G:=Akw x h;generalize J:[x % 256,x / 256 % 256,x / 65536 % 256,x / 16777216 % 256,x / 4294967296 % 256,x / 1099511627776 % 256,x / 281474976710656 % 256,x / 72057594037927936 % 256]=l at G;have D:l.length=8:=by rw[<-J];rfl
 have E:∀ d∈l,d<256:=by
  rw[<-J];intro d hd
  simp only[Û,ô,or_false] at hd;omega
 have M:st1 x=ofD (l.map b1):=by
  rw[G,<-Ac8 l E,D];rfl
 have T:∀ d∈l.map b1,d<256:=by
  intro d hd;obtain⟨d0,H,rfl⟩:=À.1 hd;exact (t1 d0 (E d0 H) 0 (by omega)).2
 have U:st2 (st1 x)=ofD ((l.map b1).map b2):=by
  rw[M,<-Ac7 _ T,Ϗ,D];rfl
 have aa:∀ d∈(l.map b1).map b2,d<256/\nib d=Ξ:=by
  intro d hd;obtain⟨d0,H,rfl⟩:=À.1 hd;obtain⟨d1,h1,rfl⟩:=À.1 H;exact⟨(t2 _ (t1 d1 (E d1 h1) 0 (by omega)).2 0 (by omega)).2,t4 d1 (E d1 h1)⟩
 have I:st3 (st2 (st1 x))=ofD (((l.map b1).map b2).map b3):=by
  rw[U,<-Ac6 _ aa,Ϗ,Ϗ,D];rfl
 have e4:((l.map b1).map b2).map b3=l.map λd=>cnt d.testBit 8:=by
  rw[List.map_map,List.map_map];apply List.map_congr_left;intro d hd;exact Ae1 d (E d hd)
 have e5:=Alc l E;rw[D,<-G] at e5;rw[e4] at I;have af:∀ (m:List Nat),m.length=8->(∀ d∈m,d<256)->ofD m<18446744073709551616:=by
  intro m hm hd
  match m,hm with
  | [a,b,c,d,e,f,g,i],_=>
   simp only[Û,ô,or_false,forall_eq_or_imp,forall_eq] at hd;simp only[ofD];omega
 have ag:∀ (m:List Nat),m.length=8->(∀ d∈m,d<256/\nib d=Ξ)->ofD m<=4919131752989213764:=by
  intro m hm hd;have ah:∀ d∈m,d<=68:=λd h=>by
   have:=(hd d h).2;simp only[nib,ϝ,decide_eq_true_eq] at this;omega
  match m,hm with
  | [a,b,c,d,e,f,g,i],_=>
   simp only[Û,ô,or_false,forall_eq_or_imp,forall_eq] at ah;simp only[ofD];omega
 refine⟨by rw[M];exact af _ (by simp[D]) T,by rw[U];exact ag _ (by simp[D]) aa,?_,?_⟩
 ·rw[I]
  match l,D with
  | [a,b,c,d,e,f,g,i],_=>
   simp only[Ç,List.map_nil,ofD];have:=Di a.testBit 8;have:=Di b.testBit 8;have:=Di c.testBit 8;have:=Di d.testBit 8
   have:=Di e.testBit 8;have:=Di f.testBit 8;have:=Di g.testBit 8;have:=Di i.testBit 8
   omega
 ·rw[I,e5]
  match l,D with
  | [a,b,c,d,e,f,g,i],_=>
   rw[Ç,Ç,Ç,Ç,Ç,Ç,Ç,Ç,List.map_nil];rw[Abh _ _ _ _ _ _ _ _ (Di _ _) (Di _ _) (Di _ _) (Di _ _) (Di _ _) (Di _ _) (Di _ _) (Di _ _)];simp only[List.sum_cons,List.sum_nil];omega
structure Ext (w W:Κ):Prop where
 below:Below w.heap.size w W
theorem Ι (w:Κ):Ext w w:=⟨Below.refl _ _⟩
theorem Ext.trans {a b c:Κ} (h:Ext a b) (k:Ext b c):Ext a c:=
 ⟨h.below.trans (k.below.mono h.below.size)⟩
theorem Ext.alloc {a b:Κ} (h:Ext a b) (o:Obj):Ext a (b.alloc o):=⟨h.below.alloc h.below.size o⟩
theorem Ext.drew {a b:Κ} (h:Ext a b):Ext a b.drew:=⟨h.below.drew⟩
theorem Ext.drawn1 {a b:Κ} (h:Ext a b):Ext a { b with drawn:=b.drawn+1 }:=h.drew
theorem Ext.setCell {a b:Κ} (h:Ext a b) {p:Addr} (D:a.heap.size<=p.block) (v:Ρ):Ext a (b.setCell p v):=⟨h.below.setCell D v⟩
theorem Bx (w:Κ) (g:Nat) (cs:Array Ρ):w.grownBy (w.setRow g cs) (Δ g):=
 ⟨rfl,rfl,rfl,by simp,λk _ D=>setRow_other w g k cs (λe=>D (by rw[e]))⟩
theorem Ext.setRow {a b:Κ} (h:Ext a b) {g:Nat} (hg:a.heap.size<=g) (cs:Array Ρ):Ext a (b.setRow g cs):=
 ⟨h.below.grown (Bx b g cs) h.below.size (λk e=>by cases e;exact hg)⟩
theorem Ext.grown {a b c:Κ} {row:Option Nat} (h:Ext a b) (hg:b.grownBy c row) (D:∀ k,row=Δ k->a.heap.size<=k):Ext a c:=⟨h.below.grown hg h.below.size D⟩
theorem Ext.size {a b:Κ} (h:Ext a b):a.heap.size<=b.heap.size:=h.below.size
theorem Ext.block {a b:Κ} (h:Ext a b) {k:Nat} (D:k<a.heap.size):b.heap[k]? = a.heap[k]? := h.below.block k D
theorem Ext.heap {a b:Κ} (h:Ext a b) {k:Nat} {o:Obj} (D:a.heap[k]? = Δ o):b.heap[k]? = Δ o:=
 (h.block (ϒ.1 D).1).trans D
theorem Ext.cell {a b:Κ} (h:Ext a b) {p:Addr} {v:Ρ} (D:a.cell? p=Δ v):b.cell? p=Δ v:=
 (h.below.cell (Κ.block_lt_of_cell? a p D)).trans D
theorem Ag {w:Κ} {k:Nat} {o:Obj} (h:w.heap[k]? = Δ o) (x:Obj):(w.alloc x).heap[k]? = Δ o:=
 (Below.heap_alloc w x k (ϒ.1 h).1).trans h
theorem B8 {w:Κ} {k:Nat} {o:Obj} (h:w.heap[k]? = Δ o) {g:Nat} (D:k≠g) (cs:Array Ρ):(w.setRow g cs).heap[k]? = Δ o:=
 (setRow_other w g k cs D).trans h
theorem An {w:Κ} {k:Nat} {o:Obj} (h:w.heap[k]? = Δ o):k<w.heap.size:=(ϒ.1 h).1
def Sl (W:Κ) (v:Ρ) (k n:Nat) (f:Nat->Ρ):Prop:=
 n<=4611686018427387904/\((n=0/\∃ a D,v=Β a 0 D)\/
  (0<n/\∃ b E D,v=Β (Δ ⟨b,E,Γ⟩) n D/\b<W.heap.size/\∀ i,i<n*k->W.cell? ⟨b,E+i,Γ⟩=Δ (f i)))
theorem Sl.ext {W W':Κ} {v:Ρ} {k n:Nat} {f:Nat->Ρ} (h:Sl W v k n f) (D:Ext W W'):Sl W' v k n f:=by
 obtain⟨E,h|⟨hn,b,G,H,hv,I,J⟩⟩:=h
 ·exact⟨E,.inl h⟩
 ·exact⟨E,.inr ⟨hn,b,G,H,hv,Nat.lt_of_lt_of_le I D.size,λi hi=>D.cell (J i hi)⟩⟩
theorem Sl.congr {W:Κ} {v:Ρ} {k n:Nat} {f g:Nat->Ρ} (h:Sl W v k n f) (E:∀ i,i<n*k->f i=g i):Sl W v k n g:=by
 obtain⟨D,h|⟨hn,b,G,H,hv,I,J⟩⟩:=h
 ·exact⟨D,.inl h⟩
 ·exact⟨D,.inr ⟨hn,b,G,H,hv,I,λi hi=>by rw[J i hi,E i hi]⟩⟩
theorem Sl.nil (W:Κ) (k:Nat) (f:Nat->Ρ):Sl W (Β Γ 0 0) k 0 f:=⟨by omega,.inl ⟨rfl,_,_,rfl⟩⟩
abbrev bv (x:UInt8):Ρ:=.int .u8 (x.toNat:Int)
def By (W:Κ) (v:Ρ) (l:List UInt8):Prop:=Sl W v 1 l.length (λi=>bv (l.getD i 0))
theorem Ext.grownBy {a b:Κ} (h:Ext a b) (row:Option Nat):a.grownBy b row:=⟨h.below.os,h.below.tape,h.below.output,h.size,λ_ D _=>h.block D⟩
theorem Ah {a b:Κ} {base:Nat} {e:Á} {size:Nat} {v:Ρ} {n:Nat} {xs:List Ρ} (h:a.ownsRow base e size v n xs) (D:Ext a b):b.ownsRow base e size v n xs:=
 h.kept (D.grownBy Γ) (by cases v.ownBlock<;>simp)
theorem Sl.of_owns {w:Κ} {base:Nat} {e:Á} {k:Nat} {v:Ρ} {n:Nat} {xs:List Ρ} (h:w.ownsRow base e k v n xs) (hn:n<=4611686018427387904) (d:Ρ):Sl w v k n (λi=>xs.getD i d):=by
 refine⟨hn,?_⟩;obtain⟨J,⟨rfl,rfl⟩|⟨g,E,cur,rfl,M,hg,T,U,aa,G⟩⟩:=h
 ·exact .inl ⟨rfl,_,_,rfl⟩
 ·by_cases H:n=0
  ·subst H;exact .inl ⟨rfl,_,_,rfl⟩
  ·refine .inr ⟨by omega,g,0,E,rfl,An hg,λi hi=>?_⟩;rw[î,Ω w g i cur e (0,0) hg];have I:xs[i]? = cur.toList[i]? := by rw[<-G,List.getElem?_take,if_pos hi]
   have D:i<xs.length:=by omega
   show cur[i]? = Δ (xs.getD i d);rw[Ζ,Μ D,Option.getD_some,<-Array.getElem?_toList,<-I,Μ D]
theorem By.of_owns {w:Κ} {base:Nat} {v:Ρ} {l:List UInt8} (h:w.ownsRow base 5 1 v l.length (l.map bv)) (hn:l.length<=4611686018427387904):By w v l:=
 (Sl.of_owns h hn (bv 0)).congr λi hi=>by
  simp only[Ζ,List.getElem?_map];cases l[i]?<;>rfl
theorem By.ext {W W':Κ} {v:Ρ} {l:List UInt8} (h:By W v l) (D:Ext W W'):By W' v l:=Sl.ext h D
theorem By.len {W:Κ} {v:Ρ} {l:List UInt8} (h:By W v l):∃ a D,v=Β a l.length D:=by
 obtain⟨_,⟨hn,a,D,rfl⟩|⟨_,b,E,D,rfl,_⟩⟩:=h
 ·exact⟨a,D,by rw[hn]⟩
 ·exact⟨_,D,rfl⟩
theorem G5 {a b:Bool} (h:a=b):Ending.returned (.bool a)=ν (.bool b):=by rw[h]
theorem Oa {k:IntKind} {a b:Int} (h:a=b):Ending.returned (.int k a)=ν (.int k b):=by rw[h]
theorem M1 (w:Κ) (cs:Array Ρ) (t:Á) (i:Nat) (v:Ρ) (h:cs[i]? = Δ v):(w.alloc (Ε cs t)).cell? ⟨w.heap.size,i,Γ⟩=Δ v:=
 (Ω _ _ i cs t (0,0) (ϱ w _)).trans h
theorem Od (c:Cls) (b:Int) (D:0<=b) (E:b<256) (w:Κ) :
  Ϝ Η 136 #[.agg (Aa c),.int .u8 b] w λe w'=>e=ν (.bool (Az c b))/\Ext w w':=by
 have G:=M1 w (Aa c) 62 (b / 64).toNat _ (F1 c _ (by omega));have ⟨H,I⟩:=F8 c (b / 64).toNat;go_enter Tryz.func136,Tryz.ntmps136;go_wp2;go_ret;exact⟨G5 (Tx c b D E),(Ι w).alloc _⟩
theorem Wn (c:Cls) (b:Int) (D:0<=b) (E:b<256) (w:Κ) :
  Ϝ Η 131 #[.agg (Aa c),.int .u8 b] w λe w'=>e=ν (.bool (Az c b))/\Ext w w':=by
 have G:=M1 w (Aa c) 62 (b / 64).toNat _ (F1 c _ (by omega));have ⟨H,I⟩:=F8 c (b / 64).toNat;go_enter Tryz.func131,Tryz.ntmps131;go_wp2;go_ret;exact⟨G5 (Al4 c b D E),(Ι w).alloc _⟩
theorem Bg:(Η.info? 62).map (·.size)=Δ 4:=by kernel_rfl
theorem Eb (c:Cls):(Aa c).all (·.oneCell')=Ξ:=by simp[ϊ]
theorem Rw (c:Cls) (b:Int) (H:0<=b) (I:b<256) (w:Κ) :
  Ϝ Η 124 #[.agg (Aa c),.int .u8 b] w λe w'=>e=ν (.agg (Aa (Bf c b)))/\Ext w w':=by
 have ⟨T,U⟩:=F8 c (b / 64).toNat;go_enter Tryz.func124,Tryz.ntmps124;go_upto_region 2 with (fail)
 go_cut [] (λW=>Ext w W/\W.heap[w.heap.size]? = Δ (Ε (Aa (Bf c b)) 62 (0,0))/\W.heap[w.heap.size+1]? = Δ (Ε #[.int π 0,.int π 0,.int π 0,.int π 0] 62 (0,0)))
 case first=>
  have G:=((Ι w).alloc (Ε (Aa c) 62)).alloc (Ε #[.int π 0,.int π 0,.int π 0,.int π 0] 62);have D:=Ag (ϱ w (Ε (Aa c) 62)) (Ε #[.int π 0,.int π 0,.int π 0,.int π 0] 62);have E:=Ϙ w (Ε (Aa c) 62) (Ε #[.int π 0,.int π 0,.int π 0,.int π 0] 62);generalize (w.alloc (Ε (Aa c) 62)).alloc (Ε #[.int π 0,.int π 0,.int π 0,.int π 0] 62)=W at *;have hc:=(Ω W _ (b / 64).toNat _ _ _ D).trans (F1 c _ (by omega));have hf:=Ϯ W _ (b / 64).toNat _ _ D;go_wp2;go_meet
  rw[Q7 c b H I,Ϥ W _ _ _ _ _ _ D,Q8 c b H I];exact⟨G.setRow (θ _) _,μ W _ _ _ _ _ D,B8 E (by omega) _⟩
 case rest=>
  obtain⟨G,D,E⟩:=hcut;have M:=Α D;have J:=Α E;clear D E;go_wp2_with (first
   | (refine Υ rfl 62 _ rfl _ rfl _ _ _ _ M.out ϗ rfl Bg ?_)
   | (refine Φ rfl 62 _ _ rfl _ _ rfl rfl _ _ J.out Bg rfl (Eb _) ?_))
  refine ϋ (v:=.agg (Aa (Bf c b))) (ϵ rfl _ _ _ _ _ _ _ rfl (μ wc _ _ (Aa (Bf c b)) 62 (0,0) J.out) ϗ rfl Bg) rfl ?_;exact⟨rfl,G.setRow (by omega) _⟩
open Go.RowKit Go.Shelf
def Eh (g:Nat->Int) (i:Nat):Array Ρ:=
 #[.int π (if 0<i then g 0 else 0),.int π (if 1<i then g 1 else 0),.int π (if 2<i then g 2 else 0),.int π (if 3<i then g 3 else 0)]
theorem Aao (g:Nat->Int) (i:Nat) (h:i<4):(Eh g i).setIfInBounds i (.int π (g i))=Eh g (i+1):=by
 match i,h with
 | 0,_=>rfl
 | 1,_=>rfl
 | 2,_=>rfl
 | 3,_=>rfl
theorem Aap (g:Nat->Int) (i j:Nat) (h:j<4):(Eh g i)[j]? = Δ (.int π (if j<i then g j else 0)):=by
 match j,h with
 | 0,_=>rfl
 | 1,_=>rfl
 | 2,_=>rfl
 | 3,_=>rfl
def K7 (g:Nat) (F:Int->Int->Int):Prop:=
 ∀ (x y:Int) (w:Κ),0<=x->x<18446744073709551616->0<=y->y<18446744073709551616->
  Ϝ Η g #[.int π x,.int π y] w λe w'=>e=ν (.int π (F x y))/\w'=w
theorem Mx (g:Nat) (F:Int->Int->Int) (hg:K7 g F) (eg:∀ args w,(callFunc g args).run Η w=.ok (.enter g args) w) (a b c:Cls) (hc:∀ i,i<4->F (wd a i) (wd b i)=wd c i) (w:Κ) :
  Ϝ Η 125 #[.agg (Aa a),.agg (Aa b),.func (.func g) #[] #[]] w λe w'=>e=ν (.agg (Aa c))/\Ext w w':=by
 go_enter Tryz.func125,Tryz.ntmps125;go_wp2_with (fail);have hz:(#[.int π 0,.int π 0,.int π 0,.int π 0]:Array Ρ)=Eh (wd c) 0:=rfl;go_loopw [9] (λi W=>∃ k:Nat,k<=4/\i=.int ζ k/\Ext w W/\W.heap[w.heap.size]? = Δ (Ε (Aa a) 62 (0,0))/\W.heap[w.heap.size+1]? = Δ (Ε (Aa b) 62 (0,0))/\
   W.heap[w.heap.size+1+1]? = Δ (Ε (Eh (wd c) 0) 62 (0,0))/\W.heap[w.heap.size+1+1+1]? = Δ (Ε (Eh (wd c) k) 62 (0,0)))
  (λi _=>4-(intOf i).toNat)
 case atStart=>
  refine⟨0,by omega,rfl,((((Ι w).alloc _).alloc _).alloc _).alloc _,?_,?_,?_,?_⟩
  ·exact Ag (Ag (Ag (ϱ w _) _) _) _
  ·have h:=Ag (Ag (ϱ (w.alloc (Ε (Aa a) 62)) (Ε (Aa b) 62)) (Ε (Eh (wd c) 0) 62)) (Ε (Eh (wd c) 0) 62)
   rwa [Λ] at h
  ·have h:=Ag (ϱ ((w.alloc (Ε (Aa a) 62)).alloc (Ε (Aa b) 62)) (Ε (Eh (wd c) 0) 62)) (Ε (Eh (wd c) 0) 62)
   rwa [Λ,Λ] at h
  ·have h:=ϱ (((w.alloc (Ε (Aa a) 62)).alloc (Ε (Aa b) 62)).alloc (Ε (Eh (wd c) 0) 62)) (Ε (Eh (wd c) 0) 62)
   rwa [Λ,Λ,Λ] at h
 case round=>
  obtain⟨k,hk,rfl,H,I,J,M,T⟩:=hrel;have U:=Α I;have HB:=Α J;have D:=Α T;have G:=Α M;clear I J T M hz;by_cases E:k<4
  ·have cA:=(Ω wr _ k _ _ _ U.out).trans (F1 a k E);have cB:=(Ω wr _ k _ _ _ HB.out).trans (F1 b k E);have cC:=(Ω wr _ k _ _ _ D.out).trans (Aap (wd c) k k E);have fC:=Ϯ wr _ k _ _ D.out;have ba:=F8 a k;have bb:=F8 b k;go_upto_block 1 with (fail)
   go_cut [] (λW=>Ext w W/\W.heap[w.heap.size]? = Δ (Ε (Aa a) 62 (0,0))/\W.heap[w.heap.size+1]? = Δ (Ε (Aa b) 62 (0,0))/\
    W.heap[w.heap.size+1+1]? = Δ (Ε (Eh (wd c) 0) 62 (0,0))/\W.heap[w.heap.size+1+1+1]? = Δ (Ε (Eh (wd c) (k+1)) 62 (0,0)))
   case first=>
    go_wp2;go_region_with (go_at_fn g;refine (hg _ _ _ ba.1 ba.2 bb.1 bb.2).mono ?_;rintro e w' ⟨rfl,rfl⟩)
    all_goals
     go_wp2;go_meet
     rw[Ϥ wr _ _ _ _ _ _ D.out,Aao _ _ E];exact⟨(H.setRow (by omega) _).drew,B8 U.out (by omega) _,B8 HB.out (by omega) _,B8 G.out (by omega) _,μ wr _ _ _ _ _ D.out⟩
   case rest=>
    obtain⟨aq,ae,af,ag,ah⟩:=hcut;have ar:=Α ae;have au:=Α af;have aw:=Α ah;have ax:=Α ag;clear ae af ah ag cA cB cC fC;go_wp2;go_roundw
    case rel=>exact⟨k+1,by omega,by go_num,aq,ar.out,au.out,ax.out,aw.out⟩
    case measure=>simp[intOf];omega
  ·obtain rfl:k=4:=by omega
   have ai:wr.heap[w.heap.size+1+1+1]? = Δ (Ε (Aa c) 62 (0,0)):=D.out;have ay:=Α ai;clear ai;go_wp2_with (first
    | (refine Υ rfl 62 _ rfl _ rfl _ _ _ _ ay.out ϗ rfl Bg ?_)
    | (refine Φ rfl 62 _ _ rfl _ _ rfl rfl _ _ G.out Bg rfl (Eb _) ?_))
   refine ϋ (v:=.agg (Aa c)) (ϵ rfl _ _ _ _ _ _ _ rfl (μ wr _ _ (Aa c) 62 (0,0) G.out) ϗ rfl Bg) rfl ?_;exact⟨rfl,H.setRow (by omega) _⟩
theorem Afw:K7 127 (bits BinOp.or ϴ):=by
 intro x y w D E G H;go_enter Tryz.func127,Tryz.ntmps127;go_wp2;go_ret;exact⟨rfl,rfl⟩
theorem Afv:K7 126 (bits BinOp.and ϴ):=by
 intro x y w D E G H;go_enter Tryz.func126,Tryz.ntmps126;go_wp2;go_ret;exact⟨rfl,rfl⟩
theorem Afu:K7 159 (bits BinOp.andNot ϴ):=by
 intro x y w D E G H;go_enter Tryz.func159,Tryz.ntmps159;go_wp2;go_ret;exact⟨rfl,rfl⟩
theorem Aft:K7 128 (λx _=>bits BinOp.xor ϴ ϴ.max x):=by
 intro x y w D E G H;go_enter Tryz.func128,Tryz.ntmps128;go_wp2;all_goals go_ret
 all_goals exact⟨rfl,rfl⟩
theorem R4 (a b:Cls) (w:Κ) :
  Ϝ Η 93 #[.agg (Aa a),.agg (Aa b)] w λe w'=>e=ν (.agg (Aa (a ||| b)))/\Ext w w':=by
 have G:∀ args w,(callFunc 127 args).run Η w=.ok (.enter 127 args) w:=enters_of Tryz.func127 (by kernel_rfl) rfl;have H:=Ag (Ag (ϱ w (Ε (Aa a) 62)) (Ε (Aa b) 62)) (Ε #[.int π 0,.int π 0,.int π 0,.int π 0] 62);have D:=Ag (ϱ (w.alloc (Ε (Aa a) 62)) (Ε (Aa b) 62)) (Ε #[.int π 0,.int π 0,.int π 0,.int π 0] 62);have E:=ϱ ((w.alloc (Ε (Aa a) 62)).alloc (Ε (Aa b) 62)) (Ε #[.int π 0,.int π 0,.int π 0,.int π 0] 62);have T:=(((Ι w).alloc (Ε (Aa a) 62)).alloc (Ε (Aa b) 62)).alloc (Ε #[.int π 0,.int π 0,.int π 0,.int π 0] 62);rw[Λ] at D;rw[Λ,Λ] at E;have U:=Α D;clear D;have HA:=Α H;have HR:=Α E;clear H E;have I:=λW=>Mx 127 _ Afw G a b (a ||| b) (λi hi=>Afq a b i hi) W
 clear G;go_enter Tryz.func93,Tryz.ntmps93;go_wp2_with (first
  | (refine Υ rfl 62 (η 2) rfl _ rfl _ _ _ _ HA.out ϗ rfl Bg ?_)
  | (refine Υ rfl 62 (η 3) rfl _ rfl _ _ _ _ U.out ϗ rfl Bg ?_)
  | (go_at_call 125;refine (I _).mono ?_;rintro e w' ⟨rfl,J⟩;have M:=Α (J.heap HR.out);clear I)
  | (refine Φ rfl 62 _ _ rfl _ _ rfl rfl _ _ M.out Bg rfl (Eb _) ?_))
 refine ϋ (v:=.agg (Aa (a ||| b))) (ϵ rfl _ _ _ _ _ _ _ rfl (μ w' _ _ (Aa (a ||| b)) 62 (0,0) M.out) ϗ rfl Bg) rfl ?_;exact⟨rfl,(T.trans J).setRow (by omega) _⟩
theorem Wa (a b:Cls) (w:Κ) :
  Ϝ Η 92 #[.agg (Aa a),.agg (Aa b)] w λe w'=>e=ν (.agg (Aa (a &&& b)))/\Ext w w':=by
 have G:∀ args w,(callFunc 126 args).run Η w=.ok (.enter 126 args) w:=enters_of Tryz.func126 (by kernel_rfl) rfl;have H:=Ag (Ag (ϱ w (Ε (Aa a) 62)) (Ε (Aa b) 62)) (Ε #[.int π 0,.int π 0,.int π 0,.int π 0] 62);have D:=Ag (ϱ (w.alloc (Ε (Aa a) 62)) (Ε (Aa b) 62)) (Ε #[.int π 0,.int π 0,.int π 0,.int π 0] 62);have E:=ϱ ((w.alloc (Ε (Aa a) 62)).alloc (Ε (Aa b) 62)) (Ε #[.int π 0,.int π 0,.int π 0,.int π 0] 62);have T:=(((Ι w).alloc (Ε (Aa a) 62)).alloc (Ε (Aa b) 62)).alloc (Ε #[.int π 0,.int π 0,.int π 0,.int π 0] 62);rw[Λ] at D;rw[Λ,Λ] at E;have U:=Α D;clear D;have HA:=Α H;have HR:=Α E;clear H E;have I:=λW=>Mx 126 _ Afv G a b (a &&& b) (λi hi=>Am7 a b i hi) W
 clear G;go_enter Tryz.func92,Tryz.ntmps92;go_wp2_with (first
  | (refine Υ rfl 62 (η 2) rfl _ rfl _ _ _ _ HA.out ϗ rfl Bg ?_)
  | (refine Υ rfl 62 (η 3) rfl _ rfl _ _ _ _ U.out ϗ rfl Bg ?_)
  | (go_at_call 125;refine (I _).mono ?_;rintro e w' ⟨rfl,J⟩;have M:=Α (J.heap HR.out);clear I)
  | (refine Φ rfl 62 _ _ rfl _ _ rfl rfl _ _ M.out Bg rfl (Eb _) ?_))
 refine ϋ (v:=.agg (Aa (a &&& b))) (ϵ rfl _ _ _ _ _ _ _ rfl (μ w' _ _ (Aa (a &&& b)) 62 (0,0) M.out) ϗ rfl Bg) rfl ?_;exact⟨rfl,(T.trans J).setRow (by omega) _⟩
theorem Agq (a b:Cls) (w:Κ) :
  Ϝ Η 154 #[.agg (Aa a),.agg (Aa b)] w λe w'=>e=ν (.agg (Aa (a &&& ~~~b)))/\Ext w w':=by
 have G:∀ args w,(callFunc 159 args).run Η w=.ok (.enter 159 args) w:=enters_of Tryz.func159 (by kernel_rfl) rfl;have H:=Ag (Ag (ϱ w (Ε (Aa a) 62)) (Ε (Aa b) 62)) (Ε #[.int π 0,.int π 0,.int π 0,.int π 0] 62);have D:=Ag (ϱ (w.alloc (Ε (Aa a) 62)) (Ε (Aa b) 62)) (Ε #[.int π 0,.int π 0,.int π 0,.int π 0] 62);have E:=ϱ ((w.alloc (Ε (Aa a) 62)).alloc (Ε (Aa b) 62)) (Ε #[.int π 0,.int π 0,.int π 0,.int π 0] 62);have T:=(((Ι w).alloc (Ε (Aa a) 62)).alloc (Ε (Aa b) 62)).alloc (Ε #[.int π 0,.int π 0,.int π 0,.int π 0] 62);rw[Λ] at D;rw[Λ,Λ] at E;have U:=Α D;clear D;have HA:=Α H;have HR:=Α E;clear H E;have I:=λW=>Mx 159 _ Afu G a b (a &&& ~~~b) (λi hi=>Agp a b i hi) W
 clear G;go_enter Tryz.func154,Tryz.ntmps154;go_wp2_with (first
  | (refine Υ rfl 62 (η 2) rfl _ rfl _ _ _ _ HA.out ϗ rfl Bg ?_)
  | (refine Υ rfl 62 (η 3) rfl _ rfl _ _ _ _ U.out ϗ rfl Bg ?_)
  | (go_at_call 125;refine (I _).mono ?_;rintro e w' ⟨rfl,J⟩;have M:=Α (J.heap HR.out);clear I)
  | (refine Φ rfl 62 _ _ rfl _ _ rfl rfl _ _ M.out Bg rfl (Eb _) ?_))
 refine ϋ (v:=.agg (Aa (a &&& ~~~b))) (ϵ rfl _ _ _ _ _ _ _ rfl (μ w' _ _ (Aa (a &&& ~~~b)) 62 (0,0) M.out) ϗ rfl Bg) rfl ?_;exact⟨rfl,(T.trans J).setRow (by omega) _⟩
theorem Uz (a:Cls) (w:Κ) :
  Ϝ Η 94 #[.agg (Aa a)] w λe w'=>e=ν (.agg (Aa (~~~a)))/\Ext w w':=by
 have E:∀ args w,(callFunc 128 args).run Η w=.ok (.enter 128 args) w:=enters_of Tryz.func128 (by kernel_rfl) rfl;have G:=Ag (ϱ w (Ε (Aa a) 62)) (Ε #[.int π 0,.int π 0,.int π 0,.int π 0] 62);have D:=ϱ (w.alloc (Ε (Aa a) 62)) (Ε #[.int π 0,.int π 0,.int π 0,.int π 0] 62);have M:=((Ι w).alloc (Ε (Aa a) 62)).alloc (Ε #[.int π 0,.int π 0,.int π 0,.int π 0] 62);rw[Λ] at D;have T:=Α G;have U:=Α D;clear G D;have H:=λW=>Mx 128 _ Aft E a a (~~~a) (λi hi=>Af3 a i hi) W
 clear E;go_enter Tryz.func94,Tryz.ntmps94;go_wp2_with (first
  | (refine Υ rfl 62 (η 1) rfl _ rfl _ _ _ _ T.out ϗ rfl Bg ?_)
  | (go_at_call 125;refine (H _).mono ?_;rintro e w' ⟨rfl,I⟩;have J:=Α (I.heap U.out);clear H)
  | (refine Φ rfl 62 _ _ rfl _ _ rfl rfl _ _ J.out Bg rfl (Eb _) ?_))
 refine ϋ (v:=.agg (Aa (~~~a))) (ϵ rfl _ _ _ _ _ _ _ rfl (μ w' _ _ (Aa (~~~a)) 62 (0,0) J.out) ϗ rfl Bg) rfl ?_;exact⟨rfl,(M.trans I).setRow (by omega) _⟩
theorem Ang (c:Cls) (b:Int) (E:0<=b) (G:b<256) (B:Nat) (t:Á) (w:Κ) (D:w.heap[B]? = Δ (Ε (Aa c) t (0,0))) :
  Ϝ Η 90 #[.pointer (Δ ⟨B,0,Γ⟩),.int .u8 b] w λe w'=>e=ν (.tuple #[])/\w'=(w.setRow B (Aa (Bf c b))).drew:=by
 have I:=(Ω w _ (b / 64).toNat _ _ _ D).trans (F1 c _ (by omega));have J:=Ϯ w _ (b / 64).toNat _ _ D;have ⟨M,T⟩:=F8 c (b / 64).toNat;have H:=Α D;clear D;go_enter Tryz.func90,Tryz.ntmps90;go_wp2;go_region
 all_goals
  go_end0
  rw[Q7 c b E G,Ϥ w _ _ _ _ _ _ H.out,Q8 c b E G];exact⟨rfl,rfl⟩
def ofL (l:List UInt8):Cls:=l.foldl (λc x=>Bf c (x.toNat:Int)) 0#256
theorem Uw (l:List UInt8) (k:Nat) (h:k<l.length):ofL (l.take (k+1))=Bf (ofL (l.take k)) ((l.getD k 0).toNat:Int):=by
 unfold ofL;rw[List.take_succ_eq_append_getElem h,List.foldl_append];simp[Ζ,h]
abbrev zA:Array Ρ:=#[.int π 0,.int π 0,.int π 0,.int π 0]
theorem Gn:Aa 0#256=zA:=by simp[Aa,Aai]
theorem Ut (l:List UInt8) (hl:l.length<=9223372036854775807) (a:Option Addr) (b H U:Nat) (w:Κ) (ha:0<l.length->a=Δ ⟨b,H,Γ⟩) (_hb:0<l.length->b<w.heap.size)
  (I:∀ i,i<l.length->w.cell? ⟨b,H+i,Γ⟩=Δ (bv (l.getD i 0))) :
  Ϝ Η 44 #[Β a l.length U] w λe w'=>e=ν (.agg (Aa (ofL l)))/\Ext w w':=by
 go_enter Tryz.func44,Tryz.ntmps44;go_wp2_with (fail);go_loopw [8] (λi W=>∃ k:Nat,k<=l.length/\i=.int ζ k/\Ext w W/\W.heap[w.heap.size]? = Δ (Ε zA 62 (0,0))/\W.heap[w.heap.size+1]? = Δ (Ε (Aa (ofL (l.take k))) 62 (0,0)))
  (λi _=>l.length-(intOf i).toNat)
 case atStart=>
  refine⟨0,by omega,rfl,((Ι w).alloc _).alloc _,Ag (ϱ w _) _,?_⟩;rw[show ofL (l.take 0)=0#256 from rfl,Gn];exact Ϙ w _ _
 case round=>
  obtain⟨k,hk,rfl,E,J,M⟩:=hrel;have D:=Α M;have G:=Α J;clear M J;by_cases aa:k<l.length
  ·have cA:=E.cell (I k aa);have HS:=Α (Uw l k (by omega));have hx:=(l.getD k 0).toNat_lt;have e:=ha (by omega);clear ha I;subst e;generalize l.getD k 0=x at *;have T:=Α (Ang (ofL (l.take k)) (x.toNat:Int) (by omega) (by omega) (w.heap.size+1) 62 wr D.out);go_wp2_with (go_at_call 90;refine T.out.mono ?_;rintro e w' ⟨rfl,rfl⟩;clear T);go_roundw
   case rel=>
    refine⟨k+1,by omega,by go_num,(E.setRow (by omega) _).drew,B8 G.out (by omega) _,?_⟩;rw[HS.out];exact μ wr _ _ _ _ _ D.out
   case measure=>simp[intOf];omega
  ·obtain rfl:k=l.length:=by omega
   rw[List.take_of_length_le (by omega)] at D;go_wp2_with (first
    | (refine Υ rfl 62 _ rfl _ rfl _ _ _ _ D.out ϗ rfl Bg ?_)
    | (refine Φ rfl 62 _ _ rfl _ _ rfl rfl _ _ G.out Bg rfl (Eb _) ?_))
   refine ϋ (v:=.agg (Aa (ofL l))) (ϵ rfl _ _ _ _ _ _ _ rfl (μ wr _ _ (Aa (ofL l)) 62 (0,0) G.out) ϗ rfl Bg) rfl ?_;exact⟨rfl,E.setRow (θ _) _⟩
theorem Uv (l:List UInt8) (v:Ρ) (w:Κ) (h:By w v l):Ϝ Η 44 #[v] w λe w'=>e=ν (.agg (Aa (ofL l)))/\Ext w w':=by
 obtain⟨I,⟨hn,a,D,rfl⟩|⟨hn,b,E,D,rfl,G,H⟩⟩:=h
 ·have:=Ut l (by omega) a 0 0 D w (by omega) (by omega) (λi hi=>by omega)
  rwa [hn] at this
 ·exact Ut l (by omega) (Δ ⟨b,E,Γ⟩) b E D w (λ_=>rfl) (λ_=>G) (λi hi=>H i (by omega))
open Go
section
variable {P:Program} {ops:Array Oper} {md:Region.Mode} {C:World->Prop}
def Kg (P:Program) (md:Region.Mode) (ops:Array ϸ) (C:Κ->Prop) (n:Nat) (L:Array Bool->õ->Prop):Nat->Array Bool->õ->Prop
 | 0,listed,a=>L listed a
 | f+1,listed,a=>
  Ê md ops listed≠[]/\∀ i∈Ê md ops listed,i<n/\qOp P ops C i (Kg P md ops C n L f (listed.setIfInBounds i Ξ)) a
theorem Am3 {n g:Nat} {L:Array Bool->õ->Prop} {Q':Exit->õ->Κ->Prop} (E:∀ listed a w,C w->L listed a->wpAny P md ops Q' g listed a w) :
  ∀ (f:Nat) (listed:Array Bool) (a:õ) (w:Κ),C w->Kg P md ops C n L f listed a->wpAny P md ops Q' (f+g) listed a w:=by
 intro f;induction f with
 | zero=>intro listed a w D h;rw[î];exact E _ _ _ D h
 | succ f G=>
  intro listed a w D h;rw[show f+1+g=(f+g)+1 by omega];exact⟨λH=>absurd H h.1,λi hi=>wpOp_of_qOp D (λI w' J M=>G _ I w' J M) (h.2 i hi).2⟩
theorem Ajd {n i:Nat} {oi:ϸ} {v:Ρ} {L:Array Bool->õ->Prop} (hi:ops[i]? = Δ oi) (U:∀ (j:Nat) (o:ϸ) cs b,ops[j]? = Δ o->o.op≠.select cs b)
  (hs:Region.sinkB md ops n=Ξ) (hc:Region.chainB md ops n=Ξ) (hn:n<ops.size) (ab:i<n)
  (aj:∀ listed a,L listed a->∀ j∈Ê md ops listed,n<=j) :
  ∀ (f:Nat) (listed:Array Bool) (a:õ),HeadInv md ops n listed->
   (∀ j oj,ops[j]? = Δ oj->j≠i->listed.getD j Ξ=Τ->(∀ e∈oj.after,Region.binds md e=Ξ->e.on≠i)->oi.apart ops oj=Ξ)->
   i∈Ê md ops listed->YieldsIn P ops C oi v a->
   Kg P md ops C n L f (listed.setIfInBounds i Ξ) (a.put oi.dst v)->Kg P md ops C n L (f+1) listed a:=by
 intro f;induction f with
 | zero=>
  intro listed a I _ D J H;refine⟨λh=>(by rw[h] at D;cases D),λj G=>?_⟩;have M:j<n:=Nat.lt_of_not_le λh=>tail_waits hs hc hn I _ i rfl ab (mem_ready.1 D).1 j h G
  refine⟨M,?_⟩;by_cases E:j=i
  ·subst E;exact J.qOp hi H
  ·exact absurd (aj _ _ H j (ready_mono G E)) (by omega)
 | succ f ih=>
  intro listed a I ad D J H;have ae:=(mem_ready.1 D).1;refine⟨λh=>(by rw[h] at D;cases D),λj G=>?_⟩;have M:j<n:=Nat.lt_of_not_le λh=>tail_waits hs hc hn I _ i rfl ab ae j h G
  refine⟨M,?_⟩;by_cases E:j=i
  ·subst E;exact J.qOp hi H
  ·obtain⟨af,oj,T,al⟩:=mem_ready.1 G;have an:∀ e∈oj.after,Region.binds md e=Ξ->e.on≠i:=λe he hb aq=>by
    have h1:=al e he hb;rw[aq,getD_both ae] at h1;cases h1
   have h2:=qOp_put T (ad j oj T E af an) (λcs b=>U i oi cs b hi) (λcs b=>U j oj cs b T) J (H.2 j (ready_mono G E)).2;refine qOp_mono (λa' h3=>ih (listed.setIfInBounds j Ξ) a' (I.set G M) (λk ok hk ax ay az=>?_) (ready_mono D (Ne.symm E)) h3.1 ?_) h2
   ·refine ad k ok hk ax ?_ az;by_cases ai:j=k
    ·subst ai;exact af
    ·rwa [getD_set_ne Ξ ai] at ay
   ·rw[Array.setIfInBounds_comm _ _ E];exact h3.2
theorem Ajc {n g:Nat} {H:õ->Prop} (ab:Region.noSelect ops=Ξ) (hs:Region.sinkB md ops n=Ξ) (hc:Region.chainB md ops n=Ξ) (hn:n<ops.size) :
  ∀ (l:List ϸ) (k:Nat) (listed:Array Bool) (a:õ),(∀ j,j<l.length->l[j]? = ops[k+j]?)->k+l.length=n->HeadInv md ops n listed->
  Region.lexHead md ops g l.length k listed=Ξ->wpQuiet P ops C H l a->
  Kg P md ops C n (λI J=>Region.seqB md ops g n I=Ξ/\H J) l.length listed a:=by
 intro l;induction l with
 | nil=>
  intro k listed a _ E _ D h;obtain rfl:k=n:=by simpa using E
  exact⟨by simpa [Region.lexHead] using D,h⟩
 | cons o l ih=>
  intro k listed a M E T D h;have G:ops[k]? = Δ o:=by simpa using (M 0 (by simp)).symm
  simp only[Ϲ,Region.lexHead,ϝ] at D;have U:k<n:=by simp only[Ϲ] at E;omega
  have aa:k∈Ê md ops listed:=by simpa using D.1.1
  have af:qOp P ops C k (wpQuiet P ops C H l) a:=by unfold qOp;simp only[G];exact h
  obtain⟨v,hy,hK⟩:=yieldsIn_of_qOp G af;exact Ajd G (Region.noSelect_spec ab) hs hc hn U (λI J hL=>seqB_ready hL.1) l.length listed a T (Region.free_spec G D.1.2) aa hy
   (ih (k+1) _ _ (λj hj=>by have:=M (j+1) (by simp;omega);simpa [Nat.add_assoc,Nat.add_comm 1 j] using this) (by simp only[Ϲ] at E;omega) (T.set aa U) D.2 hK)
theorem Z1 {id:Nat} {Q:Exit->õ->Κ->Prop} {a:õ} {w:Κ} {l:List ϸ} (n:Nat) (hm:P.follows .mixedOrders=Ξ) (G:Region.lexTailB .any l.toArray n=Ξ) (U:C { w with drawn:=w.drawn+1 })
  (h:wpQuiet P l.toArray C (λE=>∀ w',C w'->wpList P l.toArray Q (l.drop n) E w') (l.take n) a):(Code.region id l.toArray Ξ).wp P Q a w:=by
 simp only[Region.lexTailB,ϝ,decide_eq_true_eq] at G;obtain⟨⟨⟨⟨aa,hn⟩,hs⟩,hc⟩,ad⟩:=G;have aj:n<l.length:=by simpa using hn
 have D:(l.take n).length=n:=by simp;omega
 have I:(l.drop n).length=l.toArray.size-n:=by simp
 have ae:HeadInv .any l.toArray n (Array.replicate l.toArray.size Τ):=
  ⟨by simp,λj oj _ J=>(by rw[ϭ] at J;cases J),λt _ ht=>getD_in (by simpa using ht) (ϭ _ _)⟩
 have H:=Ajc (md:=.any) (g:=l.toArray.size-n) aa hs hc hn (l.take n) 0 _ a (λj M=>by
  have ag:j<n:=by rw[D] at M;exact M
  simp[ag]) (by simpa using D) ae (by rw[D];exact ad) h
 refine wp_region_any hm ?_;have:=Am3 (Q':=Q) (g:=l.toArray.size-n) (λlisted E w' ai T=>by
  have:=wpAny_of_seq (md:=.any) (Q':=Q) (l.drop n) n listed E w' (λj=>by simp[List.getElem?_drop]) (by rw[I];exact T.1) (T.2 w' ai)
  rwa [I] at this) _ _ _ _ U H
 rw[D,show n+(l.toArray.size-n)=l.toArray.size by omega] at this;exact this
theorem Z6 {Q:Exit->õ->Κ->Prop} (r:List ϸ):∀ (l:List ϸ) (a:õ) (w:Κ),C w->wpQuiet P ops C (λE=>∀ w',C w'->wpList P ops Q r E w') l a->wpList P ops Q (l++r) a w:=by
 intro l;induction l with
 | nil=>intro a w D h;exact h w D
 | cons o l H=>
  intro a w D h;show if _ then _ else _
  unfold wpQuiet at h;split at h
  ·rename_i G
   rw[if_pos G];exact .inl (ϸ.wp_of_quiet D (λE w' I J=>H E w' I J) h)
  ·rename_i G
   rw[if_neg G];exact H _ _ D h
theorem Z0 {id:Nat} {Q:Exit->õ->Κ->Prop} {a:õ} {w:Κ} {l:List ϸ} (n:Nat) (D:C w)
  (h:wpQuiet P l.toArray C (λE=>∀ w',C w'->wpList P l.toArray Q (l.drop n) E w') (l.take n) a):(Code.region id l.toArray Τ).wp P Q a w:=by
 refine wp_region_lit ?_;have:=Z6 (l.drop n) (l.take n) a w D h
 rwa [List.take_append_drop] at this
end
structure EW (w:Κ) where
 W:Κ
 ext:Ext w W
instance (w:Κ):Nonempty (EW w):=⟨⟨w,Ι w⟩⟩
section
variable {P:Program}
theorem Dx {id:Nat} {Q:Exit->õ->Κ->Prop} {a:õ} {w:Κ} {l:List ϸ} (hm:P.follows .mixedOrders=Ξ) (D:Region.lexB .any l.toArray=Ξ)
  (h:wpQuiet P l.toArray (λW=>∃ e:EW w,W=e.W) (λE=>∀ w',(∃ e:EW w,w'=e.W)->Q .normal E w') l a):(Code.region id l.toArray Ξ).wp P Q a w:=
 wp_region_quiet (C:=λW=>∃ e:EW w,W=e.W) hm D ⟨⟨_,(Ι w).drawn1⟩,rfl⟩ (by simpa using h)
theorem Adx {id:Nat} {Q:Exit->õ->Κ->Prop} {a:õ} {w:Κ} {l:List ϸ} (n:Nat) (hm:P.follows .mixedOrders=Ξ) (D:Region.lexTailB .any l.toArray n=Ξ)
  (h:wpQuiet P l.toArray (λW=>∃ e:EW w,W=e.W) (λE=>∀ w',(∃ e:EW w,w'=e.W)->wpList P l.toArray Q (l.drop n) E w') (l.take n) a):(Code.region id l.toArray Ξ).wp P Q a w:=
 Z1 (C:=λW=>∃ e:EW w,W=e.W) n hm D ⟨⟨_,(Ι w).drawn1⟩,rfl⟩ h
theorem Tt {id:Nat} {Q:Exit->õ->Κ->Prop} {a:õ} {w:Κ} {l:List ϸ} (n:Nat)
  (h:wpQuiet P l.toArray (λW=>∃ e:EW w,W=e.W) (λD=>∀ w',(∃ e:EW w,w'=e.W)->wpList P l.toArray Q (l.drop n) D w') (l.take n) a):(Code.region id l.toArray Τ).wp P Q a w:=
 Z0 (C:=λW=>∃ e:EW w,W=e.W) n ⟨⟨_,Ι w⟩,rfl⟩ h
theorem F4 {f:FuncId} {args:Array Ρ} {w:Κ} {D:EW w} {v:Ρ} (h:Ϝ P f args D.W λe w'=>e=ν v/\Ext D.W w') :
  Ϝ P f args D.W λe E=>e=ν v/\∃ G:EW w,E=G.W:=
 h.mono λ_ w' ⟨he,H⟩=>⟨he,⟨w',D.ext.trans H⟩,rfl⟩
end
theorem Kl {w:Κ} {B:Nat} {c:Cls} {t:Á} {fr:Nat × Nat} (h:w.heap[B]? = Δ (Ε (Aa c) t fr)) :
  (∀ e:EW w,e.W.cell? ⟨B,0,Γ⟩=Δ (.int π (wd c 0)))/\(∀ e:EW w,e.W.cell? ⟨B,1,Γ⟩=Δ (.int π (wd c 1)))/\
  (∀ e:EW w,e.W.cell? ⟨B,2,Γ⟩=Δ (.int π (wd c 2)))/\(∀ e:EW w,e.W.cell? ⟨B,3,Γ⟩=Δ (.int π (wd c 3))):=
 ⟨λe=>(Ω e.W _ 0 _ _ _ (e.ext.heap h)).trans rfl,λe=>(Ω e.W _ 1 _ _ _ (e.ext.heap h)).trans rfl,
  λe=>(Ω e.W _ 2 _ _ _ (e.ext.heap h)).trans rfl,λe=>(Ω e.W _ 3 _ _ _ (e.ext.heap h)).trans rfl⟩
theorem Be {w:Κ} {p:Addr} {v:Ρ} (h:w.cell? p=Δ v):∀ e:EW w,e.W.cell? p=Δ v:=λe=>e.ext.cell h
theorem Abx (x:Nat) (h:x<18446744073709551616) (D:st1 x<18446744073709551616) :
  ϴ.wrap (bits BinOp.and ϴ ((x:Int) / 2) 6148914691236517205+bits BinOp.and ϴ (x:Int) 6148914691236517205)=(st1 x:Int):=by
 rw[show ((x:Int) / 2)=((x / 2:Nat):Int) by omega,show (6148914691236517205:Int)=((6148914691236517205:Nat):Int) from rfl,u64_and_nat _ _ (by omega) (by omega),u64_and_nat _ _ h (by omega)];rw[IntKind.wrap_u64];unfold st1 at *;omega
theorem Abw (x:Nat) (h:x<18446744073709551616) (D:st2 x<18446744073709551616) :
  ϴ.wrap (bits BinOp.and ϴ ((x:Int) / 4) 3689348814741910323+bits BinOp.and ϴ (x:Int) 3689348814741910323)=(st2 x:Int):=by
 rw[show ((x:Int) / 4)=((x / 4:Nat):Int) by omega,show (3689348814741910323:Int)=((3689348814741910323:Nat):Int) from rfl,u64_and_nat _ _ (by omega) (by omega),u64_and_nat _ _ h (by omega)];rw[IntKind.wrap_u64];unfold st2 at *;omega
theorem Abv (x:Nat) (h:x<=4919131752989213764):bits BinOp.and ϴ ((x:Int) / 16+(x:Int)) 1085102592571150095=(st3 x:Int):=by
 rw[show ((x:Int) / 16+(x:Int))=((x / 16+x:Nat):Int) by omega,show (1085102592571150095:Int)=((1085102592571150095:Nat):Int) from rfl,u64_and_nat _ _ (by omega) (by omega)];rfl
theorem Abu (x:Nat) (h:x<9223372036854775808):bits BinOp.and ç (x:Int) 127=((x % 128:Nat):Int):=by
 show ç.wrap ((BitVec.ofInt 64 (x:Int) &&& BitVec.ofInt 64 ((127:Nat):Int)).toNat:Int)=_;rw[BitVec.toNat_and,ofInt_u64 x (by omega),ofInt_u64 127 (by omega),show (127:Nat)=2 ^ 7-1 from rfl,Nat.and_two_pow_sub_one_eq_mod];exact IntWalk.i64_in _ ⟨by omega,by omega⟩
theorem Afy (x:Nat) (J:x<18446744073709551616) (w:Κ) :
  Ϝ Η 135 #[.int π (x:Int)] w λe w'=>e=ν (.int ζ (cnt x.testBit 64))/\w'=w:=by
 obtain⟨M,U,h3,T⟩:=Abt x J;have H4:=Α T;clear T;go_enter Tryz.func135,Tryz.ntmps135;go_upto_region 1 with (fail)
 go_cut [0] (λv W=>v=.int π (st1 x:Int)/\W=w)
 case first=>
  go_wp2;go_meet
  exact⟨by rw[Abx x J M],rfl⟩
 case rest=>
 obtain⟨rfl,rfl⟩:=hcut;generalize st1 x=D at *;go_upto_region 2 with (fail)
 go_cut [0] (λv W=>v=.int π (st2 D:Int)/\W=wc)
 case first=>
  go_wp2;go_meet
  exact⟨by rw[Abw D M (by omega)],rfl⟩
 case rest=>
 obtain⟨rfl,rfl⟩:=hcut;generalize st2 D=E at *;go_upto_region 3 with (fail)
 go_cut [0] (λv W=>v=.int π (st3 E:Int)/\W=wc)
 case first=>
  go_wp2;go_meet
  exact⟨by rw[Abv E U],rfl⟩
 case rest=>
 obtain⟨rfl,rfl⟩:=hcut;generalize st3 E=G at *;go_upto_region 4 with (fail)
 go_cut [0] (λv W=>v=.int π (st4 G:Int)/\W=wc)
 case first=>
  go_wp2;go_meet
  exact⟨by unfold st4;go_num,rfl⟩
 case rest=>
 obtain⟨rfl,rfl⟩:=hcut;have h5:st4 G<=1157442765409226768:=by unfold st4;omega
 generalize st4 G=H at *;go_upto_region 5 with (fail)
 go_cut [0] (λv W=>v=.int π (st5 H:Int)/\W=wc)
 case first=>
  go_wp2;go_meet
  exact⟨by unfold st5;go_num,rfl⟩
 case rest=>
 obtain⟨rfl,rfl⟩:=hcut;have h6:st5 H<=1157492765409226768:=by unfold st5;omega
 generalize st5 H=I at *;go_upto_region 6 with (fail)
 go_cut [0] (λv W=>v=.int π (st6 I:Int)/\W=wc)
 case first=>
  go_wp2;go_meet
  exact⟨by unfold st6;go_num,rfl⟩
 case rest=>
 obtain⟨rfl,rfl⟩:=hcut;have h7:st6 I<=1157500000000000000:=by unfold st6;omega
 generalize st6 I=x6 at *;go_wp2;go_ret;exact⟨Oa (by rw[Abu x6 (by omega),H4.out]),rfl⟩
def sz (c:Cls):Nat:=cnt c.getLsbD 256
theorem Si (c:Cls):sz c<=256:=Di _ _
theorem Al7 (c:Cls) (k:Nat):(Al c k).length=cnt c.getLsbD k:=by
 induction k with
 | zero=>rfl
 | succ k D=>simp only[Al,cnt];split<;>simp[D]
theorem Ala (c:Cls) (k:Nat):cnt c.getLsbD (64*(k+1))=cnt c.getLsbD (64*k)+cnt (wn c k).testBit 64:=by
 rw[show 64*(k+1)=64*k+64 by omega,Xy]
 congr 1
 exact Qp _ _ _ λi hi=>by rw[Cn];simp[hi]
theorem Afx (c:Cls) (k:Nat) (w:Κ):Ϝ Η 135 #[.int π (wd c k)] w λe w'=>e=ν (.int ζ (cnt (wn c k).testBit 64))/\w'=w:=
 Afy (wn c k) (D4 c k) w
theorem Wh (c:Cls) (k:Nat) (h:k<4) (w:Κ):(Instr.index 62 (.agg (Aa c)) (.int ζ (k:Int))).run Η w=.ok (.int π (wd c k)) w:=by
 match k,h with
 | 0,_=>exact (by kernel_rfl:(Instr.index 62 (.agg (Aa c)) (.int ζ ((0:Nat):Int))).run Η w=.ok (.int π (wd c 0)) w)
 | 1,_=>exact (by kernel_rfl:(Instr.index 62 (.agg (Aa c)) (.int ζ ((1:Nat):Int))).run Η w=.ok (.int π (wd c 1)) w)
 | 2,_=>exact (by kernel_rfl:(Instr.index 62 (.agg (Aa c)) (.int ζ ((2:Nat):Int))).run Η w=.ok (.int π (wd c 2)) w)
 | 3,_=>exact (by kernel_rfl:(Instr.index 62 (.agg (Aa c)) (.int ζ ((3:Nat):Int))).run Η w=.ok (.int π (wd c 3)) w)
theorem S6 (c:Cls) (w:Κ) :
  Ϝ Η 105 #[.agg (Aa c)] w λe w'=>e=ν (.int ζ (sz c))/\Ext w w':=by
 have D:=ϱ w (Ε (Aa c) 62);have E:=(Ι w).alloc (Ε (Aa c) 62);have G:=Α D;clear D;go_enter Tryz.func105,Tryz.ntmps105;go_wp2_with (refine Υ rfl 62 (η 1) rfl _ rfl _ _ _ _ G.out ϗ rfl Bg ?_);generalize w.alloc (Ε (Aa c) 62)=w1 at *;go_loop [3,7] (λn i=>∃ k:Nat,k<=4/\i=.int ζ k/\n=.int ζ (cnt c.getLsbD (64*k):Nat)) (λ_ i=>4-(intOf i).toNat)
 case atStart=>exact⟨0,by omega,rfl,rfl⟩
 case round=>
  obtain⟨k,M,rfl,rfl⟩:=hrel;by_cases H:k<4
  ·have T:=Wh c k H;have I:=λW=>Α (Afx c k W)
   have U:=Di c.getLsbD (64*k);have aa:=Di (wn c k).testBit 64;have J:=Α (Ala c k);generalize cnt (wn c k).testBit 64=y at *;generalize cnt c.getLsbD (64*k)=z at *;go_wp2_with (go_at_call 135;refine (I _).out.mono ?_;rintro e w' ⟨rfl,rfl⟩);go_round
   case rel=>exact⟨k+1,by omega,by go_num,by rw[J.out];go_num⟩
   case measure=>simp[intOf];omega
  ·obtain rfl:k=4:=by omega
   go_wp2;go_ret;exact⟨rfl,E⟩
def D5 (k c:Cls):List Cls:=[c &&& k,c &&& ~~~k].filter (· != 0#256)
def Dd (k:Cls) (L:List Cls):List Cls:=L.flatMap (D5 k)
def allC:Cls:= ~~~(0#256)
def Ej (l:List Cls):List Cls:=l.foldl (λL k=>Dd k L) [allC]
theorem Alb (p q r:Nat->Bool) (n:Nat) (h:∀ k,k<n->(p k).toNat=(q k).toNat+(r k).toNat):cnt p n=cnt q n+cnt r n:=by
 induction n with
 | zero=>rfl
 | succ n D=>
  have E:=D (λk G=>h k (by omega));have H:=h n (by omega);simp only[cnt];cases I:p n<;>cases J:q n<;>cases M:r n<;>simp_all<;>omega
theorem Abd (k c:Cls):sz c=sz (c &&& k)+sz (c &&& ~~~k):=by
 unfold sz;refine Alb _ _ _ 256 λj D=>?_
 simp only[ý,BitVec.getLsbD_not,D,decide_true,Ï];cases c.getLsbD j<;>cases k.getLsbD j<;>rfl
theorem Ak9 {p:Nat->Bool} {n:Nat} (h:cnt p n=0):∀ k,k<n->p k=Τ:=by
 induction n with
 | zero=>intro k D;omega
 | succ n E=>
  simp only[cnt] at h;intro k D;by_cases G:k=n
  ·subst G;cases H:p k
   ·rfl
   ·rw[H] at h;simp at h
  ·exact E (by omega) k (by omega)
theorem Sh:sz 0#256=0:=by
 unfold sz;have:∀ n,cnt (0#256).getLsbD n=0:=λn=>by
  induction n with
  | zero=>rfl
  | succ n D=>simp[cnt,D]
 exact this 256
theorem Lj (c:Cls):sz c=0↔c=0#256:=by
 refine⟨λh=>?_,λh=>by rw[h];exact Sh⟩;apply BitVec.eq_of_getLsbD_eq;intro i hi;rw[Ak9 h i hi];simp
theorem Abe:sz allC=256:=by
 unfold sz allC;have:∀ n,n<=256->cnt (~~~(0#256)).getLsbD n=n:=λn=>by
  induction n with
  | zero=>intro _;rfl
  | succ n D=>
   intro hn;have:=D (by omega);simp only[cnt,this,BitVec.getLsbD_not,BitVec.getLsbD_zero];simp;omega
 exact this 256 (θ _)
def szs (L:List Cls):Nat:=(L.map sz).sum
theorem Nw (k c:Cls):D5 k c=(if c &&& k=0#256 then [] else [c &&& k])++(if c &&& ~~~k=0#256 then [] else [c &&& ~~~k]):=by
 unfold D5;generalize c &&& k=x;generalize c &&& ~~~k=y;by_cases D:x=0#256<;>by_cases E:y=0#256<;>simp[D,E]
theorem Abc (k c:Cls):szs (D5 k c)=sz c:=by
 rw[Abd k c];rw[Nw];unfold szs;generalize c &&& k=x;generalize c &&& ~~~k=y;by_cases D:x=0#256<;>by_cases E:y=0#256<;>simp[D,E,Sh]
theorem Sg (L M:List Cls):szs (L++M)=szs L+szs M:=by simp[szs]
theorem Abb (k:Cls) (L:List Cls):szs (Dd k L)=szs L:=by
 induction L with
 | nil=>rfl
 | cons c L D=>
  show szs (D5 k c++Dd k L)=szs ([c]++L);rw[Sg,Sg,Abc,D];simp[szs]
theorem Ab2 (k c:Cls):∀ x∈D5 k c,x≠0#256:=by
 intro x D
 simpa using (List.mem_filter.1 D).2
theorem Sy (k:Cls) (L:List Cls):∀ x∈Dd k L,x≠0#256:=by
 intro x D;obtain⟨c,_,E⟩:=List.mem_flatMap.1 D;exact Ab2 k c x E
def Full (L:List Cls):Prop:=szs L=256/\∀ c∈L,c≠0#256
theorem full_one:Full [allC]:=⟨by simp[szs,Abe],λc D=>by simp at D;subst D;decide⟩
theorem Full.split {L:List Cls} (h:Full L) (k:Cls):Full (Dd k L):=⟨by rw[Abb,h.1],Sy k L⟩
theorem Ah7 (L:List Cls) (h:∀ c∈L,c≠0#256):L.length<=szs L:=by
 induction L with
 | nil=>simp
 | cons c L D=>
  have G:=D (λx E=>h x (by simp[E]));have H:sz c≠0:=λe=>h c (by simp) ((Lj c).1 e)
  simp only[szs,Ç,List.sum_cons,Ϲ] at *;omega
theorem Full.len {L:List Cls} (h:Full L):L.length<=256:=by rw[<-h.1];exact Ah7 L h.2
theorem Full.pos {L:List Cls} (h:Full L):0<L.length:=by
 cases L with
 | nil=>exact absurd h.1 (by simp[szs])
 | cons=>simp
theorem Wu (l:List Cls):Full (Ej l):=by
 have:∀ (l:List Cls) (L:List Cls),Full L->Full (l.foldl (λL k=>Dd k L) L):=λl=>by
  induction l with
  | nil=>intro L h;exact h
  | cons k l D=>intro L h;exact D _ (h.split k)
 exact this l _ full_one
theorem Alr (l:List Cls) (k:Nat) (h:k<l.length):Ej (l.take (k+1))=Dd (l.getD k 0#256) (Ej (l.take k)):=by
 have e:l.take (k+1)=l.take k++[l.getD k 0#256]:=by
  rw[List.take_add_one];congr 1;simp[Μ h]
 rw[e];simp[Ej,List.foldl_append]
theorem Aby (k:Cls) (L:List Cls) (j:Nat) (h:j<L.length):Dd k (L.take (j+1))=Dd k (L.take j)++D5 k (L.getD j 0#256):=by
 have e:L.take (j+1)=L.take j++[L.getD j 0#256]:=by
  rw[List.take_add_one];congr 1;simp[Μ h]
 rw[e];simp[Dd,List.flatMap_append]
theorem Ab3 (k c:Cls):(D5 k c).length<=2:=by
 rw[Nw];split<;>split<;>simp
theorem Abz (k:Cls) (L:List Cls):(Dd k L).length<=2*L.length:=by
 induction L with
 | nil=>simp[Dd]
 | cons c L D=>
  have:=Ab3 k c;show (D5 k c++Dd k L).length<=_;simp only[Ο,Ϲ];omega
theorem Aat (k:Nat) (h:k<256):((χ k).toNat:Int)=(k:Int):=by
 simp
 omega
theorem Pt:(Η.info? 5).map (λi=>(i.zero,i.size,i.bytes))=Δ (Δ (.int .u8 0),1,1):=by kernel_rfl
set_option maxRecDepth 100000 in
theorem Ad6 (c:Cls) (w:Κ) :
  Ϝ Η 106 #[.agg (Aa c)] w λe w'=>∃ v,e=ν v/\By w' v (Al c 256)/\Ext w w':=by
 obtain⟨i0,hi,aj,ak,al⟩:=info_parts Pt;go_enter Tryz.func106,Tryz.ntmps106;go_wp2_with (fail);go_loopw [3,4] (λv i W=>∃ k:Nat,k<=256/\i=.int ζ k/\Ext w W/\W.heap[w.heap.size]? = Δ (Ε (Aa c) 62 (0,0))/\
   W.ownsRow (w.heap.size+1) 5 1 v (Al c k).length ((Al c k).map bv))
  (λ_ i _=>256-(intOf i).toNat)
 case atStart=>
  refine⟨0,by omega,rfl,((Ι w).alloc _).alloc _,Ag (ϱ w _) _,?_⟩;have h:=Κ.ownsRow_made (base:=w.heap.size+1) (e:=5) (size:=1) (w.alloc (Ε (Aa c) 62)) #[] 0 (by simp) (by unfold maxLen;omega) rfl
  rwa [Λ] at h
 case round=>
  obtain⟨k,hk,rfl,H,T,D⟩:=hrel;have I:=Α T;clear T;by_cases an:k<256
  ·go_upto_region 5 with (fail)
   have hw:IntKind.u8.wrap (k:Int)=k:=IntWalk.u8_in _ ⟨by omega,by omega⟩;have U:=λ(W:Κ)=>Α (Od c (k:Int) (by omega) (by omega) W)
   obtain⟨a0,a1,a2,a3⟩:=Kl I.out;have au:=Kz c k;have E:Hid (Al c (k+1)=if Az c (k:Int) then Al c k++[χ k] else Al c k):=Α rfl;generalize Az c (k:Int)=ma at *;go_cut [13] (λv W=>v=.bool ma/\∃ e:EW wr,W=e.W)
   case first=>
    refine Tt 4 ?_;simp only[List.take_succ_cons,List.drop_succ_cons,List.take_nil,List.drop_nil];iterate 4 (refine í (λK G=>?_);go_simp;first|(refine G _ ?_;clear G K)|(apply Exists.intro;refine⟨λ_=>?_,G _ ?_⟩;(with_reducible exact F4 (U _).out);clear G K))
    refine wpQuiet_nil ?_;rintro _ ⟨e,rfl⟩;refine wpList_nil ?_;go_wp2;go_meet
    exact⟨rfl,e,rfl⟩
   case rest=>
    obtain⟨rfl,e,rfl⟩:=hcut;have ab:=Α (e.ext.heap I.out);have J:=H.trans e.ext;have D:=Ah D e.ext;clear a0 a1 a2 a3 U I H;generalize e.W=w1 at *;cases ma
    ·have E:=E.out;simp only[Bool.false_eq_true,if_false] at E;rw[<-E] at D;clear E;go_wp2;go_roundw
     case rel=>exact⟨k+1,by omega,by go_num,J,ab.out,D⟩
     case measure=>simp[intOf];omega
    ·have M:=E.out;simp only[if_true] at M;have aw:=Α M;clear M E;have hb:=J.size;have hx:(k:Int)=((χ k).toNat:Int):=(Aat k an).symm;have HX:=Α hx;clear hx;go_wp2_with (at_builtin;refine wpList_append_own _ rfl _ _ 22 rfl (w.heap.size+1) 5 i0 (.int .u8 0) 1 1 Tryz.underlying22 hi aj ak al rfl (by decide) _ _ _ rfl (D.alloc _) ⟨w1.heap.size,0,Γ⟩ 1 1 [.int .u8 (k:Int)] rfl rfl (cell_one_new _ _ _) (by simp[ϊ]) (by unfold maxLen;omega) (by omega) (by simp;omega) ?_);intro v' w2 af ag _;have ay:Ext w w2:=(J.alloc _).grown ag (λk e=>by have:=(D.lt k e).1;omega);have ah:w2.heap[w.heap.size]? = Δ (Ε (Aa c) 62 (0,0)):=(ag.block _ (by simp;omega) (λe=>by have:=(D.lt _ e.symm).1;omega)).trans (Ag ab.out _);have az:=Α ah;clear ah D;go_wp2;go_roundw
     case rel=>exact⟨k+1,by omega,by go_num,ay,az.out,by rw[aw.out,Ο,List.map_append];rw[HX.out] at af;exact af⟩
     case measure=>simp[intOf];omega
  ·obtain rfl:k=256:=by omega
   have au:=Kz c 256;go_wp2;go_ret;exact⟨_,rfl,By.of_owns D (by omega),H⟩
theorem Ada (c:Cls) (w:Κ) :
  Ϝ Η 63 #[.agg (Aa c)] w λe w'=>e=ν (.int ζ (Al c 256).length)/\Ext w w':=by
 have D:=ϱ w (Ε (Aa c) 62);have E:=(Ι w).alloc (Ε (Aa c) 62);have G:=Α D;clear D;go_enter Tryz.func63,Tryz.ntmps63;go_wp2_with (first
  | (refine Υ rfl 62 (η 1) rfl _ rfl _ _ _ _ G.out ϗ rfl Bg ?_)
  | (go_at_call 106;refine (Ad6 c _).mono ?_;rintro e w' ⟨v,rfl,H,I⟩;obtain⟨a,J,hv⟩:=By.len H;rw[hv]))
 go_ret;exact⟨rfl,E.trans I⟩
def Bv (l:List UInt8):Int:=match l with|[]=>-1|x::_=>(x.toNat:Int)
def Cs (W:Κ) (v:Ρ) (l:List Cls):Prop:=Sl W v 4 l.length (λi=>.int π (wd (l.getD (i / 4) 0#256) (i % 4)))
theorem Cs.ext {W W':Κ} {v:Ρ} {l:List Cls} (h:Cs W v l) (D:Ext W W'):Cs W' v l:=Sl.ext h D
theorem Ja {W:Κ} {b off:Nat} {l:List Cls} (h:∀ i,i<l.length*4->W.cell? ⟨b,off+i,Γ⟩=Δ (.int π (wd (l.getD (i / 4) 0#256) (i % 4)))) (k:Nat) (D:k<l.length) :
  (∀ e:EW W,e.W.cell? ⟨b,off+k*4,Γ⟩=Δ (.int π (wd (l.getD k 0#256) 0)))/\(∀ e:EW W,e.W.cell? ⟨b,off+k*4+1,Γ⟩=Δ (.int π (wd (l.getD k 0#256) 1)))/\
  (∀ e:EW W,e.W.cell? ⟨b,off+k*4+2,Γ⟩=Δ (.int π (wd (l.getD k 0#256) 2)))/\(∀ e:EW W,e.W.cell? ⟨b,off+k*4+3,Γ⟩=Δ (.int π (wd (l.getD k 0#256) 3))):=by
 have H:∀ j,j<4->W.cell? ⟨b,off+k*4+j,Γ⟩=Δ (.int π (wd (l.getD k 0#256) j)):=λj E=>by
  have:=h (k*4+j) (by omega)
  rwa [show (k*4+j) / 4=k by omega,show (k*4+j) % 4=j by omega,<-Nat.add_assoc] at this
 exact⟨Be (H 0 (by omega)),Be (H 1 (by omega)),Be (H 2 (by omega)),Be (H 3 (by omega))⟩
set_option maxRecDepth 100000 in
theorem Zc (l:List Cls) (x y:Int) (aw:0<=x) (hx:x<256) (ay:0<=y) (hy:y<256) (hl:l.length<=4611686018427387904) (a:Option Addr) (b ab a6:Nat) (w:Κ) (ha:0<l.length->a=Δ ⟨b,ab,Γ⟩)
  (hc:∀ i,i<l.length*4->w.cell? ⟨b,ab+i,Γ⟩=Δ (.int π (wd (l.getD (i / 4) 0#256) (i % 4)))) :
  Ϝ Η 123 #[Β a l.length a6,.int .u8 x,.int .u8 y] w λe w'=>e=ν (.bool (l.all λc=>Az c x==Az c y))/\Ext w w':=by
 go_enter Tryz.func123,Tryz.ntmps123;go_wp2_with (fail);go_loopw [7] (λi W=>∃ k:Nat,k<=l.length/\i=.int ζ k/\Ext w W/\Hid (∀ j,j<k->Az (l.getD j 0#256) x=Az (l.getD j 0#256) y))
  (λi _=>l.length-(intOf i).toNat)
 case atStart=>exact⟨0,by omega,rfl,Ι w,Α (λj E=>by omega)⟩
 case round=>
  obtain⟨k,hk,rfl,H,I⟩:=hrel;by_cases J:k<l.length
  ·have e:=ha (by omega);obtain⟨a0,a1,a2,a3⟩:=Ja (W:=wr) (λi hi=>H.cell (hc i hi)) k J;clear ha hc;subst e;obtain⟨c,M⟩:∃ c,l.getD k 0#256=c:=⟨_,rfl⟩;rw[M] at a0 a1 a2 a3;have ah:=Α M;clear M;go_upto_region 4 with (fail)
   have T:=λ(W:Κ)=>Α (Od c x aw hx W)
   have U:=λ(W:Κ)=>Α (Od c y ay hy W)
   generalize ai:Az c x=m1 at T;generalize ak:Az c y=m2 at U;have an:=Α ai;have ao:=Α ak;clear ai ak;go_cut [26] (λv W=>v=.bool (m1 != m2)/\∃ e:EW wr,W=e.W)
   case first=>
    refine Dx (by kernel_rfl) (by kernel_rfl) ?_;iterate 13 (refine í (λK G=>?_);go_simp;first|(refine G _ ?_;clear G K)|(apply Exists.intro;refine⟨λ_=>?_,G _ ?_⟩;(first|(with_reducible exact F4 (T _).out)|(with_reducible exact F4 (U _).out));clear G K))
    refine wpQuiet_nil ?_;rintro _ ⟨e,rfl⟩;go_wp2;go_meet
    exact⟨rfl,e,rfl⟩
   case rest=>
    obtain⟨rfl,e,rfl⟩:=hcut;clear a0 a1 a2 a3 T U;have aq:=H.trans e.ext;generalize e.W=w1 at *;generalize ar:(m1 != m2)=mm at *;have au:=Α ar;clear ar;cases mm
    ·go_wp2;go_roundw
     case rel=>exact⟨k+1,by omega,by go_num,aq,Α (λj E=>by
      by_cases a8:j=k
      ·subst a8;rw[ah.out,an.out,ao.out];simpa using au.out
      ·exact I.out j (by omega))⟩
     case measure=>simp[intOf];omega
    ·have D:(l.all λc=>Az c x==Az c y)=Τ:=by
      rw[List.all_eq_false];refine⟨c,?_,by rw[an.out,ao.out];simpa using au.out⟩;rw[<-ah.out,Ζ,Μ J];exact á J
     have HF:=Α D;clear D;go_wp2;go_ret;exact⟨G5 HF.out.symm,aq⟩
  ·obtain rfl:k=l.length:=by omega
   have D:(l.all λc=>Az c x==Az c y)=Ξ:=by
    rw[List.all_eq_true];intro c ba;obtain⟨j,E,rfl⟩:=List.mem_iff_getElem.1 ba;have:=I.out j E;rw[Ζ,Μ E] at this
    simpa using this
   have HF:=Α D;clear D I;go_wp2;go_ret;exact⟨G5 HF.out.symm,H⟩
theorem Ana (l:List Cls) (v:Ρ) (x y:Int) (E:0<=x) (G:x<256) (H:0<=y) (I:y<256) (w:Κ) (h:Cs w v l) :
  Ϝ Η 123 #[v,.int .u8 x,.int .u8 y] w λe w'=>e=ν (.bool (l.all λc=>Az c x==Az c y))/\Ext w w':=by
 obtain⟨M,⟨hn,a,D,rfl⟩|⟨hn,b,J,D,rfl,U,T⟩⟩:=h
 ·have:=Zc l x y E G H I (by omega) a 0 0 D w (by omega) (λi hi=>by omega)
  rwa [hn] at this
 ·exact Zc l x y E G H I M (Δ ⟨b,J,Γ⟩) b J D w (λ_=>rfl) T
def Gm (l:List Cls) (b:Int):Int:=match l.findIdx? (λc=>Az c b) with|some i=>(i:Int)|none=>-1
theorem Wj (l:List Cls) (b:Int) (k:Nat) (D:k<l.length) (h:Az (l.getD k 0#256) b=Ξ) (G:∀ j,j<k->Az (l.getD j 0#256) b=Τ):Gm l b=k:=by
 have:l.findIdx? (λc=>Az c b)=Δ k:=by
  rw[List.findIdx?_eq_some_iff_getElem];refine⟨D,by rwa [Ζ,Μ D] at h,λj H=>?_⟩;have E:=G j H;rw[Ζ,Μ (by omega)] at E
  simpa using E
 unfold Gm;rw[this]
theorem Ai7 (l:List Cls) (b:Int) (E:∀ j,j<l.length->Az (l.getD j 0#256) b=Τ):Gm l b=-1:=by
 have:l.findIdx? (λc=>Az c b)=Γ:=by
  rw[List.findIdx?_eq_none_iff];intro c G;obtain⟨j,D,rfl⟩:=List.mem_iff_getElem.1 G;have H:=E j D
  rwa [Ζ,Μ D] at H
 unfold Gm;rw[this]
theorem u8n (k:Nat) (h:k<256):(χ k).toNat=k:=by simp;omega
theorem Vi (c:Cls) (k:Nat) (J:k<=256) (x:UInt8):x∈Al c k↔x.toNat<k/\c.getLsbD x.toNat=Ξ:=by
 induction k with
 | zero=>simp[Al]
 | succ k G=>
  have G:=G (by omega);have I:x=χ k↔x.toNat=k:=by
   rw[<-UInt8.toNat_inj,u8n k (by omega)]
  simp only[Al];split
  ·rename_i h
   rw[Ó,G,ϳ,I];constructor
   ·rintro (⟨E,D⟩|E)
    ·exact⟨by omega,D⟩
    ·exact⟨by omega,by rw[E];exact h⟩
   ·rintro⟨E,D⟩;by_cases H:x.toNat=k
    ·exact .inr H
    ·exact .inl ⟨by omega,D⟩
  ·rename_i h
   rw[G];constructor
   ·rintro⟨E,D⟩;exact⟨by omega,D⟩
   ·rintro⟨E,D⟩;refine⟨?_,D⟩;by_cases H:x.toNat=k
    ·rw[H] at D;exact absurd D h
    ·omega
theorem Mf (c:Cls) (x:UInt8):x∈Al c 256↔c.getLsbD x.toNat=Ξ:=by
 rw[Vi c 256 (θ _)];exact⟨λh=>h.2,λh=>⟨x.toNat_lt,h⟩⟩
theorem It (c:Cls) (h:c≠0#256):0<=Bv (Al c 256)/\Bv (Al c 256)<256/\c.getLsbD (Bv (Al c 256)).toNat=Ξ:=by
 cases D:Al c 256 with
 | nil=>
  exfalso;apply h
  apply BitVec.eq_of_getLsbD_eq;intro i hi;rw[BitVec.getLsbD_zero];cases E:c.getLsbD i
  ·rfl
  ·have:=(Mf c (χ i)).2 (by rw[u8n i hi];exact E);rw[D] at this;cases this
 | cons x t=>
  have G:=(Mf c x).1 (by rw[D];exact List.mem_cons_self);have:=x.toNat_lt;simp only[Bv];exact⟨by omega,by omega,by simpa using G⟩
def Dis (a b:Cls):Prop:=∀ i,¬ (a.getLsbD i=Ξ/\b.getLsbD i=Ξ)
theorem Sz (k c x:Cls) (h:x∈D5 k c) (i:Nat) (hi:x.getLsbD i=Ξ):c.getLsbD i=Ξ:=by
 have:=(List.mem_filter.1 h).1;simp only[Û,ô,or_false] at this;rcases this with rfl|rfl<;>(rw[ý] at hi;simp only[ϝ] at hi;exact hi.1)
theorem Ab4 (k c:Cls):(D5 k c).Pairwise Dis:=by
 unfold D5;refine List.Pairwise.filter _ ?_;refine List.Pairwise.cons (λy E=>?_) (List.pairwise_singleton _ _);simp only[ϳ] at E;subst E;rintro i ⟨G,D⟩;simp only[ý,BitVec.getLsbD_not,ϝ,Bool.not_eq_true'] at G D;rw[G.2] at D;exact absurd D.2.2 (by simp)
theorem Ab0 (k:Cls) (L:List Cls) (h:L.Pairwise Dis):(Dd k L).Pairwise Dis:=by
 unfold Dd;rw[List.pairwise_flatMap];refine⟨λc _=>Ab4 k c,h.imp ?_⟩;intro a b D x E y G i ⟨H,I⟩;exact D i ⟨Sz k a x E i H,Sz k b y G i I⟩
def key (c:Cls):Int:=Bv (Al c 256)
theorem Dis.symm {a b:Cls} (h:Dis a b):Dis b a:=λi ⟨D,E⟩=>h i ⟨E,D⟩
theorem Ail {L:List Cls} (hd:L.Pairwise Dis) (E:∀ c∈L,c≠0#256) (a b:Cls) (ha:a∈L) (D:b∈L) (h:key a=key b):a=b:=by
 have H:=(It a (E a ha)).2.2;have G:=(It b (E b D)).2.2;apply ϩ;intro I;have J:Dis a b:=by
  obtain⟨s,t,rfl⟩:=List.append_of_mem ha;rw[Ó,Û] at D;rcases D with D|D|D
  ·exact ((List.pairwise_append.1 hd).2.2 b D a List.mem_cons_self).symm
  ·exact absurd D.symm I
  ·exact (List.pairwise_cons.1 (List.pairwise_append.1 hd).2.1).1 b D
 unfold key at h;rw[<-h] at G;exact J _ ⟨H,G⟩
def Ku (l:List Cls):List Cls:=(Ej l).mergeSort λa b=>decide (key a<=key b)
theorem Alt (l:List Cls):(Ku l).Perm (Ej l):=List.mergeSort_perm _ _
theorem Als (l:List Cls):(Ku l).Pairwise λa b=>key a<=key b:=by
 have:=List.pairwise_mergeSort (le:=λa b:Cls=>decide (key a<=key b)) (λa b c D E=>by simp only[decide_eq_true_eq] at *;omega) (λa b=>by simp only[Æ,decide_eq_true_eq];omega) (Ej l);exact this.imp (λh=>of_decide_eq_true h)
def Alk (l:List Cls) (i j:Nat):Prop:=∀ c∈l,c.getLsbD i=c.getLsbD j
theorem Alk.refl (l:List Cls) (i:Nat):Alk l i i:=λ_ _=>rfl
theorem Alk.symm {l:List Cls} {i j:Nat} (h:Alk l i j):Alk l j i:=λc D=>(h c D).symm
theorem Alk.trans {l:List Cls} {i j k:Nat} (h:Alk l i j) (E:Alk l j k):Alk l i k:=λc D=>(h c D).trans (E c D)
structure IsCells (l L:List Cls):Prop where
 dis:L.Pairwise Dis
 nz:∀ c∈L,c≠0#256
 cover:∀ i,i<256->∃ c∈L,c.getLsbD i=Ξ
 cls:∀ c∈L,∀ i,i<256->c.getLsbD i=Ξ->∀ j,j<256->(c.getLsbD j=Ξ↔Alk l i j)
theorem O8 (k c x:Cls):x∈D5 k c↔(x=c &&& k\/x=c &&& ~~~k)/\x≠0#256:=by
 unfold D5;rw[List.mem_filter];simp
theorem Gg {c:Cls} {i:Nat} (h:c.getLsbD i=Ξ):c≠0#256:=by
 rintro rfl;simp at h
theorem M7 {c:Cls} (h:c≠0#256):∃ i,i<256/\c.getLsbD i=Ξ:=by
 have D:=It c h;exact⟨_,by omega,D.2.2⟩
theorem Aiy {l L:List Cls} (k:Cls) (h:IsCells l L):IsCells (l++[k]) (Dd k L) where
 dis:=Ab0 k L h.dis
 nz:=Sy k L
 cover:=λi hi=>by
  obtain⟨c,D,I⟩:=h.cover i hi;cases J:k.getLsbD i
  ·have E:(c &&& ~~~k).getLsbD i=Ξ:=by rw[ý,BitVec.getLsbD_not,I,J];simp[hi]
   exact⟨_,List.mem_flatMap.2 ⟨c,D,(O8 k c _).2 ⟨.inr rfl,Gg E⟩⟩,E⟩
  ·have E:(c &&& k).getLsbD i=Ξ:=by rw[ý,I,J];rfl
   exact⟨_,List.mem_flatMap.2 ⟨c,D,(O8 k c _).2 ⟨.inl rfl,Gg E⟩⟩,E⟩
 cls:=λx E i hi G j H=>by
  obtain⟨c,D,E⟩:=List.mem_flatMap.1 E;obtain⟨E,-⟩:=(O8 k c x).1 E;have M:Alk (l++[k]) i j↔Alk l i j/\k.getLsbD i=k.getLsbD j:=by
   constructor
   ·intro h;exact⟨λc D=>h c (by simp[D]),h k (by simp)⟩
   ·rintro⟨T,U⟩ c D;rw[Ó,ϳ] at D;rcases D with D|rfl
    ·exact T c D
    ·exact U
  rw[M];rcases E with rfl|rfl
  ·rw[ý,ϝ] at G;rw[<-h.cls c D i hi G.1 j H,ý,ϝ,G.2];cases k.getLsbD j<;>simp
  ·simp only[ý,BitVec.getLsbD_not,hi,H,decide_true,Ï,ϝ,Bool.not_eq_true'] at G ⊢;rw[<-h.cls c D i hi G.1 j H,G.2];cases k.getLsbD j<;>simp
theorem Pq (l:List Cls):IsCells l (Ej l):=by
 have:∀ (l m L:List Cls),IsCells m L->IsCells (m++l) (l.foldl (λL k=>Dd k L) L):=λl=>by
  induction l with
  | nil=>intro m L h;rw[List.append_nil];exact h
  | cons k l E=>
   intro m L h;have:=E (m++[k]) _ (Aiy k h);rw[List.append_assoc,List.singleton_append] at this;exact this
 have G:IsCells [] [allC]:=by
  refine⟨List.pairwise_singleton _ _,full_one.2,λi hi=>⟨allC,ϳ.2 rfl,?_⟩,λc D i hi _ j H=>?_⟩
  ·unfold allC;rw[BitVec.getLsbD_not,BitVec.getLsbD_zero];simp[hi]
  ·rw[ϳ] at D;subst D;constructor
   ·intro _ c D;cases D
   ·intro _;unfold allC;rw[BitVec.getLsbD_not,BitVec.getLsbD_zero];simp[H]
 exact this l [] [allC] G
theorem IsCells.perm {l L M:List Cls} (h:IsCells l L) (E:M.Perm L):IsCells l M where
 dis:=E.symm.pairwise h.dis (λG=>Dis.symm G)
 nz:=λc D=>h.nz c (E.mem_iff.1 D)
 cover:=λi hi=>by obtain⟨c,D,hi⟩:=h.cover i hi;exact⟨c,E.mem_iff.2 D,hi⟩
 cls:=λc D=>h.cls c (E.mem_iff.1 D)
theorem V7 (l:List Cls):IsCells l (Ku l):=(Pq l).perm (Alt l)
theorem IsCells.nodup {l L:List Cls} (h:IsCells l L):L.Nodup:=by
 refine æ ?_ h.dis;rintro a b ha E D rfl;obtain⟨i,_,hi⟩:=M7 (h.nz a ha);exact D i ⟨hi,hi⟩
theorem IsCells.sub {l m L M:List Cls} (h:IsCells l L) (E:IsCells m M) (hs:∀ i j,i<256->j<256->(Alk l i j↔Alk m i j)) (c:Cls) (G:c∈L):c∈M:=by
 obtain⟨i,hi,I⟩:=M7 (h.nz c G);obtain⟨d,hd,J⟩:=E.cover i hi;have:c=d:=by
  apply BitVec.eq_of_getLsbD_eq;intro j D;have H:=h.cls c G i hi I j D;have T:=E.cls d hd i hi J j D;rw[hs i j hi D] at H;rw[ϰ,H,T]
 rw[this];exact hd
theorem IsCells.eq {l m L M:List Cls} (h:IsCells l L) (D:IsCells m M) (hs:∀ i j,i<256->j<256->(Alk l i j↔Alk m i j)) (G:L.Pairwise λa b=>key a<=key b) (H:M.Pairwise λa b=>key a<=key b):L=M:=by
 have E:L.Perm M:=(List.perm_ext_iff_of_nodup h.nodup D.nodup).2 λc=>⟨h.sub D hs c,D.sub h (λi j hi I=>(hs i j hi I).symm) c⟩
 exact List.Perm.eq_of_pairwise (λa b ha J T U=>Ail D.dis D.nz a b (E.mem_iff.1 ha) J (Int.le_antisymm T U)) G H E
theorem V3 (c:Cls) (m:Nat) (hm:m<256) (h:c.getLsbD m=Ξ) (J:∀ j,j<m->c.getLsbD j=Τ):key c=m:=by
 have G:=It c (Gg h);have M:=J (Bv (Al c 256)).toNat;unfold key;have U:¬ (Bv (Al c 256)).toNat<m:=λT=>by rw[M T] at G;exact absurd G.2.2 (by simp)
 have h4:Bv (Al c 256)<=m:=by
  have E:χ m∈Al c 256:=(Mf c _).2 (by rw[u8n m hm];exact h);have H:(Al c 256).Pairwise λa b=>a.toNat<b.toNat:=by
   have:∀ k,k<=256->(Al c k).Pairwise λa b=>a.toNat<b.toNat:=λk=>by
    induction k with
    | zero=>intro _;exact List.Pairwise.nil
    | succ k I=>
     intro hk;simp only[Al];split
     ·rw[List.pairwise_append];refine⟨I (by omega),List.pairwise_singleton _ _,λa ha b D=>?_⟩;rw[ϳ] at D;subst D;rw[u8n k (by omega)];exact ((Vi c k (by omega) a).1 ha).1
     ·exact I (by omega)
   exact this 256 (θ _)
  cases D:Al c 256 with
  | nil=>rw[D] at E;cases E
  | cons x t=>
   rw[D] at E H;simp only[Bv];rcases Û.1 E with e|e
   ·rw[<-e,u8n m hm];exact Int.le_refl _
   ·have:=(List.pairwise_cons.1 H).1 _ e;rw[u8n m hm] at this;omega
 omega
structure RInv (l:List Cls) (i:Nat) (out:List Cls) (le:List UInt8):Prop where
 len:out.length=le.length
 bound:le.length<=i
 bits:∀ k,k<le.length->∀ j,j<256->((out.getD k 0#256).getLsbD j=Ξ↔j<i/\Alk l (le.getD k 0).toNat j)
 inc:∀ k,k<le.length->(le.getD k 0).toNat<i
 srt:∀ m k,m<k->k<le.length->(le.getD m 0).toNat<(le.getD k 0).toNat
 sep:∀ k j,k<le.length->j<(le.getD k 0).toNat->¬ Alk l j (le.getD k 0).toNat
 all:∀ j,j<i->∃ k,k<le.length/\Alk l (le.getD k 0).toNat j
theorem Adf (l:List Cls):RInv l 0 [] []:=by
 refine⟨rfl,?_,?_,?_,?_,?_,?_⟩<;>simp
theorem Bt {α:Type} (l:List α) (x d:α) (k:Nat) (h:k<l.length):(l++[x]).getD k d=l.getD k d:=by
 rw[Ζ,List.getElem?_append_left h,<-Ζ]
theorem Cm {α:Type} (l:List α) (x d:α):(l++[x]).getD l.length d=x:=by
 rw[Ζ,List.getElem?_append_right (θ _)];simp
theorem Wr {α:Type} (l:List α) (x d:α) (k:Nat) (h:k<l.length):(l.set k x).getD k d=x:=by
 simp[Ζ,h]
theorem Ws {α:Type} (l:List α) (x d:α) (k m:Nat) (h:k≠m):(l.set k x).getD m d=l.getD m d:=by
 simp[Ζ,List.getElem?_set_ne h]
theorem Adh {l:List Cls} {i:Nat} {out:List Cls} {le:List UInt8} (h:RInv l i out le) (hi:i<256) (hn:∀ k,k<le.length->¬ Alk l (le.getD k 0).toNat i) :
  RInv l (i+1) (out++[Bf 0#256 (i:Int)]) (le++[χ i]):=by
 have hu:=u8n i hi;have J:=h.len;have I:∀ k,k<(le++[χ i]).length->k<le.length\/k=le.length:=λk D=>by simp at D;omega
 refine⟨by simp[J],by have:=h.bound;simp;omega,λk D j E=>?_,λk D=>?_,λm k M D=>?_,λk j D E=>?_,λj E=>?_⟩
 ·rcases I k D with D|rfl
  ·rw[Bt _ _ _ _ (by omega),Bt _ _ _ _ D,h.bits k D j E];constructor
   ·rintro⟨T,G⟩;exact⟨by omega,G⟩
   ·rintro⟨T,G⟩;refine⟨?_,G⟩;by_cases e:j=i
    ·rw[e] at G;exact absurd G (hn k D)
    ·omega
  ·rw[<-J,Cm,J,Cm,hu,Iz _ _ _ hi];simp only[BitVec.getLsbD_zero,Bool.false_or,decide_eq_true_eq];constructor
   ·rintro rfl;exact⟨by omega,Alk.refl _ _⟩
   ·rintro⟨T,G⟩;by_cases e:j=i
    ·exact e
    ·obtain⟨k,D,H⟩:=h.all j (by omega);exact absurd (H.trans G.symm) (hn k D)
 ·rcases I k D with D|rfl
  ·rw[Bt _ _ _ _ D];have:=h.inc k D;omega
  ·rw[Cm,hu];omega
 ·rcases I k D with D|rfl
  ·rw[Bt _ _ _ _ D,Bt _ _ _ _ (by omega)];exact h.srt m k M D
  ·rw[Cm,hu,Bt _ _ _ _ M];exact h.inc m M
 ·rcases I k D with D|rfl
  ·rw[Bt _ _ _ _ D] at E ⊢;exact h.sep k j D E
  ·rw[Cm,hu] at E ⊢;intro ha;obtain⟨k,D,H⟩:=h.all j E;exact hn k D (H.trans ha)
 ·by_cases e:j=i
  ·subst e;exact⟨le.length,by simp,by rw[Cm,hu];exact Alk.refl _ _⟩
  ·obtain⟨k,D,H⟩:=h.all j (by omega);exact⟨k,by simp;omega,by rw[Bt _ _ _ _ D];exact H⟩
theorem Adg {l:List Cls} {i:Nat} {out:List Cls} {le:List UInt8} (h:RInv l i out le) (hi:i<256) (k:Nat) (E:k<le.length) (ha:Alk l (le.getD k 0).toNat i) :
  RInv l (i+1) (out.set k (Bf (out.getD k 0#256) (i:Int))) le:=by
 have J:=h.len;refine⟨by simp[J],by have:=h.bound;omega,λm hm j G=>?_,λm hm=>by have:=h.inc m hm;omega,h.srt,h.sep,λj G=>?_⟩
 ·by_cases e:k=m
  ·subst e;rw[Wr _ _ _ _ (by omega),Iz _ _ _ hi,Æ,h.bits k E j G,decide_eq_true_eq];constructor
   ·rintro (⟨H,D⟩|rfl)
    ·exact⟨by omega,D⟩
    ·exact⟨by omega,ha⟩
   ·rintro⟨H,D⟩;by_cases e:j=i
    ·exact .inr e
    ·exact .inl ⟨by omega,D⟩
  ·rw[Ws _ _ _ _ _ e,h.bits m hm j G];constructor
   ·rintro⟨H,D⟩;exact⟨by omega,D⟩
   ·rintro⟨H,D⟩;refine⟨?_,D⟩;by_cases M:j=i
    ·exfalso
     subst M;have I:=ha.trans D.symm;rcases Nat.lt_or_gt_of_ne e with T|U
     ·exact h.sep m _ hm (h.srt k m T hm) I
     ·exact h.sep k _ E (h.srt m k U E) I.symm
    ·omega
 ·by_cases e:j=i
  ·subst e;exact⟨k,E,ha⟩
  ·exact h.all j (by omega)
theorem Gj {α:Type} {l:List α} {x d:α} (h:x∈l):∃ k,k<l.length/\l.getD k d=x:=by
 obtain⟨k,D,rfl⟩:=List.mem_iff_getElem.1 h;exact⟨k,D,by rw[Ζ,Μ D];rfl⟩
theorem Adi {l:List Cls} {out:List Cls} {le:List UInt8} (h:RInv l 256 out le):out=Ku l:=by
 have al:=h.len;have E:∀ k (D:k<out.length),out[k]=out.getD k 0#256:=λk D=>by rw[Ζ,Μ D];rfl
 have M:∀ k,k<le.length->(out.getD k 0#256).getLsbD (le.getD k 0).toNat=Ξ:=λk D=>
  (h.bits k D _ (UInt8.toNat_lt _)).2 ⟨UInt8.toNat_lt _,Alk.refl _ _⟩
 have T:∀ k,k<le.length->key (out.getD k 0#256)=((le.getD k 0).toNat:Int):=λk D=>
  V3 _ _ (UInt8.toNat_lt _) (M k D) λj G=>by
   rw[<-Bool.not_eq_true];intro hb;exact h.sep k j D G ((h.bits k D j (by have:=UInt8.toNat_lt (le.getD k 0);omega)).1 hb).2.symm
 have ad:IsCells l out:=by
  refine⟨?_,λc I=>?_,λi hi=>?_,λc I i hi ae j G=>?_⟩
  ·rw[ϯ];intro m k hm D J i ⟨H,U⟩;rw[E m hm] at H;rw[E k D] at U;have hi:i<256:=by
    apply ϩ;intro hn
    rw[BitVec.getLsbD_of_ge _ _ (by omega)] at H;cases H
   have a1:=((h.bits m (by omega) i hi).1 H).2;have a2:=((h.bits k (by omega) i hi).1 U).2;exact h.sep k _ (by omega) (h.srt m k J (by omega)) (a1.trans a2.symm)
  ·obtain⟨k,D,rfl⟩:=Gj (d:=0#256) I;exact Gg (M k (by omega))
  ·obtain⟨k,D,ha⟩:=h.all i hi;refine⟨out.getD k 0#256,?_,(h.bits k D i hi).2 ⟨hi,ha⟩⟩;rw[<-E k (by omega)];exact á _
  ·obtain⟨k,D,rfl⟩:=Gj (d:=0#256) I;have ai:=((h.bits k (by omega) i hi).1 ae).2;rw[h.bits k (by omega) j G];exact⟨fun⟨_,aj⟩=>ai.symm.trans aj,λak=>⟨G,ai.trans ak⟩⟩
 refine ad.eq (V7 l) (λ_ _ _ _=>Iff.rfl) ?_ (Als l);rw[ϯ];intro m k hm D J;rw[E m hm,E k D,T m (by omega),T k (by omega)];have:=h.srt m k J (by omega);omega
theorem Am9 (l:List Cls) (x y:Nat):(l.all λc=>Az c (x:Int)==Az c (y:Int))=Ξ↔Alk l x y:=by
 simp[Alk,Az]
end Go.Proofs.YtaiogolidlamiaaGreatDoor
