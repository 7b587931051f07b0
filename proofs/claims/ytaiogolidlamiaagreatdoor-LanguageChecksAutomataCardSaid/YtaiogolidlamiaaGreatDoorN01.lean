import GoSem.Core.Value
import Derived.WalkKit
import Derived.Laws.BitsAllLaws
import Derived.Deep.Quiet
import Derived.Lib.Hide
import Derived.Test.YtaiogolidlamiaaGreatDoorProg
import Derived.Outline
import Derived.BigRegion
import Derived.Deep.DeepCutAuto
import Derived.Shelf.Abstract
import Derived.Deep.RegionWith
import Derived.Deep.CutBlock
import Derived.Deep.QuietTactic
import Derived.StillTail
import Derived.Maps.AppendAt
set_option linter.unusedVariables false
set_option linter.unusedSimpArgs false
open Array renaming getElem?_eq_some_iff → ϐ
open BitVec renaming getLsbD_and → ç, getLsbD_zero → õ
open Bool renaming true_and → Ì, true → Ξ, eq_iff_iff → ϯ, false → Τ, and_eq_true → Ϝ, or_eq_true → Å
open Classical renaming byContradiction → ϧ
open Go renaming Value → Ν, World → Λ, TypeId → Á, cell_of_row → γ, heap_alloc_new → ϰ, Calls → ϓ, heap_alloc2_new → Ϗ, frozen_of_row → Ϸ, setCell_eq_setRow → Ϧ, setRow_heap → μ, wpList_load_row → Ο, wpList_store_row → Φ, bodyPost_ret → ω, results_cell_row → Ϲ, Oper → ϳ, Act → ú, getD_replicate_false → ϫ, wpQuiet_step → è
open Go.Ending renaming returned → θ
open Go.IntKind renaming u64 → π, u64 → ϱ, i64 → ε, i64 → þ
open Go.Lib renaming hid → Α
open Go.Obj renaming cells → Ε
open Go.Operand renaming tmp → η
open Go.Proofs.Tryz renaming prog → Ζ, underlying62 → ϑ
open Go.Region renaming ready → É
open Go.Value renaming slice → Β, oneCell' → ό
open Go.World renaming size_alloc → Ρ
open List renaming mem_cons → Ú, not_mem_nil → ù, mem_map → ϸ, length_map → ϋ, map_cons → Æ, getD_eq_getElem?_getD → Η, getElem?_eq_getElem → Μ, length_cons → ϲ, length_append → Υ, getElem_mem → í, mem_append → Ó, mem_singleton → ϴ, pairwise_iff_getElem → Ϯ
open List.Pairwise renaming imp_of_mem → á
open Nat renaming zero_add → é, le_refl → ν
open Option renaming some → Δ, none → Γ
open UInt8 renaming ofNat → χ
namespace Go.Proofs.YtaiogolidlamiaaGreatDoor
set_option maxRecDepth 100000
open Go.RowKit
abbrev Cls:=BitVec 256
def wn (c:Cls) (i:Nat):Nat:=c.toNat / 2 ^ (64*i) % 2 ^ 64
def wd (c:Cls) (i:Nat):Int:=(wn c i:Nat)
abbrev Ab (c:Cls):Array Ν:=#[.int π (wd c 0),.int π (wd c 1),.int π (wd c 2),.int π (wd c 3)]
def Aw (c:Cls) (b:Int):Bool:=c.getLsbD b.toNat
def Bp (c:Cls) (b:Int):Cls:=c ||| BitVec.twoPow 256 b.toNat
theorem D4 (c:Cls) (i:Nat):wn c i<18446744073709551616:=by unfold wn;omega
theorem Gb (c:Cls) (i:Nat):0<=wd c i/\wd c i<18446744073709551616:=by
 have:=D4 c i;unfold wd;omega
theorem F3 (c:Cls) (i:Nat) (h:i<4):(Ab c)[i]? = Δ (.int π (wd c i)):=by
 match i,h with
 | 0,_=>rfl
 | 1,_=>rfl
 | 2,_=>rfl
 | 3,_=>rfl
theorem Cn (c:Cls) (i j:Nat):(wn c i).testBit j=(decide (j<64)&&c.getLsbD (64*i+j)):=by
 unfold wn;rw[Nat.testBit_mod_two_pow,<-Nat.shiftRight_eq_div_pow,Nat.testBit_shiftRight];rfl
theorem Aaj {c d:Cls} (h:∀ i,i<4->wn c i=wn d i):c=d:=by
 apply BitVec.eq_of_getLsbD_eq;intro k G;have D:=Cn c (k / 64) (k % 64);have E:=Cn d (k / 64) (k % 64);rw[h (k / 64) (by omega)] at D;have hm:k % 64<64:=Nat.mod_lt _ (by omega);have he:64*(k / 64)+k % 64=k:=by omega
 rw[he] at D E;simp only[hm,decide_true,Ì] at D E;exact D.symm.trans E
theorem Ud (c:Cls) (b:Int) (E:0<=b) (M:b<256) :
  ((wd c (b / 64).toNat / 2 ^ (b % 64).toNat).tmod 2==1)=Aw c b:=by
 obtain⟨n,rfl⟩:=Int.eq_ofNat_of_zero_le E;have G:((n:Int) / 64).toNat=n / 64:=by omega
 have I:((n:Int) % 64).toNat=n % 64:=by omega
 rw[G,I];unfold wd Aw;have D:=Cn c (n / 64) (n % 64);rw[show 64*(n / 64)+n % 64=n by omega,show decide (n % 64<64)=Ξ by simp;omega,Ì] at D;rw[show ((n:Int)).toNat=n from rfl,<-D,Nat.testBit_eq_decide_div_mod_eq];have J:((wn c (n / 64):Nat):Int) / 2 ^ (n % 64)=((wn c (n / 64) / 2 ^ (n % 64):Nat):Int):=by
  rw[Int.natCast_ediv];simp
 rw[J];generalize wn c (n / 64) / 2 ^ (n % 64)=m;rw[Int.tmod_eq_emod_of_nonneg (by omega)];rw[ϯ];simp;omega
theorem Mg (k:Nat) (h:k<64):2 ^ k<18446744073709551616:=by
 show 2 ^ k<2 ^ 64;exact Nat.pow_lt_pow_right (by omega) h
theorem Nz (k:Nat) (h:k<64):ϱ.wrap (2 ^ k)=((2 ^ k:Nat):Int):=by
 rw[IntKind.wrap_u64];have D:=Mg k h;rw[show ((2:Int) ^ k)=((2 ^ k:Nat):Int) by simp];generalize 2 ^ k=m at *;omega
theorem Amr (c:Cls) (b:Int) (G:0<=b) (T:b<256) :
  (bits BinOp.and ϱ (wd c (b / 64).toNat) (ϱ.wrap (2 ^ (b % 64).toNat)) != 0)=Aw c b:=by
 obtain⟨n,rfl⟩:=Int.eq_ofNat_of_zero_le G;have I:((n:Int) / 64).toNat=n / 64:=by omega
 have J:((n:Int) % 64).toNat=n % 64:=by omega
 have D:n % 64<64:=Nat.mod_lt _ (by omega);have M:=Mg _ D;rw[I,J,Nz _ D];unfold wd Aw;rw[u64_and_nat _ _ (D4 _ _) M];have E:=Cn c (n / 64) (n % 64);rw[show 64*(n / 64)+n % 64=n by omega,show decide (n % 64<64)=Ξ by simp;omega,Ì] at E;rw[show ((n:Int)).toNat=n from rfl,<-E];rw[nat_bit,Nat.testBit_eq_decide_div_mod_eq];have U:0<2 ^ (n % 64):=Nat.pow_pos (by omega);generalize 2 ^ (n % 64)=m at *;rcases Nat.mod_two_eq_zero_or_one (wn c (n / 64) / m) with h|h
 ·simp[h]
 ·rw[h,ϯ];simp;omega
theorem Zo (c:Cls) (n i:Nat) (hi:i<4) (hn:n<256) :
  wn (Bp c (n:Int)) i=if i=n / 64 then wn c i ||| 2 ^ (n % 64) else wn c i:=by
 apply Nat.eq_of_testBit_eq;intro j;rw[Cn];unfold Bp;rw[show ((n:Int)).toNat=n from rfl,BitVec.getLsbD_or,BitVec.getLsbD_twoPow];split
 ·rename_i e;subst e
  rw[Nat.testBit_or,Cn,Nat.testBit_two_pow];by_cases D:j<64
  ·simp only[D,decide_true,Ì]
   congr 1
   rw[ϯ];simp;omega
  ·simp only[D,decide_false,Bool.false_and,Bool.false_or];simp;omega
 ·rename_i e
  rw[Cn];by_cases D:j<64
  ·simp only[D,decide_true,Ì];have:(decide (n<256)&&decide (n=64*i+j))=Τ:=by simp;omega
   rw[this,Bool.or_false]
  ·simp[D]
theorem Rk (c:Cls) (b:Int) (E:0<=b) (M:b<256) :
  bits BinOp.or ϱ (wd c (b / 64).toNat) (ϱ.wrap (2 ^ (b % 64).toNat))=wd (Bp c b) (b / 64).toNat:=by
 obtain⟨n,rfl⟩:=Int.eq_ofNat_of_zero_le E;have G:((n:Int) / 64).toNat=n / 64:=by omega
 have I:((n:Int) % 64).toNat=n % 64:=by omega
 have D:n % 64<64:=Nat.mod_lt _ (by omega);have J:=Mg _ D;rw[G,I,Nz _ D];unfold wd;rw[u64_or_nat _ _ (D4 _ _) J,Zo c n _ (by omega) (by omega),if_pos rfl]
theorem Rl (c:Cls) (b:Int) (E:0<=b) (M:b<256) :
  (Ab c).setIfInBounds (b / 64).toNat (.int π (wd (Bp c b) (b / 64).toNat))=Ab (Bp c b):=by
 obtain⟨n,rfl⟩:=Int.eq_ofNat_of_zero_le E;have G:((n:Int) / 64).toNat=n / 64:=by omega
 rw[G];have D:∀ i,i<4->i≠n / 64->wd (Bp c (n:Int)) i=wd c i:=λi hi I=>by
  unfold wd;rw[Zo c n i hi (by omega),if_neg I]
 have J:n / 64<4:=by omega
 generalize T:n / 64=k at *
 match k,J with
 | 0,_=>simp[Ab,D 1 (by omega) (by omega),D 2 (by omega) (by omega),D 3 (by omega) (by omega)]
 | 1,_=>simp[Ab,D 0 (by omega) (by omega),D 2 (by omega) (by omega),D 3 (by omega) (by omega)]
 | 2,_=>simp[Ab,D 0 (by omega) (by omega),D 1 (by omega) (by omega),D 3 (by omega) (by omega)]
 | 3,_=>simp[Ab,D 0 (by omega) (by omega),D 1 (by omega) (by omega),D 2 (by omega) (by omega)]
theorem Aam (i:Nat):wd 0#256 i=0:=by unfold wd wn;simp
theorem Af3 (a b:Cls) (i:Nat) (_hi:i<4):bits BinOp.or ϱ (wd a i) (wd b i)=wd (a ||| b) i:=by
 unfold wd;rw[u64_or_nat _ _ (D4 _ _) (D4 _ _)]
 congr 1
 apply Nat.eq_of_testBit_eq;intro j;rw[Nat.testBit_or,Cn,Cn,Cn,BitVec.getLsbD_or];cases decide (j<64)<;>rfl
theorem Anz (a b:Cls) (i:Nat) (_hi:i<4):bits BinOp.and ϱ (wd a i) (wd b i)=wd (a &&& b) i:=by
 unfold wd;rw[u64_and_nat _ _ (D4 _ _) (D4 _ _)]
 congr 1
 apply Nat.eq_of_testBit_eq;intro j;rw[Nat.testBit_and,Cn,Cn,Cn,ç];cases decide (j<64)<;>simp
theorem U9 (x j:Nat) (D:x<18446744073709551616):(18446744073709551615-x).testBit j=(decide (j<64)&&!x.testBit j):=by
 have:=Nat.testBit_two_pow_sub_succ (x:=x) (n:=64) D j
 rwa [show (2 ^ 64-(x+1):Nat)=18446744073709551615-x by omega] at this
theorem U8 (a:Cls) (i:Nat) (hi:i<4):18446744073709551615-wn a i=wn (~~~a) i:=by
 apply Nat.eq_of_testBit_eq;intro j;rw[U9 _ _ (D4 _ _),Cn,Cn,BitVec.getLsbD_not];by_cases D:j<64
 ·simp only[D,decide_true,Ì];rw[show decide (64*i+j<256)=Ξ by simp;omega,Ì]
 ·simp[D]
theorem Ag2 (a b:Cls) (i:Nat) (hi:i<4):bits BinOp.andNot ϱ (wd a i) (wd b i)=wd (a &&& ~~~b) i:=by
 unfold wd;rw[u64_andNot_nat _ _ (D4 _ _) (D4 _ _),U8 b i hi]
 congr 1
 apply Nat.eq_of_testBit_eq;intro j;rw[Nat.testBit_and,Cn,Cn,Cn,ç];cases decide (j<64)<;>simp
theorem Agg (a:Cls) (i:Nat) (hi:i<4):bits BinOp.xor ϱ ϱ.max (wd a i)=wd (~~~a) i:=by
 unfold wd;rw[show ϱ.max=((18446744073709551615:Nat):Int) from rfl,u64_xor_nat _ _ (by omega) (D4 _ _)]
 congr 1
 rw[<-U8 a i hi];apply Nat.eq_of_testBit_eq;intro j;rw[Nat.testBit_xor,U9 _ _ (D4 _ _),show (18446744073709551615:Nat)=2 ^ 64-1 by omega,Nat.testBit_two_pow_sub_one,Cn];cases decide (j<64)<;>simp
def Qm (p:Nat->Bool):Nat->Cls
 | 0=>0#256
 | k+1=>if p k then Bp (Qm p k) (k:Int) else Qm p k
theorem I6 (c:Cls) (n b:Nat) (hn:n<256):(Bp c (n:Int)).getLsbD b=(c.getLsbD b||decide (b=n)):=by
 unfold Bp;rw[show ((n:Int)).toNat=n from rfl,BitVec.getLsbD_or,BitVec.getLsbD_twoPow]
 congr 1
 rw[ϯ];simp;omega
def Al (c:Cls):Nat->List UInt8
 | 0=>[]
 | k+1=>if c.getLsbD k then Al c k++[χ k] else Al c k
theorem La (c:Cls) (k:Nat):(Al c k).length<=k:=by
 induction k with
 | zero=>simp[Al]
 | succ k D=>
  unfold Al;split
  ·simp;omega
  ·omega
theorem Hw (k q p q' D:Nat) (G:p<2 ^ k) (E:D<2 ^ k):(2 ^ k*q+p) &&& (2 ^ k*q'+D)=2 ^ k*(q &&& q')+(p &&& D):=by
 have I:p &&& D<2 ^ k:=Nat.and_lt_two_pow _ E;apply Nat.eq_of_testBit_eq;intro j;rw[Nat.testBit_and,Nat.testBit_two_pow_mul_add _ G,Nat.testBit_two_pow_mul_add _ E,Nat.testBit_two_pow_mul_add _ I];split<;>simp[Nat.testBit_and]
def ofD:List Nat->Nat
 | []=>0
 | d::l=>256*ofD l+d
def mk (c n:Nat):Nat:=ofD (List.replicate n c)
def b1 (d:Nat):Nat:=(d / 2 &&& 85)+(d &&& 85)
def b2 (d:Nat):Nat:=(d / 4 &&& 51)+(d &&& 51)
def b3 (d:Nat):Nat:=(d / 16+d) &&& 15
def nib (d:Nat):Bool:=d % 16<=4&&d / 16<=4
theorem t1:∀ d,d<256->∀ t,t<2->((128*t+d / 2) &&& 85)+(d &&& 85)=b1 d/\b1 d<256:=by decide +kernel
theorem t2:∀ d,d<256->∀ t,t<4->((64*t+d / 4) &&& 51)+(d &&& 51)=b2 d/\b2 d<256:=by decide +kernel
theorem t3:∀ d,d<256->nib d=Ξ->∀ t,t<5->(16*t+d / 16+d) &&& 15=b3 d/\16*t+d / 16+d<256/\b3 d<16:=by decide +kernel
theorem t4:∀ d,d<256->nib (b2 (b1 d))=Ξ:=by decide +kernel
theorem Ac8 (l:List Nat) (h:∀ d∈l,d<256):(ofD l / 2 &&& mk 85 l.length)+(ofD l &&& mk 85 l.length)=ofD (l.map b1):=by
 induction l with
 | nil=>rfl
 | cons d l D=>
  have D:=D (λx E=>h x (by simp[E]));have hd:=h d (by simp);have G:ofD (d::l) / 2=2 ^ 8*(ofD l / 2)+(128*(ofD l % 2)+d / 2):=by simp only[ofD];omega
  have I:ofD (d::l)=2 ^ 8*ofD l+d:=rfl;have J:mk 85 (d::l).length=2 ^ 8*mk 85 l.length+85:=rfl;rw[G,I,J,Hw 8 _ _ _ _ (by omega) (by omega),Hw 8 _ _ _ _ (by omega) (by omega)];have M:=(t1 d hd (ofD l % 2) (by omega)).1;show _=256*ofD (l.map b1)+b1 d;omega
theorem Ac7 (l:List Nat) (h:∀ d∈l,d<256):(ofD l / 4 &&& mk 51 l.length)+(ofD l &&& mk 51 l.length)=ofD (l.map b2):=by
 induction l with
 | nil=>rfl
 | cons d l D=>
  have D:=D (λx E=>h x (by simp[E]));have hd:=h d (by simp);have G:ofD (d::l) / 4=2 ^ 8*(ofD l / 4)+(64*(ofD l % 4)+d / 4):=by simp only[ofD];omega
  have I:ofD (d::l)=2 ^ 8*ofD l+d:=rfl;have J:mk 51 (d::l).length=2 ^ 8*mk 51 l.length+51:=rfl;rw[G,I,J,Hw 8 _ _ _ _ (by omega) (by omega),Hw 8 _ _ _ _ (by omega) (by omega)];have M:=(t2 d hd (ofD l % 4) (by omega)).1;show _=256*ofD (l.map b2)+b2 d;omega
theorem Ahw (l:List Nat) (h:∀ d∈l,d<256/\nib d=Ξ):ofD l % 16<5:=by
 cases l with
 | nil=>simp[ofD]
 | cons d l=>
  have:=(h d (by simp)).2;simp only[nib,Ϝ,decide_eq_true_eq] at this;simp only[ofD];omega
theorem Ac6 (l:List Nat) (h:∀ d∈l,d<256/\nib d=Ξ):(ofD l / 16+ofD l) &&& mk 15 l.length=ofD (l.map b3):=by
 induction l with
 | nil=>rfl
 | cons d l D=>
  have E:∀ d∈l,d<256/\nib d=Ξ:=λx G=>h x (by simp[G])
  have D:=D E;have hd:=h d (by simp);have M:=t3 d hd.1 hd.2 (ofD l % 16) (Ahw l E);have I:ofD (d::l) / 16+ofD (d::l)=2 ^ 8*(ofD l / 16+ofD l)+(16*(ofD l % 16)+d / 16+d):=by simp only[ofD];omega
  have J:mk 15 (d::l).length=2 ^ 8*mk 15 l.length+15:=rfl;rw[I,J,Hw 8 _ _ _ _ (by omega) (by omega)];show _=256*ofD (l.map b3)+b3 d;omega
def cnt (p:Nat->Bool):Nat->Nat
 | 0=>0
 | n+1=>cnt p n+(if p n then 1 else 0)
theorem Q3 (p q:Nat->Bool) (n:Nat) (h:∀ k,k<n->p k=q k):cnt p n=cnt q n:=by
 induction n with
 | zero=>rfl
 | succ n D=>simp only[cnt];rw[D (λk E=>h k (by omega)),h n (by omega)]
theorem X5 (p:Nat->Bool) (m n:Nat):cnt p (m+n)=cnt p m+cnt (λk=>p (m+k)) n:=by
 induction n with
 | zero=>rfl
 | succ n D=>rw[<-Nat.add_assoc];simp only[cnt];rw[D];omega
theorem Afi:∀ d,d<256->b3 (b2 (b1 d))=cnt d.testBit 8:=by decide +kernel
theorem Di (p:Nat->Bool) (n:Nat):cnt p n<=n:=by
 induction n with
 | zero=>simp[cnt]
 | succ n D=>simp only[cnt];split<;>omega
theorem Aly (l:List Nat) (h:∀ d∈l,d<256):cnt (ofD l).testBit (8*l.length)=(l.map λd=>cnt d.testBit 8).sum:=by
 induction l with
 | nil=>rfl
 | cons d l D=>
  have D:=D (λx I=>h x (by simp[I]));have hd:d<2 ^ 8:=h d (by simp);rw[show 8*(d::l).length=8+8*l.length by simp;omega,X5];have E:ofD (d::l)=2 ^ 8*ofD l+d:=rfl;have J:cnt (ofD (d::l)).testBit 8=cnt d.testBit 8:=Q3 _ _ _ λk G=>by
   rw[E,Nat.testBit_two_pow_mul_add _ hd,if_pos G]
  have M:cnt (λk=>(ofD (d::l)).testBit (8+k)) (8*l.length)=cnt (ofD l).testBit (8*l.length):=Q3 _ _ _ λk G=>by
   rw[E,Nat.testBit_two_pow_mul_add _ hd,if_neg (by omega)];congr 1;omega
  rw[J,M,D];simp
theorem Alc (x:Nat) (h:x<18446744073709551616):x=ofD [x % 256,x / 256 % 256,x / 65536 % 256,x / 16777216 % 256,x / 4294967296 % 256,x / 1099511627776 % 256,x / 281474976710656 % 256,x / 72057594037927936 % 256]:=by
 simp only[ofD];omega
def st1 (x:Nat):Nat:=(x / 2 &&& 6148914691236517205)+(x &&& 6148914691236517205)
def st2 (x:Nat):Nat:=(x / 4 &&& 3689348814741910323)+(x &&& 3689348814741910323)
def st3 (x:Nat):Nat:=(x / 16+x) &&& 1085102592571150095
def st4 (x:Nat):Nat:=x+x / 256
def st5 (x:Nat):Nat:=x+x / 65536
def st6 (x:Nat):Nat:=x+x / 4294967296
theorem Abi (a b c d e f g h:Nat) (ha:a<=8) (J:b<=8) (M:c<=8) (hd:d<=8) (he:e<=8) (T:f<=8) (hg:g<=8) (U:h<=8) :
  st6 (st5 (st4 (ofD [a,b,c,d,e,f,g,h]))) % 128=a+b+c+d+e+f+g+h:=by
 have D:∀ (a:Nat) (l:List Nat),a<256->ofD (a::l) / 256=ofD l:=λa l h=>by simp only[ofD];omega
 have E:st4 (ofD [a,b,c,d,e,f,g,h])=ofD [a+b,b+c,c+d,d+e,e+f,f+g,g+h,h]:=by
  unfold st4;rw[D a _ (by omega)];simp only[ofD];omega
 have G:st5 (ofD [a+b,b+c,c+d,d+e,e+f,f+g,g+h,h])=ofD [a+b+c+d,b+c+d+e,c+d+e+f,d+e+f+g,e+f+g+h,f+g+h,g+h,h]:=by
  unfold st5;rw[show (65536:Nat)=256*256 from rfl,<-Nat.div_div_eq_div_mul,D _ _ (by omega),D _ _ (by omega)];simp only[ofD];omega
 have I:st6 (ofD [a+b+c+d,b+c+d+e,c+d+e+f,d+e+f+g,e+f+g+h,f+g+h,g+h,h])=ofD [a+b+c+d+e+f+g+h,b+c+d+e+f+g+h,c+d+e+f+g+h,d+e+f+g+h,e+f+g+h,f+g+h,g+h,h]:=by
  unfold st6;rw[show (4294967296:Nat)=256*256*256*256 from rfl,<-Nat.div_div_eq_div_mul,<-Nat.div_div_eq_div_mul,<-Nat.div_div_eq_div_mul,D _ _ (by omega),D _ _ (by omega),D _ _ (by omega),D _ _ (by omega)];simp only[ofD];omega
 rw[E,G,I];have:∀ (s:Nat) (l:List Nat),ofD (s::l) % 128=s % 128:=λs l=>by simp only[ofD];omega
 rw[this];omega
theorem Abu (x:Nat) (h:x<18446744073709551616) :
  st1 x<18446744073709551616/\st2 (st1 x)<=4919131752989213764/\st3 (st2 (st1 x))<=578721382704613384/\st6 (st5 (st4 (st3 (st2 (st1 x))))) % 128=cnt x.testBit 64:=by
 have G:=Alc x h;generalize M:[x % 256,x / 256 % 256,x / 65536 % 256,x / 16777216 % 256,x / 4294967296 % 256,x / 1099511627776 % 256,x / 281474976710656 % 256,x / 72057594037927936 % 256]=l at G;have D:l.length=8:=by rw[<-M];rfl
 have E:∀ d∈l,d<256:=by
  rw[<-M];intro d hd
  simp only[Ú,ù,or_false] at hd;omega
 have T:st1 x=ofD (l.map b1):=by
  rw[G,<-Ac8 l E,D];rfl
 have U:∀ d∈l.map b1,d<256:=by
  intro d hd;obtain⟨d0,I,rfl⟩:=ϸ.1 hd;exact (t1 d0 (E d0 I) 0 (by omega)).2
 have e2:st2 (st1 x)=ofD ((l.map b1).map b2):=by
  rw[T,<-Ac7 _ U,ϋ,D];rfl
 have ab:∀ d∈(l.map b1).map b2,d<256/\nib d=Ξ:=by
  intro d hd;obtain⟨d0,I,rfl⟩:=ϸ.1 hd;obtain⟨d1,h1,rfl⟩:=ϸ.1 I;exact⟨(t2 _ (t1 d1 (E d1 h1) 0 (by omega)).2 0 (by omega)).2,t4 d1 (E d1 h1)⟩
 have J:st3 (st2 (st1 x))=ofD (((l.map b1).map b2).map b3):=by
  rw[e2,<-Ac6 _ ab,ϋ,ϋ,D];rfl
 have e4:((l.map b1).map b2).map b3=l.map λd=>cnt d.testBit 8:=by
  rw[List.map_map,List.map_map];apply List.map_congr_left;intro d hd;exact Afi d (E d hd)
 have e5:=Aly l E;rw[D,<-G] at e5;rw[e4] at J;have ag:∀ (m:List Nat),m.length=8->(∀ d∈m,d<256)->ofD m<18446744073709551616:=by
  intro m hm hd
  match m,hm with
  | [a,b,c,d,e,f,g,i],_=>
   simp only[Ú,ù,or_false,forall_eq_or_imp,forall_eq] at hd;simp only[ofD];omega
 have ah:∀ (m:List Nat),m.length=8->(∀ d∈m,d<256/\nib d=Ξ)->ofD m<=4919131752989213764:=by
  intro m hm hd;have ai:∀ d∈m,d<=68:=λd h=>by
   have:=(hd d h).2;simp only[nib,Ϝ,decide_eq_true_eq] at this;omega
  match m,hm with
  | [a,b,c,d,e,f,g,i],_=>
   simp only[Ú,ù,or_false,forall_eq_or_imp,forall_eq] at ai;simp only[ofD];omega
 refine⟨by rw[T];exact ag _ (by simp[D]) U,by rw[e2];exact ah _ (by simp[D]) ab,?_,?_⟩
 ·rw[J]
  match l,D with
  | [a,b,c,d,e,f,g,i],_=>
   simp only[Æ,List.map_nil,ofD];have:=Di a.testBit 8;have:=Di b.testBit 8;have:=Di c.testBit 8;have:=Di d.testBit 8
   have:=Di e.testBit 8;have:=Di f.testBit 8;have:=Di g.testBit 8;have:=Di i.testBit 8
   omega
 ·rw[J,e5]
  match l,D with
  | [a,b,c,d,e,f,g,i],_=>
   rw[Æ,Æ,Æ,Æ,Æ,Æ,Æ,Æ,List.map_nil];rw[Abi _ _ _ _ _ _ _ _ (Di _ _) (Di _ _) (Di _ _) (Di _ _) (Di _ _) (Di _ _) (Di _ _) (Di _ _)];simp only[List.sum_cons,List.sum_nil];omega
structure Ext (w W:Λ):Prop where
 below:Below w.heap.size w W
theorem Θ (w:Λ):Ext w w:=⟨Below.refl _ _⟩
theorem Ext.trans {a b c:Λ} (h:Ext a b) (k:Ext b c):Ext a c:=
 ⟨h.below.trans (k.below.mono h.below.size)⟩
theorem Ext.alloc {a b:Λ} (h:Ext a b) (o:Obj):Ext a (b.alloc o):=⟨h.below.alloc h.below.size o⟩
theorem Ext.drew {a b:Λ} (h:Ext a b):Ext a b.drew:=⟨h.below.drew⟩
theorem Ext.drawn1 {a b:Λ} (h:Ext a b):Ext a { b with drawn:=b.drawn+1 }:=h.drew
theorem Ext.setCell {a b:Λ} (h:Ext a b) {p:Addr} (D:a.heap.size<=p.block) (v:Ν):Ext a (b.setCell p v):=⟨h.below.setCell D v⟩
theorem Cd (w:Λ) (g:Nat) (cs:Array Ν):w.grownBy (w.setRow g cs) (Δ g):=
 ⟨rfl,rfl,rfl,by simp,λk _ D=>setRow_other w g k cs (λe=>D (by rw[e]))⟩
theorem Ext.setRow {a b:Λ} (h:Ext a b) {g:Nat} (hg:a.heap.size<=g) (cs:Array Ν):Ext a (b.setRow g cs):=
 ⟨h.below.grown (Cd b g cs) h.below.size (λk e=>by cases e;exact hg)⟩
theorem Ext.grown {a b c:Λ} {row:Option Nat} (h:Ext a b) (hg:b.grownBy c row) (D:∀ k,row=Δ k->a.heap.size<=k):Ext a c:=⟨h.below.grown hg h.below.size D⟩
theorem Ext.size {a b:Λ} (h:Ext a b):a.heap.size<=b.heap.size:=h.below.size
theorem Ext.block {a b:Λ} (h:Ext a b) {k:Nat} (D:k<a.heap.size):b.heap[k]? = a.heap[k]? := h.below.block k D
theorem Ext.heap {a b:Λ} (h:Ext a b) {k:Nat} {o:Obj} (D:a.heap[k]? = Δ o):b.heap[k]? = Δ o:=
 (h.block (ϐ.1 D).1).trans D
theorem Ext.cell {a b:Λ} (h:Ext a b) {p:Addr} {v:Ν} (D:a.cell? p=Δ v):b.cell? p=Δ v:=
 (h.below.cell (Λ.block_lt_of_cell? a p D)).trans D
theorem Ag {w:Λ} {k:Nat} {o:Obj} (h:w.heap[k]? = Δ o) (x:Obj):(w.alloc x).heap[k]? = Δ o:=
 (Below.heap_alloc w x k (ϐ.1 h).1).trans h
theorem B7 {w:Λ} {k:Nat} {o:Obj} (h:w.heap[k]? = Δ o) {g:Nat} (D:k≠g) (cs:Array Ν):(w.setRow g cs).heap[k]? = Δ o:=
 (setRow_other w g k cs D).trans h
theorem An {w:Λ} {k:Nat} {o:Obj} (h:w.heap[k]? = Δ o):k<w.heap.size:=(ϐ.1 h).1
def Sl (W:Λ) (v:Ν) (k n:Nat) (f:Nat->Ν):Prop:=
 n<=4611686018427387904/\((n=0/\∃ a D,v=Β a 0 D)\/
  (0<n/\∃ b E D,v=Β (Δ ⟨b,E,Γ⟩) n D/\b<W.heap.size/\∀ i,i<n*k->W.cell? ⟨b,E+i,Γ⟩=Δ (f i)))
theorem Sl.ext {W W':Λ} {v:Ν} {k n:Nat} {f:Nat->Ν} (h:Sl W v k n f) (D:Ext W W'):Sl W' v k n f:=by
 obtain⟨E,h|⟨hn,b,G,I,hv,J,M⟩⟩:=h
 ·exact⟨E,.inl h⟩
 ·exact⟨E,.inr ⟨hn,b,G,I,hv,Nat.lt_of_lt_of_le J D.size,λi hi=>D.cell (M i hi)⟩⟩
theorem Sl.congr {W:Λ} {v:Ν} {k n:Nat} {f g:Nat->Ν} (h:Sl W v k n f) (E:∀ i,i<n*k->f i=g i):Sl W v k n g:=by
 obtain⟨D,h|⟨hn,b,G,I,hv,J,M⟩⟩:=h
 ·exact⟨D,.inl h⟩
 ·exact⟨D,.inr ⟨hn,b,G,I,hv,J,λi hi=>by rw[M i hi,E i hi]⟩⟩
theorem Sl.nil (W:Λ) (k:Nat) (f:Nat->Ν):Sl W (Β Γ 0 0) k 0 f:=⟨by omega,.inl ⟨rfl,_,_,rfl⟩⟩
abbrev bv (x:UInt8):Ν:=.int .u8 (x.toNat:Int)
def By (W:Λ) (v:Ν) (l:List UInt8):Prop:=Sl W v 1 l.length (λi=>bv (l.getD i 0))
theorem Ext.grownBy {a b:Λ} (h:Ext a b) (row:Option Nat):a.grownBy b row:=⟨h.below.os,h.below.tape,h.below.output,h.size,λ_ D _=>h.block D⟩
theorem Ah {a b:Λ} {base:Nat} {e:Á} {size:Nat} {v:Ν} {n:Nat} {xs:List Ν} (h:a.ownsRow base e size v n xs) (D:Ext a b):b.ownsRow base e size v n xs:=
 h.kept (D.grownBy Γ) (by cases v.ownBlock<;>simp)
theorem Sl.of_owns {w:Λ} {base:Nat} {e:Á} {k:Nat} {v:Ν} {n:Nat} {xs:List Ν} (h:w.ownsRow base e k v n xs) (hn:n<=4611686018427387904) (d:Ν):Sl w v k n (λi=>xs.getD i d):=by
 refine⟨hn,?_⟩;obtain⟨M,⟨rfl,rfl⟩|⟨g,E,cur,rfl,T,hg,U,aa,ab,G⟩⟩:=h
 ·exact .inl ⟨rfl,_,_,rfl⟩
 ·by_cases I:n=0
  ·subst I;exact .inl ⟨rfl,_,_,rfl⟩
  ·refine .inr ⟨by omega,g,0,E,rfl,An hg,λi hi=>?_⟩;rw[é,γ w g i cur e (0,0) hg];have J:xs[i]? = cur.toList[i]? := by rw[<-G,List.getElem?_take,if_pos hi]
   have D:i<xs.length:=by omega
   show cur[i]? = Δ (xs.getD i d);rw[Η,Μ D,Option.getD_some,<-Array.getElem?_toList,<-J,Μ D]
theorem By.of_owns {w:Λ} {base:Nat} {v:Ν} {l:List UInt8} (h:w.ownsRow base 5 1 v l.length (l.map bv)) (hn:l.length<=4611686018427387904):By w v l:=
 (Sl.of_owns h hn (bv 0)).congr λi hi=>by
  simp only[Η,List.getElem?_map];cases l[i]?<;>rfl
theorem By.ext {W W':Λ} {v:Ν} {l:List UInt8} (h:By W v l) (D:Ext W W'):By W' v l:=Sl.ext h D
theorem By.len {W:Λ} {v:Ν} {l:List UInt8} (h:By W v l):∃ a D,v=Β a l.length D:=by
 obtain⟨_,⟨hn,a,D,rfl⟩|⟨_,b,E,D,rfl,_⟩⟩:=h
 ·exact⟨a,D,by rw[hn]⟩
 ·exact⟨_,D,rfl⟩
theorem Hc {a b:Bool} (h:a=b):Ending.returned (.bool a)=θ (.bool b):=by rw[h]
theorem Ov {k:IntKind} {a b:Int} (h:a=b):Ending.returned (.int k a)=θ (.int k b):=by rw[h]
theorem Ng (w:Λ) (cs:Array Ν) (t:Á) (i:Nat) (v:Ν) (h:cs[i]? = Δ v):(w.alloc (Ε cs t)).cell? ⟨w.heap.size,i,Γ⟩=Δ v:=
 (γ _ _ i cs t (0,0) (ϰ w _)).trans h
theorem Oy (c:Cls) (b:Int) (D:0<=b) (E:b<256) (w:Λ) :
  ϓ Ζ 136 #[.agg (Ab c),.int .u8 b] w λe w'=>e=θ (.bool (Aw c b))/\Ext w w':=by
 have G:=Ng w (Ab c) 62 (b / 64).toNat _ (F3 c _ (by omega));have ⟨I,J⟩:=Gb c (b / 64).toNat;go_enter Tryz.func136,Tryz.ntmps136;go_wp2;go_ret;exact⟨Hc (Ud c b D E),(Θ w).alloc _⟩
theorem Wt (c:Cls) (b:Int) (D:0<=b) (E:b<256) (w:Λ) :
  ϓ Ζ 131 #[.agg (Ab c),.int .u8 b] w λe w'=>e=θ (.bool (Aw c b))/\Ext w w':=by
 have G:=Ng w (Ab c) 62 (b / 64).toNat _ (F3 c _ (by omega));have ⟨I,J⟩:=Gb c (b / 64).toNat;go_enter Tryz.func131,Tryz.ntmps131;go_wp2;go_ret;exact⟨Hc (Amr c b D E),(Θ w).alloc _⟩
theorem Bf:(Ζ.info? 62).map (·.size)=Δ 4:=by kernel_rfl
theorem Eq (c:Cls):(Ab c).all (·.oneCell')=Ξ:=by simp[ό]
theorem Si (c:Cls) (b:Int) (I:0<=b) (J:b<256) (w:Λ) :
  ϓ Ζ 124 #[.agg (Ab c),.int .u8 b] w λe w'=>e=θ (.agg (Ab (Bp c b)))/\Ext w w':=by
 have ⟨U,h2⟩:=Gb c (b / 64).toNat;go_enter Tryz.func124,Tryz.ntmps124;go_upto_region 2 with (fail)
 go_cut [] (λW=>Ext w W/\W.heap[w.heap.size]? = Δ (Ε (Ab (Bp c b)) 62 (0,0))/\W.heap[w.heap.size+1]? = Δ (Ε #[.int π 0,.int π 0,.int π 0,.int π 0] 62 (0,0)))
 case first=>
  have G:=((Θ w).alloc (Ε (Ab c) 62)).alloc (Ε #[.int π 0,.int π 0,.int π 0,.int π 0] 62);have D:=Ag (ϰ w (Ε (Ab c) 62)) (Ε #[.int π 0,.int π 0,.int π 0,.int π 0] 62);have E:=Ϗ w (Ε (Ab c) 62) (Ε #[.int π 0,.int π 0,.int π 0,.int π 0] 62);generalize (w.alloc (Ε (Ab c) 62)).alloc (Ε #[.int π 0,.int π 0,.int π 0,.int π 0] 62)=W at *;have hc:=(γ W _ (b / 64).toNat _ _ _ D).trans (F3 c _ (by omega));have hf:=Ϸ W _ (b / 64).toNat _ _ D;go_wp2;go_meet
  rw[Rk c b I J,Ϧ W _ _ _ _ _ _ D,Rl c b I J];exact⟨G.setRow (ν _) _,μ W _ _ _ _ _ D,B7 E (by omega) _⟩
 case rest=>
  obtain⟨G,D,E⟩:=hcut;have T:=Α D;have M:=Α E;clear D E;go_wp2_with (first
   | (refine Ο rfl 62 _ rfl _ rfl _ _ _ _ T.out ϑ rfl Bf ?_)
   | (refine Φ rfl 62 _ _ rfl _ _ rfl rfl _ _ M.out Bf rfl (Eq _) ?_))
  refine ω (v:=.agg (Ab (Bp c b))) (Ϲ rfl _ _ _ _ _ _ _ rfl (μ wc _ _ (Ab (Bp c b)) 62 (0,0) M.out) ϑ rfl Bf) rfl ?_;exact⟨rfl,G.setRow (by omega) _⟩
open Go.RowKit Go.Shelf
def Eg (g:Nat->Int) (i:Nat):Array Ν:=
 #[.int π (if 0<i then g 0 else 0),.int π (if 1<i then g 1 else 0),.int π (if 2<i then g 2 else 0),.int π (if 3<i then g 3 else 0)]
theorem Aar (g:Nat->Int) (i:Nat) (h:i<4):(Eg g i).setIfInBounds i (.int π (g i))=Eg g (i+1):=by
 match i,h with
 | 0,_=>rfl
 | 1,_=>rfl
 | 2,_=>rfl
 | 3,_=>rfl
theorem Aas (g:Nat->Int) (i j:Nat) (h:j<4):(Eg g i)[j]? = Δ (.int π (if j<i then g j else 0)):=by
 match j,h with
 | 0,_=>rfl
 | 1,_=>rfl
 | 2,_=>rfl
 | 3,_=>rfl
def Li (g:Nat) (F:Int->Int->Int):Prop:=
 ∀ (x y:Int) (w:Λ),0<=x->x<18446744073709551616->0<=y->y<18446744073709551616->
  ϓ Ζ g #[.int π x,.int π y] w λe w'=>e=θ (.int π (F x y))/\w'=w
theorem Nb (g:Nat) (F:Int->Int->Int) (hg:Li g F) (eg:∀ args w,(callFunc g args).run Ζ w=.ok (.enter g args) w) (a b c:Cls) (hc:∀ i,i<4->F (wd a i) (wd b i)=wd c i) (w:Λ) :
  ϓ Ζ 125 #[.agg (Ab a),.agg (Ab b),.func (.func g) #[] #[]] w λe w'=>e=θ (.agg (Ab c))/\Ext w w':=by
 go_enter Tryz.func125,Tryz.ntmps125;go_wp2_with (fail);have hz:(#[.int π 0,.int π 0,.int π 0,.int π 0]:Array Ν)=Eg (wd c) 0:=rfl;go_loopw [9] (λi W=>∃ k:Nat,k<=4/\i=.int ε k/\Ext w W/\W.heap[w.heap.size]? = Δ (Ε (Ab a) 62 (0,0))/\W.heap[w.heap.size+1]? = Δ (Ε (Ab b) 62 (0,0))/\
   W.heap[w.heap.size+1+1]? = Δ (Ε (Eg (wd c) 0) 62 (0,0))/\W.heap[w.heap.size+1+1+1]? = Δ (Ε (Eg (wd c) k) 62 (0,0)))
  (λi _=>4-(intOf i).toNat)
 case atStart=>
  refine⟨0,by omega,rfl,((((Θ w).alloc _).alloc _).alloc _).alloc _,?_,?_,?_,?_⟩
  ·exact Ag (Ag (Ag (ϰ w _) _) _) _
  ·have h:=Ag (Ag (ϰ (w.alloc (Ε (Ab a) 62)) (Ε (Ab b) 62)) (Ε (Eg (wd c) 0) 62)) (Ε (Eg (wd c) 0) 62)
   rwa [Ρ] at h
  ·have h:=Ag (ϰ ((w.alloc (Ε (Ab a) 62)).alloc (Ε (Ab b) 62)) (Ε (Eg (wd c) 0) 62)) (Ε (Eg (wd c) 0) 62)
   rwa [Ρ,Ρ] at h
  ·have h:=ϰ (((w.alloc (Ε (Ab a) 62)).alloc (Ε (Ab b) 62)).alloc (Ε (Eg (wd c) 0) 62)) (Ε (Eg (wd c) 0) 62)
   rwa [Ρ,Ρ,Ρ] at h
 case round=>
  obtain⟨k,hk,rfl,I,J,M,T,U⟩:=hrel;have HA:=Α J;have HB:=Α M;have D:=Α U;have G:=Α T;clear J M U T hz;by_cases E:k<4
  ·have cA:=(γ wr _ k _ _ _ HA.out).trans (F3 a k E);have cB:=(γ wr _ k _ _ _ HB.out).trans (F3 b k E);have cC:=(γ wr _ k _ _ _ D.out).trans (Aas (wd c) k k E);have fC:=Ϸ wr _ k _ _ D.out;have ba:=Gb a k;have bb:=Gb b k;go_upto_block 1 with (fail)
   go_cut [] (λW=>Ext w W/\W.heap[w.heap.size]? = Δ (Ε (Ab a) 62 (0,0))/\W.heap[w.heap.size+1]? = Δ (Ε (Ab b) 62 (0,0))/\
    W.heap[w.heap.size+1+1]? = Δ (Ε (Eg (wd c) 0) 62 (0,0))/\W.heap[w.heap.size+1+1+1]? = Δ (Ε (Eg (wd c) (k+1)) 62 (0,0)))
   case first=>
    go_wp2;go_region_with (go_at_fn g;refine (hg _ _ _ ba.1 ba.2 bb.1 bb.2).mono ?_;rintro e w' ⟨rfl,rfl⟩)
    all_goals
     go_wp2;go_meet
     rw[Ϧ wr _ _ _ _ _ _ D.out,Aar _ _ E];exact⟨(I.setRow (by omega) _).drew,B7 HA.out (by omega) _,B7 HB.out (by omega) _,B7 G.out (by omega) _,μ wr _ _ _ _ _ D.out⟩
   case rest=>
    obtain⟨ar,af,ag,ah,ai⟩:=hcut;have au:=Α af;have aw:=Α ag;have ax:=Α ai;have ay:=Α ah;clear af ag ai ah cA cB cC fC;go_wp2;go_roundw
    case rel=>exact⟨k+1,by omega,by go_num,ar,au.out,aw.out,ay.out,ax.out⟩
    case measure=>simp[intOf];omega
  ·obtain rfl:k=4:=by omega
   have aj:wr.heap[w.heap.size+1+1+1]? = Δ (Ε (Ab c) 62 (0,0)):=D.out;have az:=Α aj;clear aj;go_wp2_with (first
    | (refine Ο rfl 62 _ rfl _ rfl _ _ _ _ az.out ϑ rfl Bf ?_)
    | (refine Φ rfl 62 _ _ rfl _ _ rfl rfl _ _ G.out Bf rfl (Eq _) ?_))
   refine ω (v:=.agg (Ab c)) (Ϲ rfl _ _ _ _ _ _ _ rfl (μ wr _ _ (Ab c) 62 (0,0) G.out) ϑ rfl Bf) rfl ?_;exact⟨rfl,I.setRow (by omega) _⟩
theorem Af8:Li 127 (bits BinOp.or ϱ):=by
 intro x y w D E G I;go_enter Tryz.func127,Tryz.ntmps127;go_wp2;go_ret;exact⟨rfl,rfl⟩
theorem Af7:Li 126 (bits BinOp.and ϱ):=by
 intro x y w D E G I;go_enter Tryz.func126,Tryz.ntmps126;go_wp2;go_ret;exact⟨rfl,rfl⟩
theorem Af6:Li 159 (bits BinOp.andNot ϱ):=by
 intro x y w D E G I;go_enter Tryz.func159,Tryz.ntmps159;go_wp2;go_ret;exact⟨rfl,rfl⟩
theorem Af5:Li 128 (λx _=>bits BinOp.xor ϱ ϱ.max x):=by
 intro x y w D E G I;go_enter Tryz.func128,Tryz.ntmps128;go_wp2;all_goals go_ret
 all_goals exact⟨rfl,rfl⟩
theorem N5 (a b:Cls) (w:Λ) :
  ϓ Ζ 93 #[.agg (Ab a),.agg (Ab b)] w λe w'=>e=θ (.agg (Ab (a ||| b)))/\Ext w w':=by
 have G:∀ args w,(callFunc 127 args).run Ζ w=.ok (.enter 127 args) w:=enters_of Tryz.func127 (by kernel_rfl) rfl;have I:=Ag (Ag (ϰ w (Ε (Ab a) 62)) (Ε (Ab b) 62)) (Ε #[.int π 0,.int π 0,.int π 0,.int π 0] 62);have D:=Ag (ϰ (w.alloc (Ε (Ab a) 62)) (Ε (Ab b) 62)) (Ε #[.int π 0,.int π 0,.int π 0,.int π 0] 62);have E:=ϰ ((w.alloc (Ε (Ab a) 62)).alloc (Ε (Ab b) 62)) (Ε #[.int π 0,.int π 0,.int π 0,.int π 0] 62);have U:=(((Θ w).alloc (Ε (Ab a) 62)).alloc (Ε (Ab b) 62)).alloc (Ε #[.int π 0,.int π 0,.int π 0,.int π 0] 62);rw[Ρ] at D;rw[Ρ,Ρ] at E;have HB:=Α D;clear D;have HA:=Α I;have HR:=Α E;clear I E;have J:=λW=>Nb 127 _ Af8 G a b (a ||| b) (λi hi=>Af3 a b i hi) W
 clear G;go_enter Tryz.func93,Tryz.ntmps93;go_wp2_with (first
  | (refine Ο rfl 62 (η 2) rfl _ rfl _ _ _ _ HA.out ϑ rfl Bf ?_)
  | (refine Ο rfl 62 (η 3) rfl _ rfl _ _ _ _ HB.out ϑ rfl Bf ?_)
  | (go_at_call 125;refine (J _).mono ?_;rintro e w' ⟨rfl,M⟩;have T:=Α (M.heap HR.out);clear J)
  | (refine Φ rfl 62 _ _ rfl _ _ rfl rfl _ _ T.out Bf rfl (Eq _) ?_))
 refine ω (v:=.agg (Ab (a ||| b))) (Ϲ rfl _ _ _ _ _ _ _ rfl (μ w' _ _ (Ab (a ||| b)) 62 (0,0) T.out) ϑ rfl Bf) rfl ?_;exact⟨rfl,(U.trans M).setRow (by omega) _⟩
theorem Qa (a b:Cls) (w:Λ) :
  ϓ Ζ 92 #[.agg (Ab a),.agg (Ab b)] w λe w'=>e=θ (.agg (Ab (a &&& b)))/\Ext w w':=by
 have G:∀ args w,(callFunc 126 args).run Ζ w=.ok (.enter 126 args) w:=enters_of Tryz.func126 (by kernel_rfl) rfl;have I:=Ag (Ag (ϰ w (Ε (Ab a) 62)) (Ε (Ab b) 62)) (Ε #[.int π 0,.int π 0,.int π 0,.int π 0] 62);have D:=Ag (ϰ (w.alloc (Ε (Ab a) 62)) (Ε (Ab b) 62)) (Ε #[.int π 0,.int π 0,.int π 0,.int π 0] 62);have E:=ϰ ((w.alloc (Ε (Ab a) 62)).alloc (Ε (Ab b) 62)) (Ε #[.int π 0,.int π 0,.int π 0,.int π 0] 62);have U:=(((Θ w).alloc (Ε (Ab a) 62)).alloc (Ε (Ab b) 62)).alloc (Ε #[.int π 0,.int π 0,.int π 0,.int π 0] 62);rw[Ρ] at D;rw[Ρ,Ρ] at E;have HB:=Α D;clear D;have HA:=Α I;have HR:=Α E;clear I E;have J:=λW=>Nb 126 _ Af7 G a b (a &&& b) (λi hi=>Anz a b i hi) W
 clear G;go_enter Tryz.func92,Tryz.ntmps92;go_wp2_with (first
  | (refine Ο rfl 62 (η 2) rfl _ rfl _ _ _ _ HA.out ϑ rfl Bf ?_)
  | (refine Ο rfl 62 (η 3) rfl _ rfl _ _ _ _ HB.out ϑ rfl Bf ?_)
  | (go_at_call 125;refine (J _).mono ?_;rintro e w' ⟨rfl,M⟩;have T:=Α (M.heap HR.out);clear J)
  | (refine Φ rfl 62 _ _ rfl _ _ rfl rfl _ _ T.out Bf rfl (Eq _) ?_))
 refine ω (v:=.agg (Ab (a &&& b))) (Ϲ rfl _ _ _ _ _ _ _ rfl (μ w' _ _ (Ab (a &&& b)) 62 (0,0) T.out) ϑ rfl Bf) rfl ?_;exact⟨rfl,(U.trans M).setRow (by omega) _⟩
theorem Ag3 (a b:Cls) (w:Λ) :
  ϓ Ζ 154 #[.agg (Ab a),.agg (Ab b)] w λe w'=>e=θ (.agg (Ab (a &&& ~~~b)))/\Ext w w':=by
 have G:∀ args w,(callFunc 159 args).run Ζ w=.ok (.enter 159 args) w:=enters_of Tryz.func159 (by kernel_rfl) rfl;have I:=Ag (Ag (ϰ w (Ε (Ab a) 62)) (Ε (Ab b) 62)) (Ε #[.int π 0,.int π 0,.int π 0,.int π 0] 62);have D:=Ag (ϰ (w.alloc (Ε (Ab a) 62)) (Ε (Ab b) 62)) (Ε #[.int π 0,.int π 0,.int π 0,.int π 0] 62);have E:=ϰ ((w.alloc (Ε (Ab a) 62)).alloc (Ε (Ab b) 62)) (Ε #[.int π 0,.int π 0,.int π 0,.int π 0] 62);have U:=(((Θ w).alloc (Ε (Ab a) 62)).alloc (Ε (Ab b) 62)).alloc (Ε #[.int π 0,.int π 0,.int π 0,.int π 0] 62);rw[Ρ] at D;rw[Ρ,Ρ] at E;have HB:=Α D;clear D;have HA:=Α I;have HR:=Α E;clear I E;have J:=λW=>Nb 159 _ Af6 G a b (a &&& ~~~b) (λi hi=>Ag2 a b i hi) W
 clear G;go_enter Tryz.func154,Tryz.ntmps154;go_wp2_with (first
  | (refine Ο rfl 62 (η 2) rfl _ rfl _ _ _ _ HA.out ϑ rfl Bf ?_)
  | (refine Ο rfl 62 (η 3) rfl _ rfl _ _ _ _ HB.out ϑ rfl Bf ?_)
  | (go_at_call 125;refine (J _).mono ?_;rintro e w' ⟨rfl,M⟩;have T:=Α (M.heap HR.out);clear J)
  | (refine Φ rfl 62 _ _ rfl _ _ rfl rfl _ _ T.out Bf rfl (Eq _) ?_))
 refine ω (v:=.agg (Ab (a &&& ~~~b))) (Ϲ rfl _ _ _ _ _ _ _ rfl (μ w' _ _ (Ab (a &&& ~~~b)) 62 (0,0) T.out) ϑ rfl Bf) rfl ?_;exact⟨rfl,(U.trans M).setRow (by omega) _⟩
theorem Pk (a:Cls) (w:Λ) :
  ϓ Ζ 94 #[.agg (Ab a)] w λe w'=>e=θ (.agg (Ab (~~~a)))/\Ext w w':=by
 have E:∀ args w,(callFunc 128 args).run Ζ w=.ok (.enter 128 args) w:=enters_of Tryz.func128 (by kernel_rfl) rfl;have G:=Ag (ϰ w (Ε (Ab a) 62)) (Ε #[.int π 0,.int π 0,.int π 0,.int π 0] 62);have D:=ϰ (w.alloc (Ε (Ab a) 62)) (Ε #[.int π 0,.int π 0,.int π 0,.int π 0] 62);have T:=((Θ w).alloc (Ε (Ab a) 62)).alloc (Ε #[.int π 0,.int π 0,.int π 0,.int π 0] 62);rw[Ρ] at D;have U:=Α G;have HR:=Α D;clear G D;have I:=λW=>Nb 128 _ Af5 E a a (~~~a) (λi hi=>Agg a i hi) W
 clear E;go_enter Tryz.func94,Tryz.ntmps94;go_wp2_with (first
  | (refine Ο rfl 62 (η 1) rfl _ rfl _ _ _ _ U.out ϑ rfl Bf ?_)
  | (go_at_call 125;refine (I _).mono ?_;rintro e w' ⟨rfl,J⟩;have M:=Α (J.heap HR.out);clear I)
  | (refine Φ rfl 62 _ _ rfl _ _ rfl rfl _ _ M.out Bf rfl (Eq _) ?_))
 refine ω (v:=.agg (Ab (~~~a))) (Ϲ rfl _ _ _ _ _ _ _ rfl (μ w' _ _ (Ab (~~~a)) 62 (0,0) M.out) ϑ rfl Bf) rfl ?_;exact⟨rfl,(T.trans J).setRow (by omega) _⟩
theorem An8 (c:Cls) (b:Int) (E:0<=b) (G:b<256) (B:Nat) (t:Á) (w:Λ) (D:w.heap[B]? = Δ (Ε (Ab c) t (0,0))) :
  ϓ Ζ 90 #[.pointer (Δ ⟨B,0,Γ⟩),.int .u8 b] w λe w'=>e=θ (.tuple #[])/\w'=(w.setRow B (Ab (Bp c b))).drew:=by
 have J:=(γ w _ (b / 64).toNat _ _ _ D).trans (F3 c _ (by omega));have M:=Ϸ w _ (b / 64).toNat _ _ D;have ⟨T,U⟩:=Gb c (b / 64).toNat;have I:=Α D;clear D;go_enter Tryz.func90,Tryz.ntmps90;go_wp2;go_region
 all_goals
  go_end0
  rw[Rk c b E G,Ϧ w _ _ _ _ _ _ I.out,Rl c b E G];exact⟨rfl,rfl⟩
def ofL (l:List UInt8):Cls:=l.foldl (λc x=>Bp c (x.toNat:Int)) 0#256
theorem U7 (l:List UInt8) (k:Nat) (h:k<l.length):ofL (l.take (k+1))=Bp (ofL (l.take k)) ((l.getD k 0).toNat:Int):=by
 unfold ofL;rw[List.take_succ_eq_append_getElem h,List.foldl_append];simp[Η,h]
abbrev zA:Array Ν:=#[.int π 0,.int π 0,.int π 0,.int π 0]
theorem F2:Ab 0#256=zA:=by simp[Ab,Aam]
theorem U4 (l:List UInt8) (hl:l.length<=9223372036854775807) (a:Option Addr) (b I aa:Nat) (w:Λ) (ha:0<l.length->a=Δ ⟨b,I,Γ⟩) (_hb:0<l.length->b<w.heap.size)
  (J:∀ i,i<l.length->w.cell? ⟨b,I+i,Γ⟩=Δ (bv (l.getD i 0))) :
  ϓ Ζ 44 #[Β a l.length aa] w λe w'=>e=θ (.agg (Ab (ofL l)))/\Ext w w':=by
 go_enter Tryz.func44,Tryz.ntmps44;go_wp2_with (fail);go_loopw [8] (λi W=>∃ k:Nat,k<=l.length/\i=.int ε k/\Ext w W/\W.heap[w.heap.size]? = Δ (Ε zA 62 (0,0))/\W.heap[w.heap.size+1]? = Δ (Ε (Ab (ofL (l.take k))) 62 (0,0)))
  (λi _=>l.length-(intOf i).toNat)
 case atStart=>
  refine⟨0,by omega,rfl,((Θ w).alloc _).alloc _,Ag (ϰ w _) _,?_⟩;rw[show ofL (l.take 0)=0#256 from rfl,F2];exact Ϗ w _ _
 case round=>
  obtain⟨k,hk,rfl,E,M,T⟩:=hrel;have D:=Α T;have G:=Α M;clear T M;by_cases ab:k<l.length
  ·have cA:=E.cell (J k ab);have HS:=Α (U7 l k (by omega));have hx:=(l.getD k 0).toNat_lt;have e:=ha (by omega);clear ha J;subst e;generalize l.getD k 0=x at *;have U:=Α (An8 (ofL (l.take k)) (x.toNat:Int) (by omega) (by omega) (w.heap.size+1) 62 wr D.out);go_wp2_with (go_at_call 90;refine U.out.mono ?_;rintro e w' ⟨rfl,rfl⟩;clear U);go_roundw
   case rel=>
    refine⟨k+1,by omega,by go_num,(E.setRow (by omega) _).drew,B7 G.out (by omega) _,?_⟩;rw[HS.out];exact μ wr _ _ _ _ _ D.out
   case measure=>simp[intOf];omega
  ·obtain rfl:k=l.length:=by omega
   rw[List.take_of_length_le (by omega)] at D;go_wp2_with (first
    | (refine Ο rfl 62 _ rfl _ rfl _ _ _ _ D.out ϑ rfl Bf ?_)
    | (refine Φ rfl 62 _ _ rfl _ _ rfl rfl _ _ G.out Bf rfl (Eq _) ?_))
   refine ω (v:=.agg (Ab (ofL l))) (Ϲ rfl _ _ _ _ _ _ _ rfl (μ wr _ _ (Ab (ofL l)) 62 (0,0) G.out) ϑ rfl Bf) rfl ?_;exact⟨rfl,E.setRow (ν _) _⟩
theorem U6 (l:List UInt8) (v:Ν) (w:Λ) (h:By w v l):ϓ Ζ 44 #[v] w λe w'=>e=θ (.agg (Ab (ofL l)))/\Ext w w':=by
 obtain⟨J,⟨hn,a,D,rfl⟩|⟨hn,b,E,D,rfl,G,I⟩⟩:=h
 ·have:=U4 l (by omega) a 0 0 D w (by omega) (by omega) (λi hi=>by omega)
  rwa [hn] at this
 ·exact U4 l (by omega) (Δ ⟨b,E,Γ⟩) b E D w (λ_=>rfl) (λ_=>G) (λi hi=>I i (by omega))
open Go
section
variable {P:Program} {ops:Array Oper} {md:Region.Mode} {C:World->Prop}
def Kv (P:Program) (md:Region.Mode) (ops:Array ϳ) (C:Λ->Prop) (n:Nat) (L:Array Bool->ú->Prop):Nat->Array Bool->ú->Prop
 | 0,listed,a=>L listed a
 | f+1,listed,a=>
  É md ops listed≠[]/\∀ i∈É md ops listed,i<n/\qOp P ops C i (Kv P md ops C n L f (listed.setIfInBounds i Ξ)) a
theorem Anv {n g:Nat} {L:Array Bool->ú->Prop} {Q':Exit->ú->Λ->Prop} (E:∀ listed a w,C w->L listed a->wpAny P md ops Q' g listed a w) :
  ∀ (f:Nat) (listed:Array Bool) (a:ú) (w:Λ),C w->Kv P md ops C n L f listed a->wpAny P md ops Q' (f+g) listed a w:=by
 intro f;induction f with
 | zero=>intro listed a w D h;rw[é];exact E _ _ _ D h
 | succ f G=>
  intro listed a w D h;rw[show f+1+g=(f+g)+1 by omega];exact⟨λI=>absurd I h.1,λi hi=>wpOp_of_qOp D (λJ w' M T=>G _ J w' M T) (h.2 i hi).2⟩
theorem Ajr {n i:Nat} {oi:ϳ} {v:Ν} {L:Array Bool->ú->Prop} (hi:ops[i]? = Δ oi) (U:∀ (j:Nat) (o:ϳ) cs b,ops[j]? = Δ o->o.op≠.select cs b)
  (hs:Region.sinkB md ops n=Ξ) (hc:Region.chainB md ops n=Ξ) (hn:n<ops.size) (ab:i<n)
  (aj:∀ listed a,L listed a->∀ j∈É md ops listed,n<=j) :
  ∀ (f:Nat) (listed:Array Bool) (a:ú),HeadInv md ops n listed->
   (∀ j oj,ops[j]? = Δ oj->j≠i->listed.getD j Ξ=Τ->(∀ e∈oj.after,Region.binds md e=Ξ->e.on≠i)->oi.apart ops oj=Ξ)->
   i∈É md ops listed->YieldsIn P ops C oi v a->
   Kv P md ops C n L f (listed.setIfInBounds i Ξ) (a.put oi.dst v)->Kv P md ops C n L (f+1) listed a:=by
 intro f;induction f with
 | zero=>
  intro listed a I _ D J H;refine⟨λh=>(by rw[h] at D;cases D),λj G=>?_⟩;have M:j<n:=Nat.lt_of_not_le λh=>tail_waits hs hc hn I _ i rfl ab (mem_ready.1 D).1 j h G
  refine⟨M,?_⟩;by_cases E:j=i
  ·subst E;exact J.qOp hi H
  ·exact absurd (aj _ _ H j (ready_mono G E)) (by omega)
 | succ f ih=>
  intro listed a I ad D J H;have ae:=(mem_ready.1 D).1;refine⟨λh=>(by rw[h] at D;cases D),λj G=>?_⟩;have M:j<n:=Nat.lt_of_not_le λh=>tail_waits hs hc hn I _ i rfl ab ae j h G
  refine⟨M,?_⟩;by_cases E:j=i
  ·subst E;exact J.qOp hi H
  ·obtain⟨af,oj,T,al⟩:=mem_ready.1 G;have an:∀ e∈oj.after,Region.binds md e=Ξ->e.on≠i:=λe he hb aq=>by
    have h1:=al e he hb;rw[aq,getD_both ae] at h1;cases h1
   have h2:=qOp_put T (ad j oj T E af an) (λcs b=>U i oi cs b hi) (λcs b=>U j oj cs b T) J (H.2 j (ready_mono G E)).2;refine qOp_mono (λa' h3=>ih (listed.setIfInBounds j Ξ) a' (I.set G M) (λk ok hk ax ay az=>?_) (ready_mono D (Ne.symm E)) h3.1 ?_) h2
   ·refine ad k ok hk ax ?_ az;by_cases ai:j=k
    ·subst ai;exact af
    ·rwa [getD_set_ne Ξ ai] at ay
   ·rw[Array.setIfInBounds_comm _ _ E];exact h3.2
theorem Ajq {n g:Nat} {I:ú->Prop} (ad:Region.noSelect ops=Ξ) (hs:Region.sinkB md ops n=Ξ) (hc:Region.chainB md ops n=Ξ) (hn:n<ops.size) :
  ∀ (l:List ϳ) (k:Nat) (listed:Array Bool) (a:ú),(∀ j,j<l.length->l[j]? = ops[k+j]?)->k+l.length=n->HeadInv md ops n listed->
  Region.lexHead md ops g l.length k listed=Ξ->wpQuiet P ops C I l a->
  Kv P md ops C n (λJ M=>Region.seqB md ops g n J=Ξ/\I M) l.length listed a:=by
 intro l;induction l with
 | nil=>
  intro k listed a _ E _ D h;obtain rfl:k=n:=by simpa using E
  exact⟨by simpa [Region.lexHead] using D,h⟩
 | cons o l ih=>
  intro k listed a T E U D h;have G:ops[k]? = Δ o:=by simpa using (T 0 (by simp)).symm
  simp only[ϲ,Region.lexHead,Ϝ] at D;have aa:k<n:=by simp only[ϲ] at E;omega
  have ab:k∈É md ops listed:=by simpa using D.1.1
  have ag:qOp P ops C k (wpQuiet P ops C I l) a:=by unfold qOp;simp only[G];exact h
  obtain⟨v,hy,hK⟩:=yieldsIn_of_qOp G ag;exact Ajr G (Region.noSelect_spec ad) hs hc hn aa (λJ M hL=>seqB_ready hL.1) l.length listed a U (Region.free_spec G D.1.2) ab hy
   (ih (k+1) _ _ (λj hj=>by have:=T (j+1) (by simp;omega);simpa [Nat.add_assoc,Nat.add_comm 1 j] using this) (by simp only[ϲ] at E;omega) (U.set ab aa) D.2 hK)
theorem Z4 {id:Nat} {Q:Exit->ú->Λ->Prop} {a:ú} {w:Λ} {l:List ϳ} (n:Nat) (hm:P.follows .mixedOrders=Ξ) (G:Region.lexTailB .any l.toArray n=Ξ) (U:C { w with drawn:=w.drawn+1 })
  (h:wpQuiet P l.toArray C (λE=>∀ w',C w'->wpList P l.toArray Q (l.drop n) E w') (l.take n) a):(Code.region id l.toArray Ξ).wp P Q a w:=by
 simp only[Region.lexTailB,Ϝ,decide_eq_true_eq] at G;obtain⟨⟨⟨⟨aa,hn⟩,hs⟩,hc⟩,ad⟩:=G;have aj:n<l.length:=by simpa using hn
 have D:(l.take n).length=n:=by simp;omega
 have I:(l.drop n).length=l.toArray.size-n:=by simp
 have ae:HeadInv .any l.toArray n (Array.replicate l.toArray.size Τ):=
  ⟨by simp,λj oj _ J=>(by rw[ϫ] at J;cases J),λt _ ht=>getD_in (by simpa using ht) (ϫ _ _)⟩
 have H:=Ajq (md:=.any) (g:=l.toArray.size-n) aa hs hc hn (l.take n) 0 _ a (λj M=>by
  have ag:j<n:=by rw[D] at M;exact M
  simp[ag]) (by simpa using D) ae (by rw[D];exact ad) h
 refine wp_region_any hm ?_;have:=Anv (Q':=Q) (g:=l.toArray.size-n) (λlisted E w' ai T=>by
  have:=wpAny_of_seq (md:=.any) (Q':=Q) (l.drop n) n listed E w' (λj=>by simp[List.getElem?_drop]) (by rw[I];exact T.1) (T.2 w' ai)
  rwa [I] at this) _ _ _ _ U H
 rw[D,show n+(l.toArray.size-n)=l.toArray.size by omega] at this;exact this
theorem Z9 {Q:Exit->ú->Λ->Prop} (r:List ϳ):∀ (l:List ϳ) (a:ú) (w:Λ),C w->wpQuiet P ops C (λE=>∀ w',C w'->wpList P ops Q r E w') l a->wpList P ops Q (l++r) a w:=by
 intro l;induction l with
 | nil=>intro a w D h;exact h w D
 | cons o l I=>
  intro a w D h;show if _ then _ else _
  unfold wpQuiet at h;split at h
  ·rename_i G
   rw[if_pos G];exact .inl (ϳ.wp_of_quiet D (λE w' J M=>I E w' J M) h)
  ·rename_i G
   rw[if_neg G];exact I _ _ D h
theorem Z3 {id:Nat} {Q:Exit->ú->Λ->Prop} {a:ú} {w:Λ} {l:List ϳ} (n:Nat) (D:C w)
  (h:wpQuiet P l.toArray C (λE=>∀ w',C w'->wpList P l.toArray Q (l.drop n) E w') (l.take n) a):(Code.region id l.toArray Τ).wp P Q a w:=by
 refine wp_region_lit ?_;have:=Z9 (l.drop n) (l.take n) a w D h
 rwa [List.take_append_drop] at this
end
structure EW (w:Λ) where
 W:Λ
 ext:Ext w W
instance (w:Λ):Nonempty (EW w):=⟨⟨w,Θ w⟩⟩
section
variable {P:Program}
theorem Dx {id:Nat} {Q:Exit->ú->Λ->Prop} {a:ú} {w:Λ} {l:List ϳ} (hm:P.follows .mixedOrders=Ξ) (D:Region.lexB .any l.toArray=Ξ)
  (h:wpQuiet P l.toArray (λW=>∃ e:EW w,W=e.W) (λE=>∀ w',(∃ e:EW w,w'=e.W)->Q .normal E w') l a):(Code.region id l.toArray Ξ).wp P Q a w:=
 wp_region_quiet (C:=λW=>∃ e:EW w,W=e.W) hm D ⟨⟨_,(Θ w).drawn1⟩,rfl⟩ (by simpa using h)
theorem Ad2 {id:Nat} {Q:Exit->ú->Λ->Prop} {a:ú} {w:Λ} {l:List ϳ} (n:Nat) (hm:P.follows .mixedOrders=Ξ) (D:Region.lexTailB .any l.toArray n=Ξ)
  (h:wpQuiet P l.toArray (λW=>∃ e:EW w,W=e.W) (λE=>∀ w',(∃ e:EW w,w'=e.W)->wpList P l.toArray Q (l.drop n) E w') (l.take n) a):(Code.region id l.toArray Ξ).wp P Q a w:=
 Z4 (C:=λW=>∃ e:EW w,W=e.W) n hm D ⟨⟨_,(Θ w).drawn1⟩,rfl⟩ h
theorem T9 {id:Nat} {Q:Exit->ú->Λ->Prop} {a:ú} {w:Λ} {l:List ϳ} (n:Nat)
  (h:wpQuiet P l.toArray (λW=>∃ e:EW w,W=e.W) (λD=>∀ w',(∃ e:EW w,w'=e.W)->wpList P l.toArray Q (l.drop n) D w') (l.take n) a):(Code.region id l.toArray Τ).wp P Q a w:=
 Z3 (C:=λW=>∃ e:EW w,W=e.W) n ⟨⟨_,Θ w⟩,rfl⟩ h
theorem F7 {f:FuncId} {args:Array Ν} {w:Λ} {D:EW w} {v:Ν} (h:ϓ P f args D.W λe w'=>e=θ v/\Ext D.W w') :
  ϓ P f args D.W λe E=>e=θ v/\∃ G:EW w,E=G.W:=
 h.mono λ_ w' ⟨he,I⟩=>⟨he,⟨w',D.ext.trans I⟩,rfl⟩
end
theorem Hn {w:Λ} {B:Nat} {c:Cls} {t:Á} {fr:Nat × Nat} (h:w.heap[B]? = Δ (Ε (Ab c) t fr)) :
  (∀ e:EW w,e.W.cell? ⟨B,0,Γ⟩=Δ (.int π (wd c 0)))/\(∀ e:EW w,e.W.cell? ⟨B,1,Γ⟩=Δ (.int π (wd c 1)))/\
  (∀ e:EW w,e.W.cell? ⟨B,2,Γ⟩=Δ (.int π (wd c 2)))/\(∀ e:EW w,e.W.cell? ⟨B,3,Γ⟩=Δ (.int π (wd c 3))):=
 ⟨λe=>(γ e.W _ 0 _ _ _ (e.ext.heap h)).trans rfl,λe=>(γ e.W _ 1 _ _ _ (e.ext.heap h)).trans rfl,
  λe=>(γ e.W _ 2 _ _ _ (e.ext.heap h)).trans rfl,λe=>(γ e.W _ 3 _ _ _ (e.ext.heap h)).trans rfl⟩
theorem Be {w:Λ} {p:Addr} {v:Ν} (h:w.cell? p=Δ v):∀ e:EW w,e.W.cell? p=Δ v:=λe=>e.ext.cell h
theorem Aby (x:Nat) (h:x<18446744073709551616) (D:st1 x<18446744073709551616) :
  ϱ.wrap (bits BinOp.and ϱ ((x:Int) / 2) 6148914691236517205+bits BinOp.and ϱ (x:Int) 6148914691236517205)=(st1 x:Int):=by
 rw[show ((x:Int) / 2)=((x / 2:Nat):Int) by omega,show (6148914691236517205:Int)=((6148914691236517205:Nat):Int) from rfl,u64_and_nat _ _ (by omega) (by omega),u64_and_nat _ _ h (by omega)];rw[IntKind.wrap_u64];unfold st1 at *;omega
theorem Abx (x:Nat) (h:x<18446744073709551616) (D:st2 x<18446744073709551616) :
  ϱ.wrap (bits BinOp.and ϱ ((x:Int) / 4) 3689348814741910323+bits BinOp.and ϱ (x:Int) 3689348814741910323)=(st2 x:Int):=by
 rw[show ((x:Int) / 4)=((x / 4:Nat):Int) by omega,show (3689348814741910323:Int)=((3689348814741910323:Nat):Int) from rfl,u64_and_nat _ _ (by omega) (by omega),u64_and_nat _ _ h (by omega)];rw[IntKind.wrap_u64];unfold st2 at *;omega
theorem Abw (x:Nat) (h:x<=4919131752989213764):bits BinOp.and ϱ ((x:Int) / 16+(x:Int)) 1085102592571150095=(st3 x:Int):=by
 rw[show ((x:Int) / 16+(x:Int))=((x / 16+x:Nat):Int) by omega,show (1085102592571150095:Int)=((1085102592571150095:Nat):Int) from rfl,u64_and_nat _ _ (by omega) (by omega)];rfl
theorem Abv (x:Nat) (h:x<9223372036854775808):bits BinOp.and þ (x:Int) 127=((x % 128:Nat):Int):=by
 show þ.wrap ((BitVec.ofInt 64 (x:Int) &&& BitVec.ofInt 64 ((127:Nat):Int)).toNat:Int)=_;rw[BitVec.toNat_and,ofInt_u64 x (by omega),ofInt_u64 127 (by omega),show (127:Nat)=2 ^ 7-1 from rfl,Nat.and_two_pow_sub_one_eq_mod];exact IntWalk.i64_in _ ⟨by omega,by omega⟩
theorem Aga (x:Nat) (M:x<18446744073709551616) (w:Λ) :
  ϓ Ζ 135 #[.int π (x:Int)] w λe w'=>e=θ (.int ε (cnt x.testBit 64))/\w'=w:=by
 obtain⟨T,h2,h3,U⟩:=Abu x M;have H4:=Α U;clear U;go_enter Tryz.func135,Tryz.ntmps135;go_upto_region 1 with (fail)
 go_cut [0] (λv W=>v=.int π (st1 x:Int)/\W=w)
 case first=>
  go_wp2;go_meet
  exact⟨by rw[Aby x M T],rfl⟩
 case rest=>
 obtain⟨rfl,rfl⟩:=hcut;generalize st1 x=D at *;go_upto_region 2 with (fail)
 go_cut [0] (λv W=>v=.int π (st2 D:Int)/\W=wc)
 case first=>
  go_wp2;go_meet
  exact⟨by rw[Abx D T (by omega)],rfl⟩
 case rest=>
 obtain⟨rfl,rfl⟩:=hcut;generalize st2 D=E at *;go_upto_region 3 with (fail)
 go_cut [0] (λv W=>v=.int π (st3 E:Int)/\W=wc)
 case first=>
  go_wp2;go_meet
  exact⟨by rw[Abw E h2],rfl⟩
 case rest=>
 obtain⟨rfl,rfl⟩:=hcut;generalize st3 E=G at *;go_upto_region 4 with (fail)
 go_cut [0] (λv W=>v=.int π (st4 G:Int)/\W=wc)
 case first=>
  go_wp2;go_meet
  exact⟨by unfold st4;go_num,rfl⟩
 case rest=>
 obtain⟨rfl,rfl⟩:=hcut;have h5:st4 G<=1157442765409226768:=by unfold st4;omega
 generalize st4 G=I at *;go_upto_region 5 with (fail)
 go_cut [0] (λv W=>v=.int π (st5 I:Int)/\W=wc)
 case first=>
  go_wp2;go_meet
  exact⟨by unfold st5;go_num,rfl⟩
 case rest=>
 obtain⟨rfl,rfl⟩:=hcut;have h6:st5 I<=1157492765409226768:=by unfold st5;omega
 generalize st5 I=J at *;go_upto_region 6 with (fail)
 go_cut [0] (λv W=>v=.int π (st6 J:Int)/\W=wc)
 case first=>
  go_wp2;go_meet
  exact⟨by unfold st6;go_num,rfl⟩
 case rest=>
 obtain⟨rfl,rfl⟩:=hcut;have h7:st6 J<=1157500000000000000:=by unfold st6;omega
 generalize st6 J=x6 at *;go_wp2;go_ret;exact⟨Ov (by rw[Abv x6 (by omega),H4.out]),rfl⟩
def sz (c:Cls):Nat:=cnt c.getLsbD 256
theorem S1 (c:Cls):sz c<=256:=Di _ _
theorem Amu (c:Cls) (k:Nat):(Al c k).length=cnt c.getLsbD k:=by
 induction k with
 | zero=>rfl
 | succ k D=>simp only[Al,cnt];split<;>simp[D]
theorem Alw (c:Cls) (k:Nat):cnt c.getLsbD (64*(k+1))=cnt c.getLsbD (64*k)+cnt (wn c k).testBit 64:=by
 rw[show 64*(k+1)=64*k+64 by omega,X5]
 congr 1
 exact Q3 _ _ _ λi hi=>by rw[Cn];simp[hi]
theorem Af9 (c:Cls) (k:Nat) (w:Λ):ϓ Ζ 135 #[.int π (wd c k)] w λe w'=>e=θ (.int ε (cnt (wn c k).testBit 64))/\w'=w:=
 Aga (wn c k) (D4 c k) w
theorem Wn (c:Cls) (k:Nat) (h:k<4) (w:Λ):(Instr.index 62 (.agg (Ab c)) (.int ε (k:Int))).run Ζ w=.ok (.int π (wd c k)) w:=by
 match k,h with
 | 0,_=>exact (by kernel_rfl:(Instr.index 62 (.agg (Ab c)) (.int ε ((0:Nat):Int))).run Ζ w=.ok (.int π (wd c 0)) w)
 | 1,_=>exact (by kernel_rfl:(Instr.index 62 (.agg (Ab c)) (.int ε ((1:Nat):Int))).run Ζ w=.ok (.int π (wd c 1)) w)
 | 2,_=>exact (by kernel_rfl:(Instr.index 62 (.agg (Ab c)) (.int ε ((2:Nat):Int))).run Ζ w=.ok (.int π (wd c 2)) w)
 | 3,_=>exact (by kernel_rfl:(Instr.index 62 (.agg (Ab c)) (.int ε ((3:Nat):Int))).run Ζ w=.ok (.int π (wd c 3)) w)
theorem Tl (c:Cls) (w:Λ) :
  ϓ Ζ 105 #[.agg (Ab c)] w λe w'=>e=θ (.int ε (sz c))/\Ext w w':=by
 have D:=ϰ w (Ε (Ab c) 62);have E:=(Θ w).alloc (Ε (Ab c) 62);have G:=Α D;clear D;go_enter Tryz.func105,Tryz.ntmps105;go_wp2_with (refine Ο rfl 62 (η 1) rfl _ rfl _ _ _ _ G.out ϑ rfl Bf ?_);generalize w.alloc (Ε (Ab c) 62)=w1 at *;go_loop [3,7] (λn i=>∃ k:Nat,k<=4/\i=.int ε k/\n=.int ε (cnt c.getLsbD (64*k):Nat)) (λ_ i=>4-(intOf i).toNat)
 case atStart=>exact⟨0,by omega,rfl,rfl⟩
 case round=>
  obtain⟨k,T,rfl,rfl⟩:=hrel;by_cases I:k<4
  ·have U:=Wn c k I;have J:=λW=>Α (Af9 c k W)
   have hb:=Di c.getLsbD (64*k);have ab:=Di (wn c k).testBit 64;have M:=Α (Alw c k);generalize cnt (wn c k).testBit 64=y at *;generalize cnt c.getLsbD (64*k)=z at *;go_wp2_with (go_at_call 135;refine (J _).out.mono ?_;rintro e w' ⟨rfl,rfl⟩);go_round
   case rel=>exact⟨k+1,by omega,by go_num,by rw[M.out];go_num⟩
   case measure=>simp[intOf];omega
  ·obtain rfl:k=4:=by omega
   go_wp2;go_ret;exact⟨rfl,E⟩
def D5 (k c:Cls):List Cls:=[c &&& k,c &&& ~~~k].filter (· != 0#256)
def Dd (k:Cls) (L:List Cls):List Cls:=L.flatMap (D5 k)
def allC:Cls:= ~~~(0#256)
def Ek (l:List Cls):List Cls:=l.foldl (λL k=>Dd k L) [allC]
theorem Alx (p q r:Nat->Bool) (n:Nat) (h:∀ k,k<n->(p k).toNat=(q k).toNat+(r k).toNat):cnt p n=cnt q n+cnt r n:=by
 induction n with
 | zero=>rfl
 | succ n D=>
  have E:=D (λk G=>h k (by omega));have I:=h n (by omega);simp only[cnt];cases J:p n<;>cases M:q n<;>cases T:r n<;>simp_all<;>omega
theorem Abe (k c:Cls):sz c=sz (c &&& k)+sz (c &&& ~~~k):=by
 unfold sz;refine Alx _ _ _ 256 λj D=>?_
 simp only[ç,BitVec.getLsbD_not,D,decide_true,Ì];cases c.getLsbD j<;>cases k.getLsbD j<;>rfl
theorem Alv {p:Nat->Bool} {n:Nat} (h:cnt p n=0):∀ k,k<n->p k=Τ:=by
 induction n with
 | zero=>intro k D;omega
 | succ n E=>
  simp only[cnt] at h;intro k D;by_cases G:k=n
  ·subst G;cases I:p k
   ·rfl
   ·rw[I] at h;simp at h
  ·exact E (by omega) k (by omega)
theorem S0:sz 0#256=0:=by
 unfold sz;have:∀ n,cnt (0#256).getLsbD n=0:=λn=>by
  induction n with
  | zero=>rfl
  | succ n D=>simp[cnt,D]
 exact this 256
theorem Lu (c:Cls):sz c=0↔c=0#256:=by
 refine⟨λh=>?_,λh=>by rw[h];exact S0⟩;apply BitVec.eq_of_getLsbD_eq;intro i hi;rw[Alv h i hi];simp
theorem Abf:sz allC=256:=by
 unfold sz allC;have:∀ n,n<=256->cnt (~~~(0#256)).getLsbD n=n:=λn=>by
  induction n with
  | zero=>intro _;rfl
  | succ n D=>
   intro hn;have:=D (by omega);simp only[cnt,this,BitVec.getLsbD_not,õ];simp;omega
 exact this 256 (ν _)
def szs (L:List Cls):Nat:=(L.map sz).sum
theorem Oh (k c:Cls):D5 k c=(if c &&& k=0#256 then [] else [c &&& k])++(if c &&& ~~~k=0#256 then [] else [c &&& ~~~k]):=by
 unfold D5;generalize c &&& k=x;generalize c &&& ~~~k=y;by_cases D:x=0#256<;>by_cases E:y=0#256<;>simp[D,E]
theorem Abd (k c:Cls):szs (D5 k c)=sz c:=by
 rw[Abe k c];rw[Oh];unfold szs;generalize c &&& k=x;generalize c &&& ~~~k=y;by_cases D:x=0#256<;>by_cases E:y=0#256<;>simp[D,E,S0]
theorem Sz (L M:List Cls):szs (L++M)=szs L+szs M:=by simp[szs]
theorem Abc (k:Cls) (L:List Cls):szs (Dd k L)=szs L:=by
 induction L with
 | nil=>rfl
 | cons c L D=>
  show szs (D5 k c++Dd k L)=szs ([c]++L);rw[Sz,Sz,Abd,D];simp[szs]
theorem Ab3 (k c:Cls):∀ x∈D5 k c,x≠0#256:=by
 intro x D
 simpa using (List.mem_filter.1 D).2
theorem Tf (k:Cls) (L:List Cls):∀ x∈Dd k L,x≠0#256:=by
 intro x D;obtain⟨c,_,E⟩:=List.mem_flatMap.1 D;exact Ab3 k c x E
def Full (L:List Cls):Prop:=szs L=256/\∀ c∈L,c≠0#256
theorem full_one:Full [allC]:=⟨by simp[szs,Abf],λc D=>by simp at D;subst D;decide⟩
theorem Full.split {L:List Cls} (h:Full L) (k:Cls):Full (Dd k L):=⟨by rw[Abc,h.1],Tf k L⟩
theorem Aim (L:List Cls) (h:∀ c∈L,c≠0#256):L.length<=szs L:=by
 induction L with
 | nil=>simp
 | cons c L D=>
  have G:=D (λx E=>h x (by simp[E]));have I:sz c≠0:=λe=>h c (by simp) ((Lu c).1 e)
  simp only[szs,Æ,List.sum_cons,ϲ] at *;omega
theorem Full.len {L:List Cls} (h:Full L):L.length<=256:=by rw[<-h.1];exact Aim L h.2
theorem Full.pos {L:List Cls} (h:Full L):0<L.length:=by
 cases L with
 | nil=>exact absurd h.1 (by simp[szs])
 | cons=>simp
theorem W4 (l:List Cls):Full (Ek l):=by
 have:∀ (l:List Cls) (L:List Cls),Full L->Full (l.foldl (λL k=>Dd k L) L):=λl=>by
  induction l with
  | nil=>intro L h;exact h
  | cons k l D=>intro L h;exact D _ (h.split k)
 exact this l _ full_one
theorem Amd (l:List Cls) (k:Nat) (h:k<l.length):Ek (l.take (k+1))=Dd (l.getD k 0#256) (Ek (l.take k)):=by
 have e:l.take (k+1)=l.take k++[l.getD k 0#256]:=by
  rw[List.take_add_one];congr 1;simp[Μ h]
 rw[e];simp[Ek,List.foldl_append]
theorem Abz (k:Cls) (L:List Cls) (j:Nat) (h:j<L.length):Dd k (L.take (j+1))=Dd k (L.take j)++D5 k (L.getD j 0#256):=by
 have e:L.take (j+1)=L.take j++[L.getD j 0#256]:=by
  rw[List.take_add_one];congr 1;simp[Μ h]
 rw[e];simp[Dd,List.flatMap_append]
theorem Ab4 (k c:Cls):(D5 k c).length<=2:=by
 rw[Oh];split<;>split<;>simp
theorem Ab0 (k:Cls) (L:List Cls):(Dd k L).length<=2*L.length:=by
 induction L with
 | nil=>simp[Dd]
 | cons c L D=>
  have:=Ab4 k c;show (D5 k c++Dd k L).length<=_;simp only[Υ,ϲ];omega
theorem Aau (k:Nat) (h:k<256):((χ k).toNat:Int)=(k:Int):=by
 simp
 omega
theorem Qd:(Ζ.info? 5).map (λi=>(i.zero,i.size,i.bytes))=Δ (Δ (.int .u8 0),1,1):=by kernel_rfl
set_option maxRecDepth 100000 in
theorem Aeb (c:Cls) (w:Λ) :
  ϓ Ζ 106 #[.agg (Ab c)] w λe w'=>∃ v,e=θ v/\By w' v (Al c 256)/\Ext w w':=by
 obtain⟨i0,hi,ak,al,an⟩:=info_parts Qd;go_enter Tryz.func106,Tryz.ntmps106;go_wp2_with (fail);go_loopw [3,4] (λv i W=>∃ k:Nat,k<=256/\i=.int ε k/\Ext w W/\W.heap[w.heap.size]? = Δ (Ε (Ab c) 62 (0,0))/\
   W.ownsRow (w.heap.size+1) 5 1 v (Al c k).length ((Al c k).map bv))
  (λ_ i _=>256-(intOf i).toNat)
 case atStart=>
  refine⟨0,by omega,rfl,((Θ w).alloc _).alloc _,Ag (ϰ w _) _,?_⟩;have h:=Λ.ownsRow_made (base:=w.heap.size+1) (e:=5) (size:=1) (w.alloc (Ε (Ab c) 62)) #[] 0 (by simp) (by unfold maxLen;omega) rfl
  rwa [Ρ] at h
 case round=>
  obtain⟨k,hk,rfl,I,U,D⟩:=hrel;have J:=Α U;clear U;by_cases ao:k<256
  ·go_upto_region 5 with (fail)
   have hw:IntKind.u8.wrap (k:Int)=k:=IntWalk.u8_in _ ⟨by omega,by omega⟩;have aa:=λ(W:Λ)=>Α (Oy c (k:Int) (by omega) (by omega) W)
   obtain⟨a0,a1,a2,a3⟩:=Hn J.out;have aw:=La c k;have E:Hid (Al c (k+1)=if Aw c (k:Int) then Al c k++[χ k] else Al c k):=Α rfl;generalize Aw c (k:Int)=ma at *;go_cut [13] (λv W=>v=.bool ma/\∃ e:EW wr,W=e.W)
   case first=>
    refine T9 4 ?_;simp only[List.take_succ_cons,List.drop_succ_cons,List.take_nil,List.drop_nil];iterate 4 (refine è (λK G=>?_);go_simp;first|(refine G _ ?_;clear G K)|(apply Exists.intro;refine⟨λ_=>?_,G _ ?_⟩;(with_reducible exact F7 (aa _).out);clear G K))
    refine wpQuiet_nil ?_;rintro _ ⟨e,rfl⟩;refine wpList_nil ?_;go_wp2;go_meet
    exact⟨rfl,e,rfl⟩
   case rest=>
    obtain⟨rfl,e,rfl⟩:=hcut;have ad:=Α (e.ext.heap J.out);have M:=I.trans e.ext;have D:=Ah D e.ext;clear a0 a1 a2 a3 aa J I;generalize e.W=w1 at *;cases ma
    ·have E:=E.out;simp only[Bool.false_eq_true,if_false] at E;rw[<-E] at D;clear E;go_wp2;go_roundw
     case rel=>exact⟨k+1,by omega,by go_num,M,ad.out,D⟩
     case measure=>simp[intOf];omega
    ·have T:=E.out;simp only[if_true] at T;have ax:=Α T;clear T E;have hb:=M.size;have hx:(k:Int)=((χ k).toNat:Int):=(Aau k ao).symm;have HX:=Α hx;clear hx;go_wp2_with (at_builtin;refine wpList_append_own _ rfl _ _ 22 rfl (w.heap.size+1) 5 i0 (.int .u8 0) 1 1 Tryz.underlying22 hi ak al an rfl (by decide) _ _ _ rfl (D.alloc _) ⟨w1.heap.size,0,Γ⟩ 1 1 [.int .u8 (k:Int)] rfl rfl (cell_one_new _ _ _) (by simp[ό]) (by unfold maxLen;omega) (by omega) (by simp;omega) ?_);intro v' w2 ag ah _;have az:Ext w w2:=(M.alloc _).grown ah (λk e=>by have:=(D.lt k e).1;omega);have ai:w2.heap[w.heap.size]? = Δ (Ε (Ab c) 62 (0,0)):=(ah.block _ (by simp;omega) (λe=>by have:=(D.lt _ e.symm).1;omega)).trans (Ag ad.out _);have a6:=Α ai;clear ai D;go_wp2;go_roundw
     case rel=>exact⟨k+1,by omega,by go_num,az,a6.out,by rw[ax.out,Υ,List.map_append];rw[HX.out] at ag;exact ag⟩
     case measure=>simp[intOf];omega
  ·obtain rfl:k=256:=by omega
   have aw:=La c 256;go_wp2;go_ret;exact⟨_,rfl,By.of_owns D (by omega),I⟩
theorem Ada (c:Cls) (w:Λ) :
  ϓ Ζ 63 #[.agg (Ab c)] w λe w'=>e=θ (.int ε (Al c 256).length)/\Ext w w':=by
 have D:=ϰ w (Ε (Ab c) 62);have E:=(Θ w).alloc (Ε (Ab c) 62);have G:=Α D;clear D;go_enter Tryz.func63,Tryz.ntmps63;go_wp2_with (first
  | (refine Ο rfl 62 (η 1) rfl _ rfl _ _ _ _ G.out ϑ rfl Bf ?_)
  | (go_at_call 106;refine (Aeb c _).mono ?_;rintro e w' ⟨v,rfl,I,J⟩;obtain⟨a,M,hv⟩:=By.len I;rw[hv]))
 go_ret;exact⟨rfl,E.trans J⟩
def Bv (l:List UInt8):Int:=match l with|[]=>-1|x::_=>(x.toNat:Int)
def Cs (W:Λ) (v:Ν) (l:List Cls):Prop:=Sl W v 4 l.length (λi=>.int π (wd (l.getD (i / 4) 0#256) (i % 4)))
theorem Cs.ext {W W':Λ} {v:Ν} {l:List Cls} (h:Cs W v l) (D:Ext W W'):Cs W' v l:=Sl.ext h D
theorem Ji {W:Λ} {b off:Nat} {l:List Cls} (h:∀ i,i<l.length*4->W.cell? ⟨b,off+i,Γ⟩=Δ (.int π (wd (l.getD (i / 4) 0#256) (i % 4)))) (k:Nat) (D:k<l.length) :
  (∀ e:EW W,e.W.cell? ⟨b,off+k*4,Γ⟩=Δ (.int π (wd (l.getD k 0#256) 0)))/\(∀ e:EW W,e.W.cell? ⟨b,off+k*4+1,Γ⟩=Δ (.int π (wd (l.getD k 0#256) 1)))/\
  (∀ e:EW W,e.W.cell? ⟨b,off+k*4+2,Γ⟩=Δ (.int π (wd (l.getD k 0#256) 2)))/\(∀ e:EW W,e.W.cell? ⟨b,off+k*4+3,Γ⟩=Δ (.int π (wd (l.getD k 0#256) 3))):=by
 have H:∀ j,j<4->W.cell? ⟨b,off+k*4+j,Γ⟩=Δ (.int π (wd (l.getD k 0#256) j)):=λj E=>by
  have:=h (k*4+j) (by omega)
  rwa [show (k*4+j) / 4=k by omega,show (k*4+j) % 4=j by omega,<-Nat.add_assoc] at this
 exact⟨Be (H 0 (by omega)),Be (H 1 (by omega)),Be (H 2 (by omega)),Be (H 3 (by omega))⟩
set_option maxRecDepth 100000 in
theorem Zi (l:List Cls) (x y:Int) (ax:0<=x) (hx:x<256) (az:0<=y) (hy:y<256) (hl:l.length<=4611686018427387904) (a:Option Addr) (b ad a7:Nat) (w:Λ) (ha:0<l.length->a=Δ ⟨b,ad,Γ⟩)
  (hc:∀ i,i<l.length*4->w.cell? ⟨b,ad+i,Γ⟩=Δ (.int π (wd (l.getD (i / 4) 0#256) (i % 4)))) :
  ϓ Ζ 123 #[Β a l.length a7,.int .u8 x,.int .u8 y] w λe w'=>e=θ (.bool (l.all λc=>Aw c x==Aw c y))/\Ext w w':=by
 go_enter Tryz.func123,Tryz.ntmps123;go_wp2_with (fail);go_loopw [7] (λi W=>∃ k:Nat,k<=l.length/\i=.int ε k/\Ext w W/\Hid (∀ j,j<k->Aw (l.getD j 0#256) x=Aw (l.getD j 0#256) y))
  (λi _=>l.length-(intOf i).toNat)
 case atStart=>exact⟨0,by omega,rfl,Θ w,Α (λj E=>by omega)⟩
 case round=>
  obtain⟨k,hk,rfl,I,J⟩:=hrel;by_cases M:k<l.length
  ·have e:=ha (by omega);obtain⟨a0,a1,a2,a3⟩:=Ji (W:=wr) (λi hi=>I.cell (hc i hi)) k M;clear ha hc;subst e;obtain⟨c,T⟩:∃ c,l.getD k 0#256=c:=⟨_,rfl⟩;rw[T] at a0 a1 a2 a3;have ai:=Α T;clear T;go_upto_region 4 with (fail)
   have U:=λ(W:Λ)=>Α (Oy c x ax hx W)
   have h2:=λ(W:Λ)=>Α (Oy c y az hy W)
   generalize aj:Aw c x=m1 at U;generalize al:Aw c y=m2 at h2;have ao:=Α aj;have aq:=Α al;clear aj al;go_cut [26] (λv W=>v=.bool (m1 != m2)/\∃ e:EW wr,W=e.W)
   case first=>
    refine Dx (by kernel_rfl) (by kernel_rfl) ?_;iterate 13 (refine è (λK G=>?_);go_simp;first|(refine G _ ?_;clear G K)|(apply Exists.intro;refine⟨λ_=>?_,G _ ?_⟩;(first|(with_reducible exact F7 (U _).out)|(with_reducible exact F7 (h2 _).out));clear G K))
    refine wpQuiet_nil ?_;rintro _ ⟨e,rfl⟩;go_wp2;go_meet
    exact⟨rfl,e,rfl⟩
   case rest=>
    obtain⟨rfl,e,rfl⟩:=hcut;clear a0 a1 a2 a3 U h2;have ar:=I.trans e.ext;generalize e.W=w1 at *;generalize au:(m1 != m2)=mm at *;have aw:=Α au;clear au;cases mm
    ·go_wp2;go_roundw
     case rel=>exact⟨k+1,by omega,by go_num,ar,Α (λj E=>by
      by_cases ba:j=k
      ·subst ba;rw[ai.out,ao.out,aq.out];simpa using aw.out
      ·exact J.out j (by omega))⟩
     case measure=>simp[intOf];omega
    ·have D:(l.all λc=>Aw c x==Aw c y)=Τ:=by
      rw[List.all_eq_false];refine⟨c,?_,by rw[ao.out,aq.out];simpa using aw.out⟩;rw[<-ai.out,Η,Μ M];exact í M
     have HF:=Α D;clear D;go_wp2;go_ret;exact⟨Hc HF.out.symm,ar⟩
  ·obtain rfl:k=l.length:=by omega
   have D:(l.all λc=>Aw c x==Aw c y)=Ξ:=by
    rw[List.all_eq_true];intro c bb;obtain⟨j,E,rfl⟩:=List.mem_iff_getElem.1 bb;have:=J.out j E;rw[Η,Μ E] at this
    simpa using this
   have HF:=Α D;clear D J;go_wp2;go_ret;exact⟨Hc HF.out.symm,I⟩
theorem An2 (l:List Cls) (v:Ν) (x y:Int) (E:0<=x) (G:x<256) (I:0<=y) (J:y<256) (w:Λ) (h:Cs w v l) :
  ϓ Ζ 123 #[v,.int .u8 x,.int .u8 y] w λe w'=>e=θ (.bool (l.all λc=>Aw c x==Aw c y))/\Ext w w':=by
 obtain⟨T,⟨hn,a,D,rfl⟩|⟨hn,b,M,D,rfl,hb,U⟩⟩:=h
 ·have:=Zi l x y E G I J (by omega) a 0 0 D w (by omega) (λi hi=>by omega)
  rwa [hn] at this
 ·exact Zi l x y E G I J T (Δ ⟨b,M,Γ⟩) b M D w (λ_=>rfl) U
def Gq (l:List Cls) (b:Int):Int:=match l.findIdx? (λc=>Aw c b) with|some i=>(i:Int)|none=>-1
theorem Wp (l:List Cls) (b:Int) (k:Nat) (D:k<l.length) (h:Aw (l.getD k 0#256) b=Ξ) (G:∀ j,j<k->Aw (l.getD j 0#256) b=Τ):Gq l b=k:=by
 have:l.findIdx? (λc=>Aw c b)=Δ k:=by
  rw[List.findIdx?_eq_some_iff_getElem];refine⟨D,by rwa [Η,Μ D] at h,λj I=>?_⟩;have E:=G j I;rw[Η,Μ (by omega)] at E
  simpa using E
 unfold Gq;rw[this]
theorem Ajl (l:List Cls) (b:Int) (E:∀ j,j<l.length->Aw (l.getD j 0#256) b=Τ):Gq l b=-1:=by
 have:l.findIdx? (λc=>Aw c b)=Γ:=by
  rw[List.findIdx?_eq_none_iff];intro c G;obtain⟨j,D,rfl⟩:=List.mem_iff_getElem.1 G;have I:=E j D
  rwa [Η,Μ D] at I
 unfold Gq;rw[this]
theorem u8n (k:Nat) (h:k<256):(χ k).toNat=k:=by simp;omega
theorem Vt (c:Cls) (k:Nat) (M:k<=256) (x:UInt8):x∈Al c k↔x.toNat<k/\c.getLsbD x.toNat=Ξ:=by
 induction k with
 | zero=>simp[Al]
 | succ k G=>
  have G:=G (by omega);have J:x=χ k↔x.toNat=k:=by
   rw[<-UInt8.toNat_inj,u8n k (by omega)]
  simp only[Al];split
  ·rename_i h
   rw[Ó,G,ϴ,J];constructor
   ·rintro (⟨E,D⟩|E)
    ·exact⟨by omega,D⟩
    ·exact⟨by omega,by rw[E];exact h⟩
   ·rintro⟨E,D⟩;by_cases I:x.toNat=k
    ·exact .inr I
    ·exact .inl ⟨by omega,D⟩
  ·rename_i h
   rw[G];constructor
   ·rintro⟨E,D⟩;exact⟨by omega,D⟩
   ·rintro⟨E,D⟩;refine⟨?_,D⟩;by_cases I:x.toNat=k
    ·rw[I] at D;exact absurd D h
    ·omega
theorem Mr (c:Cls) (x:UInt8):x∈Al c 256↔c.getLsbD x.toNat=Ξ:=by
 rw[Vt c 256 (ν _)];exact⟨λh=>h.2,λh=>⟨x.toNat_lt,h⟩⟩
theorem I1 (c:Cls) (h:c≠0#256):0<=Bv (Al c 256)/\Bv (Al c 256)<256/\c.getLsbD (Bv (Al c 256)).toNat=Ξ:=by
 cases D:Al c 256 with
 | nil=>
  exfalso;apply h
  apply BitVec.eq_of_getLsbD_eq;intro i hi;rw[õ];cases E:c.getLsbD i
  ·rfl
  ·have:=(Mr c (χ i)).2 (by rw[u8n i hi];exact E);rw[D] at this;cases this
 | cons x t=>
  have G:=(Mr c x).1 (by rw[D];exact List.mem_cons_self);have:=x.toNat_lt;simp only[Bv];exact⟨by omega,by omega,by simpa using G⟩
def Dis (a b:Cls):Prop:=∀ i,¬ (a.getLsbD i=Ξ/\b.getLsbD i=Ξ)
theorem Tg (k c x:Cls) (h:x∈D5 k c) (i:Nat) (hi:x.getLsbD i=Ξ):c.getLsbD i=Ξ:=by
 have:=(List.mem_filter.1 h).1;simp only[Ú,ù,or_false] at this;rcases this with rfl|rfl<;>(rw[ç] at hi;simp only[Ϝ] at hi;exact hi.1)
theorem Ab5 (k c:Cls):(D5 k c).Pairwise Dis:=by
 unfold D5;refine List.Pairwise.filter _ ?_;refine List.Pairwise.cons (λy E=>?_) (List.pairwise_singleton _ _);simp only[ϴ] at E;subst E;rintro i ⟨G,D⟩;simp only[ç,BitVec.getLsbD_not,Ϝ,Bool.not_eq_true'] at G D;rw[G.2] at D;exact absurd D.2.2 (by simp)
theorem Ab1 (k:Cls) (L:List Cls) (h:L.Pairwise Dis):(Dd k L).Pairwise Dis:=by
 unfold Dd;rw[List.pairwise_flatMap];refine⟨λc _=>Ab5 k c,h.imp ?_⟩;intro a b D x E y G i ⟨I,J⟩;exact D i ⟨Tg k a x E i I,Tg k b y G i J⟩
def key (c:Cls):Int:=Bv (Al c 256)
theorem Dis.symm {a b:Cls} (h:Dis a b):Dis b a:=λi ⟨D,E⟩=>h i ⟨E,D⟩
theorem Ai0 {L:List Cls} (hd:L.Pairwise Dis) (E:∀ c∈L,c≠0#256) (a b:Cls) (ha:a∈L) (D:b∈L) (h:key a=key b):a=b:=by
 have I:=(I1 a (E a ha)).2.2;have G:=(I1 b (E b D)).2.2;apply ϧ;intro J;have M:Dis a b:=by
  obtain⟨s,t,rfl⟩:=List.append_of_mem ha;rw[Ó,Ú] at D;rcases D with D|D|D
  ·exact ((List.pairwise_append.1 hd).2.2 b D a List.mem_cons_self).symm
  ·exact absurd D.symm J
  ·exact (List.pairwise_cons.1 (List.pairwise_append.1 hd).2.1).1 b D
 unfold key at h;rw[<-h] at G;exact M _ ⟨I,G⟩
def K4 (l:List Cls):List Cls:=(Ek l).mergeSort λa b=>decide (key a<=key b)
theorem Amf (l:List Cls):(K4 l).Perm (Ek l):=List.mergeSort_perm _ _
theorem Ame (l:List Cls):(K4 l).Pairwise λa b=>key a<=key b:=by
 have:=List.pairwise_mergeSort (le:=λa b:Cls=>decide (key a<=key b)) (λa b c D E=>by simp only[decide_eq_true_eq] at *;omega) (λa b=>by simp only[Å,decide_eq_true_eq];omega) (Ek l);exact this.imp (λh=>of_decide_eq_true h)
def Alk (l:List Cls) (i j:Nat):Prop:=∀ c∈l,c.getLsbD i=c.getLsbD j
theorem Alk.refl (l:List Cls) (i:Nat):Alk l i i:=λ_ _=>rfl
theorem Alk.symm {l:List Cls} {i j:Nat} (h:Alk l i j):Alk l j i:=λc D=>(h c D).symm
theorem Alk.trans {l:List Cls} {i j k:Nat} (h:Alk l i j) (E:Alk l j k):Alk l i k:=λc D=>(h c D).trans (E c D)
structure IsCells (l L:List Cls):Prop where
 dis:L.Pairwise Dis
 nz:∀ c∈L,c≠0#256
 cover:∀ i,i<256->∃ c∈L,c.getLsbD i=Ξ
 cls:∀ c∈L,∀ i,i<256->c.getLsbD i=Ξ->∀ j,j<256->(c.getLsbD j=Ξ↔Alk l i j)
theorem Pq (k c x:Cls):x∈D5 k c↔(x=c &&& k\/x=c &&& ~~~k)/\x≠0#256:=by
 unfold D5;rw[List.mem_filter];simp
theorem Gj {c:Cls} {i:Nat} (h:c.getLsbD i=Ξ):c≠0#256:=by
 rintro rfl;simp at h
theorem Nl {c:Cls} (h:c≠0#256):∃ i,i<256/\c.getLsbD i=Ξ:=by
 have D:=I1 c h;exact⟨_,by omega,D.2.2⟩
theorem Ajc {l L:List Cls} (k:Cls) (h:IsCells l L):IsCells (l++[k]) (Dd k L) where
 dis:=Ab1 k L h.dis
 nz:=Tf k L
 cover:=λi hi=>by
  obtain⟨c,D,J⟩:=h.cover i hi;cases M:k.getLsbD i
  ·have E:(c &&& ~~~k).getLsbD i=Ξ:=by rw[ç,BitVec.getLsbD_not,J,M];simp[hi]
   exact⟨_,List.mem_flatMap.2 ⟨c,D,(Pq k c _).2 ⟨.inr rfl,Gj E⟩⟩,E⟩
  ·have E:(c &&& k).getLsbD i=Ξ:=by rw[ç,J,M];rfl
   exact⟨_,List.mem_flatMap.2 ⟨c,D,(Pq k c _).2 ⟨.inl rfl,Gj E⟩⟩,E⟩
 cls:=λx E i hi G j I=>by
  obtain⟨c,D,E⟩:=List.mem_flatMap.1 E;obtain⟨E,-⟩:=(Pq k c x).1 E;have T:Alk (l++[k]) i j↔Alk l i j/\k.getLsbD i=k.getLsbD j:=by
   constructor
   ·intro h;exact⟨λc D=>h c (by simp[D]),h k (by simp)⟩
   ·rintro⟨U,h2⟩ c D;rw[Ó,ϴ] at D;rcases D with D|rfl
    ·exact U c D
    ·exact h2
  rw[T];rcases E with rfl|rfl
  ·rw[ç,Ϝ] at G;rw[<-h.cls c D i hi G.1 j I,ç,Ϝ,G.2];cases k.getLsbD j<;>simp
  ·simp only[ç,BitVec.getLsbD_not,hi,I,decide_true,Ì,Ϝ,Bool.not_eq_true'] at G ⊢;rw[<-h.cls c D i hi G.1 j I,G.2];cases k.getLsbD j<;>simp
theorem P9 (l:List Cls):IsCells l (Ek l):=by
 have:∀ (l m L:List Cls),IsCells m L->IsCells (m++l) (l.foldl (λL k=>Dd k L) L):=λl=>by
  induction l with
  | nil=>intro m L h;rw[List.append_nil];exact h
  | cons k l E=>
   intro m L h;have:=E (m++[k]) _ (Ajc k h);rw[List.append_assoc,List.singleton_append] at this;exact this
 have G:IsCells [] [allC]:=by
  refine⟨List.pairwise_singleton _ _,full_one.2,λi hi=>⟨allC,ϴ.2 rfl,?_⟩,λc D i hi _ j I=>?_⟩
  ·unfold allC;rw[BitVec.getLsbD_not,õ];simp[hi]
  ·rw[ϴ] at D;subst D;constructor
   ·intro _ c D;cases D
   ·intro _;unfold allC;rw[BitVec.getLsbD_not,õ];simp[I]
 exact this l [] [allC] G
theorem IsCells.perm {l L M:List Cls} (h:IsCells l L) (E:M.Perm L):IsCells l M where
 dis:=E.symm.pairwise h.dis (λG=>Dis.symm G)
 nz:=λc D=>h.nz c (E.mem_iff.1 D)
 cover:=λi hi=>by obtain⟨c,D,hi⟩:=h.cover i hi;exact⟨c,E.mem_iff.2 D,hi⟩
 cls:=λc D=>h.cls c (E.mem_iff.1 D)
theorem Wh (l:List Cls):IsCells l (K4 l):=(P9 l).perm (Amf l)
theorem IsCells.nodup {l L:List Cls} (h:IsCells l L):L.Nodup:=by
 refine á ?_ h.dis;rintro a b ha E D rfl;obtain⟨i,_,hi⟩:=Nl (h.nz a ha);exact D i ⟨hi,hi⟩
theorem IsCells.sub {l m L M:List Cls} (h:IsCells l L) (E:IsCells m M) (hs:∀ i j,i<256->j<256->(Alk l i j↔Alk m i j)) (c:Cls) (G:c∈L):c∈M:=by
 obtain⟨i,hi,J⟩:=Nl (h.nz c G);obtain⟨d,hd,T⟩:=E.cover i hi;have:c=d:=by
  apply BitVec.eq_of_getLsbD_eq;intro j D;have I:=h.cls c G i hi J j D;have U:=E.cls d hd i hi T j D;rw[hs i j hi D] at I;rw[ϯ,I,U]
 rw[this];exact hd
theorem IsCells.eq {l m L M:List Cls} (h:IsCells l L) (D:IsCells m M) (hs:∀ i j,i<256->j<256->(Alk l i j↔Alk m i j)) (G:L.Pairwise λa b=>key a<=key b) (I:M.Pairwise λa b=>key a<=key b):L=M:=by
 have E:L.Perm M:=(List.perm_ext_iff_of_nodup h.nodup D.nodup).2 λc=>⟨h.sub D hs c,D.sub h (λi j hi J=>(hs i j hi J).symm) c⟩
 exact List.Perm.eq_of_pairwise (λa b ha T U h2=>Ai0 D.dis D.nz a b (E.mem_iff.1 ha) T (Int.le_antisymm U h2)) G I E
theorem Wf (c:Cls) (m:Nat) (hm:m<256) (h:c.getLsbD m=Ξ) (M:∀ j,j<m->c.getLsbD j=Τ):key c=m:=by
 have G:=I1 c (Gj h);have T:=M (Bv (Al c 256)).toNat;unfold key;have h3:¬ (Bv (Al c 256)).toNat<m:=λU=>by rw[T U] at G;exact absurd G.2.2 (by simp)
 have h4:Bv (Al c 256)<=m:=by
  have E:χ m∈Al c 256:=(Mr c _).2 (by rw[u8n m hm];exact h);have I:(Al c 256).Pairwise λa b=>a.toNat<b.toNat:=by
   have:∀ k,k<=256->(Al c k).Pairwise λa b=>a.toNat<b.toNat:=λk=>by
    induction k with
    | zero=>intro _;exact List.Pairwise.nil
    | succ k J=>
     intro hk;simp only[Al];split
     ·rw[List.pairwise_append];refine⟨J (by omega),List.pairwise_singleton _ _,λa ha b D=>?_⟩;rw[ϴ] at D;subst D;rw[u8n k (by omega)];exact ((Vt c k (by omega) a).1 ha).1
     ·exact J (by omega)
   exact this 256 (ν _)
  cases D:Al c 256 with
  | nil=>rw[D] at E;cases E
  | cons x t=>
   rw[D] at E I;simp only[Bv];rcases Ú.1 E with e|e
   ·rw[<-e,u8n m hm];exact Int.le_refl _
   ·have:=(List.pairwise_cons.1 I).1 _ e;rw[u8n m hm] at this;omega
 omega
structure RInv (l:List Cls) (i:Nat) (out:List Cls) (le:List UInt8):Prop where
 len:out.length=le.length
 bound:le.length<=i
 bits:∀ k,k<le.length->∀ j,j<256->((out.getD k 0#256).getLsbD j=Ξ↔j<i/\Alk l (le.getD k 0).toNat j)
 inc:∀ k,k<le.length->(le.getD k 0).toNat<i
 srt:∀ m k,m<k->k<le.length->(le.getD m 0).toNat<(le.getD k 0).toNat
 sep:∀ k j,k<le.length->j<(le.getD k 0).toNat->¬ Alk l j (le.getD k 0).toNat
 all:∀ j,j<i->∃ k,k<le.length/\Alk l (le.getD k 0).toNat j
theorem Adf (l:List Cls):RInv l 0 [] []:=by
 refine⟨rfl,?_,?_,?_,?_,?_,?_⟩<;>simp
theorem Bt {α:Type} (l:List α) (x d:α) (k:Nat) (h:k<l.length):(l++[x]).getD k d=l.getD k d:=by
 rw[Η,List.getElem?_append_left h,<-Η]
theorem Cm {α:Type} (l:List α) (x d:α):(l++[x]).getD l.length d=x:=by
 rw[Η,List.getElem?_append_right (ν _)];simp
theorem Wx {α:Type} (l:List α) (x d:α) (k:Nat) (h:k<l.length):(l.set k x).getD k d=x:=by
 simp[Η,h]
theorem Wy {α:Type} (l:List α) (x d:α) (k m:Nat) (h:k≠m):(l.set k x).getD m d=l.getD m d:=by
 simp[Η,List.getElem?_set_ne h]
theorem Adh {l:List Cls} {i:Nat} {out:List Cls} {le:List UInt8} (h:RInv l i out le) (hi:i<256) (hn:∀ k,k<le.length->¬ Alk l (le.getD k 0).toNat i) :
  RInv l (i+1) (out++[Bp 0#256 (i:Int)]) (le++[χ i]):=by
 have hu:=u8n i hi;have M:=h.len;have J:∀ k,k<(le++[χ i]).length->k<le.length\/k=le.length:=λk D=>by simp at D;omega
 refine⟨by simp[M],by have:=h.bound;simp;omega,λk D j E=>?_,λk D=>?_,λm k T D=>?_,λk j D E=>?_,λj E=>?_⟩
 ·rcases J k D with D|rfl
  ·rw[Bt _ _ _ _ (by omega),Bt _ _ _ _ D,h.bits k D j E];constructor
   ·rintro⟨U,G⟩;exact⟨by omega,G⟩
   ·rintro⟨U,G⟩;refine⟨?_,G⟩;by_cases e:j=i
    ·rw[e] at G;exact absurd G (hn k D)
    ·omega
  ·rw[<-M,Cm,M,Cm,hu,I6 _ _ _ hi];simp only[õ,Bool.false_or,decide_eq_true_eq];constructor
   ·rintro rfl;exact⟨by omega,Alk.refl _ _⟩
   ·rintro⟨U,G⟩;by_cases e:j=i
    ·exact e
    ·obtain⟨k,D,I⟩:=h.all j (by omega);exact absurd (I.trans G.symm) (hn k D)
 ·rcases J k D with D|rfl
  ·rw[Bt _ _ _ _ D];have:=h.inc k D;omega
  ·rw[Cm,hu];omega
 ·rcases J k D with D|rfl
  ·rw[Bt _ _ _ _ D,Bt _ _ _ _ (by omega)];exact h.srt m k T D
  ·rw[Cm,hu,Bt _ _ _ _ T];exact h.inc m T
 ·rcases J k D with D|rfl
  ·rw[Bt _ _ _ _ D] at E ⊢;exact h.sep k j D E
  ·rw[Cm,hu] at E ⊢;intro ha;obtain⟨k,D,I⟩:=h.all j E;exact hn k D (I.trans ha)
 ·by_cases e:j=i
  ·subst e;exact⟨le.length,by simp,by rw[Cm,hu];exact Alk.refl _ _⟩
  ·obtain⟨k,D,I⟩:=h.all j (by omega);exact⟨k,by simp;omega,by rw[Bt _ _ _ _ D];exact I⟩
theorem Adg {l:List Cls} {i:Nat} {out:List Cls} {le:List UInt8} (h:RInv l i out le) (hi:i<256) (k:Nat) (E:k<le.length) (ha:Alk l (le.getD k 0).toNat i) :
  RInv l (i+1) (out.set k (Bp (out.getD k 0#256) (i:Int))) le:=by
 have M:=h.len;refine⟨by simp[M],by have:=h.bound;omega,λm hm j G=>?_,λm hm=>by have:=h.inc m hm;omega,h.srt,h.sep,λj G=>?_⟩
 ·by_cases e:k=m
  ·subst e;rw[Wx _ _ _ _ (by omega),I6 _ _ _ hi,Å,h.bits k E j G,decide_eq_true_eq];constructor
   ·rintro (⟨I,D⟩|rfl)
    ·exact⟨by omega,D⟩
    ·exact⟨by omega,ha⟩
   ·rintro⟨I,D⟩;by_cases e:j=i
    ·exact .inr e
    ·exact .inl ⟨by omega,D⟩
  ·rw[Wy _ _ _ _ _ e,h.bits m hm j G];constructor
   ·rintro⟨I,D⟩;exact⟨by omega,D⟩
   ·rintro⟨I,D⟩;refine⟨?_,D⟩;by_cases T:j=i
    ·exfalso
     subst T;have J:=ha.trans D.symm;rcases Nat.lt_or_gt_of_ne e with U|aa
     ·exact h.sep m _ hm (h.srt k m U hm) J
     ·exact h.sep k _ E (h.srt m k aa E) J.symm
    ·omega
 ·by_cases e:j=i
  ·subst e;exact⟨k,E,ha⟩
  ·exact h.all j (by omega)
theorem Gm {α:Type} {l:List α} {x d:α} (h:x∈l):∃ k,k<l.length/\l.getD k d=x:=by
 obtain⟨k,D,rfl⟩:=List.mem_iff_getElem.1 h;exact⟨k,D,by rw[Η,Μ D];rfl⟩
theorem Adi {l:List Cls} {out:List Cls} {le:List UInt8} (h:RInv l 256 out le):out=K4 l:=by
 have an:=h.len;have E:∀ k (D:k<out.length),out[k]=out.getD k 0#256:=λk D=>by rw[Η,Μ D];rfl
 have T:∀ k,k<le.length->(out.getD k 0#256).getLsbD (le.getD k 0).toNat=Ξ:=λk D=>
  (h.bits k D _ (UInt8.toNat_lt _)).2 ⟨UInt8.toNat_lt _,Alk.refl _ _⟩
 have U:∀ k,k<le.length->key (out.getD k 0#256)=((le.getD k 0).toNat:Int):=λk D=>
  Wf _ _ (UInt8.toNat_lt _) (T k D) λj G=>by
   rw[<-Bool.not_eq_true];intro hb;exact h.sep k j D G ((h.bits k D j (by have:=UInt8.toNat_lt (le.getD k 0);omega)).1 hb).2.symm
 have ae:IsCells l out:=by
  refine⟨?_,λc J=>?_,λi hi=>?_,λc J i hi af j G=>?_⟩
  ·rw[Ϯ];intro m k hm D M i ⟨I,h2⟩;rw[E m hm] at I;rw[E k D] at h2;have hi:i<256:=by
    apply ϧ;intro hn
    rw[BitVec.getLsbD_of_ge _ _ (by omega)] at I;cases I
   have a1:=((h.bits m (by omega) i hi).1 I).2;have a2:=((h.bits k (by omega) i hi).1 h2).2;exact h.sep k _ (by omega) (h.srt m k M (by omega)) (a1.trans a2.symm)
  ·obtain⟨k,D,rfl⟩:=Gm (d:=0#256) J;exact Gj (T k (by omega))
  ·obtain⟨k,D,ha⟩:=h.all i hi;refine⟨out.getD k 0#256,?_,(h.bits k D i hi).2 ⟨hi,ha⟩⟩;rw[<-E k (by omega)];exact í _
  ·obtain⟨k,D,rfl⟩:=Gm (d:=0#256) J;have ai:=((h.bits k (by omega) i hi).1 af).2;rw[h.bits k (by omega) j G];exact⟨fun⟨_,aj⟩=>ai.symm.trans aj,λal=>⟨G,ai.trans al⟩⟩
 refine ae.eq (Wh l) (λ_ _ _ _=>Iff.rfl) ?_ (Ame l);rw[Ϯ];intro m k hm D M;rw[E m hm,E k D,U m (by omega),U k (by omega)];have:=h.srt m k M (by omega);omega
theorem An1 (l:List Cls) (x y:Nat):(l.all λc=>Aw c (x:Int)==Aw c (y:Int))=Ξ↔Alk l x y:=by
 simp[Alk,Aw]
end Go.Proofs.YtaiogolidlamiaaGreatDoor
