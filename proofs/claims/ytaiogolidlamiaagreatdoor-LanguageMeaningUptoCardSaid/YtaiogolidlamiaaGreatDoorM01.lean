import GoSem.Core.Value
import Derived.WalkKit
import Derived.Laws.BitsAllLaws
import Derived.Deep.Quiet
import Derived.Lib.Hide
import Derived.Test.YtaiogolidlamiaaGreatDoorProg
import Derived.Outline
import Derived.BigRegion
import Derived.Deep.DeepCutAuto
import Derived.Shelf.Abstract
import Derived.Deep.RegionWith
import Derived.Deep.CutBlock
set_option linter.unusedVariables false
set_option linter.unusedSimpArgs false
namespace Go.Proofs.YtaiogolidlamiaaGreatDoor
set_option maxRecDepth 100000
open Go.RowKit
abbrev Cls:=BitVec 256
def wn (c:Cls) (i:Nat):Nat:=c.toNat / 2 ^ (64*i) % 2 ^ 64
def wd (c:Cls) (i:Nat):Int:=(wn c i:Nat)
abbrev Aa (c:Cls):Array Value:=#[.int .u64 (wd c 0),.int .u64 (wd c 1),.int .u64 (wd c 2),.int .u64 (wd c 3)]
def Bb (c:Cls) (b:Int):Bool:=c.getLsbD b.toNat
def Bj (c:Cls) (b:Int):Cls:=c ||| BitVec.twoPow 256 b.toNat
theorem B9 (c:Cls) (i:Nat):wn c i<18446744073709551616:=by unfold wn;omega
theorem E7 (c:Cls) (i:Nat):0≤wd c i∧wd c i<18446744073709551616:=by
 have:=B9 c i;unfold wd;omega
theorem E1 (c:Cls) (i:Nat) (h:i<4):(Aa c)[i]? = some (.int .u64 (wd c i)):=by
 match i,h with
 | 0,_=>rfl
 | 1,_=>rfl
 | 2,_=>rfl
 | 3,_=>rfl
theorem B8 (c:Cls) (i j:Nat):(wn c i).testBit j=(decide (j<64)&&c.getLsbD (64*i+j)):=by
 unfold wn;rw [Nat.testBit_mod_two_pow,← Nat.shiftRight_eq_div_pow,Nat.testBit_shiftRight];rfl
theorem X5 {c d:Cls} (h:∀ i,i<4→wn c i=wn d i):c=d:=by
 apply BitVec.eq_of_getLsbD_eq;intro k hk;have h1:=B8 c (k / 64) (k % 64);have h2:=B8 d (k / 64) (k % 64);rw [h (k / 64) (by omega)] at h1;have hm:k % 64<64:=Nat.mod_lt _ (by omega);have he:64*(k / 64)+k % 64=k:=by omega
 rw [he] at h1 h2;simp only [hm,decide_true,Bool.true_and] at h1 h2;exact h1.symm.trans h2
theorem Abd (c:Cls) (b:Int) (h0:0≤b) (h1:b<256) :
  ((wd c (b / 64).toNat / 2 ^ (b % 64).toNat).tmod 2==1)=Bb c b:=by
 obtain ⟨n,rfl⟩:=Int.eq_ofNat_of_zero_le h0;have e1:((n:Int) / 64).toNat=n / 64:=by omega
 have e2:((n:Int) % 64).toNat=n % 64:=by omega
 rw [e1,e2];unfold wd Bb;have ht:=B8 c (n / 64) (n % 64);rw [show 64*(n / 64)+n % 64=n by omega,show decide (n % 64<64)=true by simp;omega,Bool.true_and] at ht;rw [show ((n:Int)).toNat=n from rfl,← ht,Nat.testBit_eq_decide_div_mod_eq];have e3:((wn c (n / 64):Nat):Int) / 2 ^ (n % 64)=((wn c (n / 64) / 2 ^ (n % 64):Nat):Int):=by
  rw [Int.natCast_ediv];simp
 rw [e3];generalize wn c (n / 64) / 2 ^ (n % 64)=m;rw [Int.tmod_eq_emod_of_nonneg (by omega)];rw [Bool.eq_iff_iff];simp;omega
theorem Ky (k:Nat) (h:k<64):2 ^ k<18446744073709551616:=by
 show 2 ^ k<2 ^ 64;exact Nat.pow_lt_pow_right (by omega) h
theorem Ms (k:Nat) (h:k<64):IntKind.u64.wrap (2 ^ k)=((2 ^ k:Nat):Int):=by
 rw [IntKind.wrap_u64];have h':=Ky k h;rw [show ((2:Int) ^ k)=((2 ^ k:Nat):Int) by simp];generalize 2 ^ k=m at *;omega
theorem Aid (c:Cls) (b:Int) (h0:0≤b) (h1:b<256) :
  (bits BinOp.and IntKind.u64 (wd c (b / 64).toNat) (IntKind.u64.wrap (2 ^ (b % 64).toNat)) != 0)=Bb c b:=by
 obtain ⟨n,rfl⟩:=Int.eq_ofNat_of_zero_le h0;have e1:((n:Int) / 64).toNat=n / 64:=by omega
 have e2:((n:Int) % 64).toNat=n % 64:=by omega
 have hl:n % 64<64:=Nat.mod_lt _ (by omega);have hp:=Ky _ hl;rw [e1,e2,Ms _ hl];unfold wd Bb;rw [u64_and_nat _ _ (B9 _ _) hp];have ht:=B8 c (n / 64) (n % 64);rw [show 64*(n / 64)+n % 64=n by omega,show decide (n % 64<64)=true by simp;omega,Bool.true_and] at ht;rw [show ((n:Int)).toNat=n from rfl,← ht];rw [nat_bit,Nat.testBit_eq_decide_div_mod_eq];have hpos:0<2 ^ (n % 64):=Nat.pow_pos (by omega);generalize 2 ^ (n % 64)=m at *;rcases Nat.mod_two_eq_zero_or_one (wn c (n / 64) / m) with h|h
 ·simp [h]
 ·rw [h,Bool.eq_iff_iff];simp;omega
theorem Xj (c:Cls) (n i:Nat) (hi:i<4) (hn:n<256) :
  wn (Bj c (n:Int)) i=if i=n / 64 then wn c i ||| 2 ^ (n % 64) else wn c i:=by
 apply Nat.eq_of_testBit_eq;intro j;rw [B8];unfold Bj;rw [show ((n:Int)).toNat=n from rfl,BitVec.getLsbD_or,BitVec.getLsbD_twoPow];split
 ·rename_i e;subst e
  rw [Nat.testBit_or,B8,Nat.testBit_two_pow];by_cases hj:j<64
  ·simp only [hj,decide_true,Bool.true_and]
   congr 1
   rw [Bool.eq_iff_iff];simp;omega
  ·simp only [hj,decide_false,Bool.false_and,Bool.false_or];simp;omega
 ·rename_i e
  rw [B8];by_cases hj:j<64
  ·simp only [hj,decide_true,Bool.true_and];have:(decide (n<256)&&decide (n=64*i+j))=false:=by simp;omega
   rw [this,Bool.or_false]
  ·simp [hj]
theorem Qi (c:Cls) (b:Int) (h0:0≤b) (h1:b<256) :
  bits BinOp.or IntKind.u64 (wd c (b / 64).toNat) (IntKind.u64.wrap (2 ^ (b % 64).toNat))=wd (Bj c b) (b / 64).toNat:=by
 obtain ⟨n,rfl⟩:=Int.eq_ofNat_of_zero_le h0;have e1:((n:Int) / 64).toNat=n / 64:=by omega
 have e2:((n:Int) % 64).toNat=n % 64:=by omega
 have hl:n % 64<64:=Nat.mod_lt _ (by omega);have hp:=Ky _ hl;rw [e1,e2,Ms _ hl];unfold wd;rw [u64_or_nat _ _ (B9 _ _) hp,Xj c n _ (by omega) (by omega),if_pos rfl]
theorem Qj (c:Cls) (b:Int) (h0:0≤b) (h1:b<256) :
  (Aa c).setIfInBounds (b / 64).toNat (.int .u64 (wd (Bj c b) (b / 64).toNat))=Aa (Bj c b):=by
 obtain ⟨n,rfl⟩:=Int.eq_ofNat_of_zero_le h0;have e1:((n:Int) / 64).toNat=n / 64:=by omega
 rw [e1];have hw:∀ i,i<4→i≠n / 64→wd (Bj c (n:Int)) i=wd c i:=fun i hi hne=>by
  unfold wd;rw [Xj c n i hi (by omega),if_neg hne]
 have h4:n / 64<4:=by omega
 generalize hk:n / 64=k at *
 match k,h4 with
 | 0,_=>simp [Aa,hw 1 (by omega) (by omega),hw 2 (by omega) (by omega),hw 3 (by omega) (by omega)]
 | 1,_=>simp [Aa,hw 0 (by omega) (by omega),hw 2 (by omega) (by omega),hw 3 (by omega) (by omega)]
 | 2,_=>simp [Aa,hw 0 (by omega) (by omega),hw 1 (by omega) (by omega),hw 3 (by omega) (by omega)]
 | 3,_=>simp [Aa,hw 0 (by omega) (by omega),hw 1 (by omega) (by omega),hw 2 (by omega) (by omega)]
theorem J8 (i:Nat):wd 0#256 i=0:=by unfold wd wn;simp
theorem Acx (a b:Cls) (i:Nat) (_hi:i<4):bits BinOp.or IntKind.u64 (wd a i) (wd b i)=wd (a ||| b) i:=by
 unfold wd;rw [u64_or_nat _ _ (B9 _ _) (B9 _ _)]
 congr 1
 apply Nat.eq_of_testBit_eq;intro j;rw [Nat.testBit_or,B8,B8,B8,BitVec.getLsbD_or];cases decide (j<64)<;>rfl
theorem Ajk (a b:Cls) (i:Nat) (_hi:i<4):bits BinOp.and IntKind.u64 (wd a i) (wd b i)=wd (a &&& b) i:=by
 unfold wd;rw [u64_and_nat _ _ (B9 _ _) (B9 _ _)]
 congr 1
 apply Nat.eq_of_testBit_eq;intro j;rw [Nat.testBit_and,B8,B8,B8,BitVec.getLsbD_and];cases decide (j<64)<;>simp
theorem Th (x j:Nat) (hx:x<18446744073709551616):(18446744073709551615-x).testBit j=(decide (j<64)&&!x.testBit j):=by
 have:=Nat.testBit_two_pow_sub_succ (x:=x) (n:=64) hx j
 rwa [show (2 ^ 64-(x+1):Nat)=18446744073709551615-x by omega] at this
theorem Tg (a:Cls) (i:Nat) (hi:i<4):18446744073709551615-wn a i=wn (~~~a) i:=by
 apply Nat.eq_of_testBit_eq;intro j;rw [Th _ _ (B9 _ _),B8,B8,BitVec.getLsbD_not];by_cases hj:j<64
 ·simp only [hj,decide_true,Bool.true_and];rw [show decide (64*i+j<256)=true by simp;omega,Bool.true_and]
 ·simp [hj]
theorem Ad4 (a b:Cls) (i:Nat) (hi:i<4):bits BinOp.andNot IntKind.u64 (wd a i) (wd b i)=wd (a &&& ~~~b) i:=by
 unfold wd;rw [u64_andNot_nat _ _ (B9 _ _) (B9 _ _),Tg b i hi]
 congr 1
 apply Nat.eq_of_testBit_eq;intro j;rw [Nat.testBit_and,B8,B8,B8,BitVec.getLsbD_and];cases decide (j<64)<;>simp
theorem Adg (a:Cls) (i:Nat) (hi:i<4):bits BinOp.xor IntKind.u64 IntKind.u64.max (wd a i)=wd (~~~a) i:=by
 unfold wd;rw [show IntKind.u64.max=((18446744073709551615:Nat):Int) from rfl,u64_xor_nat _ _ (by omega) (B9 _ _)]
 congr 1
 rw [← Tg a i hi];apply Nat.eq_of_testBit_eq;intro j;rw [Nat.testBit_xor,Th _ _ (B9 _ _),show (18446744073709551615:Nat)=2 ^ 64-1 by omega,Nat.testBit_two_pow_sub_one,B8];cases decide (j<64)<;>simp
def Ph (p:Nat→Bool):Nat→Cls
 | 0=>0#256
 | k+1=>if p k then Bj (Ph p k) (k:Int) else Ph p k
theorem Jc (c:Cls) (n b:Nat) (hn:n<256):(Bj c (n:Int)).getLsbD b=(c.getLsbD b||decide (b=n)):=by
 unfold Bj;rw [show ((n:Int)).toNat=n from rfl,BitVec.getLsbD_or,BitVec.getLsbD_twoPow]
 congr 1
 rw [Bool.eq_iff_iff];simp;omega
def Al (c:Cls):Nat→List UInt8
 | 0=>[]
 | k+1=>if c.getLsbD k then Al c k++[UInt8.ofNat k] else Al c k
theorem P5 (c:Cls) (k:Nat):(Al c k).length≤k:=by
 induction k with
 | zero=>simp [Al]
 | succ k ih=>
  unfold Al;split
  ·simp;omega
  ·omega
theorem Gx (k q p q' p':Nat) (hp:p<2 ^ k) (hp':p'<2 ^ k):(2 ^ k*q+p) &&& (2 ^ k*q'+p')=2 ^ k*(q &&& q')+(p &&& p'):=by
 have h3:p &&& p'<2 ^ k:=Nat.and_lt_two_pow _ hp';apply Nat.eq_of_testBit_eq;intro j;rw [Nat.testBit_and,Nat.testBit_two_pow_mul_add _ hp,Nat.testBit_two_pow_mul_add _ hp',Nat.testBit_two_pow_mul_add _ h3];split<;>simp [Nat.testBit_and]
def ofD:List Nat→Nat
 | []=>0
 | d::l=>256*ofD l+d
def mk (c n:Nat):Nat:=ofD (List.replicate n c)
def b1 (d:Nat):Nat:=(d / 2 &&& 85)+(d &&& 85)
def b2 (d:Nat):Nat:=(d / 4 &&& 51)+(d &&& 51)
def b3 (d:Nat):Nat:=(d / 16+d) &&& 15
def nib (d:Nat):Bool:=d % 16≤4&&d / 16≤4
theorem t1:∀ d,d<256→∀ t,t<2→((128*t+d / 2) &&& 85)+(d &&& 85)=b1 d∧b1 d<256:=by decide +kernel
theorem t2:∀ d,d<256→∀ t,t<4→((64*t+d / 4) &&& 51)+(d &&& 51)=b2 d∧b2 d<256:=by decide +kernel
theorem t3:∀ d,d<256→nib d=true→∀ t,t<5→(16*t+d / 16+d) &&& 15=b3 d∧16*t+d / 16+d<256∧b3 d<16:=by decide +kernel
theorem t4:∀ d,d<256→nib (b2 (b1 d))=true:=by decide +kernel
theorem Aap (l:List Nat) (h:∀ d∈l,d<256):(ofD l / 2 &&& mk 85 l.length)+(ofD l &&& mk 85 l.length)=ofD (l.map b1):=by
 induction l with
 | nil=>rfl
 | cons d l ih=>
  have ih:=ih (fun x hx=>h x (by simp [hx]));have hd:=h d (by simp);have e1:ofD (d::l) / 2=2 ^ 8*(ofD l / 2)+(128*(ofD l % 2)+d / 2):=by simp only [ofD];omega
  have e2:ofD (d::l)=2 ^ 8*ofD l+d:=rfl;have e3:mk 85 (d::l).length=2 ^ 8*mk 85 l.length+85:=rfl;rw [e1,e2,e3,Gx 8 _ _ _ _ (by omega) (by omega),Gx 8 _ _ _ _ (by omega) (by omega)];have h1:=(t1 d hd (ofD l % 2) (by omega)).1;show _=256*ofD (l.map b1)+b1 d;omega
theorem Aao (l:List Nat) (h:∀ d∈l,d<256):(ofD l / 4 &&& mk 51 l.length)+(ofD l &&& mk 51 l.length)=ofD (l.map b2):=by
 induction l with
 | nil=>rfl
 | cons d l ih=>
  have ih:=ih (fun x hx=>h x (by simp [hx]));have hd:=h d (by simp);have e1:ofD (d::l) / 4=2 ^ 8*(ofD l / 4)+(64*(ofD l % 4)+d / 4):=by simp only [ofD];omega
  have e2:ofD (d::l)=2 ^ 8*ofD l+d:=rfl;have e3:mk 51 (d::l).length=2 ^ 8*mk 51 l.length+51:=rfl;rw [e1,e2,e3,Gx 8 _ _ _ _ (by omega) (by omega),Gx 8 _ _ _ _ (by omega) (by omega)];have h1:=(t2 d hd (ofD l % 4) (by omega)).1;show _=256*ofD (l.map b2)+b2 d;omega
theorem Ael (l:List Nat) (h:∀ d∈l,d<256∧nib d=true):ofD l % 16<5:=by
 cases l with
 | nil=>simp [ofD]
 | cons d l=>
  have:=(h d (by simp)).2;simp only [nib,Bool.and_eq_true,decide_eq_true_eq] at this;simp only [ofD];omega
theorem Aan (l:List Nat) (h:∀ d∈l,d<256∧nib d=true):(ofD l / 16+ofD l) &&& mk 15 l.length=ofD (l.map b3):=by
 induction l with
 | nil=>rfl
 | cons d l ih=>
  have hl:∀ d∈l,d<256∧nib d=true:=fun x hx=>h x (by simp [hx])
  have ih:=ih hl;have hd:=h d (by simp);have h1:=t3 d hd.1 hd.2 (ofD l % 16) (Ael l hl);have e1:ofD (d::l) / 16+ofD (d::l)=2 ^ 8*(ofD l / 16+ofD l)+(16*(ofD l % 16)+d / 16+d):=by simp only [ofD];omega
  have e3:mk 15 (d::l).length=2 ^ 8*mk 15 l.length+15:=rfl;rw [e1,e3,Gx 8 _ _ _ _ (by omega) (by omega)];show _=256*ofD (l.map b3)+b3 d;omega
def cnt (p:Nat→Bool):Nat→Nat
 | 0=>0
 | n+1=>cnt p n+(if p n then 1 else 0)
theorem Ps (p q:Nat→Bool) (n:Nat) (h:∀ k,k<n→p k=q k):cnt p n=cnt q n:=by
 induction n with
 | zero=>rfl
 | succ n ih=>simp only [cnt];rw [ih (fun k hk=>h k (by omega)),h n (by omega)]
theorem V0 (p:Nat→Bool) (m n:Nat):cnt p (m+n)=cnt p m+cnt (fun k=>p (m+k)) n:=by
 induction n with
 | zero=>rfl
 | succ n ih=>rw [← Nat.add_assoc];simp only [cnt];rw [ih];omega
theorem Ab7:∀ d,d<256→b3 (b2 (b1 d))=cnt d.testBit 8:=by decide +kernel
theorem Ct (p:Nat→Bool) (n:Nat):cnt p n≤n:=by
 induction n with
 | zero=>simp [cnt]
 | succ n ih=>simp only [cnt];split<;>omega
theorem Ahr (l:List Nat) (h:∀ d∈l,d<256):cnt (ofD l).testBit (8*l.length)=(l.map fun d=>cnt d.testBit 8).sum:=by
 induction l with
 | nil=>rfl
 | cons d l ih=>
  have ih:=ih (fun x hx=>h x (by simp [hx]));have hd:d<2 ^ 8:=h d (by simp);rw [show 8*(d::l).length=8+8*l.length by simp;omega,V0];have e2:ofD (d::l)=2 ^ 8*ofD l+d:=rfl;have h1:cnt (ofD (d::l)).testBit 8=cnt d.testBit 8:=Ps _ _ _ fun k hk=>by
   rw [e2,Nat.testBit_two_pow_mul_add _ hd,if_pos hk]
  have h2:cnt (fun k=>(ofD (d::l)).testBit (8+k)) (8*l.length)=cnt (ofD l).testBit (8*l.length):=Ps _ _ _ fun k hk=>by
   rw [e2,Nat.testBit_two_pow_mul_add _ hd,if_neg (by omega)];congr 1;omega
  rw [h1,h2,ih];simp
theorem Ahf (x:Nat) (h:x<18446744073709551616):x=ofD [x % 256,x / 256 % 256,x / 65536 % 256,x / 16777216 % 256,x / 4294967296 % 256,x / 1099511627776 % 256,x / 281474976710656 % 256,x / 72057594037927936 % 256]:=by
 simp only [ofD];omega
def st1 (x:Nat):Nat:=(x / 2 &&& 6148914691236517205)+(x &&& 6148914691236517205)
def st2 (x:Nat):Nat:=(x / 4 &&& 3689348814741910323)+(x &&& 3689348814741910323)
def st3 (x:Nat):Nat:=(x / 16+x) &&& 1085102592571150095
def st4 (x:Nat):Nat:=x+x / 256
def st5 (x:Nat):Nat:=x+x / 65536
def st6 (x:Nat):Nat:=x+x / 4294967296
theorem Y0 (a b c d e f g h:Nat) (ha:a≤8) (hb:b≤8) (hc:c≤8) (hd:d≤8) (he:e≤8) (hf:f≤8) (hg:g≤8) (hh:h≤8) :
  st6 (st5 (st4 (ofD [a,b,c,d,e,f,g,h]))) % 128=a+b+c+d+e+f+g+h:=by
 have hdiv:∀ (a:Nat) (l:List Nat),a<256→ofD (a::l) / 256=ofD l:=fun a l h=>by simp only [ofD];omega
 have e4:st4 (ofD [a,b,c,d,e,f,g,h])=ofD [a+b,b+c,c+d,d+e,e+f,f+g,g+h,h]:=by
  unfold st4;rw [hdiv a _ (by omega)];simp only [ofD];omega
 have e5:st5 (ofD [a+b,b+c,c+d,d+e,e+f,f+g,g+h,h])=ofD [a+b+c+d,b+c+d+e,c+d+e+f,d+e+f+g,e+f+g+h,f+g+h,g+h,h]:=by
  unfold st5;rw [show (65536:Nat)=256*256 from rfl,← Nat.div_div_eq_div_mul,hdiv _ _ (by omega),hdiv _ _ (by omega)];simp only [ofD];omega
 have e6:st6 (ofD [a+b+c+d,b+c+d+e,c+d+e+f,d+e+f+g,e+f+g+h,f+g+h,g+h,h])=ofD [a+b+c+d+e+f+g+h,b+c+d+e+f+g+h,c+d+e+f+g+h,d+e+f+g+h,e+f+g+h,f+g+h,g+h,h]:=by
  unfold st6;rw [show (4294967296:Nat)=256*256*256*256 from rfl,← Nat.div_div_eq_div_mul,← Nat.div_div_eq_div_mul,← Nat.div_div_eq_div_mul,hdiv _ _ (by omega),hdiv _ _ (by omega),hdiv _ _ (by omega),hdiv _ _ (by omega)];simp only [ofD];omega
 rw [e4,e5,e6];have:∀ (s:Nat) (l:List Nat),ofD (s::l) % 128=s % 128:=fun s l=>by simp only [ofD];omega
 rw [this];omega
theorem Zi (x:Nat) (h:x<18446744073709551616) :
  st1 x<18446744073709551616∧st2 (st1 x)≤4919131752989213764∧st3 (st2 (st1 x))≤578721382704613384∧st6 (st5 (st4 (st3 (st2 (st1 x))))) % 128=cnt x.testBit 64:=by
 have hx:=Ahf x h;generalize hl:[x % 256,x / 256 % 256,x / 65536 % 256,x / 16777216 % 256,x / 4294967296 % 256,x / 1099511627776 % 256,x / 281474976710656 % 256,x / 72057594037927936 % 256]=l at hx;have hlen:l.length=8:=by rw [← hl];rfl
 have hb:∀ d∈l,d<256:=by
  rw [← hl];intro d hd
  simp only [List.mem_cons,List.not_mem_nil,or_false] at hd;omega
 have e1:st1 x=ofD (l.map b1):=by
  rw [hx,← Aap l hb,hlen];rfl
 have hb1:∀ d∈l.map b1,d<256:=by
  intro d hd;obtain ⟨d0,h0,rfl⟩:=List.mem_map.1 hd;exact (t1 d0 (hb d0 h0) 0 (by omega)).2
 have e2:st2 (st1 x)=ofD ((l.map b1).map b2):=by
  rw [e1,← Aao _ hb1,List.length_map,hlen];rfl
 have hb2:∀ d∈(l.map b1).map b2,d<256∧nib d=true:=by
  intro d hd;obtain ⟨d0,h0,rfl⟩:=List.mem_map.1 hd;obtain ⟨d1,h1,rfl⟩:=List.mem_map.1 h0;exact ⟨(t2 _ (t1 d1 (hb d1 h1) 0 (by omega)).2 0 (by omega)).2,t4 d1 (hb d1 h1)⟩
 have e3:st3 (st2 (st1 x))=ofD (((l.map b1).map b2).map b3):=by
  rw [e2,← Aan _ hb2,List.length_map,List.length_map,hlen];rfl
 have e4:((l.map b1).map b2).map b3=l.map fun d=>cnt d.testBit 8:=by
  rw [List.map_map,List.map_map];apply List.map_congr_left;intro d hd;exact Ab7 d (hb d hd)
 have e5:=Ahr l hb;rw [hlen,← hx] at e5;rw [e4] at e3;have hlt1:∀ (m:List Nat),m.length=8→(∀ d∈m,d<256)→ofD m<18446744073709551616:=by
  intro m hm hd
  match m,hm with
  | [a,b,c,d,e,f,g,i],_=>
   simp only [List.mem_cons,List.not_mem_nil,or_false,forall_eq_or_imp,forall_eq] at hd;simp only [ofD];omega
 have hlt2:∀ (m:List Nat),m.length=8→(∀ d∈m,d<256∧nib d=true)→ofD m≤4919131752989213764:=by
  intro m hm hd;have hd':∀ d∈m,d≤68:=fun d h=>by
   have:=(hd d h).2;simp only [nib,Bool.and_eq_true,decide_eq_true_eq] at this;omega
  match m,hm with
  | [a,b,c,d,e,f,g,i],_=>
   simp only [List.mem_cons,List.not_mem_nil,or_false,forall_eq_or_imp,forall_eq] at hd';simp only [ofD];omega
 refine ⟨by rw [e1];exact hlt1 _ (by simp [hlen]) hb1,by rw [e2];exact hlt2 _ (by simp [hlen]) hb2,?_,?_⟩
 ·rw [e3]
  match l,hlen with
  | [a,b,c,d,e,f,g,i],_=>
   simp only [List.map_cons,List.map_nil,ofD];have:=Ct a.testBit 8;have:=Ct b.testBit 8;have:=Ct c.testBit 8;have:=Ct d.testBit 8
   have:=Ct e.testBit 8;have:=Ct f.testBit 8;have:=Ct g.testBit 8;have:=Ct i.testBit 8
   omega
 ·rw [e3,e5]
  match l,hlen with
  | [a,b,c,d,e,f,g,i],_=>
   rw [List.map_cons,List.map_cons,List.map_cons,List.map_cons,List.map_cons,List.map_cons,List.map_cons,List.map_cons,List.map_nil];rw [Y0 _ _ _ _ _ _ _ _ (Ct _ _) (Ct _ _) (Ct _ _) (Ct _ _) (Ct _ _) (Ct _ _) (Ct _ _) (Ct _ _)];simp only [List.sum_cons,List.sum_nil];omega
structure Ext (w W:World):Prop where
 below:Below w.heap.size w W
theorem Ext.refl (w:World):Ext w w:=⟨Below.refl _ _⟩
theorem Ext.trans {a b c:World} (h:Ext a b) (k:Ext b c):Ext a c:=
 ⟨h.below.trans (k.below.mono h.below.size)⟩
theorem Ext.alloc {a b:World} (h:Ext a b) (o:Obj):Ext a (b.alloc o):=⟨h.below.alloc h.below.size o⟩
theorem Ext.drew {a b:World} (h:Ext a b):Ext a b.drew:=⟨h.below.drew⟩
theorem Ext.drawn1 {a b:World} (h:Ext a b):Ext a { b with drawn:=b.drawn+1 }:=h.drew
theorem Ext.setCell {a b:World} (h:Ext a b) {p:Addr} (hp:a.heap.size≤p.block) (v:Value):Ext a (b.setCell p v):=⟨h.below.setCell hp v⟩
theorem B3 (w:World) (g:Nat) (cs:Array Value):w.grownBy (w.setRow g cs) (some g):=
 ⟨rfl,rfl,rfl,by simp,fun k _ hk=>setRow_other w g k cs (fun e=>hk (by rw [e]))⟩
theorem Ext.setRow {a b:World} (h:Ext a b) {g:Nat} (hg:a.heap.size≤g) (cs:Array Value):Ext a (b.setRow g cs):=
 ⟨h.below.grown (B3 b g cs) h.below.size (fun k e=>by cases e;exact hg)⟩
theorem Ext.grown {a b c:World} {row:Option Nat} (h:Ext a b) (hg:b.grownBy c row) (hr:∀ k,row=some k→a.heap.size≤k):Ext a c:=⟨h.below.grown hg h.below.size hr⟩
theorem Ext.size {a b:World} (h:Ext a b):a.heap.size≤b.heap.size:=h.below.size
theorem Ext.block {a b:World} (h:Ext a b) {k:Nat} (hk:k<a.heap.size):b.heap[k]? = a.heap[k]? := h.below.block k hk
theorem Ext.heap {a b:World} (h:Ext a b) {k:Nat} {o:Obj} (hk:a.heap[k]? = some o):b.heap[k]? = some o:=
 (h.block (Array.getElem?_eq_some_iff.1 hk).1).trans hk
theorem Ext.cell {a b:World} (h:Ext a b) {p:Addr} {v:Value} (hc:a.cell? p=some v):b.cell? p=some v:=
 (h.below.cell (World.block_lt_of_cell? a p hc)).trans hc
theorem Af {w:World} {k:Nat} {o:Obj} (h:w.heap[k]? = some o) (x:Obj):(w.alloc x).heap[k]? = some o:=
 (Below.heap_alloc w x k (Array.getElem?_eq_some_iff.1 h).1).trans h
theorem Bg {w:World} {k:Nat} {o:Obj} (h:w.heap[k]? = some o) {g:Nat} (hne:k≠g) (cs:Array Value):(w.setRow g cs).heap[k]? = some o:=
 (setRow_other w g k cs hne).trans h
theorem Ak {w:World} {k:Nat} {o:Obj} (h:w.heap[k]? = some o):k<w.heap.size:=(Array.getElem?_eq_some_iff.1 h).1
def Sl (W:World) (v:Value) (k n:Nat) (f:Nat→Value):Prop:=
 n≤4611686018427387904∧((n=0∧∃ a cap,v=.slice a 0 cap)∨
  (0<n∧∃ b off cap,v=.slice (some ⟨b,off,none⟩) n cap∧b<W.heap.size∧∀ i,i<n*k→W.cell? ⟨b,off+i,none⟩=some (f i)))
theorem Sl.ext {W W':World} {v:Value} {k n:Nat} {f:Nat→Value} (h:Sl W v k n f) (hE:Ext W W'):Sl W' v k n f:=by
 obtain ⟨h0,h|⟨hn,b,off,cap,hv,hb,hc⟩⟩:=h
 ·exact ⟨h0,.inl h⟩
 ·exact ⟨h0,.inr ⟨hn,b,off,cap,hv,Nat.lt_of_lt_of_le hb hE.size,fun i hi=>hE.cell (hc i hi)⟩⟩
theorem Sl.congr {W:World} {v:Value} {k n:Nat} {f g:Nat→Value} (h:Sl W v k n f) (hfg:∀ i,i<n*k→f i=g i):Sl W v k n g:=by
 obtain ⟨h0,h|⟨hn,b,off,cap,hv,hb,hc⟩⟩:=h
 ·exact ⟨h0,.inl h⟩
 ·exact ⟨h0,.inr ⟨hn,b,off,cap,hv,hb,fun i hi=>by rw [hc i hi,hfg i hi]⟩⟩
theorem Sl.nil (W:World) (k:Nat) (f:Nat→Value):Sl W (.slice none 0 0) k 0 f:=⟨by omega,.inl ⟨rfl,_,_,rfl⟩⟩
abbrev bv (x:UInt8):Value:=.int .u8 (x.toNat:Int)
def By (W:World) (v:Value) (l:List UInt8):Prop:=Sl W v 1 l.length (fun i=>bv (l.getD i 0))
theorem Ext.grownBy {a b:World} (h:Ext a b) (row:Option Nat):a.grownBy b row:=⟨h.below.os,h.below.tape,h.below.output,h.size,fun _ hk _=>h.block hk⟩
theorem Ah {a b:World} {base:Nat} {e:TypeId} {size:Nat} {v:Value} {n:Nat} {xs:List Value} (h:a.ownsRow base e size v n xs) (hE:Ext a b):b.ownsRow base e size v n xs:=
 h.kept (hE.grownBy none) (by cases v.ownBlock<;>simp)
theorem Sl.of_owns {w:World} {base:Nat} {e:TypeId} {k:Nat} {v:Value} {n:Nat} {xs:List Value} (h:w.ownsRow base e k v n xs) (hn:n≤4611686018427387904) (d:Value):Sl w v k n (fun i=>xs.getD i d):=by
 refine ⟨hn,?_⟩;obtain ⟨hl,⟨rfl,rfl⟩|⟨g,cap,cur,rfl,hb,hg,hnc,hcm,hcs,htake⟩⟩:=h
 ·exact .inl ⟨rfl,_,_,rfl⟩
 ·by_cases h0:n=0
  ·subst h0;exact .inl ⟨rfl,_,_,rfl⟩
  ·refine .inr ⟨by omega,g,0,cap,rfl,Ak hg,fun i hi=>?_⟩;rw [Nat.zero_add,cell_of_row w g i cur e (0,0) hg];have h1:xs[i]? = cur.toList[i]? := by rw [← htake,List.getElem?_take,if_pos hi]
   have h2:i<xs.length:=by omega
   show cur[i]? = some (xs.getD i d);rw [List.getD_eq_getElem?_getD,List.getElem?_eq_getElem h2,Option.getD_some,← Array.getElem?_toList,← h1,List.getElem?_eq_getElem h2]
theorem By.of_owns {w:World} {base:Nat} {v:Value} {l:List UInt8} (h:w.ownsRow base 5 1 v l.length (l.map bv)) (hn:l.length≤4611686018427387904):By w v l:=
 (Sl.of_owns h hn (bv 0)).congr fun i hi=>by
  simp only [List.getD_eq_getElem?_getD,List.getElem?_map];cases l[i]?<;>rfl
theorem By.ext {W W':World} {v:Value} {l:List UInt8} (h:By W v l) (hE:Ext W W'):By W' v l:=Sl.ext h hE
theorem By.len {W:World} {v:Value} {l:List UInt8} (h:By W v l):∃ a cap,v=.slice a l.length cap:=by
 obtain ⟨_,⟨hn,a,cap,rfl⟩|⟨_,b,off,cap,rfl,_⟩⟩:=h
 ·exact ⟨a,cap,by rw [hn]⟩
 ·exact ⟨_,cap,rfl⟩
theorem Hf {a b:Bool} (h:a=b):Ending.returned (.bool a)=.returned (.bool b):=by rw [h]
theorem Nn {k:IntKind} {a b:Int} (h:a=b):Ending.returned (.int k a)=.returned (.int k b):=by rw [h]
theorem Pw (w:World) (cs:Array Value) (t:TypeId) (i:Nat) (v:Value) (h:cs[i]? = some v):(w.alloc (.cells cs t)).cell? ⟨w.heap.size,i,none⟩=some v:=
 (cell_of_row _ _ i cs t (0,0) (heap_alloc_new w _)).trans h
theorem Sm (c:Cls) (b:Int) (hb0:0≤b) (hb:b<256) (w:World) :
  Calls Tryz.prog 136 #[.agg (Aa c),.int .u8 b] w fun e w'=>e=.returned (.bool (Bb c b))∧Ext w w':=by
 have hc:=Pw w (Aa c) 62 (b / 64).toNat _ (E1 c _ (by omega));have ⟨h1,h2⟩:=E7 c (b / 64).toNat;go_enter Tryz.func136,Tryz.ntmps136;go_wp2;go_ret;exact ⟨Hf (Abd c b hb0 hb),(Ext.refl w).alloc _⟩
theorem Uo (c:Cls) (b:Int) (hb0:0≤b) (hb:b<256) (w:World) :
  Calls Tryz.prog 131 #[.agg (Aa c),.int .u8 b] w fun e w'=>e=.returned (.bool (Bb c b))∧Ext w w':=by
 have hc:=Pw w (Aa c) 62 (b / 64).toNat _ (E1 c _ (by omega));have ⟨h1,h2⟩:=E7 c (b / 64).toNat;go_enter Tryz.func131,Tryz.ntmps131;go_wp2;go_ret;exact ⟨Hf (Aid c b hb0 hb),(Ext.refl w).alloc _⟩
theorem Au:(Tryz.prog.info? 62).map (·.size)=some 4:=by kernel_rfl
theorem De (c:Cls):(Aa c).all (·.oneCell')=true:=by simp [Value.oneCell']
theorem Q5 (c:Cls) (b:Int) (hb0:0≤b) (hb:b<256) (w:World) :
  Calls Tryz.prog 124 #[.agg (Aa c),.int .u8 b] w fun e w'=>e=.returned (.agg (Aa (Bj c b)))∧Ext w w':=by
 have ⟨h1,h2⟩:=E7 c (b / 64).toNat;go_enter Tryz.func124,Tryz.ntmps124;go_upto_region 2 with (fail)
 go_cut [] (fun W=>Ext w W∧W.heap[w.heap.size]? = some (.cells (Aa (Bj c b)) 62 (0,0))∧W.heap[w.heap.size+1]? = some (.cells #[.int .u64 0,.int .u64 0,.int .u64 0,.int .u64 0] 62 (0,0)))
 case first=>
  have hE:=((Ext.refl w).alloc (.cells (Aa c) 62)).alloc (.cells #[.int .u64 0,.int .u64 0,.int .u64 0,.int .u64 0] 62);have hB:=Af (heap_alloc_new w (.cells (Aa c) 62)) (.cells #[.int .u64 0,.int .u64 0,.int .u64 0,.int .u64 0] 62);have hR:=heap_alloc2_new w (.cells (Aa c) 62) (.cells #[.int .u64 0,.int .u64 0,.int .u64 0,.int .u64 0] 62);generalize (w.alloc (.cells (Aa c) 62)).alloc (.cells #[.int .u64 0,.int .u64 0,.int .u64 0,.int .u64 0] 62)=W at *;have hc:=(cell_of_row W _ (b / 64).toNat _ _ _ hB).trans (E1 c _ (by omega));have hf:=frozen_of_row W _ (b / 64).toNat _ _ hB;go_wp2;go_meet
  rw [Qi c b hb0 hb,setCell_eq_setRow W _ _ _ _ _ _ hB,Qj c b hb0 hb];exact ⟨hE.setRow (Nat.le_refl _) _,setRow_heap W _ _ _ _ _ hB,Bg hR (by omega) _⟩
 case rest=>
  obtain ⟨hE,hB,hR⟩:=hcut;have HB:=Lib.hid hB;have HR:=Lib.hid hR;clear hB hR;go_wp2_with (first
   | (refine wpList_load_row rfl 62 _ rfl _ rfl _ _ _ _ HB.out Tryz.underlying62 rfl Au ?_)
   | (refine wpList_store_row rfl 62 _ _ rfl _ _ rfl rfl _ _ HR.out Au rfl (De _) ?_))
  refine bodyPost_ret (v:=.agg (Aa (Bj c b))) (results_cell_row rfl _ _ _ _ _ _ _ rfl (setRow_heap wc _ _ (Aa (Bj c b)) 62 (0,0) HR.out) Tryz.underlying62 rfl Au) rfl ?_;exact ⟨rfl,hE.setRow (by omega) _⟩
open Go.RowKit Go.Shelf
def upto (g:Nat→Int) (i:Nat):Array Value:=
 #[.int .u64 (if 0<i then g 0 else 0),.int .u64 (if 1<i then g 1 else 0),.int .u64 (if 2<i then g 2 else 0),.int .u64 (if 3<i then g 3 else 0)]
theorem Yd (g:Nat→Int) (i:Nat) (h:i<4):(upto g i).setIfInBounds i (.int .u64 (g i))=upto g (i+1):=by
 match i,h with
 | 0,_=>rfl
 | 1,_=>rfl
 | 2,_=>rfl
 | 3,_=>rfl
theorem Ye (g:Nat→Int) (i j:Nat) (h:j<4):(upto g i)[j]? = some (.int .u64 (if j<i then g j else 0)):=by
 match j,h with
 | 0,_=>rfl
 | 1,_=>rfl
 | 2,_=>rfl
 | 3,_=>rfl
def J1 (g:Nat) (F:Int→Int→Int):Prop:=
 ∀ (x y:Int) (w:World),0≤x→x<18446744073709551616→0≤y→y<18446744073709551616→
  Calls Tryz.prog g #[.int .u64 x,.int .u64 y] w fun e w'=>e=.returned (.int .u64 (F x y))∧w'=w
theorem Lv (g:Nat) (F:Int→Int→Int) (hg:J1 g F) (eg:∀ args w,(callFunc g args).run Tryz.prog w=.ok (.enter g args) w) (a b c:Cls) (hc:∀ i,i<4→F (wd a i) (wd b i)=wd c i) (w:World) :
  Calls Tryz.prog 125 #[.agg (Aa a),.agg (Aa b),.func (.func g) #[] #[]] w fun e w'=>e=.returned (.agg (Aa c))∧Ext w w':=by
 go_enter Tryz.func125,Tryz.ntmps125;go_wp2_with (fail);have hz:(#[.int .u64 0,.int .u64 0,.int .u64 0,.int .u64 0]:Array Value)=upto (wd c) 0:=rfl;go_loopw [9] (fun i W=>∃ k:Nat,k≤4∧i=.int .i64 k∧Ext w W∧W.heap[w.heap.size]? = some (.cells (Aa a) 62 (0,0))∧W.heap[w.heap.size+1]? = some (.cells (Aa b) 62 (0,0))∧
   W.heap[w.heap.size+1+1]? = some (.cells (upto (wd c) 0) 62 (0,0))∧W.heap[w.heap.size+1+1+1]? = some (.cells (upto (wd c) k) 62 (0,0)))
  (fun i _=>4-(intOf i).toNat)
 case atStart=>
  refine ⟨0,by omega,rfl,((((Ext.refl w).alloc _).alloc _).alloc _).alloc _,?_,?_,?_,?_⟩
  ·exact Af (Af (Af (heap_alloc_new w _) _) _) _
  ·have h:=Af (Af (heap_alloc_new (w.alloc (.cells (Aa a) 62)) (.cells (Aa b) 62)) (.cells (upto (wd c) 0) 62)) (.cells (upto (wd c) 0) 62)
   rwa [World.size_alloc] at h
  ·have h:=Af (heap_alloc_new ((w.alloc (.cells (Aa a) 62)).alloc (.cells (Aa b) 62)) (.cells (upto (wd c) 0) 62)) (.cells (upto (wd c) 0) 62)
   rwa [World.size_alloc,World.size_alloc] at h
  ·have h:=heap_alloc_new (((w.alloc (.cells (Aa a) 62)).alloc (.cells (Aa b) 62)).alloc (.cells (upto (wd c) 0) 62)) (.cells (upto (wd c) 0) 62)
   rwa [World.size_alloc,World.size_alloc,World.size_alloc] at h
 case round=>
  obtain ⟨k,hk,rfl,hE,hA,hB,hR,hC⟩:=hrel;have HA:=Lib.hid hA;have HB:=Lib.hid hB;have HC:=Lib.hid hC;have HR:=Lib.hid hR;clear hA hB hC hR hz;by_cases hlt:k<4
  ·have cA:=(cell_of_row wr _ k _ _ _ HA.out).trans (E1 a k hlt);have cB:=(cell_of_row wr _ k _ _ _ HB.out).trans (E1 b k hlt);have cC:=(cell_of_row wr _ k _ _ _ HC.out).trans (Ye (wd c) k k hlt);have fC:=frozen_of_row wr _ k _ _ HC.out;have ba:=E7 a k;have bb:=E7 b k;go_upto_block 1 with (fail)
   go_cut [] (fun W=>Ext w W∧W.heap[w.heap.size]? = some (.cells (Aa a) 62 (0,0))∧W.heap[w.heap.size+1]? = some (.cells (Aa b) 62 (0,0))∧
    W.heap[w.heap.size+1+1]? = some (.cells (upto (wd c) 0) 62 (0,0))∧W.heap[w.heap.size+1+1+1]? = some (.cells (upto (wd c) (k+1)) 62 (0,0)))
   case first=>
    go_wp2;go_region_with (go_at_fn g;refine (hg _ _ _ ba.1 ba.2 bb.1 bb.2).mono ?_;rintro e w' ⟨rfl,rfl⟩)
    all_goals
     go_wp2;go_meet
     rw [setCell_eq_setRow wr _ _ _ _ _ _ HC.out,Yd _ _ hlt];exact ⟨(hE.setRow (by omega) _).drew,Bg HA.out (by omega) _,Bg HB.out (by omega) _,Bg HR.out (by omega) _,setRow_heap wr _ _ _ _ _ HC.out⟩
   case rest=>
    obtain ⟨hE',hA',hB',hR',hC'⟩:=hcut;have HA':=Lib.hid hA';have HB':=Lib.hid hB';have HC':=Lib.hid hC';have HR':=Lib.hid hR';clear hA' hB' hC' hR' cA cB cC fC;go_wp2;go_roundw
    case rel=>exact ⟨k+1,by omega,by go_num,hE',HA'.out,HB'.out,HR'.out,HC'.out⟩
    case measure=>simp [intOf];omega
  ·obtain rfl:k=4:=by omega
   have hC4:wr.heap[w.heap.size+1+1+1]? = some (.cells (Aa c) 62 (0,0)):=HC.out;have HC4:=Lib.hid hC4;clear hC4;go_wp2_with (first
    | (refine wpList_load_row rfl 62 _ rfl _ rfl _ _ _ _ HC4.out Tryz.underlying62 rfl Au ?_)
    | (refine wpList_store_row rfl 62 _ _ rfl _ _ rfl rfl _ _ HR.out Au rfl (De _) ?_))
   refine bodyPost_ret (v:=.agg (Aa c)) (results_cell_row rfl _ _ _ _ _ _ _ rfl (setRow_heap wr _ _ (Aa c) 62 (0,0) HR.out) Tryz.underlying62 rfl Au) rfl ?_;exact ⟨rfl,hE.setRow (by omega) _⟩
theorem Ac4:J1 127 (bits BinOp.or IntKind.u64):=by
 intro x y w h1 h2 h3 h4;go_enter Tryz.func127,Tryz.ntmps127;go_wp2;go_ret;exact ⟨rfl,rfl⟩
theorem Ac3:J1 126 (bits BinOp.and IntKind.u64):=by
 intro x y w h1 h2 h3 h4;go_enter Tryz.func126,Tryz.ntmps126;go_wp2;go_ret;exact ⟨rfl,rfl⟩
theorem Ac2:J1 159 (bits BinOp.andNot IntKind.u64):=by
 intro x y w h1 h2 h3 h4;go_enter Tryz.func159,Tryz.ntmps159;go_wp2;go_ret;exact ⟨rfl,rfl⟩
theorem Ac1:J1 128 (fun x _=>bits BinOp.xor IntKind.u64 IntKind.u64.max x):=by
 intro x y w h1 h2 h3 h4;go_enter Tryz.func128,Tryz.ntmps128;go_wp2;all_goals go_ret
 all_goals exact ⟨rfl,rfl⟩
theorem Q8 (a b:Cls) (w:World) :
  Calls Tryz.prog 93 #[.agg (Aa a),.agg (Aa b)] w fun e w'=>e=.returned (.agg (Aa (a ||| b)))∧Ext w w':=by
 have eg:∀ args w,(callFunc 127 args).run Tryz.prog w=.ok (.enter 127 args) w:=enters_of Tryz.func127 (by kernel_rfl) rfl;have hA:=Af (Af (heap_alloc_new w (.cells (Aa a) 62)) (.cells (Aa b) 62)) (.cells #[.int .u64 0,.int .u64 0,.int .u64 0,.int .u64 0] 62);have hB:=Af (heap_alloc_new (w.alloc (.cells (Aa a) 62)) (.cells (Aa b) 62)) (.cells #[.int .u64 0,.int .u64 0,.int .u64 0,.int .u64 0] 62);have hR:=heap_alloc_new ((w.alloc (.cells (Aa a) 62)).alloc (.cells (Aa b) 62)) (.cells #[.int .u64 0,.int .u64 0,.int .u64 0,.int .u64 0] 62);have hE:=(((Ext.refl w).alloc (.cells (Aa a) 62)).alloc (.cells (Aa b) 62)).alloc (.cells #[.int .u64 0,.int .u64 0,.int .u64 0,.int .u64 0] 62);rw [World.size_alloc] at hB;rw [World.size_alloc,World.size_alloc] at hR;have HB:=Lib.hid hB;clear hB;have HA:=Lib.hid hA;have HR:=Lib.hid hR;clear hA hR;have hcon:=fun W=>Lv 127 _ Ac4 eg a b (a ||| b) (fun i hi=>Acx a b i hi) W
 clear eg;go_enter Tryz.func93,Tryz.ntmps93;go_wp2_with (first
  | (refine wpList_load_row rfl 62 (.tmp 2) rfl _ rfl _ _ _ _ HA.out Tryz.underlying62 rfl Au ?_)
  | (refine wpList_load_row rfl 62 (.tmp 3) rfl _ rfl _ _ _ _ HB.out Tryz.underlying62 rfl Au ?_)
  | (go_at_call 125;refine (hcon _).mono ?_;rintro e w' ⟨rfl,hE'⟩;have HR':=Lib.hid (hE'.heap HR.out);clear hcon)
  | (refine wpList_store_row rfl 62 _ _ rfl _ _ rfl rfl _ _ HR'.out Au rfl (De _) ?_))
 refine bodyPost_ret (v:=.agg (Aa (a ||| b))) (results_cell_row rfl _ _ _ _ _ _ _ rfl (setRow_heap w' _ _ (Aa (a ||| b)) 62 (0,0) HR'.out) Tryz.underlying62 rfl Au) rfl ?_;exact ⟨rfl,(hE.trans hE').setRow (by omega) _⟩
theorem Ua (a b:Cls) (w:World) :
  Calls Tryz.prog 92 #[.agg (Aa a),.agg (Aa b)] w fun e w'=>e=.returned (.agg (Aa (a &&& b)))∧Ext w w':=by
 have eg:∀ args w,(callFunc 126 args).run Tryz.prog w=.ok (.enter 126 args) w:=enters_of Tryz.func126 (by kernel_rfl) rfl;have hA:=Af (Af (heap_alloc_new w (.cells (Aa a) 62)) (.cells (Aa b) 62)) (.cells #[.int .u64 0,.int .u64 0,.int .u64 0,.int .u64 0] 62);have hB:=Af (heap_alloc_new (w.alloc (.cells (Aa a) 62)) (.cells (Aa b) 62)) (.cells #[.int .u64 0,.int .u64 0,.int .u64 0,.int .u64 0] 62);have hR:=heap_alloc_new ((w.alloc (.cells (Aa a) 62)).alloc (.cells (Aa b) 62)) (.cells #[.int .u64 0,.int .u64 0,.int .u64 0,.int .u64 0] 62);have hE:=(((Ext.refl w).alloc (.cells (Aa a) 62)).alloc (.cells (Aa b) 62)).alloc (.cells #[.int .u64 0,.int .u64 0,.int .u64 0,.int .u64 0] 62);rw [World.size_alloc] at hB;rw [World.size_alloc,World.size_alloc] at hR;have HB:=Lib.hid hB;clear hB;have HA:=Lib.hid hA;have HR:=Lib.hid hR;clear hA hR;have hcon:=fun W=>Lv 126 _ Ac3 eg a b (a &&& b) (fun i hi=>Ajk a b i hi) W
 clear eg;go_enter Tryz.func92,Tryz.ntmps92;go_wp2_with (first
  | (refine wpList_load_row rfl 62 (.tmp 2) rfl _ rfl _ _ _ _ HA.out Tryz.underlying62 rfl Au ?_)
  | (refine wpList_load_row rfl 62 (.tmp 3) rfl _ rfl _ _ _ _ HB.out Tryz.underlying62 rfl Au ?_)
  | (go_at_call 125;refine (hcon _).mono ?_;rintro e w' ⟨rfl,hE'⟩;have HR':=Lib.hid (hE'.heap HR.out);clear hcon)
  | (refine wpList_store_row rfl 62 _ _ rfl _ _ rfl rfl _ _ HR'.out Au rfl (De _) ?_))
 refine bodyPost_ret (v:=.agg (Aa (a &&& b))) (results_cell_row rfl _ _ _ _ _ _ _ rfl (setRow_heap w' _ _ (Aa (a &&& b)) 62 (0,0) HR'.out) Tryz.underlying62 rfl Au) rfl ?_;exact ⟨rfl,(hE.trans hE').setRow (by omega) _⟩
theorem Ad5 (a b:Cls) (w:World) :
  Calls Tryz.prog 154 #[.agg (Aa a),.agg (Aa b)] w fun e w'=>e=.returned (.agg (Aa (a &&& ~~~b)))∧Ext w w':=by
 have eg:∀ args w,(callFunc 159 args).run Tryz.prog w=.ok (.enter 159 args) w:=enters_of Tryz.func159 (by kernel_rfl) rfl;have hA:=Af (Af (heap_alloc_new w (.cells (Aa a) 62)) (.cells (Aa b) 62)) (.cells #[.int .u64 0,.int .u64 0,.int .u64 0,.int .u64 0] 62);have hB:=Af (heap_alloc_new (w.alloc (.cells (Aa a) 62)) (.cells (Aa b) 62)) (.cells #[.int .u64 0,.int .u64 0,.int .u64 0,.int .u64 0] 62);have hR:=heap_alloc_new ((w.alloc (.cells (Aa a) 62)).alloc (.cells (Aa b) 62)) (.cells #[.int .u64 0,.int .u64 0,.int .u64 0,.int .u64 0] 62);have hE:=(((Ext.refl w).alloc (.cells (Aa a) 62)).alloc (.cells (Aa b) 62)).alloc (.cells #[.int .u64 0,.int .u64 0,.int .u64 0,.int .u64 0] 62);rw [World.size_alloc] at hB;rw [World.size_alloc,World.size_alloc] at hR;have HB:=Lib.hid hB;clear hB;have HA:=Lib.hid hA;have HR:=Lib.hid hR;clear hA hR;have hcon:=fun W=>Lv 159 _ Ac2 eg a b (a &&& ~~~b) (fun i hi=>Ad4 a b i hi) W
 clear eg;go_enter Tryz.func154,Tryz.ntmps154;go_wp2_with (first
  | (refine wpList_load_row rfl 62 (.tmp 2) rfl _ rfl _ _ _ _ HA.out Tryz.underlying62 rfl Au ?_)
  | (refine wpList_load_row rfl 62 (.tmp 3) rfl _ rfl _ _ _ _ HB.out Tryz.underlying62 rfl Au ?_)
  | (go_at_call 125;refine (hcon _).mono ?_;rintro e w' ⟨rfl,hE'⟩;have HR':=Lib.hid (hE'.heap HR.out);clear hcon)
  | (refine wpList_store_row rfl 62 _ _ rfl _ _ rfl rfl _ _ HR'.out Au rfl (De _) ?_))
 refine bodyPost_ret (v:=.agg (Aa (a &&& ~~~b))) (results_cell_row rfl _ _ _ _ _ _ _ rfl (setRow_heap w' _ _ (Aa (a &&& ~~~b)) 62 (0,0) HR'.out) Tryz.underlying62 rfl Au) rfl ?_;exact ⟨rfl,(hE.trans hE').setRow (by omega) _⟩
theorem Ti (a:Cls) (w:World) :
  Calls Tryz.prog 94 #[.agg (Aa a)] w fun e w'=>e=.returned (.agg (Aa (~~~a)))∧Ext w w':=by
 have eg:∀ args w,(callFunc 128 args).run Tryz.prog w=.ok (.enter 128 args) w:=enters_of Tryz.func128 (by kernel_rfl) rfl;have hA:=Af (heap_alloc_new w (.cells (Aa a) 62)) (.cells #[.int .u64 0,.int .u64 0,.int .u64 0,.int .u64 0] 62);have hR:=heap_alloc_new (w.alloc (.cells (Aa a) 62)) (.cells #[.int .u64 0,.int .u64 0,.int .u64 0,.int .u64 0] 62);have hE:=((Ext.refl w).alloc (.cells (Aa a) 62)).alloc (.cells #[.int .u64 0,.int .u64 0,.int .u64 0,.int .u64 0] 62);rw [World.size_alloc] at hR;have HA:=Lib.hid hA;have HR:=Lib.hid hR;clear hA hR;have hcon:=fun W=>Lv 128 _ Ac1 eg a a (~~~a) (fun i hi=>Adg a i hi) W
 clear eg;go_enter Tryz.func94,Tryz.ntmps94;go_wp2_with (first
  | (refine wpList_load_row rfl 62 (.tmp 1) rfl _ rfl _ _ _ _ HA.out Tryz.underlying62 rfl Au ?_)
  | (go_at_call 125;refine (hcon _).mono ?_;rintro e w' ⟨rfl,hE'⟩;have HR':=Lib.hid (hE'.heap HR.out);clear hcon)
  | (refine wpList_store_row rfl 62 _ _ rfl _ _ rfl rfl _ _ HR'.out Au rfl (De _) ?_))
 refine bodyPost_ret (v:=.agg (Aa (~~~a))) (results_cell_row rfl _ _ _ _ _ _ _ rfl (setRow_heap w' _ _ (Aa (~~~a)) 62 (0,0) HR'.out) Tryz.underlying62 rfl Au) rfl ?_;exact ⟨rfl,(hE.trans hE').setRow (by omega) _⟩
theorem Ajt (c:Cls) (b:Int) (hb0:0≤b) (hb:b<256) (B:Nat) (t:TypeId) (w:World) (hB:w.heap[B]? = some (.cells (Aa c) t (0,0))) :
  Calls Tryz.prog 90 #[.pointer (some ⟨B,0,none⟩),.int .u8 b] w fun e w'=>e=.returned (.tuple #[])∧w'=(w.setRow B (Aa (Bj c b))).drew:=by
 have hc:=(cell_of_row w _ (b / 64).toNat _ _ _ hB).trans (E1 c _ (by omega));have hf:=frozen_of_row w _ (b / 64).toNat _ _ hB;have ⟨h1,h2⟩:=E7 c (b / 64).toNat;have HB:=Lib.hid hB;clear hB;go_enter Tryz.func90,Tryz.ntmps90;go_wp2;go_region
 all_goals
  go_end0
  rw [Qi c b hb0 hb,setCell_eq_setRow w _ _ _ _ _ _ HB.out,Qj c b hb0 hb];exact ⟨rfl,rfl⟩
def ofL (l:List UInt8):Cls:=l.foldl (fun c x=>Bj c (x.toNat:Int)) 0#256
theorem Tf (l:List UInt8) (k:Nat) (h:k<l.length):ofL (l.take (k+1))=Bj (ofL (l.take k)) ((l.getD k 0).toNat:Int):=by
 unfold ofL;rw [List.take_succ_eq_append_getElem h,List.foldl_append];simp [List.getD_eq_getElem?_getD,h]
abbrev zA:Array Value:=#[.int .u64 0,.int .u64 0,.int .u64 0,.int .u64 0]
theorem Ee:Aa 0#256=zA:=by simp [Aa,J8]
theorem Tc (l:List UInt8) (hl:l.length≤9223372036854775807) (a:Option Addr) (b off cap:Nat) (w:World) (ha:0<l.length→a=some ⟨b,off,none⟩) (_hb:0<l.length→b<w.heap.size)
  (hc:∀ i,i<l.length→w.cell? ⟨b,off+i,none⟩=some (bv (l.getD i 0))) :
  Calls Tryz.prog 44 #[.slice a l.length cap] w fun e w'=>e=.returned (.agg (Aa (ofL l)))∧Ext w w':=by
 go_enter Tryz.func44,Tryz.ntmps44;go_wp2_with (fail);go_loopw [8] (fun i W=>∃ k:Nat,k≤l.length∧i=.int .i64 k∧Ext w W∧W.heap[w.heap.size]? = some (.cells zA 62 (0,0))∧W.heap[w.heap.size+1]? = some (.cells (Aa (ofL (l.take k))) 62 (0,0)))
  (fun i _=>l.length-(intOf i).toNat)
 case atStart=>
  refine ⟨0,by omega,rfl,((Ext.refl w).alloc _).alloc _,Af (heap_alloc_new w _) _,?_⟩;rw [show ofL (l.take 0)=0#256 from rfl,Ee];exact heap_alloc2_new w _ _
 case round=>
  obtain ⟨k,hk,rfl,hE,hR,hC⟩:=hrel;have HC:=Lib.hid hC;have HR:=Lib.hid hR;clear hC hR;by_cases hlt:k<l.length
  ·have cA:=hE.cell (hc k hlt);have HS:=Lib.hid (Tf l k (by omega));have hx:=(l.getD k 0).toNat_lt;have e:=ha (by omega);clear ha hc;subst e;generalize l.getD k 0=x at *;have HA:=Lib.hid (Ajt (ofL (l.take k)) (x.toNat:Int) (by omega) (by omega) (w.heap.size+1) 62 wr HC.out);go_wp2_with (go_at_call 90;refine HA.out.mono ?_;rintro e w' ⟨rfl,rfl⟩;clear HA);go_roundw
   case rel=>
    refine ⟨k+1,by omega,by go_num,(hE.setRow (by omega) _).drew,Bg HR.out (by omega) _,?_⟩;rw [HS.out];exact setRow_heap wr _ _ _ _ _ HC.out
   case measure=>simp [intOf];omega
  ·obtain rfl:k=l.length:=by omega
   rw [List.take_of_length_le (by omega)] at HC;go_wp2_with (first
    | (refine wpList_load_row rfl 62 _ rfl _ rfl _ _ _ _ HC.out Tryz.underlying62 rfl Au ?_)
    | (refine wpList_store_row rfl 62 _ _ rfl _ _ rfl rfl _ _ HR.out Au rfl (De _) ?_))
   refine bodyPost_ret (v:=.agg (Aa (ofL l))) (results_cell_row rfl _ _ _ _ _ _ _ rfl (setRow_heap wr _ _ (Aa (ofL l)) 62 (0,0) HR.out) Tryz.underlying62 rfl Au) rfl ?_;exact ⟨rfl,hE.setRow (Nat.le_refl _) _⟩
theorem Te (l:List UInt8) (v:Value) (w:World) (h:By w v l):Calls Tryz.prog 44 #[v] w fun e w'=>e=.returned (.agg (Aa (ofL l)))∧Ext w w':=by
 obtain ⟨h0,⟨hn,a,cap,rfl⟩|⟨hn,b,off,cap,rfl,hb,hc⟩⟩:=h
 ·have:=Tc l (by omega) a 0 0 cap w (by omega) (by omega) (fun i hi=>by omega)
  rwa [hn] at this
 ·exact Tc l (by omega) (some ⟨b,off,none⟩) b off cap w (fun _=>rfl) (fun _=>hb) (fun i hi=>hc i (by omega))
end Go.Proofs.YtaiogolidlamiaaGreatDoor
