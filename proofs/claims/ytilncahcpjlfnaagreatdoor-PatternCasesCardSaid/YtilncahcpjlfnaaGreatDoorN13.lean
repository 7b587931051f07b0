import Derived.Test.YtilncahcpjlfnaaGreatDoorN12
import Derived.Test.YtilncahcpjlfnaaGreatDoorN01
import Derived.Test.YtilncahcpjlfnaaGreatDoorN06
import Derived.Test.YtilncahcpjlfnaaGreatDoorN08
import Derived.Test.YtilncahcpjlfnaaGreatDoorN07
import Derived.Test.YtilncahcpjlfnaaGreatDoorN09
import Derived.Test.YtilncahcpjlfnaaGreatDoorN10
import Derived.Test.YtilncahcpjlfnaaGreatDoorN11
set_option linter.unusedVariables false
set_option linter.unusedSimpArgs false
set_option maxRecDepth 100000
set_option maxHeartbeats 16000000
open And renaming intro → í
open Array renaming getElem?_eq_some_iff → Ϙ, getD_eq_getD_getElem? → Ϗ, getElem?_eq_getElem → ϗ
open Bool renaming false → Ε, true → Α, and_eq_true → ς, or_eq_true → Ô
open Go renaming World → Γ, Calls → Ϟ, wpList_make_full → Ϛ, maxLen → ϐ, Value → Δ, cell_of_row → Τ, Program → Ö, Oper → Ϭ, Act → ë, TypeId → ϫ, Operand → á, execOp → ö, undef → δ, yielded → ð, mem_ready → ý, getD_replicate_false → ϛ, wpQuiet_step → Á, wpQuiet_nil → Ë
open Go.Act renaming put → θ
open Go.Ending renaming returned → Ω
open Go.IntKind renaming i64 → Χ, u64 → γ
open Go.Lib renaming hid → Z
open Go.Obj renaming cells → Β
open Go.Operand renaming tmp → ε
open Go.Proofs.Tryz renaming prog → Ι, underlying38 → Ý, underlying96 → Ò
open Go.Region renaming waitsFor → ñ, wanted → Ϡ
open Go.RowKit renaming Hid → ϟ
open Go.Value renaming slice → U, pointer → η, bool → ψ, int → ϲ, tuple → ϙ
open List renaming range → π, mem_range → ώ, replicate → ζ, ext_getElem? → Ϩ, getElem?_map → υ, getElem?_replicate → Ì, all_eq_true → Þ, mem_cons_self → É, mem_cons_of_mem → ç, getElem?_eq_some_iff → ν, getElem?_eq_getElem → Θ, setIfInBounds_toArray → Η, set_cons_zero → Μ, set_cons_succ → Λ
open List.cons renaming injEq → ó
open Nat renaming le_refl → Υ, le_of_eq → Ñ, le_trans → μ, lt_of_lt_of_le → Ξ
open Option renaming some → I, none → J, getD_some → Ç, bind_some → ò
open Option.some renaming inj → ϓ
namespace Go.Proofs.YtilncahcpjlfnaaGreatDoor
open Go.RowKit Go.Shelf Go.WideMaps
noncomputable def Bu (L:Af) (b:List UInt8) (S:List Bool) (n j:Nat):Bool:=(π n).any λm=>S.getD m Ε&&An L b m j
theorem WG (L:Af) (b:List UInt8) (S:List Bool) (n j:Nat):Bu L b S (n+1) j=(Bu L b S n j||(S.getD n Ε&&An L b n j)):=by unfold Bu;rw[List.range_succ,List.any_append,List.any_cons,List.any_nil,Bool.or_false]
theorem WF {L:Af} {b:List UInt8} {S:List Bool} {n j:Nat}:Bu L b S n j=Α↔∃ m,m<n/\S.getD m Ε=Α/\hit L b m j:=by
 unfold Bu;rw[List.any_eq_true];constructor
 ·rintro⟨m,h1,E⟩;simp only[ς] at E;exact⟨m,ώ.1 h1,E.1,hitB_true.1 E.2⟩
 rintro⟨m,h1,E,G⟩;exact⟨m,ώ.2 h1,by rw[E,hitB_true.2 G];rfl⟩
noncomputable def J1 (L:Af) (b:List UInt8) (S:List Bool):List Bool:=Bd (b.length+1) (Bu L b S (b.length+1))
def BT (q:Mq) (node:Nat):Prop:=∀ (A:Nat->Prop) (W:Γ) n f (E:Nat) (S:List Bool),Mt q A W n f->S.length=q.b.length+1->RowAt W E S->Ϟ Ι 103 #[η (I ⟨q.gM,0,J⟩),iv node,U (I ⟨E,0,J⟩) (q.b.length+1) (q.b.length+1)] W λe w'=>WL q A W f node (J1 (A3 q.xs node) q.b S) e w'
theorem BH (q:Mq) (hq:q.ok) (node:Nat) (hE:Oe q node):BT q node:=by
 intro A W n f gs S hM hS hR;have cc:=Z hE;have cd:=Z hM;have HQ:=Z hq;have hb:=hq.hb;obtain⟨i0,hi,cg,cj,ck⟩:=info_parts Fc;have cl:=Kw rfl (hR 0 (by omega)) hM.map;have HS:=Z hS;have HR:=Z hR;obtain⟨N,hN⟩:=Xq (q.b.length+1);have H:=Z hN;have c9:N<=1001:=by omega
 have da:0<N:=by omega
 rw[hN];clear hE hM hq hS hR hN hb;go_enter Tryz.func103,Tryz.ntmps103;go_upto_region 2 with (at_make;refine Ϛ _ rfl _ _ 38 rfl W.heap.size 4 i0 (.bool Ε) 1 Ý hi cg cj Χ Χ _ _ N rfl rfl rfl rfl (by rw[ck];omega) (by unfold ϐ;omega) (Υ _) ?_;intro w1 au aw)
 have bh:Ext W w1:=(Κ W).grown aw (λk e=>by cases e);have bj:W.heap.size<w1.heap.size:=by have:=(au.lt W.heap.size rfl).2;exact this
 have ax:=cd.o.fresh bh bj;have bk:W.grownBy w1 (I q.gK):=D8 aw;have ae:w1.ownsRow W.heap.size 4 1 (U (I ⟨W.heap.size,0,J⟩) N N) N ((Bd N (Bu (A3 q.xs node) q.b S 0)).map ψ):=by
  have:Bd N (Bu (A3 q.xs node) q.b S 0)=ζ N Ε:=by
   apply Ϩ;intro j;simp only[Bd,υ,Ì];by_cases hj:j<N
   ·simp[hj,Bu]
   simp[hj]
  rw[this,<-B7];exact au
 obtain⟨L,hL⟩:=Xq (A3 q.xs node);rw[hL] at ae;obtain⟨E,ag⟩:=Xq (W.heap.size);have az:ϟ (W.heap.size=E):=Z ag;rw[ag] at ae ax;have HL:=Z hL;simp only[ag];clear au aw bh bj hL ag;go_wp2_with (fail);go_loopw [17] (λvi W'=>∃ (i n':Nat) (f':Nat × Nat->Option Δ),i<=N/\vi=.int Χ i/\ϟ (Mt q (λk=>A k\/k=E) W' n' f')/\W'.ownsRow E 4 1 (U (I ⟨E,0,J⟩) N N) N ((Bd N (Bu L q.b S i)).map ψ)/\ϟ (∀ y,node<y.1->f' y=f y)/\ϟ (W.grownBy W' (I q.gK)))
  (λvi _=>N-(intOf vi).toNat)
 case atStart=>exact⟨0,n,f,by omega,rfl,Z ax,ae,Z λ_ _=>rfl,Z bk⟩
 clear ax ae bk;obtain⟨i,n1,f1,db,rfl,HM,X,HF,HG⟩:=hrel;by_cases cq:i<N
 ·have dc:(i:Int)<(N:Int):=by omega
  have cS:=(HR.o.keptm HG.o cl) i (by rw[HS.o,H.o];exact cq);have bo:=Z (λj=>WG L q.b S i j);obtain⟨s,hs⟩:=Xq (S.getD i Ε);rw[hs] at cS;have bp:=Z hs;clear hs;cases s with
  | false=>
   have aj:wr.ownsRow E 4 1 (U (I ⟨E,0,J⟩) N N) N ((Bd N (Bu L q.b S (i+1))).map ψ):=by rw[Cu (λj _=>by rw[bo.o j,bp.o];simp:∀ j,j<N->Bu L q.b S (i+1) j=Bu L q.b S i j)];exact X
   clear X;go_wp2;go_roundw
   case rel=>exact⟨i+1,n1,f1,by omega,by go_num,HM,aj,HF,HG⟩
   simp[intOf];omega
  | true=>
   have f89:=Z (cc.o _ wr n1 f1 i (by have:=H.o;omega) HM.o);rw[HL.o] at f89;go_wp2_with (go_at_call 53;(with_reducible refine f89.o.mono ?_);rintro e w2 ⟨ge,n2,f2,rfl,bt,bu,bw,bz,b0⟩;rw[H.o];have cu:=Z bt;have aa:=Z bu;have b4:=Z bw;have cv:=Z bz;have b5:=Z b0;clear bt bu bw bz b0);have cw:ϟ (ge≠E):=Z λe=>cu.o (.inr e)
   have cy:ϟ (W.heap.size<=E):=Z (Ñ az.o);have aj:=X.kept b5.o (.inr λe=>by have h1:=(HM.o.al E (.inr rfl)).1;have h2:=HQ.o.hK;simp[Δ.ownBlock] at e;omega)
   have G:w2.ownsRow E 4 1 (U (I ⟨E,0,J⟩) N N) N ((Bd N (λx=>if x<0 then Bu L q.b S (i+1) x else Bu L q.b S i x)).map ψ):=by rw[Cu (λj _=>by rw[if_neg (by omega)]:∀ j,j<N->(if j<0 then Bu L q.b S (i+1) j else Bu L q.b S i j)=Bu L q.b S i j)];exact aj
   have ab:=Z (PN HG.o b5.o);have cz:ϟ (∀ y,node<y.1->f2 y=f y):=Z λy T=>(cv.o y T).trans (HF.o y T)
   clear X aj f89 cS;go_loopw [28] (λvj W'=>∃ j:Nat,j<=N/\vj=.int Χ j/\ϟ (Mt q (λk=>A k\/k=E) W' n2 f2)/\W'.ownsRow E 4 1 (U (I ⟨E,0,J⟩) N N) N ((Bd N (λx=>if x<j then Bu L q.b S (i+1) x else Bu L q.b S i x)).map ψ)/\ϟ (RowAt W' ge (Bh L q.b i))/\ϟ (W.grownBy W' (I q.gK)))
    (λvj _=>N-(intOf vj).toNat)
   case atStart=>exact⟨0,by omega,rfl,b4,G,aa,ab⟩
   clear G b4 aa ab;obtain⟨j,de,rfl,b6,G,aa,ab⟩:=hrel;by_cases ak:j<N
   ·have df:(j:Int)<(N:Int):=by omega
    have cL:=Aq Ε G (Cf _ _).symm j (by rw[Cf];exact ak);rw[Fk _ _ _ ak,if_neg (by omega)] at cL;have cE:=aa.o j (by rw[E7,H.o];exact ak);unfold Bh at cE;rw[Fk _ _ _ (by rw[H.o];exact ak)] at cE;have fz:=G.frozenAt j;have b8:∀ v,Bu L q.b S (i+1) j=v->∀ x,x<N->(if x=j then v else if x<j then Bu L q.b S (i+1) x else Bu L q.b S i x)=if x<j+1 then Bu L q.b S (i+1) x else Bu L q.b S i x:=λv hv x _=>by
     by_cases e1:x=j
     ·subst e1;rw[if_pos rfl,if_pos (by omega),hv]
     by_cases e2:x<j
     ·rw[if_neg e1,if_pos e2,if_pos (by omega)]
     rw[if_neg e1,if_neg e2,if_neg (by omega)]
    obtain⟨x,hx⟩:=Xq (Bu L q.b S i j);obtain⟨y,T⟩:=Xq (An L q.b i j);rw[hx] at cL;rw[T] at cE;have HX:=Z hx;have HY:=Z T;clear hx T;obtain⟨v,hv⟩:=Xq ((x||y));obtain⟨hP,an⟩:=Ba (f:=ψ) G j v;have c3:(wr.setCell ⟨E,j,J⟩ (.bool v)).ownsRow E 4 1 (U (I ⟨E,0,J⟩) N N) N ((Bd N (λx=>if x<j+1 then Bu L q.b S (i+1) x else Bu L q.b S i x)).map ψ):=by rw[Ga,Cu (b8 v (by rw[bo.o,bp.o,HX.o,HY.o];exact hv))] at hP;exact hP
    have c4:=Z (b6.o.own HQ.o an (.inr rfl));have c5:=Z (aa.o.keptm an cw.o);have c6:=Z (Gf ab.o an cy.o);clear hP an G b8 HX HY;cases x<;>cases y
    all_goals
     first
     | (obtain rfl:Α=v:=hv)
     | (obtain rfl:Ε=v:=hv)
     go_wp2;go_roundw
     case rel=>exact⟨j+1,by omega,by go_num,c4,c3,c5,c6⟩
     simp[intOf];omega
   obtain rfl:N=j:=by omega
   have c7:wr.ownsRow E 4 1 (U (I ⟨E,0,J⟩) N N) N ((Bd N (Bu L q.b S (i+1))).map ψ):=by rw[Cu (λj hj=>by rw[if_pos hj]:∀ j,j<N->(if j<N then Bu L q.b S (i+1) j else Bu L q.b S i j)=Bu L q.b S (i+1) j)] at G;exact G
   clear G;go_wp2;go_roundw
   case rel=>exact⟨i+1,n2,f2,by omega,by go_num,b6,c7,cz,ab⟩
   simp[intOf];omega
 obtain rfl:N=i:=by omega
 go_wp2;go_ret;refine⟨E,n1,f1,by rw[H.o];rfl,Ñ az.o,?_,HM.o,HF.o,HG.o⟩;rw[H.o,az.o];unfold J1;rw[H.o,HL.o];exact X
open Go Go.RowKit
theorem Vr {W:Γ} {base e size:Nat} {v:Δ} {n:Nat} {xs:List Δ} (h:W.ownsRow base e size v n xs):W.ownsRow 0 e size v n xs:=by
 obtain⟨E,h|⟨g,G,cur,H,hb,h⟩⟩:=h
 ·exact⟨E,.inl h⟩
 exact⟨E,.inr ⟨g,G,cur,H,Nat.zero_le _,h⟩⟩
variable {n:Nat} {P:Program}
theorem Ul {L:Af} {b:List UInt8} {i m:Nat} (hm:m<b.length+1):(Bh L b i).getD m Ε=An L b i m:=Fk _ _ _ hm
theorem BI {P L:Af} {b:List UInt8} {i j:Nat}:Bu L b (Bh P b i) (b.length+1) j=Α↔hit (Cat P L) b i j:=by
 rw[WF,Nf];constructor
 ·rintro⟨m,h1,E,G⟩;rw[Ul h1] at E;exact⟨m,hitB_true.1 E,G⟩
 rintro⟨m,h1,E⟩;have hm:m<b.length+1:=by have:=h1.2.1;omega
 exact⟨m,hm,by rw[Ul hm];exact hitB_true.2 h1,E⟩
theorem BJ (P L:Af) (b:List UInt8) (i:Nat):J1 L b (Bh P b i)=Bh (Cat P L) b i:=Cu λj _=>Fv (by rw[BI,hitB_true])
theorem WE (L:Af) (b:List UInt8) (i k:Nat):J1 L b (Bh (pw L k) b i)=Bh (pw L (k+1)) b i:=by rw[BJ];exact Um (λw=>(Mp L k w).symm) b i
abbrev Bb (L:Af) (E t:Nat):Af:=rep L E ((E+t:Nat):Int)
theorem GN (L:Af) (E:Nat) (b:List UInt8) (i:Nat):Bh (pw L E) b i=Bh (Bb L E 0) b i:=Um (λw=>(GP L E w).symm) b i
theorem PD (L:Af) (E t:Nat) (b:List UInt8) (i j:Nat):An (Bb L E (t+1)) b i j=(An (Bb L E t) b i j||Bu L b (Bh (Bb L E t) b i) (b.length+1) j):=Fv (by rw[hitB_true,Ô,hitB_true,BI,Nd,Nf])
theorem EN {L:Af} {E t:Nat} {b:List UInt8} {i:Nat} (h:∀ j,j<b.length+1->An (Bb L E (t+1)) b i j=An (Bb L E t) b i j):stab L E t b i:=λj m h1 G=>by have:=h j (by have:=G.2.1;omega);rw[<-hitB_true,<-this,hitB_true,Nd];exact .inr ⟨m,h1,G⟩
theorem Tt {L:Af} {E t:Nat} {b:List UInt8} {i:Nat} (h:stab L E t b i) {mx:Int} (hm:mx<0\/((E+t:Nat):Int)<=mx):Bh (Bb L E t) b i=Bh (rep L E mx) b i:=
 Cu λj _=>Fv (by rw[hitB_true,hitB_true,Tu h hm])
structure Gr2 (W W':Γ) (a b:Nat):Prop where
 os:W'.os=W.os
 tape:W'.tape=W.tape
 output:W'.output=W.output
 size:W.heap.size<=W'.heap.size
 block:∀ k,k<W.heap.size->k≠a->k≠b->W'.heap[k]? = W.heap[k]?
theorem Gr2.of_grown {W W':Γ} {a b:Nat} (h:W.grownBy W' (I a)):Gr2 W W' a b:=⟨h.os,h.tape,h.output,h.size,λk E h1 _=>h.block k E (λe=>h1 (by injection e))⟩
theorem Gr2.step {W E G:Γ} {a b g:Nat} (h:Gr2 W E a b) (k:E.grownBy G (I g)) (hg:g=a\/g=b\/W.heap.size<=g):Gr2 W G a b:=
 ⟨k.os.trans h.os,k.tape.trans h.tape,k.output.trans h.output,μ h.size k.size,λj H h1 T=>(k.block j (Ξ H h.size) (λe=>by
  injection e with e
  rcases hg with hg|hg|hg
  ·exact h1 (by omega)
  ·exact T (by omega)
  omega)).trans (h.block j H h1 T)⟩
def WJ (q:Mq) (A:Nat->Prop) (W:Γ) (f:Nat × Nat->Option Δ) (node E:Nat) (row:List Bool) (e:Ending) (w':Γ):Prop:=
 ∃ g H G,e=Ω (U (I ⟨g,0,J⟩) (q.b.length+1) (q.b.length+1))/\(g=E\/W.heap.size<=g)/\w'.ownsRow 0 4 1 (U (I ⟨g,0,J⟩) (q.b.length+1) (q.b.length+1)) (q.b.length+1) (row.map ψ)/\Mt q (λk=>A k\/k=g) w' H G/\(∀ y,node<y.1->G y=f y)/\Gr2 W w' q.gK E
theorem DJ (q:Mq) (hq:q.ok) (E:RNode) (hA:BT q E.l) (ea:E.min<=16) (eb:-1<=E.max) (ec:E.max<=16) (bl:E.max≠-1->(E.min:Int)<=E.max)
  (A:Nat->Prop) (W:Γ) (n:Nat) (f:Nat × Nat->Option Δ) (X i:Nat) (hM:Mt q (λk=>A k\/k=X) W n f) (hO:W.ownsRow 0 4 1 (U (I ⟨X,0,J⟩) (q.b.length+1) (q.b.length+1)) (q.b.length+1) ((Bh (pw (A3 q.xs E.l) 0) q.b i).map ψ)) :
  Ϟ Ι 104 #[η (I ⟨q.gM,0,J⟩),.agg (rnC E),U (I ⟨X,0,J⟩) (q.b.length+1) (q.b.length+1)] W λe w'=>WJ q A W f E.l X (Bh (rep (A3 q.xs E.l) E.min E.max) q.b i) e w':=by
 have b9:=Z hA;have HQ:=Z hq;have hb:=hq.hb;have a1:=(Κ W).alloc (Β (rnC E) 96);have H:=Ad W (Β (rnC E) 96);have bn:=hM.ext a1;have a6:=Aa hO a1;have ca:W.grownBy (W.alloc (Β (rnC E) 96)) (I q.gK):=D8 (a1.grownBy J);have HK:=Z (hM.al X (.inr rfl));obtain⟨N,hN⟩:=Xq (q.b.length+1);have G:=Z hN;have e8:N<=1001:=by omega
 have e9:0<N:=by omega
 rw[hN] at a6;rw[hN];obtain⟨L,hL⟩:=Xq (A3 q.xs E.l);have HL:=Z hL;rw[hL] at a6;obtain⟨mn,bq⟩:=Xq (E.min);obtain⟨mx,br⟩:=Xq (E.max);obtain⟨nl,a7⟩:=Xq (E.l);have c4:=Z a7;have c6:=Z bq;have c9:=Z br;rw[bq] at ea bl;rw[br] at eb ec bl;rw[a7] at b9;have ai:=Z bl;have da:(rnC E)[7]? = I (iv mn):=by rw[<-bq];rfl
 have db:(rnC E)[8]? = I (.int Χ mx):=by rw[<-br];rfl
 have dc:(rnC E)[5]? = I (iv nl):=by rw[<-a7];rfl
 have dd:=Z da;have ee:=Z db;have de:=Z dc;have df:ϟ (A3 q.xs nl=L):=Z (by rw[<-a7];exact hL);clear hA hq hM hO hb hN hL bq br a7 bl da db dc;go_enter Tryz.func104,Tryz.ntmps104;go_upto_region 1 with (fail)
 obtain⟨w1,cc⟩:=Xq (W.alloc (Β (rnC E) 96));rw[cc] at a1 H bn a6 ca;simp only[cc];clear cc;obtain⟨g4,bt⟩:=Xq (W.heap.size);have bu:=Z bt;rw[bt] at H HK;simp only[bt];clear bt a1;have c7:=(Τ w1 g4 7 _ _ _ H).trans dd.o;have H:=Z H;go_wp2_with (fail);clear c7;go_loopw [2,13] (λv2 vk W'=>∃ (k g n':Nat) (f':Nat × Nat->Option Δ),k<=mn/\v2=U (I ⟨g,0,J⟩) N N/\vk=.int Χ k/\ϟ (g=X\/g4<=g)/\ϟ (Mt q (λx=>A x\/x=g) W' n' f')/\W'.ownsRow 0 4 1 (U (I ⟨g,0,J⟩) N N) N ((Bh (pw L k) q.b i).map ψ)/\ϟ (∀ y,nl<y.1->f' y=f y)/\ϟ (W.grownBy W' (I q.gK))/\ϟ (W'.heap[g4]? = I (Β (rnC E) 96 (0,0))))
  (λ_ vk _=>mn-(intOf vk).toNat)
 case atStart=>exact⟨0,X,n,f,by omega,rfl,rfl,Z (.inl rfl),Z bn,a6,Z λ_ _=>rfl,Z ca,H⟩
 clear bn a6 ca H;obtain⟨k,g,n1,f1,hk,rfl,rfl,cg,HM,hO,HF,HG,H⟩:=hrel;by_cases fb:k<mn
 ·have fc:(k:Int)<(mn:Int):=by omega
  have c5:=(Τ wr g4 5 _ _ _ H.o).trans de.o;have f148:=Z (b9.o _ wr n1 f1 g _ HM.o (E7 _ _ _) (RowAt.of_owns hO (by rw[E7,G.o])));rw[G.o] at f148;go_wp2_with (go_at_call 103;(with_reducible refine f148.o.mono ?_);rintro e w2 ⟨g2,n2,f2,rfl,bb,bc,bd,be,bf⟩;rw[G.o];have cj:=Z bb;have b5:=Z bc;have ck:=Z bd;have cl:=Z be;have ay:=Z bf;clear bb bc bd be bf);have eg:w2.ownsRow 0 4 1 (U (I ⟨g2,0,J⟩) N N) N ((Bh (pw L (k+1)) q.b i).map ψ):=by have h1:=Vr b5.o;rw[G.o,df.o,WE] at h1;exact h1
  have eh:ϟ (g2=X\/g4<=g2):=Z (.inr (by have h1:=cj.o;have h2:=HG.o.size;have h3:=bu.o;omega));have ei:=Z (ck.o.weak (B:=λx=>A x\/x=g2) (λx hx=>hx.elim (λh=>.inl (.inl h)) .inr));have ej:ϟ (∀ y,nl<y.1->f2 y=f y):=Z λy hy=>(cl.o y hy).trans (HF.o y hy)
  have ek:=Z (HG.o.trans ay.o);have en:=Z (Dr ay.o HM.o.map H.o);go_roundw
  case rel=>exact⟨k+1,g2,n2,f2,by omega,rfl,by go_num,eh,ei,eg,ej,ek,en⟩
  simp[intOf];omega
 obtain rfl:mn=k:=by omega
 have c7:=(Τ wr g4 7 _ _ _ H.o).trans dd.o;have c8:=(Τ wr g4 8 _ _ _ H.o).trans ee.o;have dm:wr.ownsRow 0 4 1 (U (I ⟨g,0,J⟩) N N) N ((Bh (Bb L mn 0) q.b i).map ψ):=by rw[<-GN];exact hO
 have bg:ϟ (Gr2 W wr q.gK X):=Z (Gr2.of_grown HG.o);clear hO HG;by_cases eo:mx<0
 case' pos=>
  obtain⟨B,hB⟩:=Xq (q.b.length);have dn:B+1=N:=by rw[<-hB];exact G.o
  have fe:B<=1000:=by omega
  obtain⟨ab,cb,dp⟩:=(HM.o.word HQ.o).len;have cB:=(Τ wr q.gM 1 _ _ _ (HM.o.box HQ.o)).trans (show (#[U (I ⟨q.bx,q.ox,J⟩) q.xs.length q.cx,q.vb,.map (I q.gK)]:Array Δ)[1]? = I q.vb from rfl);rw[dp,hB] at cB;have dr:=Z dn;clear dp hB dn;go_upto_region 8 with (fail)
  rw[show (ϲ Χ ((B:Int)+1))=.int Χ (N:Int) by have:=dr.o;rw[<-this];simp];clear cB dr c7 c8;obtain⟨M,hM⟩:=Xq (N);have cp:ϟ ((mx<0/\M=N)\/(0<=mx/\mx=mn+M)):=Z (.inl ⟨eo,hM.symm⟩);rw[show (ϲ Χ (N:Int))=.int Χ (M:Int) by rw[hM]];have bn:M<=1001:=by omega
  clear hM
 case' neg=>
  have ep:0<=mx:=by omega
  have h3:=ai.o (by omega);obtain⟨M,hM⟩:∃ M:Nat,mx-(mn:Int)=(M:Int):=⟨(mx-mn).toNat,by omega⟩;have fj:M<=16:=by omega
  have cp:ϟ ((mx<0/\M=N)\/(0<=mx/\mx=mn+M)):=Z (.inr ⟨ep,by omega⟩);have er:=Z hM;clear hM;go_upto_region 8 with (fail)
  rw[er.o];clear c7 c8
 all_goals
  go_wp2_with (fail);go_loopw [36] (λvt W'=>∃ (t n':Nat) (f':Nat × Nat->Option Δ),t<=M/\vt=.int Χ t/\ϟ (Mt q (λx=>A x\/x=g) W' n' f')/\W'.ownsRow 0 4 1 (U (I ⟨g,0,J⟩) N N) N ((Bh (Bb L mn t) q.b i).map ψ)/\ϟ (∀ y,nl<y.1->f' y=f y)/\ϟ (Gr2 W W' q.gK X)/\ϟ (W'.heap[g4]? = I (Β (rnC E) 96 (0,0)))/\ϟ (t<=Du N (An (Bb L mn t) q.b i)))
   (λvt _=>M-(intOf vt).toNat)
  case atStart=>exact⟨0,n1,f1,by omega,rfl,HM,dm,HF,bg,H,Z (by omega)⟩
  clear dm HM HF bg H;obtain⟨t,n2,f2,fk,rfl,HM,hO,HF,bg,H,dt⟩:=hrel;by_cases fl:t<M
  ·have fm:(t:Int)<(M:Int):=by omega
   have c5:=(Τ wr g4 5 _ _ _ H.o).trans de.o;have f148:=Z (b9.o _ wr n2 f2 g _ HM.o (E7 _ _ _) (RowAt.of_owns hO (by rw[E7,G.o])));rw[G.o] at f148;go_wp2_with (go_at_call 103;(with_reducible refine f148.o.mono ?_);rintro e w2 ⟨ge,n3,f3,rfl,bb,bc,bd,be,bf⟩;rw[G.o];have cj:=Z bb;have b5:=Z bc;have ck:=Z bd;have cl:=Z be;have ay:=Z bf;clear bb bc bd be bf);have et:ϟ (ge≠g):=Z λe=>by have h1:=cj.o;have h2:=(HM.o.al g (.inr rfl)).2;omega
   have aq:ϟ (RowAt w2 ge (Bd N (Bu L q.b (Bh (Bb L mn t) q.b i) N))):=Z (by have h1:=RowAt.of_owns b5.o (by unfold J1;rw[Cf]);unfold J1 at h1;rw[G.o,df.o] at h1;exact h1)
   have b6:=hO.kept ay.o (.inr λe=>by have h1:=(HM.o.al g (.inr rfl)).1;have h2:=HQ.o.hK;simp[Δ.ownBlock] at e;omega)
   have T:w2.ownsRow 0 4 1 (U (I ⟨g,0,J⟩) N N) N ((Bd N (λx=>if x<0 then An (Bb L mn (t+1)) q.b i x else An (Bb L mn t) q.b i x)).map ψ):=by rw[Cu (λj _=>by rw[if_neg (by omega)]:∀ j,j<N->(if j<0 then An (Bb L mn (t+1)) q.b i j else An (Bb L mn t) q.b i j)=An (Bb L mn t) q.b i j)];unfold Bh at b6;rw[G.o] at b6;exact b6
   have ak:=Z (bg.o.step ay.o (.inl rfl));have du:ϟ (∀ y,nl<y.1->f3 y=f y):=Z λy hy=>(cl.o y hy).trans (HF.o y hy)
   have ai:=Z (ck.o.weak (B:=λx=>A x\/x=g) (λx hx=>.inl hx));have an:=Z (Dr ay.o HM.o.map H.o);have eu:ϟ (g≠g4):=Z λe=>by
    rcases B2 hO H.o (by decide) with h|h
    ·cases h
    exact h (by rw[e];rfl)
   clear hO b6 f148 c5 b5;go_loopw [8,44] (λvc vj W'=>∃ (j:Nat) (ch:Bool),j<=N/\vc=.bool ch/\vj=.int Χ j/\ϟ (Mt q (λx=>A x\/x=g) W' n3 f3)/\W'.ownsRow 0 4 1 (U (I ⟨g,0,J⟩) N N) N ((Bd N (λx=>if x<j then An (Bb L mn (t+1)) q.b i x else An (Bb L mn t) q.b i x)).map ψ)/\ϟ (RowAt W' ge (Bd N (Bu L q.b (Bh (Bb L mn t) q.b i) N)))/\ϟ (Gr2 W W' q.gK X)/\ϟ (W'.heap[g4]? = I (Β (rnC E) 96 (0,0)))/\ϟ ((ch=Α->∃ x,x<j/\An (Bb L mn (t+1)) q.b i x≠An (Bb L mn t) q.b i x)/\(ch=Ε->∀ x,x<j->An (Bb L mn (t+1)) q.b i x=An (Bb L mn t) q.b i x)))
    (λ_ vj _=>N-(intOf vj).toNat)
   case atStart=>exact⟨0,Ε,by omega,rfl,rfl,ai,T,aq,ak,an,Z ⟨(λh=>by cases h),λ_ x hx=>by omega⟩⟩
   clear T ai aq ak an;obtain⟨j,ch,fo,rfl,rfl,ai,T,aq,ak,an,ar⟩:=hrel;by_cases b7:j<N
   ·have fp:(j:Int)<(N:Int):=by omega
    have cL:=Aq Ε T (Cf _ _).symm j (by rw[Cf];exact b7);rw[Fk _ _ _ b7,if_neg (by omega)] at cL;have cE:=aq.o j (by rw[Cf];exact b7);rw[Fk _ _ _ b7] at cE;have fz:=T.frozenAt j;have az:∀ v,An (Bb L mn (t+1)) q.b i j=v->∀ x,x<N->(if x=j then v else if x<j then An (Bb L mn (t+1)) q.b i x else An (Bb L mn t) q.b i x)=if x<j+1 then An (Bb L mn (t+1)) q.b i x else An (Bb L mn t) q.b i x:=λv hv x _=>by
     by_cases e1:x=j
     ·subst e1;rw[if_pos rfl,if_pos (by omega),hv]
     by_cases e2:x<j
     ·rw[if_neg e1,if_pos e2,if_pos (by omega)]
     rw[if_neg e1,if_neg e2,if_neg (by omega)]
    have au:=PD L mn t q.b i j;rw[G.o] at au;obtain⟨x,hx⟩:=Xq (An (Bb L mn t) q.b i j);obtain⟨y,hy⟩:=Xq (Bu L q.b (Bh (Bb L mn t) q.b i) N j);rw[hx,hy] at au;rw[hx] at cL;rw[hy] at cE;have HX:=Z hx;have ag:=Z au;have dx:=Z az;clear hx hy au az;have az:=dx.o;have ew:ϟ (g=q.gK\/g=X\/W.heap.size<=g):=Z (by
     rcases cg.o with h|h
     ·exact .inr (.inl h)
     have:=bu.o;exact .inr (.inr (by omega)))
    clear dx;cases y with
    | false=>
     replace ag:ϟ (An (Bb L mn (t+1)) q.b i j=x):=Z (by rw[ag.o];cases x<;>rfl);clear az;have bj:wr.ownsRow 0 4 1 (U (I ⟨g,0,J⟩) N N) N ((Bd N (λx=>if x<j+1 then An (Bb L mn (t+1)) q.b i x else An (Bb L mn t) q.b i x)).map ψ):=by
      rw[Cu (λx hx=>by
       by_cases e1:x=j
       ·subst e1;rw[if_neg (by omega),if_pos (by omega),ag.o,HX.o]
       by_cases e2:x<j
       ·rw[if_pos e2,if_pos (by omega)]
       rw[if_neg e2,if_neg (by omega)]:∀ x,x<N->(if x<j then An (Bb L mn (t+1)) q.b i x else An (Bb L mn t) q.b i x)=if x<j+1 then An (Bb L mn (t+1)) q.b i x else An (Bb L mn t) q.b i x)] at T
      exact T
     clear T;go_wp2;go_roundw
     case rel=>exact⟨j+1,ch,by omega,rfl,by go_num,ai,bj,aq,ak,an,Z ⟨λh=>by
      obtain⟨x,h1,h2⟩:=ar.o.1 h;exact⟨x,by omega,h2⟩,λh x hx=>by
      by_cases e1:x=j
      ·rw[e1,ag.o,HX.o]
      exact ar.o.2 h x (by omega)⟩⟩
     case measure=>simp[intOf];omega
    | true=>
     cases x with
     | false=>
      replace ag:ϟ (An (Bb L mn (t+1)) q.b i j=Α):=Z (by rw[ag.o];rfl);obtain⟨hP,bk⟩:=Ba (f:=ψ) T j Α;have bj:(wr.setCell ⟨g,j,J⟩ (.bool Α)).ownsRow 0 4 1 (U (I ⟨g,0,J⟩) N N) N ((Bd N (λx=>if x<j+1 then An (Bb L mn (t+1)) q.b i x else An (Bb L mn t) q.b i x)).map ψ):=by rw[Ga,Cu (az Α ag.o)] at hP;exact hP
      have ey:=Z (ai.o.own HQ.o bk (.inr rfl));have ez:=Z (aq.o.keptm bk et.o);have e0:=Z (ak.o.step bk ew.o);have e3:=Z ((bk.block g4 (Al an.o) (λe=>eu.o (by injection e with e;exact e.symm))).trans an.o);clear hP bk T;go_wp2;go_roundw
      case rel=>exact⟨j+1,Α,by omega,rfl,by go_num,ey,bj,ez,e0,e3,Z ⟨λ_=>⟨j,by omega,by rw[ag.o,HX.o];decide⟩,(λh=>by cases h)⟩⟩
      simp[intOf];omega
     | true=>
      replace ag:ϟ (An (Bb L mn (t+1)) q.b i j=Α):=Z (by rw[ag.o];rfl);clear az;have bj:wr.ownsRow 0 4 1 (U (I ⟨g,0,J⟩) N N) N ((Bd N (λx=>if x<j+1 then An (Bb L mn (t+1)) q.b i x else An (Bb L mn t) q.b i x)).map ψ):=by
       rw[Cu (λx hx=>by
        by_cases e1:x=j
        ·subst e1;rw[if_neg (by omega),if_pos (by omega),ag.o,HX.o]
        by_cases e2:x<j
        ·rw[if_pos e2,if_pos (by omega)]
        rw[if_neg e2,if_neg (by omega)]:∀ x,x<N->(if x<j then An (Bb L mn (t+1)) q.b i x else An (Bb L mn t) q.b i x)=if x<j+1 then An (Bb L mn (t+1)) q.b i x else An (Bb L mn t) q.b i x)] at T
       exact T
      clear T;go_wp2;go_roundw
      case rel=>exact⟨j+1,ch,by omega,rfl,by go_num,ai,bj,aq,ak,an,Z ⟨λh=>by
       obtain⟨x,h1,h2⟩:=ar.o.1 h;exact⟨x,by omega,h2⟩,λh x hx=>by
       by_cases e1:x=j
       ·rw[e1,ag.o,HX.o]
       exact ar.o.2 h x (by omega)⟩⟩
      case measure=>simp[intOf];omega
   obtain rfl:N=j:=by omega
   have dy:wr.ownsRow 0 4 1 (U (I ⟨g,0,J⟩) N N) N ((Bh (Bb L mn (t+1)) q.b i).map ψ):=by rw[Cu (λj hj=>by rw[if_pos hj]:∀ j,j<N->(if j<N then An (Bb L mn (t+1)) q.b i j else An (Bb L mn t) q.b i j)=An (Bb L mn (t+1)) q.b i j)] at T;unfold Bh;rw[G.o];exact T
   clear T;cases ch with
   | true=>
    have e5:ϟ (t+1<=Du N (An (Bb L mn (t+1)) q.b i)):=Z (by
     obtain⟨x,h1,h2⟩:=ar.o.1 rfl;have h3:¬ stab L mn t q.b i:=λhs=>h2 (by have h4:=Tu hs (hi:=((mn+(t+1):Nat):Int)) (.inr (by omega)) x;exact Fv (by rw[hitB_true,hitB_true];exact h4))
     have h5:=SX h3;rw[G.o] at h5;exact Nat.lt_of_le_of_lt dt.o h5)
    go_wp2;go_roundw
    case rel=>exact⟨t+1,n3,f3,by omega,by go_num,ai,dy,du,ak,an,e5⟩
    simp[intOf];omega
   | false=>
    have au:stab L mn t q.b i:=EN (by rw[G.o];exact ar.o.2 rfl);have cy:ϟ (Bh (Bb L mn (t+1)) q.b i=Bh (rep L mn mx) q.b i):=Z (by rw[<-Tt au (mx:=mx) (by have:=cp.o;omega)];exact Cu (by rw[G.o];exact ar.o.2 rfl))
    clear au;go_wp2;go_ret;refine⟨g,n3,f3,by rw[G.o];rfl,by rw[bu.o];exact cg.o,?_,ai.o,by rw[c4.o];exact du.o,ak.o⟩;rw[G.o,HL.o,c6.o,c9.o,<-cy.o];exact dy
  obtain rfl:M=t:=by omega
  have cy:ϟ (Bh (Bb L mn M) q.b i=Bh (rep L mn mx) q.b i):=Z (by
   rcases cp.o with⟨h1,h2⟩|⟨h1,h2⟩
   ·refine Tt (EO ?_) (.inl h1);rw[G.o,<-h2];have:=dt.o;rw[<-h2] at this;exact this
   rw[show mx=((mn+M:Nat):Int) by omega])
  go_wp2;go_ret;refine⟨g,n2,f2,by rw[G.o];rfl,by rw[bu.o];exact cg.o,?_,HM.o,by rw[c4.o];exact HF.o,bg.o⟩;rw[G.o,HL.o,c6.o,c9.o,<-cy.o];exact hO
open Go
theorem RL {P:Ö} {o:Ϭ} {a:ë} {w:Γ} (ty:ϫ) (x:á) (E:o.op=.load ty x) (g:Nat) (hx:a.eval x=η (I ⟨g,0,J⟩)) (t:ϫ) (cs:Array Δ) (fr:Nat × Nat) (d:TypeDesc) (hg:w.heap[g]? = I (Β cs t fr))
  (hu:P.underlying ty=I d) (hd:(match d with|.struct _|.array _ _=>Α|_=>Ε)=Α) (hi:(P.info? ty).map (·.size)=I cs.size):(ö a.eval o).run P w=.ok (.value (.agg cs)) w:=by
 unfold ö;simp only[E,hx,Instr.loadAt,Instr.sureAddr,Sem.run_bind,Sem.run_pure,Result.andThen_ok,run_loadVar_row w g t ty cs fr d hg hu hd hi]
inductive AV where
 | c (v:Δ)
 | r (R:Γ->Δ->Prop)
def AV.holds (x:AV) (W:Γ) (v:Δ):Prop:=match x with
 | .c u=>v=u
 | .r R=>R W v
def AV.val:AV->Δ
 | .c u=>u
 | .r _=>δ
def AV.Mono (x:AV):Prop:=∀ W W' v,x.holds W v->Ext W W'->x.holds W' v
theorem AV.mono_c (v:Δ):(AV.c v).Mono:=λ_ _ _ h _=>h
def Fd (W:Γ):List AV->List Δ->Prop
 | [],[]=>True
 | x::xs,v::vs=>x.holds W v/\Fd W xs vs
 | _,_=>False
theorem Lh {W:Γ}:∀ {us vs:List Δ},Fd W (us.map AV.c) vs->vs=us
 | [],[],_=>rfl
 | [],_::_,h=>h.elim
 | _::_,[],h=>h.elim
 | u::us,v::vs,h=>by have h1:v=u:=h.1;rw[h1,Lh h.2]
inductive Sc (P:Ö) (w:Γ) where
 | pure
 | skip
 | skipu
 | keep
 | load (ty:ϫ) (g:Nat) (cs:Array Δ) (t:ϫ) (fr:Nat × Nat) (d:TypeDesc) (hg:∀ W,Ext w W->W.heap[g]? = I (Β cs t fr)) (hu:P.underlying ty=I d) (hd:(match d with|.struct _|.array _ _=>Α|_=>Ε)=Α) (hi:(P.info? ty).map (·.size)=I cs.size)
 | call (f:FuncId) (he:∀ args W,(callFunc f args).run P W=.ok (.enter f args) W) (args:List AV) (res:AV) (hm:res.Mono) (h:∀ W vs,Ext w W->Fd W args vs->Ϟ P f vs.toArray W λe w'=>∃ v,e=Ω v/\res.holds w' v/\Ext W w')
 | gen (op:Op) (args:List AV) (res:AV) (hm:res.Mono) (h:∀ (ρ:á->Δ) (o:Ϭ) W,o.op=op->Ext w W->Fd W args (op.operands.toList.map ρ)->∃ v,(ö ρ o).run P W=.ok (.value v) W/\res.holds W v)
def upd (E:Nat->AV) (d:Nat) (x:AV):Nat->AV:=λn=>if n=d then x else E n
def oev (E:Nat->AV):á->AV
 | .tmp t=>E t
 | .const v=>.c v
 | .global g=>.c (η (I ⟨g,0,J⟩))
 | .func f=>.c (.func (.func f) #[] #[])
section
variable {P:Program} {w:World}
def pvX:Result Next->Δ
 | .ok (.value v) _=>v
 | _=>δ
def pv (P:Ö) (w:Γ) (E:Nat->AV) (o:Ϭ):Δ:=pvX ((ö (λx=>(oev E x).val) o).run P w)
def Kx (E:Nat->AV):Op->AV
 | .move x=>oev E x
 | .assign x=>oev E x
 | _=>.c δ
def I3 (P:Ö) (w:Γ) (E:Nat->AV) (o:Ϭ):Sc P w->AV
 | .pure=>.c (pv P w E o)
 | .skip=>.c δ
 | .skipu=>.c δ
 | .keep=>Kx E o.op
 | .load _ _ cs _ _ _ _ _ _ _=>.c (.agg cs)
 | .call _ _ _ res _ _=>res
 | .gen _ _ res _ _=>res
def scE (P:Ö) (w:Γ):List Ϭ->List (Sc P w)->(Nat->AV)->(Nat->AV)
 | o::l,s::G,E=>scE P w l G (match o.dst with|some d=>upd E d (I3 P w E o s)|none=>E)
 | _,_,E=>E
inductive XX where
 | av (a:AV)
 | res (r:Result Next)
 | ty (t:ϫ)
 | op (o:Op)
 | fn (f:FuncId)
 | no
def Jo (l:List Ϭ) (k:Nat):Nat:=match l[k]? with
 | some o=>o.dst.getD 0
 | none=>0
def scL (l:List Ϭ) (E:Nat->AV) (o:Ϭ) (W:Γ) (s:Sc P w):List XX:=
 XX.av (E (o.dst.getD 0))::(match o.guard with|none=>[]|some (k,_)=>[XX.av (E (Jo l k))])++
 match s with
 | .pure=>XX.res ((ö (λx=>(oev E x).val) o).run P W)::o.op.operands.toList.map λx=>XX.av (oev E x)
 | .skip=>[]
 | .skipu=>[]
 | .keep=>match o.op with|.move x=>[XX.op (.move x)]|.assign x=>[XX.op (.move x)]|_=>[XX.no]
 | .load ty _ _ _ _ _ _ _ _ _=>match o.op with|.load t x=>[XX.ty t,XX.av (oev E x)]|_=>[XX.no]
 | .call f _ _ _ _ _=>match o.op with|.call c=>(match c.callee with|.value (.func f)=>XX.fn f::c.args.toList.map λx=>XX.av (oev E x)|_=>[XX.no])|_=>[XX.no]
 | .gen _ _ _ _ _=>XX.op o.op::o.op.operands.toList.map λx=>XX.av (oev E x)
def scR (l:List Ϭ) (E:Nat->AV) (o:Ϭ) (W:Γ) (s:Sc P w):List XX:=
 XX.av (I3 P w E o s)::(match o.guard with|none=>[]|some (_,b)=>[XX.av (.c (match s with|.skip=>.bool (!b)|.skipu=>δ|_=>.bool b))])++
 match s with
 | .pure=>XX.res (.ok (.value (pv P w E o)) W)::o.op.operands.toList.map λx=>XX.av (.c (oev E x).val)
 | .skip=>(match o.guard with|none=>[XX.no]|some _=>[])
 | .skipu=>(match o.guard with|none=>[XX.no]|some _=>[])
 | .keep=>match o.op with|.move x=>[XX.op (.move x)]|.assign x=>[XX.op (.move x)]|_=>[]
 | .load ty g _ _ _ _ _ _ _ _=>[XX.ty ty,XX.av (.c (η (I ⟨g,0,J⟩)))]
 | .call f _ args _ _ _=>XX.fn f::args.map XX.av
 | .gen op args _ _ _=>XX.op op::args.map XX.av
def J0 (l:List Ϭ) (E:Nat->AV) (W:Γ):List Ϭ->List (Sc P w)->List (List XX)
 | o::os,s::G=>scL l E o W s::J0 l E W os G
 | _,_=>[]
def Jz (l:List Ϭ) (E:Nat->AV) (W:Γ):List Ϭ->List (Sc P w)->List (List XX)
 | o::os,s::G=>scR l E o W s::Jz l E W os G
 | _,_=>[]
def T7 (l:List Ϭ) (i:Nat) (t:Nat):Bool:=(π l.length).all λj=>match l[j]? with
 | none=>Ε
 | some oj=>if oj.dst=I t then ñ .any l.toArray i j else Α
def Pu (l:List Ϭ) (i:Nat) (o:Ϭ):Bool:=
 (match o.op with|.select _ _=>Ε|_=>Α)&&o.dst.isSome&&(o.op.operands.toList.all λx=>match x with|.tmp t=>T7 l i t|_=>Α)&&
 (match o.guard with|none=>Α|some (k,_)=>(match l[k]? with|some ok=>ok.dst.isSome|none=>Ε)&&ñ .any l.toArray i k)
def scB (l:List Ϭ) (sz:Nat):Bool:=I6 l.toArray sz&&(π l.length).all λi=>match l[i]? with
 | none=>Ε
 | some o=>Pu l i o
def ROp (P:Ö) (ops:Array Ϭ) (Q:Exit->ë->Γ->Prop) (F:Nat->Δ->Γ->Prop) (a0:ë) (w1:Γ) (i:Nat):Prop:=
 ∀ o,ops[i]? = I o->∀ a w,Ext w1 w->(∀ j oj,ops[j]? = I oj->ñ .any ops i j=Α->F j (Cz oj a) w)->(∀ e,(∀ (j:Nat) (oj:Ϭ),ops[j]? = I oj->oj.dst≠I e)->a.tmps.getD e δ=a0.tmps.getD e δ)->(Ϡ o (ð ops a.tmps)=Α/\o.wp P a w (λE w'=>∃ v,(o.dst=J->v=δ)/\E=a.put o.dst v/\Ext w w'/\F i v w') Q)\/(Ϡ o (ð ops a.tmps)=Ε/\F i δ w)
structure RegI (ops:Array Ϭ) (F:Nat->Δ->Γ->Prop) (a0:ë) (w1:Γ) (listed:Nat->Bool) (a:ë) (w:Γ):Prop where
 ext:Ext w1 w
 defers:a.defers=a0.defers
 size:a.tmps.size=a0.tmps.size
 done:∀ i o,ops[i]? = I o->listed i=Α->F i (Cz o a) w
 rest:∀ d,(∀ i o,ops[i]? = I o->listed i=Α->o.dst≠I d)->a.tmps.getD d δ=a0.tmps.getD d δ
theorem Mn {ops:Array Ϭ} {F:Nat->Δ->Γ->Prop} (hF:∀ i v w w',F i v w->Ext w w'->F i v w') {a0:ë} {w1:Γ} {sz:Nat} (ad:a0.tmps.size=sz) (hd:Fh ops sz=Α) {listed:Nat->Bool} {a:ë} {w w':Γ} (E:RegI ops F a0 w1 listed a w)
  {i:Nat} {o:Ϭ} (T:ops[i]? = I o) {v:Δ} (ae:o.dst=J->v=δ) (X:Ext w w') (hv:F i v w'):RegI ops F a0 w1 (λj=>decide (j=i)||listed j) (a.put o.dst v) w':=by
 have has:a.tmps.size=sz:=by rw[E.size,ad]
 refine⟨E.ext.trans X,by rw[(I5 a o.dst v).2];exact E.defers,by rw[(I5 a o.dst v).1];exact E.size,λj oj H G=>?_,λe he=>?_⟩
 ·rw[Md hd T has ae H];by_cases e:j=i
  ·rw[if_pos e,e];exact hv
  rw[if_neg e];have G:listed j=Α:=by simpa [e] using G
  exact hF _ _ _ _ (E.done j oj H G) X
 have h1:(a.put o.dst v).tmps.getD e δ=a.tmps.getD e δ:=by
  cases aa:o.dst with
  | none=>rfl
  | some d=>rw[D0 _ _ _ _ (by rw[has];exact (Ik hd i o T d aa).1),if_neg];exact λh=>he i o T (by simp) (by rw[aa,h])
 rw[h1];exact E.rest e λj oj H G=>he j oj H (by simp[G])
theorem RegI.congr {ops:Array Ϭ} {F:Nat->Δ->Γ->Prop} {a0:ë} {w1:Γ} {l T:Nat->Bool} {a:ë} {w:Γ} (E:RegI ops F a0 w1 l a w) (h:∀ j,j<ops.size->l j=T j):RegI ops F a0 w1 T a w where
 ext:=E.ext
 defers:=E.defers
 size:=E.size
 done:=λi o G H=>E.done i o G (by rw[h i (Ϙ.1 G).1];exact H)
 rest:=λd hd=>E.rest d λi o G H=>hd i o G (by rw[<-h i (Ϙ.1 G).1];exact H)
theorem Ta {ops:Array Ϭ} {i j:Nat} {o:Ϭ} (E:ops[i]? = I o) (h:ñ .any ops i j=Α):∃ e∈o.after,Region.binds .any e=Α/\e.on=j:=by obtain⟨oi,G,e,he,hb,H⟩:=Region.waitsFor_spec h;obtain rfl:oi=o:=ϓ (G.symm.trans E);exact⟨e,he,hb,H⟩
theorem GT {ops:Array Ϭ} {Q:Exit->ë->Γ->Prop} {F:Nat->Δ->Γ->Prop} (hF:∀ i v w w',F i v w->Ext w w'->F i v w') {a0:ë} {w1:Γ} {sz:Nat} (ae:a0.tmps.size=sz) (hd:Fh ops sz=Α) {listed:Array Bool} (ag:listed.size=ops.size) {a:ë} {w:Γ} (G:RegI ops F a0 w1 (λj=>listed.getD j Ε) a w)
  {i:Nat} (hi:i∈Region.ready .any ops listed) (H:ROp P ops Q F a0 w1 i):wpOp P ops Q i (λT w'=>RegI ops F a0 w1 (λj=>(listed.setIfInBounds i Α).getD j Ε) T w') a w:=by
 obtain⟨aq,o,E,ah⟩:=ý.1 hi;have ai:=(Ϙ.1 E).1;have af:∀ {T w'},RegI ops F a0 w1 (λj=>decide (j=i)||listed.getD j Ε) T w'->RegI ops F a0 w1 (λj=>(listed.setIfInBounds i Α).getD j Ε) T w':=λh=>h.congr λj hj=>by
  by_cases e:i=j
  ·subst e;simp[ag▸ai]
  rw[getD_set_ne Ε e];simp[Ne.symm e]
 have:=H o E a w G.ext (λj oj aa X=>by obtain⟨e,he,hb,aj⟩:=Ta E X;exact G.done j oj aa (by rw[<-aj];exact ah e he hb)) (λe he=>G.rest e λj oj aa _=>he j oj aa)
 unfold wpOp;rw[E];rcases this with⟨X,ak⟩|⟨X,hv⟩
 ·simp only[X,if_true];refine .inl (Ϭ.wp_mono (λT w' h=>?_) ak);obtain⟨v,an,rfl,hE,hv⟩:=h;exact af (Mn hF ae hd G E an hE hv)
 simp only[X];exact af (Mn hF ae hd G E (λ_=>rfl) (Κ w) hv)
theorem Up {ops:Array Ϭ} {Q:Exit->ë->Γ->Prop} {F:Nat->Δ->Γ->Prop} (hF:∀ i v w w',F i v w->Ext w w'->F i v w') {a0:ë} {w1:Γ} {sz:Nat} (ab:a0.tmps.size=sz) (hd:Fh ops sz=Α) (hE:Fg ops ops.size=Α)
  (ae:∀ i,i<ops.size->ROp P ops Q F a0 w1 i) (af:∀ a w,RegI ops F a0 w1 (λ_=>Α) a w->Q .normal a w) :
  ∀ (f:Nat) (listed:Array Bool) (a:ë) (w:Γ),listed.size=ops.size->RegI ops F a0 w1 (λj=>listed.getD j Ε) a w->unl ops.size listed=f->wpAny P .any ops Q f listed a w
 | 0,listed,a,w,E,T,hu=>by
  have ag:=Hl _ listed hu;refine⟨?_,af a w (T.congr λj hj=>ag j hj)⟩;refine List.eq_nil_iff_forall_not_mem.2 λi hi=>?_
  obtain⟨G,o,X,_⟩:=ý.1 hi;have an:=(Ϙ.1 X).1;have:=ag i an;have H:i<listed.size:=by omega
  rw[Ϗ,ϗ H] at G this;rw[Ç] at G this;rw[this] at G;cases G
 | f+1,listed,a,w,E,T,hu=>by
  obtain⟨k,hk,aq,ar⟩:=Jg ops.size listed (by omega);have ah:=La hE E (Υ _) k hk ar aq;refine⟨λh0=>(by rw[h0] at ah;cases ah),λi hi=>?_⟩;obtain⟨ai,o,X,_⟩:=ý.1 hi;have aj:=(Ϙ.1 X).1;have H:i<listed.size:=by omega
  have au:listed.getD i Ε=Ε:=by rw[Ϗ,ϗ H] at ai ⊢;exact ai
  refine wpOp_mono (λa' w' h=>Up hF ab hd hE ae af f _ a' w' (by rw[Array.size_setIfInBounds];exact E) h ?_) (GT hF ab hd E T hi (ae i aj));have:=Iu _ listed i aj H au;show unl ops.size (listed.setIfInBounds i Α)=f;omega
theorem Uo {ops:Array Ϭ} {Q:Exit->ë->Γ->Prop} {F:Nat->Δ->Γ->Prop} (X:∀ i v w w',F i v w->Ext w w'->F i v w') {a0:ë} {w1:Γ} {sz:Nat} (aa:a0.tmps.size=sz) (hd:Fh ops sz=Α) (hE:Fg ops ops.size=Α)
  (ai:∀ i,i<ops.size->ROp P ops Q F a0 w1 i) (aj:∀ a w,RegI ops F a0 w1 (λ_=>Α) a w->Q .normal a w) :
  ∀ (l:List Ϭ) (k:Nat) (a:ë) (w:Γ),(∀ j,l[j]? = ops[k+j]?)->RegI ops F a0 w1 (λj=>decide (j<k)) a w->wpList P ops Q l a w
 | [],k,a,w,T,E=>aj a w (E.congr λj hj=>by
   have:ops[k]? = J:=by simpa using (T 0).symm
   have:=Array.getElem?_eq_none_iff.1 this;simp;omega)
 | o::l,k,a,w,T,E=>by
  have G:ops[k]? = I o:=by simpa using (T 0).symm
  have hk:=(Ϙ.1 G).1;have an:∀ {a' w'},RegI ops F a0 w1 (λj=>decide (j=k)||decide (j<k)) a' w'->wpList P ops Q l a' w':=λh=>Uo X aa hd hE ai aj l (k+1) _ _ (λj=>by have:=T (j+1);simpa [Nat.add_assoc,Nat.add_comm 1 j] using this) (h.congr λj _=>by rw[Bool.eq_iff_iff];simp only[Ô,decide_eq_true_eq];omega)
  have:=ai k hk o G a w E.ext (λj oj ad H=>E.done j oj ad (by obtain⟨e,he,hb,ax⟩:=Ta G H;have h2:=hE;unfold Fg at h2;rw[Þ] at h2;have h3:=h2 k (ώ.2 hk);rw[G] at h3;simp only[Array.all_eq_true'] at h3;have h4:=h3 e he;simp only[hb,Bool.not_true,Bool.false_or,decide_eq_true_eq] at h4;simp;omega)) (λe he=>E.rest e λj oj ad _=>he j oj ad)
  show if _ then _ else _
  rcases this with⟨H,aq⟩|⟨H,hv⟩
  ·rw[if_pos H];refine .inl (Ϭ.wp_mono (λa' w' h=>?_) aq);obtain⟨v,ar,rfl,au,hv⟩:=h;exact an (Mn X aa hd E G ar au hv)
  rw[if_neg (by rw[H];exact Bool.false_ne_true)];exact an (Mn X aa hd E G (λ_=>rfl) (Κ w) hv)
theorem P8 {α:Type} {l:List α} {i:Nat} {x:α} (h:l.toArray[i]? = I x):l[i]? = I x:=by simpa using h
theorem Sn {l:List Ϭ} {E:Nat->AV} {W:Γ}:∀ (os:List Ϭ) (G:List (Sc P w)) (i:Nat) (o:Ϭ),J0 l E W os G=Jz l E W os G->os.length=G.length->os[i]? = I o->∃ s,G[i]? = I s/\scL l E o W s=scR l E o W s
 | [],_,i,o,_,_,h=>by simp at h
 | o'::os,[],i,o,_,H,_=>by simp at H
 | o'::os,s::G,0,o,h,_,T=>by
  obtain rfl:o'=o:=by simpa using T
  exact⟨s,by simp,(List.cons.inj h).1⟩
 | o'::os,s::G,i+1,o,h,H,T=>by obtain⟨s',h1,X⟩:=Sn os G i o (List.cons.inj h).2 (by simpa using H) (by simpa using T);exact⟨s',by simpa using h1,X⟩
theorem L9:∀ {xs ys:List AV},xs.map XX.av=ys.map XX.av->xs=ys
 | [],[],_=>rfl
 | [],_::_,h=>by cases h
 | _::_,[],h=>by cases h
 | x::xs,y::ys,h=>by simp only[List.map_cons,ó,XX.av.injEq] at h;rw[h.1,L9 h.2]
theorem Qq {W:Γ} {E:Nat->AV} {ρ:á->Δ}:∀ (xs:List á),(∀ x∈xs,(oev E x).holds W (ρ x))->Fd W (xs.map (oev E)) (xs.map ρ)
 | [],_=>trivial
 | x::xs,h=>⟨h x É,Qq xs λy G=>h y (ç _ G)⟩
theorem GI {l:List Ϭ} {Q:Exit->ë->Γ->Prop} {E:Nat->AV} {a0:ë} {sz:Nat} (hB:scB l sz=Α) {i:Nat} {o:Ϭ} (ho:l[i]? = I o) {s:Sc P w}
  (hs:∀ W,scL l E o W s=scR l E o W s) (h0:∀ e,(∀ (j:Nat) (oj:Ϭ),l[j]? = I oj->oj.dst≠I e)->E e=.c (a0.tmps.getD e δ)) :
  ROp P l.toArray Q (λi v W=>match l[i]? with|some o=>(E (o.dst.getD 0)).holds W v|none=>True) a0 w i:=by
 intro o' bk a W hE bl bm;obtain rfl:o=o':=ϓ (ho.symm.trans (P8 bk));simp only[scB,ς,Þ,ώ] at hB;have bn:i<l.length:=(ν.1 ho).1;have G:=hB.2 i bn;rw[ho] at G;simp only[Pu,ς] at G;obtain⟨⟨⟨ba,bo⟩,bp⟩,T⟩:=G;have bq:∀ cs b,o.op≠.select cs b:=λcs b e=>by rw[e] at ba;cases ba
 obtain⟨d,hd⟩:=Option.isSome_iff_exists.1 bo;have ax:∀ (j:Nat) (oj:Ϭ) (dj:Nat),l[j]? = I oj->oj.dst=I dj->ñ .any l.toArray i j=Α->(E dj).holds W (a.tmps.getD dj δ):=λj oj dj ab aj hw=>by have:=bl j oj (by simpa using ab) hw;simp only[ab] at this;unfold Cz at this;rw[aj] at this;exact this
 have hx:∀ x∈o.op.operands,(oev E x).holds W (a.eval x):=λx hx=>by
  have X:=(Þ.1 bp) x (by simpa using hx);cases x with
  | const v=>rfl
  | global g=>rfl
  | func f=>rfl
  | tmp t=>
   simp only[T7,Þ,ώ] at X;by_cases bb:∃ (j:Nat) (oj:Ϭ),l[j]? = I oj/\oj.dst=I t
   ·obtain⟨j,oj,ab,aj⟩:=bb;have:=X j (ν.1 ab).1;rw[ab] at this;simp only[aj,if_true] at this;exact ax j oj t ab aj this
   have bc:∀ (j:Nat) (oj:Ϭ),l[j]? = I oj->oj.dst≠I t:=λj oj ab aj=>bb ⟨j,oj,ab,aj⟩
   show (E t).holds W (a.tmps.getD t δ);rw[h0 t bc,bm t λj oj ab=>bc j oj (P8 ab)];rfl
 have bd:=hs W;have bu:E d=I3 P w E o s:=by have:=(List.cons.inj bd).1;rw[hd] at this;exact XX.av.inj this
 have hF:∀ v W',(match l[i]? with|some o=>(E (o.dst.getD 0)).holds W' v|none=>True)=(I3 P w E o s).holds W' v:=λv W'=>by rw[ho];show (E (o.dst.getD 0)).holds W' v=_;rw[hd];show (E d).holds W' v=_;rw[bu]
 have bw:=(List.cons.inj bd).2;have bz:∀ (k:Nat) (b x:Bool),o.guard=I (k,b)->E (Jo l k)=.c (.bool x)->ð l.toArray a.tmps k=I x:=λk b x hg he=>by
  rw[hg] at T;simp only[ς] at T;cases aa:l[k]? with
  | none=>rw[aa] at T;exact absurd T.1 (by simp)
  | some ok=>
   rw[aa] at T;obtain⟨dk,ah⟩:=Option.isSome_iff_exists.1 T.1;have h1:=ax k ok dk aa ah T.2;have h2:Jo l k=dk:=by simp[Jo,aa,ah]
   rw[h2] at he;rw[he] at h1;have h3:a.tmps.getD dk δ=.bool x:=h1;have h4:a.tmps[dk]? = I (.bool x):=by
    rw[Ϗ] at h3;cases hh:a.tmps[dk]? with
    | none=>rw[hh] at h3;cases h3
    | some u=>rw[hh] at h3;exact congrArg I h3
   unfold ð;have h5:l.toArray[k]? = I ok:=by simpa using aa
   rw[h5];simp only[ò,ah,h4]
 have ak:∀ b,(∀ k b',o.guard=I (k,b')->ð l.toArray a.tmps k=I (if b then b' else !b'))->(b=Ε->o.guard≠J)->Ϡ o (ð l.toArray a.tmps)=b:=λb h1 h2=>by
  unfold Ϡ;cases hg:o.guard with
  | none=>cases b with
   | false=>exact absurd hg (h2 rfl)
   | true=>rfl
  | some p=>obtain⟨k,b'⟩:=p;simp only[h1 k b' hg];cases b<;>cases b'<;>rfl
 obtain⟨hG,H⟩:=List.append_inj bw (by cases o.guard<;>rfl);have an:∀ b':Bool,(match s with|.skip=>I Ε|.skipu=>J|_=>I Α)=I b'->∀ k b,o.guard=I (k,b)->ð l.toArray a.tmps k=I (if b' then b else !b):=λb' be k b hg=>by rw[hg] at hG;simp only[ó,XX.av.injEq,and_true] at hG;refine bz k b _ hg (hG.trans ?_);cases s<;>first|(cases be;rfl)|(cases be)
 have ao:∀ v:Δ,o.dst=J->v=δ:=λv h=>by rw[hd] at h;cases h
 have hρ:(∀ x∈o.op.operands,oev E x=.c (oev E x).val)->ö a.eval o=ö (λx=>(oev E x).val) o:=λh=>execOp_congr o bq λx X=>by have:=hx x X;rw[h x X] at this;exact this
 cases s with
 | skip=>
  refine .inr ⟨ak Ε (an Ε rfl) (λ_ hg=>?_),?_⟩
  ·rw[hg] at H;exact absurd H (by simp)
  simp only[hF];rfl
 | skipu=>
  cases hg:o.guard with
  | none=>rw[hg] at H;exact absurd H (by simp)
  | some p=>
   obtain⟨k,b⟩:=p;rw[hg] at hG T;simp only[ó,XX.av.injEq,and_true] at hG;simp only[ς] at T;have hy:ð l.toArray a.tmps k=J:=by
    cases aa:l[k]? with
    | none=>rw[aa] at T;exact absurd T.1 (by simp)
    | some ok=>
     rw[aa] at T;obtain⟨dk,ah⟩:=Option.isSome_iff_exists.1 T.1;have h1:=ax k ok dk aa ah T.2;have h2:Jo l k=dk:=by simp[Jo,aa,ah]
     rw[h2] at hG;rw[hG] at h1;have h3:a.tmps.getD dk δ=δ:=h1;unfold ð;have h5:l.toArray[k]? = I ok:=by simpa using aa
     rw[h5];simp only[ò,ah];rw[Ϗ] at h3;cases hh:a.tmps[dk]? with
     | none=>rfl
     | some u=>rw[hh] at h3;have h4:u=δ:=h3;rw[h4];rfl
   refine .inr ⟨?_,?_⟩
   ·unfold Ϡ;simp only[hg,hy];rfl
   simp only[hF];rfl
 | pure=>
  refine .inl ⟨ak Α (an Α rfl) (λh=>by cases h),?_⟩;obtain⟨hr,a1⟩:=List.cons.inj H;have hr:=XX.res.inj hr;have b5:∀ x∈o.op.operands,oev E x=.c (oev E x).val:=λx X=>by
   have e:(o.op.operands.toList.map (oev E)).map XX.av=(o.op.operands.toList.map λx=>AV.c (oev E x).val).map XX.av:=by rw[List.map_map,List.map_map];exact a1
   exact List.map_inj_left.1 (L9 e) x (by simpa using X)
  refine Cy (v:=pv P w E o) (w':=W) (by rw[hρ b5];exact hr) ?_;exact⟨_,ao _,rfl,Κ W,by simp only[hF];rfl⟩
 | keep=>
  refine .inl ⟨ak Α (an Α rfl) (λh=>by cases h),?_⟩;cases G:o.op with
  | move x=>refine Cy (v:=a.eval x) (w':=W) (BigFrame.run_move x G W) ⟨_,ao _,rfl,Κ W,?_⟩;simp only[hF,I3,Kx,G];exact hx x (by rw[G];simp[Op.operands])
  | assign x=>refine Cy (v:=a.eval x) (w':=W) (BigFrame.run_assign x G W) ⟨_,ao _,rfl,Κ W,?_⟩;simp only[hF,I3,Kx,G];exact hx x (by rw[G];simp[Op.operands])
  | _=>simp[G] at H
 | load ty g cs t fr dd hg hu b7 hi=>
  refine .inl ⟨ak Α (an Α rfl) (λh=>by cases h),?_⟩;have H:(match o.op with|.load t x=>[XX.ty t,XX.av (oev E x)]|_=>[XX.no])=[XX.ty ty,XX.av (.c (η (I ⟨g,0,J⟩)))]:=H;cases G:o.op with
  | load t' x=>simp only[G,ó,XX.ty.injEq,XX.av.injEq,and_true] at H;obtain⟨rfl,a6⟩:=H;have bf:=hx x (by rw[G];simp[Op.operands]);rw[a6] at bf;refine Cy (v:=.agg cs) (w':=W) (RL t' x G g bf t cs fr dd (hg W hE) hu b7 hi) ⟨_,ao _,rfl,Κ W,?_⟩;simp only[hF];rfl
  | _=>simp[G] at H
 | call f he args res hm h=>
  refine .inl ⟨ak Α (an Α rfl) (λh=>by cases h),?_⟩;have H:(match o.op with|.call c=>(match c.callee with|.value (.func f)=>XX.fn f::c.args.toList.map λx=>XX.av (oev E x)|_=>[XX.no])|_=>[XX.no])=XX.fn f::args.map XX.av:=H;cases G:o.op with
  | call c=>
   simp only[G] at H;cases hc:c.callee with
   | value fx=>
    cases fx with
    | func f'=>
     simp only[hc,ó,XX.fn.injEq] at H;obtain⟨rfl,a6⟩:=H;have e:(c.args.toList.map (oev E)).map XX.av=args.map XX.av:=by rw[List.map_map];exact a6
     have ca:=L9 e;have hh:Fd W args (c.args.toList.map a.eval):=by rw[<-ca];exact Qq _ λx X=>hx x (by rw[G];simp[Op.operands,Call.operands,hc];exact .inr (by simpa using X))
     have hC:=h W _ hE hh;have cc:(ö a.eval o).run P W=.ok (.enter f' (c.args.toList.map a.eval).toArray) W:=by
      have e1:ö a.eval o=callFunc f' (c.args.toList.map a.eval).toArray:=by
       obtain⟨cn,op,cp,pos,cq,guard⟩:=o;simp only at G;subst G;obtain⟨ct,cu,cv⟩:=c;simp only at hc;subst hc;rw[execOp_call_go]
       congr 1
       apply Array.toList_inj.1;simp
      rw[e1];exact he _ W
     unfold Ϭ.wp;rw[cc,Ϭ.upon_enter];refine hC.mono λe W' ⟨v,cf,hv,cg⟩=>?_
     subst cf;exact⟨v,ao _,rfl,cg,by simp only[hF];exact hv⟩
    | _=>simp[hc] at H
   | _=>simp[hc] at H
  | _=>simp[G] at H
 | gen op args res hm h=>
  refine .inl ⟨ak Α (an Α rfl) (λh=>by cases h),?_⟩;obtain⟨G,a1⟩:=List.cons.inj H;have G:=XX.op.inj G;have e:(o.op.operands.toList.map (oev E)).map XX.av=args.map XX.av:=by rw[List.map_map];exact a1
  have hh:Fd W args (op.operands.toList.map a.eval):=by rw[<-L9 e,<-G];exact Qq _ λx X=>hx x (by simpa using X)
  obtain⟨v,hr,hv⟩:=h a.eval o W G hE hh;exact Cy hr ⟨v,ao _,rfl,Κ W,by simp only[hF];exact hv⟩
theorem Uf:∀ (l:List Ϭ) (G:List (Sc P w)) (E:Nat->AV),(∀ e,(E e).Mono)->∀ e,(scE P w l G E e).Mono
 | [],_,E,h,e=>by unfold scE;exact h e
 | _::_,[],E,h,e=>by unfold scE;exact h e
 | o::l,s::G,E,h,e=>by
  have T:∀ x,(oev E x).Mono:=λx=>by
   cases x with
   | tmp t=>exact h t
   | _=>exact AV.mono_c _
  unfold scE;refine Uf l G _ (λH=>?_) e;cases o.dst with
  | none=>exact h H
  | some d=>
   show (upd E d _ H).Mono;unfold upd;split
   ·cases s with
    | keep=>
     show (Kx E o.op).Mono;unfold Kx;split
     ·exact T _
     ·exact T _
     exact AV.mono_c _
    | call f he args res hm X=>exact hm
    | gen op args res hm X=>exact hm
    | _=>exact AV.mono_c _
   exact h H
theorem O6:∀ (l:List Ϭ) (G:List (Sc P w)) (E:Nat->AV) (e:Nat),(∀ (j:Nat) (oj:Ϭ),l[j]? = I oj->oj.dst≠I e)->scE P w l G E e=E e
 | [],_,E,e,_=>by unfold scE;rfl
 | _::_,[],E,e,_=>by unfold scE;rfl
 | o::l,s::G,E,e,h=>by
  unfold scE;rw[O6 l G _ e λj oj H=>h (j+1) oj (by simpa using H)];cases hd:o.dst with
  | none=>rfl
  | some d=>show upd E d _ e=E e;unfold upd;rw[if_neg λhe=>h 0 o rfl (by rw[hd,he])]
def ev0 (a:ë):Nat->AV:=λn=>.c (a.tmps.getD n δ)
theorem Sy {id:Nat} {l:List Ϭ} {Q:Exit->ë->Γ->Prop} {a0:ë} (sz:Nat) (dr:Bool) (G:List (Sc P w)) (hm:dr=Α->P.follows .mixedOrders=Α) (hB:scB l sz=Α) (af:a0.tmps.size=sz) (T:l.length=G.length)
  (hs:∀ W,J0 l (scE P w l G (ev0 a0)) W l G=Jz l (scE P w l G (ev0 a0)) W l G)
  (an:∀ a' W,Ext w W->a'.defers=a0.defers->a'.tmps.size=sz->(∀ e,(scE P w l G (ev0 a0) e).holds W (a'.tmps.getD e δ))->Q .normal a' W):(Code.region id l.toArray dr).wp P Q a0 w:=by
 have aa:I6 l.toArray sz=Α:=by have:=hB;simp only[scB,ς] at this;exact this.1
 simp only[I6,ς] at aa;obtain⟨E,hE⟩:=Xq (scE P w l G (ev0 a0));have ay:∀ e,(E e).Mono:=λe=>by rw[<-hE];exact Uf l G _ (λe=>AV.mono_c _) e
 have h0:∀ e,(∀ (j:Nat) (oj:Ϭ),l[j]? = I oj->oj.dst≠I e)->E e=.c (a0.tmps.getD e δ):=λe he=>by rw[<-hE];exact O6 l G _ e he
 rw[hE] at hs an;have hF:∀ (i:Nat) v W W',(match l[i]? with|some o=>(E (o.dst.getD 0)).holds W v|none=>True)->Ext W W'->(match l[i]? with|some o=>(E (o.dst.getD 0)).holds W' v|none=>True):=λi v W W' h hx=>by
  cases T:l[i]? with
  | none=>trivial
  | some o=>rw[T] at h;exact ay _ W W' v h hx
 have aq:∀ i,i<l.toArray.size->ROp P l.toArray Q (λi v W=>match l[i]? with|some o=>(E (o.dst.getD 0)).holds W v|none=>True) a0 w i:=λi hi=>by
  have ho:l[i]? = I (l[i]'(by simpa using hi)):=Θ _;have:∃ s,G[i]? = I s/\∀ W,scL l E (l[i]'(by simpa using hi)) W s=scR l E (l[i]'(by simpa using hi)) W s:=by obtain⟨s,h1,_⟩:=Sn l G i _ (hs w) T ho;refine⟨s,h1,λW=>?_⟩;obtain⟨s',ar,h2⟩:=Sn l G i _ (hs W) T ho;rw[h1] at ar;rw[ϓ ar];exact h2
  obtain⟨s,_,h2⟩:=this;exact GI hB ho h2 h0
 have au:∀ a W,RegI l.toArray (λi v W=>match l[i]? with|some o=>(E (o.dst.getD 0)).holds W v|none=>True) a0 w (λ_=>Α) a W->Q .normal a W:=λa W H=>by
  refine an a W H.ext H.defers (H.size.trans af) λe=>?_
  by_cases aw:∃ (j:Nat) (oj:Ϭ),l[j]? = I oj/\oj.dst=I e
  ·obtain⟨j,oj,X,aj⟩:=aw;have:=H.done j oj (by simpa using X) rfl;rw[X] at this;simp only[aj,Cz] at this;exact this
  have ax:∀ (j:Nat) (oj:Ϭ),l[j]? = I oj->oj.dst≠I e:=λj oj X aj=>aw ⟨j,oj,X,aj⟩
  rw[h0 e ax,H.rest e λj oj X _=>ax j oj (P8 X)];rfl
 cases dr with
 | false=>exact wp_region_lit (Uo hF af aa.1 aa.2 aq au l 0 a0 w (λj=>by simp) ⟨Κ w,rfl,rfl,λi o _ h=>by simp at h,λd _=>rfl⟩)
 | true=>
  have az:∀ i,i<l.toArray.size->ROp P l.toArray Q (λi v W=>match l[i]? with|some o=>(E (o.dst.getD 0)).holds W v|none=>True) a0 w.drew i:=λi hi o ho a W hx=>aq i hi o ho a W ((Κ w).drew.t hx)
  refine wp_region_any (hm rfl) (Up hF af aa.1 aa.2 az (λa W H=>au a W ⟨(Κ w).drew.t H.ext,H.defers,H.size,H.done,H.rest⟩) _ _ a0 w.drew (by simp) ⟨Κ _,rfl,rfl,λi o _ T=>(by rw[ϛ] at T;cases T),λd _=>rfl⟩ ?_);have hu:∀ m,unl m (Array.replicate l.toArray.size Ε)=m:=λm=>by
   induction m with
   | zero=>rfl
   | succ m ih=>rw[Fj,ih,ϛ];simp
  exact hu _
theorem CH {id:Nat} {l:List Ϭ} {Q:Exit->ë->Γ->Prop} {a0:ë} (sz:Nat) (H:Bool) (t:Nat) (v:Δ) (E:List (Sc P w)) (hm:H=Α->P.follows .mixedOrders=Α) (T:scB l sz=Α) (X:a0.tmps.size=sz) (hl:l.length=E.length)
  (hs:∀ W,J0 l (scE P w l E (ev0 a0)) W l E=Jz l (scE P w l E (ev0 a0)) W l E) (hv:scE P w l E (ev0 a0) t=.c v)
  (ae:∀ G W,Ext w W->G.defers=a0.defers->G.tmps.getD t δ=v->Q .normal G W):(Code.region id l.toArray H).wp P Q a0 w:=
 Sy sz H E hm T X hl hs λG W h1 h2 _ h4=>ae G W h1 h2 (by have:=h4 t;rw[hv] at this;exact this)
def Dl:List Ϭ->List Δ->ë->ë
 | o::l,v::vs,a=>Dl l vs (a.put o.dst v)
 | _,_,a=>a
theorem Pe:∀ (l:List Ϭ) (vs:List Δ) (a:ë),(Dl l vs a).tmps.size=a.tmps.size/\(Dl l vs a).defers=a.defers
 | [],_,a=>by unfold Dl;exact⟨rfl,rfl⟩
 | _::_,[],a=>by unfold Dl;exact⟨rfl,rfl⟩
 | o::l,v::vs,a=>by unfold Dl;rw[(Pe l vs _).1,(Pe l vs _).2];exact I5 a o.dst v
theorem U8 (e:Nat):∀ (l:List Ϭ) (vs:List Δ) (a:ë),(∀ o∈l,∃ d,o.dst=I d/\d<a.tmps.size)->l.length=vs.length->(Dl l vs a).tmps.getD e δ=a.tmps.getD e δ/\(∀ o∈l,o.dst≠I e)\/∃ (i:Nat) (o:Ϭ) (v:Δ),l[i]? = I o/\vs[i]? = I v/\o.dst=I e/\(Dl l vs a).tmps.getD e δ=v
 | [],_,a,_,_=>by unfold Dl;exact .inl ⟨rfl,λo h=>by simp at h⟩
 | _::_,[],a,_,h=>by simp at h
 | o::l,v::vs,a,h,X=>by
  obtain⟨d,hd,T⟩:=h o É;have ih:=U8 e l vs (a.put o.dst v) (λE G=>by rw[(I5 a o.dst v).1];exact h E (ç _ G)) (by simpa using X);unfold Dl;rcases ih with⟨h1,H⟩|⟨i,E,v',h1,H,h3,h4⟩
  ·by_cases he:e=d
   ·subst he;refine .inr ⟨0,o,v,rfl,rfl,hd,?_⟩;rw[h1,hd,D0 _ _ _ _ T,if_pos rfl]
   refine .inl ⟨?_,λE G=>?_⟩
   ·rw[h1,hd,D0 _ _ _ _ T,if_neg he]
   rcases List.mem_cons.1 G with rfl|G
   ·rw[hd];exact λh=>he (ϓ h).symm
   exact H E G
  exact .inr ⟨i+1,E,v',by simpa using h1,by simpa using H,h3,h4⟩
theorem CD {id:Nat} {l:List Ϭ} {Q:Exit->ë->Γ->Prop} {a0:ë} (sz:Nat) (H:Bool) (T:List AV) (E:List (Sc P w)) (hm:H=Α->P.follows .mixedOrders=Α) (hB:scB l sz=Α) (X:a0.tmps.size=sz) (hl:l.length=E.length)
  (hs:∀ W,J0 l (scE P w l E (ev0 a0)) W l E=Jz l (scE P w l E (ev0 a0)) W l E) (hv:(l.map λo=>scE P w l E (ev0 a0) (o.dst.getD 0))=T)
  (aq:∀ W vs,Ext w W->Fd W T vs->Q .normal (Dl l vs a0) W):(Code.region id l.toArray H).wp P Q a0 w:=by
 refine Sy sz H E hm hB X hl hs λG W h1 h2 h3 h4=>?_
 obtain⟨vs,aa⟩:=Xq ((l.map λo=>G.tmps.getD (o.dst.getD 0) δ));have aw:l.length=vs.length:=by simpa using congrArg List.length aa
 have hh:Fd W T vs:=by
  rw[<-hv,<-aa];have:∀ k:List Ϭ,Fd W (k.map λo=>scE P w l E (ev0 a0) (o.dst.getD 0)) (k.map λo=>G.tmps.getD (o.dst.getD 0) δ):=λk=>by
   induction k with
   | nil=>trivial
   | cons o k ih=>exact⟨h4 _,ih⟩
  exact this l
 have ab:=hB;simp only[scB,I6,ς,Þ,ώ] at ab;have az:∀ o∈l,∃ d,o.dst=I d/\d<a0.tmps.size:=λo ho=>by obtain⟨i,hi,rfl⟩:=List.getElem_of_mem ho;have h5:=ab.2 i hi;rw[Θ hi] at h5;simp only[Pu,ς] at h5;obtain⟨d,hd⟩:=Option.isSome_iff_exists.1 h5.1.1.2;refine⟨d,hd,?_⟩;rw[X];exact (Ik ab.1.1 i l[i] (by simp) d hd).1
 have he:G=Dl l vs a0:=by
  obtain⟨s1,s2⟩:=Pe l vs a0;have ht:G.tmps=(Dl l vs a0).tmps:=by
   apply Array.ext
   ·rw[s1,h3,X]
   intro e g1 g2;have hg:G.tmps.getD e δ=(Dl l vs a0).tmps.getD e δ:=by
    rcases U8 e l vs a0 az aw with⟨k1,k2⟩|⟨i,o,v,k1,k2,k3,k4⟩
    ·have:=h4 e;rw[O6 l E _ e (λj oj hj=>k2 oj (List.mem_of_getElem? hj))] at this;rw[k1];exact this
    have aj:=congrArg (λx=>x[i]?) aa;simp only[υ,k1,k2,Option.map_some,k3,Ç] at aj;rw[k4];exact ϓ aj
   rw[Ϗ,Ϗ,ϗ g1,ϗ g2] at hg;exact hg
  have af:=h2;rw[<-s2] at af;generalize Dl l vs a0=b at *;cases G;cases b
  simp only at ht af;rw[ht,af]
 rw[he];exact aq W vs h1 hh
theorem Sx {id:Nat} {l:List Ϭ} {Q:Exit->ë->Γ->Prop} {a0:ë} (sz:Nat) (G:Bool) (vs:List Δ) (E:List (Sc P w)) (hm:G=Α->P.follows .mixedOrders=Α) (H:scB l sz=Α) (T:a0.tmps.size=sz) (X:l.length=E.length)
  (hs:∀ W,J0 l (scE P w l E (ev0 a0)) W l E=Jz l (scE P w l E (ev0 a0)) W l E) (hv:(l.map λo=>scE P w l E (ev0 a0) (o.dst.getD 0))=vs.map AV.c)
  (ad:∀ W,Ext w W->Q .normal (Dl l vs a0) W):(Code.region id l.toArray G).wp P Q a0 w:=
 CD sz G _ E hm H T X hs hv λW af h1 h2=>by rw[Lh h2];exact ad W h1
end
open Go.RowKit Go.Shelf
theorem Y7 {d E:Dfa} (h1:d.cls=E.cls) (G:d.n=E.n) (H:d.acc=E.acc):d=E:=by cases d;cases E;simp at h1 G H;simp[h1,G,H]
theorem SD (d E:Dfa):(d.cls=E.cls/\d.n=E.n/\d.acc=E.acc)↔d=E:=
 ⟨fun⟨h1,G,H⟩=>Y7 h1 G H,λh=>by subst h;exact⟨rfl,rfl,rfl⟩⟩
instance dfaDec:DecidableEq Dfa:=λd E=>decidable_of_iff _ (SD d E)
theorem SG {w W:Γ} {a X:Option Addr} {c c':Nat} {l E:List Cls} (h:Cs w (U a l.length c) l) (h':Cs w (U X E.length c') E) (hE:Ext w W) (j:Nat) (hj:j<l.length) (af:j<E.length):∃ b o b' G,a=I ⟨b,o,J⟩/\X=I ⟨b',G,J⟩/\((∀ e:EW W,e.W.cell? ⟨b,o+j*4,J⟩=I (.int γ (wd (l.getD j 0#256) 0)))/\(∀ e:EW W,e.W.cell? ⟨b,o+j*4+1,J⟩=I (.int γ (wd (l.getD j 0#256) 1)))/\(∀ e:EW W,e.W.cell? ⟨b,o+j*4+2,J⟩=I (.int γ (wd (l.getD j 0#256) 2)))/\(∀ e:EW W,e.W.cell? ⟨b,o+j*4+3,J⟩=I (.int γ (wd (l.getD j 0#256) 3))))/\((∀ e:EW W,e.W.cell? ⟨b',G+j*4,J⟩=I (.int γ (wd (E.getD j 0#256) 0)))/\(∀ e:EW W,e.W.cell? ⟨b',G+j*4+1,J⟩=I (.int γ (wd (E.getD j 0#256) 1)))/\
  (∀ e:EW W,e.W.cell? ⟨b',G+j*4+2,J⟩=I (.int γ (wd (E.getD j 0#256) 2)))/\(∀ e:EW W,e.W.cell? ⟨b',G+j*4+3,J⟩=I (.int γ (wd (E.getD j 0#256) 3)))):=by
 obtain⟨b,o,c1,H,hx⟩:=Ü h (by omega);obtain⟨b',G,c2,T,hy⟩:=Ü h' (by omega);injection H with H _ _
 injection T with T _ _
 exact⟨b,o,b',G,H,T,Rg (λi hi=>hE.cell (hx i hi)) j hj,Rg (λi hi=>hE.cell (hy i hi)) j af⟩
theorem T8 {w W:Γ} {a X:Option Addr} {c c' n G:Nat} {f f':Nat->Δ} (h:Sl w (U a n c) 1 n f) (h':Sl w (U X G c') 1 G f') (hE:Ext w W) (j:Nat) (hj:j<n) (ah:j<G) :
  ∃ b o b' E,a=I ⟨b,o,J⟩/\X=I ⟨b',E,J⟩/\(∀ e:EW W,e.W.cell? ⟨b,o+j,J⟩=I (f j))/\(∀ e:EW W,e.W.cell? ⟨b',E+j,J⟩=I (f' j)):=by
 obtain⟨b,o,c1,H,hx⟩:=Ü h (by omega);obtain⟨b',E,c2,T,hy⟩:=Ü h' (by omega);injection H with H _ _
 injection T with T _ _
 exact⟨b,o,b',E,H,T,A4 (hE.cell (hx j (by omega))),A4 (hE.cell (hy j (by omega)))⟩
theorem Uk (d E:Dfa) (v v':Δ) (w:Γ) (h:IsD w v d) (h':IsD w v' E) :
  Ϟ Ι 14 #[v,v'] w λe w'=>e=Ω (.bool (decide (d=E)))/\Ext w w':=by
 obtain⟨vc,vn,va,rfl,hc,hr,ha⟩:=h;obtain⟨dw,dx,dy,rfl,cb,dk,cd⟩:=h';obtain⟨vs,dm,b8,cu⟩:=hr;obtain⟨dn,dp,cf,cv⟩:=dk;obtain⟨ac,cc,rfl⟩:=Sl.len hc;obtain⟨bk,bl,rfl⟩:=Sl.len cb;obtain⟨an,cn,rfl⟩:=Sl.len b8;obtain⟨bo,bp,rfl⟩:=Sl.len cf;obtain⟨aa,ca,rfl⟩:=Sl.len ha;obtain⟨bt,bu,rfl⟩:=Sl.len cd;have aw:=((Κ w).alloc (Β (dA (U ac d.cls.length cc) (U an d.n.length cn) (U aa d.acc.length ca)) 40)).alloc (Β (dA (U bk E.cls.length bl) (U bo E.n.length bp) (U bt E.acc.length bu)) 40);have H2:=Ag (Ad w (Β (dA (U ac d.cls.length cc) (U an d.n.length cn) (U aa d.acc.length ca)) 40)) (Β (dA (U bk E.cls.length bl) (U bo E.n.length bp) (U bt E.acc.length bu)) 40);have H3:=heap_alloc2_new w (Β (dA (U ac d.cls.length cc) (U an d.n.length cn) (U aa d.acc.length ca)) 40) (Β (dA (U bk E.cls.length bl) (U bo E.n.length bp) (U bt E.acc.length bu)) 40);obtain⟨w1,b9⟩:=Xq ((w.alloc (Β (dA (U ac d.cls.length cc) (U an d.n.length cn) (U aa d.acc.length ca)) 40)).alloc (Β (dA (U bk E.cls.length bl) (U bo E.n.length bp) (U bt E.acc.length bu)) 40));have HK:ϟ (∀ W,Ext w1 W->(W.cell? ⟨w.heap.size,0,J⟩=I (U ac d.cls.length cc)/\W.cell? ⟨w.heap.size,1,J⟩=I (U an d.n.length cn)/\W.cell? ⟨w.heap.size,2,J⟩=I (U aa d.acc.length ca))/\
   (W.cell? ⟨w.heap.size+1,0,J⟩=I (U bk E.cls.length bl)/\W.cell? ⟨w.heap.size+1,1,J⟩=I (U bo E.n.length bp)/\W.cell? ⟨w.heap.size+1,2,J⟩=I (U bt E.acc.length bu))):=Z λW H=>by
  rw[b9] at H2 H3;exact⟨⟨(Τ W _ 0 _ _ _ (H.heap H2)).trans rfl,(Τ W _ 1 _ _ _ (H.heap H2)).trans rfl,(Τ W _ 2 _ _ _ (H.heap H2)).trans rfl⟩,(Τ W _ 0 _ _ _ (H.heap H3)).trans rfl,(Τ W _ 1 _ _ _ (H.heap H3)).trans rfl,(Τ W _ 2 _ _ _ (H.heap H3)).trans rfl⟩
 rw[b9] at aw;have ax:=Z aw;have HC:=Z (λW (H:Ext w1 W) j (h1:j<d.cls.length) (h2:j<E.cls.length)=>SG hc cb (aw.t H) j h1 h2);have HR:=Z (λW (H:Ext w1 W) j (h1:j<d.n.length) (h2:j<E.n.length)=>T8 b8 cf (aw.t H) j h1 h2);have cz:=Z (λW (H:Ext w1 W) j (h1:j<d.n.length) (h2:j<E.n.length)=>FZ _ _ _ _ W ((cu j h1).ext (aw.t H)) ((cv j h2).ext (aw.t H)));have HA:=Z (λW (H:Ext w1 W) j (h1:j<d.acc.length) (h2:j<E.acc.length)=>T8 ha cd (aw.t H) j h1 h2);obtain⟨n1,a1⟩:=Xq (d.cls.length);obtain⟨n2,a7⟩:=Xq (d.n.length);obtain⟨n3,ba⟩:=Xq (d.acc.length);obtain⟨m1,be⟩:=Xq (E.cls.length);obtain⟨m2,bf⟩:=Xq (E.n.length);obtain⟨m3,bg⟩:=Xq (E.acc.length);have b1:=hc.1;have b2:=b8.1;have b3:=ha.1;rw[a1,a7,ba,be,bf,bg] at HK;rw[a1] at b1;rw[a7] at b2;rw[ba] at b3;rw[a1,be] at HC;rw[a7,bf] at HR cz;rw[ba,bg] at HA;have HN:=Z (í a1 (í a7 ba));have HM:=Z (í be (í bf bg));have hz:∀ W,W=w1->Ext w1 W:=λW h=>h▸Κ w1
 have cl:=b9;rw[a1,a7,ba,be,bf,bg] at cl;have HW:=Z cl;have cp:ϟ (¬ (n1=m1/\n2=m2/\n3=m3)->¬ d=E):=Z λhx e=>hx (by subst e;exact⟨HN.o.1.symm.trans HM.o.1,HN.o.2.1.symm.trans HM.o.2.1,HN.o.2.2.symm.trans HM.o.2.2⟩)
 rw[a1,a7,ba,be,bf,bg];clear a1 a7 ba be bf bg hc cb b8 cf cu cv ha cd H2 H3 aw b9 cl dm dp;go_enter Tryz.func14,Tryz.ntmps14;go_upto_region 1 with (fail)
 simp only[dA] at HW;rw[HW.o];clear HW;obtain⟨⟨T,k1,X⟩,k3,k4,k5⟩:=HK.o w1 (Κ w1);by_cases e1:n1=m1
 ·by_cases e2:n2=m2
  ·by_cases e3:n3=m3
   ·subst e1 e2 e3;go_wp2_with (fail);clear T k1 X k3 k4 k5;go_loopw [5] (λvi W=>∃ j:Nat,j<=n1/\vi=.int Χ j/\Ext w1 W/\ϟ (∀ q,q<j->d.cls.getD q 0#256=E.cls.getD q 0#256))
     (λvi _=>n1-(intOf vi).toNat)
    case atStart=>exact⟨0,by omega,rfl,Κ w1,Z λq hq=>by omega⟩
    obtain⟨j,hj,rfl,G,HQ⟩:=hrel;obtain⟨⟨T,k1,X⟩,k3,k4,k5⟩:=HK.o wr G;by_cases aj:j<n1
    ·obtain⟨b,o,b',o',rfl,rfl,⟨x0,x1,x2,x3⟩,y0,y1,y2,y3⟩:=HC.o wr G j aj aj;obtain⟨x,ah⟩:=Xq (d.cls.getD j 0#256);obtain⟨y,ai⟩:=Xq (E.cls.getD j 0#256);rw[ah] at x0 x1 x2 x3;rw[ai] at y0 y1 y2 y3;have HX:=Z ah;have HY:=Z ai;have hg:=KS x y;obtain⟨bx,bb⟩:=Xq ((x != y));rw[bb] at hg;have b4:=Z bb;clear bb;clear ah ai;have T:=A4 T;have k3:=A4 k3;go_upto_region 6 with (fail)
     refine Cl (by kernel_rfl) (by kernel_rfl) ?_;iterate 11 (with_reducible refine Á (λK hK=>?_);go_simp;first|(refine hK _ ?_;clear hK K))
     refine Ë ?_;rintro _ ⟨e,rfl⟩;have ad:=G.t e.ext;clear T k1 X k3 k4 k5 x0 x1 x2 x3 y0 y1 y2 y3;generalize e.W=w5 at *;cases bx with
     | false=>
      have bc:x=y:=by have:=b4.o;simpa using this
      go_wp2;go_roundw
      case rel=>exact⟨j+1,by omega,by go_num,ad,Z λq hq=>by
       by_cases bd:q<j
       ·exact HQ.o q bd
       obtain rfl:q=j:=by omega
       rw[HX.o,HY.o,bc]⟩
      case measure=>simp[intOf];omega
     | true=>
      have bc:¬ x=y:=by have:=b4.o;simpa using this
      have au:ϟ (¬ d=E):=Z λe=>bc (by rw[<-HX.o,<-HY.o,e])
      go_wp2;go_ret;exact⟨by rw[decide_eq_false au.o];rfl,ax.o.t ad⟩
    obtain rfl:j=n1:=by omega
    have dr:=HQ;have b6:=G;clear k1 X k4 k5 G;go_wp2_with (fail);clear T k3;go_loopw [6] (λvi W=>∃ j:Nat,j<=n2/\vi=.int Χ j/\Ext w1 W/\ϟ (∀ q,q<j->d.n.getD q []=E.n.getD q []))
     (λvi _=>n2-(intOf vi).toNat)
    case atStart=>exact⟨0,by omega,rfl,b6,Z λq hq=>by omega⟩
    clear b6;obtain⟨j,hj,rfl,G,HQ⟩:=hrel;obtain⟨⟨T,k1,X⟩,k3,k4,k5⟩:=HK.o wr G;by_cases aj:j<n2
    ·obtain⟨b,o,b',o',rfl,rfl,r1,r2⟩:=HR.o wr G j aj aj;obtain⟨u,hu⟩:=Xq (vs.getD j δ);obtain⟨u',df⟩:=Xq (dn.getD j δ);have f66:=λ(e:EW wr)=>Z (cz.o e.W (G.t e.ext) j aj aj)
     rw[hu] at r1 f66;rw[df] at r2 f66;obtain⟨x,ah⟩:=Xq (d.n.getD j []);obtain⟨y,ai⟩:=Xq (E.n.getD j []);rw[ah,ai] at f66;have HX:=Z ah;have HY:=Z ai;obtain⟨bx,bb⟩:=Xq (decide (x=y));rw[bb] at f66;have b4:=Z bb;clear bb ah ai hu df;have k1:=A4 k1;have k4:=A4 k4;go_upto_region 11 with (fail)
     refine Cl (by kernel_rfl) (by kernel_rfl) ?_;iterate 12 (with_reducible refine Á (λK hK=>?_);go_simp;first|(refine hK _ ?_;clear hK K)|(apply Exists.intro;refine⟨λ_=>?_,hK _ ?_⟩;(with_reducible exact E0 (f66 _).o);clear hK K))
     refine Ë ?_;rintro _ ⟨e,rfl⟩;have ad:=G.t e.ext;clear T k1 X k3 k4 k5 r1 r2 f66;generalize e.W=w5 at *;cases bx with
     | true=>
      have bc:x=y:=of_decide_eq_true b4.o;go_wp2;go_roundw
      case rel=>exact⟨j+1,by omega,by go_num,ad,Z λq hq=>by
       by_cases bd:q<j
       ·exact HQ.o q bd
       obtain rfl:q=j:=by omega
       rw[HX.o,HY.o,bc]⟩
      case measure=>simp[intOf];omega
     | false=>
      have bc:¬ x=y:=of_decide_eq_false b4.o;have au:ϟ (¬ d=E):=Z λe=>bc (by rw[<-HX.o,<-HY.o,e])
      go_wp2;go_ret;exact⟨by rw[decide_eq_false au.o];rfl,ax.o.t ad⟩
    obtain rfl:j=n2:=by omega
    have dt:=HQ;have b6:=G;clear T X k3 k5 G;go_wp2_with (fail);clear k1 k4;go_loopw [7] (λvi W=>∃ j:Nat,j<=n3/\vi=.int Χ j/\Ext w1 W/\ϟ (∀ q,q<j->d.acc.getD q Ε=E.acc.getD q Ε))
     (λvi _=>n3-(intOf vi).toNat)
    case atStart=>exact⟨0,by omega,rfl,b6,Z λq hq=>by omega⟩
    clear b6;obtain⟨j,hj,rfl,G,HQ⟩:=hrel;obtain⟨⟨T,k1,X⟩,k3,k4,k5⟩:=HK.o wr G;by_cases aj:j<n3
    ·obtain⟨b,o,b',o',rfl,rfl,r1,r2⟩:=HA.o wr G j aj aj;obtain⟨x,ah⟩:=Xq (d.acc.getD j Ε);obtain⟨y,ai⟩:=Xq (E.acc.getD j Ε);rw[ah] at r1;rw[ai] at r2;have HX:=Z ah;have HY:=Z ai;clear ah ai;have X:=A4 X;have k5:=A4 k5;rcases (show (x=Α/\y=Α)\/(x=Ε/\y=Ε)\/(x=Α/\y=Ε)\/(x=Ε/\y=Α) by cases x<;>cases y<;>simp) with h|h|h|h
     ·obtain⟨rfl,rfl⟩:=h;go_upto_region 16 with (fail)
      refine Cl (by kernel_rfl) (by kernel_rfl) ?_;iterate 11 (with_reducible refine Á (λK hK=>?_);go_simp;first|(refine hK _ ?_;clear hK K))
      refine Ë ?_;rintro _ ⟨e,rfl⟩;have ad:=G.t e.ext;clear T k1 X k3 k4 k5 r1 r2;generalize e.W=w5 at *;go_wp2;go_roundw
      case rel=>exact⟨j+1,by omega,by go_num,ad,Z λq hq=>by
       by_cases bd:q<j
       ·exact HQ.o q bd
       obtain rfl:q=j:=by omega
       rw[HX.o,HY.o]⟩
      case measure=>simp[intOf];omega
     ·obtain⟨rfl,rfl⟩:=h;go_upto_region 16 with (fail)
      refine Cl (by kernel_rfl) (by kernel_rfl) ?_;iterate 11 (with_reducible refine Á (λK hK=>?_);go_simp;first|(refine hK _ ?_;clear hK K))
      refine Ë ?_;rintro _ ⟨e,rfl⟩;have ad:=G.t e.ext;clear T k1 X k3 k4 k5 r1 r2;generalize e.W=w5 at *;go_wp2;go_roundw
      case rel=>exact⟨j+1,by omega,by go_num,ad,Z λq hq=>by
       by_cases bd:q<j
       ·exact HQ.o q bd
       obtain rfl:q=j:=by omega
       rw[HX.o,HY.o]⟩
      case measure=>simp[intOf];omega
     ·obtain⟨rfl,rfl⟩:=h;go_upto_region 16 with (fail)
      refine Cl (by kernel_rfl) (by kernel_rfl) ?_;iterate 11 (with_reducible refine Á (λK hK=>?_);go_simp;first|(refine hK _ ?_;clear hK K))
      refine Ë ?_;rintro _ ⟨e,rfl⟩;have ad:=G.t e.ext;clear T k1 X k3 k4 k5 r1 r2;generalize e.W=w5 at *;have au:ϟ (¬ d=E):=Z λe=>by have h1:=HX.o;have h2:=HY.o;rw[e,h2] at h1;cases h1
      go_wp2;go_ret;exact⟨by rw[decide_eq_false au.o];rfl,ax.o.t ad⟩
     obtain⟨rfl,rfl⟩:=h;go_upto_region 16 with (fail)
     refine Cl (by kernel_rfl) (by kernel_rfl) ?_;iterate 11 (with_reducible refine Á (λK hK=>?_);go_simp;first|(refine hK _ ?_;clear hK K))
     refine Ë ?_;rintro _ ⟨e,rfl⟩;have ad:=G.t e.ext;clear T k1 X k3 k4 k5 r1 r2;generalize e.W=w5 at *;have au:ϟ (¬ d=E):=Z λe=>by have h1:=HX.o;have h2:=HY.o;rw[e,h2] at h1;cases h1
     go_wp2;go_ret;exact⟨by rw[decide_eq_false au.o];rfl,ax.o.t ad⟩
    obtain rfl:j=n3:=by omega
    have au:ϟ (d=E):=Z (Y7 (K7 _ _ 0#256 (HN.o.1.trans HM.o.1.symm) λq hq=>dr.o q (by rw[<-HN.o.1];exact hq))
     (K7 _ _ [] (HN.o.2.1.trans HM.o.2.1.symm) λq hq=>dt.o q (by rw[<-HN.o.2.1];exact hq)) (K7 _ _ Ε (HN.o.2.2.trans HM.o.2.2.symm) λq hq=>HQ.o q (by rw[<-HN.o.2.2];exact hq)))
    clear T k1 k3 k4;go_wp2;go_ret;exact⟨by rw[decide_eq_true au.o];rfl,ax.o.t G⟩
   have eb:¬ (n3:Int)=(m3:Int):=by omega
   subst e1 e2;go_wp2;go_ret;exact⟨by rw[decide_eq_false (cp.o (by omega))];rfl,ax.o⟩
  have ec:¬ (n2:Int)=(m2:Int):=by omega
  subst e1;go_wp2;go_ret;exact⟨by rw[decide_eq_false (cp.o (by omega))];rfl,ax.o⟩
 have ed:¬ (n1:Int)=(m1:Int):=by omega
 go_wp2;go_ret;exact⟨by rw[decide_eq_false (cp.o (by omega))];rfl,ax.o⟩
def ldA {w:Γ} {g:Nat} {V:Array Δ} (h:w.heap[g]? = I (Β V 40 (0,0))) (hi:(Ι.info? 40).map (·.size)=I V.size):Sc Ι w:=
 .load 40 g V 40 (0,0) _ (λ_ E=>E.heap h) Tryz.underlying40 rfl hi
def Nz {P:Ö} {w:Γ} (f:FuncId) (he:Enters P f) (args:List Δ) (v:Δ) (h:∀ W,Ext w W->Ϟ P f args.toArray W λe w'=>e=Ω v/\Ext W w'):Sc P w:=
 .call f he (args.map AV.c) (.c v) (AV.mono_c v) λW vs E G=>by rw[Lh G];exact (h W E).mono λe w' ⟨h1,H⟩=>⟨v,h1,rfl,H⟩
theorem Yy:Enters Ι 14:=enters_of Tryz.func14 (by kernel_rfl) rfl
theorem AA {W:Γ} {x:List UInt8} {g c:Nat} (h:By W (U (I ⟨g,0,J⟩) x.length c) x):∀ j u,(x.map bv)[j]? = I u->W.cell? ((⟨g,0,J⟩:Addr).add j)=I u:=λj u E=>by
 obtain⟨G,H⟩:=ν.1 E;have T:j<x.length:=by rwa [List.length_map] at G
 obtain⟨b,o,ab,he,hc⟩:=Ü h (by omega);injection he with he _ _
 injection he with he
 injection he with X e2 _
 subst X e2;have e:(⟨g,0,J⟩:Addr).add j=⟨g,0+j,J⟩:=by
  unfold Addr.add;by_cases h0:j=0
  ·subst h0;rfl
  simp[h0]
 rw[e,hc j (by omega),<-H,List.getElem_map,List.getD_eq_getElem?_getD,Θ T];rfl
theorem Te {W:Γ} {ρ:á->Δ} {x y:á} {u v:Δ} (h:Fd W [.c u,.c v] [ρ x,ρ y]):ρ x=u/\ρ y=v:=by
 have:=Lh (us:=[u,v]) h;injection this with h1 E
 injection E with E _
 exact⟨h1,E⟩
theorem Pv {W:Γ} {ρ:á->Δ} {x:á} {u:Δ} (h:Fd W [.c u] [ρ x]):ρ x=u:=by have:=Lh (us:=[u]) h;injection this
theorem KK (xs:List RNode) (E:RNode) (G:E.kind=1):B3 E (Cg xs [])=λ_=>False:=by unfold B3;rw[if_pos G]
theorem KJ (xs:List RNode) (E:RNode) (G:E.kind=2):B3 E (Cg xs [])=λw=>w=[]:=by unfold B3;rw[if_neg (by omega),if_pos G]
theorem KI (xs:List RNode) (E:RNode) (G:E.kind=3):B3 E (Cg xs [])=λw=>∃ x:UInt8,w=[x]/\E.c.getLsbD x.toNat=Α:=by unfold B3;rw[if_neg (by omega),if_neg (by omega),if_pos G]
theorem KH (xs:List RNode) (E:RNode) (G:E.kind=4):B3 E (Cg xs [])=Cat (A3 xs E.l) (A3 xs E.r):=by unfold B3;rw[if_neg (by omega),if_neg (by omega),if_neg (by omega),if_pos G];rfl
theorem KG (xs:List RNode) (E:RNode) (G:E.kind=5):B3 E (Cg xs [])=λw=>A3 xs E.l w\/A3 xs E.r w:=by unfold B3;rw[if_neg (by omega),if_neg (by omega),if_neg (by omega),if_neg (by omega),if_pos G];rfl
theorem KF (xs:List RNode) (E:RNode) (G:E.kind=6):B3 E (Cg xs [])=λw=>A3 xs E.l w/\A3 xs E.r w:=by unfold B3;rw[if_neg (by omega),if_neg (by omega),if_neg (by omega),if_neg (by omega),if_neg (by omega),if_pos G];rfl
theorem KE (xs:List RNode) (E:RNode) (G:E.kind=7):B3 E (Cg xs [])=λw=>¬ A3 xs E.l w:=by unfold B3;rw[if_neg (by omega),if_neg (by omega),if_neg (by omega),if_neg (by omega),if_neg (by omega),if_neg (by omega),if_pos G];rfl
theorem KD (xs:List RNode) (E:RNode) (G:E.kind=8):B3 E (Cg xs [])=rep (A3 xs E.l) E.min E.max:=by unfold B3;rw[if_neg (by omega),if_neg (by omega),if_neg (by omega),if_neg (by omega),if_neg (by omega),if_neg (by omega),if_neg (by omega)];rfl
theorem PG (b:List UInt8) (i j:Nat):An (λ_=>False) b i j=Ε:=hitB_false.2 λh=>h.2.2
theorem X8 (b:List UInt8) (i j:Nat) (hi:i<=b.length):An (λw=>w=[]) b i j=decide (j=i):=Fv (by rw[hitB_true,PA b i j hi,decide_eq_true_iff])
theorem Qs (p:UInt8->Prop) (b:List UInt8) (i j:Nat) (r:Bool) (H:r=Α↔i<b.length/\p (b.getD i 0)):An (λw=>∃ x:UInt8,w=[x]/\p x) b i j=(r&&decide (j=i+1)):=Fv (by rw[hitB_true,OY,ς,H,decide_eq_true_iff];exact⟨fun⟨h1,E,G⟩=>⟨⟨E,G⟩,h1⟩,fun⟨⟨E,G⟩,h1⟩=>⟨h1,E,G⟩⟩)
theorem PE (L M:Af) (b:List UInt8) (i j:Nat):An (λw=>L w\/M w) b i j=(An L b i j||An M b i j):=Fv (by rw[hitB_true,X6,Ô,hitB_true,hitB_true])
theorem PI (L M:Af) (b:List UInt8) (i j:Nat):An (λw=>L w/\M w) b i j=(An L b i j&&An M b i j):=Fv (by rw[hitB_true,PB,ς,hitB_true,hitB_true])
theorem PF (L:Af) (b:List UInt8) (i j:Nat) (G:j<b.length+1):An (λw=>¬ L w) b i j=(decide (i<=j)&&!An L b i j):=Fv (by rw[hitB_true,OZ,ς,decide_eq_true_iff,Bool.not_eq_true',hitB_false];exact⟨fun⟨h1,_,E⟩=>⟨h1,E⟩,fun⟨h1,E⟩=>⟨h1,by omega,E⟩⟩)
def BR (q:Mq) (A:Nat->Prop) (W:Γ) (f:Nat × Nat->Option Δ) (node:Nat) (row:List Bool) (e:Ending) (w':Γ):Prop:=
 ∃ g G E,e=Ω (U (I ⟨g,0,J⟩) (q.b.length+1) (q.b.length+1))/\W.heap.size<=g/\RowAt w' g row/\Mt q A w' G E/\(∀ y,node<=y.1->E y=f y)/\W.grownBy w' (I q.gK)
def BQ (q:Mq) (node:Nat):Prop:=∀ (A:Nat->Prop) (W:Γ) n f i,i<=q.b.length->Mt q A W n f->Ϟ Ι 77 #[η (I ⟨q.gM,0,J⟩),.agg (rnC (q.xs.getD node ⟨0,0,0,0#256,0,0⟩)),iv i] W λe w'=>BR q A W f node (Bh (A3 q.xs node) q.b i) e w'
/-! The walk of ends. -/
theorem Qo:(Ι.info? 164).map (·.size)=I 2:=by kernel_rfl
theorem NE (ρ:á->Δ) (o:Ϭ) (W:Γ) (x:á) (b k:Nat) (v:Δ) (hc:W.cell? ⟨b,k,J⟩=I v) (E:o.op=.load 121 x) (hx:ρ x=η (I ⟨b,k,J⟩)):(ö ρ o).run Ι W=.ok (.value v) W:=by unfold ö;simp only[E,hx];go_simp
def Xg {w:Γ} (x:á) (b k:Nat) (v:Δ) (hc:∀ W,Ext w W->W.cell? ⟨b,k,J⟩=I v):Sc Ι w:=
 .gen (.load 121 x) [.c (η (I ⟨b,k,J⟩))] (.c v) (AV.mono_c _) λρ o W E G H=>⟨_,NE ρ o W x b k v (hc W G) E (Pv H),rfl⟩
theorem BW (W:Γ):(zeroValue 38).run Ι W=.ok (U J 0 0) W:=by kernel_rfl
theorem KU {κ:Type} {W:Γ} {k:ϫ} {key:κ->Δ} {b n:Nat} {f:κ->Option Δ} {ρ:á->Δ} {o:Ϭ} {m x:á} {t:ϫ} (T:o.op=Op.lookup t m x Α) {e:ϫ} {H:Δ} (X:∀ W,(zeroValue e).run Ι W=.ok H W) (K':Maps.Keyed Ι k) (ht:Ι.underlying t=I (.map k e)) (hm:ρ m=.map (I b)) (h:IsMv W k key b n f)
  (y:κ) (hx:ρ x=key y) (G:∃ l,keyOf Ι k (key y)=I l):(ö ρ o).run Ι W=.ok (.value (ϙ #[(f y).getD H,.bool (f y).isSome])) W:=by
 obtain⟨D,h1,h2⟩:=h;obtain⟨l,G⟩:=G;obtain⟨e1,e2⟩:=h2 y l G;obtain⟨v,ps,ag,E⟩:=h1.look_ok K' ht (X W) (zd:=.held H) (zp:=[]) rfl G;simp[ö,T,hm,hx,ag,Result.andThen];rw[e2] at E;unfold Ng at E;injection E with E
 injection E with E _
 injection E with E
 rw[e1,E];exact⟨rfl,rfl⟩
def W5 {w:Γ} (m x:á) (gK n:Nat) (f:Nat × Nat->Option Δ) (y:Nat × Nat) (o:Option Δ) (G:f y=o) (h:IsMv w 164 C2 gK n f) (H:∃ l,keyOf Ι 164 (C2 y)=I l):Sc Ι w:=
 .gen (.lookup 121 m x Α) [.c (.map (I gK)),.c (C2 y)] (.c (ϙ #[o.getD (U J 0 0),.bool o.isSome])) (AV.mono_c _) λρ op W T X E=>⟨_,by rw[<-G];exact KU T BW Xi Tryz.underlying121 (Te E).1 (h.ext X) y (Te E).2 H,rfl⟩
def Xf {w:Γ} {g:Nat} {V:Array Δ} (h:w.heap[g]? = I (Β V 164 (0,0))) (hi:(Ι.info? 164).map (·.size)=I V.size):Sc Ι w:=
 .load 164 g V 164 (0,0) _ (λ_ E=>E.heap h) Tryz.underlying164 rfl hi
def Q9 (gM gK:Nat) (E G:Δ):Nat->Δ->Γ->Prop
 | 0,v,_=>v=η (I ⟨gM,0,J⟩)
 | 1,v,_=>v=η (I ⟨gM,0,J⟩)
 | 2,v,_=>v=η (I ⟨gM,2,J⟩)
 | 3,v,_=>v=.map (I gK)
 | 4,v,_=>v=E
 | 5,v,_=>v=G
 | _,_,_=>True
theorem RX (gM gK:Nat) (E G:Δ) (i:Nat) (v:Δ) (W W':Γ) (h:Q9 gM gK E G i v W) (_:Ext W W'):Q9 gM gK E G i v W':=by
 match i with
 | 0=>exact h
 | 1=>exact h
 | 2=>exact h
 | 3=>exact h
 | 4=>exact h
 | 5=>exact h
 | i+6=>trivial
theorem RQ (q:Mq) (hq:q.ok) (node:Nat) (hn:node<q.xs.length) (hC:BQ q node):Oe q node:=by
 intro A W n f i hi hM;have HC:=Z hC;have HQ:=Z hq;have HI:=Z hi;have hb:=hq.hb;have cl:=hq.hx.le;have a6:=Z (IR (node,i) (by show node<_;omega) (by show i<_;omega));have au:=(Κ W).alloc (Β #[iv node,iv i] 164);have H7:=Ad W (Β #[iv node,iv i] 164);have HM:=Z (hM.ext au);have a7:=Z hM;obtain⟨NX,a8⟩:=Xq (q.xs.length);have aw:=Z a8;rw[a8] at hn cl;have dc:(node:Int)<(NX:Int):=by omega
 clear hC hq hM hi a8;go_enter Tryz.func53,Tryz.ntmps53;go_upto_region 2 with (fail)
 obtain⟨w1,ba⟩:=Xq (W.alloc (Β #[iv node,iv i] 164));rw[ba] at au H7 HM;simp only[ba];clear ba;obtain⟨g7,ax⟩:=Xq (W.heap.size);have dd:=Z ax;rw[ax] at H7;simp only[ax];clear ax;have H7:=Z H7;have bn:=Z au;have cK:=λX (E:Ext w1 X)=>E.cell ((Τ w1 q.gM 2 _ _ _ (HM.o.box HQ.o)).trans (show (#[U (I ⟨q.bx,q.ox,J⟩) q.xs.length q.cx,q.vb,.map (I q.gK)]:Array Δ)[2]? = I (.map (I q.gK)) from rfl))
 have bo:=Z cK;clear au cK;obtain⟨o,ho⟩:=Xq (f (node,i));cases o with
 | some v=>
  obtain⟨g,H,hg,hr⟩:=HM.o.ent _ _ ho;have HO:=Z ho;refine Sx 42 Α [η (I ⟨q.gM,0,J⟩),η (I ⟨q.gM,0,J⟩),η (I ⟨q.gM,2,J⟩),.map (I q.gK),.agg #[iv node,iv i],ϙ #[v,.bool Α],ϙ #[v,.bool Α],v,.bool Α,v,.bool Α]
   [.keep,.pure,.pure,Xg (ε 17) q.gM 2 _ bo.o,Xf H7.o Qo,W5 (ε 18) (ε 19) q.gK n f (node,i) (I v) HO.o HM.o.mp a6.o,.keep,.pure,.pure,.keep,.keep] (λ_=>by kernel_rfl) (by kernel_rfl) rfl rfl (λW=>by kernel_rfl) (by kernel_rfl) ?_
  intro X E;simp only[Dl,θ,Η,Μ,Λ];have HV:=Z H;clear ho H;go_wp2;go_ret;have ag:=bn.o.t E;exact⟨g,n,f,by rw[HV.o];rfl,hg,hr.ext E,a7.o.ext ag,λ_ _=>rfl,D8 (ag.grownBy J)⟩
 | none=>
  have HO:=Z ho;refine Sx 42 Α [η (I ⟨q.gM,0,J⟩),η (I ⟨q.gM,0,J⟩),η (I ⟨q.gM,2,J⟩),.map (I q.gK),.agg #[iv node,iv i],ϙ #[U J 0 0,.bool Ε],ϙ #[U J 0 0,.bool Ε],U J 0 0,.bool Ε,U J 0 0,.bool Ε]
   [.keep,.pure,.pure,Xg (ε 17) q.gM 2 _ bo.o,Xf H7.o Qo,W5 (ε 18) (ε 19) q.gK n f (node,i) J HO.o HM.o.mp a6.o,.keep,.pure,.pure,.keep,.keep] (λ_=>by kernel_rfl) (by kernel_rfl) rfl rfl (λW=>by kernel_rfl) (by kernel_rfl) ?_
  intro w2 E;simp only[Dl,θ,Η,Μ,Λ];clear ho;have ag:=bn.o.t E;have an:=a7.o.ext ag;have bq:=an.node HQ.o node (by rw[aw.o];exact hn);have f122:=Z (HC.o A w2 n f i HI.o an);obtain⟨m,hm⟩:=Xq (q.xs.getD node ⟨0,0,0,0#256,0,0⟩);rw[hm] at bq f122;have cX:=(Τ w2 q.gM 0 _ _ _ (an.box HQ.o)).trans (show (#[U (I ⟨q.bx,q.ox,J⟩) q.xs.length q.cx,q.vb,.map (I q.gK)]:Array Δ)[0]? = I (U (I ⟨q.bx,q.ox,J⟩) q.xs.length q.cx) from rfl);rw[aw.o] at cX;have ct:=Z (E.heap H7.o);have bt:=Z ag;have bc:=Z an;clear hm an ag E;go_upto_region 6 with (first
   | (refine wpList_load_mid rfl 96 (ε 31) rfl q.bx (q.ox+node*9) rfl _ _ bq Ò rfl (Pb m) ?_)
   | (go_at_call 77;(with_reducible refine f122.o.mono ?_);rintro e w3 ⟨g,n3,f3,rfl,bu,bw,bz,b0,b4⟩;have bf:=Z bu;have cu:=Z bw;have b5:=Z bz;have b6:=Z b0;have b7:=Z b4;clear bu bw bz b0 b4))
  have cv:=Z ((Τ w3 q.gM 2 _ _ _ (b5.o.box HQ.o)).trans (show (#[U (I ⟨q.bx,q.ox,J⟩) q.xs.length q.cx,q.vb,.map (I q.gK)]:Array Δ)[2]? = I (.map (I q.gK)) from rfl));have cw:=Z (Dr b7.o bc.o.map ct.o);clear cX;obtain⟨vg,bg⟩:=Xq (Δ.slice (I ⟨g,0,J⟩) (q.b.length+1) (q.b.length+1));have b8:=Z bg;simp only[bg];clear bg;refine Hk 6 42 (by kernel_rfl) (by kernel_rfl) rfl (Q9 q.gM q.gK (C2 (node,i)) vg) (λ_ _ _ _=>True) (λ_ _ _ _ _=>trivial) (RX q.gM q.gK (C2 (node,i)) vg) (λj hj=>?_) (λvs w4 b9 hF _=>?_)
  ·have ca:=(Κ w3).drew
   match j,hj with
   | 0,_=>
    refine Av _ _ rfl rfl rfl λc X E T aa=>?_
    have h0:c.tmps.getD 0 δ=η (I ⟨q.gM,0,J⟩):=aa 0 (by kernel_rfl);go_simp;exact⟨_,rfl,Κ X,rfl⟩
   | 1,_=>
    refine Av _ _ rfl rfl rfl λc X E T aa=>?_
    have df:c.tmps.getD 35 δ=η (I ⟨q.gM,0,J⟩):=T 0 35 (by kernel_rfl);go_simp;exact⟨_,rfl,Κ X,rfl⟩
   | 2,_=>
    refine Av _ _ rfl rfl rfl λc X E T aa=>?_
    have dg:c.tmps.getD 36 δ=η (I ⟨q.gM,0,J⟩):=T 1 36 (by kernel_rfl);go_simp;exact⟨_,rfl,Κ X,rfl⟩
   | 3,_=>
    refine Av _ _ rfl rfl rfl λc X E T aa=>?_
    have dh:c.tmps.getD 37 δ=η (I ⟨q.gM,2,J⟩):=T 2 37 (by kernel_rfl);have cK:=(ca.t E).cell cv.o;go_simp;exact⟨_,rfl,Κ X,rfl⟩
   | 4,_=>
    refine Av _ _ rfl rfl rfl λc X E T aa=>?_
    have h7:=aa 7 (by kernel_rfl);refine Cy (Ei 164 (ε 7) rfl g7 h7 _ _ _ _ ((ca.t E).heap cw.o) Tryz.underlying164 rfl Qo) ?_;exact⟨_,rfl,Κ X,rfl,λj u _ _ _=>trivial⟩
   | 5,_=>
    refine Av _ _ rfl rfl rfl λc X E T aa=>?_
    have dk:c.tmps.getD 10 δ=vg:=aa 10 (by kernel_rfl);go_simp;exact⟨_,rfl,Κ X,rfl⟩
  have h0:vs 0=_:=hF 0 (by omega);have h1:vs 1=_:=hF 1 (by omega);have G:vs 2=_:=hF 2 (by omega);have h3:vs 3=_:=hF 3 (by omega);have h4:vs 4=_:=hF 4 (by omega);have h5:vs 5=_:=hF 5 (by omega);have az:=(Κ w3).drew.t b9;simp only[Bm,List.drop_succ_cons,List.drop_zero,h0,h1,G,h3,h4,h5,List.getElem?_toArray,List.getElem?_cons_zero,List.getElem?_cons_succ,ò,θ,Η,Μ,Λ];clear h0 h1 G h3 h4 h5 hF;have ab:=Z (b5.o.ext az);have cc:=Z (cu.o.ext az);have c3:=Z (b7.o.trans (D8 (r:=I q.gK) (az.grownBy J)));have c4:ϟ (f3 (node,i)=J):=Z ((b6.o (node,i) (Υ _)).trans HO.o);have cd:n3<ϐ:=by have h1:=ab.o.le;have G:=Rr (λx=>(f3 (x / (q.b.length+1),x % (q.b.length+1))).isSome) (q.xs.length*(q.b.length+1));have h3:q.xs.length*(q.b.length+1)<=200*1001:=Nat.mul_le_mul (by have:=aw.o;omega) (by omega);unfold Ls at h1;unfold ϐ;omega
  refine wpList_plain rfl λK' cf=>?_
  refine Wh (κ:=Nat × Nat) (key:=C2) rfl Xi Tryz.underlying121 rfl ab.o.mp cd (λy z h=>Pk y z h) (node,i) rfl a6.o vg rfl (λw5 h5 af=>?_);refine cf _ _ ?_;have bh:g≠q.gK:=by have h1:=bf.o;have G:=HQ.o.hK;have h3:=bc.o.gr.size;omega
  have cg:Mt q A w5 (n3+1) (λz=>if z=(node,i) then I vg else f3 z):=by
   refine⟨ab.o.gr.trans af,h5,?_,λk hk=>⟨(ab.o.al k hk).1,Ξ (ab.o.al k hk).2 af.size⟩,λy v H=>?_⟩
   ·have h1:=ab.o.le;have G:=SZ (N:=q.xs.length) (M:=q.b.length+1) (f:=f3) (y:=(node,i)) (by rw[aw.o];exact hn) (by show i<_;have:=HI.o;omega) c4.o vg;omega
   by_cases e:y=(node,i)
   ·subst e;simp only[if_true] at H;injection H with H
    refine⟨g,by rw[<-H,b8.o],λhA=>?_,cc.o.keptm af bh⟩;have h1:=(bc.o.al g hA).2;have G:=bf.o;omega
   simp only[e,if_false] at H;obtain⟨g',e',h1,G⟩:=ab.o.ent y v H;refine⟨g',e',h1,G.keptm af ?_⟩;exact Kw rfl (G 0 (by rw[E7];omega)) ab.o.map
  have c8:=Z cg;have c9:=Z (cc.o.keptm af bh);have da:=Z (c3.o.trans af);clear cg h5 af bh cf cd b9 az;go_wp2;go_ret;refine⟨g,n3+1,_,by rw[b8.o];rfl,λhA=>?_,c9.o,c8.o,λy hy=>?_,(D8 (r:=I q.gK) (bt.o.grownBy J)).trans da.o⟩
  ·have h1:=(a7.o.al g hA).2;have G:=bf.o;have h3:=bt.o.size;omega
  have db:y≠(node,i):=λe=>by rw[e] at hy;exact absurd hy (Nat.lt_irrefl _)
  simp only[db,if_false];exact b6.o y (Nat.le_of_lt hy)
abbrev nN:RNode:=⟨0,0,0,0#256,0,0⟩
abbrev RNode.ok (n:RNode) (i:Nat):Prop:=VNode n.kind n.l n.r n.c n.min n.max i
structure WRx (xs:List RNode):Prop where
 pos:0<xs.length
 node:∀ i,i<xs.length->(xs.getD i nN).ok i
 par:∀ j,j+1<xs.length->par xs j=1
theorem Ye:∀ (xs:List RNode) (k:Nat),(∀ i,i<xs.length->(xs.getD i nN).good (k+i))->Qt xs k
 | [],_,_=>trivial
 | n::xs,k,h=>⟨h 0 (by simp),Ye xs (k+1) λi hi=>by have:=h (i+1) (by simp;omega);rw[show k+1+i=k+(i+1) by omega];exact this⟩
theorem PV {n:RNode} {i:Nat} (h:n.ok i):n.good i:=by obtain⟨k,l,r,c,mn,mx⟩:=n;exact (Qu h).1
def Xl (xs:List RNode):Af:=(Cg xs []).getD ((Cg xs []).length-1) λ_=>False
theorem UX {xs:List RNode} (h:WRx xs) {d:Dfa} (hd:Dj xs [] (I d)):Fit d (Xl xs):=
 AG xs [] [] ⟨rfl,λi hi=>absurd hi (by simp)⟩ (Ye xs _ λi hi=>by rw[List.length_nil,Nat.zero_add];exact PV (h.node i hi)) (λe=>by have:=h.pos;rw[e] at this;cases this) d hd
theorem Cq {w:Γ} {b i:Nat} {V:Array Δ} {t:ϫ} {fr:Nat × Nat} {v:Δ} (h:w.heap[b]? = I (Β V t fr)) (e:V[i]? = I v):w.cell? ⟨b,i,J⟩=I v:=(Τ w b i _ _ _ h).trans e
theorem Gx {E:RNode} {k:Nat} (h:E.kind=k):(rnC E)[0]? = I (.int Χ (k:Int)):=by rw[<-h];rfl
theorem LR (N:Nat):ζ N Ε=Bd N (λ_=>Ε):=by
 apply Ϩ;intro j;simp only[Bd,υ,Ì];by_cases E:j<N
 ·simp[E]
 simp[E]
theorem Gk {q:Mq} {A:Nat->Prop} {W w':Γ} {f G:Nat × Nat->Option Δ} {node H E i N:Nat} {row:Nat->Bool} {base:Nat} (T:q.b.length+1=N) (X:W.heap.size<=E) (hM:Mt q (λk=>A k\/k=E) w' H G)
  (hO:w'.ownsRow base 4 1 (U (I ⟨E,0,J⟩) N N) N ((Bd N row).map ψ)) (hF:∀ y,node<=y.1->G y=f y) (hG:W.grownBy w' (I q.gK)) (L:Af) (hR:∀ j,j<N->An L q.b i j=row j) :
  BR q A W f node (Bh L q.b i) (Ω (U (I ⟨E,0,J⟩) N N)) w':=by
 subst T;refine⟨E,H,G,rfl,X,?_,hM.weak λk hk=>.inl hk,hF,hG⟩;have h1:=RowAt.of_owns hO (by rw[Cf]);unfold Bh;rw[Cu hR];exact h1
theorem SL (q:Mq) (hq:q.ok) (node:Nat) (hn:node<q.xs.length) (hE:∀ k,k<node->Oe q k):BQ q node:=by
 intro A W n f i hi hM;have HQ:=Z hq;have bq:=Z hE;have hb:=hq.hb;have hv:=hq.hx.node node hn;have ey:=KM hn (Qu hv).1;obtain⟨E,ez⟩:=Xq (q.xs.getD node ⟨0,0,0,0#256,0,0⟩);rw[ez] at hv ey;rw[ez];clear ez;have be:=Z ey;obtain⟨i0,fj,fk,fl,fm⟩:=info_parts Fc;have dx:=(Κ W).alloc (Β (rnC E) 96);have H4:=Ad W (Β (rnC E) 96);have HM:=Z (hM.ext dx);have e0:W.grownBy (W.alloc (Β (rnC E) 96)) (I q.gK):=D8 (dx.grownBy J);obtain⟨ab,cb,e4⟩:=hq.by_.len;have cB:=Cq (i:=1) (v:=q.vb) (HM.o.box HQ.o) rfl;have fp:=Z e4;rw[e4] at cB;have HI:=Z hi;obtain⟨B,hB⟩:=Xq (q.b.length);have HB:=Z hB;rw[hB] at cB hb hi;have HV:=Z hv;clear hE hq hM hn ey hv e4 hB;go_enter Tryz.func77,Tryz.ntmps77;go_upto_region 1 with (fail)
 obtain⟨w1,e6⟩:=Xq (W.alloc (Β (rnC E) 96));rw[e6] at dx H4 HM e0 cB;simp only[e6];clear e6;obtain⟨g4,en⟩:=Xq (W.heap.size);have fq:=Z en;rw[en] at H4;simp only[en];clear en;have H4:=Z H4;have gw:=Z e0;have e7:=Z dx;clear e0 dx;go_upto_region 2 with (at_make;refine Ϛ _ rfl _ _ 38 rfl w1.heap.size 4 i0 (.bool Ε) 1 Ý fj fk fl Χ Χ _ _ (B+1) rfl rfl (by push_cast;rfl) (by push_cast;rfl) (by rw[fm];omega) (by unfold ϐ;omega) (Υ _) ?_;intro w2 e8 fs)
 have eo:Ext w1 w2:=(Κ w1).grown fs (λk e=>by cases e);have ft:w1.heap.size<w2.heap.size:=by have:=(e8.lt w1.heap.size rfl).2;exact this
 obtain⟨gl,e9⟩:=Xq (w1.heap.size);have a7:ϟ (W.heap.size<=gl):=Z (by have:=e7.o.size;omega);have hm:=HM.o.fresh eo ft;obtain⟨N,hN⟩:=Xq (B+1);have HN:ϟ (q.b.length+1=N):=Z (by rw[HB.o];exact hN);have fu:w2.ownsRow w1.heap.size 4 1 (U (I ⟨w1.heap.size,0,J⟩) (B+1) (B+1)) (B+1) ((Bd (B+1) λ_=>Ε).map ψ):=by rw[<-LR,<-B7];exact e8
 have hO:=Vr fu;simp only[e9,hN] at hO ⊢;rw[e9] at hm;have im:N<=1001:=by omega
 have ir:0<N:=by omega
 have fv:(i:Int)<(N:Int):=by omega
 have a8:ϟ (W.grownBy w2 (I q.gK)):=Z (D8 (r:=I q.gK) ((e7.o.t eo).grownBy J));have ae:=Z hm;have aa:=Z (eo.heap H4.o);have fa:ϟ (gl≠g4):=Z (by have:=Al H4.o;omega);have er:=Z hN;clear HM H4 gw e7 e8 fs eo ft e9 hm fu hN hb fj fk fl fm hi;have h1:=HV.o.k1;have h8:=HV.o.k8;have gy:E.kind=1\/E.kind=2\/E.kind=3\/E.kind=4\/E.kind=5\/E.kind=6\/E.kind=7\/E.kind=8:=by omega
 clear h1 h8;rcases gy with H|H|H|H|H|H|H|H
 ·have bg:=Z H;have ag:=Z (be.o.trans (KK q.xs E H));have ba:=Z (Gx H);have c0:=Cq aa.o ba.o;clear H be;clear cB;go_wp2;go_ret;exact Gk HN.o a7.o ae.o hO (λ_ _=>rfl) a8.o _ λj _=>by rw[ag.o];exact PG _ _ _
 ·have bg:=Z H;have ag:=Z (be.o.trans (KJ q.xs E H));have ba:=Z (Gx H);have c0:=Cq aa.o ba.o;clear H be;clear cB;have fz:=hO.frozenAt i;obtain⟨hP,T⟩:=Ba (f:=ψ) hO i Α;rw[Ga] at hP;have cL:=Aq Ε hO (Cf _ _).symm i (by rw[Cf];omega);have ax:=Z (ae.o.own HQ.o T (.inr rfl));have X:=Z (Gf a8.o T a7.o);clear T hO ae a8;go_wp2;go_ret;exact Gk HN.o a7.o ax.o hP (λ_ _=>rfl) X.o _ λj _=>by
   rw[ag.o,X8 _ _ _ HI.o];by_cases e:j=i
   ·simp[e]
   simp[e]
 ·have bg:=Z H;have ag:=Z (be.o.trans (KI q.xs E H));have ba:=Z (Gx H);have c0:=Cq aa.o ba.o;clear H be;have gz:=cB;go_upto_region 6 with (fail)
  have hf:er.o=er.o:=rfl;clear hf c0;have fb:w2.cell? ⟨q.gM,1,J⟩=I (U ab B cb):=by have:=Cq (i:=1) (v:=q.vb) (ae.o.box HQ.o) rfl;rw[this,fp.o,HB.o]
  clear cB gz;have kB:=A4 fb;obtain⟨wa,fx⟩:=Xq (w2);by_cases fy:i<B
  ·have iw:(i:Int)<(B:Int):=by omega
   obtain⟨aw,bw,ho,cw,hv,ha,hc⟩:=By.split (ae.o.word HQ.o);rw[fp.o] at hv;injection hv with gb hp hs
   have ht:ab=I ⟨bw,ho,J⟩:=gb.trans (ha (by rw[HB.o];omega));have fc:=hc i (by rw[HB.o];exact fy);obtain⟨x,hx⟩:=Xq (q.b.getD i 0);rw[hx] at fc;have HX:=Z hx;clear hx hc ha gb hp hs;subst ht;have kW:=A4 fc;have h4:=A4 (Cq (i:=1) (v:=.int γ (wd E.c 0)) aa.o rfl);have h5:=A4 (Cq (i:=2) (v:=.int γ (wd E.c 1)) aa.o rfl);have h6:=A4 (Cq (i:=3) (v:=.int γ (wd E.c 2)) aa.o rfl);have h7:=A4 (Cq (i:=4) (v:=.int γ (wd E.c 3)) aa.o rfl);have iz:x.toNat<256:=x.toNat_lt;have f131:∀ e:EW w2,ϟ (Ϟ Ι 97 #[.agg #[.int γ (wd E.c 0),.int γ (wd E.c 1),.int γ (wd E.c 2),.int γ (wd E.c 3)],.int .u8 (x.toNat:Int)] e.W λr w'=>r=Ω (.bool (Fn E.c (x.toNat:Int)))/\Ext e.W w'):=λe=>Z (Yc E.c (x.toNat:Int) (by omega) (by omega) e.W)
   obtain⟨r,hr⟩:=Xq (Fn E.c (x.toNat:Int));rw[hr] at f131;have HR:=Z hr;clear hr fc fb fx;refine Cl (by kernel_rfl) (by kernel_rfl) ?_;iterate 19 (with_reducible refine Á (λK hK=>?_);go_simp;first|(refine hK _ ?_;clear hK K)|(apply Exists.intro;refine⟨λ_=>?_,hK _ ?_⟩;(with_reducible exact E0 (f131 _).o);clear hK K))
   refine Ë ?_;rintro _ ⟨e,rfl⟩;have b4:=e.ext;have ah:=Aa hO b4;have ax:=Z (ae.o.ext b4);have X:=Z (a8.o.trans (D8 (r:=I q.gK) (b4.grownBy J)));have cq:=Z (b4.heap aa.o);clear kB kW h4 h5 h6 h7 f131 b4 hO ae a8 aa;generalize e.W=w3 at *;clear e;cases r with
   | false=>go_wp2;go_ret;exact Gk HN.o a7.o ax.o ah (λ_ _=>rfl) X.o _ λj _=>by rw[ag.o,Qs (λx=>E.c.getLsbD x.toNat=Α) _ _ _ Ε ⟨(λh=>by cases h),fun⟨_,h⟩=>by rw[HX.o] at h;have:=HR.o;unfold Fn at this;rw[Int.toNat_natCast,h] at this;exact this.symm⟩];rfl
   | true=>
    have ja:((i:Int)+1)<(N:Int):=by have:=er.o;omega
    have jb:((i:Int)+1).toNat=i+1:=by omega
    have fz:=ah.frozenAt (i+1);obtain⟨hP,T⟩:=Ba (f:=ψ) ah (i+1) Α;rw[Ga] at hP;have cL:=Aq Ε ah (Cf _ _).symm (i+1) (by rw[Cf];omega);have fe:=Z (ax.o.own HQ.o T (.inr rfl));have fq:=Z (Gf X.o T a7.o);clear T ah ax X;go_wp2;go_ret;exact Gk HN.o a7.o fe.o hP (λ_ _=>rfl) fq.o _ λj _=>by
     rw[ag.o,Qs (λx=>E.c.getLsbD x.toNat=Α) _ _ _ Α ⟨λ_=>⟨by rw[HB.o];exact fy,by rw[HX.o];have:=HR.o;unfold Fn at this;rw[Int.toNat_natCast] at this;exact this⟩,λ_=>rfl⟩];by_cases e:j=i+1
     ·simp[e]
     simp[e]
  obtain rfl:B=i:=by have:=er.o;omega
  clear fx fb;refine Cl (by kernel_rfl) (by kernel_rfl) ?_;iterate 19 (with_reducible refine Á (λK hK=>?_);go_simp;(refine hK _ ?_;clear hK K))
  refine Ë ?_;rintro _ ⟨e,rfl⟩;have b4:=e.ext;have ah:=Aa hO b4;have ax:=Z (ae.o.ext b4);have X:=Z (a8.o.trans (D8 (r:=I q.gK) (b4.grownBy J)));have cq:=Z (b4.heap aa.o);clear kB b4 hO ae a8 aa;generalize e.W=w3 at *;clear e;go_wp2;go_ret;exact Gk HN.o a7.o ax.o ah (λ_ _=>rfl) X.o _ λj _=>by rw[ag.o,Qs (λx=>E.c.getLsbD x.toNat=Α) _ _ _ Ε ⟨(λh=>by cases h),fun⟨h,_⟩=>by rw[HB.o] at h;exact absurd h (Nat.lt_irrefl _)⟩];rfl
 ·have bg:=Z H;have ag:=Z (be.o.trans (KH q.xs E H));have ba:=Z (Gx H);have c0:=Cq aa.o ba.o;clear H be;clear cB;have hl:=HV.o.l1 (by rw[bg.o];decide);have hr:=HV.o.r1 (by rw[bg.o];decide);have br:=Z hl;have cy:=Z hr;have b5:=Z (bq.o _ hl);have gf:=Z (BH q HQ.o E.r (bq.o _ hr));have b6:ϟ ((rnC E)[5]? = I (iv E.l)):=Z rfl;have cz:ϟ ((rnC E)[6]? = I (iv E.r)):=Z rfl;obtain⟨nl,b7⟩:=Xq (E.l);obtain⟨nr,c3⟩:=Xq (E.r);rw[b7] at br b5 b6 ag;rw[c3] at cy gf cz ag;clear hl hr b7 c3 bq HV;go_upto_region 9 with (fail)
  clear c0;have bm:=(Κ w2).drew;refine Bq 9 [(0,Α),(1,Α),(2,Α),(3,Α),(4,Α),(5,Α),(6,Α),(7,Ε),(8,Ε),(9,Ε)] (by kernel_rfl) (by kernel_rfl) (λ_ _ _ _ h=>h) (λV=>w2.grownBy V (I q.gK)) (D8 (bm.grownBy J)) ?_;have b8:=Z (ae.o.ext bm);have bn:=Z (D8 (r:=I q.gK) (bm.grownBy J));obtain⟨wx,b9⟩:=Xq (w2.drew);rw[b9] at b8 bn;rw[b9];clear b9 bm;have kl:=λV (G:w2.grownBy V (I q.gK))=>Cq (Dr G ae.o.map aa.o) b6.o
  have kr:=λV (G:w2.grownBy V (I q.gK))=>Cq (Dr G ae.o.map aa.o) cz.o
  have f89:=Z (b5.o _ wx n f i HI.o b8.o);refine Ai (v:=?_) rfl rfl (λV G=>?_) ?_
  rotate_left
  ·clear G;go_simp;first|done|with_reducible rfl
  simp only[θ,Η,Μ,Λ];refine Ai (v:=?_) rfl rfl (λV G=>?_) ?_
  rotate_left
  ·clear G;go_simp;first|done|with_reducible rfl
  simp only[θ,Η,Μ,Λ];refine Ai (v:=iv nr) rfl rfl (λV G=>?_) ?_
  ·have c1:=kr V G;clear G;go_simp
  simp only[θ,Η,Μ,Λ];refine Ai (v:=?_) rfl rfl (λV G=>?_) ?_
  rotate_left
  ·clear G;go_simp;first|done|with_reducible rfl
  simp only[θ,Η,Μ,Λ];refine Ai (v:=?_) rfl rfl (λV G=>?_) ?_
  rotate_left
  ·clear G;go_simp;first|done|with_reducible rfl
  simp only[θ,Η,Μ,Λ];refine Ai (v:=iv nl) rfl rfl (λV G=>?_) ?_
  ·have c1:=kl V G;clear G;go_simp
  simp only[θ,Η,Μ,Λ];refine Ai (v:=?_) rfl rfl (λV G=>?_) ?_
  rotate_left
  ·clear G;go_simp;first|done|with_reducible rfl
  simp only[θ,Η,Μ,Λ];refine Ao rfl (λKk hK=>?_);go_simp
  (with_reducible refine f89.o.mono ?_)
  rintro e w3 ⟨ge,n2,f2,rfl,bb,ak,cg,c7,ca⟩;rw[HN.o];refine hK _ _ (λ_=>bn.o.trans ca) ?_;clear hK Kk;have dh:=Z c7;have X:=Z (bn.o.trans ca);have h9:ge≠gl:=λe=>bb (.inr e)
  have f148:=Z (gf.o _ w3 n2 f2 ge _ cg (E7 _ _ _) ak);rw[HN.o] at f148;clear f89 bb ak cg c7 ca b8 bn;refine Ao rfl (λKk hK=>?_);go_simp
  (with_reducible refine f148.o.mono ?_)
  rintro e w4 ⟨g5,n3,f3,rfl,ia,az,bc,bp,an⟩;rw[HN.o];refine hK _ _ (λ_=>X.o.trans an) ?_;clear hK Kk;have dk:=Z bp;have ck:=Z (a8.o.trans (X.o.trans an));have ib:ϟ (W.heap.size<=g5):=Z (by have h1:=a8.o.size;have h2:=X.o.size;omega);have cl:=Z bc;have ic:=Z az;clear f148 ia az bc bp an kl kr h9;refine Ao rfl (λKk hK=>?_);go_simp;refine hK _ _ (λh=>absurd h (by omega)) ?_;clear hK Kk;refine Bn ?_;clear hO;go_wp2;go_ret;have et:w4.ownsRow w3.heap.size 4 1 (U (I ⟨g5,0,J⟩) N N) N ((Bd N (An (Cat (A3 q.xs nl) (A3 q.xs nr)) q.b i)).map ψ):=by have h1:=ic.o;rw[BJ,HN.o] at h1;unfold Bh at h1;rw[HN.o] at h1;exact h1
  refine Gk HN.o ib.o (cl.o.weak (λk H=>?_)) et (λy hy=>(dk.o y (by have:=cy.o;omega)).trans (dh.o y (by have:=br.o;omega))) ck.o _ λj _=>by rw[ag.o]
  rcases H with H|H
  ·exact .inl (.inl H)
  exact .inr H
 ·have bg:=Z H;have ag:=Z (be.o.trans (KG q.xs E H));have ba:=Z (Gx H);have c0:=Cq aa.o ba.o;clear H be;clear cB;have hl:=HV.o.l1 (by rw[bg.o];decide);have hr:=HV.o.r1 (by rw[bg.o];decide);have br:=Z hl;have cy:=Z hr;have b5:=Z (bq.o _ hl);have ec:=Z (bq.o _ hr);have b6:ϟ ((rnC E)[5]? = I (iv E.l)):=Z rfl;have cz:ϟ ((rnC E)[6]? = I (iv E.r)):=Z rfl;obtain⟨nl,b7⟩:=Xq (E.l);obtain⟨nr,c3⟩:=Xq (E.r);rw[b7] at br b5 b6 ag;rw[c3] at cy ec cz ag;clear hl hr b7 c3 bq HV;go_upto_region 12 with (fail)
  clear c0;have bm:=(Κ w2).drew;refine Bq 11 [(0,Α),(1,Α),(2,Α),(3,Α),(5,Α),(6,Α),(7,Α),(8,Α),(4,Ε),(9,Ε),(10,Ε),(11,Ε)] (by kernel_rfl) (by kernel_rfl) (λ_ _ _ _ h=>h) (λV=>w2.grownBy V (I q.gK)) (D8 (bm.grownBy J)) ?_;have b8:=Z (ae.o.ext bm);have bn:=Z (D8 (r:=I q.gK) (bm.grownBy J));obtain⟨wx,b9⟩:=Xq (w2.drew);rw[b9] at b8 bn;rw[b9];clear b9 bm;have kl:=λV (G:w2.grownBy V (I q.gK))=>Cq (Dr G ae.o.map aa.o) b6.o
  have kr:=λV (G:w2.grownBy V (I q.gK))=>Cq (Dr G ae.o.map aa.o) cz.o
  have f89:=Z (b5.o _ wx n f i HI.o b8.o);refine Ai (v:=?_) rfl rfl (λV G=>?_) ?_
  rotate_left
  ·clear G;go_simp;first|done|with_reducible rfl
  simp only[θ,Η,Μ,Λ];refine Ai (v:=?_) rfl rfl (λV G=>?_) ?_
  rotate_left
  ·clear G;go_simp;first|done|with_reducible rfl
  simp only[θ,Η,Μ,Λ];refine Ai (v:=iv nl) rfl rfl (λV G=>?_) ?_
  ·have c1:=kl V G;clear G;go_simp
  simp only[θ,Η,Μ,Λ];refine Ai (v:=?_) rfl rfl (λV G=>?_) ?_
  rotate_left
  ·clear G;go_simp;first|done|with_reducible rfl
  simp only[θ,Η,Μ,Λ];refine Ai (v:=?_) rfl rfl (λV G=>?_) ?_
  rotate_left
  ·clear G;go_simp;first|done|with_reducible rfl
  simp only[θ,Η,Μ,Λ];refine Ai (v:=?_) rfl rfl (λV G=>?_) ?_
  rotate_left
  ·clear G;go_simp;first|done|with_reducible rfl
  simp only[θ,Η,Μ,Λ];refine Ai (v:=iv nr) rfl rfl (λV G=>?_) ?_
  ·have c1:=kr V G;clear G;go_simp
  simp only[θ,Η,Μ,Λ];refine Ai (v:=?_) rfl rfl (λV G=>?_) ?_
  rotate_left
  ·clear G;go_simp;first|done|with_reducible rfl
  simp only[θ,Η,Μ,Λ];refine Ao rfl (λKk hK=>?_);go_simp
  (with_reducible refine f89.o.mono ?_)
  rintro e w3 ⟨ge,n2,f2,rfl,bb,ak,cg,c7,ca⟩;rw[HN.o];refine hK _ _ (λ_=>bn.o.trans ca) ?_;clear hK Kk;have dh:=Z c7;have X:=Z (bn.o.trans ca);have du:ϟ (ge≠gl):=Z λe=>bb (.inr e)
  have ed:=Z (Kw rfl (ak 0 (by rw[E7];omega)) cg.map);have a1:=Z ak;have ee:=Z (ec.o _ w3 n2 f2 i HI.o cg);clear f89 bb ak cg c7 ca b8 bn;refine Ao rfl (λKk hK=>?_);go_simp
  (with_reducible refine ee.o.mono ?_)
  rintro e w4 ⟨g5,n3,f3,rfl,bb,ak,bc,bp,an⟩;rw[HN.o];refine hK _ _ (λ_=>X.o.trans an) ?_;clear hK Kk;have dk:ϟ (∀ y,node<=y.1->f3 y=f y):=Z λy hy=>(bp y (by have:=cy.o;omega)).trans (dh.o y (by have:=br.o;omega))
  have ck:=Z (a8.o.trans (X.o.trans an));have ct:=Z (X.o.trans an);have cl:=Z bc;have ff:ϟ (g5≠gl):=Z λe=>bb (.inr e)
  have dm:ϟ (RowAt w4 g5 (Bd N (An (A3 q.xs nr) q.b i))):=Z (by unfold Bh at ak;rw[HN.o] at ak;exact ak);have cd:ϟ (RowAt w4 ge (Bd N (An (A3 q.xs nl) q.b i))):=Z (by have h1:=a1.o.keptm an ed.o;unfold Bh at h1;rw[HN.o] at h1;exact h1)
  have ef:=Z (X.o.trans an);have dn:=Z (Dr ct.o ae.o.map aa.o);have az:=hO.kept ct.o (.inr λe=>by have h1:=(ae.o.al gl (.inr rfl)).1;have h2:=HQ.o.hK;simp[Δ.ownBlock] at e;omega)
  have az:w4.ownsRow 0 4 1 (U (I ⟨gl,0,J⟩) N N) N ((Bd N (λx=>if x<0 then An (A3 q.xs nl) q.b i x||An (A3 q.xs nr) q.b i x else Ε)).map ψ):=by rw[Cu (λj _=>by rw[if_neg (by omega)]:∀ j,j<N->(if j<0 then An (A3 q.xs nl) q.b i j||An (A3 q.xs nr) q.b i j else Ε)=Ε)];exact az
  clear ee bb ak bc bp an kl kr dh X ed a1 ct hO aa ae a8;refine Ao rfl (λKk hK=>?_);go_simp;refine hK _ _ (λ_=>?_) ?_
  ·exact ef.o
  clear hK Kk;refine Ao rfl (λKk hK=>?_);go_simp;refine hK _ _ (λh=>absurd h (by omega)) ?_;clear hK Kk ef;refine Bn ?_;have c9:ϟ (∀ j,An (A3 q.xs node) q.b i j=(An (A3 q.xs nl) q.b i j||An (A3 q.xs nr) q.b i j)):=Z λj=>by rw[ag.o];exact PE _ _ _ _ _
  obtain⟨L1,da⟩:=Xq (An (A3 q.xs nl) q.b i);obtain⟨L2,eg⟩:=Xq (An (A3 q.xs nr) q.b i);simp only[da,eg] at az cd dm c9;clear da eg ag;go_wp2_with (fail);go_loopw [78] (λvj W'=>∃ j:Nat,j<=N/\vj=.int Χ j/\ϟ (Mt q (λk=>A k\/k=gl) W' n3 f3)/\W'.ownsRow 0 4 1 (U (I ⟨gl,0,J⟩) N N) N ((Bd N (λx=>if x<j then L1 x||L2 x else Ε)).map ψ)/\ϟ (RowAt W' ge (Bd N L1))/\ϟ (RowAt W' g5 (Bd N L2))/\ϟ (W.grownBy W' (I q.gK))/\ϟ (W'.heap[g4]? = I (Β (rnC E) 96 (0,0))))
   (λvj _=>N-(intOf vj).toNat)
  case atStart=>exact⟨0,by omega,rfl,cl,az,cd,dm,ck,dn⟩
  clear az cl cd dm ck dn;obtain⟨j,gg,rfl,ax,ah,a1,eh,X,cq⟩:=hrel;by_cases bl:j<N
  ·have gi:(j:Int)<(N:Int):=by omega
   have c0:=Cq cq.o ba.o;have cL:=Aq Ε ah (Cf _ _).symm j (by rw[Cf];exact bl);have cE:=a1.o j (by rw[Cf];exact bl);rw[Fk _ _ _ bl] at cE;have cF:=eh.o j (by rw[Cf];exact bl);rw[Fk _ _ _ bl] at cF;have fz:=ah.frozenAt j;have dc:∀ v,(L1 j||L2 j)=v->∀ x,x<N->(if x=j then v else if x<j then L1 x||L2 x else Ε)=if x<j+1 then L1 x||L2 x else Ε:=λv hv x _=>by
    by_cases e1:x=j
    ·subst e1;rw[if_pos rfl,if_pos (by omega),hv]
    by_cases e2:x<j
    ·rw[if_neg e1,if_pos e2,if_pos (by omega)]
    rw[if_neg e1,if_neg e2,if_neg (by omega)]
   have cn:=Z dc;clear dc;obtain⟨x,hx⟩:=Xq (L1 j);obtain⟨y,hy⟩:=Xq (L2 j);rw[hx] at cE;rw[hy] at cF;have HX:=Z hx;have HY:=Z hy;clear hx hy;obtain⟨v,hv⟩:=Xq ((x||y));obtain⟨hP,T⟩:=Ba (f:=ψ) ah j v;have cp:(wr.setCell ⟨gl,j,J⟩ (.bool v)).ownsRow 0 4 1 (U (I ⟨gl,0,J⟩) N N) N ((Bd N (λx=>if x<j+1 then L1 x||L2 x else Ε)).map ψ):=by rw[Ga,Cu (cn.o v (by rw[HX.o,HY.o];exact hv))] at hP;exact hP
   have dp:=Z (ax.o.own HQ.o T (.inr rfl));have dq:=Z (a1.o.keptm T du.o);have fg:=Z (eh.o.keptm T ff.o);have dr:=Z (Gf X.o T a7.o);have dv:=Z ((T.block g4 (Al cq.o) (λe=>fa.o (by injection e with e;exact e.symm))).trans cq.o);clear hP T ah cn HX HY;cases x<;>cases y
   all_goals
    first
    | (obtain rfl:Α=v:=hv)
    | (obtain rfl:Ε=v:=hv)
    go_wp2;go_roundw
    case rel=>exact⟨j+1,by omega,by go_num,dp,cp,dq,fg,dr,dv⟩
    simp[intOf];omega
  obtain rfl:N=j:=by omega
  clear fv;go_wp2;go_ret;exact Gk HN.o a7.o ax.o ah dk.o X.o _ λj hj=>by rw[c9.o,if_pos hj]
 ·have bg:=Z H;have ag:=Z (be.o.trans (KF q.xs E H));have ba:=Z (Gx H);have c0:=Cq aa.o ba.o;clear H be;clear cB;have hl:=HV.o.l1 (by rw[bg.o];decide);have hr:=HV.o.r1 (by rw[bg.o];decide);have br:=Z hl;have cy:=Z hr;have b5:=Z (bq.o _ hl);have ec:=Z (bq.o _ hr);have b6:ϟ ((rnC E)[5]? = I (iv E.l)):=Z rfl;have cz:ϟ ((rnC E)[6]? = I (iv E.r)):=Z rfl;obtain⟨nl,b7⟩:=Xq (E.l);obtain⟨nr,c3⟩:=Xq (E.r);rw[b7] at br b5 b6 ag;rw[c3] at cy ec cz ag;clear hl hr b7 c3 bq HV;go_upto_region 12 with (fail)
  clear c0;have bm:=(Κ w2).drew;refine Bq 11 [(0,Α),(1,Α),(2,Α),(3,Α),(5,Α),(6,Α),(7,Α),(8,Α),(4,Ε),(9,Ε),(10,Ε),(11,Ε)] (by kernel_rfl) (by kernel_rfl) (λ_ _ _ _ h=>h) (λV=>w2.grownBy V (I q.gK)) (D8 (bm.grownBy J)) ?_;have b8:=Z (ae.o.ext bm);have bn:=Z (D8 (r:=I q.gK) (bm.grownBy J));obtain⟨wx,b9⟩:=Xq (w2.drew);rw[b9] at b8 bn;rw[b9];clear b9 bm;have kl:=λV (G:w2.grownBy V (I q.gK))=>Cq (Dr G ae.o.map aa.o) b6.o
  have kr:=λV (G:w2.grownBy V (I q.gK))=>Cq (Dr G ae.o.map aa.o) cz.o
  have f89:=Z (b5.o _ wx n f i HI.o b8.o);refine Ai (v:=?_) rfl rfl (λV G=>?_) ?_
  rotate_left
  ·clear G;go_simp;first|done|with_reducible rfl
  simp only[θ,Η,Μ,Λ];refine Ai (v:=?_) rfl rfl (λV G=>?_) ?_
  rotate_left
  ·clear G;go_simp;first|done|with_reducible rfl
  simp only[θ,Η,Μ,Λ];refine Ai (v:=iv nl) rfl rfl (λV G=>?_) ?_
  ·have c1:=kl V G;clear G;go_simp
  simp only[θ,Η,Μ,Λ];refine Ai (v:=?_) rfl rfl (λV G=>?_) ?_
  rotate_left
  ·clear G;go_simp;first|done|with_reducible rfl
  simp only[θ,Η,Μ,Λ];refine Ai (v:=?_) rfl rfl (λV G=>?_) ?_
  rotate_left
  ·clear G;go_simp;first|done|with_reducible rfl
  simp only[θ,Η,Μ,Λ];refine Ai (v:=?_) rfl rfl (λV G=>?_) ?_
  rotate_left
  ·clear G;go_simp;first|done|with_reducible rfl
  simp only[θ,Η,Μ,Λ];refine Ai (v:=iv nr) rfl rfl (λV G=>?_) ?_
  ·have c1:=kr V G;clear G;go_simp
  simp only[θ,Η,Μ,Λ];refine Ai (v:=?_) rfl rfl (λV G=>?_) ?_
  rotate_left
  ·clear G;go_simp;first|done|with_reducible rfl
  simp only[θ,Η,Μ,Λ];refine Ao rfl (λKk hK=>?_);go_simp
  (with_reducible refine f89.o.mono ?_)
  rintro e w3 ⟨ge,n2,f2,rfl,bb,ak,cg,c7,ca⟩;rw[HN.o];refine hK _ _ (λ_=>bn.o.trans ca) ?_;clear hK Kk;have dh:=Z c7;have X:=Z (bn.o.trans ca);have du:ϟ (ge≠gl):=Z λe=>bb (.inr e)
  have ed:=Z (Kw rfl (ak 0 (by rw[E7];omega)) cg.map);have a1:=Z ak;have ee:=Z (ec.o _ w3 n2 f2 i HI.o cg);clear f89 bb ak cg c7 ca b8 bn;refine Ao rfl (λKk hK=>?_);go_simp
  (with_reducible refine ee.o.mono ?_)
  rintro e w4 ⟨g5,n3,f3,rfl,bb,ak,bc,bp,an⟩;rw[HN.o];refine hK _ _ (λ_=>X.o.trans an) ?_;clear hK Kk;have dk:ϟ (∀ y,node<=y.1->f3 y=f y):=Z λy hy=>(bp y (by have:=cy.o;omega)).trans (dh.o y (by have:=br.o;omega))
  have ck:=Z (a8.o.trans (X.o.trans an));have ct:=Z (X.o.trans an);have cl:=Z bc;have ff:ϟ (g5≠gl):=Z λe=>bb (.inr e)
  have dm:ϟ (RowAt w4 g5 (Bd N (An (A3 q.xs nr) q.b i))):=Z (by unfold Bh at ak;rw[HN.o] at ak;exact ak);have cd:ϟ (RowAt w4 ge (Bd N (An (A3 q.xs nl) q.b i))):=Z (by have h1:=a1.o.keptm an ed.o;unfold Bh at h1;rw[HN.o] at h1;exact h1)
  have ef:=Z (X.o.trans an);have dn:=Z (Dr ct.o ae.o.map aa.o);have az:=hO.kept ct.o (.inr λe=>by have h1:=(ae.o.al gl (.inr rfl)).1;have h2:=HQ.o.hK;simp[Δ.ownBlock] at e;omega)
  have az:w4.ownsRow 0 4 1 (U (I ⟨gl,0,J⟩) N N) N ((Bd N (λx=>if x<0 then An (A3 q.xs nl) q.b i x&&An (A3 q.xs nr) q.b i x else Ε)).map ψ):=by rw[Cu (λj _=>by rw[if_neg (by omega)]:∀ j,j<N->(if j<0 then An (A3 q.xs nl) q.b i j&&An (A3 q.xs nr) q.b i j else Ε)=Ε)];exact az
  clear ee bb ak bc bp an kl kr dh X ed a1 ct hO aa ae a8;refine Ao rfl (λKk hK=>?_);go_simp;refine hK _ _ (λ_=>?_) ?_
  ·exact ef.o
  clear hK Kk;refine Ao rfl (λKk hK=>?_);go_simp;refine hK _ _ (λh=>absurd h (by omega)) ?_;clear hK Kk ef;refine Bn ?_;have c9:ϟ (∀ j,An (A3 q.xs node) q.b i j=(An (A3 q.xs nl) q.b i j&&An (A3 q.xs nr) q.b i j)):=Z λj=>by rw[ag.o];exact PI _ _ _ _ _
  obtain⟨L1,da⟩:=Xq (An (A3 q.xs nl) q.b i);obtain⟨L2,eg⟩:=Xq (An (A3 q.xs nr) q.b i);simp only[da,eg] at az cd dm c9;clear da eg ag;go_wp2_with (fail);go_loopw [78] (λvj W'=>∃ j:Nat,j<=N/\vj=.int Χ j/\ϟ (Mt q (λk=>A k\/k=gl) W' n3 f3)/\W'.ownsRow 0 4 1 (U (I ⟨gl,0,J⟩) N N) N ((Bd N (λx=>if x<j then L1 x&&L2 x else Ε)).map ψ)/\ϟ (RowAt W' ge (Bd N L1))/\ϟ (RowAt W' g5 (Bd N L2))/\ϟ (W.grownBy W' (I q.gK))/\ϟ (W'.heap[g4]? = I (Β (rnC E) 96 (0,0))))
   (λvj _=>N-(intOf vj).toNat)
  case atStart=>exact⟨0,by omega,rfl,cl,az,cd,dm,ck,dn⟩
  clear az cl cd dm ck dn;obtain⟨j,gg,rfl,ax,ah,a1,eh,X,cq⟩:=hrel;by_cases bl:j<N
  ·have gi:(j:Int)<(N:Int):=by omega
   have c0:=Cq cq.o ba.o;have cL:=Aq Ε ah (Cf _ _).symm j (by rw[Cf];exact bl);have cE:=a1.o j (by rw[Cf];exact bl);rw[Fk _ _ _ bl] at cE;have cF:=eh.o j (by rw[Cf];exact bl);rw[Fk _ _ _ bl] at cF;have fz:=ah.frozenAt j;have dc:∀ v,(L1 j&&L2 j)=v->∀ x,x<N->(if x=j then v else if x<j then L1 x&&L2 x else Ε)=if x<j+1 then L1 x&&L2 x else Ε:=λv hv x _=>by
    by_cases e1:x=j
    ·subst e1;rw[if_pos rfl,if_pos (by omega),hv]
    by_cases e2:x<j
    ·rw[if_neg e1,if_pos e2,if_pos (by omega)]
    rw[if_neg e1,if_neg e2,if_neg (by omega)]
   have cn:=Z dc;clear dc;obtain⟨x,hx⟩:=Xq (L1 j);obtain⟨y,hy⟩:=Xq (L2 j);rw[hx] at cE;rw[hy] at cF;have HX:=Z hx;have HY:=Z hy;clear hx hy;obtain⟨v,hv⟩:=Xq ((x&&y));obtain⟨hP,T⟩:=Ba (f:=ψ) ah j v;have cp:(wr.setCell ⟨gl,j,J⟩ (.bool v)).ownsRow 0 4 1 (U (I ⟨gl,0,J⟩) N N) N ((Bd N (λx=>if x<j+1 then L1 x&&L2 x else Ε)).map ψ):=by rw[Ga,Cu (cn.o v (by rw[HX.o,HY.o];exact hv))] at hP;exact hP
   have dp:=Z (ax.o.own HQ.o T (.inr rfl));have dq:=Z (a1.o.keptm T du.o);have fg:=Z (eh.o.keptm T ff.o);have dr:=Z (Gf X.o T a7.o);have dv:=Z ((T.block g4 (Al cq.o) (λe=>fa.o (by injection e with e;exact e.symm))).trans cq.o);clear hP T ah cn HX HY;cases x<;>cases y
   all_goals
    first
    | (obtain rfl:Α=v:=hv)
    | (obtain rfl:Ε=v:=hv)
    go_wp2;go_roundw
    case rel=>exact⟨j+1,by omega,by go_num,dp,cp,dq,fg,dr,dv⟩
    simp[intOf];omega
  obtain rfl:N=j:=by omega
  clear fv;go_wp2;go_ret;exact Gk HN.o a7.o ax.o ah dk.o X.o _ λj hj=>by rw[c9.o,if_pos hj]
 ·have bg:=Z H;have ag:=Z (be.o.trans (KE q.xs E H));have ba:=Z (Gx H);have c0:=Cq aa.o ba.o;clear H be;clear cB;have hl:=HV.o.l1 (by rw[bg.o];decide);have br:=Z hl;have b5:=Z (bq.o _ hl);have b6:ϟ ((rnC E)[5]? = I (iv E.l)):=Z rfl;obtain⟨nl,b7⟩:=Xq (E.l);rw[b7] at br b5 b6 ag;clear hl b7 bq HV;have c5:=Cq aa.o b6.o;have f89:=Z (b5.o _ w2 n f i HI.o ae.o);go_upto_region 20 with (go_at_call 53;(with_reducible refine f89.o.mono ?_);rintro e w4 ⟨ge,n3,f3,rfl,bb,ak,bc,bp,an⟩;rw[HN.o];have gj:=Z bb;have a1:=Z ak;have cl:=Z bc;have gk:=Z bp;have eu:=Z an;clear bb ak bc bp an)
  clear c0 c5 f89;have dk:ϟ (∀ y,node<=y.1->f3 y=f y):=Z λy hy=>gk.o y (by have:=br.o;omega)
  have ck:=Z (a8.o.trans eu.o);have du:ϟ (ge≠gl):=Z λe=>gj.o (.inr e)
  have cd:ϟ (RowAt w4 ge (Bd N (An (A3 q.xs nl) q.b i))):=Z (by have h1:=a1.o;unfold Bh at h1;rw[HN.o] at h1;exact h1)
  have dn:=Z (Dr eu.o ae.o.map aa.o);have az:=hO.kept eu.o (.inr λe=>by have h1:=(ae.o.al gl (.inr rfl)).1;have h2:=HQ.o.hK;simp[Δ.ownBlock] at e;omega)
  have c9:ϟ (∀ j,j<N->An (A3 q.xs node) q.b i j=(decide (i<=j)&&!An (A3 q.xs nl) q.b i j)):=Z λj hj=>by rw[ag.o];exact PF _ _ _ _ (by rw[HN.o];exact hj)
  obtain⟨L1,da⟩:=Xq (An (A3 q.xs nl) q.b i);simp only[da] at cd c9;have az:w4.ownsRow 0 4 1 (U (I ⟨gl,0,J⟩) N N) N ((Bd N (λx=>if x<i then Ε else if x<i then !L1 x else Ε)).map ψ):=by
   rw[Cu (λj _=>by
    by_cases e:j<i
    ·rw[if_pos e]
    rw[if_neg e,if_neg e]:∀ j,j<N->(if j<i then Ε else if j<i then !L1 j else Ε)=Ε)]
   exact az
  clear da ag gj a1 gk eu hO aa ae a8;go_wp2_with (fail);go_loopw [12] (λvj W'=>∃ j:Nat,i<=j/\j<=N/\vj=.int Χ j/\ϟ (Mt q (λk=>A k\/k=gl) W' n3 f3)/\W'.ownsRow 0 4 1 (U (I ⟨gl,0,J⟩) N N) N ((Bd N (λx=>if x<i then Ε else if x<j then !L1 x else Ε)).map ψ)/\ϟ (RowAt W' ge (Bd N L1))/\ϟ (W.grownBy W' (I q.gK)))
   (λvj _=>N-(intOf vj).toNat)
  case atStart=>exact⟨i,Υ _,by omega,rfl,cl,az,cd,ck⟩
  clear az cl cd ck dn;obtain⟨j,jc,gg,rfl,ax,ah,a1,X⟩:=hrel;by_cases bl:j<N
  ·have gi:(j:Int)<(N:Int):=by omega
   have cL:=Aq Ε ah (Cf _ _).symm j (by rw[Cf];exact bl);have cE:=a1.o j (by rw[Cf];exact bl);rw[Fk _ _ _ bl] at cE;have fz:=ah.frozenAt j;have dc:∀ v,(!L1 j)=v->∀ x,x<N->(if x=j then v else if x<i then Ε else if x<j then !L1 x else Ε)=if x<i then Ε else if x<j+1 then !L1 x else Ε:=λv hv x _=>by
    by_cases e1:x=j
    ·subst e1;rw[if_pos rfl,if_neg (by omega),if_pos (by omega),hv]
    rw[if_neg e1];by_cases e3:x<i
    ·rw[if_pos e3,if_pos e3]
    rw[if_neg e3,if_neg e3];by_cases e2:x<j
    ·rw[if_pos e2,if_pos (by omega)]
    rw[if_neg e2,if_neg (by omega)]
   have cn:=Z dc;clear dc;obtain⟨x,hx⟩:=Xq (L1 j);rw[hx] at cE;have HX:=Z hx;clear hx;cases x
   ·obtain⟨hP,T⟩:=Ba (f:=ψ) ah j Α;have cp:(wr.setCell ⟨gl,j,J⟩ (.bool Α)).ownsRow 0 4 1 (U (I ⟨gl,0,J⟩) N N) N ((Bd N (λx=>if x<i then Ε else if x<j+1 then !L1 x else Ε)).map ψ):=by rw[Ga,Cu (cn.o Α (by rw[HX.o];rfl))] at hP;exact hP
    have dp:=Z (ax.o.own HQ.o T (.inr rfl));have dq:=Z (a1.o.keptm T du.o);have dr:=Z (Gf X.o T a7.o);clear hP T ah cn;go_wp2;go_roundw
    case rel=>exact⟨j+1,by omega,by omega,by go_num,dp,cp,dq,dr⟩
    simp[intOf];omega
   obtain⟨hP,T⟩:=Ba (f:=ψ) ah j Ε;have cp:(wr.setCell ⟨gl,j,J⟩ (.bool Ε)).ownsRow 0 4 1 (U (I ⟨gl,0,J⟩) N N) N ((Bd N (λx=>if x<i then Ε else if x<j+1 then !L1 x else Ε)).map ψ):=by rw[Ga,Cu (cn.o Ε (by rw[HX.o];rfl))] at hP;exact hP
   have dp:=Z (ax.o.own HQ.o T (.inr rfl));have dq:=Z (a1.o.keptm T du.o);have dr:=Z (Gf X.o T a7.o);clear hP T ah cn;go_wp2;go_roundw
   case rel=>exact⟨j+1,by omega,by omega,by go_num,dp,cp,dq,dr⟩
   simp[intOf];omega
  obtain rfl:N=j:=by omega
  go_wp2;go_ret;exact Gk HN.o a7.o ax.o ah dk.o X.o _ λj hj=>by
   rw[c9.o j hj];by_cases e:j<i
   ·rw[if_pos e];simp;omega
   rw[if_neg e,if_pos hj];simp;omega
 have bg:=Z H;have ag:=Z (be.o.trans (KD q.xs E H));have ba:=Z (Gx H);have c0:=Cq aa.o ba.o;clear H be;clear cB;have hl:=HV.o.l1 (by rw[bg.o];decide);have br:=Z hl;obtain⟨gm,gn,gp,bc⟩:=HV.o.m8 bg.o;have fz:=hO.frozenAt i;obtain⟨hP,T⟩:=Ba (f:=ψ) hO i Α;rw[Ga] at hP;have cL:=Aq Ε hO (Cf _ _).symm i (by rw[Cf];omega);have ax:=Z (ae.o.own HQ.o T (.inr rfl));have X:=Z (Gf a8.o T a7.o);have dv:=(T.block g4 (Al aa.o) (λe=>fa.o (by injection e with e;exact e.symm))).trans aa.o;have cp:(w2.setCell ⟨gl,i,J⟩ (.bool Α)).ownsRow 0 4 1 (U (I ⟨gl,0,J⟩) (q.b.length+1) (q.b.length+1)) (q.b.length+1) ((Bh (pw (A3 q.xs E.l) 0) q.b i).map ψ):=by
  unfold Bh;rw[HN.o,Cu (g:=λx=>if x=i then Α else Ε) (λj _=>by
   rw[show pw (A3 q.xs E.l) 0=λw=>w=[] from rfl,X8 _ _ _ HI.o];by_cases e:j=i
   ·simp[e]
   simp[e])]
  exact hP
 have f149:=DJ q HQ.o E (BH q HQ.o E.l (bq.o _ hl)) gm gp gn bc A _ n f gl i ax.o cp;rw[HN.o] at f149;have f149:=Z f149;have ig:=Z dv;clear T hO ae a8 hl gm gn gp bc dv hP cp HV bq aa;go_wp2_with (first
  | (refine wpList_load_row rfl 96 (ε 4) rfl g4 rfl _ _ _ _ ig.o Ò rfl (Dd E) ?_)
  | (go_at_call 104;(with_reducible refine f149.o.mono ?_);rintro e w4 ⟨g,n3,f3,rfl,hg,et,bc,bp,an⟩;rw[HN.o];have ih:=Z hg;have ij:=Z et;have fe:=Z bc;have ik:=Z bp;have ct:=Z an;clear hg et bc bp an))
 go_ret;refine⟨g,n3,f3,by rw[HN.o];rfl,?_,?_,fe.o.weak λk H=>.inl H,λy hy=>ik.o y (by have:=br.o;omega),?_⟩
 ·have h1:=ih.o;have h2:=X.o.size;have h3:=a7.o;omega
 ·rw[ag.o];exact RowAt.of_owns ij.o (by rw[E7])
 have h1:=ct.o;have h2:=X.o;have h3:=a7.o;exact⟨h1.os.trans h2.os,h1.tape.trans h2.tape,h1.output.trans h2.output,μ h2.size h1.size,λk H gq=>(h1.block k (Ξ H h2.size) (λe=>gq (by rw[e])) (by omega)).trans (h2.block k H gq)⟩
def RxV (W:Γ) (v:Δ) (xs:List RNode):Prop:=∃ b o c,v=U (I ⟨b,o,J⟩) xs.length c/\RxAt W b o xs
theorem RR (q:Mq) (E:q.ok) (node:Nat):node<q.xs.length->Oe q node:=by
 induction node using Nat.strongRecOn with
 | _ node H=>exact λG=>RQ q E node G (SL q E node G λk T=>H k T (by omega))
theorem LN (xs:List RNode) (hx:VRx xs) (v:Δ) (bs:List UInt8) (hb:bs.length<=1000) (vb:Δ) (w:Γ) (h:RxV w v xs) (ar:By w vb bs) :
  Ϟ Ι 22 #[v,vb] w λe w'=>e=Ω (.bool (An (A3 xs (xs.length-1)) bs 0 bs.length))/\Ext w w':=by
 obtain⟨b,o,T,rfl,G⟩:=h;have f82:=Z (Oi xs hx b o T w G);have HX:=Z hx;have HR:=Z G;have bn:=Z ar;obtain⟨ab,cb,au⟩:=ar.len;have b7:=Z au;have bo:=hx.pos;have bp:=hx.le;obtain⟨N,hN⟩:=Xq (xs.length);obtain⟨B,hB⟩:=Xq (bs.length);have HN:=Z hN;have HB:=Z hB;rw[hN] at f82 bo bp;rw[hB] at au hb;rw[hN,hB];have b8:IntKind.i64.wrap ((N:Int)-1)=((N-1:Nat):Int):=by rw[show (N:Int)-1=((N-1:Nat):Int) by omega];exact IntWalk.i64_in _ ⟨by omega,by omega⟩
 subst au;clear hx G ar hN hB;obtain⟨r,G⟩:=Xq (An (A3 xs (N-1)) bs 0 B);have bq:=Z G;rw[G];clear G;have br:=@run_makeMap Ι;go_enter Tryz.func22,Tryz.ntmps22;go_upto_region 3 with (go_at_call 40;(with_reducible refine f82.o.mono ?_);rintro e w1 ⟨rfl,aj⟩)
 go_upto_region 4 with (fail)
 have b9:=Z aj;have ak:=Γ.size_alloc w1 (.map #[] 0);have an:=Ad w1 (.map #[] 0);obtain⟨X,ae⟩:=Xq (w1.alloc (.map #[] 0));have aw:ϟ (IsMv X 164 C2 w1.heap.size 0 (λ_=>J)):=Z (by rw[<-ae];exact Qj w1 164 C2);have bb:ϟ (Ext w X):=Z (by rw[<-ae];exact aj.alloc _);rw[ae] at ak an;simp only[ae];clear ae;obtain⟨gK,ao⟩:=Xq (w1.heap.size);have bt:ϟ (w.heap.size<=gK):=Z (by rw[<-ao];exact aj.size);rw[ao] at aw ak an;simp only[ao];clear ao aj br;have bu:ϟ (gK<X.heap.size):=Z (by omega);have bc:=Z (Ag an (Β #[U (I ⟨b,o,J⟩) N T,U ab B cb,.map (I gK)] 123));have ax:=Z (Ad X (Β #[U (I ⟨b,o,J⟩) N T,U ab B cb,.map (I gK)] 123));have af:=(Κ X).alloc (Β #[U (I ⟨b,o,J⟩) N T,U ab B cb,.map (I gK)] 123);obtain⟨E,ay⟩:=Xq (X.alloc (Β #[U (I ⟨b,o,J⟩) N T,U ab B cb,.map (I gK)] 123));rw[ay] at bc ax af;simp only[ay];clear ay an;obtain⟨gM,az⟩:=Xq (gK+1);rw[ak,az] at ax;simp only[az];clear az ak;have a1:=Z (bb.o.t af);have bd:=Z (aw.o.ext af);obtain⟨q,H⟩:=Xq ((Mq.mk xs bs E gM gK b o T (U ab B cb)));have be:q.ok:=by rw[<-H];exact⟨HX.o,by show bs.length<=1000;rw[HB.o];exact hb,by show E.heap[gM]? = _;rw[ax.o,HN.o],Ξ bu.o af.size,HR.o.ext a1.o,bn.o.ext a1.o,⟨_,_,bc.o⟩⟩
 have e1:q.xs=xs:=by rw[<-H]
 have e2:q.b=bs:=by rw[<-H]
 have e3:q.gM=gM:=by rw[<-H]
 have e4:q.W0=E:=by rw[<-H]
 have e5:q.gK=gK:=by rw[<-H]
 clear H;have hM:Mt q (λ_=>False) E 0 (λ_=>J):=⟨by rw[e4];exact (Κ E).grownBy _,by rw[e5];exact bd.o,Nat.zero_le _,λ_ h=>h.elim,λ_ _ h=>by cases h⟩;have f89:=RR q be (N-1) (by rw[e1,HN.o];omega) (λ_=>False) E 0 (λ_=>J) 0 (Nat.zero_le _) hM;rw[e1,e2,e3] at f89;have f89:ϟ (Ϟ Ι 53 #[η (I ⟨gM,0,J⟩),iv (N-1),.int Χ 0] E λe w'=>BP q (λ_=>False) E (λ_=>J) (N-1) (Bh (A3 xs (N-1)) bs 0) e w'):=Z f89;have E2:=Z e2;have E5:=Z e5;obtain⟨N2,a8⟩:=Xq (B+1);have bz:ϟ (q.b.length+1=N2):=Z (by rw[e2,HB.o];exact a8);have cc:(B:Int)<(N2:Int):=by omega
 have cd:=Z a8;clear e1 e2 e3 e4 e5 be hM af bb aw bd a8;go_wp2_with (go_at_call 53;(with_reducible refine f89.o.mono ?_);rintro e w4 ⟨g,n2,f2,rfl,hg,bj,b0,b4,bk⟩;rw[bz.o];have cR:=bj B (by rw[E7,HB.o];exact Nat.lt_succ_self B);rw[show (Bh (A3 xs (N-1)) bs 0).getD B Ε=r by (unfold Bh;rw[Fk _ _ _ (by rw[HB.o];exact Nat.lt_succ_self B)];exact bq.o)] at cR;have b6:=Z bk;clear hg bj b0 b4 bk);go_ret;refine⟨rfl,a1.o.grown b6.o (λk e=>?_)⟩;have e':=ϓ e;have h1:=E5.o;have h2:=bt.o;omega
noncomputable def Hd (xs:List RNode) (u:List UInt8):Bool:=An (A3 xs (xs.length-1)) u 0 u.length
end Go.Proofs.YtilncahcpjlfnaaGreatDoor
