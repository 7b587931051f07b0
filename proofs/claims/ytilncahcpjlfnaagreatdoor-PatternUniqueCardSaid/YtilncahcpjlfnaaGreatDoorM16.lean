import Derived.Test.YtilncahcpjlfnaaGreatDoorM15
import Derived.Test.YtilncahcpjlfnaaGreatDoorM07
import Derived.Test.YtilncahcpjlfnaaGreatDoorM09
import Derived.Test.YtilncahcpjlfnaaGreatDoorM11
set_option linter.unusedVariables false
set_option linter.unusedSimpArgs false
set_option maxRecDepth 100000
set_option maxHeartbeats 8000000
open And renaming intro → ï
open Array renaming getElem?_eq_some_iff → ϝ, getD_eq_getD_getElem? → ϕ, getElem?_eq_getElem → Ϛ
open Bool renaming false → Ε, true → Α, or_eq_true → Û, and_eq_true → ψ
open Go renaming World → Γ, Value → Δ, Calls → ϛ, cell_of_row → Τ, Program → Þ, Oper → ϳ, Act → ø, TypeId → ϡ, Operand → Ñ, execOp → ê, undef → Ω, yielded → ü, getD_replicate_false → Ϡ, wpQuiet_step → Ϧ, wpQuiet_nil → ϵ
open Go.Act renaming put → η
open Go.Ending renaming returned → Ψ
open Go.IntKind renaming i64 → Φ, u64 → ζ
open Go.Lib renaming hid → Z
open Go.Obj renaming cells → Β
open Go.Operand renaming tmp → δ
open Go.Proofs.Tryz renaming prog → Η
open Go.Region renaming waitsFor → ý, wanted → ϧ
open Go.RowKit renaming Hid → ϟ
open Go.Value renaming bool → ϊ, slice → U, pointer → ε, int → Â, tuple → ϗ
open List renaming range → π, all_eq_true → Í, mem_range → ϔ, mem_cons_self → Ð, mem_cons_of_mem → ò, getElem?_eq_some_iff → ο, getElem?_eq_getElem → Ι, setIfInBounds_toArray → Θ, set_cons_zero → Μ, set_cons_succ → Λ
open List.cons renaming injEq → ì
open Nat renaming lt_of_lt_of_le → Ξ, le_refl → Υ
open Option renaming some → J, none → I, getD_some → ϱ, bind_some → ó
open Option.some renaming inj → ό
namespace Go.Proofs.YtilncahcpjlfnaaGreatDoor
open Go.RowKit Go.Shelf Go.WideMaps
theorem Vx {L:Ag} {b:List UInt8} {i m:Nat} (hm:m<b.length+1):(Bh L b i).getD m Ε=An L b i m:=Fr _ _ _ hm
theorem DJ {P L:Ag} {b:List UInt8} {i j:Nat}:Bv L b (Bh P b i) (b.length+1) j=Α↔hit (Cat P L) b i j:=by
 rw[YZ,Oe];constructor
 ·rintro⟨m,h1,E,G⟩;rw[Vx h1] at E;exact⟨m,hitB_true.1 E,G⟩
 rintro⟨m,h1,E⟩;have hm:m<b.length+1:=by have:=h1.2.1;omega
 exact⟨m,hm,by rw[Vx hm];exact hitB_true.2 h1,E⟩
theorem DK (P L:Ag) (b:List UInt8) (i:Nat):Kn L b (Bh P b i)=Bh (Cat P L) b i:=Cz λj _=>F1 (by rw[DJ,hitB_true])
theorem YY (L:Ag) (b:List UInt8) (i k:Nat):Kn L b (Bh (pw L k) b i)=Bh (pw L (k+1)) b i:=by rw[DK];exact Vy (λw=>(Nk L k w).symm) b i
abbrev Bb (L:Ag) (E t:Nat):Ag:=rep L E ((E+t:Nat):Int)
theorem JL (L:Ag) (E:Nat) (b:List UInt8) (i:Nat):Bh (pw L E) b i=Bh (Bb L E 0) b i:=Vy (λw=>(JN L E w).symm) b i
theorem RT (L:Ag) (E t:Nat) (b:List UInt8) (i j:Nat):An (Bb L E (t+1)) b i j=(An (Bb L E t) b i j||Bv L b (Bh (Bb L E t) b i) (b.length+1) j):=F1 (by rw[hitB_true,Û,hitB_true,DJ,Od,Oe])
theorem GO {L:Ag} {E t:Nat} {b:List UInt8} {i:Nat} (h:∀ j,j<b.length+1->An (Bb L E (t+1)) b i j=An (Bb L E t) b i j):stab L E t b i:=λj m h1 G=>by have:=h j (by have:=G.2.1;omega);rw[<-hitB_true,<-this,hitB_true,Od];exact .inr ⟨m,h1,G⟩
theorem U4 {L:Ag} {E t:Nat} {b:List UInt8} {i:Nat} (h:stab L E t b i) {mx:Int} (hm:mx<0\/((E+t:Nat):Int)<=mx):Bh (Bb L E t) b i=Bh (rep L E mx) b i:=
 Cz λj _=>F1 (by rw[hitB_true,hitB_true,U5 h hm])
structure Gr2 (W W':Γ) (a b:Nat):Prop where
 os:W'.os=W.os
 tape:W'.tape=W.tape
 output:W'.output=W.output
 size:W.heap.size<=W'.heap.size
 block:∀ k,k<W.heap.size->k≠a->k≠b->W'.heap[k]? = W.heap[k]?
theorem Gr2.of_grown {W W':Γ} {a b:Nat} (h:W.grownBy W' (J a)):Gr2 W W' a b:=⟨h.os,h.tape,h.output,h.size,λk E h1 _=>h.block k E (λe=>h1 (by injection e))⟩
theorem Gr2.step {W E G:Γ} {a b g:Nat} (h:Gr2 W E a b) (k:E.grownBy G (J g)) (hg:g=a\/g=b\/W.heap.size<=g):Gr2 W G a b:=
 ⟨k.os.trans h.os,k.tape.trans h.tape,k.output.trans h.output,Nat.le_trans h.size k.size,λj H h1 T=>(k.block j (Ξ H h.size) (λe=>by
  injection e with e
  rcases hg with hg|hg|hg
  ·exact h1 (by omega)
  ·exact T (by omega)
  omega)).trans (h.block j H h1 T)⟩
def ZD (q:Mq) (A:Nat->Prop) (W:Γ) (f:Nat × Nat->Option Δ) (node E:Nat) (row:List Bool) (e:Ending) (w':Γ):Prop:=
 ∃ g H G,e=Ψ (U (J ⟨g,0,I⟩) (q.b.length+1) (q.b.length+1))/\(g=E\/W.heap.size<=g)/\w'.ownsRow 0 4 1 (U (J ⟨g,0,I⟩) (q.b.length+1) (q.b.length+1)) (q.b.length+1) (row.map ϊ)/\Mt q (λk=>A k\/k=g) w' H G/\(∀ y,node<y.1->G y=f y)/\Gr2 W w' q.gK E
theorem FM (q:Mq) (hq:q.ok) (E:RNode) (hA:DU q E.l) (ea:E.min<=16) (eb:-1<=E.max) (ec:E.max<=16) (bl:E.max≠-1->(E.min:Int)<=E.max)
  (A:Nat->Prop) (W:Γ) (n:Nat) (f:Nat × Nat->Option Δ) (X i:Nat) (hM:Mt q (λk=>A k\/k=X) W n f) (hO:W.ownsRow 0 4 1 (U (J ⟨X,0,I⟩) (q.b.length+1) (q.b.length+1)) (q.b.length+1) ((Bh (pw (A4 q.xs E.l) 0) q.b i).map ϊ)) :
  ϛ Η 104 #[ε (J ⟨q.gM,0,I⟩),.agg (rnC E),U (J ⟨X,0,I⟩) (q.b.length+1) (q.b.length+1)] W λe w'=>ZD q A W f E.l X (Bh (rep (A4 q.xs E.l) E.min E.max) q.b i) e w':=by
 have b9:=Z hA;have HQ:=Z hq;have hb:=hq.hb;have a1:=(Κ W).alloc (Β (rnC E) 96);have H:=Ad W (Β (rnC E) 96);have bn:=hM.ext a1;have a6:=Aa hO a1;have ca:W.grownBy (W.alloc (Β (rnC E) 96)) (J q.gK):=Eb (a1.grownBy I);have HK:=Z (hM.al X (.inr rfl));obtain⟨N,hN⟩:=Xq (q.b.length+1);have G:=Z hN;have e8:N<=1001:=by omega
 have e9:0<N:=by omega
 rw[hN] at a6;rw[hN];obtain⟨L,hL⟩:=Xq (A4 q.xs E.l);have HL:=Z hL;rw[hL] at a6;obtain⟨mn,bq⟩:=Xq (E.min);obtain⟨mx,br⟩:=Xq (E.max);obtain⟨nl,a7⟩:=Xq (E.l);have c4:=Z a7;have c6:=Z bq;have c9:=Z br;rw[bq] at ea bl;rw[br] at eb ec bl;rw[a7] at b9;have ai:=Z bl;have da:(rnC E)[7]? = J (iv mn):=by rw[<-bq];rfl
 have db:(rnC E)[8]? = J (.int Φ mx):=by rw[<-br];rfl
 have dc:(rnC E)[5]? = J (iv nl):=by rw[<-a7];rfl
 have dd:=Z da;have ee:=Z db;have de:=Z dc;have df:ϟ (A4 q.xs nl=L):=Z (by rw[<-a7];exact hL);clear hA hq hM hO hb hN hL bq br a7 bl da db dc;go_enter Tryz.func104,Tryz.ntmps104;go_upto_region 1 with (fail)
 obtain⟨w1,cc⟩:=Xq (W.alloc (Β (rnC E) 96));rw[cc] at a1 H bn a6 ca;simp only[cc];clear cc;obtain⟨g4,bt⟩:=Xq (W.heap.size);have bu:=Z bt;rw[bt] at H HK;simp only[bt];clear bt a1;have c7:=(Τ w1 g4 7 _ _ _ H).trans dd.o;have H:=Z H;go_wp2_with (fail);clear c7;go_loopw [2,13] (λv2 vk W'=>∃ (k g n':Nat) (f':Nat × Nat->Option Δ),k<=mn/\v2=U (J ⟨g,0,I⟩) N N/\vk=.int Φ k/\ϟ (g=X\/g4<=g)/\ϟ (Mt q (λx=>A x\/x=g) W' n' f')/\W'.ownsRow 0 4 1 (U (J ⟨g,0,I⟩) N N) N ((Bh (pw L k) q.b i).map ϊ)/\ϟ (∀ y,nl<y.1->f' y=f y)/\ϟ (W.grownBy W' (J q.gK))/\ϟ (W'.heap[g4]? = J (Β (rnC E) 96 (0,0))))
  (λ_ vk _=>mn-(intOf vk).toNat)
 case atStart=>exact⟨0,X,n,f,by omega,rfl,rfl,Z (.inl rfl),Z bn,a6,Z λ_ _=>rfl,Z ca,H⟩
 clear bn a6 ca H;obtain⟨k,g,n1,f1,hk,rfl,rfl,cg,HM,hO,HF,HG,H⟩:=hrel;by_cases fb:k<mn
 ·have fc:(k:Int)<(mn:Int):=by omega
  have c5:=(Τ wr g4 5 _ _ _ H.o).trans de.o;have f148:=Z (b9.o _ wr n1 f1 g _ HM.o (Fd _ _ _) (RowAt.of_owns hO (by rw[Fd,G.o])));rw[G.o] at f148;go_wp2_with (go_at_call 103;(with_reducible refine f148.o.mono ?_);rintro e w2 ⟨g2,n2,f2,rfl,bb,bc,bd,be,bf⟩;rw[G.o];have cj:=Z bb;have b5:=Z bc;have ck:=Z bd;have cl:=Z be;have ay:=Z bf;clear bb bc bd be bf);have eg:w2.ownsRow 0 4 1 (U (J ⟨g2,0,I⟩) N N) N ((Bh (pw L (k+1)) q.b i).map ϊ):=by have h1:=W4 b5.o;rw[G.o,df.o,YY] at h1;exact h1
  have eh:ϟ (g2=X\/g4<=g2):=Z (.inr (by have h1:=cj.o;have h2:=HG.o.size;have h3:=bu.o;omega));have ei:=Z (ck.o.weak (B:=λx=>A x\/x=g2) (λx hx=>hx.elim (λh=>.inl (.inl h)) .inr));have ej:ϟ (∀ y,nl<y.1->f2 y=f y):=Z λy hy=>(cl.o y hy).trans (HF.o y hy)
  have ek:=Z (HG.o.trans ay.o);have en:=Z (Du ay.o HM.o.map H.o);go_roundw
  case rel=>exact⟨k+1,g2,n2,f2,by omega,rfl,by go_num,eh,ei,eg,ej,ek,en⟩
  simp[intOf];omega
 obtain rfl:mn=k:=by omega
 have c7:=(Τ wr g4 7 _ _ _ H.o).trans dd.o;have c8:=(Τ wr g4 8 _ _ _ H.o).trans ee.o;have dm:wr.ownsRow 0 4 1 (U (J ⟨g,0,I⟩) N N) N ((Bh (Bb L mn 0) q.b i).map ϊ):=by rw[<-JL];exact hO
 have bg:ϟ (Gr2 W wr q.gK X):=Z (Gr2.of_grown HG.o);clear hO HG;by_cases eo:mx<0
 case' pos=>
  obtain⟨B,hB⟩:=Xq (q.b.length);have dn:B+1=N:=by rw[<-hB];exact G.o
  have fe:B<=1000:=by omega
  obtain⟨ab,cb,dp⟩:=(HM.o.word HQ.o).len;have cB:=(Τ wr q.gM 1 _ _ _ (HM.o.box HQ.o)).trans (show (#[U (J ⟨q.bx,q.ox,I⟩) q.xs.length q.cx,q.vb,.map (J q.gK)]:Array Δ)[1]? = J q.vb from rfl);rw[dp,hB] at cB;have dr:=Z dn;clear dp hB dn;go_upto_region 8 with (fail)
  rw[show (Â Φ ((B:Int)+1))=.int Φ (N:Int) by have:=dr.o;rw[<-this];simp];clear cB dr c7 c8;obtain⟨M,hM⟩:=Xq (N);have cp:ϟ ((mx<0/\M=N)\/(0<=mx/\mx=mn+M)):=Z (.inl ⟨eo,hM.symm⟩);rw[show (Â Φ (N:Int))=.int Φ (M:Int) by rw[hM]];have bn:M<=1001:=by omega
  clear hM
 case' neg=>
  have ep:0<=mx:=by omega
  have h3:=ai.o (by omega);obtain⟨M,hM⟩:∃ M:Nat,mx-(mn:Int)=(M:Int):=⟨(mx-mn).toNat,by omega⟩;have fj:M<=16:=by omega
  have cp:ϟ ((mx<0/\M=N)\/(0<=mx/\mx=mn+M)):=Z (.inr ⟨ep,by omega⟩);have er:=Z hM;clear hM;go_upto_region 8 with (fail)
  rw[er.o];clear c7 c8
 all_goals
  go_wp2_with (fail);go_loopw [36] (λvt W'=>∃ (t n':Nat) (f':Nat × Nat->Option Δ),t<=M/\vt=.int Φ t/\ϟ (Mt q (λx=>A x\/x=g) W' n' f')/\W'.ownsRow 0 4 1 (U (J ⟨g,0,I⟩) N N) N ((Bh (Bb L mn t) q.b i).map ϊ)/\ϟ (∀ y,nl<y.1->f' y=f y)/\ϟ (Gr2 W W' q.gK X)/\ϟ (W'.heap[g4]? = J (Β (rnC E) 96 (0,0)))/\ϟ (t<=Dy N (An (Bb L mn t) q.b i)))
   (λvt _=>M-(intOf vt).toNat)
  case atStart=>exact⟨0,n1,f1,by omega,rfl,HM,dm,HF,bg,H,Z (by omega)⟩
  clear dm HM HF bg H;obtain⟨t,n2,f2,fk,rfl,HM,hO,HF,bg,H,dt⟩:=hrel;by_cases fl:t<M
  ·have fm:(t:Int)<(M:Int):=by omega
   have c5:=(Τ wr g4 5 _ _ _ H.o).trans de.o;have f148:=Z (b9.o _ wr n2 f2 g _ HM.o (Fd _ _ _) (RowAt.of_owns hO (by rw[Fd,G.o])));rw[G.o] at f148;go_wp2_with (go_at_call 103;(with_reducible refine f148.o.mono ?_);rintro e w2 ⟨ge,n3,f3,rfl,bb,bc,bd,be,bf⟩;rw[G.o];have cj:=Z bb;have b5:=Z bc;have ck:=Z bd;have cl:=Z be;have ay:=Z bf;clear bb bc bd be bf);have et:ϟ (ge≠g):=Z λe=>by have h1:=cj.o;have h2:=(HM.o.al g (.inr rfl)).2;omega
   have aq:ϟ (RowAt w2 ge (Bd N (Bv L q.b (Bh (Bb L mn t) q.b i) N))):=Z (by have h1:=RowAt.of_owns b5.o (by unfold Kn;rw[Ck]);unfold Kn at h1;rw[G.o,df.o] at h1;exact h1)
   have b6:=hO.kept ay.o (.inr λe=>by have h1:=(HM.o.al g (.inr rfl)).1;have h2:=HQ.o.hK;simp[Δ.ownBlock] at e;omega)
   have T:w2.ownsRow 0 4 1 (U (J ⟨g,0,I⟩) N N) N ((Bd N (λx=>if x<0 then An (Bb L mn (t+1)) q.b i x else An (Bb L mn t) q.b i x)).map ϊ):=by rw[Cz (λj _=>by rw[if_neg (by omega)]:∀ j,j<N->(if j<0 then An (Bb L mn (t+1)) q.b i j else An (Bb L mn t) q.b i j)=An (Bb L mn t) q.b i j)];unfold Bh at b6;rw[G.o] at b6;exact b6
   have ak:=Z (bg.o.step ay.o (.inl rfl));have du:ϟ (∀ y,nl<y.1->f3 y=f y):=Z λy hy=>(cl.o y hy).trans (HF.o y hy)
   have ai:=Z (ck.o.weak (B:=λx=>A x\/x=g) (λx hx=>.inl hx));have an:=Z (Du ay.o HM.o.map H.o);have eu:ϟ (g≠g4):=Z λe=>by
    rcases B3 hO H.o (by decide) with h|h
    ·cases h
    exact h (by rw[e];rfl)
   clear hO b6 f148 c5 b5;go_loopw [8,44] (λvc vj W'=>∃ (j:Nat) (ch:Bool),j<=N/\vc=.bool ch/\vj=.int Φ j/\ϟ (Mt q (λx=>A x\/x=g) W' n3 f3)/\W'.ownsRow 0 4 1 (U (J ⟨g,0,I⟩) N N) N ((Bd N (λx=>if x<j then An (Bb L mn (t+1)) q.b i x else An (Bb L mn t) q.b i x)).map ϊ)/\ϟ (RowAt W' ge (Bd N (Bv L q.b (Bh (Bb L mn t) q.b i) N)))/\ϟ (Gr2 W W' q.gK X)/\ϟ (W'.heap[g4]? = J (Β (rnC E) 96 (0,0)))/\ϟ ((ch=Α->∃ x,x<j/\An (Bb L mn (t+1)) q.b i x≠An (Bb L mn t) q.b i x)/\(ch=Ε->∀ x,x<j->An (Bb L mn (t+1)) q.b i x=An (Bb L mn t) q.b i x)))
    (λ_ vj _=>N-(intOf vj).toNat)
   case atStart=>exact⟨0,Ε,by omega,rfl,rfl,ai,T,aq,ak,an,Z ⟨(λh=>by cases h),λ_ x hx=>by omega⟩⟩
   clear T ai aq ak an;obtain⟨j,ch,fo,rfl,rfl,ai,T,aq,ak,an,ar⟩:=hrel;by_cases b7:j<N
   ·have fp:(j:Int)<(N:Int):=by omega
    have cL:=Au Ε T (Ck _ _).symm j (by rw[Ck];exact b7);rw[Fr _ _ _ b7,if_neg (by omega)] at cL;have cE:=aq.o j (by rw[Ck];exact b7);rw[Fr _ _ _ b7] at cE;have fz:=T.frozenAt j;have az:∀ v,An (Bb L mn (t+1)) q.b i j=v->∀ x,x<N->(if x=j then v else if x<j then An (Bb L mn (t+1)) q.b i x else An (Bb L mn t) q.b i x)=if x<j+1 then An (Bb L mn (t+1)) q.b i x else An (Bb L mn t) q.b i x:=λv hv x _=>by
     by_cases e1:x=j
     ·subst e1;rw[if_pos rfl,if_pos (by omega),hv]
     by_cases e2:x<j
     ·rw[if_neg e1,if_pos e2,if_pos (by omega)]
     rw[if_neg e1,if_neg e2,if_neg (by omega)]
    have au:=RT L mn t q.b i j;rw[G.o] at au;obtain⟨x,hx⟩:=Xq (An (Bb L mn t) q.b i j);obtain⟨y,hy⟩:=Xq (Bv L q.b (Bh (Bb L mn t) q.b i) N j);rw[hx,hy] at au;rw[hx] at cL;rw[hy] at cE;have HX:=Z hx;have ag:=Z au;have dx:=Z az;clear hx hy au az;have az:=dx.o;have ew:ϟ (g=q.gK\/g=X\/W.heap.size<=g):=Z (by
     rcases cg.o with h|h
     ·exact .inr (.inl h)
     have:=bu.o;exact .inr (.inr (by omega)))
    clear dx;cases y with
    | false=>
     replace ag:ϟ (An (Bb L mn (t+1)) q.b i j=x):=Z (by rw[ag.o];cases x<;>rfl);clear az;have bj:wr.ownsRow 0 4 1 (U (J ⟨g,0,I⟩) N N) N ((Bd N (λx=>if x<j+1 then An (Bb L mn (t+1)) q.b i x else An (Bb L mn t) q.b i x)).map ϊ):=by
      rw[Cz (λx hx=>by
       by_cases e1:x=j
       ·subst e1;rw[if_neg (by omega),if_pos (by omega),ag.o,HX.o]
       by_cases e2:x<j
       ·rw[if_pos e2,if_pos (by omega)]
       rw[if_neg e2,if_neg (by omega)]:∀ x,x<N->(if x<j then An (Bb L mn (t+1)) q.b i x else An (Bb L mn t) q.b i x)=if x<j+1 then An (Bb L mn (t+1)) q.b i x else An (Bb L mn t) q.b i x)] at T
      exact T
     clear T;go_wp2;go_roundw
     case rel=>exact⟨j+1,ch,by omega,rfl,by go_num,ai,bj,aq,ak,an,Z ⟨λh=>by
      obtain⟨x,h1,h2⟩:=ar.o.1 h;exact⟨x,by omega,h2⟩,λh x hx=>by
      by_cases e1:x=j
      ·rw[e1,ag.o,HX.o]
      exact ar.o.2 h x (by omega)⟩⟩
     case measure=>simp[intOf];omega
    | true=>
     cases x with
     | false=>
      replace ag:ϟ (An (Bb L mn (t+1)) q.b i j=Α):=Z (by rw[ag.o];rfl);obtain⟨hP,bk⟩:=Ba (f:=ϊ) T j Α;have bj:(wr.setCell ⟨g,j,I⟩ (.bool Α)).ownsRow 0 4 1 (U (J ⟨g,0,I⟩) N N) N ((Bd N (λx=>if x<j+1 then An (Bb L mn (t+1)) q.b i x else An (Bb L mn t) q.b i x)).map ϊ):=by rw[Gk,Cz (az Α ag.o)] at hP;exact hP
      have ey:=Z (ai.o.own HQ.o bk (.inr rfl));have ez:=Z (aq.o.keptm bk et.o);have e0:=Z (ak.o.step bk ew.o);have e3:=Z ((bk.block g4 (Al an.o) (λe=>eu.o (by injection e with e;exact e.symm))).trans an.o);clear hP bk T;go_wp2;go_roundw
      case rel=>exact⟨j+1,Α,by omega,rfl,by go_num,ey,bj,ez,e0,e3,Z ⟨λ_=>⟨j,by omega,by rw[ag.o,HX.o];decide⟩,(λh=>by cases h)⟩⟩
      simp[intOf];omega
     | true=>
      replace ag:ϟ (An (Bb L mn (t+1)) q.b i j=Α):=Z (by rw[ag.o];rfl);clear az;have bj:wr.ownsRow 0 4 1 (U (J ⟨g,0,I⟩) N N) N ((Bd N (λx=>if x<j+1 then An (Bb L mn (t+1)) q.b i x else An (Bb L mn t) q.b i x)).map ϊ):=by
       rw[Cz (λx hx=>by
        by_cases e1:x=j
        ·subst e1;rw[if_neg (by omega),if_pos (by omega),ag.o,HX.o]
        by_cases e2:x<j
        ·rw[if_pos e2,if_pos (by omega)]
        rw[if_neg e2,if_neg (by omega)]:∀ x,x<N->(if x<j then An (Bb L mn (t+1)) q.b i x else An (Bb L mn t) q.b i x)=if x<j+1 then An (Bb L mn (t+1)) q.b i x else An (Bb L mn t) q.b i x)] at T
       exact T
      clear T;go_wp2;go_roundw
      case rel=>exact⟨j+1,ch,by omega,rfl,by go_num,ai,bj,aq,ak,an,Z ⟨λh=>by
       obtain⟨x,h1,h2⟩:=ar.o.1 h;exact⟨x,by omega,h2⟩,λh x hx=>by
       by_cases e1:x=j
       ·rw[e1,ag.o,HX.o]
       exact ar.o.2 h x (by omega)⟩⟩
      case measure=>simp[intOf];omega
   obtain rfl:N=j:=by omega
   have dy:wr.ownsRow 0 4 1 (U (J ⟨g,0,I⟩) N N) N ((Bh (Bb L mn (t+1)) q.b i).map ϊ):=by rw[Cz (λj hj=>by rw[if_pos hj]:∀ j,j<N->(if j<N then An (Bb L mn (t+1)) q.b i j else An (Bb L mn t) q.b i j)=An (Bb L mn (t+1)) q.b i j)] at T;unfold Bh;rw[G.o];exact T
   clear T;cases ch with
   | true=>
    have e5:ϟ (t+1<=Dy N (An (Bb L mn (t+1)) q.b i)):=Z (by
     obtain⟨x,h1,h2⟩:=ar.o.1 rfl;have h3:¬ stab L mn t q.b i:=λhs=>h2 (by have h4:=U5 hs (hi:=((mn+(t+1):Nat):Int)) (.inr (by omega)) x;exact F1 (by rw[hitB_true,hitB_true];exact h4))
     have h5:=VV h3;rw[G.o] at h5;exact Nat.lt_of_le_of_lt dt.o h5)
    go_wp2;go_roundw
    case rel=>exact⟨t+1,n3,f3,by omega,by go_num,ai,dy,du,ak,an,e5⟩
    simp[intOf];omega
   | false=>
    have au:stab L mn t q.b i:=GO (by rw[G.o];exact ar.o.2 rfl);have cy:ϟ (Bh (Bb L mn (t+1)) q.b i=Bh (rep L mn mx) q.b i):=Z (by rw[<-U4 au (mx:=mx) (by have:=cp.o;omega)];exact Cz (by rw[G.o];exact ar.o.2 rfl))
    clear au;go_wp2;go_ret;refine⟨g,n3,f3,by rw[G.o];rfl,by rw[bu.o];exact cg.o,?_,ai.o,by rw[c4.o];exact du.o,ak.o⟩;rw[G.o,HL.o,c6.o,c9.o,<-cy.o];exact dy
  obtain rfl:M=t:=by omega
  have cy:ϟ (Bh (Bb L mn M) q.b i=Bh (rep L mn mx) q.b i):=Z (by
   rcases cp.o with⟨h1,h2⟩|⟨h1,h2⟩
   ·refine U4 (GP ?_) (.inl h1);rw[G.o,<-h2];have:=dt.o;rw[<-h2] at this;exact this
   rw[show mx=((mn+M:Nat):Int) by omega])
  go_wp2;go_ret;refine⟨g,n2,f2,by rw[G.o];rfl,by rw[bu.o];exact cg.o,?_,HM.o,by rw[c4.o];exact HF.o,bg.o⟩;rw[G.o,HL.o,c6.o,c9.o,<-cy.o];exact hO
open Go
theorem UC {P:Þ} {o:ϳ} {a:ø} {w:Γ} (ty:ϡ) (x:Ñ) (E:o.op=.load ty x) (g:Nat) (hx:a.eval x=ε (J ⟨g,0,I⟩)) (t:ϡ) (cs:Array Δ) (fr:Nat × Nat) (d:TypeDesc) (hg:w.heap[g]? = J (Β cs t fr))
  (hu:P.underlying ty=J d) (hd:(match d with|.struct _|.array _ _=>Α|_=>Ε)=Α) (hi:(P.info? ty).map (·.size)=J cs.size):(ê a.eval o).run P w=.ok (.value (.agg cs)) w:=by
 unfold ê;simp only[E,hx,Instr.loadAt,Instr.sureAddr,Sem.run_bind,Sem.run_pure,Result.andThen_ok,run_loadVar_row w g t ty cs fr d hg hu hd hi]
inductive AV where
 | c (v:Δ)
 | r (R:Γ->Δ->Prop)
def AV.holds (x:AV) (W:Γ) (v:Δ):Prop:=match x with
 | .c u=>v=u
 | .r R=>R W v
def AV.val:AV->Δ
 | .c u=>u
 | .r _=>Ω
def AV.Mono (x:AV):Prop:=∀ W W' v,x.holds W v->Ext W W'->x.holds W' v
theorem AV.mono_c (v:Δ):(AV.c v).Mono:=λ_ _ _ h _=>h
def Fj (W:Γ):List AV->List Δ->Prop
 | [],[]=>True
 | x::xs,v::vs=>x.holds W v/\Fj W xs vs
 | _,_=>False
theorem L8 {W:Γ}:∀ {us vs:List Δ},Fj W (us.map AV.c) vs->vs=us
 | [],[],_=>rfl
 | [],_::_,h=>h.elim
 | _::_,[],h=>h.elim
 | u::us,v::vs,h=>by have h1:v=u:=h.1;rw[h1,L8 h.2]
inductive Sc (P:Þ) (w:Γ) where
 | pure
 | skip
 | skipu
 | keep
 | load (ty:ϡ) (g:Nat) (cs:Array Δ) (t:ϡ) (fr:Nat × Nat) (d:TypeDesc) (hg:∀ W,Ext w W->W.heap[g]? = J (Β cs t fr)) (hu:P.underlying ty=J d) (hd:(match d with|.struct _|.array _ _=>Α|_=>Ε)=Α) (hi:(P.info? ty).map (·.size)=J cs.size)
 | call (f:FuncId) (he:∀ args W,(callFunc f args).run P W=.ok (.enter f args) W) (args:List AV) (res:AV) (hm:res.Mono) (h:∀ W vs,Ext w W->Fj W args vs->ϛ P f vs.toArray W λe w'=>∃ v,e=Ψ v/\res.holds w' v/\Ext W w')
 | gen (op:Op) (args:List AV) (res:AV) (hm:res.Mono) (h:∀ (ρ:Ñ->Δ) (o:ϳ) W,o.op=op->Ext w W->Fj W args (op.operands.toList.map ρ)->∃ v,(ê ρ o).run P W=.ok (.value v) W/\res.holds W v)
def upd (E:Nat->AV) (d:Nat) (x:AV):Nat->AV:=λn=>if n=d then x else E n
def oev (E:Nat->AV):Ñ->AV
 | .tmp t=>E t
 | .const v=>.c v
 | .global g=>.c (ε (J ⟨g,0,I⟩))
 | .func f=>.c (.func (.func f) #[] #[])
section
variable {P:Program} {w:World}
def pvX:Result Next->Δ
 | .ok (.value v) _=>v
 | _=>Ω
def pv (P:Þ) (w:Γ) (E:Nat->AV) (o:ϳ):Δ:=pvX ((ê (λx=>(oev E x).val) o).run P w)
def Lp (E:Nat->AV):Op->AV
 | .move x=>oev E x
 | .assign x=>oev E x
 | _=>.c Ω
def Ji (P:Þ) (w:Γ) (E:Nat->AV) (o:ϳ):Sc P w->AV
 | .pure=>.c (pv P w E o)
 | .skip=>.c Ω
 | .skipu=>.c Ω
 | .keep=>Lp E o.op
 | .load _ _ cs _ _ _ _ _ _ _=>.c (.agg cs)
 | .call _ _ _ res _ _=>res
 | .gen _ _ res _ _=>res
def scE (P:Þ) (w:Γ):List ϳ->List (Sc P w)->(Nat->AV)->(Nat->AV)
 | o::l,s::G,E=>scE P w l G (match o.dst with|some d=>upd E d (Ji P w E o s)|none=>E)
 | _,_,E=>E
inductive XX where
 | av (a:AV)
 | res (r:Result Next)
 | ty (t:ϡ)
 | op (o:Op)
 | fn (f:FuncId)
 | no
def J8 (l:List ϳ) (k:Nat):Nat:=match l[k]? with
 | some o=>o.dst.getD 0
 | none=>0
def scL (l:List ϳ) (E:Nat->AV) (o:ϳ) (W:Γ) (s:Sc P w):List XX:=
 XX.av (E (o.dst.getD 0))::(match o.guard with|none=>[]|some (k,_)=>[XX.av (E (J8 l k))])++
 match s with
 | .pure=>XX.res ((ê (λx=>(oev E x).val) o).run P W)::o.op.operands.toList.map λx=>XX.av (oev E x)
 | .skip=>[]
 | .skipu=>[]
 | .keep=>match o.op with|.move x=>[XX.op (.move x)]|.assign x=>[XX.op (.move x)]|_=>[XX.no]
 | .load ty _ _ _ _ _ _ _ _ _=>match o.op with|.load t x=>[XX.ty t,XX.av (oev E x)]|_=>[XX.no]
 | .call f _ _ _ _ _=>match o.op with|.call c=>(match c.callee with|.value (.func f)=>XX.fn f::c.args.toList.map λx=>XX.av (oev E x)|_=>[XX.no])|_=>[XX.no]
 | .gen _ _ _ _ _=>XX.op o.op::o.op.operands.toList.map λx=>XX.av (oev E x)
def scR (l:List ϳ) (E:Nat->AV) (o:ϳ) (W:Γ) (s:Sc P w):List XX:=
 XX.av (Ji P w E o s)::(match o.guard with|none=>[]|some (_,b)=>[XX.av (.c (match s with|.skip=>.bool (!b)|.skipu=>Ω|_=>.bool b))])++
 match s with
 | .pure=>XX.res (.ok (.value (pv P w E o)) W)::o.op.operands.toList.map λx=>XX.av (.c (oev E x).val)
 | .skip=>(match o.guard with|none=>[XX.no]|some _=>[])
 | .skipu=>(match o.guard with|none=>[XX.no]|some _=>[])
 | .keep=>match o.op with|.move x=>[XX.op (.move x)]|.assign x=>[XX.op (.move x)]|_=>[]
 | .load ty g _ _ _ _ _ _ _ _=>[XX.ty ty,XX.av (.c (ε (J ⟨g,0,I⟩)))]
 | .call f _ args _ _ _=>XX.fn f::args.map XX.av
 | .gen op args _ _ _=>XX.op op::args.map XX.av
def Km (l:List ϳ) (E:Nat->AV) (W:Γ):List ϳ->List (Sc P w)->List (List XX)
 | o::os,s::G=>scL l E o W s::Km l E W os G
 | _,_=>[]
def Kl (l:List ϳ) (E:Nat->AV) (W:Γ):List ϳ->List (Sc P w)->List (List XX)
 | o::os,s::G=>scR l E o W s::Kl l E W os G
 | _,_=>[]
def Vk (l:List ϳ) (i:Nat) (t:Nat):Bool:=(π l.length).all λj=>match l[j]? with
 | none=>Ε
 | some oj=>if oj.dst=J t then ý .any l.toArray i j else Α
def Qv (l:List ϳ) (i:Nat) (o:ϳ):Bool:=
 (match o.op with|.select _ _=>Ε|_=>Α)&&o.dst.isSome&&(o.op.operands.toList.all λx=>match x with|.tmp t=>Vk l i t|_=>Α)&&
 (match o.guard with|none=>Α|some (k,_)=>(match l[k]? with|some ok=>ok.dst.isSome|none=>Ε)&&ý .any l.toArray i k)
def scB (l:List ϳ) (sz:Nat):Bool:=Jm l.toArray sz&&(π l.length).all λi=>match l[i]? with
 | none=>Ε
 | some o=>Qv l i o
def ROp (P:Þ) (ops:Array ϳ) (Q:Exit->ø->Γ->Prop) (F:Nat->Δ->Γ->Prop) (a0:ø) (w1:Γ) (i:Nat):Prop:=
 ∀ o,ops[i]? = J o->∀ a w,Ext w1 w->(∀ j oj,ops[j]? = J oj->ý .any ops i j=Α->F j (C2 oj a) w)->(∀ e,(∀ (j:Nat) (oj:ϳ),ops[j]? = J oj->oj.dst≠J e)->a.tmps.getD e Ω=a0.tmps.getD e Ω)->(ϧ o (ü ops a.tmps)=Α/\o.wp P a w (λE w'=>∃ v,(o.dst=I->v=Ω)/\E=a.put o.dst v/\Ext w w'/\F i v w') Q)\/(ϧ o (ü ops a.tmps)=Ε/\F i Ω w)
structure RegI (ops:Array ϳ) (F:Nat->Δ->Γ->Prop) (a0:ø) (w1:Γ) (listed:Nat->Bool) (a:ø) (w:Γ):Prop where
 ext:Ext w1 w
 defers:a.defers=a0.defers
 size:a.tmps.size=a0.tmps.size
 done:∀ i o,ops[i]? = J o->listed i=Α->F i (C2 o a) w
 rest:∀ d,(∀ i o,ops[i]? = J o->listed i=Α->o.dst≠J d)->a.tmps.getD d Ω=a0.tmps.getD d Ω
theorem Ni {ops:Array ϳ} {F:Nat->Δ->Γ->Prop} (hF:∀ i v w w',F i v w->Ext w w'->F i v w') {a0:ø} {w1:Γ} {sz:Nat} (ad:a0.tmps.size=sz) (hd:Fo ops sz=Α) {listed:Nat->Bool} {a:ø} {w w':Γ} (E:RegI ops F a0 w1 listed a w)
  {i:Nat} {o:ϳ} (T:ops[i]? = J o) {v:Δ} (ae:o.dst=I->v=Ω) (X:Ext w w') (hv:F i v w'):RegI ops F a0 w1 (λj=>decide (j=i)||listed j) (a.put o.dst v) w':=by
 have has:a.tmps.size=sz:=by rw[E.size,ad]
 refine⟨E.ext.trans X,by rw[(Jl a o.dst v).2];exact E.defers,by rw[(Jl a o.dst v).1];exact E.size,λj oj H G=>?_,λe he=>?_⟩
 ·rw[M4 hd T has ae H];by_cases e:j=i
  ·rw[if_pos e,e];exact hv
  rw[if_neg e];have G:listed j=Α:=by simpa [e] using G
  exact hF _ _ _ _ (E.done j oj H G) X
 have h1:(a.put o.dst v).tmps.getD e Ω=a.tmps.getD e Ω:=by
  cases aa:o.dst with
  | none=>rfl
  | some d=>rw[D6 _ _ _ _ (by rw[has];exact (Iy hd i o T d aa).1),if_neg];exact λh=>he i o T (by simp) (by rw[aa,h])
 rw[h1];exact E.rest e λj oj H G=>he j oj H (by simp[G])
theorem RegI.congr {ops:Array ϳ} {F:Nat->Δ->Γ->Prop} {a0:ø} {w1:Γ} {l T:Nat->Bool} {a:ø} {w:Γ} (E:RegI ops F a0 w1 l a w) (h:∀ j,j<ops.size->l j=T j):RegI ops F a0 w1 T a w where
 ext:=E.ext
 defers:=E.defers
 size:=E.size
 done:=λi o G H=>E.done i o G (by rw[h i (ϝ.1 G).1];exact H)
 rest:=λd hd=>E.rest d λi o G H=>hd i o G (by rw[<-h i (ϝ.1 G).1];exact H)
theorem Ul {ops:Array ϳ} {i j:Nat} {o:ϳ} (E:ops[i]? = J o) (h:ý .any ops i j=Α):∃ e∈o.after,Region.binds .any e=Α/\e.on=j:=by obtain⟨oi,G,e,he,hb,H⟩:=Region.waitsFor_spec h;obtain rfl:oi=o:=ό (G.symm.trans E);exact⟨e,he,hb,H⟩
theorem JR {ops:Array ϳ} {Q:Exit->ø->Γ->Prop} {F:Nat->Δ->Γ->Prop} (hF:∀ i v w w',F i v w->Ext w w'->F i v w') {a0:ø} {w1:Γ} {sz:Nat} (ae:a0.tmps.size=sz) (hd:Fo ops sz=Α) {listed:Array Bool} (ag:listed.size=ops.size) {a:ø} {w:Γ} (G:RegI ops F a0 w1 (λj=>listed.getD j Ε) a w)
  {i:Nat} (hi:i∈Region.ready .any ops listed) (H:ROp P ops Q F a0 w1 i):wpOp P ops Q i (λT w'=>RegI ops F a0 w1 (λj=>(listed.setIfInBounds i Α).getD j Ε) T w') a w:=by
 obtain⟨aq,o,E,ah⟩:=mem_ready.1 hi;have ai:=(ϝ.1 E).1;have af:∀ {T w'},RegI ops F a0 w1 (λj=>decide (j=i)||listed.getD j Ε) T w'->RegI ops F a0 w1 (λj=>(listed.setIfInBounds i Α).getD j Ε) T w':=λh=>h.congr λj hj=>by
  by_cases e:i=j
  ·subst e;simp[ag▸ai]
  rw[getD_set_ne Ε e];simp[Ne.symm e]
 have:=H o E a w G.ext (λj oj aa X=>by obtain⟨e,he,hb,aj⟩:=Ul E X;exact G.done j oj aa (by rw[<-aj];exact ah e he hb)) (λe he=>G.rest e λj oj aa _=>he j oj aa)
 unfold wpOp;rw[E];rcases this with⟨X,ak⟩|⟨X,hv⟩
 ·simp only[X,if_true];refine .inl (ϳ.wp_mono (λT w' h=>?_) ak);obtain⟨v,an,rfl,hE,hv⟩:=h;exact af (Ni hF ae hd G E an hE hv)
 simp only[X];exact af (Ni hF ae hd G E (λ_=>rfl) (Κ w) hv)
theorem V1 {ops:Array ϳ} {Q:Exit->ø->Γ->Prop} {F:Nat->Δ->Γ->Prop} (hF:∀ i v w w',F i v w->Ext w w'->F i v w') {a0:ø} {w1:Γ} {sz:Nat} (ab:a0.tmps.size=sz) (hd:Fo ops sz=Α) (hE:Fn ops ops.size=Α)
  (ae:∀ i,i<ops.size->ROp P ops Q F a0 w1 i) (af:∀ a w,RegI ops F a0 w1 (λ_=>Α) a w->Q .normal a w) :
  ∀ (f:Nat) (listed:Array Bool) (a:ø) (w:Γ),listed.size=ops.size->RegI ops F a0 w1 (λj=>listed.getD j Ε) a w->unl ops.size listed=f->wpAny P .any ops Q f listed a w
 | 0,listed,a,w,E,T,hu=>by
  have ag:=Ib _ listed hu;refine⟨?_,af a w (T.congr λj hj=>ag j hj)⟩;refine List.eq_nil_iff_forall_not_mem.2 λi hi=>?_
  obtain⟨G,o,X,_⟩:=mem_ready.1 hi;have an:=(ϝ.1 X).1;have:=ag i an;have H:i<listed.size:=by omega
  rw[ϕ,Ϛ H] at G this;rw[ϱ] at G this;rw[this] at G;cases G
 | f+1,listed,a,w,E,T,hu=>by
  obtain⟨k,hk,aq,ar⟩:=J0 ops.size listed (by omega);have ah:=L3 hE E (Υ _) k hk ar aq;refine⟨λh0=>(by rw[h0] at ah;cases ah),λi hi=>?_⟩;obtain⟨ai,o,X,_⟩:=mem_ready.1 hi;have aj:=(ϝ.1 X).1;have H:i<listed.size:=by omega
  have au:listed.getD i Ε=Ε:=by rw[ϕ,Ϛ H] at ai ⊢;exact ai
  refine wpOp_mono (λa' w' h=>V1 hF ab hd hE ae af f _ a' w' (by rw[Array.size_setIfInBounds];exact E) h ?_) (JR hF ab hd E T hi (ae i aj));have:=I9 _ listed i aj H au;show unl ops.size (listed.setIfInBounds i Α)=f;omega
theorem V0 {ops:Array ϳ} {Q:Exit->ø->Γ->Prop} {F:Nat->Δ->Γ->Prop} (X:∀ i v w w',F i v w->Ext w w'->F i v w') {a0:ø} {w1:Γ} {sz:Nat} (aa:a0.tmps.size=sz) (hd:Fo ops sz=Α) (hE:Fn ops ops.size=Α)
  (ai:∀ i,i<ops.size->ROp P ops Q F a0 w1 i) (aj:∀ a w,RegI ops F a0 w1 (λ_=>Α) a w->Q .normal a w) :
  ∀ (l:List ϳ) (k:Nat) (a:ø) (w:Γ),(∀ j,l[j]? = ops[k+j]?)->RegI ops F a0 w1 (λj=>decide (j<k)) a w->wpList P ops Q l a w
 | [],k,a,w,T,E=>aj a w (E.congr λj hj=>by
   have:ops[k]? = I:=by simpa using (T 0).symm
   have:=Array.getElem?_eq_none_iff.1 this;simp;omega)
 | o::l,k,a,w,T,E=>by
  have G:ops[k]? = J o:=by simpa using (T 0).symm
  have hk:=(ϝ.1 G).1;have an:∀ {a' w'},RegI ops F a0 w1 (λj=>decide (j=k)||decide (j<k)) a' w'->wpList P ops Q l a' w':=λh=>V0 X aa hd hE ai aj l (k+1) _ _ (λj=>by have:=T (j+1);simpa [Nat.add_assoc,Nat.add_comm 1 j] using this) (h.congr λj _=>by rw[Bool.eq_iff_iff];simp only[Û,decide_eq_true_eq];omega)
  have:=ai k hk o G a w E.ext (λj oj ad H=>E.done j oj ad (by obtain⟨e,he,hb,ax⟩:=Ul G H;have h2:=hE;unfold Fn at h2;rw[Í] at h2;have h3:=h2 k (ϔ.2 hk);rw[G] at h3;simp only[Array.all_eq_true'] at h3;have h4:=h3 e he;simp only[hb,Bool.not_true,Bool.false_or,decide_eq_true_eq] at h4;simp;omega)) (λe he=>E.rest e λj oj ad _=>he j oj ad)
  show if _ then _ else _
  rcases this with⟨H,aq⟩|⟨H,hv⟩
  ·rw[if_pos H];refine .inl (ϳ.wp_mono (λa' w' h=>?_) aq);obtain⟨v,ar,rfl,au,hv⟩:=h;exact an (Ni X aa hd E G ar au hv)
  rw[if_neg (by rw[H];exact Bool.false_ne_true)];exact an (Ni X aa hd E G (λ_=>rfl) (Κ w) hv)
theorem Q7 {α:Type} {l:List α} {i:Nat} {x:α} (h:l.toArray[i]? = J x):l[i]? = J x:=by simpa using h
theorem T3 {l:List ϳ} {E:Nat->AV} {W:Γ}:∀ (os:List ϳ) (G:List (Sc P w)) (i:Nat) (o:ϳ),Km l E W os G=Kl l E W os G->os.length=G.length->os[i]? = J o->∃ s,G[i]? = J s/\scL l E o W s=scR l E o W s
 | [],_,i,o,_,_,h=>by simp at h
 | o'::os,[],i,o,_,H,_=>by simp at H
 | o'::os,s::G,0,o,h,_,T=>by
  obtain rfl:o'=o:=by simpa using T
  exact⟨s,by simp,(List.cons.inj h).1⟩
 | o'::os,s::G,i+1,o,h,H,T=>by obtain⟨s',h1,X⟩:=T3 os G i o (List.cons.inj h).2 (by simpa using H) (by simpa using T);exact⟨s',by simpa using h1,X⟩
theorem M0:∀ {xs ys:List AV},xs.map XX.av=ys.map XX.av->xs=ys
 | [],[],_=>rfl
 | [],_::_,h=>by cases h
 | _::_,[],h=>by cases h
 | x::xs,y::ys,h=>by simp only[List.map_cons,ì,XX.av.injEq] at h;rw[h.1,M0 h.2]
theorem Rt {W:Γ} {E:Nat->AV} {ρ:Ñ->Δ}:∀ (xs:List Ñ),(∀ x∈xs,(oev E x).holds W (ρ x))->Fj W (xs.map (oev E)) (xs.map ρ)
 | [],_=>trivial
 | x::xs,h=>⟨h x Ð,Rt xs λy G=>h y (ò _ G)⟩
theorem JG {l:List ϳ} {Q:Exit->ø->Γ->Prop} {E:Nat->AV} {a0:ø} {sz:Nat} (hB:scB l sz=Α) {i:Nat} {o:ϳ} (ho:l[i]? = J o) {s:Sc P w}
  (hs:∀ W,scL l E o W s=scR l E o W s) (h0:∀ e,(∀ (j:Nat) (oj:ϳ),l[j]? = J oj->oj.dst≠J e)->E e=.c (a0.tmps.getD e Ω)) :
  ROp P l.toArray Q (λi v W=>match l[i]? with|some o=>(E (o.dst.getD 0)).holds W v|none=>True) a0 w i:=by
 intro o' bk a W hE bl bm;obtain rfl:o=o':=ό (ho.symm.trans (Q7 bk));simp only[scB,ψ,Í,ϔ] at hB;have bn:i<l.length:=(ο.1 ho).1;have G:=hB.2 i bn;rw[ho] at G;simp only[Qv,ψ] at G;obtain⟨⟨⟨ba,bo⟩,bp⟩,T⟩:=G;have bq:∀ cs b,o.op≠.select cs b:=λcs b e=>by rw[e] at ba;cases ba
 obtain⟨d,hd⟩:=Option.isSome_iff_exists.1 bo;have ax:∀ (j:Nat) (oj:ϳ) (dj:Nat),l[j]? = J oj->oj.dst=J dj->ý .any l.toArray i j=Α->(E dj).holds W (a.tmps.getD dj Ω):=λj oj dj ab aj hw=>by have:=bl j oj (by simpa using ab) hw;simp only[ab] at this;unfold C2 at this;rw[aj] at this;exact this
 have hx:∀ x∈o.op.operands,(oev E x).holds W (a.eval x):=λx hx=>by
  have X:=(Í.1 bp) x (by simpa using hx);cases x with
  | const v=>rfl
  | global g=>rfl
  | func f=>rfl
  | tmp t=>
   simp only[Vk,Í,ϔ] at X;by_cases bb:∃ (j:Nat) (oj:ϳ),l[j]? = J oj/\oj.dst=J t
   ·obtain⟨j,oj,ab,aj⟩:=bb;have:=X j (ο.1 ab).1;rw[ab] at this;simp only[aj,if_true] at this;exact ax j oj t ab aj this
   have bc:∀ (j:Nat) (oj:ϳ),l[j]? = J oj->oj.dst≠J t:=λj oj ab aj=>bb ⟨j,oj,ab,aj⟩
   show (E t).holds W (a.tmps.getD t Ω);rw[h0 t bc,bm t λj oj ab=>bc j oj (Q7 ab)];rfl
 have bd:=hs W;have bu:E d=Ji P w E o s:=by have:=(List.cons.inj bd).1;rw[hd] at this;exact XX.av.inj this
 have hF:∀ v W',(match l[i]? with|some o=>(E (o.dst.getD 0)).holds W' v|none=>True)=(Ji P w E o s).holds W' v:=λv W'=>by rw[ho];show (E (o.dst.getD 0)).holds W' v=_;rw[hd];show (E d).holds W' v=_;rw[bu]
 have bw:=(List.cons.inj bd).2;have bz:∀ (k:Nat) (b x:Bool),o.guard=J (k,b)->E (J8 l k)=.c (.bool x)->ü l.toArray a.tmps k=J x:=λk b x hg he=>by
  rw[hg] at T;simp only[ψ] at T;cases aa:l[k]? with
  | none=>rw[aa] at T;exact absurd T.1 (by simp)
  | some ok=>
   rw[aa] at T;obtain⟨dk,ah⟩:=Option.isSome_iff_exists.1 T.1;have h1:=ax k ok dk aa ah T.2;have h2:J8 l k=dk:=by simp[J8,aa,ah]
   rw[h2] at he;rw[he] at h1;have h3:a.tmps.getD dk Ω=.bool x:=h1;have h4:a.tmps[dk]? = J (.bool x):=by
    rw[ϕ] at h3;cases hh:a.tmps[dk]? with
    | none=>rw[hh] at h3;cases h3
    | some u=>rw[hh] at h3;exact congrArg J h3
   unfold ü;have h5:l.toArray[k]? = J ok:=by simpa using aa
   rw[h5];simp only[ó,ah,h4]
 have ak:∀ b,(∀ k b',o.guard=J (k,b')->ü l.toArray a.tmps k=J (if b then b' else !b'))->(b=Ε->o.guard≠I)->ϧ o (ü l.toArray a.tmps)=b:=λb h1 h2=>by
  unfold ϧ;cases hg:o.guard with
  | none=>cases b with
   | false=>exact absurd hg (h2 rfl)
   | true=>rfl
  | some p=>obtain⟨k,b'⟩:=p;simp only[h1 k b' hg];cases b<;>cases b'<;>rfl
 obtain⟨hG,H⟩:=List.append_inj bw (by cases o.guard<;>rfl);have an:∀ b':Bool,(match s with|.skip=>J Ε|.skipu=>I|_=>J Α)=J b'->∀ k b,o.guard=J (k,b)->ü l.toArray a.tmps k=J (if b' then b else !b):=λb' be k b hg=>by rw[hg] at hG;simp only[ì,XX.av.injEq,and_true] at hG;refine bz k b _ hg (hG.trans ?_);cases s<;>first|(cases be;rfl)|(cases be)
 have ao:∀ v:Δ,o.dst=I->v=Ω:=λv h=>by rw[hd] at h;cases h
 have hρ:(∀ x∈o.op.operands,oev E x=.c (oev E x).val)->ê a.eval o=ê (λx=>(oev E x).val) o:=λh=>execOp_congr o bq λx X=>by have:=hx x X;rw[h x X] at this;exact this
 cases s with
 | skip=>
  refine .inr ⟨ak Ε (an Ε rfl) (λ_ hg=>?_),?_⟩
  ·rw[hg] at H;exact absurd H (by simp)
  simp only[hF];rfl
 | skipu=>
  cases hg:o.guard with
  | none=>rw[hg] at H;exact absurd H (by simp)
  | some p=>
   obtain⟨k,b⟩:=p;rw[hg] at hG T;simp only[ì,XX.av.injEq,and_true] at hG;simp only[ψ] at T;have hy:ü l.toArray a.tmps k=I:=by
    cases aa:l[k]? with
    | none=>rw[aa] at T;exact absurd T.1 (by simp)
    | some ok=>
     rw[aa] at T;obtain⟨dk,ah⟩:=Option.isSome_iff_exists.1 T.1;have h1:=ax k ok dk aa ah T.2;have h2:J8 l k=dk:=by simp[J8,aa,ah]
     rw[h2] at hG;rw[hG] at h1;have h3:a.tmps.getD dk Ω=Ω:=h1;unfold ü;have h5:l.toArray[k]? = J ok:=by simpa using aa
     rw[h5];simp only[ó,ah];rw[ϕ] at h3;cases hh:a.tmps[dk]? with
     | none=>rfl
     | some u=>rw[hh] at h3;have h4:u=Ω:=h3;rw[h4];rfl
   refine .inr ⟨?_,?_⟩
   ·unfold ϧ;simp only[hg,hy];rfl
   simp only[hF];rfl
 | pure=>
  refine .inl ⟨ak Α (an Α rfl) (λh=>by cases h),?_⟩;obtain⟨hr,a1⟩:=List.cons.inj H;have hr:=XX.res.inj hr;have b5:∀ x∈o.op.operands,oev E x=.c (oev E x).val:=λx X=>by
   have e:(o.op.operands.toList.map (oev E)).map XX.av=(o.op.operands.toList.map λx=>AV.c (oev E x).val).map XX.av:=by rw[List.map_map,List.map_map];exact a1
   exact List.map_inj_left.1 (M0 e) x (by simpa using X)
  refine Cr (v:=pv P w E o) (w':=W) (by rw[hρ b5];exact hr) ?_;exact⟨_,ao _,rfl,Κ W,by simp only[hF];rfl⟩
 | keep=>
  refine .inl ⟨ak Α (an Α rfl) (λh=>by cases h),?_⟩;cases G:o.op with
  | move x=>refine Cr (v:=a.eval x) (w':=W) (BigFrame.run_move x G W) ⟨_,ao _,rfl,Κ W,?_⟩;simp only[hF,Ji,Lp,G];exact hx x (by rw[G];simp[Op.operands])
  | assign x=>refine Cr (v:=a.eval x) (w':=W) (BigFrame.run_assign x G W) ⟨_,ao _,rfl,Κ W,?_⟩;simp only[hF,Ji,Lp,G];exact hx x (by rw[G];simp[Op.operands])
  | _=>simp[G] at H
 | load ty g cs t fr dd hg hu b7 hi=>
  refine .inl ⟨ak Α (an Α rfl) (λh=>by cases h),?_⟩;have H:(match o.op with|.load t x=>[XX.ty t,XX.av (oev E x)]|_=>[XX.no])=[XX.ty ty,XX.av (.c (ε (J ⟨g,0,I⟩)))]:=H;cases G:o.op with
  | load t' x=>simp only[G,ì,XX.ty.injEq,XX.av.injEq,and_true] at H;obtain⟨rfl,a6⟩:=H;have bf:=hx x (by rw[G];simp[Op.operands]);rw[a6] at bf;refine Cr (v:=.agg cs) (w':=W) (UC t' x G g bf t cs fr dd (hg W hE) hu b7 hi) ⟨_,ao _,rfl,Κ W,?_⟩;simp only[hF];rfl
  | _=>simp[G] at H
 | call f he args res hm h=>
  refine .inl ⟨ak Α (an Α rfl) (λh=>by cases h),?_⟩;have H:(match o.op with|.call c=>(match c.callee with|.value (.func f)=>XX.fn f::c.args.toList.map λx=>XX.av (oev E x)|_=>[XX.no])|_=>[XX.no])=XX.fn f::args.map XX.av:=H;cases G:o.op with
  | call c=>
   simp only[G] at H;cases hc:c.callee with
   | value fx=>
    cases fx with
    | func f'=>
     simp only[hc,ì,XX.fn.injEq] at H;obtain⟨rfl,a6⟩:=H;have e:(c.args.toList.map (oev E)).map XX.av=args.map XX.av:=by rw[List.map_map];exact a6
     have ca:=M0 e;have hh:Fj W args (c.args.toList.map a.eval):=by rw[<-ca];exact Rt _ λx X=>hx x (by rw[G];simp[Op.operands,Call.operands,hc];exact .inr (by simpa using X))
     have hC:=h W _ hE hh;have cc:(ê a.eval o).run P W=.ok (.enter f' (c.args.toList.map a.eval).toArray) W:=by
      have e1:ê a.eval o=callFunc f' (c.args.toList.map a.eval).toArray:=by
       obtain⟨cn,op,cp,pos,cq,guard⟩:=o;simp only at G;subst G;obtain⟨ct,cu,cv⟩:=c;simp only at hc;subst hc;rw[execOp_call_go]
       congr 1
       apply Array.toList_inj.1;simp
      rw[e1];exact he _ W
     unfold ϳ.wp;rw[cc,ϳ.upon_enter];refine hC.mono λe W' ⟨v,cf,hv,cg⟩=>?_
     subst cf;exact⟨v,ao _,rfl,cg,by simp only[hF];exact hv⟩
    | _=>simp[hc] at H
   | _=>simp[hc] at H
  | _=>simp[G] at H
 | gen op args res hm h=>
  refine .inl ⟨ak Α (an Α rfl) (λh=>by cases h),?_⟩;obtain⟨G,a1⟩:=List.cons.inj H;have G:=XX.op.inj G;have e:(o.op.operands.toList.map (oev E)).map XX.av=args.map XX.av:=by rw[List.map_map];exact a1
  have hh:Fj W args (op.operands.toList.map a.eval):=by rw[<-M0 e,<-G];exact Rt _ λx X=>hx x (by simpa using X)
  obtain⟨v,hr,hv⟩:=h a.eval o W G hE hh;exact Cr hr ⟨v,ao _,rfl,Κ W,by simp only[hF];exact hv⟩
theorem Vs:∀ (l:List ϳ) (G:List (Sc P w)) (E:Nat->AV),(∀ e,(E e).Mono)->∀ e,(scE P w l G E e).Mono
 | [],_,E,h,e=>by unfold scE;exact h e
 | _::_,[],E,h,e=>by unfold scE;exact h e
 | o::l,s::G,E,h,e=>by
  have T:∀ x,(oev E x).Mono:=λx=>by
   cases x with
   | tmp t=>exact h t
   | _=>exact AV.mono_c _
  unfold scE;refine Vs l G _ (λH=>?_) e;cases o.dst with
  | none=>exact h H
  | some d=>
   show (upd E d _ H).Mono;unfold upd;split
   ·cases s with
    | keep=>
     show (Lp E o.op).Mono;unfold Lp;split
     ·exact T _
     ·exact T _
     exact AV.mono_c _
    | call f he args res hm X=>exact hm
    | gen op args res hm X=>exact hm
    | _=>exact AV.mono_c _
   exact h H
theorem P7:∀ (l:List ϳ) (G:List (Sc P w)) (E:Nat->AV) (e:Nat),(∀ (j:Nat) (oj:ϳ),l[j]? = J oj->oj.dst≠J e)->scE P w l G E e=E e
 | [],_,E,e,_=>by unfold scE;rfl
 | _::_,[],E,e,_=>by unfold scE;rfl
 | o::l,s::G,E,e,h=>by
  unfold scE;rw[P7 l G _ e λj oj H=>h (j+1) oj (by simpa using H)];cases hd:o.dst with
  | none=>rfl
  | some d=>show upd E d _ e=E e;unfold upd;rw[if_neg λhe=>h 0 o rfl (by rw[hd,he])]
def ev0 (a:ø):Nat->AV:=λn=>.c (a.tmps.getD n Ω)
theorem Ua {id:Nat} {l:List ϳ} {Q:Exit->ø->Γ->Prop} {a0:ø} (sz:Nat) (dr:Bool) (G:List (Sc P w)) (hm:dr=Α->P.follows .mixedOrders=Α) (hB:scB l sz=Α) (af:a0.tmps.size=sz) (T:l.length=G.length)
  (hs:∀ W,Km l (scE P w l G (ev0 a0)) W l G=Kl l (scE P w l G (ev0 a0)) W l G)
  (an:∀ a' W,Ext w W->a'.defers=a0.defers->a'.tmps.size=sz->(∀ e,(scE P w l G (ev0 a0) e).holds W (a'.tmps.getD e Ω))->Q .normal a' W):(Code.region id l.toArray dr).wp P Q a0 w:=by
 have aa:Jm l.toArray sz=Α:=by have:=hB;simp only[scB,ψ] at this;exact this.1
 simp only[Jm,ψ] at aa;obtain⟨E,hE⟩:=Xq (scE P w l G (ev0 a0));have ay:∀ e,(E e).Mono:=λe=>by rw[<-hE];exact Vs l G _ (λe=>AV.mono_c _) e
 have h0:∀ e,(∀ (j:Nat) (oj:ϳ),l[j]? = J oj->oj.dst≠J e)->E e=.c (a0.tmps.getD e Ω):=λe he=>by rw[<-hE];exact P7 l G _ e he
 rw[hE] at hs an;have hF:∀ (i:Nat) v W W',(match l[i]? with|some o=>(E (o.dst.getD 0)).holds W v|none=>True)->Ext W W'->(match l[i]? with|some o=>(E (o.dst.getD 0)).holds W' v|none=>True):=λi v W W' h hx=>by
  cases T:l[i]? with
  | none=>trivial
  | some o=>rw[T] at h;exact ay _ W W' v h hx
 have aq:∀ i,i<l.toArray.size->ROp P l.toArray Q (λi v W=>match l[i]? with|some o=>(E (o.dst.getD 0)).holds W v|none=>True) a0 w i:=λi hi=>by
  have ho:l[i]? = J (l[i]'(by simpa using hi)):=Ι _;have:∃ s,G[i]? = J s/\∀ W,scL l E (l[i]'(by simpa using hi)) W s=scR l E (l[i]'(by simpa using hi)) W s:=by obtain⟨s,h1,_⟩:=T3 l G i _ (hs w) T ho;refine⟨s,h1,λW=>?_⟩;obtain⟨s',ar,h2⟩:=T3 l G i _ (hs W) T ho;rw[h1] at ar;rw[ό ar];exact h2
  obtain⟨s,_,h2⟩:=this;exact JG hB ho h2 h0
 have au:∀ a W,RegI l.toArray (λi v W=>match l[i]? with|some o=>(E (o.dst.getD 0)).holds W v|none=>True) a0 w (λ_=>Α) a W->Q .normal a W:=λa W H=>by
  refine an a W H.ext H.defers (H.size.trans af) λe=>?_
  by_cases aw:∃ (j:Nat) (oj:ϳ),l[j]? = J oj/\oj.dst=J e
  ·obtain⟨j,oj,X,aj⟩:=aw;have:=H.done j oj (by simpa using X) rfl;rw[X] at this;simp only[aj,C2] at this;exact this
  have ax:∀ (j:Nat) (oj:ϳ),l[j]? = J oj->oj.dst≠J e:=λj oj X aj=>aw ⟨j,oj,X,aj⟩
  rw[h0 e ax,H.rest e λj oj X _=>ax j oj (Q7 X)];rfl
 cases dr with
 | false=>exact wp_region_lit (V0 hF af aa.1 aa.2 aq au l 0 a0 w (λj=>by simp) ⟨Κ w,rfl,rfl,λi o _ h=>by simp at h,λd _=>rfl⟩)
 | true=>
  have az:∀ i,i<l.toArray.size->ROp P l.toArray Q (λi v W=>match l[i]? with|some o=>(E (o.dst.getD 0)).holds W v|none=>True) a0 w.drew i:=λi hi o ho a W hx=>aq i hi o ho a W ((Κ w).drew.t hx)
  refine wp_region_any (hm rfl) (V1 hF af aa.1 aa.2 az (λa W H=>au a W ⟨(Κ w).drew.t H.ext,H.defers,H.size,H.done,H.rest⟩) _ _ a0 w.drew (by simp) ⟨Κ _,rfl,rfl,λi o _ T=>(by rw[Ϡ] at T;cases T),λd _=>rfl⟩ ?_);have hu:∀ m,unl m (Array.replicate l.toArray.size Ε)=m:=λm=>by
   induction m with
   | zero=>rfl
   | succ m ih=>rw[Fq,ih,Ϡ];simp
  exact hu _
theorem EJ {id:Nat} {l:List ϳ} {Q:Exit->ø->Γ->Prop} {a0:ø} (sz:Nat) (H:Bool) (t:Nat) (v:Δ) (E:List (Sc P w)) (hm:H=Α->P.follows .mixedOrders=Α) (T:scB l sz=Α) (X:a0.tmps.size=sz) (hl:l.length=E.length)
  (hs:∀ W,Km l (scE P w l E (ev0 a0)) W l E=Kl l (scE P w l E (ev0 a0)) W l E) (hv:scE P w l E (ev0 a0) t=.c v)
  (ae:∀ G W,Ext w W->G.defers=a0.defers->G.tmps.getD t Ω=v->Q .normal G W):(Code.region id l.toArray H).wp P Q a0 w:=
 Ua sz H E hm T X hl hs λG W h1 h2 _ h4=>ae G W h1 h2 (by have:=h4 t;rw[hv] at this;exact this)
def C4:List ϳ->List Δ->ø->ø
 | o::l,v::vs,a=>C4 l vs (a.put o.dst v)
 | _,_,a=>a
theorem Qg:∀ (l:List ϳ) (vs:List Δ) (a:ø),(C4 l vs a).tmps.size=a.tmps.size/\(C4 l vs a).defers=a.defers
 | [],_,a=>by unfold C4;exact⟨rfl,rfl⟩
 | _::_,[],a=>by unfold C4;exact⟨rfl,rfl⟩
 | o::l,v::vs,a=>by unfold C4;rw[(Qg l vs _).1,(Qg l vs _).2];exact Jl a o.dst v
theorem Wm (e:Nat):∀ (l:List ϳ) (vs:List Δ) (a:ø),(∀ o∈l,∃ d,o.dst=J d/\d<a.tmps.size)->l.length=vs.length->(C4 l vs a).tmps.getD e Ω=a.tmps.getD e Ω/\(∀ o∈l,o.dst≠J e)\/∃ (i:Nat) (o:ϳ) (v:Δ),l[i]? = J o/\vs[i]? = J v/\o.dst=J e/\(C4 l vs a).tmps.getD e Ω=v
 | [],_,a,_,_=>by unfold C4;exact .inl ⟨rfl,λo h=>by simp at h⟩
 | _::_,[],a,_,h=>by simp at h
 | o::l,v::vs,a,h,X=>by
  obtain⟨d,hd,T⟩:=h o Ð;have ih:=Wm e l vs (a.put o.dst v) (λE G=>by rw[(Jl a o.dst v).1];exact h E (ò _ G)) (by simpa using X);unfold C4;rcases ih with⟨h1,H⟩|⟨i,E,v',h1,H,h3,h4⟩
  ·by_cases he:e=d
   ·subst he;refine .inr ⟨0,o,v,rfl,rfl,hd,?_⟩;rw[h1,hd,D6 _ _ _ _ T,if_pos rfl]
   refine .inl ⟨?_,λE G=>?_⟩
   ·rw[h1,hd,D6 _ _ _ _ T,if_neg he]
   rcases List.mem_cons.1 G with rfl|G
   ·rw[hd];exact λh=>he (ό h).symm
   exact H E G
  exact .inr ⟨i+1,E,v',by simpa using h1,by simpa using H,h3,h4⟩
theorem EF {id:Nat} {l:List ϳ} {Q:Exit->ø->Γ->Prop} {a0:ø} (sz:Nat) (H:Bool) (T:List AV) (E:List (Sc P w)) (hm:H=Α->P.follows .mixedOrders=Α) (hB:scB l sz=Α) (X:a0.tmps.size=sz) (hl:l.length=E.length)
  (hs:∀ W,Km l (scE P w l E (ev0 a0)) W l E=Kl l (scE P w l E (ev0 a0)) W l E) (hv:(l.map λo=>scE P w l E (ev0 a0) (o.dst.getD 0))=T)
  (aq:∀ W vs,Ext w W->Fj W T vs->Q .normal (C4 l vs a0) W):(Code.region id l.toArray H).wp P Q a0 w:=by
 refine Ua sz H E hm hB X hl hs λG W h1 h2 h3 h4=>?_
 obtain⟨vs,aa⟩:=Xq ((l.map λo=>G.tmps.getD (o.dst.getD 0) Ω));have aw:l.length=vs.length:=by simpa using congrArg List.length aa
 have hh:Fj W T vs:=by
  rw[<-hv,<-aa];have:∀ k:List ϳ,Fj W (k.map λo=>scE P w l E (ev0 a0) (o.dst.getD 0)) (k.map λo=>G.tmps.getD (o.dst.getD 0) Ω):=λk=>by
   induction k with
   | nil=>trivial
   | cons o k ih=>exact⟨h4 _,ih⟩
  exact this l
 have ab:=hB;simp only[scB,Jm,ψ,Í,ϔ] at ab;have az:∀ o∈l,∃ d,o.dst=J d/\d<a0.tmps.size:=λo ho=>by obtain⟨i,hi,rfl⟩:=List.getElem_of_mem ho;have h5:=ab.2 i hi;rw[Ι hi] at h5;simp only[Qv,ψ] at h5;obtain⟨d,hd⟩:=Option.isSome_iff_exists.1 h5.1.1.2;refine⟨d,hd,?_⟩;rw[X];exact (Iy ab.1.1 i l[i] (by simp) d hd).1
 have he:G=C4 l vs a0:=by
  obtain⟨s1,s2⟩:=Qg l vs a0;have ht:G.tmps=(C4 l vs a0).tmps:=by
   apply Array.ext
   ·rw[s1,h3,X]
   intro e g1 g2;have hg:G.tmps.getD e Ω=(C4 l vs a0).tmps.getD e Ω:=by
    rcases Wm e l vs a0 az aw with⟨k1,k2⟩|⟨i,o,v,k1,k2,k3,k4⟩
    ·have:=h4 e;rw[P7 l E _ e (λj oj hj=>k2 oj (List.mem_of_getElem? hj))] at this;rw[k1];exact this
    have aj:=congrArg (λx=>x[i]?) aa;simp only[List.getElem?_map,k1,k2,Option.map_some,k3,ϱ] at aj;rw[k4];exact ό aj
   rw[ϕ,ϕ,Ϛ g1,Ϛ g2] at hg;exact hg
  have af:=h2;rw[<-s2] at af;generalize C4 l vs a0=b at *;cases G;cases b
  simp only at ht af;rw[ht,af]
 rw[he];exact aq W vs h1 hh
theorem M1 {id:Nat} {l:List ϳ} {Q:Exit->ø->Γ->Prop} {a0:ø} (sz:Nat) (G:Bool) (vs:List Δ) (E:List (Sc P w)) (hm:G=Α->P.follows .mixedOrders=Α) (H:scB l sz=Α) (T:a0.tmps.size=sz) (X:l.length=E.length)
  (hs:∀ W,Km l (scE P w l E (ev0 a0)) W l E=Kl l (scE P w l E (ev0 a0)) W l E) (hv:(l.map λo=>scE P w l E (ev0 a0) (o.dst.getD 0))=vs.map AV.c)
  (ad:∀ W,Ext w W->Q .normal (C4 l vs a0) W):(Code.region id l.toArray G).wp P Q a0 w:=
 EF sz G _ E hm H T X hs hv λW af h1 h2=>by rw[L8 h2];exact ad W h1
end
open Go.RowKit Go.Shelf
theorem AN {d E:Dfa} (h1:d.cls=E.cls) (G:d.n=E.n) (H:d.acc=E.acc):d=E:=by cases d;cases E;simp at h1 G H;simp[h1,G,H]
theorem UX (d E:Dfa):(d.cls=E.cls/\d.n=E.n/\d.acc=E.acc)↔d=E:=
 ⟨fun⟨h1,G,H⟩=>AN h1 G H,λh=>by subst h;exact⟨rfl,rfl,rfl⟩⟩
instance dfaDec:DecidableEq Dfa:=λd E=>decidable_of_iff _ (UX d E)
theorem VC {w W:Γ} {a X:Option Addr} {c c':Nat} {l E:List Cls} (h:Cs w (U a l.length c) l) (h':Cs w (U X E.length c') E) (hE:Ext w W) (j:Nat) (hj:j<l.length) (af:j<E.length):∃ b o b' G,a=J ⟨b,o,I⟩/\X=J ⟨b',G,I⟩/\((∀ e:EW W,e.W.cell? ⟨b,o+j*4,I⟩=J (.int ζ (wd (l.getD j 0#256) 0)))/\(∀ e:EW W,e.W.cell? ⟨b,o+j*4+1,I⟩=J (.int ζ (wd (l.getD j 0#256) 1)))/\(∀ e:EW W,e.W.cell? ⟨b,o+j*4+2,I⟩=J (.int ζ (wd (l.getD j 0#256) 2)))/\(∀ e:EW W,e.W.cell? ⟨b,o+j*4+3,I⟩=J (.int ζ (wd (l.getD j 0#256) 3))))/\((∀ e:EW W,e.W.cell? ⟨b',G+j*4,I⟩=J (.int ζ (wd (E.getD j 0#256) 0)))/\(∀ e:EW W,e.W.cell? ⟨b',G+j*4+1,I⟩=J (.int ζ (wd (E.getD j 0#256) 1)))/\
  (∀ e:EW W,e.W.cell? ⟨b',G+j*4+2,I⟩=J (.int ζ (wd (E.getD j 0#256) 2)))/\(∀ e:EW W,e.W.cell? ⟨b',G+j*4+3,I⟩=J (.int ζ (wd (E.getD j 0#256) 3)))):=by
 obtain⟨b,o,c1,H,hx⟩:=â h (by omega);obtain⟨b',G,c2,T,hy⟩:=â h' (by omega);injection H with H _ _
 injection T with T _ _
 exact⟨b,o,b',G,H,T,Sy (λi hi=>hE.cell (hx i hi)) j hj,Sy (λi hi=>hE.cell (hy i hi)) j af⟩
theorem Vl {w W:Γ} {a X:Option Addr} {c c' n G:Nat} {f f':Nat->Δ} (h:Sl w (U a n c) 1 n f) (h':Sl w (U X G c') 1 G f') (hE:Ext w W) (j:Nat) (hj:j<n) (ah:j<G) :
  ∃ b o b' E,a=J ⟨b,o,I⟩/\X=J ⟨b',E,I⟩/\(∀ e:EW W,e.W.cell? ⟨b,o+j,I⟩=J (f j))/\(∀ e:EW W,e.W.cell? ⟨b',E+j,I⟩=J (f' j)):=by
 obtain⟨b,o,c1,H,hx⟩:=â h (by omega);obtain⟨b',E,c2,T,hy⟩:=â h' (by omega);injection H with H _ _
 injection T with T _ _
 exact⟨b,o,b',E,H,T,Aw (hE.cell (hx j (by omega))),Aw (hE.cell (hy j (by omega)))⟩
theorem Lg (d E:Dfa) (v v':Δ) (w:Γ) (h:IsD w v d) (h':IsD w v' E) :
  ϛ Η 14 #[v,v'] w λe w'=>e=Ψ (.bool (decide (d=E)))/\Ext w w':=by
 obtain⟨vc,vn,va,rfl,hc,hr,ha⟩:=h;obtain⟨dw,dx,dy,rfl,cb,dk,cd⟩:=h';obtain⟨vs,dm,b8,cu⟩:=hr;obtain⟨dn,dp,cf,cv⟩:=dk;obtain⟨ac,cc,rfl⟩:=Sl.len hc;obtain⟨bk,bl,rfl⟩:=Sl.len cb;obtain⟨an,cn,rfl⟩:=Sl.len b8;obtain⟨bo,bp,rfl⟩:=Sl.len cf;obtain⟨aa,ca,rfl⟩:=Sl.len ha;obtain⟨bt,bu,rfl⟩:=Sl.len cd;have aw:=((Κ w).alloc (Β (dA (U ac d.cls.length cc) (U an d.n.length cn) (U aa d.acc.length ca)) 40)).alloc (Β (dA (U bk E.cls.length bl) (U bo E.n.length bp) (U bt E.acc.length bu)) 40);have H2:=Ah (Ad w (Β (dA (U ac d.cls.length cc) (U an d.n.length cn) (U aa d.acc.length ca)) 40)) (Β (dA (U bk E.cls.length bl) (U bo E.n.length bp) (U bt E.acc.length bu)) 40);have H3:=heap_alloc2_new w (Β (dA (U ac d.cls.length cc) (U an d.n.length cn) (U aa d.acc.length ca)) 40) (Β (dA (U bk E.cls.length bl) (U bo E.n.length bp) (U bt E.acc.length bu)) 40);obtain⟨w1,b9⟩:=Xq ((w.alloc (Β (dA (U ac d.cls.length cc) (U an d.n.length cn) (U aa d.acc.length ca)) 40)).alloc (Β (dA (U bk E.cls.length bl) (U bo E.n.length bp) (U bt E.acc.length bu)) 40));have HK:ϟ (∀ W,Ext w1 W->(W.cell? ⟨w.heap.size,0,I⟩=J (U ac d.cls.length cc)/\W.cell? ⟨w.heap.size,1,I⟩=J (U an d.n.length cn)/\W.cell? ⟨w.heap.size,2,I⟩=J (U aa d.acc.length ca))/\
   (W.cell? ⟨w.heap.size+1,0,I⟩=J (U bk E.cls.length bl)/\W.cell? ⟨w.heap.size+1,1,I⟩=J (U bo E.n.length bp)/\W.cell? ⟨w.heap.size+1,2,I⟩=J (U bt E.acc.length bu))):=Z λW H=>by
  rw[b9] at H2 H3;exact⟨⟨(Τ W _ 0 _ _ _ (H.heap H2)).trans rfl,(Τ W _ 1 _ _ _ (H.heap H2)).trans rfl,(Τ W _ 2 _ _ _ (H.heap H2)).trans rfl⟩,(Τ W _ 0 _ _ _ (H.heap H3)).trans rfl,(Τ W _ 1 _ _ _ (H.heap H3)).trans rfl,(Τ W _ 2 _ _ _ (H.heap H3)).trans rfl⟩
 rw[b9] at aw;have ax:=Z aw;have HC:=Z (λW (H:Ext w1 W) j (h1:j<d.cls.length) (h2:j<E.cls.length)=>VC hc cb (aw.t H) j h1 h2);have HR:=Z (λW (H:Ext w1 W) j (h1:j<d.n.length) (h2:j<E.n.length)=>Vl b8 cf (aw.t H) j h1 h2);have cz:=Z (λW (H:Ext w1 W) j (h1:j<d.n.length) (h2:j<E.n.length)=>IX _ _ _ _ W ((cu j h1).ext (aw.t H)) ((cv j h2).ext (aw.t H)));have HA:=Z (λW (H:Ext w1 W) j (h1:j<d.acc.length) (h2:j<E.acc.length)=>Vl ha cd (aw.t H) j h1 h2);obtain⟨n1,a1⟩:=Xq (d.cls.length);obtain⟨n2,a7⟩:=Xq (d.n.length);obtain⟨n3,ba⟩:=Xq (d.acc.length);obtain⟨m1,be⟩:=Xq (E.cls.length);obtain⟨m2,bf⟩:=Xq (E.n.length);obtain⟨m3,bg⟩:=Xq (E.acc.length);have b1:=hc.1;have b2:=b8.1;have b3:=ha.1;rw[a1,a7,ba,be,bf,bg] at HK;rw[a1] at b1;rw[a7] at b2;rw[ba] at b3;rw[a1,be] at HC;rw[a7,bf] at HR cz;rw[ba,bg] at HA;have HN:=Z (ï a1 (ï a7 ba));have HM:=Z (ï be (ï bf bg));have hz:∀ W,W=w1->Ext w1 W:=λW h=>h▸Κ w1
 have cl:=b9;rw[a1,a7,ba,be,bf,bg] at cl;have HW:=Z cl;have cp:ϟ (¬ (n1=m1/\n2=m2/\n3=m3)->¬ d=E):=Z λhx e=>hx (by subst e;exact⟨HN.o.1.symm.trans HM.o.1,HN.o.2.1.symm.trans HM.o.2.1,HN.o.2.2.symm.trans HM.o.2.2⟩)
 rw[a1,a7,ba,be,bf,bg];clear a1 a7 ba be bf bg hc cb b8 cf cu cv ha cd H2 H3 aw b9 cl dm dp;go_enter Tryz.func14,Tryz.ntmps14;go_upto_region 1 with (fail)
 simp only[dA] at HW;rw[HW.o];clear HW;obtain⟨⟨T,k1,X⟩,k3,k4,k5⟩:=HK.o w1 (Κ w1);by_cases e1:n1=m1
 ·by_cases e2:n2=m2
  ·by_cases e3:n3=m3
   ·subst e1 e2 e3;go_wp2_with (fail);clear T k1 X k3 k4 k5;go_loopw [5] (λvi W=>∃ j:Nat,j<=n1/\vi=.int Φ j/\Ext w1 W/\ϟ (∀ q,q<j->d.cls.getD q 0#256=E.cls.getD q 0#256))
     (λvi _=>n1-(intOf vi).toNat)
    case atStart=>exact⟨0,by omega,rfl,Κ w1,Z λq hq=>by omega⟩
    obtain⟨j,hj,rfl,G,HQ⟩:=hrel;obtain⟨⟨T,k1,X⟩,k3,k4,k5⟩:=HK.o wr G;by_cases aj:j<n1
    ·obtain⟨b,o,b',o',rfl,rfl,⟨x0,x1,x2,x3⟩,y0,y1,y2,y3⟩:=HC.o wr G j aj aj;obtain⟨x,ah⟩:=Xq (d.cls.getD j 0#256);obtain⟨y,ai⟩:=Xq (E.cls.getD j 0#256);rw[ah] at x0 x1 x2 x3;rw[ai] at y0 y1 y2 y3;have HX:=Z ah;have HY:=Z ai;have hg:=NB x y;obtain⟨bx,bb⟩:=Xq ((x != y));rw[bb] at hg;have b4:=Z bb;clear bb;clear ah ai;have T:=Aw T;have k3:=Aw k3;go_upto_region 6 with (fail)
     refine B2 (by kernel_rfl) (by kernel_rfl) ?_;iterate 11 (with_reducible refine Ϧ (λK hK=>?_);go_simp;first|(refine hK _ ?_;clear hK K))
     refine ϵ ?_;rintro _ ⟨e,rfl⟩;have ad:=G.t e.ext;clear T k1 X k3 k4 k5 x0 x1 x2 x3 y0 y1 y2 y3;generalize e.W=w5 at *;cases bx with
     | false=>
      have bc:x=y:=by have:=b4.o;simpa using this
      go_wp2;go_roundw
      case rel=>exact⟨j+1,by omega,by go_num,ad,Z λq hq=>by
       by_cases bd:q<j
       ·exact HQ.o q bd
       obtain rfl:q=j:=by omega
       rw[HX.o,HY.o,bc]⟩
      case measure=>simp[intOf];omega
     | true=>
      have bc:¬ x=y:=by have:=b4.o;simpa using this
      have au:ϟ (¬ d=E):=Z λe=>bc (by rw[<-HX.o,<-HY.o,e])
      go_wp2;go_ret;exact⟨by rw[decide_eq_false au.o];rfl,ax.o.t ad⟩
    obtain rfl:j=n1:=by omega
    have dr:=HQ;have b6:=G;clear k1 X k4 k5 G;go_wp2_with (fail);clear T k3;go_loopw [6] (λvi W=>∃ j:Nat,j<=n2/\vi=.int Φ j/\Ext w1 W/\ϟ (∀ q,q<j->d.n.getD q []=E.n.getD q []))
     (λvi _=>n2-(intOf vi).toNat)
    case atStart=>exact⟨0,by omega,rfl,b6,Z λq hq=>by omega⟩
    clear b6;obtain⟨j,hj,rfl,G,HQ⟩:=hrel;obtain⟨⟨T,k1,X⟩,k3,k4,k5⟩:=HK.o wr G;by_cases aj:j<n2
    ·obtain⟨b,o,b',o',rfl,rfl,r1,r2⟩:=HR.o wr G j aj aj;obtain⟨u,hu⟩:=Xq (vs.getD j Ω);obtain⟨u',df⟩:=Xq (dn.getD j Ω);have f66:=λ(e:EW wr)=>Z (cz.o e.W (G.t e.ext) j aj aj)
     rw[hu] at r1 f66;rw[df] at r2 f66;obtain⟨x,ah⟩:=Xq (d.n.getD j []);obtain⟨y,ai⟩:=Xq (E.n.getD j []);rw[ah,ai] at f66;have HX:=Z ah;have HY:=Z ai;obtain⟨bx,bb⟩:=Xq (decide (x=y));rw[bb] at f66;have b4:=Z bb;clear bb ah ai hu df;have k1:=Aw k1;have k4:=Aw k4;go_upto_region 11 with (fail)
     refine B2 (by kernel_rfl) (by kernel_rfl) ?_;iterate 12 (with_reducible refine Ϧ (λK hK=>?_);go_simp;first|(refine hK _ ?_;clear hK K)|(apply Exists.intro;refine⟨λ_=>?_,hK _ ?_⟩;(with_reducible exact Ev (f66 _).o);clear hK K))
     refine ϵ ?_;rintro _ ⟨e,rfl⟩;have ad:=G.t e.ext;clear T k1 X k3 k4 k5 r1 r2 f66;generalize e.W=w5 at *;cases bx with
     | true=>
      have bc:x=y:=of_decide_eq_true b4.o;go_wp2;go_roundw
      case rel=>exact⟨j+1,by omega,by go_num,ad,Z λq hq=>by
       by_cases bd:q<j
       ·exact HQ.o q bd
       obtain rfl:q=j:=by omega
       rw[HX.o,HY.o,bc]⟩
      case measure=>simp[intOf];omega
     | false=>
      have bc:¬ x=y:=of_decide_eq_false b4.o;have au:ϟ (¬ d=E):=Z λe=>bc (by rw[<-HX.o,<-HY.o,e])
      go_wp2;go_ret;exact⟨by rw[decide_eq_false au.o];rfl,ax.o.t ad⟩
    obtain rfl:j=n2:=by omega
    have dt:=HQ;have b6:=G;clear T X k3 k5 G;go_wp2_with (fail);clear k1 k4;go_loopw [7] (λvi W=>∃ j:Nat,j<=n3/\vi=.int Φ j/\Ext w1 W/\ϟ (∀ q,q<j->d.acc.getD q Ε=E.acc.getD q Ε))
     (λvi _=>n3-(intOf vi).toNat)
    case atStart=>exact⟨0,by omega,rfl,b6,Z λq hq=>by omega⟩
    clear b6;obtain⟨j,hj,rfl,G,HQ⟩:=hrel;obtain⟨⟨T,k1,X⟩,k3,k4,k5⟩:=HK.o wr G;by_cases aj:j<n3
    ·obtain⟨b,o,b',o',rfl,rfl,r1,r2⟩:=HA.o wr G j aj aj;obtain⟨x,ah⟩:=Xq (d.acc.getD j Ε);obtain⟨y,ai⟩:=Xq (E.acc.getD j Ε);rw[ah] at r1;rw[ai] at r2;have HX:=Z ah;have HY:=Z ai;clear ah ai;have X:=Aw X;have k5:=Aw k5;rcases (show (x=Α/\y=Α)\/(x=Ε/\y=Ε)\/(x=Α/\y=Ε)\/(x=Ε/\y=Α) by cases x<;>cases y<;>simp) with h|h|h|h
     ·obtain⟨rfl,rfl⟩:=h;go_upto_region 16 with (fail)
      refine B2 (by kernel_rfl) (by kernel_rfl) ?_;iterate 11 (with_reducible refine Ϧ (λK hK=>?_);go_simp;first|(refine hK _ ?_;clear hK K))
      refine ϵ ?_;rintro _ ⟨e,rfl⟩;have ad:=G.t e.ext;clear T k1 X k3 k4 k5 r1 r2;generalize e.W=w5 at *;go_wp2;go_roundw
      case rel=>exact⟨j+1,by omega,by go_num,ad,Z λq hq=>by
       by_cases bd:q<j
       ·exact HQ.o q bd
       obtain rfl:q=j:=by omega
       rw[HX.o,HY.o]⟩
      case measure=>simp[intOf];omega
     ·obtain⟨rfl,rfl⟩:=h;go_upto_region 16 with (fail)
      refine B2 (by kernel_rfl) (by kernel_rfl) ?_;iterate 11 (with_reducible refine Ϧ (λK hK=>?_);go_simp;first|(refine hK _ ?_;clear hK K))
      refine ϵ ?_;rintro _ ⟨e,rfl⟩;have ad:=G.t e.ext;clear T k1 X k3 k4 k5 r1 r2;generalize e.W=w5 at *;go_wp2;go_roundw
      case rel=>exact⟨j+1,by omega,by go_num,ad,Z λq hq=>by
       by_cases bd:q<j
       ·exact HQ.o q bd
       obtain rfl:q=j:=by omega
       rw[HX.o,HY.o]⟩
      case measure=>simp[intOf];omega
     ·obtain⟨rfl,rfl⟩:=h;go_upto_region 16 with (fail)
      refine B2 (by kernel_rfl) (by kernel_rfl) ?_;iterate 11 (with_reducible refine Ϧ (λK hK=>?_);go_simp;first|(refine hK _ ?_;clear hK K))
      refine ϵ ?_;rintro _ ⟨e,rfl⟩;have ad:=G.t e.ext;clear T k1 X k3 k4 k5 r1 r2;generalize e.W=w5 at *;have au:ϟ (¬ d=E):=Z λe=>by have h1:=HX.o;have h2:=HY.o;rw[e,h2] at h1;cases h1
      go_wp2;go_ret;exact⟨by rw[decide_eq_false au.o];rfl,ax.o.t ad⟩
     obtain⟨rfl,rfl⟩:=h;go_upto_region 16 with (fail)
     refine B2 (by kernel_rfl) (by kernel_rfl) ?_;iterate 11 (with_reducible refine Ϧ (λK hK=>?_);go_simp;first|(refine hK _ ?_;clear hK K))
     refine ϵ ?_;rintro _ ⟨e,rfl⟩;have ad:=G.t e.ext;clear T k1 X k3 k4 k5 r1 r2;generalize e.W=w5 at *;have au:ϟ (¬ d=E):=Z λe=>by have h1:=HX.o;have h2:=HY.o;rw[e,h2] at h1;cases h1
     go_wp2;go_ret;exact⟨by rw[decide_eq_false au.o];rfl,ax.o.t ad⟩
    obtain rfl:j=n3:=by omega
    have au:ϟ (d=E):=Z (AN (Ly _ _ 0#256 (HN.o.1.trans HM.o.1.symm) λq hq=>dr.o q (by rw[<-HN.o.1];exact hq))
     (Ly _ _ [] (HN.o.2.1.trans HM.o.2.1.symm) λq hq=>dt.o q (by rw[<-HN.o.2.1];exact hq)) (Ly _ _ Ε (HN.o.2.2.trans HM.o.2.2.symm) λq hq=>HQ.o q (by rw[<-HN.o.2.2];exact hq)))
    clear T k1 k3 k4;go_wp2;go_ret;exact⟨by rw[decide_eq_true au.o];rfl,ax.o.t G⟩
   have eb:¬ (n3:Int)=(m3:Int):=by omega
   subst e1 e2;go_wp2;go_ret;exact⟨by rw[decide_eq_false (cp.o (by omega))];rfl,ax.o⟩
  have ec:¬ (n2:Int)=(m2:Int):=by omega
  subst e1;go_wp2;go_ret;exact⟨by rw[decide_eq_false (cp.o (by omega))];rfl,ax.o⟩
 have ed:¬ (n1:Int)=(m1:Int):=by omega
 go_wp2;go_ret;exact⟨by rw[decide_eq_false (cp.o (by omega))];rfl,ax.o⟩
def ldA {w:Γ} {g:Nat} {V:Array Δ} (h:w.heap[g]? = J (Β V 40 (0,0))) (hi:(Η.info? 40).map (·.size)=J V.size):Sc Η w:=
 .load 40 g V 40 (0,0) _ (λ_ E=>E.heap h) Tryz.underlying40 rfl hi
def Mo {P:Þ} {w:Γ} (f:FuncId) (he:Enters P f) (args:List Δ) (v:Δ) (h:∀ W,Ext w W->ϛ P f args.toArray W λe w'=>e=Ψ v/\Ext W w'):Sc P w:=
 .call f he (args.map AV.c) (.c v) (AV.mono_c v) λW vs E G=>by rw[L8 G];exact (h W E).mono λe w' ⟨h1,H⟩=>⟨v,h1,rfl,H⟩
theorem Sh:Enters Η 14:=enters_of Tryz.func14 (by kernel_rfl) rfl
theorem CD {W:Γ} {x:List UInt8} {g c:Nat} (h:By W (U (J ⟨g,0,I⟩) x.length c) x):∀ j u,(x.map bv)[j]? = J u->W.cell? ((⟨g,0,I⟩:Addr).add j)=J u:=λj u E=>by
 obtain⟨G,H⟩:=ο.1 E;have T:j<x.length:=by rwa [List.length_map] at G
 obtain⟨b,o,ab,he,hc⟩:=â h (by omega);injection he with he _ _
 injection he with he
 injection he with X e2 _
 subst X e2;have e:(⟨g,0,I⟩:Addr).add j=⟨g,0+j,I⟩:=by
  unfold Addr.add;by_cases h0:j=0
  ·subst h0;rfl
  simp[h0]
 rw[e,hc j (by omega),<-H,List.getElem_map,List.getD_eq_getElem?_getD,Ι T];rfl
theorem Sb (n:Nat) (k:Int) (E:k=n) (G:n<=1000) (l:List UInt8) (v:Δ) (w:Γ) (H:ByW w v l) :
  ϛ Η 19 #[v,.int Φ k] w λe w'=>∃ (x:List UInt8) (g c:Nat),e=Ψ (U (J ⟨g,0,I⟩) x.length c)/\x.length<=n/\By w' (U (J ⟨g,0,I⟩) x.length c) x/\x.length<=c/\Ext w w':=by
 subst E;exact TR l v n G w H
theorem Rd (d:Dfa) (hd:Val d/\d.n.length<=64) (b:Bool) (hb:b=Α↔∃ u,d.has u=Α) (v:Δ) (w:Γ) (T:Tab w) (X:0<w.heap.size) (h:IsD w v d):ϛ Η 12 #[v] w λe w'=>∃ a n c,e=Ψ (ϗ #[U a n c,.bool b])/\Ext w w':=
 (Rf d hd.1 hd.2 v w T X h).mono λe w' ⟨h1,H⟩=>by
  rcases h1 with⟨u,v,E,G,h5,-⟩|⟨E,G⟩
  ·obtain⟨a,c,rfl⟩:=G.len;obtain rfl:b=Α:=hb.2 ⟨u,h5⟩;exact⟨_,_,_,E,H⟩
  obtain rfl:b=Ε:=by
   cases b with
   | false=>rfl
   | true=>obtain⟨u,hu⟩:=hb.1 rfl;rw[G] at hu;cases hu
  exact⟨_,_,_,E,H⟩
theorem Ja {W:Γ} {ρ:Ñ->Δ} {x y:Ñ} {u v:Δ} (h:Fj W [.c u,.c v] [ρ x,ρ y]):ρ x=u/\ρ y=v:=by
 have:=L8 (us:=[u,v]) h;injection this with h1 E
 injection E with E _
 exact⟨h1,E⟩
theorem Qw {W:Γ} {ρ:Ñ->Δ} {x:Ñ} {u:Δ} (h:Fj W [.c u] [ρ x]):ρ x=u:=by have:=L8 (us:=[u]) h;injection this
theorem MT (xs:List RNode) (E:RNode) (G:E.kind=1):B6 E (Cl xs [])=λ_=>False:=by unfold B6;rw[if_pos G]
theorem MS (xs:List RNode) (E:RNode) (G:E.kind=2):B6 E (Cl xs [])=λw=>w=[]:=by unfold B6;rw[if_neg (by omega),if_pos G]
theorem MQ (xs:List RNode) (E:RNode) (G:E.kind=3):B6 E (Cl xs [])=λw=>∃ x:UInt8,w=[x]/\E.c.getLsbD x.toNat=Α:=by unfold B6;rw[if_neg (by omega),if_neg (by omega),if_pos G]
theorem MP (xs:List RNode) (E:RNode) (G:E.kind=4):B6 E (Cl xs [])=Cat (A4 xs E.l) (A4 xs E.r):=by unfold B6;rw[if_neg (by omega),if_neg (by omega),if_neg (by omega),if_pos G];rfl
theorem MO (xs:List RNode) (E:RNode) (G:E.kind=5):B6 E (Cl xs [])=λw=>A4 xs E.l w\/A4 xs E.r w:=by unfold B6;rw[if_neg (by omega),if_neg (by omega),if_neg (by omega),if_neg (by omega),if_pos G];rfl
theorem MN (xs:List RNode) (E:RNode) (G:E.kind=6):B6 E (Cl xs [])=λw=>A4 xs E.l w/\A4 xs E.r w:=by unfold B6;rw[if_neg (by omega),if_neg (by omega),if_neg (by omega),if_neg (by omega),if_neg (by omega),if_pos G];rfl
theorem MM (xs:List RNode) (E:RNode) (G:E.kind=7):B6 E (Cl xs [])=λw=>¬ A4 xs E.l w:=by unfold B6;rw[if_neg (by omega),if_neg (by omega),if_neg (by omega),if_neg (by omega),if_neg (by omega),if_neg (by omega),if_pos G];rfl
theorem ML (xs:List RNode) (E:RNode) (G:E.kind=8):B6 E (Cl xs [])=rep (A4 xs E.l) E.min E.max:=by unfold B6;rw[if_neg (by omega),if_neg (by omega),if_neg (by omega),if_neg (by omega),if_neg (by omega),if_neg (by omega),if_neg (by omega)];rfl
theorem RW (b:List UInt8) (i j:Nat):An (λ_=>False) b i j=Ε:=hitB_false.2 λh=>h.2.2
theorem Zj (b:List UInt8) (i j:Nat) (hi:i<=b.length):An (λw=>w=[]) b i j=decide (j=i):=F1 (by rw[hitB_true,RQ b i j hi,decide_eq_true_iff])
theorem Rw (p:UInt8->Prop) (b:List UInt8) (i j:Nat) (r:Bool) (H:r=Α↔i<b.length/\p (b.getD i 0)):An (λw=>∃ x:UInt8,w=[x]/\p x) b i j=(r&&decide (j=i+1)):=F1 (by rw[hitB_true,RO,ψ,H,decide_eq_true_iff];exact⟨fun⟨h1,E,G⟩=>⟨⟨E,G⟩,h1⟩,fun⟨⟨E,G⟩,h1⟩=>⟨h1,E,G⟩⟩)
theorem RU (L M:Ag) (b:List UInt8) (i j:Nat):An (λw=>L w\/M w) b i j=(An L b i j||An M b i j):=F1 (by rw[hitB_true,Zi,Û,hitB_true,hitB_true])
theorem RY (L M:Ag) (b:List UInt8) (i j:Nat):An (λw=>L w/\M w) b i j=(An L b i j&&An M b i j):=F1 (by rw[hitB_true,RR,ψ,hitB_true,hitB_true])
theorem RV (L:Ag) (b:List UInt8) (i j:Nat) (G:j<b.length+1):An (λw=>¬ L w) b i j=(decide (i<=j)&&!An L b i j):=F1 (by rw[hitB_true,RP,ψ,decide_eq_true_iff,Bool.not_eq_true',hitB_false];exact⟨fun⟨h1,_,E⟩=>⟨h1,E⟩,fun⟨h1,E⟩=>⟨h1,by omega,E⟩⟩)
def DS (q:Mq) (A:Nat->Prop) (W:Γ) (f:Nat × Nat->Option Δ) (node:Nat) (row:List Bool) (e:Ending) (w':Γ):Prop:=
 ∃ g G E,e=Ψ (U (J ⟨g,0,I⟩) (q.b.length+1) (q.b.length+1))/\W.heap.size<=g/\RowAt w' g row/\Mt q A w' G E/\(∀ y,node<=y.1->E y=f y)/\W.grownBy w' (J q.gK)
def DR (q:Mq) (node:Nat):Prop:=∀ (A:Nat->Prop) (W:Γ) n f i,i<=q.b.length->Mt q A W n f->ϛ Η 77 #[ε (J ⟨q.gM,0,I⟩),.agg (rnC (q.xs.getD node ⟨0,0,0,0#256,0,0⟩)),iv i] W λe w'=>DS q A W f node (Bh (A4 q.xs node) q.b i) e w'
/-! The walk of ends. -/
theorem Rr:(Η.info? 164).map (·.size)=J 2:=by kernel_rfl
theorem PO (ρ:Ñ->Δ) (o:ϳ) (W:Γ) (x:Ñ) (b k:Nat) (v:Δ) (hc:W.cell? ⟨b,k,I⟩=J v) (E:o.op=.load 121 x) (hx:ρ x=ε (J ⟨b,k,I⟩)):(ê ρ o).run Η W=.ok (.value v) W:=by unfold ê;simp only[E,hx];go_simp
def Yq {w:Γ} (x:Ñ) (b k:Nat) (v:Δ) (hc:∀ W,Ext w W->W.cell? ⟨b,k,I⟩=J v):Sc Η w:=
 .gen (.load 121 x) [.c (ε (J ⟨b,k,I⟩))] (.c v) (AV.mono_c _) λρ o W E G H=>⟨_,PO ρ o W x b k v (hc W G) E (Qw H),rfl⟩
theorem DX (W:Γ):(zeroValue 38).run Η W=.ok (U I 0 0) W:=by kernel_rfl
theorem ND {κ:Type} {W:Γ} {k:ϡ} {key:κ->Δ} {b n:Nat} {f:κ->Option Δ} {ρ:Ñ->Δ} {o:ϳ} {m x:Ñ} {t:ϡ} (T:o.op=Op.lookup t m x Α) {e:ϡ} {H:Δ} (X:∀ W,(zeroValue e).run Η W=.ok H W) (K':Maps.Keyed Η k) (ht:Η.underlying t=J (.map k e)) (hm:ρ m=.map (J b)) (h:IsMv W k key b n f)
  (y:κ) (hx:ρ x=key y) (G:∃ l,keyOf Η k (key y)=J l):(ê ρ o).run Η W=.ok (.value (ϗ #[(f y).getD H,.bool (f y).isSome])) W:=by
 obtain⟨D,h1,h2⟩:=h;obtain⟨l,G⟩:=G;obtain⟨e1,e2⟩:=h2 y l G;obtain⟨v,ps,ag,E⟩:=h1.look_ok K' ht (X W) (zd:=.held H) (zp:=[]) rfl G;simp[ê,T,hm,hx,ag,Result.andThen];rw[e2] at E;unfold Of at E;injection E with E
 injection E with E _
 injection E with E
 rw[e1,E];exact⟨rfl,rfl⟩
def Yh {w:Γ} (m x:Ñ) (gK n:Nat) (f:Nat × Nat->Option Δ) (y:Nat × Nat) (o:Option Δ) (G:f y=o) (h:IsMv w 164 C6 gK n f) (H:∃ l,keyOf Η 164 (C6 y)=J l):Sc Η w:=
 .gen (.lookup 121 m x Α) [.c (.map (J gK)),.c (C6 y)] (.c (ϗ #[o.getD (U I 0 0),.bool o.isSome])) (AV.mono_c _) λρ op W T X E=>⟨_,by rw[<-G];exact ND T DX Ys Tryz.underlying121 (Ja E).1 (h.ext X) y (Ja E).2 H,rfl⟩
def Yp {w:Γ} {g:Nat} {V:Array Δ} (h:w.heap[g]? = J (Β V 164 (0,0))) (hi:(Η.info? 164).map (·.size)=J V.size):Sc Η w:=
 .load 164 g V 164 (0,0) _ (λ_ E=>E.heap h) Tryz.underlying164 rfl hi
def Sj (gM gK:Nat) (E G:Δ):Nat->Δ->Γ->Prop
 | 0,v,_=>v=ε (J ⟨gM,0,I⟩)
 | 1,v,_=>v=ε (J ⟨gM,0,I⟩)
 | 2,v,_=>v=ε (J ⟨gM,2,I⟩)
 | 3,v,_=>v=.map (J gK)
 | 4,v,_=>v=E
 | 5,v,_=>v=G
 | _,_,_=>True
theorem UO (gM gK:Nat) (E G:Δ) (i:Nat) (v:Δ) (W W':Γ) (h:Sj gM gK E G i v W) (_:Ext W W'):Sj gM gK E G i v W':=by
 match i with
 | 0=>exact h
 | 1=>exact h
 | 2=>exact h
 | 3=>exact h
 | 4=>exact h
 | 5=>exact h
 | i+6=>trivial
theorem UH (q:Mq) (hq:q.ok) (node:Nat) (hn:node<q.xs.length) (hC:DR q node):Pe q node:=by
 intro A W n f i hi hM;have HC:=Z hC;have HQ:=Z hq;have HI:=Z hi;have hb:=hq.hb;have cl:=hq.hx.le;have a6:=Z (LA (node,i) (by show node<_;omega) (by show i<_;omega));have au:=(Κ W).alloc (Β #[iv node,iv i] 164);have H7:=Ad W (Β #[iv node,iv i] 164);have HM:=Z (hM.ext au);have a7:=Z hM;obtain⟨NX,a8⟩:=Xq (q.xs.length);have aw:=Z a8;rw[a8] at hn cl;have dc:(node:Int)<(NX:Int):=by omega
 clear hC hq hM hi a8;go_enter Tryz.func53,Tryz.ntmps53;go_upto_region 2 with (fail)
 obtain⟨w1,ba⟩:=Xq (W.alloc (Β #[iv node,iv i] 164));rw[ba] at au H7 HM;simp only[ba];clear ba;obtain⟨g7,ax⟩:=Xq (W.heap.size);have dd:=Z ax;rw[ax] at H7;simp only[ax];clear ax;have H7:=Z H7;have bn:=Z au;have cK:=λX (E:Ext w1 X)=>E.cell ((Τ w1 q.gM 2 _ _ _ (HM.o.box HQ.o)).trans (show (#[U (J ⟨q.bx,q.ox,I⟩) q.xs.length q.cx,q.vb,.map (J q.gK)]:Array Δ)[2]? = J (.map (J q.gK)) from rfl))
 have bo:=Z cK;clear au cK;obtain⟨o,ho⟩:=Xq (f (node,i));cases o with
 | some v=>
  obtain⟨g,H,hg,hr⟩:=HM.o.ent _ _ ho;have HO:=Z ho;refine M1 42 Α [ε (J ⟨q.gM,0,I⟩),ε (J ⟨q.gM,0,I⟩),ε (J ⟨q.gM,2,I⟩),.map (J q.gK),.agg #[iv node,iv i],ϗ #[v,.bool Α],ϗ #[v,.bool Α],v,.bool Α,v,.bool Α]
   [.keep,.pure,.pure,Yq (δ 17) q.gM 2 _ bo.o,Yp H7.o Rr,Yh (δ 18) (δ 19) q.gK n f (node,i) (J v) HO.o HM.o.mp a6.o,.keep,.pure,.pure,.keep,.keep] (λ_=>by kernel_rfl) (by kernel_rfl) rfl rfl (λW=>by kernel_rfl) (by kernel_rfl) ?_
  intro X E;simp only[C4,η,Θ,Μ,Λ];have HV:=Z H;clear ho H;go_wp2;go_ret;have ag:=bn.o.t E;exact⟨g,n,f,by rw[HV.o];rfl,hg,hr.ext E,a7.o.ext ag,λ_ _=>rfl,Eb (ag.grownBy I)⟩
 | none=>
  have HO:=Z ho;refine M1 42 Α [ε (J ⟨q.gM,0,I⟩),ε (J ⟨q.gM,0,I⟩),ε (J ⟨q.gM,2,I⟩),.map (J q.gK),.agg #[iv node,iv i],ϗ #[U I 0 0,.bool Ε],ϗ #[U I 0 0,.bool Ε],U I 0 0,.bool Ε,U I 0 0,.bool Ε]
   [.keep,.pure,.pure,Yq (δ 17) q.gM 2 _ bo.o,Yp H7.o Rr,Yh (δ 18) (δ 19) q.gK n f (node,i) I HO.o HM.o.mp a6.o,.keep,.pure,.pure,.keep,.keep] (λ_=>by kernel_rfl) (by kernel_rfl) rfl rfl (λW=>by kernel_rfl) (by kernel_rfl) ?_
  intro w2 E;simp only[C4,η,Θ,Μ,Λ];clear ho;have ag:=bn.o.t E;have an:=a7.o.ext ag;have bq:=an.node HQ.o node (by rw[aw.o];exact hn);have f122:=Z (HC.o A w2 n f i HI.o an);obtain⟨m,hm⟩:=Xq (q.xs.getD node ⟨0,0,0,0#256,0,0⟩);rw[hm] at bq f122;have cX:=(Τ w2 q.gM 0 _ _ _ (an.box HQ.o)).trans (show (#[U (J ⟨q.bx,q.ox,I⟩) q.xs.length q.cx,q.vb,.map (J q.gK)]:Array Δ)[0]? = J (U (J ⟨q.bx,q.ox,I⟩) q.xs.length q.cx) from rfl);rw[aw.o] at cX;have ct:=Z (E.heap H7.o);have bt:=Z ag;have bc:=Z an;clear hm an ag E;go_upto_region 6 with (first
   | (refine wpList_load_mid rfl 96 (δ 31) rfl q.bx (q.ox+node*9) rfl _ _ bq Tryz.underlying96 rfl (Qc m) ?_)
   | (go_at_call 77;(with_reducible refine f122.o.mono ?_);rintro e w3 ⟨g,n3,f3,rfl,bu,bw,bz,b0,b4⟩;have bf:=Z bu;have cu:=Z bw;have b5:=Z bz;have b6:=Z b0;have b7:=Z b4;clear bu bw bz b0 b4))
  have cv:=Z ((Τ w3 q.gM 2 _ _ _ (b5.o.box HQ.o)).trans (show (#[U (J ⟨q.bx,q.ox,I⟩) q.xs.length q.cx,q.vb,.map (J q.gK)]:Array Δ)[2]? = J (.map (J q.gK)) from rfl));have cw:=Z (Du b7.o bc.o.map ct.o);clear cX;obtain⟨vg,bg⟩:=Xq (Δ.slice (J ⟨g,0,I⟩) (q.b.length+1) (q.b.length+1));have b8:=Z bg;simp only[bg];clear bg;refine Ia 6 42 (by kernel_rfl) (by kernel_rfl) rfl (Sj q.gM q.gK (C6 (node,i)) vg) (λ_ _ _ _=>True) (λ_ _ _ _ _=>trivial) (UO q.gM q.gK (C6 (node,i)) vg) (λj hj=>?_) (λvs w4 b9 hF _=>?_)
  ·have ca:=(Κ w3).drew
   match j,hj with
   | 0,_=>
    refine Ap _ _ rfl rfl rfl λc X E T aa=>?_
    have h0:c.tmps.getD 0 Ω=ε (J ⟨q.gM,0,I⟩):=aa 0 (by kernel_rfl);go_simp;exact⟨_,rfl,Κ X,rfl⟩
   | 1,_=>
    refine Ap _ _ rfl rfl rfl λc X E T aa=>?_
    have df:c.tmps.getD 35 Ω=ε (J ⟨q.gM,0,I⟩):=T 0 35 (by kernel_rfl);go_simp;exact⟨_,rfl,Κ X,rfl⟩
   | 2,_=>
    refine Ap _ _ rfl rfl rfl λc X E T aa=>?_
    have dg:c.tmps.getD 36 Ω=ε (J ⟨q.gM,0,I⟩):=T 1 36 (by kernel_rfl);go_simp;exact⟨_,rfl,Κ X,rfl⟩
   | 3,_=>
    refine Ap _ _ rfl rfl rfl λc X E T aa=>?_
    have dh:c.tmps.getD 37 Ω=ε (J ⟨q.gM,2,I⟩):=T 2 37 (by kernel_rfl);have cK:=(ca.t E).cell cv.o;go_simp;exact⟨_,rfl,Κ X,rfl⟩
   | 4,_=>
    refine Ap _ _ rfl rfl rfl λc X E T aa=>?_
    have h7:=aa 7 (by kernel_rfl);refine Cr (Em 164 (δ 7) rfl g7 h7 _ _ _ _ ((ca.t E).heap cw.o) Tryz.underlying164 rfl Rr) ?_;exact⟨_,rfl,Κ X,rfl,λj u _ _ _=>trivial⟩
   | 5,_=>
    refine Ap _ _ rfl rfl rfl λc X E T aa=>?_
    have dk:c.tmps.getD 10 Ω=vg:=aa 10 (by kernel_rfl);go_simp;exact⟨_,rfl,Κ X,rfl⟩
  have h0:vs 0=_:=hF 0 (by omega);have h1:vs 1=_:=hF 1 (by omega);have G:vs 2=_:=hF 2 (by omega);have h3:vs 3=_:=hF 3 (by omega);have h4:vs 4=_:=hF 4 (by omega);have h5:vs 5=_:=hF 5 (by omega);have az:=(Κ w3).drew.t b9;simp only[Bq,List.drop_succ_cons,List.drop_zero,h0,h1,G,h3,h4,h5,List.getElem?_toArray,List.getElem?_cons_zero,List.getElem?_cons_succ,ó,η,Θ,Μ,Λ];clear h0 h1 G h3 h4 h5 hF;have ab:=Z (b5.o.ext az);have cc:=Z (cu.o.ext az);have c3:=Z (b7.o.trans (Eb (r:=J q.gK) (az.grownBy I)));have c4:ϟ (f3 (node,i)=I):=Z ((b6.o (node,i) (Υ _)).trans HO.o);have cd:n3<maxLen:=by have h1:=ab.o.le;have G:=S9 (λx=>(f3 (x / (q.b.length+1),x % (q.b.length+1))).isSome) (q.xs.length*(q.b.length+1));have h3:q.xs.length*(q.b.length+1)<=200*1001:=Nat.mul_le_mul (by have:=aw.o;omega) (by omega);unfold Mh at h1;unfold maxLen;omega
  refine wpList_plain rfl λK' cf=>?_
  refine Xv (κ:=Nat × Nat) (key:=C6) rfl Ys Tryz.underlying121 rfl ab.o.mp cd (λy z h=>Qn y z h) (node,i) rfl a6.o vg rfl (λw5 h5 af=>?_);refine cf _ _ ?_;have bh:g≠q.gK:=by have h1:=bf.o;have G:=HQ.o.hK;have h3:=bc.o.gr.size;omega
  have cg:Mt q A w5 (n3+1) (λz=>if z=(node,i) then J vg else f3 z):=by
   refine⟨ab.o.gr.trans af,h5,?_,λk hk=>⟨(ab.o.al k hk).1,Ξ (ab.o.al k hk).2 af.size⟩,λy v H=>?_⟩
   ·have h1:=ab.o.le;have G:=VX (N:=q.xs.length) (M:=q.b.length+1) (f:=f3) (y:=(node,i)) (by rw[aw.o];exact hn) (by show i<_;have:=HI.o;omega) c4.o vg;omega
   by_cases e:y=(node,i)
   ·subst e;simp only[if_true] at H;injection H with H
    refine⟨g,by rw[<-H,b8.o],λhA=>?_,cc.o.keptm af bh⟩;have h1:=(bc.o.al g hA).2;have G:=bf.o;omega
   simp only[e,if_false] at H;obtain⟨g',e',h1,G⟩:=ab.o.ent y v H;refine⟨g',e',h1,G.keptm af ?_⟩;exact Lo rfl (G 0 (by rw[Fd];omega)) ab.o.map
  have c8:=Z cg;have c9:=Z (cc.o.keptm af bh);have da:=Z (c3.o.trans af);clear cg h5 af bh cf cd b9 az;go_wp2;go_ret;refine⟨g,n3+1,_,by rw[b8.o];rfl,λhA=>?_,c9.o,c8.o,λy hy=>?_,(Eb (r:=J q.gK) (bt.o.grownBy I)).trans da.o⟩
  ·have h1:=(a7.o.al g hA).2;have G:=bf.o;have h3:=bt.o.size;omega
  have db:y≠(node,i):=λe=>by rw[e] at hy;exact absurd hy (Nat.lt_irrefl _)
  simp only[db,if_false];exact b6.o y (Nat.le_of_lt hy)
abbrev nN:RNode:=⟨0,0,0,0#256,0,0⟩
abbrev RNode.ok (n:RNode) (i:Nat):Prop:=VNode n.kind n.l n.r n.c n.min n.max i
structure WRx (xs:List RNode):Prop where
 pos:0<xs.length
 node:∀ i,i<xs.length->(xs.getD i nN).ok i
 par:∀ j,j+1<xs.length->par xs j=1
theorem Zp:∀ (xs:List RNode) (k:Nat),(∀ i,i<xs.length->(xs.getD i nN).good (k+i))->Rx xs k
 | [],_,_=>trivial
 | n::xs,k,h=>⟨h 0 (by simp),Zp xs (k+1) λi hi=>by have:=h (i+1) (by simp;omega);rw[show k+1+i=k+(i+1) by omega];exact this⟩
theorem SL {n:RNode} {i:Nat} (h:n.ok i):n.good i:=by obtain⟨k,l,r,c,mn,mx⟩:=n;exact (Ry h).1
def Yv (xs:List RNode):Ag:=(Cl xs []).getD ((Cl xs []).length-1) λ_=>False
theorem XS {xs:List RNode} (h:WRx xs) {d:Dfa} (hd:Dn xs [] (J d)):Fit d (Yv xs):=
 CH xs [] [] ⟨rfl,λi hi=>absurd hi (by simp)⟩ (Zp xs _ λi hi=>by rw[List.length_nil,Nat.zero_add];exact SL (h.node i hi)) (λe=>by have:=h.pos;rw[e] at this;cases this) d hd
end Go.Proofs.YtilncahcpjlfnaaGreatDoor
