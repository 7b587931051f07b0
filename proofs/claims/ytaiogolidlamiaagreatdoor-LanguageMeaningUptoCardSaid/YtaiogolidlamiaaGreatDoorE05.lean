import Derived.Test.YtaiogolidlamiaaGreatDoorE04
import Derived.Test.YtaiogolidlamiaaGreatDoorM32
import Derived.Test.YtaiogolidlamiaaGreatDoorE01
set_option linter.unusedVariables false
set_option linter.unusedSimpArgs false
namespace Go.Proofs.YtaiogolidlamiaaGreatDoor
set_option maxRecDepth 100000
open Go.RowKit Go.Shelf Go.WideMaps
theorem Ak0 {L:Av} {b:List UInt8} {i m:Nat} (hm:m<b.length+1):(Aj2 L b i).getD m false=Ajy L b i m:=Akb _ _ _ hm
theorem All {P L:Av} {b:List UInt8} {i j:Nat}:Aj3 L b (Aj2 P b i) (b.length+1) j=true↔hit (Cat P L) b i j:=by
 rw [Am4,Akn];constructor
 ·rintro ⟨m,h1,h2,h3⟩;rw [Ak0 h1] at h2;exact ⟨m,hitB_true.1 h2,h3⟩
 ·rintro ⟨m,h1,h2⟩;have hm:m<b.length+1:=by have:=h1.2.1;omega
  exact ⟨m,hm,by rw [Ak0 hm];exact hitB_true.2 h1,h2⟩
theorem Alm (P L:Av) (b:List UInt8) (i:Nat):Aki L b (Aj2 P b i)=Aj2 (Cat P L) b i:=Aj6 fun j _=>Akc (by rw [All,hitB_true])
theorem Am3 (L:Av) (b:List UInt8) (i k:Nat):Aki L b (Aj2 (pw L k) b i)=Aj2 (pw L (k+1)) b i:=by
 rw [Alm];exact Ak1 (fun w=>(Akl L k w).symm) b i
abbrev Aj0 (L:Av) (lo t:Nat):Av:=rep L lo ((lo+t:Nat):Int)
theorem Alw (L:Av) (lo:Nat) (b:List UInt8) (i:Nat):Aj2 (pw L lo) b i=Aj2 (Aj0 L lo 0) b i:=Ak1 (fun w=>(Aly L lo w).symm) b i
theorem Amp (L:Av) (lo t:Nat) (b:List UInt8) (i j:Nat):Ajy (Aj0 L lo (t+1)) b i j=(Ajy (Aj0 L lo t) b i j||Aj3 L b (Aj2 (Aj0 L lo t) b i) (b.length+1) j):=Akc (by
 rw [hitB_true,Bool.or_eq_true,hitB_true,All,Akm,Akn])
theorem Alt {L:Av} {lo t:Nat} {b:List UInt8} {i:Nat} (h:∀ j,j<b.length+1→Ajy (Aj0 L lo (t+1)) b i j=Ajy (Aj0 L lo t) b i j):Akg L lo t b i:=fun j m h1 h2=>by
 have:=h j (by have:=h2.2.1;omega);rw [← hitB_true,← this,hitB_true,Akm];exact .inr ⟨m,h1,h2⟩
theorem Aky {L:Av} {lo t:Nat} {b:List UInt8} {i:Nat} (h:Akg L lo t b i) {mx:Int} (hm:mx<0∨((lo+t:Nat):Int)≤mx):Aj2 (Aj0 L lo t) b i=Aj2 (rep L lo mx) b i:=
 Aj6 fun j _=>Akc (by rw [hitB_true,hitB_true,Akz h hm])
structure Gr2 (W W':World) (a b:Nat):Prop where
 os:W'.os=W.os
 tape:W'.tape=W.tape
 output:W'.output=W.output
 size:W.heap.size≤W'.heap.size
 block:∀ k,k<W.heap.size→k≠a→k≠b→W'.heap[k]? = W.heap[k]?
theorem Gr2.of_grown {W W':World} {a b:Nat} (h:W.grownBy W' (some a)):Gr2 W W' a b:=⟨h.os,h.tape,h.output,h.size,fun k hk h1 _=>h.block k hk (fun e=>h1 (by injection e))⟩
theorem Gr2.step {W W1 W2:World} {a b g:Nat} (h:Gr2 W W1 a b) (k:W1.grownBy W2 (some g)) (hg:g=a∨g=b∨W.heap.size≤g):Gr2 W W2 a b:=
 ⟨k.os.trans h.os,k.tape.trans h.tape,k.output.trans h.output,Nat.le_trans h.size k.size,fun j hj h1 h2=>(k.block j (Nat.lt_of_lt_of_le hj h.size) (fun e=>by
  injection e with e
  rcases hg with hg|hg|hg
  ·exact h1 (by omega)
  ·exact h2 (by omega)
  ·omega)).trans (h.block j hj h1 h2)⟩
def Am6 (q:Mqq) (A:Nat→Prop) (W:World) (f:Nat × Nat→Option Value) (node gs:Nat) (row:List Bool) (e:Ending) (w':World):Prop:=
 ∃ g n' f',e=.returned (.slice (some ⟨g,0,none⟩) (q.b.length+1) (q.b.length+1))∧(g=gs∨W.heap.size≤g)∧w'.ownsRow 0 4 1 (.slice (some ⟨g,0,none⟩) (q.b.length+1) (q.b.length+1)) (q.b.length+1) (row.map Value.bool)∧Mtq q (fun k=>A k∨k=g) w' n' f'∧(∀ y,node<y.1→f' y=f y)∧Gr2 W w' q.gK gs
set_option maxHeartbeats 8000000 in
theorem Als (q:Mqq) (hq:q.ok) (nd:RNode) (hA:Alq q nd.l) (hmn:nd.min≤16) (hm1:-1≤nd.max) (hm2:nd.max≤16) (hm3:nd.max≠-1→(nd.min:Int)≤nd.max)
  (A:Nat→Prop) (W:World) (n:Nat) (f:Nat × Nat→Option Value) (gs i:Nat) (hM:Mtq q (fun k=>A k∨k=gs) W n f) (hO:W.ownsRow 0 4 1 (.slice (some ⟨gs,0,none⟩) (q.b.length+1) (q.b.length+1)) (q.b.length+1) ((Aj2 (pw (Ajz q.xs nd.l) 0) q.b i).map Value.bool)) :
  Calls Tryz.prog 149 #[.pointer (some ⟨q.gM,0,none⟩),.agg (rnC nd),.slice (some ⟨gs,0,none⟩) (q.b.length+1) (q.b.length+1)] W fun e w'=>Am6 q A W f nd.l gs (Aj2 (rep (Ajz q.xs nd.l) nd.min nd.max) q.b i) e w':=by
 have HAO:=Lib.hid hA;have HQ:=Lib.hid hq;have hb:=hq.hb;have hE0:=(Ext.refl W).alloc (.cells (rnC nd) 64);have H4:=Ab W (.cells (rnC nd) 64);have hM1:=hM.ext hE0;have hO1:=Ah hO hE0;have hG1:W.grownBy (W.alloc (.cells (rnC nd) 64)) (some q.gK):=Aj8 (hE0.grownBy none);have HK:=Lib.hid (hM.al gs (.inr rfl));obtain ⟨N,hN⟩:∃ N,q.b.length+1=N:=⟨_,rfl⟩;have HN:=Lib.hid hN;have hN1:N≤1001:=by omega
 have hN0:0<N:=by omega
 rw [hN] at hO1;rw [hN];obtain ⟨L,hL⟩:∃ L,Ajz q.xs nd.l=L:=⟨_,rfl⟩;have HL:=Lib.hid hL;rw [hL] at hO1;obtain ⟨mn,hmn'⟩:∃ m,nd.min=m:=⟨_,rfl⟩;obtain ⟨mx,hmx'⟩:∃ m,nd.max=m:=⟨_,rfl⟩;obtain ⟨nl,hnl'⟩:∃ m,nd.l=m:=⟨_,rfl⟩;have HNL:=Lib.hid hnl';have HMN:=Lib.hid hmn';have HMX:=Lib.hid hmx';rw [hmn'] at hmn hm3;rw [hmx'] at hm1 hm2 hm3;rw [hnl'] at HAO;have HM3:=Lib.hid hm3;have hq4:(rnC nd)[7]? = some (iv mn):=by rw [← hmn'];rfl
 have hq5:(rnC nd)[8]? = some (.int .i64 mx):=by rw [← hmx'];rfl
 have hq2:(rnC nd)[5]? = some (iv nl):=by rw [← hnl'];rfl
 have HQ4:=Lib.hid hq4;have HQ5:=Lib.hid hq5;have HQ2:=Lib.hid hq2;have HNX:Hid (Ajz q.xs nl=L):=Lib.hid (by rw [← hnl'];exact hL);clear hA hq hM hO hb hN hL hmn' hmx' hnl' hm3 hq4 hq5 hq2;go_enter Tryz.func149,Tryz.ntmps149;go_upto_region 1 with (fail)
 obtain ⟨w1,hw1⟩:∃ X,W.alloc (.cells (rnC nd) 64)=X:=⟨_,rfl⟩;rw [hw1] at hE0 H4 hM1 hO1 hG1;simp only [hw1];clear hw1;obtain ⟨g4,hg4⟩:∃ y,W.heap.size=y:=⟨_,rfl⟩;have HG4:=Lib.hid hg4;rw [hg4] at H4 HK;simp only [hg4];clear hg4 hE0;have c7:=(cell_of_row w1 g4 7 _ _ _ H4).trans HQ4.out;have H4:=Lib.hid H4;go_wp2_with (fail);clear c7;go_loopw [2,13] (fun v2 vk W'=>∃ (k g n':Nat) (f':Nat × Nat→Option Value),k≤mn∧v2=.slice (some ⟨g,0,none⟩) N N∧vk=.int .i64 k∧Hid (g=gs∨g4≤g)∧Hid (Mtq q (fun x=>A x∨x=g) W' n' f')∧W'.ownsRow 0 4 1 (.slice (some ⟨g,0,none⟩) N N) N ((Aj2 (pw L k) q.b i).map Value.bool)∧Hid (∀ y,nl<y.1→f' y=f y)∧Hid (W.grownBy W' (some q.gK))∧Hid (W'.heap[g4]? = some (.cells (rnC nd) 64 (0,0))))
  (fun _ vk _=>mn-(intOf vk).toNat)
 case atStart=>exact ⟨0,gs,n,f,by omega,rfl,rfl,Lib.hid (.inl rfl),Lib.hid hM1,hO1,Lib.hid fun _ _=>rfl,Lib.hid hG1,H4⟩
 case round=>
  clear hM1 hO1 hG1 H4;obtain ⟨k,g,n1,f1,hk,rfl,rfl,HGS,HM,hO,HF,HG,H4⟩:=hrel;by_cases hlt:k<mn
  ·have hltI:(k:Int)<(mn:Int):=by omega
   have c5:=(cell_of_row wr g4 5 _ _ _ H4.out).trans HQ2.out;have f148:=Lib.hid (HAO.out _ wr n1 f1 g _ HM.out (Aka _ _ _) (RowAt.of_owns hO (by rw [Aka,HN.out])));rw [HN.out] at f148;go_wp2_with (go_at_call 148;(with_reducible refine f148.out.mono ?_);rintro e w2 ⟨g2,n2,f2,rfl,hle,hO2,hm2',hf2,hg2⟩;rw [HN.out];have HLE:=Lib.hid hle;have HO2:=Lib.hid hO2;have HM2:=Lib.hid hm2';have HF2:=Lib.hid hf2;have HG2:=Lib.hid hg2;clear hle hO2 hm2' hf2 hg2);have hOn:w2.ownsRow 0 4 1 (.slice (some ⟨g2,0,none⟩) N N) N ((Aj2 (pw L (k+1)) q.b i).map Value.bool):=by
    have h1:=Oa HO2.out;rw [HN.out,HNX.out,Am3] at h1;exact h1
   have HGS2:Hid (g2=gs∨g4≤g2):=Lib.hid (.inr (by have h1:=HLE.out;have h2:=HG.out.size;have h3:=HG4.out;omega));have HM2':=Lib.hid (HM2.out.weak (B:=fun x=>A x∨x=g2) (fun x hx=>hx.elim (fun h=>.inl (.inl h)) .inr));have HF2':Hid (∀ y,nl<y.1→f2 y=f y):=Lib.hid fun y hy=>(HF2.out y hy).trans (HF.out y hy)
   have HG2':=Lib.hid (HG.out.trans HG2.out);have H4':=Lib.hid (Aj9 HG2.out HM.out.map H4.out);go_roundw
   case rel=>exact ⟨k+1,g2,n2,f2,by omega,rfl,by go_num,HGS2,HM2',hOn,HF2',HG2',H4'⟩
   case measure=>simp [intOf];omega
  ·obtain rfl:mn=k:=by omega
   have c7:=(cell_of_row wr g4 7 _ _ _ H4.out).trans HQ4.out;have c8:=(cell_of_row wr g4 8 _ _ _ H4.out).trans HQ5.out;have hOt:wr.ownsRow 0 4 1 (.slice (some ⟨g,0,none⟩) N N) N ((Aj2 (Aj0 L mn 0) q.b i).map Value.bool):=by
    rw [← Alw];exact hO
   have HGt:Hid (Gr2 W wr q.gK gs):=Lib.hid (Gr2.of_grown HG.out);clear hO HG;by_cases hmx:mx<0
   case' pos=>
    obtain ⟨B,hB⟩:∃ B,q.b.length=B:=⟨_,rfl⟩;have hBN:B+1=N:=by rw [← hB];exact HN.out
    have hB1:B≤1000:=by omega
    obtain ⟨ab,cb,hvb⟩:=(HM.out.word HQ.out).len;have cB:=(cell_of_row wr q.gM 1 _ _ _ (HM.out.box HQ.out)).trans (show (#[.slice (some ⟨q.bx,q.ox,none⟩) q.xs.length q.cx,q.vb,.map (some q.gK)]:Array Value)[1]? = some q.vb from rfl);rw [hvb,hB] at cB;have HBN:=Lib.hid hBN;clear hvb hB hBN;go_upto_region 8 with (fail)
    rw [show (Value.int .i64 ((B:Int)+1))=.int .i64 (N:Int) by have:=HBN.out;rw [← this];simp];clear cB HBN c7 c8;obtain ⟨M,hM⟩:∃ M,N=M:=⟨_,rfl⟩;have HMOST:Hid ((mx<0∧M=N)∨(0≤mx∧mx=mn+M)):=Lib.hid (.inl ⟨hmx,hM.symm⟩);rw [show (Value.int .i64 (N:Int))=.int .i64 (M:Int) by rw [hM]];have hM1:M≤1001:=by omega
    clear hM
   case' neg=>
    have hmx0:0≤mx:=by omega
    have h3:=HM3.out (by omega);obtain ⟨M,hM⟩:∃ M:Nat,mx-(mn:Int)=(M:Int):=⟨(mx-mn).toNat,by omega⟩;have hM16:M≤16:=by omega
    have HMOST:Hid ((mx<0∧M=N)∨(0≤mx∧mx=mn+M)):=Lib.hid (.inr ⟨hmx0,by omega⟩);have HMI:=Lib.hid hM;clear hM;go_upto_region 8 with (fail)
    rw [HMI.out];clear c7 c8
   all_goals
    go_wp2_with (fail);go_loopw [36] (fun vt W'=>∃ (t n':Nat) (f':Nat × Nat→Option Value),t≤M∧vt=.int .i64 t∧Hid (Mtq q (fun x=>A x∨x=g) W' n' f')∧W'.ownsRow 0 4 1 (.slice (some ⟨g,0,none⟩) N N) N ((Aj2 (Aj0 L mn t) q.b i).map Value.bool)∧Hid (∀ y,nl<y.1→f' y=f y)∧Hid (Gr2 W W' q.gK gs)∧Hid (W'.heap[g4]? = some (.cells (rnC nd) 64 (0,0)))∧Hid (t≤Aj7 N (Ajy (Aj0 L mn t) q.b i)))
     (fun vt _=>M-(intOf vt).toNat)
    case atStart=>exact ⟨0,n1,f1,by omega,rfl,HM,hOt,HF,HGt,H4,Lib.hid (by omega)⟩
    case round=>
     clear hOt HM HF HGt H4;obtain ⟨t,n2,f2,htM,rfl,HM,hO,HF,HGt,H4,HCN⟩:=hrel;by_cases hlt2:t<M
     ·have hltI2:(t:Int)<(M:Int):=by omega
      have c5:=(cell_of_row wr g4 5 _ _ _ H4.out).trans HQ2.out;have f148:=Lib.hid (HAO.out _ wr n2 f2 g _ HM.out (Aka _ _ _) (RowAt.of_owns hO (by rw [Aka,HN.out])));rw [HN.out] at f148;go_wp2_with (go_at_call 148;(with_reducible refine f148.out.mono ?_);rintro e w2 ⟨ge,n3,f3,rfl,hle,hO2,hm2',hf2,hg2⟩;rw [HN.out];have HLE:=Lib.hid hle;have HO2:=Lib.hid hO2;have HM2:=Lib.hid hm2';have HF2:=Lib.hid hf2;have HG2:=Lib.hid hg2;clear hle hO2 hm2' hf2 hg2);have HNE:Hid (ge≠g):=Lib.hid fun e=>by
       have h1:=HLE.out;have h2:=(HM.out.al g (.inr rfl)).2;omega
      have HRE:Hid (RowAt w2 ge (Aj1 N (Aj3 L q.b (Aj2 (Aj0 L mn t) q.b i) N))):=Lib.hid (by
       have h1:=RowAt.of_owns HO2.out (by unfold Aki;rw [Aj4]);unfold Aki at h1;rw [HN.out,HNX.out] at h1;exact h1)
      have hOk:=hO.kept HG2.out (.inr fun e=>by
       have h1:=(HM.out.al g (.inr rfl)).1;have h2:=HQ.out.hK;simp [Value.ownBlock] at e;omega)
      have hO3:w2.ownsRow 0 4 1 (.slice (some ⟨g,0,none⟩) N N) N ((Aj1 N (fun x=>if x<0 then Ajy (Aj0 L mn (t+1)) q.b i x else Ajy (Aj0 L mn t) q.b i x)).map Value.bool):=by
       rw [Aj6 (fun j _=>by rw [if_neg (by omega)]:∀ j,j<N→(if j<0 then Ajy (Aj0 L mn (t+1)) q.b i j else Ajy (Aj0 L mn t) q.b i j)=Ajy (Aj0 L mn t) q.b i j)];unfold Aj2 at hOk;rw [HN.out] at hOk;exact hOk
      have HG3:=Lib.hid (HGt.out.step HG2.out (.inl rfl));have HF3:Hid (∀ y,nl<y.1→f3 y=f y):=Lib.hid fun y hy=>(HF2.out y hy).trans (HF.out y hy)
      have HM3:=Lib.hid (HM2.out.weak (B:=fun x=>A x∨x=g) (fun x hx=>.inl hx));have H43:=Lib.hid (Aj9 HG2.out HM.out.map H4.out);have HN4:Hid (g≠g4):=Lib.hid fun e=>by
       rcases Ev hO H4.out (by decide) with h|h
       ·cases h
       ·exact h (by rw [e];rfl)
      clear hO hOk f148 c5 HO2;go_loopw [8,44] (fun vc vj W'=>∃ (j:Nat) (ch:Bool),j≤N∧vc=.bool ch∧vj=.int .i64 j∧Hid (Mtq q (fun x=>A x∨x=g) W' n3 f3)∧W'.ownsRow 0 4 1 (.slice (some ⟨g,0,none⟩) N N) N ((Aj1 N (fun x=>if x<j then Ajy (Aj0 L mn (t+1)) q.b i x else Ajy (Aj0 L mn t) q.b i x)).map Value.bool)∧Hid (RowAt W' ge (Aj1 N (Aj3 L q.b (Aj2 (Aj0 L mn t) q.b i) N)))∧Hid (Gr2 W W' q.gK gs)∧Hid (W'.heap[g4]? = some (.cells (rnC nd) 64 (0,0)))∧Hid ((ch=true→∃ x,x<j∧Ajy (Aj0 L mn (t+1)) q.b i x≠Ajy (Aj0 L mn t) q.b i x)∧(ch=false→∀ x,x<j→Ajy (Aj0 L mn (t+1)) q.b i x=Ajy (Aj0 L mn t) q.b i x)))
       (fun _ vj _=>N-(intOf vj).toNat)
      case atStart=>exact ⟨0,false,by omega,rfl,rfl,HM3,hO3,HRE,HG3,H43,Lib.hid ⟨(fun h=>by cases h),fun _ x hx=>by omega⟩⟩
      case round=>
       clear hO3 HM3 HRE HG3 H43;obtain ⟨j,ch,hjN,rfl,rfl,HM3,hO3,HRE,HG3,H43,HCH⟩:=hrel;by_cases hlj:j<N
       ·have hljI:(j:Int)<(N:Int):=by omega
        have cL:=Ap false hO3 (Aj4 _ _).symm j (by rw [Aj4];exact hlj);rw [Akb _ _ _ hlj,if_neg (by omega)] at cL;have cE:=HRE.out j (by rw [Aj4];exact hlj);rw [Akb _ _ _ hlj] at cE;have fz:=hO3.frozenAt j;have hset:∀ v,Ajy (Aj0 L mn (t+1)) q.b i j=v→∀ x,x<N→(if x=j then v else if x<j then Ajy (Aj0 L mn (t+1)) q.b i x else Ajy (Aj0 L mn t) q.b i x)=if x<j+1 then Ajy (Aj0 L mn (t+1)) q.b i x else Ajy (Aj0 L mn t) q.b i x:=fun v hv x _=>by
         by_cases e1:x=j
         ·subst e1;rw [if_pos rfl,if_pos (by omega),hv]
         ·by_cases e2:x<j
          ·rw [if_neg e1,if_pos e2,if_pos (by omega)]
          ·rw [if_neg e1,if_neg e2,if_neg (by omega)]
        have hst:=Amp L mn t q.b i j;rw [HN.out] at hst;obtain ⟨x,hx⟩:∃ x,Ajy (Aj0 L mn t) q.b i j=x:=⟨_,rfl⟩;obtain ⟨y,hy⟩:∃ y,Aj3 L q.b (Aj2 (Aj0 L mn t) q.b i) N j=y:=⟨_,rfl⟩;rw [hx,hy] at hst;rw [hx] at cL;rw [hy] at cE;have HX:=Lib.hid hx;have HR1:=Lib.hid hst;have HSET:=Lib.hid hset;clear hx hy hst hset;have hset:=HSET.out;have HGG:Hid (g=q.gK∨g=gs∨W.heap.size≤g):=Lib.hid (by
         rcases HGS.out with h|h
         ·exact .inr (.inl h)
         ·have:=HG4.out;exact .inr (.inr (by omega)))
        clear HSET;cases y with
        | false=>
         replace HR1:Hid (Ajy (Aj0 L mn (t+1)) q.b i j=x):=Lib.hid (by rw [HR1.out];cases x<;>rfl);clear hset;have hP2:wr.ownsRow 0 4 1 (.slice (some ⟨g,0,none⟩) N N) N ((Aj1 N (fun x=>if x<j+1 then Ajy (Aj0 L mn (t+1)) q.b i x else Ajy (Aj0 L mn t) q.b i x)).map Value.bool):=by
          rw [Aj6 (fun x hx=>by
           by_cases e1:x=j
           ·subst e1;rw [if_neg (by omega),if_pos (by omega),HR1.out,HX.out]
           ·by_cases e2:x<j
            ·rw [if_pos e2,if_pos (by omega)]
            ·rw [if_neg e2,if_neg (by omega)]:∀ x,x<N→(if x<j then Ajy (Aj0 L mn (t+1)) q.b i x else Ajy (Aj0 L mn t) q.b i x)=if x<j+1 then Ajy (Aj0 L mn (t+1)) q.b i x else Ajy (Aj0 L mn t) q.b i x)] at hO3
          exact hO3
         clear hO3;go_wp2;go_roundw
         case rel=>exact ⟨j+1,ch,by omega,rfl,by go_num,HM3,hP2,HRE,HG3,H43,Lib.hid ⟨fun h=>by
          obtain ⟨x,h1,h2⟩:=HCH.out.1 h;exact ⟨x,by omega,h2⟩,fun h x hx=>by
          by_cases e1:x=j
          ·rw [e1,HR1.out,HX.out]
          ·exact HCH.out.2 h x (by omega)⟩⟩
         case measure=>simp [intOf];omega
        | true=>
         cases x with
         | false=>
          replace HR1:Hid (Ajy (Aj0 L mn (t+1)) q.b i j=true):=Lib.hid (by rw [HR1.out];rfl);obtain ⟨hP,hgr⟩:=A3 (f:=Value.bool) hO3 j true;have hP2:(wr.setCell ⟨g,j,none⟩ (.bool true)).ownsRow 0 4 1 (.slice (some ⟨g,0,none⟩) N N) N ((Aj1 N (fun x=>if x<j+1 then Ajy (Aj0 L mn (t+1)) q.b i x else Ajy (Aj0 L mn t) q.b i x)).map Value.bool):=by
           rw [Akd,Aj6 (hset true HR1.out)] at hP;exact hP
          have hM4:=Lib.hid (HM3.out.own HQ.out hgr (.inr rfl));have hR4:=Lib.hid (HRE.out.keptm hgr HNE.out);have hG4:=Lib.hid (HG3.out.step hgr HGG.out);have hH4:=Lib.hid ((hgr.block g4 (Ak H43.out) (fun e=>HN4.out (by injection e with e;exact e.symm))).trans H43.out);clear hP hgr hO3;go_wp2;go_roundw
          case rel=>exact ⟨j+1,true,by omega,rfl,by go_num,hM4,hP2,hR4,hG4,hH4,Lib.hid ⟨fun _=>⟨j,by omega,by rw [HR1.out,HX.out];decide⟩,(fun h=>by cases h)⟩⟩
          case measure=>simp [intOf];omega
         | true=>
          replace HR1:Hid (Ajy (Aj0 L mn (t+1)) q.b i j=true):=Lib.hid (by rw [HR1.out];rfl);clear hset;have hP2:wr.ownsRow 0 4 1 (.slice (some ⟨g,0,none⟩) N N) N ((Aj1 N (fun x=>if x<j+1 then Ajy (Aj0 L mn (t+1)) q.b i x else Ajy (Aj0 L mn t) q.b i x)).map Value.bool):=by
           rw [Aj6 (fun x hx=>by
            by_cases e1:x=j
            ·subst e1;rw [if_neg (by omega),if_pos (by omega),HR1.out,HX.out]
            ·by_cases e2:x<j
             ·rw [if_pos e2,if_pos (by omega)]
             ·rw [if_neg e2,if_neg (by omega)]:∀ x,x<N→(if x<j then Ajy (Aj0 L mn (t+1)) q.b i x else Ajy (Aj0 L mn t) q.b i x)=if x<j+1 then Ajy (Aj0 L mn (t+1)) q.b i x else Ajy (Aj0 L mn t) q.b i x)] at hO3
           exact hO3
          clear hO3;go_wp2;go_roundw
          case rel=>exact ⟨j+1,ch,by omega,rfl,by go_num,HM3,hP2,HRE,HG3,H43,Lib.hid ⟨fun h=>by
           obtain ⟨x,h1,h2⟩:=HCH.out.1 h;exact ⟨x,by omega,h2⟩,fun h x hx=>by
           by_cases e1:x=j
           ·rw [e1,HR1.out,HX.out]
           ·exact HCH.out.2 h x (by omega)⟩⟩
          case measure=>simp [intOf];omega
       ·obtain rfl:N=j:=by omega
        have hO4:wr.ownsRow 0 4 1 (.slice (some ⟨g,0,none⟩) N N) N ((Aj2 (Aj0 L mn (t+1)) q.b i).map Value.bool):=by
         rw [Aj6 (fun j hj=>by rw [if_pos hj]:∀ j,j<N→(if j<N then Ajy (Aj0 L mn (t+1)) q.b i j else Ajy (Aj0 L mn t) q.b i j)=Ajy (Aj0 L mn (t+1)) q.b i j)] at hO3;unfold Aj2;rw [HN.out];exact hO3
        clear hO3;cases ch with
        | true=>
         have HCN2:Hid (t+1≤Aj7 N (Ajy (Aj0 L mn (t+1)) q.b i)):=Lib.hid (by
          obtain ⟨x,h1,h2⟩:=HCH.out.1 rfl;have h3:¬ Akg L mn t q.b i:=fun hs=>h2 (by
           have h4:=Akz hs (hi:=((mn+(t+1):Nat):Int)) (.inr (by omega)) x;exact Akc (by rw [hitB_true,hitB_true];exact h4))
          have h5:=Am1 h3;rw [HN.out] at h5;exact Nat.lt_of_le_of_lt HCN.out h5)
         go_wp2;go_roundw
         case rel=>exact ⟨t+1,n3,f3,by omega,by go_num,HM3,hO4,HF3,HG3,H43,HCN2⟩
         case measure=>simp [intOf];omega
        | false=>
         have hst:Akg L mn t q.b i:=Alt (by rw [HN.out];exact HCH.out.2 rfl);have hrow:Hid (Aj2 (Aj0 L mn (t+1)) q.b i=Aj2 (rep L mn mx) q.b i):=Lib.hid (by
          rw [← Aky hst (mx:=mx) (by have:=HMOST.out;omega)];exact Aj6 (by rw [HN.out];exact HCH.out.2 rfl))
         clear hst;go_wp2;go_ret;refine ⟨g,n3,f3,by rw [HN.out];rfl,by rw [HG4.out];exact HGS.out,?_,HM3.out,by rw [HNL.out];exact HF3.out,HG3.out⟩;rw [HN.out,HL.out,HMN.out,HMX.out,← hrow.out];exact hO4
     ·obtain rfl:M=t:=by omega
      have hrow:Hid (Aj2 (Aj0 L mn M) q.b i=Aj2 (rep L mn mx) q.b i):=Lib.hid (by
       rcases HMOST.out with ⟨h1,h2⟩|⟨h1,h2⟩
       ·refine Aky (Alu ?_) (.inl h1);rw [HN.out,← h2];have:=HCN.out;rw [← h2] at this;exact this
       ·rw [show mx=((mn+M:Nat):Int) by omega])
      go_wp2;go_ret;refine ⟨g,n2,f2,by rw [HN.out];rfl,by rw [HG4.out];exact HGS.out,?_,HM.out,by rw [HNL.out];exact HF.out,HGt.out⟩;rw [HN.out,HL.out,HMN.out,HMX.out,← hrow.out];exact hO
theorem Al7 (xs:List RNode) (nd:RNode) (hk:nd.kind=1):K4 nd (I7 xs [])=fun _=>False:=by unfold K4;rw [if_pos hk]
theorem Al6 (xs:List RNode) (nd:RNode) (hk:nd.kind=2):K4 nd (I7 xs [])=fun w=>w=[]:=by
 unfold K4;rw [if_neg (by omega),if_pos hk]
theorem Al5 (xs:List RNode) (nd:RNode) (hk:nd.kind=3):K4 nd (I7 xs [])=fun w=>∃ x:UInt8,w=[x]∧nd.c.getLsbD x.toNat=true:=by
 unfold K4;rw [if_neg (by omega),if_neg (by omega),if_pos hk]
theorem Al4 (xs:List RNode) (nd:RNode) (hk:nd.kind=4):K4 nd (I7 xs [])=Cat (Ajz xs nd.l) (Ajz xs nd.r):=by
 unfold K4;rw [if_neg (by omega),if_neg (by omega),if_neg (by omega),if_pos hk];rfl
theorem Al3 (xs:List RNode) (nd:RNode) (hk:nd.kind=5):K4 nd (I7 xs [])=fun w=>Ajz xs nd.l w∨Ajz xs nd.r w:=by
 unfold K4;rw [if_neg (by omega),if_neg (by omega),if_neg (by omega),if_neg (by omega),if_pos hk];rfl
theorem Al2 (xs:List RNode) (nd:RNode) (hk:nd.kind=6):K4 nd (I7 xs [])=fun w=>Ajz xs nd.l w∧Ajz xs nd.r w:=by
 unfold K4;rw [if_neg (by omega),if_neg (by omega),if_neg (by omega),if_neg (by omega),if_neg (by omega),if_pos hk];rfl
theorem Al1 (xs:List RNode) (nd:RNode) (hk:nd.kind=7):K4 nd (I7 xs [])=fun w=>¬ Ajz xs nd.l w:=by
 unfold K4;rw [if_neg (by omega),if_neg (by omega),if_neg (by omega),if_neg (by omega),if_neg (by omega),if_neg (by omega),if_pos hk];rfl
theorem Al0 (xs:List RNode) (nd:RNode) (hk:nd.kind=8):K4 nd (I7 xs [])=rep (Ajz xs nd.l) nd.min nd.max:=by
 unfold K4;rw [if_neg (by omega),if_neg (by omega),if_neg (by omega),if_neg (by omega),if_neg (by omega),if_neg (by omega),if_neg (by omega)];rfl
theorem Ams (b:List UInt8) (i j:Nat):Ajy (fun _=>False) b i j=false:=hitB_false.2 fun h=>h.2.2
theorem Alb (b:List UInt8) (i j:Nat) (hi:i≤b.length):Ajy (fun w=>w=[]) b i j=decide (j=i):=Akc (by rw [hitB_true,Amm b i j hi,decide_eq_true_iff])
theorem Aks (p:UInt8→Prop) (b:List UInt8) (i j:Nat) (r:Bool) (hr:r=true↔i<b.length∧p (b.getD i 0)):Ajy (fun w=>∃ x:UInt8,w=[x]∧p x) b i j=(r&&decide (j=i+1)):=Akc (by
 rw [hitB_true,Amk,Bool.and_eq_true,hr,decide_eq_true_iff];exact ⟨fun ⟨h1,h2,h3⟩=>⟨⟨h2,h3⟩,h1⟩,fun ⟨⟨h2,h3⟩,h1⟩=>⟨h1,h2,h3⟩⟩)
theorem Amq (L M:Av) (b:List UInt8) (i j:Nat):Ajy (fun w=>L w∨M w) b i j=(Ajy L b i j||Ajy M b i j):=Akc (by rw [hitB_true,Ala,Bool.or_eq_true,hitB_true,hitB_true])
theorem Amu (L M:Av) (b:List UInt8) (i j:Nat):Ajy (fun w=>L w∧M w) b i j=(Ajy L b i j&&Ajy M b i j):=Akc (by rw [hitB_true,Amn,Bool.and_eq_true,hitB_true,hitB_true])
theorem Amr (L:Av) (b:List UInt8) (i j:Nat) (hj:j<b.length+1):Ajy (fun w=>¬ L w) b i j=(decide (i≤j)&&!Ajy L b i j):=Akc (by
 rw [hitB_true,Aml,Bool.and_eq_true,decide_eq_true_iff,Bool.not_eq_true',hitB_false];exact ⟨fun ⟨h1,_,h3⟩=>⟨h1,h3⟩,fun ⟨h1,h3⟩=>⟨h1,by omega,h3⟩⟩)
def Alp (q:Mqq) (A:Nat→Prop) (W:World) (f:Nat × Nat→Option Value) (node:Nat) (row:List Bool) (e:Ending) (w':World):Prop:=
 ∃ g n' f',e=.returned (.slice (some ⟨g,0,none⟩) (q.b.length+1) (q.b.length+1))∧W.heap.size≤g∧RowAt w' g row∧Mtq q A w' n' f'∧(∀ y,node≤y.1→f' y=f y)∧W.grownBy w' (some q.gK)
def Alo (q:Mqq) (node:Nat):Prop:=∀ (A:Nat→Prop) (W:World) n f i,i≤q.b.length→Mtq q A W n f→
 Calls Tryz.prog 122 #[.pointer (some ⟨q.gM,0,none⟩),.agg (rnC (q.xs.getD node ⟨0,0,0,0#256,0,0⟩)),iv i] W fun e w'=>Alp q A W f node (Aj2 (Ajz q.xs node) q.b i) e w'
/-! The walk of ends. -/
theorem Akq:(Tryz.prog.info? 175).map (·.size)=some 2:=by kernel_rfl
theorem Ame (ρ:Operand→Value) (o:Oper) (W:World) (x:Operand) (b k:Nat) (v:Value) (hc:W.cell? ⟨b,k,none⟩=some v) (ho:o.op=.load 136 x) (hx:ρ x=.pointer (some ⟨b,k,none⟩)):(execOp ρ o).run Tryz.prog W=.ok (.value v) W:=by
 unfold execOp;simp only [ho,hx];go_simp
def Ak6 {w:World} (x:Operand) (b k:Nat) (v:Value) (hc:∀ W,Ext w W→W.cell? ⟨b,k,none⟩=some v):Sc Tryz.prog w:=
 .gen (.load 136 x) [.c (.pointer (some ⟨b,k,none⟩))] (.c v) (AV.mono_c _) fun ρ o W ho hE hh=>⟨_,Ame ρ o W x b k v (hc W hE) ho (Ac8 hh),rfl⟩
theorem Alr (W:World):(zeroValue 28).run Tryz.prog W=.ok (.slice none 0 0) W:=by kernel_rfl
theorem Ama {κ:Type} {W:World} {k:TypeId} {key:κ→Value} {b n:Nat} {f:κ→Option Value} {ρ:Operand→Value} {o:Oper} {m x:Operand} {t:TypeId} (hop:o.op=Op.lookup t m x true) {e:TypeId} {z0:Value} (hz:∀ W,(zeroValue e).run Tryz.prog W=.ok z0 W) (K':Maps.Keyed Tryz.prog k) (ht:Tryz.prog.underlying t=some (.map k e)) (hm:ρ m=.map (some b)) (h:IsMv W k key b n f)
  (y:κ) (hx:ρ x=key y) (hl:∃ l,keyOf Tryz.prog k (key y)=some l):(execOp ρ o).run Tryz.prog W=.ok (.value (.tuple #[(f y).getD z0,.bool (f y).isSome])) W:=by
 obtain ⟨D,h1,h2⟩:=h;obtain ⟨l,hl⟩:=hl;obtain ⟨e1,e2⟩:=h2 y l hl;obtain ⟨v,ps,hrun,hv⟩:=h1.look_ok K' ht (hz W) (zd:=.held z0) (zp:=[]) rfl hl;simp [execOp,hop,hm,hx,hrun,Result.andThen];rw [e2] at hv;unfold Akt at hv;injection hv with hv
 injection hv with hv _
 injection hv with hv
 rw [e1,hv];exact ⟨rfl,rfl⟩
def Ak4 {w:World} (m x:Operand) (gK n:Nat) (f:Nat × Nat→Option Value) (y:Nat × Nat) (o:Option Value) (ho:f y=o) (h:IsMv w 175 Hi gK n f) (hl:∃ l,keyOf Tryz.prog 175 (Hi y)=some l):Sc Tryz.prog w:=
 .gen (.lookup 136 m x true) [.c (.map (some gK)),.c (Hi y)] (.c (.tuple #[o.getD (.slice none 0 0),.bool o.isSome])) (AV.mono_c _) fun ρ op W hop hE hh=>
  ⟨_,by rw [← ho];exact Ama hop Alr Ak7 Tryz.underlying136 (G9 hh).1 (h.ext hE) y (G9 hh).2 hl,rfl⟩
def Ak5 {w:World} {g:Nat} {V:Array Value} (h:w.heap[g]? = some (.cells V 175 (0,0))) (hi:(Tryz.prog.info? 175).map (·.size)=some V.size):Sc Tryz.prog w:=
 .load 175 g V 175 (0,0) _ (fun _ hE=>hE.heap h) Tryz.underlying175 rfl hi
def Aku (gM gK:Nat) (vk vg:Value):Nat→Value→World→Prop
 | 0,v,_=>v=.pointer (some ⟨gM,0,none⟩)
 | 1,v,_=>v=.pointer (some ⟨gM,0,none⟩)
 | 2,v,_=>v=.pointer (some ⟨gM,2,none⟩)
 | 3,v,_=>v=.map (some gK)
 | 4,v,_=>v=vk
 | 5,v,_=>v=vg
 | _,_,_=>True
theorem Amz (gM gK:Nat) (vk vg:Value) (i:Nat) (v:Value) (W W':World) (h:Aku gM gK vk vg i v W) (_:Ext W W'):Aku gM gK vk vg i v W':=by
 match i with
 | 0=>exact h
 | 1=>exact h
 | 2=>exact h
 | 3=>exact h
 | 4=>exact h
 | 5=>exact h
 | i+6=>trivial
set_option maxHeartbeats 4000000 in
theorem Amx (q:Mqq) (hq:q.ok) (node:Nat) (hn:node<q.xs.length) (hC:Alo q node):Ako q node:=by
 intro A W n f i hi hM;have HC:=Lib.hid hC;have HQ:=Lib.hid hq;have HI:=Lib.hid hi;have hb:=hq.hb;have hx200:=hq.hx.le;have hkey:=Lib.hid (Alz (node,i) (by show node<_;omega) (by show i<_;omega));have hE1:=(Ext.refl W).alloc (.cells #[iv node,iv i] 175);have H7:=Ab W (.cells #[iv node,iv i] 175);have HM:=Lib.hid (hM.ext hE1);have HM0:=Lib.hid hM;obtain ⟨NX,hNX⟩:∃ y,q.xs.length=y:=⟨_,rfl⟩;have HNX:=Lib.hid hNX;rw [hNX] at hn hx200;have hnI:(node:Int)<(NX:Int):=by omega
 clear hC hq hM hi hNX;go_enter Tryz.func89,Tryz.ntmps89;go_upto_region 2 with (fail)
 obtain ⟨w1,hw1⟩:∃ X,W.alloc (.cells #[iv node,iv i] 175)=X:=⟨_,rfl⟩;rw [hw1] at hE1 H7 HM;simp only [hw1];clear hw1;obtain ⟨g7,hg7⟩:∃ y,W.heap.size=y:=⟨_,rfl⟩;have HG7:=Lib.hid hg7;rw [hg7] at H7;simp only [hg7];clear hg7;have H7:=Lib.hid H7;have HE1:=Lib.hid hE1;have cK:=fun X (hX:Ext w1 X)=>hX.cell ((cell_of_row w1 q.gM 2 _ _ _ (HM.out.box HQ.out)).trans (show (#[.slice (some ⟨q.bx,q.ox,none⟩) q.xs.length q.cx,q.vb,.map (some q.gK)]:Array Value)[2]? = some (.map (some q.gK)) from rfl))
 have HCK:=Lib.hid cK;clear hE1 cK;obtain ⟨o,ho⟩:∃ o,f (node,i)=o:=⟨_,rfl⟩;cases o with
 | some v=>
  obtain ⟨g,hv,hg,hr⟩:=HM.out.ent _ _ ho;have HO:=Lib.hid ho;refine Akx 42 true [.pointer (some ⟨q.gM,0,none⟩),.pointer (some ⟨q.gM,0,none⟩),.pointer (some ⟨q.gM,2,none⟩),.map (some q.gK),.agg #[iv node,iv i],.tuple #[v,.bool true],.tuple #[v,.bool true],v,.bool true,v,.bool true]
   [.keep,.pure,.pure,Ak6 (.tmp 17) q.gM 2 _ HCK.out,Ak5 H7.out Akq,Ak4 (.tmp 18) (.tmp 19) q.gK n f (node,i) (some v) HO.out HM.out.mp hkey.out,.keep,.pure,.pure,.keep,.keep] (fun _=>by kernel_rfl) (by kernel_rfl) rfl rfl (fun W=>by kernel_rfl) (by kernel_rfl) ?_
  intro X hX;simp only [B7,Act.put,List.setIfInBounds_toArray,List.set_cons_zero,List.set_cons_succ];have HV:=Lib.hid hv;clear ho hv;go_wp2;go_ret;have hEX:=HE1.out.trans hX;exact ⟨g,n,f,by rw [HV.out];rfl,hg,hr.ext hX,HM0.out.ext hEX,fun _ _=>rfl,Aj8 (hEX.grownBy none)⟩
 | none=>
  have HO:=Lib.hid ho;refine Akx 42 true [.pointer (some ⟨q.gM,0,none⟩),.pointer (some ⟨q.gM,0,none⟩),.pointer (some ⟨q.gM,2,none⟩),.map (some q.gK),.agg #[iv node,iv i],.tuple #[.slice none 0 0,.bool false],.tuple #[.slice none 0 0,.bool false],.slice none 0 0,.bool false,.slice none 0 0,.bool false]
   [.keep,.pure,.pure,Ak6 (.tmp 17) q.gM 2 _ HCK.out,Ak5 H7.out Akq,Ak4 (.tmp 18) (.tmp 19) q.gK n f (node,i) none HO.out HM.out.mp hkey.out,.keep,.pure,.pure,.keep,.keep] (fun _=>by kernel_rfl) (by kernel_rfl) rfl rfl (fun W=>by kernel_rfl) (by kernel_rfl) ?_
  intro w2 hX;simp only [B7,Act.put,List.setIfInBounds_toArray,List.set_cons_zero,List.set_cons_succ];clear ho;have hEX:=HE1.out.trans hX;have hM2:=HM0.out.ext hEX;have hrange:=hM2.node HQ.out node (by rw [HNX.out];exact hn);have f122:=Lib.hid (HC.out A w2 n f i HI.out hM2);obtain ⟨m,hm⟩:∃ m,q.xs.getD node ⟨0,0,0,0#256,0,0⟩=m:=⟨_,rfl⟩;rw [hm] at hrange f122;have cX:=(cell_of_row w2 q.gM 0 _ _ _ (hM2.box HQ.out)).trans (show (#[.slice (some ⟨q.bx,q.ox,none⟩) q.xs.length q.cx,q.vb,.map (some q.gK)]:Array Value)[0]? = some (.slice (some ⟨q.bx,q.ox,none⟩) q.xs.length q.cx) from rfl);rw [HNX.out] at cX;have H72:=Lib.hid (hX.heap H7.out);have HEX:=Lib.hid hEX;have HM2:=Lib.hid hM2;clear hm hM2 hEX hX;go_upto_region 6 with (first
   | (refine wpList_load_mid rfl 64 (.tmp 31) rfl q.bx (q.ox+node*9) rfl _ _ hrange Tryz.underlying64 rfl (Iy m) ?_)
   | (go_at_call 122;(with_reducible refine f122.out.mono ?_);rintro e w3 ⟨g,n3,f3,rfl,hle,hr3,hm3,hf3,hg3⟩;have HLE:=Lib.hid hle;have HR3:=Lib.hid hr3;have HM3:=Lib.hid hm3;have HF3:=Lib.hid hf3;have HG3:=Lib.hid hg3;clear hle hr3 hm3 hf3 hg3))
  have HK2:=Lib.hid ((cell_of_row w3 q.gM 2 _ _ _ (HM3.out.box HQ.out)).trans (show (#[.slice (some ⟨q.bx,q.ox,none⟩) q.xs.length q.cx,q.vb,.map (some q.gK)]:Array Value)[2]? = some (.map (some q.gK)) from rfl));have H73:=Lib.hid (Aj9 HG3.out HM2.out.map H72.out);clear cX;obtain ⟨vg,hvg⟩:∃ v,Value.slice (some ⟨g,0,none⟩) (q.b.length+1) (q.b.length+1)=v:=⟨_,rfl⟩;have HVG:=Lib.hid hvg;simp only [hvg];clear hvg;refine J7 6 42 (by kernel_rfl) (by kernel_rfl) rfl (Aku q.gM q.gK (Hi (node,i)) vg) (fun _ _ _ _=>True) (fun _ _ _ _ _=>trivial) (Amz q.gM q.gK (Hi (node,i)) vg) (fun j hj=>?_) (fun vs w4 hE4 hF _=>?_)
  ·have hd1:=(Ext.refl w3).drew
   match j,hj with
   | 0,_=>
    refine Ar _ _ rfl rfl rfl fun c X hX hdep hkeep=>?_
    have h0:c.tmps.getD 0 undef=.pointer (some ⟨q.gM,0,none⟩):=hkeep 0 (by kernel_rfl);go_simp;exact ⟨_,rfl,Ext.refl X,rfl⟩
   | 1,_=>
    refine Ar _ _ rfl rfl rfl fun c X hX hdep hkeep=>?_
    have h35:c.tmps.getD 35 undef=.pointer (some ⟨q.gM,0,none⟩):=hdep 0 35 (by kernel_rfl);go_simp;exact ⟨_,rfl,Ext.refl X,rfl⟩
   | 2,_=>
    refine Ar _ _ rfl rfl rfl fun c X hX hdep hkeep=>?_
    have h36:c.tmps.getD 36 undef=.pointer (some ⟨q.gM,0,none⟩):=hdep 1 36 (by kernel_rfl);go_simp;exact ⟨_,rfl,Ext.refl X,rfl⟩
   | 3,_=>
    refine Ar _ _ rfl rfl rfl fun c X hX hdep hkeep=>?_
    have h37:c.tmps.getD 37 undef=.pointer (some ⟨q.gM,2,none⟩):=hdep 2 37 (by kernel_rfl);have cK:=(hd1.trans hX).cell HK2.out;go_simp;exact ⟨_,rfl,Ext.refl X,rfl⟩
   | 4,_=>
    refine Ar _ _ rfl rfl rfl fun c X hX hdep hkeep=>?_
    have h7:=hkeep 7 (by kernel_rfl);refine Cy (Ec 175 (.tmp 7) rfl g7 h7 _ _ _ _ ((hd1.trans hX).heap H73.out) Tryz.underlying175 rfl Akq) ?_;exact ⟨_,rfl,Ext.refl X,rfl,fun j u _ _ _=>trivial⟩
   | 5,_=>
    refine Ar _ _ rfl rfl rfl fun c X hX hdep hkeep=>?_
    have h10:c.tmps.getD 10 undef=vg:=hkeep 10 (by kernel_rfl);go_simp;exact ⟨_,rfl,Ext.refl X,rfl⟩
  ·have h0:vs 0=_:=hF 0 (by omega);have h1:vs 1=_:=hF 1 (by omega);have h2:vs 2=_:=hF 2 (by omega);have h3:vs 3=_:=hF 3 (by omega);have h4:vs 4=_:=hF 4 (by omega);have h5:vs 5=_:=hF 5 (by omega);have hE5:=(Ext.refl w3).drew.trans hE4;simp only [Ba,List.drop_succ_cons,List.drop_zero,h0,h1,h2,h3,h4,h5,List.getElem?_toArray,List.getElem?_cons_zero,List.getElem?_cons_succ,Option.bind_some,Act.put,List.setIfInBounds_toArray,List.set_cons_zero,List.set_cons_succ];clear h0 h1 h2 h3 h4 h5 hF;have HM4:=Lib.hid (HM3.out.ext hE5);have HR4:=Lib.hid (HR3.out.ext hE5);have HG4:=Lib.hid (HG3.out.trans (Aj8 (r:=some q.gK) (hE5.grownBy none)));have HFN:Hid (f3 (node,i)=none):=Lib.hid ((HF3.out (node,i) (Nat.le_refl _)).trans HO.out);have hn3:n3<maxLen:=by
    have h1:=HM4.out.le;have h2:=Akw (fun x=>(f3 (x / (q.b.length+1),x % (q.b.length+1))).isSome) (q.xs.length*(q.b.length+1));have h3:q.xs.length*(q.b.length+1)≤200*1001:=Nat.mul_le_mul (by have:=HNX.out;omega) (by omega);unfold Akk at h1;unfold maxLen;omega
   refine wpList_plain rfl fun K' hK'=>?_
   refine Amb (κ:=Nat × Nat) (key:=Hi) rfl Ak7 Tryz.underlying136 rfl HM4.out.mp hn3 (fun y z h=>Acl y z h) (node,i) rfl hkey.out vg rfl (fun w5 h5 hg5=>?_);refine hK' _ _ ?_;have hgne:g≠q.gK:=by
    have h1:=HLE.out;have h2:=HQ.out.hK;have h3:=HM2.out.gr.size;omega
   have hM5:Mtq q A w5 (n3+1) (fun z=>if z=(node,i) then some vg else f3 z):=by
    refine ⟨HM4.out.gr.trans hg5,h5,?_,fun k hk=>⟨(HM4.out.al k hk).1,Nat.lt_of_lt_of_le (HM4.out.al k hk).2 hg5.size⟩,fun y v hv=>?_⟩
    ·have h1:=HM4.out.le;have h2:=Am2 (N:=q.xs.length) (M:=q.b.length+1) (f:=f3) (y:=(node,i)) (by rw [HNX.out];exact hn) (by show i<_;have:=HI.out;omega) HFN.out vg;omega
    ·by_cases e:y=(node,i)
     ·subst e;simp only [if_true] at hv;injection hv with hv
      refine ⟨g,by rw [← hv,HVG.out],fun hA=>?_,HR4.out.keptm hg5 hgne⟩;have h1:=(HM2.out.al g hA).2;have h2:=HLE.out;omega
     ·simp only [e,if_false] at hv;obtain ⟨g',e',h1,h2⟩:=HM4.out.ent y v hv;refine ⟨g',e',h1,h2.keptm hg5 ?_⟩;exact Akj rfl (h2 0 (by rw [Aka];omega)) HM4.out.map
   have HM5:=Lib.hid hM5;have HR5:=Lib.hid (HR4.out.keptm hg5 hgne);have HG5:=Lib.hid (HG4.out.trans hg5);clear hM5 h5 hg5 hgne hK' hn3 hE4 hE5;go_wp2;go_ret;refine ⟨g,n3+1,_,by rw [HVG.out];rfl,fun hA=>?_,HR5.out,HM5.out,fun y hy=>?_,(Aj8 (r:=some q.gK) (HEX.out.grownBy none)).trans HG5.out⟩
   ·have h1:=(HM0.out.al g hA).2;have h2:=HLE.out;have h3:=HEX.out.size;omega
   ·have hne:y≠(node,i):=fun e=>by rw [e] at hy;exact absurd hy (Nat.lt_irrefl _)
    simp only [hne,if_false];exact HF3.out y (Nat.le_of_lt hy)
end Go.Proofs.YtaiogolidlamiaaGreatDoor
