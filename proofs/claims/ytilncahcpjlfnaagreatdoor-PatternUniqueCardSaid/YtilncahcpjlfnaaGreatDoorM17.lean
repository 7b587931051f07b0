import Derived.Test.YtilncahcpjlfnaaGreatDoorM16
import Derived.Test.YtilncahcpjlfnaaGreatDoorM01
import Derived.Test.YtilncahcpjlfnaaGreatDoorM09
import Derived.Test.YtilncahcpjlfnaaGreatDoorM12
import Derived.Test.YtilncahcpjlfnaaGreatDoorM14
import Derived.Test.YtilncahcpjlfnaaGreatDoorM08
import Derived.Test.YtilncahcpjlfnaaGreatDoorM15
import Derived.Test.YtilncahcpjlfnaaGreatDoorM13
set_option linter.unusedVariables false
set_option linter.unusedSimpArgs false
set_option maxRecDepth 100000
set_option maxHeartbeats 16000000
open And renaming intro → ï
open Bool renaming false → Ε, true → Α
open Go renaming World → Γ, Value → Δ, info_parts → ϓ, wpList_make_full → Ϟ, Calls → ϛ, wpQuiet_step → Ϧ, undef → Ω
open Go.Act renaming put → η
open Go.Ending renaming returned → Ψ
open Go.IntKind renaming i64 → Φ, u64 → ζ, i64 → Ü
open Go.Lib renaming hid → Z
open Go.Obj renaming cells → Β
open Go.Operand renaming tmp → δ
open Go.Proofs.Tryz renaming prog → Η, underlying40 → Ο
open Go.RowKit renaming Hid → ϟ
open Go.Value renaming bool → ϊ, slice → U, tuple → ϗ, slice → Ϗ, int → Â
open List renaming replicate → θ, getElem?_map → ν, setIfInBounds_toArray → Θ, set_cons_zero → Μ, set_cons_succ → Λ, getD_eq_getElem?_getD → Ζ, length_eq_zero_iff → ϭ, mem_iff_getElem → Ï, getElem?_eq_getElem → Ι, drop_zero → ϰ, length_map → ι, length_set → υ, getElem_mem → ϣ, mem_map → ϴ
open List.cons renaming injEq → ì
open Nat renaming le_refl → Υ, le_trans → μ, lt_of_lt_of_le → Ξ, add_zero → è, zero_add → ϖ
open Option renaming some → J, none → I, getD_some → ϱ
open Option.some renaming inj → ό
namespace Go.Proofs.YtilncahcpjlfnaaGreatDoor
open Go.RowKit Go.Shelf Go.WideMaps
theorem Cw {w:Γ} {b i:Nat} {V:Array Δ} {t:TypeId} {fr:Nat × Nat} {v:Δ} (h:w.heap[b]? = J (Β V t fr)) (e:V[i]? = J v):w.cell? ⟨b,i,I⟩=J v:=(cell_of_row w b i _ _ _ h).trans e
theorem Hd {E:RNode} {k:Nat} (h:E.kind=k):(rnC E)[0]? = J (.int Φ (k:Int)):=by rw[<-h];rfl
theorem OD (N:Nat):θ N Ε=Bd N (λ_=>Ε):=by
 apply List.ext_getElem?;intro j;simp only[Bd,ν,List.getElem?_replicate];by_cases E:j<N
 ·simp[E]
 simp[E]
theorem Gu {q:Mq} {A:Nat->Prop} {W w':Γ} {f G:Nat × Nat->Option Δ} {node H E i N:Nat} {row:Nat->Bool} {base:Nat} (T:q.b.length+1=N) (X:W.heap.size<=E) (hM:Mt q (λk=>A k\/k=E) w' H G)
  (hO:w'.ownsRow base 4 1 (U (J ⟨E,0,I⟩) N N) N ((Bd N row).map ϊ)) (hF:∀ y,node<=y.1->G y=f y) (hG:W.grownBy w' (J q.gK)) (L:Ag) (hR:∀ j,j<N->An L q.b i j=row j) :
  DS q A W f node (Bh L q.b i) (Ψ (U (J ⟨E,0,I⟩) N N)) w':=by
 subst T;refine⟨E,H,G,rfl,X,?_,hM.weak λk hk=>.inl hk,hF,hG⟩;have h1:=RowAt.of_owns hO (by rw[Ck]);unfold Bh;rw[Cz hR];exact h1
theorem VI (q:Mq) (hq:q.ok) (node:Nat) (hn:node<q.xs.length) (hE:∀ k,k<node->Pe q k):DR q node:=by
 intro A W n f i hi hM;have HQ:=Z hq;have bq:=Z hE;have hb:=hq.hb;have hv:=hq.hx.node node hn;have ey:=MV hn (Ry hv).1;obtain⟨E,ez⟩:=Xq (q.xs.getD node ⟨0,0,0,0#256,0,0⟩);rw[ez] at hv ey;rw[ez];clear ez;have be:=Z ey;obtain⟨i0,fj,fk,fl,fm⟩:=ϓ Fi;have dx:=(Κ W).alloc (Β (rnC E) 96);have H4:=Ad W (Β (rnC E) 96);have HM:=Z (hM.ext dx);have e0:W.grownBy (W.alloc (Β (rnC E) 96)) (J q.gK):=Eb (dx.grownBy I);obtain⟨ab,cb,e4⟩:=hq.by_.len;have cB:=Cw (i:=1) (v:=q.vb) (HM.o.box HQ.o) rfl;have fp:=Z e4;rw[e4] at cB;have HI:=Z hi;obtain⟨B,hB⟩:=Xq (q.b.length);have HB:=Z hB;rw[hB] at cB hb hi;have HV:=Z hv;clear hE hq hM hn ey hv e4 hB;go_enter Tryz.func77,Tryz.ntmps77;go_upto_region 1 with (fail)
 obtain⟨w1,e6⟩:=Xq (W.alloc (Β (rnC E) 96));rw[e6] at dx H4 HM e0 cB;simp only[e6];clear e6;obtain⟨g4,en⟩:=Xq (W.heap.size);have fq:=Z en;rw[en] at H4;simp only[en];clear en;have H4:=Z H4;have gw:=Z e0;have e7:=Z dx;clear e0 dx;go_upto_region 2 with (at_make;refine Ϟ _ rfl _ _ 38 rfl w1.heap.size 4 i0 (.bool Ε) 1 Tryz.underlying38 fj fk fl Φ Φ _ _ (B+1) rfl rfl (by push_cast;rfl) (by push_cast;rfl) (by rw[fm];omega) (by unfold maxLen;omega) (Υ _) ?_;intro w2 e8 fs)
 have eo:Ext w1 w2:=(Κ w1).grown fs (λk e=>by cases e);have ft:w1.heap.size<w2.heap.size:=by have:=(e8.lt w1.heap.size rfl).2;exact this
 obtain⟨gl,e9⟩:=Xq (w1.heap.size);have a7:ϟ (W.heap.size<=gl):=Z (by have:=e7.o.size;omega);have hm:=HM.o.fresh eo ft;obtain⟨N,hN⟩:=Xq (B+1);have HN:ϟ (q.b.length+1=N):=Z (by rw[HB.o];exact hN);have fu:w2.ownsRow w1.heap.size 4 1 (U (J ⟨w1.heap.size,0,I⟩) (B+1) (B+1)) (B+1) ((Bd (B+1) λ_=>Ε).map ϊ):=by rw[<-OD,<-B8];exact e8
 have hO:=W4 fu;simp only[e9,hN] at hO ⊢;rw[e9] at hm;have im:N<=1001:=by omega
 have ir:0<N:=by omega
 have fv:(i:Int)<(N:Int):=by omega
 have a8:ϟ (W.grownBy w2 (J q.gK)):=Z (Eb (r:=J q.gK) ((e7.o.t eo).grownBy I));have ae:=Z hm;have aa:=Z (eo.heap H4.o);have fa:ϟ (gl≠g4):=Z (by have:=Al H4.o;omega);have er:=Z hN;clear HM H4 gw e7 e8 fs eo ft e9 hm fu hN hb fj fk fl fm hi;have h1:=HV.o.k1;have h8:=HV.o.k8;have gy:E.kind=1\/E.kind=2\/E.kind=3\/E.kind=4\/E.kind=5\/E.kind=6\/E.kind=7\/E.kind=8:=by omega
 clear h1 h8;rcases gy with H|H|H|H|H|H|H|H
 ·have bg:=Z H;have ag:=Z (be.o.trans (MT q.xs E H));have ba:=Z (Hd H);have c0:=Cw aa.o ba.o;clear H be;clear cB;go_wp2;go_ret;exact Gu HN.o a7.o ae.o hO (λ_ _=>rfl) a8.o _ λj _=>by rw[ag.o];exact RW _ _ _
 ·have bg:=Z H;have ag:=Z (be.o.trans (MS q.xs E H));have ba:=Z (Hd H);have c0:=Cw aa.o ba.o;clear H be;clear cB;have fz:=hO.frozenAt i;obtain⟨hP,T⟩:=Ba (f:=ϊ) hO i Α;rw[Gk] at hP;have cL:=Au Ε hO (Ck _ _).symm i (by rw[Ck];omega);have ax:=Z (ae.o.own HQ.o T (.inr rfl));have X:=Z (Gq a8.o T a7.o);clear T hO ae a8;go_wp2;go_ret;exact Gu HN.o a7.o ax.o hP (λ_ _=>rfl) X.o _ λj _=>by
   rw[ag.o,Zj _ _ _ HI.o];by_cases e:j=i
   ·simp[e]
   simp[e]
 ·have bg:=Z H;have ag:=Z (be.o.trans (MQ q.xs E H));have ba:=Z (Hd H);have c0:=Cw aa.o ba.o;clear H be;have gz:=cB;go_upto_region 6 with (fail)
  have hf:er.o=er.o:=rfl;clear hf c0;have fb:w2.cell? ⟨q.gM,1,I⟩=J (U ab B cb):=by have:=Cw (i:=1) (v:=q.vb) (ae.o.box HQ.o) rfl;rw[this,fp.o,HB.o]
  clear cB gz;have kB:=Aw fb;obtain⟨wa,fx⟩:=Xq (w2);by_cases fy:i<B
  ·have iw:(i:Int)<(B:Int):=by omega
   obtain⟨aw,bw,ho,cw,hv,ha,hc⟩:=By.split (ae.o.word HQ.o);rw[fp.o] at hv;injection hv with gb hp hs
   have ht:ab=J ⟨bw,ho,I⟩:=gb.trans (ha (by rw[HB.o];omega));have fc:=hc i (by rw[HB.o];exact fy);obtain⟨x,hx⟩:=Xq (q.b.getD i 0);rw[hx] at fc;have HX:=Z hx;clear hx hc ha gb hp hs;subst ht;have kW:=Aw fc;have h4:=Aw (Cw (i:=1) (v:=.int ζ (wd E.c 0)) aa.o rfl);have h5:=Aw (Cw (i:=2) (v:=.int ζ (wd E.c 1)) aa.o rfl);have h6:=Aw (Cw (i:=3) (v:=.int ζ (wd E.c 2)) aa.o rfl);have h7:=Aw (Cw (i:=4) (v:=.int ζ (wd E.c 3)) aa.o rfl);have iz:x.toNat<256:=x.toNat_lt;have f131:∀ e:EW w2,ϟ (ϛ Η 97 #[.agg #[.int ζ (wd E.c 0),.int ζ (wd E.c 1),.int ζ (wd E.c 2),.int ζ (wd E.c 3)],.int .u8 (x.toNat:Int)] e.W λr w'=>r=Ψ (.bool (Ft E.c (x.toNat:Int)))/\Ext e.W w'):=λe=>Z (Zn E.c (x.toNat:Int) (by omega) (by omega) e.W)
   obtain⟨r,hr⟩:=Xq (Ft E.c (x.toNat:Int));rw[hr] at f131;have HR:=Z hr;clear hr fc fb fx;refine B2 (by kernel_rfl) (by kernel_rfl) ?_;iterate 19 (with_reducible refine Ϧ (λK hK=>?_);go_simp;first|(refine hK _ ?_;clear hK K)|(apply Exists.intro;refine⟨λ_=>?_,hK _ ?_⟩;(with_reducible exact Ev (f131 _).o);clear hK K))
   refine wpQuiet_nil ?_;rintro _ ⟨e,rfl⟩;have b4:=e.ext;have ah:=Aa hO b4;have ax:=Z (ae.o.ext b4);have X:=Z (a8.o.trans (Eb (r:=J q.gK) (b4.grownBy I)));have cq:=Z (b4.heap aa.o);clear kB kW h4 h5 h6 h7 f131 b4 hO ae a8 aa;generalize e.W=w3 at *;clear e;cases r with
   | false=>go_wp2;go_ret;exact Gu HN.o a7.o ax.o ah (λ_ _=>rfl) X.o _ λj _=>by rw[ag.o,Rw (λx=>E.c.getLsbD x.toNat=Α) _ _ _ Ε ⟨(λh=>by cases h),fun⟨_,h⟩=>by rw[HX.o] at h;have:=HR.o;unfold Ft at this;rw[Int.toNat_natCast,h] at this;exact this.symm⟩];rfl
   | true=>
    have ja:((i:Int)+1)<(N:Int):=by have:=er.o;omega
    have jb:((i:Int)+1).toNat=i+1:=by omega
    have fz:=ah.frozenAt (i+1);obtain⟨hP,T⟩:=Ba (f:=ϊ) ah (i+1) Α;rw[Gk] at hP;have cL:=Au Ε ah (Ck _ _).symm (i+1) (by rw[Ck];omega);have fe:=Z (ax.o.own HQ.o T (.inr rfl));have fq:=Z (Gq X.o T a7.o);clear T ah ax X;go_wp2;go_ret;exact Gu HN.o a7.o fe.o hP (λ_ _=>rfl) fq.o _ λj _=>by
     rw[ag.o,Rw (λx=>E.c.getLsbD x.toNat=Α) _ _ _ Α ⟨λ_=>⟨by rw[HB.o];exact fy,by rw[HX.o];have:=HR.o;unfold Ft at this;rw[Int.toNat_natCast] at this;exact this⟩,λ_=>rfl⟩];by_cases e:j=i+1
     ·simp[e]
     simp[e]
  obtain rfl:B=i:=by have:=er.o;omega
  clear fx fb;refine B2 (by kernel_rfl) (by kernel_rfl) ?_;iterate 19 (with_reducible refine Ϧ (λK hK=>?_);go_simp;(refine hK _ ?_;clear hK K))
  refine wpQuiet_nil ?_;rintro _ ⟨e,rfl⟩;have b4:=e.ext;have ah:=Aa hO b4;have ax:=Z (ae.o.ext b4);have X:=Z (a8.o.trans (Eb (r:=J q.gK) (b4.grownBy I)));have cq:=Z (b4.heap aa.o);clear kB b4 hO ae a8 aa;generalize e.W=w3 at *;clear e;go_wp2;go_ret;exact Gu HN.o a7.o ax.o ah (λ_ _=>rfl) X.o _ λj _=>by rw[ag.o,Rw (λx=>E.c.getLsbD x.toNat=Α) _ _ _ Ε ⟨(λh=>by cases h),fun⟨h,_⟩=>by rw[HB.o] at h;exact absurd h (Nat.lt_irrefl _)⟩];rfl
 ·have bg:=Z H;have ag:=Z (be.o.trans (MP q.xs E H));have ba:=Z (Hd H);have c0:=Cw aa.o ba.o;clear H be;clear cB;have hl:=HV.o.l1 (by rw[bg.o];decide);have hr:=HV.o.r1 (by rw[bg.o];decide);have br:=Z hl;have cy:=Z hr;have b5:=Z (bq.o _ hl);have gf:=Z (DI q HQ.o E.r (bq.o _ hr));have b6:ϟ ((rnC E)[5]? = J (iv E.l)):=Z rfl;have cz:ϟ ((rnC E)[6]? = J (iv E.r)):=Z rfl;obtain⟨nl,b7⟩:=Xq (E.l);obtain⟨nr,c3⟩:=Xq (E.r);rw[b7] at br b5 b6 ag;rw[c3] at cy gf cz ag;clear hl hr b7 c3 bq HV;go_upto_region 9 with (fail)
  clear c0;have bm:=(Κ w2).drew;refine Bl 9 [(0,Α),(1,Α),(2,Α),(3,Α),(4,Α),(5,Α),(6,Α),(7,Ε),(8,Ε),(9,Ε)] (by kernel_rfl) (by kernel_rfl) (λ_ _ _ _ h=>h) (λV=>w2.grownBy V (J q.gK)) (Eb (bm.grownBy I)) ?_;have b8:=Z (ae.o.ext bm);have bn:=Z (Eb (r:=J q.gK) (bm.grownBy I));obtain⟨wx,b9⟩:=Xq (w2.drew);rw[b9] at b8 bn;rw[b9];clear b9 bm;have kl:=λV (G:w2.grownBy V (J q.gK))=>Cw (Du G ae.o.map aa.o) b6.o
  have kr:=λV (G:w2.grownBy V (J q.gK))=>Cw (Du G ae.o.map aa.o) cz.o
  have f89:=Z (b5.o _ wx n f i HI.o b8.o);refine Af (v:=?_) rfl rfl (λV G=>?_) ?_
  rotate_left
  ·clear G;go_simp;first|done|with_reducible rfl
  simp only[η,Θ,Μ,Λ];refine Af (v:=?_) rfl rfl (λV G=>?_) ?_
  rotate_left
  ·clear G;go_simp;first|done|with_reducible rfl
  simp only[η,Θ,Μ,Λ];refine Af (v:=iv nr) rfl rfl (λV G=>?_) ?_
  ·have c1:=kr V G;clear G;go_simp
  simp only[η,Θ,Μ,Λ];refine Af (v:=?_) rfl rfl (λV G=>?_) ?_
  rotate_left
  ·clear G;go_simp;first|done|with_reducible rfl
  simp only[η,Θ,Μ,Λ];refine Af (v:=?_) rfl rfl (λV G=>?_) ?_
  rotate_left
  ·clear G;go_simp;first|done|with_reducible rfl
  simp only[η,Θ,Μ,Λ];refine Af (v:=iv nl) rfl rfl (λV G=>?_) ?_
  ·have c1:=kl V G;clear G;go_simp
  simp only[η,Θ,Μ,Λ];refine Af (v:=?_) rfl rfl (λV G=>?_) ?_
  rotate_left
  ·clear G;go_simp;first|done|with_reducible rfl
  simp only[η,Θ,Μ,Λ];refine Ao rfl (λKk hK=>?_);go_simp
  (with_reducible refine f89.o.mono ?_)
  rintro e w3 ⟨ge,n2,f2,rfl,bb,ak,cg,c7,ca⟩;rw[HN.o];refine hK _ _ (λ_=>bn.o.trans ca) ?_;clear hK Kk;have dh:=Z c7;have X:=Z (bn.o.trans ca);have h9:ge≠gl:=λe=>bb (.inr e)
  have f148:=Z (gf.o _ w3 n2 f2 ge _ cg (Fd _ _ _) ak);rw[HN.o] at f148;clear f89 bb ak cg c7 ca b8 bn;refine Ao rfl (λKk hK=>?_);go_simp
  (with_reducible refine f148.o.mono ?_)
  rintro e w4 ⟨g5,n3,f3,rfl,ia,az,bc,bp,an⟩;rw[HN.o];refine hK _ _ (λ_=>X.o.trans an) ?_;clear hK Kk;have dk:=Z bp;have ck:=Z (a8.o.trans (X.o.trans an));have ib:ϟ (W.heap.size<=g5):=Z (by have h1:=a8.o.size;have h2:=X.o.size;omega);have cl:=Z bc;have ic:=Z az;clear f148 ia az bc bp an kl kr h9;refine Ao rfl (λKk hK=>?_);go_simp;refine hK _ _ (λh=>absurd h (by omega)) ?_;clear hK Kk;refine Bj ?_;clear hO;go_wp2;go_ret;have et:w4.ownsRow w3.heap.size 4 1 (U (J ⟨g5,0,I⟩) N N) N ((Bd N (An (Cat (A4 q.xs nl) (A4 q.xs nr)) q.b i)).map ϊ):=by have h1:=ic.o;rw[DK,HN.o] at h1;unfold Bh at h1;rw[HN.o] at h1;exact h1
  refine Gu HN.o ib.o (cl.o.weak (λk H=>?_)) et (λy hy=>(dk.o y (by have:=cy.o;omega)).trans (dh.o y (by have:=br.o;omega))) ck.o _ λj _=>by rw[ag.o]
  rcases H with H|H
  ·exact .inl (.inl H)
  exact .inr H
 ·have bg:=Z H;have ag:=Z (be.o.trans (MO q.xs E H));have ba:=Z (Hd H);have c0:=Cw aa.o ba.o;clear H be;clear cB;have hl:=HV.o.l1 (by rw[bg.o];decide);have hr:=HV.o.r1 (by rw[bg.o];decide);have br:=Z hl;have cy:=Z hr;have b5:=Z (bq.o _ hl);have ec:=Z (bq.o _ hr);have b6:ϟ ((rnC E)[5]? = J (iv E.l)):=Z rfl;have cz:ϟ ((rnC E)[6]? = J (iv E.r)):=Z rfl;obtain⟨nl,b7⟩:=Xq (E.l);obtain⟨nr,c3⟩:=Xq (E.r);rw[b7] at br b5 b6 ag;rw[c3] at cy ec cz ag;clear hl hr b7 c3 bq HV;go_upto_region 12 with (fail)
  clear c0;have bm:=(Κ w2).drew;refine Bl 11 [(0,Α),(1,Α),(2,Α),(3,Α),(5,Α),(6,Α),(7,Α),(8,Α),(4,Ε),(9,Ε),(10,Ε),(11,Ε)] (by kernel_rfl) (by kernel_rfl) (λ_ _ _ _ h=>h) (λV=>w2.grownBy V (J q.gK)) (Eb (bm.grownBy I)) ?_;have b8:=Z (ae.o.ext bm);have bn:=Z (Eb (r:=J q.gK) (bm.grownBy I));obtain⟨wx,b9⟩:=Xq (w2.drew);rw[b9] at b8 bn;rw[b9];clear b9 bm;have kl:=λV (G:w2.grownBy V (J q.gK))=>Cw (Du G ae.o.map aa.o) b6.o
  have kr:=λV (G:w2.grownBy V (J q.gK))=>Cw (Du G ae.o.map aa.o) cz.o
  have f89:=Z (b5.o _ wx n f i HI.o b8.o);refine Af (v:=?_) rfl rfl (λV G=>?_) ?_
  rotate_left
  ·clear G;go_simp;first|done|with_reducible rfl
  simp only[η,Θ,Μ,Λ];refine Af (v:=?_) rfl rfl (λV G=>?_) ?_
  rotate_left
  ·clear G;go_simp;first|done|with_reducible rfl
  simp only[η,Θ,Μ,Λ];refine Af (v:=iv nl) rfl rfl (λV G=>?_) ?_
  ·have c1:=kl V G;clear G;go_simp
  simp only[η,Θ,Μ,Λ];refine Af (v:=?_) rfl rfl (λV G=>?_) ?_
  rotate_left
  ·clear G;go_simp;first|done|with_reducible rfl
  simp only[η,Θ,Μ,Λ];refine Af (v:=?_) rfl rfl (λV G=>?_) ?_
  rotate_left
  ·clear G;go_simp;first|done|with_reducible rfl
  simp only[η,Θ,Μ,Λ];refine Af (v:=?_) rfl rfl (λV G=>?_) ?_
  rotate_left
  ·clear G;go_simp;first|done|with_reducible rfl
  simp only[η,Θ,Μ,Λ];refine Af (v:=iv nr) rfl rfl (λV G=>?_) ?_
  ·have c1:=kr V G;clear G;go_simp
  simp only[η,Θ,Μ,Λ];refine Af (v:=?_) rfl rfl (λV G=>?_) ?_
  rotate_left
  ·clear G;go_simp;first|done|with_reducible rfl
  simp only[η,Θ,Μ,Λ];refine Ao rfl (λKk hK=>?_);go_simp
  (with_reducible refine f89.o.mono ?_)
  rintro e w3 ⟨ge,n2,f2,rfl,bb,ak,cg,c7,ca⟩;rw[HN.o];refine hK _ _ (λ_=>bn.o.trans ca) ?_;clear hK Kk;have dh:=Z c7;have X:=Z (bn.o.trans ca);have du:ϟ (ge≠gl):=Z λe=>bb (.inr e)
  have ed:=Z (Lo rfl (ak 0 (by rw[Fd];omega)) cg.map);have a1:=Z ak;have ee:=Z (ec.o _ w3 n2 f2 i HI.o cg);clear f89 bb ak cg c7 ca b8 bn;refine Ao rfl (λKk hK=>?_);go_simp
  (with_reducible refine ee.o.mono ?_)
  rintro e w4 ⟨g5,n3,f3,rfl,bb,ak,bc,bp,an⟩;rw[HN.o];refine hK _ _ (λ_=>X.o.trans an) ?_;clear hK Kk;have dk:ϟ (∀ y,node<=y.1->f3 y=f y):=Z λy hy=>(bp y (by have:=cy.o;omega)).trans (dh.o y (by have:=br.o;omega))
  have ck:=Z (a8.o.trans (X.o.trans an));have ct:=Z (X.o.trans an);have cl:=Z bc;have ff:ϟ (g5≠gl):=Z λe=>bb (.inr e)
  have dm:ϟ (RowAt w4 g5 (Bd N (An (A4 q.xs nr) q.b i))):=Z (by unfold Bh at ak;rw[HN.o] at ak;exact ak);have cd:ϟ (RowAt w4 ge (Bd N (An (A4 q.xs nl) q.b i))):=Z (by have h1:=a1.o.keptm an ed.o;unfold Bh at h1;rw[HN.o] at h1;exact h1)
  have ef:=Z (X.o.trans an);have dn:=Z (Du ct.o ae.o.map aa.o);have az:=hO.kept ct.o (.inr λe=>by have h1:=(ae.o.al gl (.inr rfl)).1;have h2:=HQ.o.hK;simp[Δ.ownBlock] at e;omega)
  have az:w4.ownsRow 0 4 1 (U (J ⟨gl,0,I⟩) N N) N ((Bd N (λx=>if x<0 then An (A4 q.xs nl) q.b i x||An (A4 q.xs nr) q.b i x else Ε)).map ϊ):=by rw[Cz (λj _=>by rw[if_neg (by omega)]:∀ j,j<N->(if j<0 then An (A4 q.xs nl) q.b i j||An (A4 q.xs nr) q.b i j else Ε)=Ε)];exact az
  clear ee bb ak bc bp an kl kr dh X ed a1 ct hO aa ae a8;refine Ao rfl (λKk hK=>?_);go_simp;refine hK _ _ (λ_=>?_) ?_
  ·exact ef.o
  clear hK Kk;refine Ao rfl (λKk hK=>?_);go_simp;refine hK _ _ (λh=>absurd h (by omega)) ?_;clear hK Kk ef;refine Bj ?_;have c9:ϟ (∀ j,An (A4 q.xs node) q.b i j=(An (A4 q.xs nl) q.b i j||An (A4 q.xs nr) q.b i j)):=Z λj=>by rw[ag.o];exact RU _ _ _ _ _
  obtain⟨L1,da⟩:=Xq (An (A4 q.xs nl) q.b i);obtain⟨L2,eg⟩:=Xq (An (A4 q.xs nr) q.b i);simp only[da,eg] at az cd dm c9;clear da eg ag;go_wp2_with (fail);go_loopw [78] (λvj W'=>∃ j:Nat,j<=N/\vj=.int Φ j/\ϟ (Mt q (λk=>A k\/k=gl) W' n3 f3)/\W'.ownsRow 0 4 1 (U (J ⟨gl,0,I⟩) N N) N ((Bd N (λx=>if x<j then L1 x||L2 x else Ε)).map ϊ)/\ϟ (RowAt W' ge (Bd N L1))/\ϟ (RowAt W' g5 (Bd N L2))/\ϟ (W.grownBy W' (J q.gK))/\ϟ (W'.heap[g4]? = J (Β (rnC E) 96 (0,0))))
   (λvj _=>N-(intOf vj).toNat)
  case atStart=>exact⟨0,by omega,rfl,cl,az,cd,dm,ck,dn⟩
  clear az cl cd dm ck dn;obtain⟨j,gg,rfl,ax,ah,a1,eh,X,cq⟩:=hrel;by_cases bl:j<N
  ·have gi:(j:Int)<(N:Int):=by omega
   have c0:=Cw cq.o ba.o;have cL:=Au Ε ah (Ck _ _).symm j (by rw[Ck];exact bl);have cE:=a1.o j (by rw[Ck];exact bl);rw[Fr _ _ _ bl] at cE;have cF:=eh.o j (by rw[Ck];exact bl);rw[Fr _ _ _ bl] at cF;have fz:=ah.frozenAt j;have dc:∀ v,(L1 j||L2 j)=v->∀ x,x<N->(if x=j then v else if x<j then L1 x||L2 x else Ε)=if x<j+1 then L1 x||L2 x else Ε:=λv hv x _=>by
    by_cases e1:x=j
    ·subst e1;rw[if_pos rfl,if_pos (by omega),hv]
    by_cases e2:x<j
    ·rw[if_neg e1,if_pos e2,if_pos (by omega)]
    rw[if_neg e1,if_neg e2,if_neg (by omega)]
   have cn:=Z dc;clear dc;obtain⟨x,hx⟩:=Xq (L1 j);obtain⟨y,hy⟩:=Xq (L2 j);rw[hx] at cE;rw[hy] at cF;have HX:=Z hx;have HY:=Z hy;clear hx hy;obtain⟨v,hv⟩:=Xq ((x||y));obtain⟨hP,T⟩:=Ba (f:=ϊ) ah j v;have cp:(wr.setCell ⟨gl,j,I⟩ (.bool v)).ownsRow 0 4 1 (U (J ⟨gl,0,I⟩) N N) N ((Bd N (λx=>if x<j+1 then L1 x||L2 x else Ε)).map ϊ):=by rw[Gk,Cz (cn.o v (by rw[HX.o,HY.o];exact hv))] at hP;exact hP
   have dp:=Z (ax.o.own HQ.o T (.inr rfl));have dq:=Z (a1.o.keptm T du.o);have fg:=Z (eh.o.keptm T ff.o);have dr:=Z (Gq X.o T a7.o);have dv:=Z ((T.block g4 (Al cq.o) (λe=>fa.o (by injection e with e;exact e.symm))).trans cq.o);clear hP T ah cn HX HY;cases x<;>cases y
   all_goals
    first
    | (obtain rfl:Α=v:=hv)
    | (obtain rfl:Ε=v:=hv)
    go_wp2;go_roundw
    case rel=>exact⟨j+1,by omega,by go_num,dp,cp,dq,fg,dr,dv⟩
    simp[intOf];omega
  obtain rfl:N=j:=by omega
  clear fv;go_wp2;go_ret;exact Gu HN.o a7.o ax.o ah dk.o X.o _ λj hj=>by rw[c9.o,if_pos hj]
 ·have bg:=Z H;have ag:=Z (be.o.trans (MN q.xs E H));have ba:=Z (Hd H);have c0:=Cw aa.o ba.o;clear H be;clear cB;have hl:=HV.o.l1 (by rw[bg.o];decide);have hr:=HV.o.r1 (by rw[bg.o];decide);have br:=Z hl;have cy:=Z hr;have b5:=Z (bq.o _ hl);have ec:=Z (bq.o _ hr);have b6:ϟ ((rnC E)[5]? = J (iv E.l)):=Z rfl;have cz:ϟ ((rnC E)[6]? = J (iv E.r)):=Z rfl;obtain⟨nl,b7⟩:=Xq (E.l);obtain⟨nr,c3⟩:=Xq (E.r);rw[b7] at br b5 b6 ag;rw[c3] at cy ec cz ag;clear hl hr b7 c3 bq HV;go_upto_region 12 with (fail)
  clear c0;have bm:=(Κ w2).drew;refine Bl 11 [(0,Α),(1,Α),(2,Α),(3,Α),(5,Α),(6,Α),(7,Α),(8,Α),(4,Ε),(9,Ε),(10,Ε),(11,Ε)] (by kernel_rfl) (by kernel_rfl) (λ_ _ _ _ h=>h) (λV=>w2.grownBy V (J q.gK)) (Eb (bm.grownBy I)) ?_;have b8:=Z (ae.o.ext bm);have bn:=Z (Eb (r:=J q.gK) (bm.grownBy I));obtain⟨wx,b9⟩:=Xq (w2.drew);rw[b9] at b8 bn;rw[b9];clear b9 bm;have kl:=λV (G:w2.grownBy V (J q.gK))=>Cw (Du G ae.o.map aa.o) b6.o
  have kr:=λV (G:w2.grownBy V (J q.gK))=>Cw (Du G ae.o.map aa.o) cz.o
  have f89:=Z (b5.o _ wx n f i HI.o b8.o);refine Af (v:=?_) rfl rfl (λV G=>?_) ?_
  rotate_left
  ·clear G;go_simp;first|done|with_reducible rfl
  simp only[η,Θ,Μ,Λ];refine Af (v:=?_) rfl rfl (λV G=>?_) ?_
  rotate_left
  ·clear G;go_simp;first|done|with_reducible rfl
  simp only[η,Θ,Μ,Λ];refine Af (v:=iv nl) rfl rfl (λV G=>?_) ?_
  ·have c1:=kl V G;clear G;go_simp
  simp only[η,Θ,Μ,Λ];refine Af (v:=?_) rfl rfl (λV G=>?_) ?_
  rotate_left
  ·clear G;go_simp;first|done|with_reducible rfl
  simp only[η,Θ,Μ,Λ];refine Af (v:=?_) rfl rfl (λV G=>?_) ?_
  rotate_left
  ·clear G;go_simp;first|done|with_reducible rfl
  simp only[η,Θ,Μ,Λ];refine Af (v:=?_) rfl rfl (λV G=>?_) ?_
  rotate_left
  ·clear G;go_simp;first|done|with_reducible rfl
  simp only[η,Θ,Μ,Λ];refine Af (v:=iv nr) rfl rfl (λV G=>?_) ?_
  ·have c1:=kr V G;clear G;go_simp
  simp only[η,Θ,Μ,Λ];refine Af (v:=?_) rfl rfl (λV G=>?_) ?_
  rotate_left
  ·clear G;go_simp;first|done|with_reducible rfl
  simp only[η,Θ,Μ,Λ];refine Ao rfl (λKk hK=>?_);go_simp
  (with_reducible refine f89.o.mono ?_)
  rintro e w3 ⟨ge,n2,f2,rfl,bb,ak,cg,c7,ca⟩;rw[HN.o];refine hK _ _ (λ_=>bn.o.trans ca) ?_;clear hK Kk;have dh:=Z c7;have X:=Z (bn.o.trans ca);have du:ϟ (ge≠gl):=Z λe=>bb (.inr e)
  have ed:=Z (Lo rfl (ak 0 (by rw[Fd];omega)) cg.map);have a1:=Z ak;have ee:=Z (ec.o _ w3 n2 f2 i HI.o cg);clear f89 bb ak cg c7 ca b8 bn;refine Ao rfl (λKk hK=>?_);go_simp
  (with_reducible refine ee.o.mono ?_)
  rintro e w4 ⟨g5,n3,f3,rfl,bb,ak,bc,bp,an⟩;rw[HN.o];refine hK _ _ (λ_=>X.o.trans an) ?_;clear hK Kk;have dk:ϟ (∀ y,node<=y.1->f3 y=f y):=Z λy hy=>(bp y (by have:=cy.o;omega)).trans (dh.o y (by have:=br.o;omega))
  have ck:=Z (a8.o.trans (X.o.trans an));have ct:=Z (X.o.trans an);have cl:=Z bc;have ff:ϟ (g5≠gl):=Z λe=>bb (.inr e)
  have dm:ϟ (RowAt w4 g5 (Bd N (An (A4 q.xs nr) q.b i))):=Z (by unfold Bh at ak;rw[HN.o] at ak;exact ak);have cd:ϟ (RowAt w4 ge (Bd N (An (A4 q.xs nl) q.b i))):=Z (by have h1:=a1.o.keptm an ed.o;unfold Bh at h1;rw[HN.o] at h1;exact h1)
  have ef:=Z (X.o.trans an);have dn:=Z (Du ct.o ae.o.map aa.o);have az:=hO.kept ct.o (.inr λe=>by have h1:=(ae.o.al gl (.inr rfl)).1;have h2:=HQ.o.hK;simp[Δ.ownBlock] at e;omega)
  have az:w4.ownsRow 0 4 1 (U (J ⟨gl,0,I⟩) N N) N ((Bd N (λx=>if x<0 then An (A4 q.xs nl) q.b i x&&An (A4 q.xs nr) q.b i x else Ε)).map ϊ):=by rw[Cz (λj _=>by rw[if_neg (by omega)]:∀ j,j<N->(if j<0 then An (A4 q.xs nl) q.b i j&&An (A4 q.xs nr) q.b i j else Ε)=Ε)];exact az
  clear ee bb ak bc bp an kl kr dh X ed a1 ct hO aa ae a8;refine Ao rfl (λKk hK=>?_);go_simp;refine hK _ _ (λ_=>?_) ?_
  ·exact ef.o
  clear hK Kk;refine Ao rfl (λKk hK=>?_);go_simp;refine hK _ _ (λh=>absurd h (by omega)) ?_;clear hK Kk ef;refine Bj ?_;have c9:ϟ (∀ j,An (A4 q.xs node) q.b i j=(An (A4 q.xs nl) q.b i j&&An (A4 q.xs nr) q.b i j)):=Z λj=>by rw[ag.o];exact RY _ _ _ _ _
  obtain⟨L1,da⟩:=Xq (An (A4 q.xs nl) q.b i);obtain⟨L2,eg⟩:=Xq (An (A4 q.xs nr) q.b i);simp only[da,eg] at az cd dm c9;clear da eg ag;go_wp2_with (fail);go_loopw [78] (λvj W'=>∃ j:Nat,j<=N/\vj=.int Φ j/\ϟ (Mt q (λk=>A k\/k=gl) W' n3 f3)/\W'.ownsRow 0 4 1 (U (J ⟨gl,0,I⟩) N N) N ((Bd N (λx=>if x<j then L1 x&&L2 x else Ε)).map ϊ)/\ϟ (RowAt W' ge (Bd N L1))/\ϟ (RowAt W' g5 (Bd N L2))/\ϟ (W.grownBy W' (J q.gK))/\ϟ (W'.heap[g4]? = J (Β (rnC E) 96 (0,0))))
   (λvj _=>N-(intOf vj).toNat)
  case atStart=>exact⟨0,by omega,rfl,cl,az,cd,dm,ck,dn⟩
  clear az cl cd dm ck dn;obtain⟨j,gg,rfl,ax,ah,a1,eh,X,cq⟩:=hrel;by_cases bl:j<N
  ·have gi:(j:Int)<(N:Int):=by omega
   have c0:=Cw cq.o ba.o;have cL:=Au Ε ah (Ck _ _).symm j (by rw[Ck];exact bl);have cE:=a1.o j (by rw[Ck];exact bl);rw[Fr _ _ _ bl] at cE;have cF:=eh.o j (by rw[Ck];exact bl);rw[Fr _ _ _ bl] at cF;have fz:=ah.frozenAt j;have dc:∀ v,(L1 j&&L2 j)=v->∀ x,x<N->(if x=j then v else if x<j then L1 x&&L2 x else Ε)=if x<j+1 then L1 x&&L2 x else Ε:=λv hv x _=>by
    by_cases e1:x=j
    ·subst e1;rw[if_pos rfl,if_pos (by omega),hv]
    by_cases e2:x<j
    ·rw[if_neg e1,if_pos e2,if_pos (by omega)]
    rw[if_neg e1,if_neg e2,if_neg (by omega)]
   have cn:=Z dc;clear dc;obtain⟨x,hx⟩:=Xq (L1 j);obtain⟨y,hy⟩:=Xq (L2 j);rw[hx] at cE;rw[hy] at cF;have HX:=Z hx;have HY:=Z hy;clear hx hy;obtain⟨v,hv⟩:=Xq ((x&&y));obtain⟨hP,T⟩:=Ba (f:=ϊ) ah j v;have cp:(wr.setCell ⟨gl,j,I⟩ (.bool v)).ownsRow 0 4 1 (U (J ⟨gl,0,I⟩) N N) N ((Bd N (λx=>if x<j+1 then L1 x&&L2 x else Ε)).map ϊ):=by rw[Gk,Cz (cn.o v (by rw[HX.o,HY.o];exact hv))] at hP;exact hP
   have dp:=Z (ax.o.own HQ.o T (.inr rfl));have dq:=Z (a1.o.keptm T du.o);have fg:=Z (eh.o.keptm T ff.o);have dr:=Z (Gq X.o T a7.o);have dv:=Z ((T.block g4 (Al cq.o) (λe=>fa.o (by injection e with e;exact e.symm))).trans cq.o);clear hP T ah cn HX HY;cases x<;>cases y
   all_goals
    first
    | (obtain rfl:Α=v:=hv)
    | (obtain rfl:Ε=v:=hv)
    go_wp2;go_roundw
    case rel=>exact⟨j+1,by omega,by go_num,dp,cp,dq,fg,dr,dv⟩
    simp[intOf];omega
  obtain rfl:N=j:=by omega
  clear fv;go_wp2;go_ret;exact Gu HN.o a7.o ax.o ah dk.o X.o _ λj hj=>by rw[c9.o,if_pos hj]
 ·have bg:=Z H;have ag:=Z (be.o.trans (MM q.xs E H));have ba:=Z (Hd H);have c0:=Cw aa.o ba.o;clear H be;clear cB;have hl:=HV.o.l1 (by rw[bg.o];decide);have br:=Z hl;have b5:=Z (bq.o _ hl);have b6:ϟ ((rnC E)[5]? = J (iv E.l)):=Z rfl;obtain⟨nl,b7⟩:=Xq (E.l);rw[b7] at br b5 b6 ag;clear hl b7 bq HV;have c5:=Cw aa.o b6.o;have f89:=Z (b5.o _ w2 n f i HI.o ae.o);go_upto_region 20 with (go_at_call 53;(with_reducible refine f89.o.mono ?_);rintro e w4 ⟨ge,n3,f3,rfl,bb,ak,bc,bp,an⟩;rw[HN.o];have gj:=Z bb;have a1:=Z ak;have cl:=Z bc;have gk:=Z bp;have eu:=Z an;clear bb ak bc bp an)
  clear c0 c5 f89;have dk:ϟ (∀ y,node<=y.1->f3 y=f y):=Z λy hy=>gk.o y (by have:=br.o;omega)
  have ck:=Z (a8.o.trans eu.o);have du:ϟ (ge≠gl):=Z λe=>gj.o (.inr e)
  have cd:ϟ (RowAt w4 ge (Bd N (An (A4 q.xs nl) q.b i))):=Z (by have h1:=a1.o;unfold Bh at h1;rw[HN.o] at h1;exact h1)
  have dn:=Z (Du eu.o ae.o.map aa.o);have az:=hO.kept eu.o (.inr λe=>by have h1:=(ae.o.al gl (.inr rfl)).1;have h2:=HQ.o.hK;simp[Δ.ownBlock] at e;omega)
  have c9:ϟ (∀ j,j<N->An (A4 q.xs node) q.b i j=(decide (i<=j)&&!An (A4 q.xs nl) q.b i j)):=Z λj hj=>by rw[ag.o];exact RV _ _ _ _ (by rw[HN.o];exact hj)
  obtain⟨L1,da⟩:=Xq (An (A4 q.xs nl) q.b i);simp only[da] at cd c9;have az:w4.ownsRow 0 4 1 (U (J ⟨gl,0,I⟩) N N) N ((Bd N (λx=>if x<i then Ε else if x<i then !L1 x else Ε)).map ϊ):=by
   rw[Cz (λj _=>by
    by_cases e:j<i
    ·rw[if_pos e]
    rw[if_neg e,if_neg e]:∀ j,j<N->(if j<i then Ε else if j<i then !L1 j else Ε)=Ε)]
   exact az
  clear da ag gj a1 gk eu hO aa ae a8;go_wp2_with (fail);go_loopw [12] (λvj W'=>∃ j:Nat,i<=j/\j<=N/\vj=.int Φ j/\ϟ (Mt q (λk=>A k\/k=gl) W' n3 f3)/\W'.ownsRow 0 4 1 (U (J ⟨gl,0,I⟩) N N) N ((Bd N (λx=>if x<i then Ε else if x<j then !L1 x else Ε)).map ϊ)/\ϟ (RowAt W' ge (Bd N L1))/\ϟ (W.grownBy W' (J q.gK)))
   (λvj _=>N-(intOf vj).toNat)
  case atStart=>exact⟨i,Υ _,by omega,rfl,cl,az,cd,ck⟩
  clear az cl cd ck dn;obtain⟨j,jc,gg,rfl,ax,ah,a1,X⟩:=hrel;by_cases bl:j<N
  ·have gi:(j:Int)<(N:Int):=by omega
   have cL:=Au Ε ah (Ck _ _).symm j (by rw[Ck];exact bl);have cE:=a1.o j (by rw[Ck];exact bl);rw[Fr _ _ _ bl] at cE;have fz:=ah.frozenAt j;have dc:∀ v,(!L1 j)=v->∀ x,x<N->(if x=j then v else if x<i then Ε else if x<j then !L1 x else Ε)=if x<i then Ε else if x<j+1 then !L1 x else Ε:=λv hv x _=>by
    by_cases e1:x=j
    ·subst e1;rw[if_pos rfl,if_neg (by omega),if_pos (by omega),hv]
    rw[if_neg e1];by_cases e3:x<i
    ·rw[if_pos e3,if_pos e3]
    rw[if_neg e3,if_neg e3];by_cases e2:x<j
    ·rw[if_pos e2,if_pos (by omega)]
    rw[if_neg e2,if_neg (by omega)]
   have cn:=Z dc;clear dc;obtain⟨x,hx⟩:=Xq (L1 j);rw[hx] at cE;have HX:=Z hx;clear hx;cases x
   ·obtain⟨hP,T⟩:=Ba (f:=ϊ) ah j Α;have cp:(wr.setCell ⟨gl,j,I⟩ (.bool Α)).ownsRow 0 4 1 (U (J ⟨gl,0,I⟩) N N) N ((Bd N (λx=>if x<i then Ε else if x<j+1 then !L1 x else Ε)).map ϊ):=by rw[Gk,Cz (cn.o Α (by rw[HX.o];rfl))] at hP;exact hP
    have dp:=Z (ax.o.own HQ.o T (.inr rfl));have dq:=Z (a1.o.keptm T du.o);have dr:=Z (Gq X.o T a7.o);clear hP T ah cn;go_wp2;go_roundw
    case rel=>exact⟨j+1,by omega,by omega,by go_num,dp,cp,dq,dr⟩
    simp[intOf];omega
   obtain⟨hP,T⟩:=Ba (f:=ϊ) ah j Ε;have cp:(wr.setCell ⟨gl,j,I⟩ (.bool Ε)).ownsRow 0 4 1 (U (J ⟨gl,0,I⟩) N N) N ((Bd N (λx=>if x<i then Ε else if x<j+1 then !L1 x else Ε)).map ϊ):=by rw[Gk,Cz (cn.o Ε (by rw[HX.o];rfl))] at hP;exact hP
   have dp:=Z (ax.o.own HQ.o T (.inr rfl));have dq:=Z (a1.o.keptm T du.o);have dr:=Z (Gq X.o T a7.o);clear hP T ah cn;go_wp2;go_roundw
   case rel=>exact⟨j+1,by omega,by omega,by go_num,dp,cp,dq,dr⟩
   simp[intOf];omega
  obtain rfl:N=j:=by omega
  go_wp2;go_ret;exact Gu HN.o a7.o ax.o ah dk.o X.o _ λj hj=>by
   rw[c9.o j hj];by_cases e:j<i
   ·rw[if_pos e];simp;omega
   rw[if_neg e,if_pos hj];simp;omega
 have bg:=Z H;have ag:=Z (be.o.trans (ML q.xs E H));have ba:=Z (Hd H);have c0:=Cw aa.o ba.o;clear H be;clear cB;have hl:=HV.o.l1 (by rw[bg.o];decide);have br:=Z hl;obtain⟨gm,gn,gp,bc⟩:=HV.o.m8 bg.o;have fz:=hO.frozenAt i;obtain⟨hP,T⟩:=Ba (f:=ϊ) hO i Α;rw[Gk] at hP;have cL:=Au Ε hO (Ck _ _).symm i (by rw[Ck];omega);have ax:=Z (ae.o.own HQ.o T (.inr rfl));have X:=Z (Gq a8.o T a7.o);have dv:=(T.block g4 (Al aa.o) (λe=>fa.o (by injection e with e;exact e.symm))).trans aa.o;have cp:(w2.setCell ⟨gl,i,I⟩ (.bool Α)).ownsRow 0 4 1 (U (J ⟨gl,0,I⟩) (q.b.length+1) (q.b.length+1)) (q.b.length+1) ((Bh (pw (A4 q.xs E.l) 0) q.b i).map ϊ):=by
  unfold Bh;rw[HN.o,Cz (g:=λx=>if x=i then Α else Ε) (λj _=>by
   rw[show pw (A4 q.xs E.l) 0=λw=>w=[] from rfl,Zj _ _ _ HI.o];by_cases e:j=i
   ·simp[e]
   simp[e])]
  exact hP
 have f149:=FM q HQ.o E (DI q HQ.o E.l (bq.o _ hl)) gm gp gn bc A _ n f gl i ax.o cp;rw[HN.o] at f149;have f149:=Z f149;have ig:=Z dv;clear T hO ae a8 hl gm gn gp bc dv hP cp HV bq aa;go_wp2_with (first
  | (refine wpList_load_row rfl 96 (δ 4) rfl g4 rfl _ _ _ _ ig.o Tryz.underlying96 rfl (Dh E) ?_)
  | (go_at_call 104;(with_reducible refine f149.o.mono ?_);rintro e w4 ⟨g,n3,f3,rfl,hg,et,bc,bp,an⟩;rw[HN.o];have ih:=Z hg;have ij:=Z et;have fe:=Z bc;have ik:=Z bp;have ct:=Z an;clear hg et bc bp an))
 go_ret;refine⟨g,n3,f3,by rw[HN.o];rfl,?_,?_,fe.o.weak λk H=>.inl H,λy hy=>ik.o y (by have:=br.o;omega),?_⟩
 ·have h1:=ih.o;have h2:=X.o.size;have h3:=a7.o;omega
 ·rw[ag.o];exact RowAt.of_owns ij.o (by rw[Fd])
 have h1:=ct.o;have h2:=X.o;have h3:=a7.o;exact⟨h1.os.trans h2.os,h1.tape.trans h2.tape,h1.output.trans h2.output,μ h2.size h1.size,λk H gq=>(h1.block k (Ξ H h2.size) (λe=>gq (by rw[e])) (by omega)).trans (h2.block k H gq)⟩
def RxV (W:Γ) (v:Δ) (xs:List RNode):Prop:=∃ b o c,v=U (J ⟨b,o,I⟩) xs.length c/\RxAt W b o xs
theorem UI (q:Mq) (E:q.ok) (node:Nat):node<q.xs.length->Pe q node:=by
 induction node using Nat.strongRecOn with
 | _ node H=>exact λG=>UH q E node G (VI q E node G λk T=>H k T (by omega))
theorem Nz (xs:List RNode) (hx:VRx xs) (v:Δ) (bs:List UInt8) (hb:bs.length<=1000) (vb:Δ) (w:Γ) (h:RxV w v xs) (ar:By w vb bs) :
  ϛ Η 22 #[v,vb] w λe w'=>e=Ψ (.bool (An (A4 xs (xs.length-1)) bs 0 bs.length))/\Ext w w':=by
 obtain⟨b,o,T,rfl,G⟩:=h;have f82:=Z (Pj xs hx b o T w G);have HX:=Z hx;have HR:=Z G;have bn:=Z ar;obtain⟨ab,cb,au⟩:=ar.len;have b7:=Z au;have bo:=hx.pos;have bp:=hx.le;obtain⟨N,hN⟩:=Xq (xs.length);obtain⟨B,hB⟩:=Xq (bs.length);have HN:=Z hN;have HB:=Z hB;rw[hN] at f82 bo bp;rw[hB] at au hb;rw[hN,hB];have b8:Ü.wrap ((N:Int)-1)=((N-1:Nat):Int):=by rw[show (N:Int)-1=((N-1:Nat):Int) by omega];exact IntWalk.i64_in _ ⟨by omega,by omega⟩
 subst au;clear hx G ar hN hB;obtain⟨r,G⟩:=Xq (An (A4 xs (N-1)) bs 0 B);have bq:=Z G;rw[G];clear G;have br:=@run_makeMap Η;go_enter Tryz.func22,Tryz.ntmps22;go_upto_region 3 with (go_at_call 40;(with_reducible refine f82.o.mono ?_);rintro e w1 ⟨rfl,aj⟩)
 go_upto_region 4 with (fail)
 have b9:=Z aj;have ak:=Γ.size_alloc w1 (.map #[] 0);have an:=Ad w1 (.map #[] 0);obtain⟨X,ae⟩:=Xq (w1.alloc (.map #[] 0));have aw:ϟ (IsMv X 164 C6 w1.heap.size 0 (λ_=>I)):=Z (by rw[<-ae];exact Rl w1 164 C6);have bb:ϟ (Ext w X):=Z (by rw[<-ae];exact aj.alloc _);rw[ae] at ak an;simp only[ae];clear ae;obtain⟨gK,ao⟩:=Xq (w1.heap.size);have bt:ϟ (w.heap.size<=gK):=Z (by rw[<-ao];exact aj.size);rw[ao] at aw ak an;simp only[ao];clear ao aj br;have bu:ϟ (gK<X.heap.size):=Z (by omega);have bc:=Z (Ah an (Β #[U (J ⟨b,o,I⟩) N T,U ab B cb,.map (J gK)] 123));have ax:=Z (Ad X (Β #[U (J ⟨b,o,I⟩) N T,U ab B cb,.map (J gK)] 123));have af:=(Κ X).alloc (Β #[U (J ⟨b,o,I⟩) N T,U ab B cb,.map (J gK)] 123);obtain⟨E,ay⟩:=Xq (X.alloc (Β #[U (J ⟨b,o,I⟩) N T,U ab B cb,.map (J gK)] 123));rw[ay] at bc ax af;simp only[ay];clear ay an;obtain⟨gM,az⟩:=Xq (gK+1);rw[ak,az] at ax;simp only[az];clear az ak;have a1:=Z (bb.o.t af);have bd:=Z (aw.o.ext af);obtain⟨q,H⟩:=Xq ((Mq.mk xs bs E gM gK b o T (U ab B cb)));have be:q.ok:=by rw[<-H];exact⟨HX.o,by show bs.length<=1000;rw[HB.o];exact hb,by show E.heap[gM]? = _;rw[ax.o,HN.o],Ξ bu.o af.size,HR.o.ext a1.o,bn.o.ext a1.o,⟨_,_,bc.o⟩⟩
 have e1:q.xs=xs:=by rw[<-H]
 have e2:q.b=bs:=by rw[<-H]
 have e3:q.gM=gM:=by rw[<-H]
 have e4:q.W0=E:=by rw[<-H]
 have e5:q.gK=gK:=by rw[<-H]
 clear H;have hM:Mt q (λ_=>False) E 0 (λ_=>I):=⟨by rw[e4];exact (Κ E).grownBy _,by rw[e5];exact bd.o,Nat.zero_le _,λ_ h=>h.elim,λ_ _ h=>by cases h⟩;have f89:=UI q be (N-1) (by rw[e1,HN.o];omega) (λ_=>False) E 0 (λ_=>I) 0 (Nat.zero_le _) hM;rw[e1,e2,e3] at f89;have f89:ϟ (ϛ Η 53 #[.pointer (J ⟨gM,0,I⟩),iv (N-1),.int Φ 0] E λe w'=>DQ q (λ_=>False) E (λ_=>I) (N-1) (Bh (A4 xs (N-1)) bs 0) e w'):=Z f89;have E2:=Z e2;have E5:=Z e5;obtain⟨N2,a8⟩:=Xq (B+1);have bz:ϟ (q.b.length+1=N2):=Z (by rw[e2,HB.o];exact a8);have cc:(B:Int)<(N2:Int):=by omega
 have cd:=Z a8;clear e1 e2 e3 e4 e5 be hM af bb aw bd a8;go_wp2_with (go_at_call 53;(with_reducible refine f89.o.mono ?_);rintro e w4 ⟨g,n2,f2,rfl,hg,bj,b0,b4,bk⟩;rw[bz.o];have cR:=bj B (by rw[Fd,HB.o];exact Nat.lt_succ_self B);rw[show (Bh (A4 xs (N-1)) bs 0).getD B Ε=r by (unfold Bh;rw[Fr _ _ _ (by rw[HB.o];exact Nat.lt_succ_self B)];exact bq.o)] at cR;have b6:=Z bk;clear hg bj b0 b4 bk);go_ret;refine⟨rfl,a1.o.grown b6.o (λk e=>?_)⟩;have e':=ό e;have h1:=E5.o;have h2:=bt.o;omega
open Go.RowKit Go.Shelf
noncomputable def Fk (xs:List RNode) (u:List UInt8):Bool:=An (A4 xs (xs.length-1)) u 0 u.length
noncomputable def Co (ps:List PtN) (x:List UInt8) (cs:List Nat):Nat->Nat->Nat->Bool
 | _,_,0=>Α
 | f,i,k+1=>if (if i+1<ps.length then cs.getD i 0 else x.length)<f then Ε else if Fk (ps.getD i pN).xs (seg x f (if i+1<ps.length then cs.getD i 0 else x.length))=Α then Co ps x cs (if i+1<ps.length then cs.getD i 0 else x.length) (i+1) k else Ε
theorem Ti {W:Γ} {x:List UInt8} {g c:Nat} (h:By W (U (J ⟨g,0,I⟩) x.length c) x) (i j:Nat) (ab:i<=j) (G:j<=x.length) (H:Nat):By W (U (J ⟨g,i,I⟩) (j-i) H) (seg x i j):=by
 have T:(seg x i j).length=j-i:=Gi x i j G;unfold By;rw[T];refine⟨by have:=h.1;omega,?_⟩;by_cases h0:j-i=0
 ·rw[h0];exact .inl ⟨rfl,_,_,rfl⟩
 obtain⟨_,⟨X,_⟩|⟨X,b,ad,ae,E,hb,hc⟩⟩:=h
 ·omega
 injection E with E _ _
 injection E with E
 injection E with h1 h2 _
 subst h1 h2;refine .inr ⟨by omega,_,_,_,rfl,hb,λk hk=>?_⟩;have:=hc (i+k) (by omega);rw[show 0+(i+k)=i+k by omega] at this;rw[this]
 congr 1
 show bv (x.getD (i+k) 0)=bv ((seg x i j).getD k 0);have e:x.getD (i+k) 0=(seg x i j).getD k 0:=by unfold seg;rw[Ζ,Ζ,List.getElem?_drop,List.getElem?_take_of_lt (by omega)]
 rw[e]
theorem Su (ps:List PtN) (hp:PatOk ps) (x:List UInt8) (hx:x.length<=1000) (cs:List Nat) (bp:ps.length<=cs.length+1) (bq:∀ i,i<cs.length->cs.getD i 0<=x.length) (b o b6 g c:Nat) (hc:x.length<=c) (vc:Δ) (w:Γ) (h:PatAt w b o ps) (hb:By w (U (J ⟨g,0,I⟩) x.length c) x) (aw:Ints w vc cs) :
  ϛ Η 20 #[U (J ⟨b,o,I⟩) ps.length b6,U (J ⟨g,0,I⟩) x.length c,vc] w λe w'=>e=Ψ (.bool (Co ps x cs 0 0 ps.length))/\Ext w w':=by
 have HP:=Z hp;have HR:=Z h;have HB:=Z hb;have HC:=Z bq;obtain⟨ac,cc,rfl⟩:=Sl.len aw;have b9:=aw.1;have br:ϟ (0<cs.length->∃ bc oc,ac=J ⟨bc,oc,I⟩/\∀ i,i<cs.length->w.cell? ⟨bc,oc+i,I⟩=J (iv (cs.getD i 0))):=Z λh0=>by
  obtain⟨bc,oc,cy,hv,ax⟩:=â aw h0;injection hv with hv _ _
  exact⟨bc,oc,hv,λi hi=>ax i (by omega)⟩
 obtain⟨m,hm⟩:=Xq (ps.length);obtain⟨n,hn⟩:=Xq (x.length);obtain⟨l,hl⟩:=Xq (cs.length);have HM:=Z hm;have HN:=Z hn;have ca:=hp.le;rw[hm] at ca bp;rw[hn] at hx hc HC HB;rw[hl] at bp HC br b9;rw[hm,hn,hl];clear hp h hb bq aw hm hn hl;go_enter Tryz.func20,Tryz.ntmps20;go_wp2_with (fail);go_loopw [7,8] (λvf vi W=>∃ f i:Nat,i<=m/\f<=n/\vf=.int Φ f/\vi=.int Φ i/\Ext w W/\ϟ (Co ps x cs f i (m-i)=Co ps x cs 0 0 m))
  (λ_ vi _=>m-(intOf vi).toNat)
 case atStart=>exact⟨0,0,by omega,by omega,rfl,rfl,Κ w,Z rfl⟩
 obtain⟨f,i,cz,c3,rfl,rfl,T,HD⟩:=hrel;by_cases bt:i<m
 ·have c4:(i:Int)<(m:Int):=by omega
  have bu:Co ps x cs f i (m-i)=if (if i+1<m then cs.getD i 0 else n)<f then Ε else if Fk (ps.getD i pN).xs (seg x f (if i+1<m then cs.getD i 0 else n))=Α then Co ps x cs (if i+1<m then cs.getD i 0 else n) (i+1) (m-(i+1)) else Ε:=by rw[show m-i=(m-(i+1))+1 by omega,Co,HM.o,HN.o]
  have ad:=Z bu;clear bu;have c5:Ü.wrap ((i:Int)+1)=(i:Int)+1:=IntKind.wrap_i64_id (by omega) (by omega);obtain⟨b',o',c',bw,bz⟩:=HR.o i (by rw[HM.o];exact bt);have bg:=(HP.o.part i (by rw[HM.o];exact bt)).1;have c0:=bw 0 _ rfl;rw[è] at c0;have bh:=Z (λV (E:Ext wr V)=>(T.t E).cell c0);have bj:=Z (λV (E:Ext wr V)=>bz.ext (T.t E));obtain⟨xs,b0⟩:=Xq ((ps.getD i pN).xs);rw[b0] at bg bh bj ad;clear c0 bw bz b0;have cd:∃ t,(if i+1<m then cs.getD i 0 else n)=t/\t<=n:=by
   refine⟨_,rfl,?_⟩;split
   ·exact HC.o i (by omega)
   exact Υ _
  obtain⟨t,ht,aj⟩:=cd;rw[ht] at ad;have HT:=Z ht;clear ht;have cf:∀ a:Act,True:=λ_=>trivial
  clear cf;by_cases b5:i+1<m
  ·have cg:(i:Int)+1<(m:Int):=by omega
   have a6:cs.getD i 0=t:=by have:=HT.o;rw[if_pos b5] at this;exact this
   obtain⟨bc,oc,rfl,ax⟩:=br.o (by omega);have ct:=T.cell (ax i (by omega));rw[a6] at ct;have c6:(i:Int)<(l:Int):=by omega
   clear a6 ax;go_upto_region 8 with (fail)
   by_cases af:t<f
   ·have bl:(t:Int)<(f:Int):=by omega
    have hd:ϟ (Co ps x cs 0 0 m=Ε):=Z (by rw[<-HD.o,ad.o,if_pos af]);refine Bl 15 [(0,Α),(1,Α),(2,Α),(3,Α),(4,Α),(5,Α),(6,Α),(7,Α),(8,Α),(9,Α),(10,Α),(11,Α),(12,Α),(13,Ε),(14,Α),(15,Ε)] (by kernel_rfl) (by kernel_rfl) (λ_ _ _ _ h=>h) (λV=>Ext wr V) (Κ wr).drew ?_;have G:=(Κ wr).drew;obtain⟨wy,H⟩:=Xq (wr.drew);rw[H] at G;rw[H];clear H;iterate 4
     refine Af (v:=?_) rfl rfl (λV E=>?_) ?_
     rotate_left
     ·clear E;go_simp;first|done|with_reducible rfl
     simp only[η,Θ,Μ,Λ]
    iterate 9
     refine F5 rfl rfl ?_;simp only[η,Θ,Μ,Λ]
    refine Ii rfl rfl (λ_=>G) ?_;simp only[η,Θ,Μ,Λ];refine F5 rfl rfl ?_;simp only[η,Θ,Μ,Λ];refine Ao rfl (λX hK=>?_);go_simp;refine hK _ _ (λh=>absurd h (by omega)) ?_;clear hK X;refine Bj ?_;have ab:=T.t G;clear G T;go_wp2_with (fail);go_ret;exact⟨by rw[hd.o];rfl,ab⟩
   have bl:¬ (t:Int)<(f:Int):=by omega
   have ck:(f:Int)<=(t:Int):=by omega
   have cl:(t:Int)<=(c:Int):=by omega
   have cm:(0:Int)<=(f:Int):=by omega
   have cn:(0:Int)<=(t:Int):=by omega
   have cp:((t:Int)-(f:Int)).toNat=t-f:=by omega
   have cq:((c:Int)-(f:Int)).toNat=c-f:=by omega
   obtain⟨A0,ag⟩:=Xq ((if c=f then J ⟨g,0,I⟩ else J ⟨g,f,I⟩):Option Addr);have f49:=Z (λV (E:Ext wr V)=>Nz xs bg (U (J ⟨b',o',I⟩) xs.length c') (seg x f t) (by rw[Gi x f t (by rw[HN.o];exact aj)];omega) (U A0 (t-f) (c-f)) V ⟨b',o',c',rfl,bj.o V E⟩ (by
    rw[<-ag];by_cases aq:c=f
    ·rw[if_pos aq,show t-f=0 by omega];have e0:seg x f t=[]:=ϭ.1 (by rw[Gi x f t (by rw[HN.o];exact aj)];omega);rw[e0];exact⟨by simp,.inl ⟨rfl,_,_,rfl⟩⟩
    rw[if_neg aq];exact Ti (by rw[HN.o];exact HB.o.ext (T.t E)) f t (by omega) (by rw[HN.o];exact aj) _))
   refine Bl 15 [(0,Α),(1,Α),(2,Α),(3,Α),(4,Α),(5,Α),(6,Α),(7,Α),(8,Α),(9,Α),(10,Α),(11,Α),(12,Α),(13,Ε),(14,Α),(15,Ε)] (by kernel_rfl) (by kernel_rfl) (λ_ _ _ _ h=>h) (λV=>Ext wr V) (Κ wr).drew ?_;have G:=(Κ wr).drew;obtain⟨wy,H⟩:=Xq (wr.drew);rw[H] at G;rw[H];clear H;iterate 4
    refine Af (v:=?_) rfl rfl (λV E=>?_) ?_
    rotate_left
    ·clear E;go_simp;first|done|with_reducible rfl
    simp only[η,Θ,Μ,Λ]
   iterate 9
    refine Af (v:=?_) rfl rfl (λV E=>?_) ?_
    rotate_left
    ·have k0:=bh.o V E;clear E;go_simp;first|done|with_reducible rfl
    simp only[η,Θ,Μ,Λ]
   try rw[ag]
   refine Ao rfl (λX hK=>?_);go_simp
   (with_reducible refine (f49.o wy G).mono ?_)
   rintro e w5 ⟨rfl,ar⟩;have ah:=G.t ar;obtain⟨hb,ai⟩:=Xq (An (A4 xs (xs.length-1)) (seg x f t) 0 (seg x f t).length);have au:ϟ (Fk xs (seg x f t)=hb):=Z ai;rw[ai];refine hK _ _ (λ_=>ah) ?_;clear hK X f49 G ar ai;refine Af (v:=.bool (!hb)) rfl rfl (λV _=>?_) ?_
   ·go_simp
   simp only[η,Θ,Μ,Λ];refine Ao rfl (λX hK=>?_);go_simp;refine hK _ _ (λh=>absurd h (by omega)) ?_;clear hK X;refine Bj ?_;have ab:=T.t ah;clear T ah ag;cases hb with
   | false=>have hd:ϟ (Co ps x cs 0 0 m=Ε):=Z (by rw[<-HD.o,ad.o,if_neg af,au.o];rfl);go_wp2_with (fail);go_ret;exact⟨by rw[hd.o];rfl,ab⟩
   | true=>
    have bo:ϟ (Co ps x cs t (i+1) (m-(i+1))=Co ps x cs 0 0 m):=Z (by rw[<-HD.o,ad.o,if_neg af,au.o];rfl);go_wp2_with (fail);go_roundw
    case rel=>exact⟨t,i+1,by omega,by omega,rfl,by go_num,ab,bo⟩
    simp[intOf]<;>omega
  have cg:¬ (i:Int)+1<(m:Int):=by omega
  have a6:n=t:=by have:=HT.o;rw[if_neg b5] at this;exact this
  subst a6;go_upto_region 8 with (fail)
  by_cases af:n<f
  ·have bl:(n:Int)<(f:Int):=by omega
   have hd:ϟ (Co ps x cs 0 0 m=Ε):=Z (by rw[<-HD.o,ad.o,if_pos af]);refine Bl 15 [(0,Α),(1,Α),(2,Α),(3,Α),(4,Α),(5,Α),(6,Α),(7,Α),(8,Α),(9,Α),(10,Α),(11,Α),(12,Α),(13,Ε),(14,Α),(15,Ε)] (by kernel_rfl) (by kernel_rfl) (λ_ _ _ _ h=>h) (λV=>Ext wr V) (Κ wr).drew ?_;have G:=(Κ wr).drew;obtain⟨wy,H⟩:=Xq (wr.drew);rw[H] at G;rw[H];clear H;iterate 4
    refine Af (v:=?_) rfl rfl (λV E=>?_) ?_
    rotate_left
    ·clear E;go_simp;first|done|with_reducible rfl
    simp only[η,Θ,Μ,Λ]
   iterate 9
    refine F5 rfl rfl ?_;simp only[η,Θ,Μ,Λ]
   refine Ii rfl rfl (λ_=>G) ?_;simp only[η,Θ,Μ,Λ];refine F5 rfl rfl ?_;simp only[η,Θ,Μ,Λ];refine Ao rfl (λX hK=>?_);go_simp;refine hK _ _ (λh=>absurd h (by omega)) ?_;clear hK X;refine Bj ?_;have ab:=T.t G;clear G T;go_wp2_with (fail);go_ret;exact⟨by rw[hd.o];rfl,ab⟩
  have bl:¬ (n:Int)<(f:Int):=by omega
  have ck:(f:Int)<=(n:Int):=by omega
  have cl:(n:Int)<=(c:Int):=by omega
  have cm:(0:Int)<=(f:Int):=by omega
  have cn:(0:Int)<=(n:Int):=by omega
  have cp:((n:Int)-(f:Int)).toNat=n-f:=by omega
  have cq:((c:Int)-(f:Int)).toNat=c-f:=by omega
  obtain⟨A0,ag⟩:=Xq ((if c=f then J ⟨g,0,I⟩ else J ⟨g,f,I⟩):Option Addr);have f49:=Z (λV (E:Ext wr V)=>Nz xs bg (U (J ⟨b',o',I⟩) xs.length c') (seg x f n) (by rw[Gi x f n (by rw[HN.o];exact aj)];omega) (U A0 (n-f) (c-f)) V ⟨b',o',c',rfl,bj.o V E⟩ (by
   rw[<-ag];by_cases aq:c=f
   ·rw[if_pos aq,show n-f=0 by omega];have e0:seg x f n=[]:=ϭ.1 (by rw[Gi x f n (by rw[HN.o];exact aj)];omega);rw[e0];exact⟨by simp,.inl ⟨rfl,_,_,rfl⟩⟩
   rw[if_neg aq];exact Ti (by rw[HN.o];exact HB.o.ext (T.t E)) f n (by omega) (by rw[HN.o];exact aj) _))
  refine Bl 15 [(0,Α),(1,Α),(2,Α),(3,Α),(4,Α),(5,Α),(6,Α),(7,Α),(8,Α),(9,Α),(10,Α),(11,Α),(12,Α),(13,Ε),(14,Α),(15,Ε)] (by kernel_rfl) (by kernel_rfl) (λ_ _ _ _ h=>h) (λV=>Ext wr V) (Κ wr).drew ?_;have G:=(Κ wr).drew;obtain⟨wy,H⟩:=Xq (wr.drew);rw[H] at G;rw[H];clear H;iterate 4
   refine Af (v:=?_) rfl rfl (λV E=>?_) ?_
   rotate_left
   ·clear E;go_simp;first|done|with_reducible rfl
   simp only[η,Θ,Μ,Λ]
  iterate 9
   refine Af (v:=?_) rfl rfl (λV E=>?_) ?_
   rotate_left
   ·have k0:=bh.o V E;clear E;go_simp;first|done|with_reducible rfl
   simp only[η,Θ,Μ,Λ]
  try rw[ag]
  refine Ao rfl (λX hK=>?_);go_simp
  (with_reducible refine (f49.o wy G).mono ?_)
  rintro e w5 ⟨rfl,ar⟩;have ah:=G.t ar;obtain⟨hb,ai⟩:=Xq (An (A4 xs (xs.length-1)) (seg x f n) 0 (seg x f n).length);have au:ϟ (Fk xs (seg x f n)=hb):=Z ai;rw[ai];refine hK _ _ (λ_=>ah) ?_;clear hK X f49 G ar ai;refine Af (v:=.bool (!hb)) rfl rfl (λV _=>?_) ?_
  ·go_simp
  simp only[η,Θ,Μ,Λ];refine Ao rfl (λX hK=>?_);go_simp;refine hK _ _ (λh=>absurd h (by omega)) ?_;clear hK X;refine Bj ?_;have ab:=T.t ah;clear T ah ag;cases hb with
  | false=>have hd:ϟ (Co ps x cs 0 0 m=Ε):=Z (by rw[<-HD.o,ad.o,if_neg af,au.o];rfl);go_wp2_with (fail);go_ret;exact⟨by rw[hd.o];rfl,ab⟩
  | true=>
   have bo:ϟ (Co ps x cs n (i+1) (m-(i+1))=Co ps x cs 0 0 m):=Z (by rw[<-HD.o,ad.o,if_neg af,au.o];rfl);go_wp2_with (fail);go_roundw
   case rel=>exact⟨n,i+1,by omega,by omega,rfl,by go_num,ab,bo⟩
   simp[intOf]<;>omega
 obtain rfl:i=m:=by omega
 have hd:ϟ (Co ps x cs 0 0 i=Α):=Z (by rw[<-HD.o,Nat.sub_self];rfl);go_wp2_with (fail);go_ret;exact⟨by rw[hd.o];rfl,T⟩
theorem VRx.wrx {xs:List RNode} (h:VRx xs):WRx xs:=⟨h.pos,h.node,h.par⟩
theorem Rv {xs:List RNode} (h:VRx xs) {d:Dfa} (hd:Dn xs [] (J d)) (u:List UInt8):Fk xs u=d.has u:=F1 (by unfold Fk;rw[hitB_true,RS,(XS h.wrx hd).2 u];unfold Yv A4;rw[Ri,List.length_nil,ϖ])
def F9 (n L:Nat) (cs:List Nat):Nat->Nat->List Nat
 | _,0=>[]
 | i,k+1=>(if i+1<n then cs.getD i 0 else L)::F9 n L cs (i+1) k
theorem Oo (n L:Nat) (cs:List Nat):∀ k i,(F9 n L cs i k).length=k
 | 0,_=>rfl
 | k+1,i=>by rw[F9,List.length_cons,Oo n L cs k]
theorem Sk (n L:Nat) (cs:List Nat):∀ k i j,j<k->(F9 n L cs i k).getD j 0=if i+j+1<n then cs.getD (i+j) 0 else L
 | 0,_,_,h=>by omega
 | k+1,i,0,_=>rfl
 | k+1,i,j+1,h=>by rw[F9,List.getD_cons_succ,Sk n L cs k (i+1) j (by omega),show i+1+j=i+(j+1) by omega]
theorem Or {ps:List PtN} {ds:List Dfa} (h:DsOf ps ds):∀ d∈ds,Cano d/\d.n.length<=64:=λd hd=>by
 obtain⟨i,hi,rfl⟩:=Ï.1 hd;have:=(h.at_ i hi).2
 rwa [Ζ,Ι hi] at this
theorem UP {ds:List Dfa} {i:Nat} (h:i<ds.length):ds.drop i=ds.getD i dN::ds.drop (i+1):=by rw[List.drop_eq_getElem_cons h,Ζ,Ι h];rfl
theorem US {ps:List PtN} {ds:List Dfa} {x:List UInt8} {cs:List Nat} (hp:PatOk ps) (G:DsOf ps ds) (ae:∀ i,i<cs.length->cs.getD i 0<=x.length) (an:ps.length<=cs.length+1) :
  ∀ k f i,i+k=ps.length->(k=0->f=x.length)->f<=x.length->(Co ps x cs f i k=Α↔Hz (ds.drop i) x f (F9 ps.length x.length cs i k)):=by
 intro k;induction k with
 | zero=>intro f i hi hf _;have e:ds.drop i=[]:=List.drop_eq_nil_of_le (by rw[G.len];omega);rw[e];exact⟨λ_=>⟨rfl,hf rfl⟩,λ_=>rfl⟩
 | succ k X=>
  intro f i hi _ ao;have aa:i<ds.length:=by rw[G.len];omega
  rw[UP aa,Co,F9];obtain⟨t,H⟩:=Xq ((if i+1<ps.length then cs.getD i 0 else x.length));have T:t<=x.length:=by
   rw[<-H];split
   ·exact ae i (by omega)
   exact Υ _
  have ab:k=0->t=x.length:=λe=>by rw[<-H,if_neg (by omega)]
  rw[H];have hh:=Rv (hp.part i (by omega)).1 (G.at_ i aa).1 (seg x f t);rw[hh];constructor
  ·intro h;by_cases h1:t<f
   ·rw[if_pos h1] at h;cases h
   rw[if_neg h1] at h;by_cases E:(ds.getD i dN).has (seg x f t)=Α
   ·rw[if_pos E] at h;exact⟨t,_,rfl,by omega,T,E,(X t (i+1) (by omega) ab T).1 h⟩
   rw[if_neg E] at h;cases h
  rintro⟨t',u,e,h1,E,h3,h4⟩;injection e with e1 e2
  subst e1 e2;rw[if_neg (by omega),if_pos h3];exact (X t (i+1) (by omega) ab T).2 h4
theorem AL {ps:List PtN} {ds:List Dfa} {x:List UInt8} {cs:List Nat} (E:PatOk ps) (G:DsOf ps ds) (H:∀ i,i<cs.length->cs.getD i 0<=x.length) (T:ps.length<=cs.length+1):Co ps x cs 0 0 ps.length=Α↔Hz ds x 0 (F9 ps.length x.length cs 0 ps.length):=
 US E G H T ps.length 0 0 (by omega) (λe=>absurd e (by have:=E.pos;omega)) (by omega)
theorem Qi {ps:List PtN} {ds:List Dfa} (h:ds.length=ps.length) {i:Nat} (hi:i<ps.length) (z:Pt):(pts ps ds).getD i z=⟨ds.getD i dN,(ps.getD i pN).lz⟩:=by have h1:=congrArg (λl:List Pt=>l[0]?) (Qh (ps:=ps) h (show i<ds.length by omega));simp only[List.getElem?_drop,è,List.getElem?_cons_zero] at h1;rw[Ζ,h1];rfl
theorem Lk {ps:List PtN} {ds:List Dfa} {x:List UInt8} {cs:List Nat} (hp:PatOk ps) (E:DsOf ps ds) (ab:∀ i,i<cs.length->cs.getD i 0<=x.length) (ad:ps.length<=cs.length+1) (h:Co ps x cs 0 0 ps.length=Α) :
  Bp ds x/\∀ l,Cb (pts ps ds) x 0 l->∀ k,k+1<ps.length->(∀ j,j<k->(l.getD j (0,0)).2=cs.getD j 0)->(l.getD k (0,0)).2≠cs.getD k 0->(decide (cs.getD k 0<(l.getD k (0,0)).2)=!(ps.getD k pN).lz):=by
 have hd:=(AL hp E ab ad).1 h;have hc:=AK (Nat.zero_le _) hd;rw[ϰ] at hc;refine⟨hc,λl hl k H he hn=>?_⟩;have T:=Et E.len;have ag:(pts ps ds).length=ps.length:=by have:=congrArg List.length T;rw[ι] at this;rw[this,E.len]
 rw[<-T] at hd;have hg:∀ j,j+1<ps.length->(F9 ps.length x.length cs 0 ps.length).getD j 0=cs.getD j 0:=λj G=>by rw[Sk _ _ _ _ _ _ (by omega),ϖ,if_pos G]
 have h1:=OA hl hd k (by rw[ag];omega) (λj G=>by rw[hg j (by omega)];exact he j G) (by rw[hg k H];exact hn);rw[hg k H] at h1;have e:((pts ps ds).getD k ⟨⟨[],[],[]⟩,Ε⟩).lz=(ps.getD k pN).lz:=by rw[Qi E.len (by omega)]
 rw[e] at h1;cases X:(ps.getD k pN).lz
 ·rw[X] at h1;have:¬ (l.getD k (0,0)).2<cs.getD k 0:=λh=>by have:=h1.2 h;cases this
  rw[Bool.not_false,decide_eq_true_eq];omega
 have:=h1.1 X;rw[Bool.not_true,decide_eq_false_iff_not];omega
theorem Ot {ps:List PtN} {ds:List Dfa} {x:List UInt8} (hp:PatOk ps) (G:DsOf ps ds) {l:List (Nat × Nat)} (H:Cb (pts ps ds) x 0 l) :
  l.length=ps.length/\∀ i,i<ps.length->(l.getD i (0,0)).1=(if i=0 then 0 else (l.getD (i-1) (0,0)).2)/\(l.getD i (0,0)).1<=(l.getD i (0,0)).2/\(l.getD i (0,0)).2<=x.length/\Fk (ps.getD i pN).xs (seg x (l.getD i (0,0)).1 (l.getD i (0,0)).2)=Α:=by
 have ab:=Et G.len;have T:(pts ps ds).length=ps.length:=by have:=congrArg List.length ab;rw[ι] at this;rw[this,G.len]
 have X:=NZ H;rw[T] at X;refine⟨X,λi hi=>?_⟩;have key:∀ (E:List Pt) (f:Nat) (l:List (Nat × Nat)),Cb E x f l->∀ i,i<E.length->(l.getD i (0,0)).1=(if i=0 then f else (l.getD (i-1) (0,0)).2)/\(l.getD i (0,0)).1<=(l.getD i (0,0)).2/\(l.getD i (0,0)).2<=x.length/\(E.getD i ⟨dN,Ε⟩).d.has (seg x (l.getD i (0,0)).1 (l.getD i (0,0)).2)=Α:=by
  intro E;induction E with
  | nil=>intro f l _ i hi;exact absurd hi (by simp)
  | cons p E ih=>
   rintro f l ⟨q,l',rfl,h1,h2⟩ i hi;cases i with
   | zero=>exact⟨rfl,h1.1.1,h1.1.2.1,h1.1.2.2.1⟩
   | succ i=>
    have:=ih q l' h2 i (by simpa using hi);simp only[List.getD_cons_succ,Nat.add_sub_cancel];refine⟨?_,this.2.1,this.2.2.1,this.2.2.2⟩;rw[this.1];cases i with
    | zero=>simp
    | succ i=>rw[if_neg (by omega),if_neg (by omega)];simp
 obtain⟨k1,k2,k3,k4⟩:=key _ _ _ H i (by rw[T];exact hi);refine⟨k1,k2,k3,?_⟩;have ah:i<ds.length:=by rw[G.len];exact hi
 rw[Rv (hp.part i hi).1 (G.at_ i ah).1];have e:((pts ps ds).getD i ⟨dN,Ε⟩).d=ds.getD i dN:=by rw[Qi G.len hi]
 rw[<-e];exact k4
theorem NW {ps:List PtN} {ds:List Dfa} {x:List UInt8} (G:PatOk ps) (E:DsOf ps ds) {l:List (Nat × Nat)} (T:Cb (pts ps ds) x 0 l):(l.getD (ps.length-1) (0,0)).2=x.length:=by
 have X:=Et E.len;have h1:=X3 T;rw[X] at h1;have H:=AJ h1 (by rw[E.len];exact G.pos);rw[E.len] at H;have ab:=(Ot G E T).1;rw[Ζ,ν] at H;have aa:ps.length-1<l.length:=by have:=G.pos;omega
 rw[Ζ,Ι aa] at *;exact H
theorem St {ps qs:List PtN} {ds:List Dfa} (E:qs.length=ps.length) (hx:∀ i,i<ps.length->(qs.getD i pN).xs=(ps.getD i pN).xs) (h:DsOf ps ds):DsOf qs ds:=
 ⟨by rw[h.len,E],λi hi=>by rw[hx i (by rw[<-h.len];exact hi)];exact h.at_ i hi⟩
theorem NY {ps:List PtN} {ds:List Dfa} {x:List UInt8} (H:PatOk ps) (E:DsOf ps ds) {T:List PtN} (hq:DsOf T ds) {l:List (Nat × Nat)} (hl:Cb (pts T ds) x 0 l) {cs:List Nat} (ag:∀ i,i<cs.length->cs.getD i 0<=x.length) (ah:ps.length<=cs.length+1)
  (he:∀ i,i+1<ps.length->cs.getD i 0=(l.getD i (0,0)).2):Co ps x cs 0 0 ps.length=Α:=by
 refine (AL H E ag ah).2 ?_;have h1:=X3 hl;rw[Et hq.len] at h1;have X:=UR h1;rw[ι,E.len] at X;have e:F9 ps.length x.length cs 0 ps.length=l.map (·.2):=by
  refine List.ext_getElem (by rw[Oo,ι,X]) λi G h3=>?_
  rw[Oo] at G;have h4:=Sk ps.length x.length cs ps.length 0 i G;rw[ϖ,Ζ,Ι (by rw[Oo];exact G),ϱ] at h4;have ab:i<l.length:=by omega
  rw[h4,List.getElem_map];split
  ·rename_i hi
   rw[he i hi,Ζ,Ι ab];rfl
  have hi:i=ps.length-1:=by omega
  have h5:=AJ h1 (by rw[E.len];exact H.pos);rw[E.len,<-hi,Ζ,ν,Ι ab] at h5;exact h5.symm
 rw[e];exact h1
theorem RH:(Η.info? 78).map (λi=>(i.zero,i.size,i.bytes))=J (J (U I 0 0),1,24):=by kernel_rfl
def CasOut (W:Γ) (e:Ending) (ps:List PtN):Prop:=∃ ds,DsOf ps ds/\((∃ l v,Ef (pts ps ds) l/\(∀ os∈l,∀ o∈os,o.head.n.length<=64/\o.rest.n.length<=64)/\(Ar l).length<=256/\e=Ψ (ϗ #[v,.int Φ 0])/\CasV W v (Ar l))\/(e=Ψ (ϗ #[U I 0 0,.int Φ 2])/\Gy ps ds))
structure RstI (W:Γ) (xs:List Δ) (ds:List Dfa) (i:Nat):Prop where
 done:∀ q,i<=q->q<ds.length->∃ r,Cj (ds.drop (q+1)) (J r)/\Cano r/\r.n.length<=64/\IsD W (.agg #[xs.getD (q*3) Ω,xs.getD (q*3+1) Ω,xs.getD (q*3+2) Ω]) r
 todo:∀ j,j<i*3->xs.getD j Ω=U I 0 0
theorem RstI.ext {W W':Γ} {xs:List Δ} {ds:List Dfa} {i:Nat} (h:RstI W xs ds i) (E:Ext W W'):RstI W' xs ds i:=
 ⟨λq h1 G=>by obtain⟨r,H,T,X,h6⟩:=h.done q h1 G;exact⟨r,H,T,X,h6.ext E⟩,h.todo⟩
theorem RstI.nilx {W W':Γ} {xs:List Δ} {ds:List Dfa} {i:Nat} (h:RstI W xs ds i) (G:NilX W W'):RstI W' xs ds i:=
 ⟨λq h1 H=>by obtain⟨r,T,E,X,h6⟩:=h.done q h1 H;exact⟨r,T,E,X,h6.nilx E.val G⟩,h.todo⟩
theorem RstI.step {W:Γ} {xs:List Δ} {ds:List Dfa} {i:Nat} {a b c:Δ} {r:Dfa} (h:RstI W xs ds (i+1)) (hl:i*3+2<xs.length) (E:Cj (ds.drop (i+1)) (J r)) (hc:Cano r) (G:r.n.length<=64) (hd:IsD W (.agg #[a,b,c]) r):RstI W (((xs.set (i*3) a).set (i*3+1) b).set (i*3+1+1) c) ds i where
 done:=λq h1 H=>by
  by_cases e:q=i
  ·subst e;refine⟨r,E,hc,G,?_⟩;rw[Be (by omega),Be (by omega),B7 (by omega),Be (by omega),B7 (by rw[υ];omega),B7 (by rw[υ,υ];omega)];exact hd
  obtain⟨T,X,h4,h5,h6⟩:=h.done q (by omega) H;refine⟨T,X,h4,h5,?_⟩;rw[Be (by omega),Be (by omega),Be (by omega),Be (by omega),Be (by omega),Be (by omega),Be (by omega),Be (by omega),Be (by omega)];exact h6
 todo:=λj hj=>by rw[Be (by omega),Be (by omega),Be (by omega)];exact h.todo j (by omega)
theorem OE (n:Nat):(madeCells #[Ϗ I 0 0,Ϗ I 0 0,Ϗ I 0 0] (n*3)).toList.length=n*3/\∀ j,j<n*3->(madeCells #[Ϗ I 0 0,Ϗ I 0 0,Ϗ I 0 0] (n*3)).toList.getD j Ω=U I 0 0:=by
 refine⟨by simp[madeCells],λj E=>?_⟩;rw[Ζ,Array.getElem?_toList];unfold madeCells;simp only[Array.getElem?_map,Array.getElem?_range];have hm:j % 3=0\/j % 3=1\/j % 3=2:=by omega
 rcases hm with h|h|h<;>simp[E,h]
theorem OpsV.setc {W:Γ} {u:Δ} {os:List Opt} (h:OpsV W u os) (hv:∀ o∈os,Val o.head/\Val o.rest) {g i:Nat} {x:Δ} (hi:i<6) (G:NilX W (W.setCell ⟨g,i,I⟩ x)):OpsV (W.setCell ⟨g,i,I⟩ x) u os:=by
 obtain⟨a,c,hu,h⟩:=h;refine⟨a,c,hu,λk T=>?_⟩;obtain⟨g',h1,h2,h3,r1,r2,r3,la,ln,lc,ha,H,X,aa⟩:=h k T;obtain⟨ab,ad⟩:=hv _ (ϣ T);have ao:=X.nilx ab G;have aq:=aa.nilx ad G;obtain⟨_,_,_,_,_,_,_,_,_,e1,-⟩:=X.opened ab;obtain⟨_,_,_,_,_,_,_,_,_,e2,-⟩:=aa.opened ad;simp only[dA,Δ.agg.injEq,Array.mk.injEq,ì,and_true] at e1 e2;obtain⟨rfl,rfl,rfl⟩:=e1;obtain⟨rfl,rfl,rfl⟩:=e2;refine⟨g',_,_,_,_,_,_,la,ln,lc,ha,λj v E=>?_,ao,aq⟩
 match j,E with
 | 0,E=>exact G.cell _ _ (H 0 v E) (by injection E with E;rw[<-E];intro e;cases e) (by injection E with E;rw[<-E];intro e;cases e)
 | 1,E=>exact G.cell _ _ (H 1 v E) (by injection E with E;rw[<-E];intro e;cases e) (by injection E with E;rw[<-E];intro e;cases e)
 | 2,E=>exact G.cell _ _ (H 2 v E) (by injection E with E;rw[<-E];intro e;cases e) (by injection E with E;rw[<-E];intro e;cases e)
 | 3,E=>exact G.cell _ _ (H 3 v E) (by injection E with E;rw[<-E];intro e;cases e) (by injection E with E;rw[<-E];intro e;cases e)
 | 4,E=>exact G.cell _ _ (H 4 v E) (by injection E with E;rw[<-E];intro e;cases e) (by injection E with E;rw[<-E];intro e;cases e)
 | 5,E=>exact G.cell _ _ (H 5 v E) (by injection E with E;rw[<-E];intro e;cases e) (by injection E with E;rw[<-E];intro e;cases e)
 | 6,E=>rw[Γ.cell?_setCell_other _ _ _ _ (by intro e;injection e with _ e _;omega)];exact H 6 v E
 | j+7,E=>simp at E
def FindOut (W:Γ) (e:Ending) (lz:Bool) (d r:Dfa):Prop:=
 (∃ os a c,e=Ψ (ϗ #[U a os.length c,.int Φ 0])/\OptsOf lz (wd1 d) (wd1 r) os/\(os.length<=65536/\∀ o∈os,o.head.n.length<=64/\o.rest.n.length<=64)/\OpsV W (U a os.length c) os)\/
 (e=Ψ (ϗ #[U I 0 0,.int Φ 2])/\if lz=Α then I6 d r else I7 d r)
theorem GreOut.find {W:Γ} {e:Ending} {d r:Dfa} (h:GreOut W e d r):FindOut W e Ε d r:=by
 rcases h with⟨os,v,he,h1,G,E⟩|⟨he,h⟩
 ·have H:=E;obtain⟨a,c,rfl,_⟩:=E;exact .inl ⟨os,a,c,he,h1,G,H⟩
 exact .inr ⟨he,by rw[if_neg (by decide)];exact h⟩
theorem LazOut.find {W:Γ} {e:Ending} {d r:Dfa} (h:LazOut W e d r):FindOut W e Α d r:=by
 rcases h with⟨os,v,he,h1,G,E⟩|⟨he,h⟩
 ·have H:=E;obtain⟨a,c,rfl,_⟩:=E;exact .inl ⟨os,a,c,he,h1,G,H⟩
 exact .inr ⟨he,by rw[if_pos rfl];exact h⟩
theorem FindOut.form {W:Γ} {e:Ending} {lz:Bool} {d r:Dfa} (h:FindOut W e lz d r):∃ a n c k,e=Ψ (ϗ #[U a n c,.int Φ k]):=by
 rcases h with⟨os,a,c,he,_⟩|⟨he,_⟩
 ·exact⟨_,_,_,_,he⟩
 exact⟨_,_,_,_,he⟩
structure OptI (W:Γ) (ps:List PtN) (ds:List Dfa) (ys:List Δ) (ls:List (List Opt)) (i:Nat):Prop where
 len:ls.length=i
 at_:∀ q,q<i->OpsV W (ys.getD q Ω) (ls.getD q [])/\((ls.getD q []).length<=65536/\∀ o∈ls.getD q [],o.head.n.length<=64/\o.rest.n.length<=64)/\OptsOf (ps.getD q pN).lz (wd1 (ds.getD q dN)) (Bp (ds.drop (q+1))) (ls.getD q [])
 todo:∀ q,i<=q->q<ys.length->ys.getD q Ω=U I 0 0
theorem OptI.ext {W W':Γ} {ps:List PtN} {ds:List Dfa} {ys:List Δ} {ls:List (List Opt)} {i:Nat} (h:OptI W ps ds ys ls i) (G:Ext W W'):OptI W' ps ds ys ls i:=
 ⟨h.len,λq E=>⟨(h.at_ q E).1.ext G,(h.at_ q E).2⟩,h.todo⟩
theorem OptI.step {W:Γ} {ps:List PtN} {ds:List Dfa} {ys:List Δ} {ls:List (List Opt)} {i g:Nat} {v:Δ} {os:List Opt} (h:OptI W ps ds ys ls i) (hi:i<ys.length) (H:i<6) (T:NilX W (W.setCell ⟨g,i,I⟩ v)) (hv:OpsV W v os) (hs:os.length<=65536/\∀ o∈os,o.head.n.length<=64/\o.rest.n.length<=64) (E:OptsOf (ps.getD i pN).lz (wd1 (ds.getD i dN)) (Bp (ds.drop (i+1))) os):OptI (W.setCell ⟨g,i,I⟩ v) ps ds (ys.set i v) (ls++[os]) (i+1) where
 len:=by rw[List.length_append,h.len];rfl
 at_:=λq hq=>by
  have X:∀ {lz:Bool} {A B:Ag} {os:List Opt},OptsOf lz A B os->∀ o∈os,Val o.head/\Val o.rest:=λE o hm=>⟨(E.hc o hm).1.val,(E.hc o hm).2.val⟩
  by_cases e:q=i
  ·subst e;have e2:(ls++[os]).getD q []=os:=by rw[<-h.len];exact Dx _ _ _
   rw[B7 hi,e2];exact⟨hv.setc (X E) H T,hs,E⟩
  obtain⟨h1,G,h3⟩:=h.at_ q (by omega);rw[Be e,Ca _ _ _ _ (by rw[h.len];omega)];exact⟨h1.setc (X h3) H T,G,h3⟩
 todo:=λq h1 G=>by rw[υ] at G;rw[Be (by omega)];exact h.todo q (by omega) G
theorem OptI.all {W:Γ} {ps:List PtN} {ds:List Dfa} {ys:List Δ} {ls:List (List Opt)} (E:DsOf ps ds) (h:OptI W ps ds ys ls ps.length):Ef (pts ps ds) ls:=by
 have G:(pts ps ds).length=ps.length:=by have:=congrArg List.length (Et E.len);rw[ι] at this;rw[this,E.len]
 refine DC _ _ (by rw[G];exact h.len) λi hi=>?_
 rw[G] at hi;rw[Qi E.len hi,Wn E.len];exact (h.at_ i hi).2.2
theorem AP (l:List (List Opt)) (h:∀ k,k<l.length->0<(l.getD k []).length):∀ d j,j+d=l.length->(Ar (l.take j)).length<=(Ar l).length
 | 0,j,e=>by rw[List.take_of_length_le (by omega)];exact Υ _
 | d+1,j,e=>by have h1:=AP l h d (j+1) (by omega);rw[Ig l j [] (by omega),Sz] at h1;exact μ (Nat.le_mul_of_pos_right _ (h j (by omega))) h1
theorem VU {ls:List (List Opt)} {q:Nat} (E:q<ls.length) (h0:0<(ls.getD q []).length):min (min (Ar (ls.take q)).length 257*(ls.getD q []).length) 257=min (Ar (ls.take (q+1))).length 257:=by rw[NP h0,Ig ls q [] E,Sz]
theorem NO (x:Nat):(if (257:Int)<(x:Int) then (257:Int) else (x:Int))=((min x 257:Nat):Int):=by
 by_cases h:x<=257
 ·rw[Nat.min_eq_left h,if_neg (by omega)]
 rw[Nat.min_eq_right (by omega),if_pos (by omega)];rfl
theorem Te (ps:List PtN) (hp:PatOk ps) (b o fj:Nat) (w:Γ) (hT:Tab w) (c3:0<w.heap.size) (h:PatAt w b o ps) :
  ϛ Η 11 #[U (J ⟨b,o,I⟩) ps.length fj] w λe w'=>CasOut w' e ps/\Ext w w':=by
 have du:=Z (λW (hW:Ext w W)=>hT.below hW.below c3);have HP:=Z hp;have hh:=Z h;have f106:=Z (O6 ps hp b o fj w hT c3 h);obtain⟨m0,hm,hl,hn,hr⟩:=ϓ Ze;obtain⟨j0,X,ht,hv,hy⟩:=ϓ RH;have hz:=hp.le;have h4:=hp.pos;obtain⟨N,hN⟩:=Xq (ps.length);rw[hN] at f106 hz h4;rw[hN];have HN:=Z hN;clear h hp hN hT;go_enter Tryz.func11,Tryz.ntmps11;go_upto_region 4 with (go_at_call 28;(with_reducible refine f106.o.mono ?_);rintro e w2 ⟨g6,ds,rfl,dw,fk,fl⟩)
 clear f106;have bw:=Z dw;have ek:=Z fk;have c4:ds.length=N:=by rw[dw.len,HN.o]
 have bf:=Z c4;have bz:=Z (Or dw);have bj:=Z fl;clear dw fk c4;have h5:=fl.size;go_upto_region 5 with (at_make;refine Ϟ _ rfl _ _ 75 rfl w2.heap.size 78 j0 (U I 0 0) 1 Tryz.underlying75 X ht hv Φ Φ _ _ N rfl rfl rfl rfl (by rw[hy];omega) (by unfold maxLen;omega) (Υ _) ?_;intro w3 fm fp)
 have eo:=(Κ w2).grown fp (λk e=>by cases e);have fq:w2.heap.size<=w3.heap.size:=eo.size;go_upto_region 6 with (at_make;refine Ϟ _ rfl _ _ 31 rfl w2.heap.size 40 m0 (.agg #[U I 0 0,U I 0 0,U I 0 0]) 3 Tryz.underlying31 hm hl hn Φ Φ _ _ N rfl rfl rfl rfl (by rw[hr];omega) (by unfold maxLen;omega) fq ?_;intro w4 fs er)
 have ft:=eo.grown er (λk e=>by cases e);have et:w4.ownsRow w2.heap.size 78 1 (U (J ⟨w2.heap.size,0,I⟩) N N) N (θ N (U I 0 0)):=by rw[<-Ju];exact Bz fm er
 obtain⟨fu,eu⟩:=OE N;have dx:w4.ownsRow w2.heap.size 40 3 (U (J ⟨w3.heap.size,0,I⟩) N N) N (madeCells #[Ϗ I 0 0,Ϗ I 0 0,Ϗ I 0 0] (N*3)).toList:=fs;obtain⟨zs,fw⟩:=Xq ((madeCells #[Ϗ I 0 0,Ϗ I 0 0,Ϗ I 0 0] (N*3)).toList);rw[fw] at dx fu eu;obtain⟨gR,ev⟩:=Xq (w3.heap.size);obtain⟨gA,db⟩:=Xq (w2.heap.size);have jb:w2.heap.size<=gA:=Nat.le_of_eq db;rw[db,ev] at dx;rw[db] at et;simp only[ev,db];clear fm fp fs er fq eo ev db fw h5;have ar:ϟ (RstI w4 zs ds N):=Z ⟨λq h1 h2=>by rw[bf.o] at h2;omega,eu⟩;clear eu fu;have jc:(0:Int)<(N:Int):=by omega
 go_wp2_with (fail);go_loopw [8] (λvi W=>∃ (i:Nat) (xs:List Δ),i<=N/\vi=.int Φ ((i:Int)-1)/\Ext w2 W/\W.ownsRow gA 40 3 (U (J ⟨gR,0,I⟩) N N) N xs/\W.ownsRow gA 78 1 (U (J ⟨gA,0,I⟩) N N) N (θ N (U I 0 0))/\ϟ (RstI W xs ds i))
  (λvi _=>(intOf vi+1).toNat)
 case atStart=>exact⟨N,zs,by omega,by go_num,ft,dx,et,ar⟩
 clear ft dx et ar;obtain⟨i,xs,h6,rfl,H,hR,hA,ar⟩:=hrel;by_cases jd:0<i
 ·obtain⟨q,rfl⟩:∃ q,i=q+1:=⟨i-1,by omega⟩;have fx:((q+1:Nat):Int)-1=(q:Int):=by omega
  rw[fx];clear fx;have je:(q:Int)<(N:Int):=by omega
  have jf:(0:Int)<=(q:Int):=by omega
  have dc:(ds.drop (q+1)).length=N-(q+1):=by rw[List.length_drop,bf.o]
  have c5:=Z (λ(a':Option Addr) (dd:Nat) (h7:q+1<N->a'=J ⟨g6,(q+1)*3,I⟩)=>show ϛ Η 29 #[U a' (N-(q+1)) dd] wr λe w'=>∃ r,ResOf w' e r/\Cj (ds.drop (q+1)) r/\Ext wr w' from by
   have h:=Qf (ds.drop (q+1)) (λi hi=>bz.o _ (List.mem_of_mem_drop (Io hi))) (by rw[dc];omega) a' g6 ((q+1)*3) dd (λh0=>h7 (by rw[dc] at h0;omega)) wr (du.o wr (bj.o.t H)) (Ξ c3 (bj.o.t H).size) (λi hi=>by
    obtain⟨v1,v2,v3,h1,h2⟩:=ek.o (q+1+i) (by rw[dc] at hi;rw[bf.o];omega);refine⟨v1,v2,v3,λj v X=>?_,?_⟩
    ·have h3:=H.cell (h1 j v X);rw[show 0+(q+1+i)*3+j=(q+1)*3+i*3+j by omega] at h3;exact h3
    have e:(ds.drop (q+1)).getD i dN=ds.getD (q+1+i) dN:=by rw[Ζ,List.getElem?_drop,<-Ζ]
    rw[e];exact h2.ext H)
   rw[dc] at h;exact h)
  clear dc;by_cases h8:q+1<N
  ·have jg:=Z h8;go_upto_region 10 with (first
    | (go_at_call 29;(with_reducible refine (c5.o _ _ (λ_=>rfl)).mono ?_);rintro e w5 ⟨r,bl,bm,ab⟩;obtain⟨au,aw,ax,ay,az,a6,a7,a8,ba,k1,rfl⟩:=bl.form;have b4:=Z bl;have bg:=Z bm;have aj:=Z ab;have G:=Aa hR ab;have de:=Z (show w5.there gR (q*3) 3 from λx hx=>Jo G (q*3) x (by omega));clear bl bm ab)
    | (refine wpList_store_mid rfl 40 (δ 45) (δ 43) rfl gR (q*3) (dA (U au aw ax) (U ay az a6) (U a7 a8 ba)) rfl rfl de.o Ae (Av _ _ _ rfl rfl rfl) ?_))
   have df:(dA (U au aw ax) (U ay az a6) (U a7 a8 ba)).toList=[U au aw ax,U ay az a6,U a7 a8 ba]:=rfl;rw[df];clear df de c5;have dg:xs.length=N*3:=hR.1;have T:=Aa hA aj.o;have b5:=ar.o.ext aj.o;have ae:=Qy (a:=U au aw ax) (b:=U ay az a6) (c:=U a7 a8 ba) (o:=q*3) G (by decide) (λj X=>by rw[G.cellAt (q*3+j) (by omega),Ι (by omega)];have h:=b5.todo (q*3+j) (by omega);rw[Ζ,Ι (by omega)] at h;exact congrArg J h) (by omega)
   obtain⟨ah,an⟩:=Qq G (q*3) (U au aw ax) (U ay az a6) (U a7 a8 ba);have h9:gA<=gR:=(G.lt gR rfl).1;have ao:=T.kept an (Aj T G (by decide));have ad:=(H.t aj.o).grown an (λk e=>by injection e;omega);obtain⟨w6,cj⟩:=Xq (w5.setCells gR (q*3) [U au aw ax,U ay az a6,U a7 a8 ba]);rw[cj] at ae ah ao ad;rw[cj];clear cj an T G H hR hA aj;cases r with
   | none=>obtain⟨rfl,-⟩:=b4.o.none_inv;have HW:=Z (show Gy ps ds from .inl ⟨q+1,by rw[bf.o];omega,bg.o⟩);have b6:=Z (bj.o.t ad);clear ad ah ao b5 ae;go_wp2_with (fail);go_ret2;exact⟨⟨ds,bw.o,.inr ⟨rfl,HW.o⟩⟩,b6.o⟩
   | some r=>
    obtain⟨rfl,hD⟩:=b4.o.some_inv;have aq:=He (ds.drop (q+1)) (λd hd=>(bz.o d (List.mem_of_mem_drop hd)).1) bg.o;have dk:=Nh (ds.drop (q+1)) (λd hd=>(bz.o d (List.mem_of_mem_drop hd)).2) bg.o aq.1;have b7:=Z ((b5.nilx ae).step (by omega) bg.o aq.1 dk (hD.nilx aq.1.val ae));clear b5 ae hD aq dk dg;go_wp2_with (fail);go_roundw
    case rel=>exact⟨q,_,by omega,by go_num,ad,ah,ao,b7⟩
    simp[intOf]<;>omega
  have jh:q+1=N:=by omega
  have c5:=Z (λ(a':Option Addr) (dd:Nat)=>show ϛ Η 29 #[U a' 0 dd] wr λe w'=>∃ r,ResOf w' e r/\Cj (ds.drop (q+1)) r/\Ext wr w' from by have h:=c5.o a' dd (λh=>absurd h (by omega));rw[show N-(q+1)=0 by omega] at h;exact h)
  go_upto_region 10 with (first
   | (go_at_call 29;(with_reducible refine (c5.o _ _).mono ?_);rintro e w5 ⟨r,bl,bm,ab⟩;obtain⟨au,aw,ax,ay,az,a6,a7,a8,ba,k1,rfl⟩:=bl.form;have b4:=Z bl;have bg:=Z bm;have aj:=Z ab;have G:=Aa hR ab;have de:=Z (show w5.there gR (q*3) 3 from λx hx=>Jo G (q*3) x (by omega));clear bl bm ab)
   | (refine wpList_store_mid rfl 40 (δ 45) (δ 43) rfl gR (q*3) (dA (U au aw ax) (U ay az a6) (U a7 a8 ba)) rfl rfl de.o Ae (Av _ _ _ rfl rfl rfl) ?_))
  have df:(dA (U au aw ax) (U ay az a6) (U a7 a8 ba)).toList=[U au aw ax,U ay az a6,U a7 a8 ba]:=rfl;rw[df];clear df de c5;have dg:xs.length=N*3:=hR.1;have T:=Aa hA aj.o;have b5:=ar.o.ext aj.o;have ae:=Qy (a:=U au aw ax) (b:=U ay az a6) (c:=U a7 a8 ba) (o:=q*3) G (by decide) (λj X=>by rw[G.cellAt (q*3+j) (by omega),Ι (by omega)];have h:=b5.todo (q*3+j) (by omega);rw[Ζ,Ι (by omega)] at h;exact congrArg J h) (by omega)
  obtain⟨ah,an⟩:=Qq G (q*3) (U au aw ax) (U ay az a6) (U a7 a8 ba);have h9:gA<=gR:=(G.lt gR rfl).1;have ao:=T.kept an (Aj T G (by decide));have ad:=(H.t aj.o).grown an (λk e=>by injection e;omega);obtain⟨w6,cj⟩:=Xq (w5.setCells gR (q*3) [U au aw ax,U ay az a6,U a7 a8 ba]);rw[cj] at ae ah ao ad;rw[cj];clear cj an T G H hR hA aj;cases r with
  | none=>obtain⟨rfl,-⟩:=b4.o.none_inv;have HW:=Z (show Gy ps ds from .inl ⟨q+1,by rw[bf.o];omega,bg.o⟩);have b6:=Z (bj.o.t ad);clear ad ah ao b5 ae;go_wp2_with (fail);go_ret2;exact⟨⟨ds,bw.o,.inr ⟨rfl,HW.o⟩⟩,b6.o⟩
  | some r=>
   obtain⟨rfl,hD⟩:=b4.o.some_inv;have aq:=He (ds.drop (q+1)) (λd hd=>(bz.o d (List.mem_of_mem_drop hd)).1) bg.o;have dk:=Nh (ds.drop (q+1)) (λd hd=>(bz.o d (List.mem_of_mem_drop hd)).2) bg.o aq.1;have b7:=Z ((b5.nilx ae).step (by omega) bg.o aq.1 dk (hD.nilx aq.1.val ae));clear b5 ae hD aq dk dg;go_wp2_with (fail);go_roundw
   case rel=>exact⟨q,_,by omega,by go_num,ad,ah,ao,b7⟩
   simp[intOf]<;>omega
 obtain rfl:i=0:=by omega
 rw[show (((0:Nat):Int)-1)=-1 from rfl];have ew:=bj.o.t H;have f107:=Qf ds (λi hi=>bz.o _ (Io hi)) (by rw[bf.o];omega) (J ⟨g6,0,I⟩) g6 0 N (λ_=>rfl) wr (du.o wr ew) (Ξ c3 ew.size) (ek.o.ext H);rw[bf.o] at f107;have f107:=Z f107;go_upto_region 13 with (go_at_call 29;(with_reducible refine f107.o.mono ?_);rintro e w5 ⟨r,bl,bm,ab⟩;obtain⟨au,aw,ax,ay,az,a6,a7,a8,ba,k1,rfl⟩:=bl.form;have b4:=Z bl;have bg:=Z bm;have aj:=Z ab;clear bl bm ab)
 clear f107 ew;cases r with
 | none=>obtain⟨rfl,-⟩:=b4.o.none_inv;have HW:=Z (show Gy ps ds from .inl ⟨0,by omega,by rw[ϰ];exact bg.o⟩);have b6:=Z (bj.o.t (H.t aj.o));clear H hR hA;go_wp2_with (fail);go_ret2;exact⟨⟨ds,bw.o,.inr ⟨rfl,HW.o⟩⟩,b6.o⟩
 | some r0=>
  obtain⟨rfl,-⟩:=b4.o.some_inv;have G:=Aa hR aj.o;have T:=Aa hA aj.o;have ca:=Z (ar.o.ext aj.o);have ab:=H.t aj.o;have bh:ϟ (OptI w5 ps ds (θ N (U I 0 0)) [] 0):=Z ⟨rfl,λq hq=>by omega,λq _ hq=>J5 _ _ _ _ (by simpa using hq)⟩;clear H hR hA ar aj b4 bg;go_wp2_with (fail);go_loopw [59] (λvi W=>∃ (i:Nat) (ys:List Δ) (ls:List (List Opt)),i<=N/\vi=.int Φ i/\Ext w2 W/\W.ownsRow gA 40 3 (U (J ⟨gR,0,I⟩) N N) N xs/\W.ownsRow gA 78 1 (U (J ⟨gA,0,I⟩) N N) N ys/\ϟ (RstI W xs ds 0)/\ϟ (OptI W ps ds ys ls i))
   (λvi _=>N-(intOf vi).toNat)
  case atStart=>exact⟨0,_,[],by omega,rfl,ab,G,T,ca,bh⟩
  clear ab G T ca bh;obtain⟨i,ys,ls,h6,rfl,H,hR,hA,ar,bp⟩:=hrel;by_cases c7:i<N
  ·have ji:(i:Int)<(N:Int):=by omega
   obtain⟨v1,v2,v3,fy,ey⟩:=ek.o i (by rw[bf.o];exact c7);obtain⟨r,bm,dy,ez,e0⟩:=ar.o.done i (by omega) (by rw[bf.o];exact c7);obtain⟨b',o',c',fz,-⟩:=hh.o i (by rw[HN.o];exact c7);obtain⟨e1,c4⟩:=bz.o (ds.getD i dN) (Io (by rw[bf.o];exact c7));have dg:xs.length=N*3:=hR.1;have bq:ys.length=N*1:=hA.1;have hq:=H.t (Κ wr);have kl:=(bj.o.t H).cell (fz 1 _ rfl);have ga:∀ V:Γ,Ext w2 V->V.rangeAt g6 (i*3) [v1,v2,v3]:=λV E j v X=>by have h:=E.cell (fy j v X);rw[ϖ] at h;exact h
   have gb:∀ V:Γ,V.ownsRow gA 40 3 (U (J ⟨gR,0,I⟩) N N) N xs->V.rangeAt gR (i*3) [xs.getD (i*3) Ω,xs.getD (i*3+1) Ω,xs.getD (i*3+2) Ω]:=λV E j v X=>by
    have hx:∀ k,k<N*3->V.cell? ⟨gR,k,I⟩=J (xs.getD k Ω):=λk hk=>by rw[E.cellAt k hk,Ζ,Ι (by omega)];rfl
    match j,X with
    | 0,X=>injection X with X;rw[<-X];exact hx _ (by omega)
    | 1,X=>injection X with X;rw[<-X];exact hx _ (by omega)
    | 2,X=>injection X with X;rw[<-X];exact hx _ (by omega)
    | j+3,X=>simp at X
   have c8:=Z ga;have ck:=Z gb;have dm:=bj.o.t H;have dz:=Z (λV (E:Ext wr V)=>(SG (ds.getD i dN) r e1 dy c4 ez _ _ V (du.o V (dm.trans E)) (Ξ c3 (dm.trans E).size) (ey.ext (H.t E)) (e0.ext E)).mono λe w' h=>ï h.1.find h.2);have ea:=Z (λV (E:Ext wr V)=>(PU (ds.getD i dN) r e1 dy c4 ez _ _ V (du.o V (dm.trans E)) (Ξ c3 (dm.trans E).size) (ey.ext (H.t E)) (e0.ext E)).mono λe w' h=>ï h.1.find h.2);have ib:=enters_of Tryz.func30 (by kernel_rfl) rfl;have ic:=enters_of Tryz.func31 (by kernel_rfl) rfl;have eb:=Z bm;have jl:=Z dy;have gd:=Z bq;obtain⟨x1,gf⟩:=Xq (xs.getD (i*3) Ω);obtain⟨x2,gg⟩:=Xq (xs.getD (i*3+1) Ω);obtain⟨x3,gi⟩:=Xq (xs.getD (i*3+2) Ω);rw[gf,gg,gi] at ck dz ea;have gj:i<6:=by omega
   clear fy ey bm dy ez e0 fz e1 c4 dg bq hq ga gb gf gg gi dm;obtain⟨lz,e4⟩:=Xq ((ps.getD i pN).lz);have ef:=Z e4;rw[e4] at kl;clear e4;cases lz with
   | false=>
    clear ea ic;go_upto_region 21 with (fail)
    clear kl;have dn:=c8.o wr.drew (H.t (Κ wr).drew);have dp:=ck.o wr.drew (Aa hR (Κ wr).drew);refine Bl 17 [(0,Α),(1,Α),(2,Α),(3,Α),(4,Α),(5,Α),(6,Α),(7,Α),(8,Α),(9,Α),(10,Α),(11,Ε),(12,Α),(13,Α),(14,Α),(15,Α),(16,Ε),(17,Ε)] (by kernel_rfl) (by kernel_rfl) (λ_ _ _ _ h=>h)
     (λV=>V.rangeAt g6 (i*3) [v1,v2,v3]/\V.rangeAt gR (i*3) [x1,x2,x3]) ⟨dn,dp⟩ ?_
    clear dn dp;have ai:=(Κ wr).drew;obtain⟨wy,cl⟩:=Xq (wr.drew);rw[cl] at ai;rw[cl];clear cl;iterate 6
     refine Af (v:=?_) rfl rfl (λV E=>?_) ?_
     rotate_left
     ·clear E;go_simp;first|done|with_reducible rfl
     simp only[η,Θ,Μ,Λ]
    refine Af (v:=.agg #[v1,v2,v3]) rfl rfl (λV E=>Cg 40 (δ 73) rfl g6 (i*3) rfl _ _ E.1 Ο rfl (Dk _ _ _)) ?_;simp only[η,Θ,Μ,Λ];iterate 3
     refine Af (v:=?_) rfl rfl (λV E=>?_) ?_
     rotate_left
     ·clear E;go_simp;first|done|with_reducible rfl
     simp only[η,Θ,Μ,Λ]
    refine Af (v:=.agg #[x1,x2,x3]) rfl rfl (λV E=>Cg 40 (δ 77) rfl gR (i*3) rfl _ _ E.2 Ο rfl (Dk _ _ _)) ?_;simp only[η,Θ,Μ,Λ];refine Ao rfl (λK hK=>?_);go_simp
    (with_reducible refine (dz.o wy ai).mono ?_)
    rintro e wz ⟨cm,bc⟩;obtain⟨oa,cq,ct,k1,rfl⟩:=cm.form;have ab:=(H.t ai).trans bc;have G:=Aa hR (ai.t bc);have T:=Aa hA (ai.t bc);refine hK _ _ (λ_=>⟨c8.o wz ab,ck.o wz G⟩) ?_;have cu:=Z cm;have ca:=ar.o.ext (ai.t bc);have bh:=bp.o.ext (ai.t bc);clear hK K cm H hR hA ar bp ai bc dz;iterate 4
     refine Af (v:=?_) rfl rfl (λV E=>?_) ?_
     rotate_left
     ·clear E;go_simp;first|done|with_reducible rfl
     simp only[η,Θ,Μ,Λ]
    have bq:=gd.o;have co:wz.cell? ⟨gA,i,I⟩=J (U I 0 0):=by rw[T.cellAt i (by omega),Ι (by omega)];have h:=bh.todo i (Υ _) (by omega);rw[Ζ,Ι (by omega)] at h;exact congrArg J h
    have fo:=T.frozenAt i;have ae:=(NilX.refl wz).set (v:=U oa cq ct) T (by decide) co (.inl rfl);obtain⟨ao,an⟩:=T.stored i (U oa cq ct);have e7:gA<=gR:=(G.lt gR rfl).1;have ad:=ab.grown an (λk e=>by injection e;omega);have ah:=G.kept an (Aj G T (by decide));have b7:=Z (ca.nilx ae);have cv:=Z ae;have dq:=ck.o _ ah;have dr:=c8.o _ ad;refine Ao rfl (λK hK=>?_);go_simp;refine hK _ _ (λ_=>⟨dr,dq⟩) ?_;clear hK K dr dq fo an G ab ca e7 ae;obtain⟨wf,b8⟩:=Xq (wz.setCell ⟨gA,i,I⟩ (U oa cq ct));rw[b8] at ao ad ah b7;rw[b8];have cw:=Z b8;clear b8;refine Ao rfl (λK hK=>?_);go_simp;refine hK _ _ (λh=>absurd h (by omega)) ?_;clear hK K;refine Bj ?_;rcases cu.o with⟨os,a1,c1,he,h1,h2,h3⟩|⟨he,e8⟩
    ·simp only[Ending.returned.injEq,Δ.tuple.injEq,Array.mk.injEq,ì,Ϗ.injEq,Â.injEq,and_true,true_and] at he;obtain⟨⟨rfl,rfl,rfl⟩,rfl⟩:=he;have aq:=He (ds.drop (i+1)) (λd hd=>(bz.o d (List.mem_of_mem_drop hd)).1) eb.o;rw[Ec aq,<-ef.o] at h1;have cy:=bh.step (by omega) gj cv.o h3 h2 h1;rw[cw.o] at cy;have e9:=Z cy;clear cy aq h1 h2 h3 bh cv cu cw bq co T;go_wp2_with (fail);go_roundw
     case rel=>exact⟨i+1,_,_,by omega,by go_num,ad,ah,ao,b7,e9⟩
     simp[intOf]<;>omega
    simp only[Ending.returned.injEq,Δ.tuple.injEq,Array.mk.injEq,ì,Ϗ.injEq,Â.injEq,and_true,true_and] at he;obtain⟨⟨rfl,rfl,rfl⟩,rfl⟩:=he;have HW:=Z (show Gy ps ds from .inr (.inl ⟨i,by rw[bf.o];exact c7,r,eb.o,by rw[ef.o];exact e8⟩));have b6:=Z (bj.o.t ad);clear ad ah ao cv cu cw bq co T bh;go_wp2_with (fail);go_ret2;exact⟨⟨ds,bw.o,.inr ⟨rfl,HW.o⟩⟩,b6.o⟩
   | true=>
    clear dz ib;go_upto_region 21 with (fail)
    clear kl;have dn:=c8.o wr.drew (H.t (Κ wr).drew);have dp:=ck.o wr.drew (Aa hR (Κ wr).drew);refine Bl 17 [(0,Α),(1,Α),(2,Α),(3,Α),(4,Α),(5,Α),(6,Α),(7,Α),(8,Α),(9,Α),(10,Α),(11,Ε),(12,Α),(13,Α),(14,Α),(15,Α),(16,Ε),(17,Ε)] (by kernel_rfl) (by kernel_rfl) (λ_ _ _ _ h=>h)
     (λV=>V.rangeAt g6 (i*3) [v1,v2,v3]/\V.rangeAt gR (i*3) [x1,x2,x3]) ⟨dn,dp⟩ ?_
    clear dn dp;have ai:=(Κ wr).drew;obtain⟨wy,cl⟩:=Xq (wr.drew);rw[cl] at ai;rw[cl];clear cl;iterate 6
     refine Af (v:=?_) rfl rfl (λV E=>?_) ?_
     rotate_left
     ·clear E;go_simp;first|done|with_reducible rfl
     simp only[η,Θ,Μ,Λ]
    refine Af (v:=.agg #[v1,v2,v3]) rfl rfl (λV E=>Cg 40 (δ 73) rfl g6 (i*3) rfl _ _ E.1 Ο rfl (Dk _ _ _)) ?_;simp only[η,Θ,Μ,Λ];iterate 3
     refine Af (v:=?_) rfl rfl (λV E=>?_) ?_
     rotate_left
     ·clear E;go_simp;first|done|with_reducible rfl
     simp only[η,Θ,Μ,Λ]
    refine Af (v:=.agg #[x1,x2,x3]) rfl rfl (λV E=>Cg 40 (δ 77) rfl gR (i*3) rfl _ _ E.2 Ο rfl (Dk _ _ _)) ?_;simp only[η,Θ,Μ,Λ];refine Ao rfl (λK hK=>?_);go_simp
    (with_reducible refine (ea.o wy ai).mono ?_)
    rintro e wz ⟨cm,bc⟩;obtain⟨oa,cq,ct,k1,rfl⟩:=cm.form;have ab:=(H.t ai).trans bc;have G:=Aa hR (ai.t bc);have T:=Aa hA (ai.t bc);refine hK _ _ (λ_=>⟨c8.o wz ab,ck.o wz G⟩) ?_;have cu:=Z cm;have ca:=ar.o.ext (ai.t bc);have bh:=bp.o.ext (ai.t bc);clear hK K cm H hR hA ar bp ai bc ea;iterate 4
     refine Af (v:=?_) rfl rfl (λV E=>?_) ?_
     rotate_left
     ·clear E;go_simp;first|done|with_reducible rfl
     simp only[η,Θ,Μ,Λ]
    have bq:=gd.o;have co:wz.cell? ⟨gA,i,I⟩=J (U I 0 0):=by rw[T.cellAt i (by omega),Ι (by omega)];have h:=bh.todo i (Υ _) (by omega);rw[Ζ,Ι (by omega)] at h;exact congrArg J h
    have fo:=T.frozenAt i;have ae:=(NilX.refl wz).set (v:=U oa cq ct) T (by decide) co (.inl rfl);obtain⟨ao,an⟩:=T.stored i (U oa cq ct);have e7:gA<=gR:=(G.lt gR rfl).1;have ad:=ab.grown an (λk e=>by injection e;omega);have ah:=G.kept an (Aj G T (by decide));have b7:=Z (ca.nilx ae);have cv:=Z ae;have dq:=ck.o _ ah;have dr:=c8.o _ ad;refine Ao rfl (λK hK=>?_);go_simp;refine hK _ _ (λ_=>⟨dr,dq⟩) ?_;clear hK K dr dq fo an G ab ca e7 ae;obtain⟨wf,b8⟩:=Xq (wz.setCell ⟨gA,i,I⟩ (U oa cq ct));rw[b8] at ao ad ah b7;rw[b8];have cw:=Z b8;clear b8;refine Ao rfl (λK hK=>?_);go_simp;refine hK _ _ (λh=>absurd h (by omega)) ?_;clear hK K;refine Bj ?_;rcases cu.o with⟨os,a1,c1,he,h1,h2,h3⟩|⟨he,e8⟩
    ·simp only[Ending.returned.injEq,Δ.tuple.injEq,Array.mk.injEq,ì,Ϗ.injEq,Â.injEq,and_true,true_and] at he;obtain⟨⟨rfl,rfl,rfl⟩,rfl⟩:=he;have aq:=He (ds.drop (i+1)) (λd hd=>(bz.o d (List.mem_of_mem_drop hd)).1) eb.o;rw[Ec aq,<-ef.o] at h1;have cy:=bh.step (by omega) gj cv.o h3 h2 h1;rw[cw.o] at cy;have e9:=Z cy;clear cy aq h1 h2 h3 bh cv cu cw bq co T;go_wp2_with (fail);go_roundw
     case rel=>exact⟨i+1,_,_,by omega,by go_num,ad,ah,ao,b7,e9⟩
     simp[intOf]<;>omega
    simp only[Ending.returned.injEq,Δ.tuple.injEq,Array.mk.injEq,ì,Ϗ.injEq,Â.injEq,and_true,true_and] at he;obtain⟨⟨rfl,rfl,rfl⟩,rfl⟩:=he;have HW:=Z (show Gy ps ds from .inr (.inl ⟨i,by rw[bf.o];exact c7,r,eb.o,by rw[ef.o];exact e8⟩));have b6:=Z (bj.o.t ad);clear ad ah ao cv cu cw bq co T bh;go_wp2_with (fail);go_ret2;exact⟨⟨ds,bw.o,.inr ⟨rfl,HW.o⟩⟩,b6.o⟩
  obtain rfl:N=i:=by omega
  have gk:=OptI.all bw.o (by rw[HN.o];exact bp.o);have fa:=Z gk;have gl:=bp.o.len;have br:=Z gl;clear gk gl;obtain⟨wX,ih⟩:∃ V,V=wr:=⟨_,rfl⟩;subst ih;have bq:=hA.1;have ij:DT wX gA 0 ls:=λq hq=>by rw[br.o] at hq;refine⟨ys.getD q Ω,?_,(bp.o.at_ q hq).1⟩;rw[ϖ,hA.cellAt q (by omega),Ζ,Ι (by omega)];rfl
  have gn:=Z ij;have HE:=Z (bj.o.t H);clear H hR ar bq;go_wp2_with (fail);go_loopw [11,89] (λvc vi W=>∃ (j cn:Nat),j<=N/\cn<=257/\vi=.int Φ j/\vc=.int Φ cn/\W=wX/\ϟ (cn=min (Ar (ls.take j)).length 257)/\ϟ (∀ q,q<j->0<(ls.getD q []).length))
   (λ_ vi _=>N-(intOf vi).toNat)
  case atStart=>exact⟨0,1,by omega,by omega,rfl,rfl,rfl,Z rfl,Z λq hq=>by omega⟩
  obtain⟨j,cn,jm,ik,rfl,rfl,rfl,HC,gq⟩:=hrel;by_cases eg:j<N
  ·have jn:(j:Int)<(N:Int):=by omega
   obtain⟨u,hu,il⟩:=gn.o j (by rw[br.o];exact eg);rw[ϖ] at hu;obtain⟨a,c,rfl,-⟩:=il;obtain⟨gu,-⟩:=(bp.o.at_ j eg).2.1;obtain⟨nj,fc⟩:=Xq ((ls.getD j []).length);have eh:=Z fc;rw[fc] at hu gu;clear fc;by_cases h0:nj=0
   ·subst h0;have gv:=Z (AR ls j (by rw[br.o];exact eg) (ϭ.1 eh.o));have cz:=Z (λos (ho:os∈ls)=>by obtain⟨q,hq⟩:=Ï.1 ho;obtain⟨dt,fe⟩:=hq;have h:=(bp.o.at_ q (by rw[<-br.o];exact dt)).2.1.2;rw[Ζ,Ι dt,ϱ,fe] at h;exact h)
    go_wp2_with (fail);go_ret2;exact⟨⟨ds,bw.o,.inl ⟨ls,_,fa.o,cz.o,by rw[gv.o];decide,rfl,0,0,by rw[gv.o];exact CaO.nil _ _ _⟩⟩,HE.o⟩
   have jo:((nj:Int)=0)=False:=by simp;omega
   have gw:=NO (cn*nj);have im:cn*nj<=257*65536:=Nat.mul_le_mul ik gu;rw[Int.natCast_mul] at gw;have ff:=VU (ls:=ls) (q:=j) (by rw[br.o];exact eg) (by rw[eh.o];omega);rw[eh.o,<-HC.o] at ff;have ir:=Z ff;have iu:ϟ (∀ q,q<j+1->0<(ls.getD q []).length):=Z λq hq=>by
    by_cases e:q=j
    ·subst e;rw[eh.o];omega
    exact gq.o q (by omega)
   clear ff;have jq:(cn:Int)*(nj:Int)<=257*65536:=by rw[<-Int.natCast_mul];omega
   have jr:(0:Int)<=(cn:Int)*(nj:Int):=by rw[<-Int.natCast_mul];omega
   have js:min ((cn:Int)*(nj:Int)) 257=((min (cn*nj) 257:Nat):Int):=by rw[<-Int.natCast_mul];omega
   clear im gw;go_wp2_with (fail);go_roundw
   case rel=>exact⟨j+1,_,by omega,Nat.min_le_right _ _,by go_num,rfl,trivial,ir,iu⟩
   simp[intOf]<;>omega
  obtain rfl:N=j:=by omega
  have gx:ls.take N=ls:=by rw[<-br.o];exact List.take_length
  have fg:=HC.o;rw[gx] at fg;have gy:=Z fg;clear fg gx;by_cases jt:256<cn
  ·have iw:(256:Int)<(cn:Int):=by omega
   have HW:=Z (show Gy ps ds from .inr (.inr ⟨ls,fa.o,by have:=gy.o;omega⟩));go_wp2_with (fail);go_ret2;exact⟨⟨ds,bw.o,.inr ⟨rfl,HW.o⟩⟩,HE.o⟩
  have iw:¬ (256:Int)<(cn:Int):=by omega
  have fh:(Ar ls).length<=256:=by have:=gy.o;omega
  have cz:=Z (λos (ho:os∈ls)=>by obtain⟨q,hq⟩:=Ï.1 ho;obtain⟨dt,fe⟩:=hq;have h:=(bp.o.at_ q (by rw[<-br.o];exact dt)).2;rw[Ζ,Ι dt,ϱ,fe] at h;exact ï h.1.2 λo ho=>h.2.hc o ho)
  have f110:=Z (KF ls (by rw[br.o];omega) (λos c9 o ho=>⟨⟨((cz.o os c9).2 o ho).1.val,((cz.o os c9).1 o ho).1⟩,((cz.o os c9).2 o ho).2.val,((cz.o os c9).1 o ho).2⟩)
   (λj X=>μ (AP ls (λk hk=>gq.o k (by rw[<-br.o];exact hk)) (ls.length-j) j (by omega)) fh) gA 0 N wr gn.o)
  rw[br.o] at f110;have ix:=Z fh;clear fh;go_wp2_with (first|(go_at_call 32;(with_reducible refine f110.o.mono ?_);rintro e w9 ⟨v,rfl,gz,ha⟩;have iy:=Z gz;have iz:=Z ha;clear gz ha));go_ret2;exact⟨⟨ds,bw.o,.inl ⟨ls,v,fa.o,λos c9=>(cz.o os c9).1,ix.o,rfl,_,_,iy.o⟩⟩,HE.o.t iz.o⟩
def HdV (W:Γ) (v:Δ) (ds:List Dfa):Prop:=∃ a c,v=U a ds.length c/\∀ i,i<ds.length->∃ g h1 E G,a=J ⟨g,0,I⟩/\W.rangeAt g (i*3) [h1,E,G]/\IsD W (.agg #[h1,E,G]) (ds.getD i dN)
theorem HdV.ext {W W':Γ} {v:Δ} {ds:List Dfa} (h:HdV W v ds) (E:Ext W W'):HdV W' v ds:=by obtain⟨a,c,G,h⟩:=h;refine⟨a,c,G,λi hi=>?_⟩;obtain⟨g,h1,H,T,X,hr,hd⟩:=h i hi;exact⟨g,h1,H,T,X,λj v hj=>E.cell (hr j v hj),hd.ext E⟩
def CsV (W:Γ) (v:Δ) (cs:List (List Opt)):Prop:=∃ a c,v=U a cs.length c/\∀ i,i<cs.length->∃ g E G,a=J ⟨g,0,I⟩/\W.cell? ⟨g,i*2,I⟩=J E/\W.cell? ⟨g,i*2+1,I⟩=J G/\HdV W E ((cs.getD i []).map (·.head))/\HdV W G ((cs.getD i []).map (·.rest))
theorem CsV.ext {W W':Γ} {v:Δ} {cs:List (List Opt)} (h:CsV W v cs) (E:Ext W W'):CsV W' v cs:=by obtain⟨a,c,G,h⟩:=h;refine⟨a,c,G,λi hi=>?_⟩;obtain⟨g,H,T,X,aa,ab,h1,h2⟩:=h i hi;exact⟨g,H,T,X,E.cell aa,E.cell ab,h1.ext E,h2.ext E⟩
theorem HdO.view {W:Γ} {Bo:Nat} {v:Δ} {ds:List Dfa} (h:HdO W Bo v ds) (G:∀ d∈ds,Val d/\d.n.length<=64):HdV W v ds:=by
 obtain⟨xs,h1,H⟩:=h;obtain⟨a,c,rfl⟩:=Lm h1;refine⟨a,c,rfl,λi hi=>?_⟩;obtain⟨g,rfl⟩:=Hj h1 (by omega);have hl:=h1.1;have hx:∀ k,k<ds.length*3->W.cell? ⟨g,k,I⟩=J (xs.getD k Ω):=λk T=>by rw[h1.cellAt k T,Ζ,Ι (by omega)];rfl
 obtain⟨X,e2⟩:=G _ (by rw[Ζ,Ι hi];exact ϣ hi:ds.getD i dN∈ds);refine⟨g,_,_,_,rfl,λj u E=>?_,(H i hi).isD X e2⟩
 match j,E with
 | 0,E=>injection E with E;rw[<-E];exact hx _ (by omega)
 | 1,E=>injection E with E;rw[<-E];exact hx _ (by omega)
 | 2,E=>injection E with E;rw[<-E];exact hx _ (by omega)
 | j+3,E=>simp at E
theorem CasV.view {W:Γ} {v:Δ} {cs:List (List Opt)} (h:CasV W v cs) (G:∀ c∈cs,∀ o∈c,(Val o.head/\o.head.n.length<=64)/\Val o.rest/\o.rest.n.length<=64):CsV W v cs:=by
 obtain⟨X,Bo,xs,h1,H⟩:=h;obtain⟨a,c,rfl⟩:=Lm h1;refine⟨a,c,rfl,λi hi=>?_⟩;obtain⟨g,rfl⟩:=Hj h1 (by omega);have hl:=h1.1;have hx:∀ k,k<cs.length*2->W.cell? ⟨g,k,I⟩=J (xs.getD k Ω):=λk T=>by rw[h1.cellAt k T,Ζ,Ι (by omega)];rfl
 have hm:cs.getD i []∈cs:=by rw[Ζ,Ι hi];exact ϣ hi
 refine⟨g,_,_,rfl,hx _ (by omega),hx _ (by omega),(H i hi).1.view λd hd=>?_,(H i hi).2.view λd hd=>?_⟩
 ·obtain⟨o,E,rfl⟩:=ϴ.1 hd;exact (G _ hm o E).1
 obtain⟨o,E,rfl⟩:=ϴ.1 hd;exact (G _ hm o E).2
theorem VJ {l:List (List Opt)} {P:Opt->Prop} (h:∀ os∈l,∀ o∈os,P o) {c:List Opt} (hc:c∈Ar l):∀ o∈c,P o:=λo H=>by
 obtain⟨h1,T⟩:=Kb l c hc;obtain⟨k,X,rfl⟩:=Ï.1 H;have E:=T k (by omega);have G:k<l.length:=by omega
 rw[Ζ,Ζ,Ι X,Ι G] at E;exact h _ (ϣ G) _ E
theorem T2:∀ {ps:List Pt} {l:List (List Opt)},Ef ps l->∀ os∈l,∀ o∈os,Cano o.head/\Cano o.rest
 | [],l,h,os,E=>by have:l=[]:=h;subst this;cases E
 | p::ps,l,h,os,E=>by
  obtain⟨H,t,rfl,h0,G⟩:=h;rcases List.mem_cons.1 E with rfl|h1
  ·exact h0.hc
  exact T2 G os h1
end Go.Proofs.YtilncahcpjlfnaaGreatDoor
