/-
  The walk of PatternDisjoint.
-/
import Derived.Test.YtilncahcpjlfnaaGreatDoorM18
import Derived.Test.YtilncahcpjlfnaaGreatDoorM16
import Derived.Test.YtilncahcpjlfnaaGreatDoorM05
set_option linter.unusedVariables false
set_option linter.unusedSimpArgs false
set_option maxRecDepth 100000
set_option maxHeartbeats 8000000
open Bool renaming true → Α, false → Ε
open Go renaming Operand → Ñ, Value → Δ, World → Γ, execOp → ê, undef → Ω, wpList_load_mid → å
open Go.Act renaming put → η
open Go.Ending renaming returned → Ψ
open Go.IntKind renaming i64 → Φ
open Go.Lib renaming hid → Z
open Go.Operand renaming tmp → δ
open Go.Proofs.Tryz renaming prog → Η, underlying40 → Ο
open Go.Value renaming slice → U, pointer → ε, tuple → ϗ
open List renaming getD_eq_getElem?_getD → Ζ, getElem?_eq_getElem → Ι, length_map → ι, getElem_mem → ϣ, setIfInBounds_toArray → Θ, set_cons_zero → Μ, set_cons_succ → Λ
open Option renaming some → J, none → I
namespace Go.Proofs.YtilncahcpjlfnaaGreatDoor
open Go.RowKit Go.Shelf
theorem QR (ρ:Ñ->Δ) (o:Oper) (W:Γ) (x y:Ñ) (b n c k:Nat) (H:k<n) (E:o.op=.indexAddr 27 x y) (hx:ρ x=U (J ⟨b,0,I⟩) n c) (G:ρ y=.int Φ k):(ê ρ o).run Η W=.ok (.value (ε (J ⟨b,k*2,I⟩))) W:=by
 have T:(k:Int)<(n:Int):=by omega
 unfold ê;simp only[E,hx,G];go_simp
def Y5 {w:Γ} (x y:Ñ) (b n c k:Nat) (G:k<n):Sc Η w:=
 .gen (.indexAddr 27 x y) [.c (U (J ⟨b,0,I⟩) n c),.c (.int Φ k)] (.c (ε (J ⟨b,k*2,I⟩))) (AV.mono_c _) λρ o W H _ E=>⟨_,QR ρ o W x y b n c k G H (Ja E).1 (Ja E).2,rfl⟩
theorem QQ (ρ:Ñ->Δ) (o:Oper) (W:Γ) (x y:Ñ) (b n c k:Nat) (H:k<n) (E:o.op=.indexAddr 31 x y) (hx:ρ x=U (J ⟨b,0,I⟩) n c) (G:ρ y=.int Φ k):(ê ρ o).run Η W=.ok (.value (ε (J ⟨b,k*3,I⟩))) W:=by
 have T:(k:Int)<(n:Int):=by omega
 unfold ê;simp only[E,hx,G];go_simp
def Y4 {w:Γ} (x y:Ñ) (b n c k:Nat) (G:k<n):Sc Η w:=
 .gen (.indexAddr 31 x y) [.c (U (J ⟨b,0,I⟩) n c),.c (.int Φ k)] (.c (ε (J ⟨b,k*3,I⟩))) (AV.mono_c _) λρ o W H _ E=>⟨_,QQ ρ o W x y b n c k G H (Ja E).1 (Ja E).2,rfl⟩
structure CsAt (W:Γ) (g gh gr ch cr i N:Nat) (c:List Opt):Prop where
 c1:W.cell? ⟨g,i*2,I⟩=J (U (J ⟨gh,0,I⟩) N ch)
 c2:W.cell? ⟨g,i*2+1,I⟩=J (U (J ⟨gr,0,I⟩) N cr)
 hd:∀ k,k<N->∃ A:Array Δ,W.rangeAt gh (k*3) A.toList/\A.size=3/\IsD W (.agg A) (c.getD k oN).head
 rs:∀ k,k<N->∃ A:Array Δ,W.rangeAt gr (k*3) A.toList/\A.size=3/\IsD W (.agg A) (c.getD k oN).rest
theorem CsAt.ext {W W':Γ} {g gh gr ch cr i N:Nat} {c:List Opt} (h:CsAt W g gh gr ch cr i N c) (E:Ext W W'):CsAt W' g gh gr ch cr i N c where
 c1:=E.cell h.c1
 c2:=E.cell h.c2
 hd:=λk G=>by obtain⟨A,h1,H,T⟩:=h.hd k G;exact⟨A,λj v X=>E.cell (h1 j v X),H,T.ext E⟩
 rs:=λk G=>by obtain⟨A,h1,H,T⟩:=h.rs k G;exact⟨A,λj v X=>E.cell (h1 j v X),H,T.ext E⟩
theorem HdV.row {W:Γ} {v:Δ} {ds:List Dfa} (h:HdV W v ds) (h0:0<ds.length):∃ g c,v=U (J ⟨g,0,I⟩) ds.length c/\∀ k,k<ds.length->∃ A:Array Δ,W.rangeAt g (k*3) A.toList/\A.size=3/\IsD W (.agg A) (ds.getD k dN):=by
 obtain⟨a,c,rfl,h⟩:=h;obtain⟨g,_,_,_,rfl,_,_⟩:=h 0 h0;refine⟨g,c,rfl,λk E=>?_⟩;obtain⟨g',G,H,T,e,X,hd⟩:=h k E;injection e with e
 injection e with e
 subst e;exact⟨#[G,H,T],X,rfl,hd⟩
theorem X5 {c:List Opt} {N:Nat} (E:c.length=N) (f:Opt->Dfa) (d0:Dfa) (G:f oN=d0) (k:Nat) (H:k<N):(c.map f).getD k d0=f (c.getD k oN):=by rw[Ζ,Ζ,List.getElem?_map,Ι (by omega:k<c.length)];rfl
theorem CsV.row {W:Γ} {a:Option Addr} {n c:Nat} {cs:List (List Opt)} (h:CsV W (U a n c) cs) {i N:Nat} (hi:i<cs.length) (X:0<N) (E:(cs.getD i []).length=N):∃ g gh gr ch cr,a=J ⟨g,0,I⟩/\CsAt W g gh gr ch cr i N (cs.getD i []):=by
 obtain⟨a',c',e,h⟩:=h;injection e with e
 subst e;obtain⟨g,v1,v2,rfl,k1,k2,h1,G⟩:=h i hi;obtain⟨gh,ch,rfl,r1⟩:=h1.row (by rw[ι,E];exact X);obtain⟨gr,cr,rfl,r2⟩:=G.row (by rw[ι,E];exact X);rw[ι,E] at k1 k2 r1 r2;refine⟨g,gh,gr,ch,cr,rfl,k1,k2,λk H=>?_,λk H=>?_⟩
 ·obtain⟨A,h1,G,T⟩:=r1 k H;rw[X5 E (·.head) dN rfl k H] at T;exact⟨A,h1,G,T⟩
 obtain⟨A,h1,G,T⟩:=r2 k H;rw[X5 E (·.rest) dN rfl k H] at T;exact⟨A,h1,G,T⟩
theorem Mg {ps:List Pt} {l:List (List Opt)} (h:Ef ps l) {i:Nat} (hi:i<(Ar l).length):(Ar l).getD i []∈Ar l/\((Ar l).getD i []).length=ps.length:=by
 have hm:(Ar l).getD i []∈Ar l:=by rw[Ζ,Ι hi];exact ϣ hi
 exact⟨hm,by rw[(Kb l _ hm).1,DD h]⟩
theorem S0 {l:List (List Opt)} {N:Nat} (E:∀ c∈Ar l,∀ o∈c,(Cano o.head/\o.head.n.length<=64)/\Cano o.rest/\o.rest.n.length<=64) {c:List Opt} (hc:c∈Ar l) (G:c.length=N) {k:Nat} (H:k<N):(Cano (c.getD k oN).head/\(c.getD k oN).head.n.length<=64)/\Cano (c.getD k oN).rest/\(c.getD k oN).rest.n.length<=64:=
 E c hc _ (by rw[Ζ,Ι (by omega)];exact ϣ _)
def DisR (W:Γ) (V:Array Δ) (a b:Dfa):Prop:=(V.size=3/\V.all (·.oneCell')=Α)/\∃ d,IsD W (.agg V) d/\Cano d/\d.n.length<=64/\((∃ v,d.has v=Α)->a=b)
theorem DisR.ext {W W':Γ} {V:Array Δ} {a b:Dfa} (h:DisR W V a b) (E:Ext W W'):DisR W' V a b:=by obtain⟨h0,d,h1,G⟩:=h;exact⟨h0,d,h1.ext E,G⟩
def Sw (E:Nat) (L:List Δ) (a b:Dfa):Nat->Δ->Γ->Prop
 | 16,v,W=>∃ V,v=ϗ #[.agg V,.int Φ 0]/\DisR W V a b
 | 17,v,W=>∃ V,v=ϗ #[.agg V,.int Φ 0]/\DisR W V a b
 | 18,v,W=>∃ V,v=.agg V/\DisR W V a b
 | 19,v,_=>v=.int Φ 0
 | 20,v,W=>∃ g,v=ε (J ⟨g,0,I⟩)/\E<=g/\W.heap[g]? = J (.cells #[U I 0 0,U I 0 0,U I 0 0] 40 (0,0))
 | i,v,_=>v=L.getD i Ω
theorem UU (H:Nat) (L:List Δ) (a b:Dfa):∀ (i:Nat) (v:Δ) (w w':Γ),Sw H L a b i v w->Ext w w'->Sw H L a b i v w'
 | 0,_,_,_,h,_=>h
 | 1,_,_,_,h,_=>h
 | 2,_,_,_,h,_=>h
 | 3,_,_,_,h,_=>h
 | 4,_,_,_,h,_=>h
 | 5,_,_,_,h,_=>h
 | 6,_,_,_,h,_=>h
 | 7,_,_,_,h,_=>h
 | 8,_,_,_,h,_=>h
 | 9,_,_,_,h,_=>h
 | 10,_,_,_,h,_=>h
 | 11,_,_,_,h,_=>h
 | 12,_,_,_,h,_=>h
 | 13,_,_,_,h,_=>h
 | 14,_,_,_,h,_=>h
 | 15,_,_,_,h,_=>h
 | 16,_,_,_,⟨V,h1,E⟩,G=>⟨V,h1,E.ext G⟩
 | 17,_,_,_,⟨V,h1,E⟩,G=>⟨V,h1,E.ext G⟩
 | 18,_,_,_,⟨V,h1,E⟩,G=>⟨V,h1,E.ext G⟩
 | 19,_,_,_,h,_=>h
 | 20,_,_,_,⟨g,h1,E,T⟩,G=>⟨g,h1,E,G.heap T⟩
 | _+21,_,_,_,h,_=>h
theorem YU {a b:Dfa} (G:Cano a) (hb:Cano b) (H:a.n.length<=64) (T:b.n.length<=64) (h:a=b\/∀ w,¬ (a.has w=Α/\b.has w=Α)) (E vb:Δ) (w:Γ) (X:Tab w) (ab:0<w.heap.size) (ad:IsD w E a) (ae:IsD w vb b):Calls Η 13 #[E,vb] w λe w'=>∃ V,e=Ψ (ϗ #[.agg V,.int Φ 0])/\DisR w' V a b/\Ext w w':=
 (DB a b G.val hb.val H T E vb w X ab ad ae).mono λe w' ⟨r,h1,h2,h3⟩=>by obtain⟨d,rfl,k1,k2,k3⟩:=YT G H h h2;obtain⟨ac,lc,cc,an,ln,cn,aa,la,ca,k,rfl⟩:=h1.form;obtain⟨rfl,hD⟩:=h1.some_inv;exact⟨_,rfl,⟨⟨rfl,Av _ _ _ rfl rfl rfl⟩,d,hD,k1,k2,k3⟩,h3⟩
theorem XU (p:Prop):∃ z:Bool,z=Α↔p:=by
 by_cases h:p
 ·exact⟨Α,λ_=>h,λ_=>rfl⟩
 exact⟨Ε,(λe=>by cases e),λe=>absurd e h⟩
theorem UT (l:List UInt8) (vl:Δ) (w:Γ) (hT:Tab w) (bc:0<w.heap.size) (hl:ByW w vl l) :
  Calls Η 3 #[vl] w λe w'=>e=Ψ (.bool Α)/\Ext w w':=by
 have ay:=Z (λW (E:Ext w W)=>hT.below E.below bc);have az:=Z (λW (E:Ext w W)=>Nat.lt_of_lt_of_le bc E.size);have HL:=Z (λW (E:Ext w W)=>hl.ext E);have f50:=Z (Jj w hT bc);clear hl hT bc;go_enter Tryz.func3,Tryz.ntmps3;go_upto_region 2 with (go_at_call 9;(with_reducible refine f50.o.mono ?_);rintro e w1 ⟨rfl,G⟩)
 clear f50;have f51:=Z (Jv l vl w1 (HL.o w1 G));go_upto_region 3 with (go_at_call 10;(with_reducible refine f51.o.mono ?_);rintro e w2 ⟨ps,gp,cp,rfl,hp,e2,ck,aa⟩)
 clear f51;have bu:=hp.pos;replace G:=G.t aa;have f52:=Te ps hp gp 0 cp w2 (ay.o w2 G) (az.o w2 G) ck;obtain⟨N,hN⟩:=Xq (ps.length);have HN:=Z hN;rw[hN] at e2 bu f52;rw[hN];have f52:=Z f52;clear hp ck aa hN;go_upto_region 4 with (go_at_call 11;(with_reducible refine f52.o.mono ?_);rintro e w3 ⟨hm,aa⟩;obtain⟨ds,bd,⟨L,a,cc,hL,e4,hv,rfl,bw⟩|⟨rfl,-⟩⟩:=hm.ans)
 rotate_left
 ·replace G:=G.t aa;clear f52 aa bd hm;go_wp2_with (fail);go_ret;exact⟨rfl,G⟩
 replace G:=G.t aa;obtain⟨n,hn⟩:=Xq ((Ar L).length);rw[hn] at bw e4;rw[hn];have Hn:=Z hn;have cn:=Z bw;have bg:=Z hL;have HV:=Z hv;have bh:=Z (show (pts ps ds).length=N by have:=congrArg List.length (Et (ps:=ps) bd.len);rw[ι] at this;rw[this,bd.len,HN.o])
 have aj:=Z G;clear f52 aa bd hm bw hL hv hn;by_cases fm:64<n
 ·have e5:(64:Int)<(n:Int):=by omega
  go_wp2_with (fail);go_ret;exact⟨rfl,G⟩
 have e5:¬ (64:Int)<(n:Int):=by omega
 clear G;have G:=Κ w3;go_wp2_with (fail);go_loopw [7] (λvi W=>∃ (i:Nat),i<=n/\vi=.int Φ i/\Ext w3 W)
  (λvi _=>n-(intOf vi).toNat)
 case atStart=>exact⟨0,by omega,rfl,G⟩
 clear G;obtain⟨i,fo,rfl,G⟩:=hrel;by_cases bz:i<n
 ·have fp:(i:Int)<(n:Int):=by omega
  obtain⟨ct,bj⟩:=Mg bg.o (i:=i) (by rw[Hn.o];exact bz);rw[bh.o] at bj;obtain⟨g,gh,gr,ch,cr,rfl,cu⟩:=cn.o.row (by rw[Hn.o];exact bz) bu bj;have bk:=Z ct;have e6:=Z bj;have an:=Z (λV (T:Ext w3 V)=>cu.ext T);have q1:=(an.o wr G).c1;have q2:=(an.o wr G).c2;clear ct bj cu;go_wp2_with (fail);clear q1 q2;go_loopw [8] (λvi W=>∃ (k:Nat),k<=N/\vi=.int Φ k/\Ext w3 W)
   (λvi _=>N-(intOf vi).toNat)
  case atStart=>exact⟨0,by omega,rfl,G⟩
  clear G;obtain⟨k,fq,rfl,G⟩:=hrel;by_cases ak:k<N
  ·have fs:(k:Int)<(N:Int):=by omega
   obtain⟨A,cv,cw,cy⟩:=(an.o w3 (Κ w3)).hd k ak;obtain⟨B,cz,c4,c5⟩:=(an.o w3 (Κ w3)).rs k ak;obtain⟨⟨d1,d2⟩,d3,d4⟩:=S0 HV.o bk.o e6.o ak;obtain⟨-,⟨s1,s2⟩,-⟩:=AM bg.o bk.o bk.o (k:=k) (by rw[bh.o];exact ak);have c8:(Η.info? 40).map (·.size)=J A.toList.length:=by rw[Array.length_toList,cw];kernel_rfl
   have c9:(Η.info? 40).map (·.size)=J B.toList.length:=by rw[Array.length_toList,c4];kernel_rfl
   have a6:=Z (λV (T:Ext w3 V)=>show V.rangeAt gh (k*3) A.toList/\IsD V (.agg A) _ from⟨λj v hj=>T.cell (cv j v hj),cy.ext T⟩);have b0:=Z (λV (T:Ext w3 V)=>show V.rangeAt gr (k*3) B.toList/\IsD V (.agg B) _ from⟨λj v hj=>T.cell (cz j v hj),c5.ext T⟩);have da:=Z (And.intro d1 d2);have f46:=Z (Rd _ ⟨d1.val,d2⟩ Α ⟨λ_=>s1,λ_=>rfl⟩ (.agg A) wr (ay.o wr (aj.o.t G)) (az.o wr (aj.o.t G)) (a6.o wr G).2);have db:=λW (E:Ext w3 W)=>Z (Rd _ ⟨d3.val,d4⟩ Α ⟨λ_=>s2,λ_=>rfl⟩ (.agg B) W (ay.o W (aj.o.t E)) (az.o W (aj.o.t E)) (b0.o W E).2)
   have q1:=(an.o wr G).c1;have r1:=(a6.o wr G).1;clear cv cy cz c5 d1 d2 d3 d4 s1 s2;go_upto_region 15 with (first
    | (refine å rfl 40 (δ 81) rfl gh (k*3) rfl _ _ r1 Ο rfl c8 ?_)
    | (go_at_call 12;(with_reducible refine f46.o.mono ?_);rintro e w4 ⟨a1,n1,c1,rfl,aa⟩))
   replace G:=G.t aa;clear aa f46 q1 r1;have q1:=(an.o w4 G).c2;have r1:=(b0.o w4 G).1;have f46:=db w4 G;clear db;go_upto_region 16 with (first
    | (refine å rfl 40 (δ 93) rfl gr (k*3) rfl _ _ r1 Ο rfl c9 ?_)
    | (go_at_call 12;(with_reducible refine f46.o.mono ?_);rintro e w5 ⟨a2,n2,c2,rfl,aa⟩))
   replace G:=G.t aa;clear aa f46 q1 r1 b0 c9 c4;go_wp2_with (fail);go_loopw [13] (λvi W=>∃ (j:Nat),j<=i/\vi=.int Φ j/\Ext w3 W)
    (λvi _=>i-(intOf vi).toNat)
   case atStart=>exact⟨0,by omega,rfl,G⟩
   clear G;obtain⟨j,fy,rfl,G⟩:=hrel;by_cases fz:j<i
   ·have ga:(j:Int)<(i:Int):=by omega
    have b5:j<n:=by omega
    have gb:(j:Int)<(n:Int):=by omega
    obtain⟨b6,bl⟩:=Mg bg.o (i:=j) (by rw[Hn.o];exact b5);rw[bh.o] at bl;obtain⟨g',ae,gf,aq,gg,eg,b7⟩:=cn.o.row (by rw[Hn.o];exact b5) bu bl;injection eg with eg
    injection eg with eg
    subst eg;obtain⟨A2,dc,dd,de⟩:=b7.hd k ak;obtain⟨⟨d1,d2⟩,-,-⟩:=S0 HV.o b6 bl ak;obtain⟨-,-,df⟩:=AM bg.o bk.o b6 (k:=k) (by rw[bh.o];exact ak);have e7:(Η.info? 40).map (·.size)=J A2.toList.length:=by rw[Array.length_toList,dd];kernel_rfl
    have dg:=Z (λV (T:Ext w3 V)=>b7.ext T);have bm:=Z (λV (T:Ext w3 V)=>show V.rangeAt ae (k*3) A2.toList/\IsD V (.agg A2) _ from⟨λj v hj=>T.cell (dc j v hj),de.ext T⟩);have f40:=λW (E:Ext w3 W)=>Z (YU da.o.1 d1 da.o.2 d2 df (.agg A) (.agg A2) W (ay.o W (aj.o.t E)) (az.o W (aj.o.t E)) (a6.o W E).2 (bm.o W E).2)
    obtain⟨ar,dh⟩:=Xq ((((Ar L).getD i []).getD k oN).head);obtain⟨au,e8⟩:=Xq ((((Ar L).getD j []).getD k oN).head);rw[e8] at f40 bm;rw[dh] at f40;have dk:=a6;rw[dh] at dk;clear b6 bl b7 dc de d1 d2 df;go_upto_region 21 with (fail)
    refine Pi 21 160 19 (by kernel_rfl) (by kernel_rfl) rfl (λ_ _ _ _ h=>h) (Sw w3.heap.size [U (J ⟨g,0,I⟩) n cc,.int Φ i,ε (J ⟨g,i*2,I⟩),ε (J ⟨g,i*2,I⟩),U (J ⟨gh,0,I⟩) N ch,.int Φ k,ε (J ⟨gh,k*3,I⟩),.agg A,U (J ⟨g,0,I⟩) n cc,.int Φ j,ε (J ⟨g,j*2,I⟩),ε (J ⟨g,j*2,I⟩),U (J ⟨ae,0,I⟩) N aq,.int Φ k,ε (J ⟨ae,k*3,I⟩),.agg A2] ar au) Hk Jr (UU _ _ _ _) _ rfl (λc W H=>?_) (λi' fa=>?_) (λvs w6 dm hF hN=>?_)
    ·obtain⟨V,h,-⟩:∃ V,c.tmps.getD 109 Ω=ϗ #[.agg V,.int Φ 0]/\DisR W V ar au:=H 17 109 (by kernel_rfl);exact⟨.int Φ 0,λW=>by simp only[ê,Act.eval,h];rfl⟩
    ·have aw:=G.t (Κ wr).drew;clear G
     match i',fa with
     | 0,_=>
      refine Ap _ _ rfl rfl rfl λC W E H X=>?_
      have h3:C.tmps.getD 5 Ω=U (J ⟨g,0,I⟩) n cc:=X 5 (by kernel_rfl);go_simp;exact⟨_,rfl,Κ W,rfl,λ_ _ _ _ _=>trivial⟩
     | 1,_=>
      refine Ap _ _ rfl rfl rfl λC W E H X=>?_
      have h3:C.tmps.getD 7 Ω=.int Φ i:=X 7 (by kernel_rfl);go_simp;exact⟨_,rfl,Κ W,rfl,λ_ _ _ _ _=>trivial⟩
     | 2,_=>
      refine Ap _ _ rfl rfl rfl λC W E H X=>?_
      have h0:C.tmps.getD 110 Ω=U (J ⟨g,0,I⟩) n cc:=H 0 110 (by kernel_rfl);have h1:C.tmps.getD 111 Ω=.int Φ i:=H 1 111 (by kernel_rfl);go_simp;exact⟨_,rfl,Κ W,rfl,λ_ _ _ _ _=>trivial⟩
     | 3,_=>
      refine Ap _ _ rfl rfl rfl λC W E H X=>?_
      have h2:C.tmps.getD 112 Ω=ε (J ⟨g,i*2,I⟩):=H 2 112 (by kernel_rfl);go_simp;exact⟨_,rfl,Κ W,rfl,λ_ _ _ _ _=>trivial⟩
     | 4,_=>
      refine Ap _ _ rfl rfl rfl λC W E H X=>?_
      have h3:C.tmps.getD 113 Ω=ε (J ⟨g,i*2,I⟩):=H 3 113 (by kernel_rfl);have q:=(an.o W (aw.t E)).c1;go_simp;exact⟨_,rfl,Κ W,rfl,λ_ _ _ _ _=>trivial⟩
     | 5,_=>
      refine Ap _ _ rfl rfl rfl λC W E H X=>?_
      have h3:C.tmps.getD 8 Ω=.int Φ k:=X 8 (by kernel_rfl);go_simp;exact⟨_,rfl,Κ W,rfl,λ_ _ _ _ _=>trivial⟩
     | 6,_=>
      refine Ap _ _ rfl rfl rfl λC W E H X=>?_
      have h4:C.tmps.getD 114 Ω=U (J ⟨gh,0,I⟩) N ch:=H 4 114 (by kernel_rfl);have h5:C.tmps.getD 115 Ω=.int Φ k:=H 5 115 (by kernel_rfl);go_simp;exact⟨_,rfl,Κ W,rfl,λ_ _ _ _ _=>trivial⟩
     | 7,_=>
      refine Ap _ _ rfl rfl rfl λC W E H X=>?_
      have h6:C.tmps.getD 116 Ω=ε (J ⟨gh,k*3,I⟩):=H 6 116 (by kernel_rfl);refine Cr (Cg 40 (δ 116) rfl gh (k*3) h6 _ _ (a6.o W (aw.t E)).1 Ο rfl c8) ?_;exact⟨_,rfl,Κ W,rfl,λ_ _ _ _ _=>trivial⟩
     | 8,_=>
      refine Ap _ _ rfl rfl rfl λC W E H X=>?_
      have h3:C.tmps.getD 5 Ω=U (J ⟨g,0,I⟩) n cc:=X 5 (by kernel_rfl);go_simp;exact⟨_,rfl,Κ W,rfl,λ_ _ _ _ _=>trivial⟩
     | 9,_=>
      refine Ap _ _ rfl rfl rfl λC W E H X=>?_
      have h3:C.tmps.getD 13 Ω=.int Φ j:=X 13 (by kernel_rfl);go_simp;exact⟨_,rfl,Κ W,rfl,λ_ _ _ _ _=>trivial⟩
     | 10,_=>
      refine Ap _ _ rfl rfl rfl λC W E H X=>?_
      have h8:C.tmps.getD 118 Ω=U (J ⟨g,0,I⟩) n cc:=H 8 118 (by kernel_rfl);have h9:C.tmps.getD 119 Ω=.int Φ j:=H 9 119 (by kernel_rfl);go_simp;exact⟨_,rfl,Κ W,rfl,λ_ _ _ _ _=>trivial⟩
     | 11,_=>
      refine Ap _ _ rfl rfl rfl λC W E H X=>?_
      have gm:C.tmps.getD 120 Ω=ε (J ⟨g,j*2,I⟩):=H 10 120 (by kernel_rfl);go_simp;exact⟨_,rfl,Κ W,rfl,λ_ _ _ _ _=>trivial⟩
     | 12,_=>
      refine Ap _ _ rfl rfl rfl λC W E H X=>?_
      have gn:C.tmps.getD 121 Ω=ε (J ⟨g,j*2,I⟩):=H 11 121 (by kernel_rfl);have q:=(dg.o W (aw.t E)).c1;go_simp;exact⟨_,rfl,Κ W,rfl,λ_ _ _ _ _=>trivial⟩
     | 13,_=>
      refine Ap _ _ rfl rfl rfl λC W E H X=>?_
      have h3:C.tmps.getD 8 Ω=.int Φ k:=X 8 (by kernel_rfl);go_simp;exact⟨_,rfl,Κ W,rfl,λ_ _ _ _ _=>trivial⟩
     | 14,_=>
      refine Ap _ _ rfl rfl rfl λC W E H X=>?_
      have gq:C.tmps.getD 122 Ω=U (J ⟨ae,0,I⟩) N aq:=H 12 122 (by kernel_rfl);have gu:C.tmps.getD 123 Ω=.int Φ k:=H 13 123 (by kernel_rfl);go_simp;exact⟨_,rfl,Κ W,rfl,λ_ _ _ _ _=>trivial⟩
     | 15,_=>
      refine Ap _ _ rfl rfl rfl λC W E H X=>?_
      have fc:C.tmps.getD 124 Ω=ε (J ⟨ae,k*3,I⟩):=H 14 124 (by kernel_rfl);refine Cr (Cg 40 (δ 124) rfl ae (k*3) fc _ _ (bm.o W (aw.t E)).1 Ο rfl e7) ?_;exact⟨_,rfl,Κ W,rfl,λ_ _ _ _ _=>trivial⟩
     | 16,_=>
      refine Ap _ _ rfl rfl rfl λC W E H X=>?_
      have h7:C.tmps.getD 117 Ω=.agg A:=H 7 117 (by kernel_rfl);have gw:C.tmps.getD 125 Ω=.agg A2:=H 15 125 (by kernel_rfl);go_simp
      (with_reducible refine (f40 W (aw.t E)).o.mono ?_)
      rintro e W' ⟨V,rfl,T,fe⟩;exact⟨_,rfl,fe,⟨V,rfl,T⟩,λ_ _ _ _ _=>trivial⟩
     | 17,_=>
      refine Ap _ _ rfl rfl rfl λC W E H X=>?_
      obtain⟨V,dp,T⟩:∃ V,C.tmps.getD 126 Ω=ϗ #[.agg V,.int Φ 0]/\DisR W V ar au:=H 16 126 (by kernel_rfl);go_simp;exact⟨_,rfl,Κ W,⟨V,rfl,T⟩,λ_ _ _ _ _=>trivial⟩
     | 18,_=>
      refine Ap _ _ rfl rfl rfl λC W E H X=>?_
      obtain⟨V,dp,T⟩:∃ V,C.tmps.getD 109 Ω=ϗ #[.agg V,.int Φ 0]/\DisR W V ar au:=H 17 109 (by kernel_rfl);go_simp;exact⟨_,rfl,Κ W,⟨V,rfl,T⟩,λ_ _ _ _ _=>trivial⟩
     | 19,_=>
      refine Ap _ _ rfl rfl rfl λC W E H X=>?_
      obtain⟨V,dp,T⟩:∃ V,C.tmps.getD 109 Ω=ϗ #[.agg V,.int Φ 0]/\DisR W V ar au:=H 17 109 (by kernel_rfl);go_simp;exact⟨_,rfl,Κ W,rfl,λ_ _ _ _ _=>trivial⟩
     | 20,_=>
      refine Ap _ _ rfl rfl rfl λC W E H X=>?_
      go_simp;exact⟨_,rfl,(Κ W).alloc _,⟨_,rfl,(aw.t E).size,Ad W _⟩,λ_ _ _ _ _=>trivial⟩
     | _+21,h=>exact absurd h (by omega)
    obtain⟨V,dq,⟨b8,dr⟩,d,hD,b9,du,dv⟩:∃ V,vs 18=.agg V/\DisR w6 V ar au:=hF 18 (by omega);have dw:vs 19=.int Φ 0:=hF 19 (by omega);obtain⟨gx,dy,ff,bo⟩:∃ g,vs 20=ε (J ⟨g,0,I⟩)/\w3.heap.size<=g/\w6.heap[g]? = J (.cells #[U I 0 0,U I 0 0,U I 0 0] 40 (0,0)):=hF 20 (by omega);have dz:vs 0=U (J ⟨g,0,I⟩) n cc:=hF 0 (by omega);have ea:vs 1=.int Φ i:=hF 1 (by omega);have eb:vs 2=ε (J ⟨g,i*2,I⟩):=hF 2 (by omega);have ec:vs 3=ε (J ⟨g,i*2,I⟩):=hF 3 (by omega);have ed:vs 4=U (J ⟨gh,0,I⟩) N ch:=hF 4 (by omega);have ee:vs 5=.int Φ k:=hF 5 (by omega);have ef:vs 6=ε (J ⟨gh,k*3,I⟩):=hF 6 (by omega);have eh:vs 7=.agg A:=hF 7 (by omega);have ei:vs 8=U (J ⟨g,0,I⟩) n cc:=hF 8 (by omega);have ej:vs 9=.int Φ j:=hF 9 (by omega);have ek:vs 10=ε (J ⟨g,j*2,I⟩):=hF 10 (by omega);have en:vs 11=ε (J ⟨g,j*2,I⟩):=hF 11 (by omega);have eo:vs 12=U (J ⟨ae,0,I⟩) N aq:=hF 12 (by omega);have ep:vs 13=.int Φ k:=hF 13 (by omega);have er:vs 14=ε (J ⟨ae,k*3,I⟩):=hF 14 (by omega);have et:vs 15=.agg A2:=hF 15 (by omega);simp only[Bq,List.drop_succ_cons,List.drop_zero,dz,ea,eb,ec,ed,ee,ef,eh,ei,ej,ek,en,eo,ep,er,et,dq,dw,dy,List.getElem?_toArray,List.getElem?_cons_zero,List.getElem?_cons_succ,Option.bind_some,η,Θ,Μ,Λ];replace G:=G.t ((Κ wr).drew.t dm);have eu:(Η.info? 40).map (·.size)=J V.size:=by rw[b8];kernel_rfl
    have ev:(#[U I 0 0,U I 0 0,U I 0 0]:Array Δ).size=V.size:=b8.symm;clear hF hN dm dz ea eb ec ed ee ef eh ei ej ek en eo ep er et dq dw dy f40;go_upto_region 22 with (refine Sr 40 (δ 14) (δ 127) rfl bo eu ev dr ?_)
    have ba:=G.setRow ff V;have ca:=hD.setRow b9.val bo V;have cb:=setRow_heap w6 gx _ V 40 (0,0) bo;obtain⟨w7,cf⟩:=Xq (w6.setRow gx V);rw[cf] at ba ca cb;rw[cf];obtain⟨z,hz⟩:=XU (∃ u,d.has u=Α);have f46:=Z (Rd d ⟨b9.val,du⟩ z hz (.agg V) w7 (ay.o w7 (aj.o.t ba)) (az.o w7 (aj.o.t ba)) ca);have HZ:=Z (λe:z=Α=>dv (hz.1 e));have HX:=Z cb;clear cf bo hD G ca hz dv cb b9 du dr ev b8;go_upto_region 23 with (first
     | (refine Lr 40 (δ 14) HX.o Ο eu ?_)
     | (go_at_call 12;(with_reducible refine f46.o.mono ?_);rintro e w8 ⟨a3,n3,c3,rfl,aa⟩))
    have ai:=ba.t aa;have fj:=Z (λV (T:Ext w8 V)=>an.o V (ai.t T));have fk:=Z (λV (T:Ext w8 V)=>dg.o V (ai.t T));have ew:=Z (λV (T:Ext w8 V)=>dk.o V (ai.t T));have ey:=Z (λV (T:Ext w8 V)=>bm.o V (ai.t T));clear f46 aa ba;cases z with
    | false=>
     refine M1 160 Α [.int Φ 0,.bool Ε,.bool Ε,.bool Ε,.bool Ε,Ω,Ω,Ω,Ω,Ω,Ω,Ω,Ω,Ω,Ω,Ω,Ω,Ω,Ω,Ω,Ω,Ω,Ω,.bool Ε,.bool Ε]
      [.keep,.pure,.keep,.keep,.keep,.skip,.skip,.skip,.skip,.skip,.skip,.skip,.skip,.skip,.skip,.skip,.skip,.skip,.skip,.skip,.skip,.skip,.skip,.pure,.pure] (λ_=>by kernel_rfl) (by kernel_rfl) rfl rfl (λW=>by kernel_rfl) (by kernel_rfl) ?_
     intro w9 aa;replace ai:=ai.t aa;simp only[C4,η,Θ,Μ,Λ];go_wp2_with (fail);go_roundw
     case rel=>exact⟨j+1,by omega,by go_num,ai⟩
     simp[intOf]<;>omega
    | true=>
     have f30:∀ W,Ext w8 W->Calls Η 14 [.agg A,.agg A2].toArray W λe w'=>e=Ψ (.bool Α)/\Ext W w':=λW E=>(Lg _ _ _ _ W (ew.o W E).2 (ey.o W E).2).mono λe w' ⟨h1,h2⟩=>⟨by rw[h1,decide_eq_true (HZ.o rfl)],h2⟩
     refine M1 160 Α [.int Φ 0,.bool Ε,.bool Ε,.bool Α,.bool Α,U (J ⟨g,0,I⟩) n cc,.int Φ i,ε (J ⟨g,i*2,I⟩),ε (J ⟨g,i*2,I⟩),U (J ⟨gh,0,I⟩) N ch,.int Φ k,ε (J ⟨gh,k*3,I⟩),.agg A,U (J ⟨g,0,I⟩) n cc,.int Φ j,ε (J ⟨g,j*2,I⟩),ε (J ⟨g,j*2,I⟩),U (J ⟨ae,0,I⟩) N aq,.int Φ k,ε (J ⟨ae,k*3,I⟩),.agg A2,.bool Α,.bool Ε,.bool Ε,.bool Ε]
      [.keep,.pure,.keep,.keep,.keep,.keep,.keep,Y5 (δ 139) (δ 140) g n cc i bz,.pure,N6 (δ 142) g (i*2) (U (J ⟨gh,0,I⟩) N ch) (λW E=>(fj.o W E).c1),.keep,Y4 (δ 143) (δ 144) gh N ch k ak,ldR (δ 145) gh (k*3) A cw (λW E=>(ew.o W E).1),.keep,.keep,Y5 (δ 147) (δ 148) g n cc j b5,.pure,N6 (δ 150) g (j*2) (U (J ⟨ae,0,I⟩) N aq) (λW E=>(fk.o W E).c1),.keep,Y4 (δ 151) (δ 152) ae N aq k ak,ldR (δ 153) ae (k*3) A2 dd (λW E=>(ey.o W E).1),Mo 14 Sh [.agg A,.agg A2] (.bool Α) (λW E=>f30 W E),.pure,.pure,.pure] (λ_=>by kernel_rfl) (by kernel_rfl) rfl rfl (λW=>by kernel_rfl) (by kernel_rfl) ?_
     intro w9 aa;replace ai:=ai.t aa;simp only[C4,η,Θ,Μ,Λ];go_wp2_with (fail);go_roundw
     case rel=>exact⟨j+1,by omega,by go_num,ai⟩
     simp[intOf]<;>omega
   obtain rfl:i=j:=by omega
   go_wp2_with (fail);go_roundw
   case rel=>exact⟨k+1,by omega,by go_num,G⟩
   simp[intOf]<;>omega
  obtain rfl:N=k:=by omega
  go_wp2_with (fail);go_roundw
  case rel=>exact⟨i+1,by omega,by go_num,G⟩
  simp[intOf]<;>omega
 obtain rfl:n=i:=by omega
 go_wp2_with (fail);go_ret;exact⟨rfl,aj.o.t G⟩
end Go.Proofs.YtilncahcpjlfnaaGreatDoor
