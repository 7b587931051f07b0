/-
  The walk of PatternPriority.
-/
import Derived.Test.YtilncahcpjlfnaaGreatDoorM18
set_option linter.unusedVariables false
set_option linter.unusedSimpArgs false
set_option maxRecDepth 100000
set_option maxHeartbeats 4000000
open Bool renaming true → Α, false → Ε
open Go renaming wpQuiet_step → Ϧ, wpQuiet_nil → ϵ
open Go.IntKind renaming i64 → Φ, i64 → Ü
open Go.Lib renaming hid → Z
open Go.Value renaming slice → U
open Nat renaming zero_add → ϖ
open Option renaming some → J, none → I
namespace Go.Proofs.YtilncahcpjlfnaaGreatDoor
open Go.RowKit Go.Shelf
theorem Y9 {W:World} {g base c0 c1:Nat} (h:W.ownsRow base 3 1 (U (J ⟨g,0,I⟩) 2 2) 2 [iv c0,iv c1]):Ints W (U (J ⟨g,0,I⟩) 2 2) [c0,c1]:=by
 have h1:=Sl.of_owns h (by decide) undef;refine Sl.congr h1 λi hi=>?_
 have hi:i<2:=by simpa using hi
 match i,hi with
 | 0,_=>rfl
 | 1,_=>rfl
theorem KA (l:List UInt8) (vl:Value) (b:List UInt8) (vb:Value) (cu:List UInt8) (vc:Value) (w:World) (hT:Tab w) (b4:0<w.heap.size) (hl:ByW w vl l) (hb:ByW w vb b) (hc:ByW w vc cu) :
  Calls Tryz.prog 5 #[vl,vb,vc] w λe w'=>e=.returned (.bool Α)/\Ext w w':=by
 have c7:=Z (λW (hW:Ext w W)=>hT.below hW.below b4);have c8:=Z (λW (hW:Ext w W)=>Nat.lt_of_lt_of_le b4 hW.size);have HL:=Z (λW (hW:Ext w W)=>hl.ext hW);have HB:=Z (λW (hW:Ext w W)=>hb.ext hW);have dw:=hc.1;obtain⟨er,et,eu,ev,rfl,c9,-,da⟩:=hc.split;have db:=Z c9;have dc:=Z da;obtain⟨M,hM⟩:=Xq (cu.length);have HM:=Z hM;rw[hM] at db dc dw;rw[hM];have f50:=Z (Jj w hT b4);clear hl hb hc hT b4 c9 da hM;go_enter Tryz.func5,Tryz.ntmps5;go_upto_region 2 with (go_at_call 9;(with_reducible refine f50.o.mono ?_);rintro e w1 ⟨rfl,E⟩)
 clear f50;have f51:=Z (Jv l vl w1 (HL.o w1 E));go_upto_region 3 with (go_at_call 10;(with_reducible refine f51.o.mono ?_);rintro e w2 ⟨ps,gp,cp,rfl,hp,dx,de,bf⟩)
 clear f51;have HP:=Z hp;have b7:=Z de;have dy:=hp.pos;obtain⟨N,hN⟩:=Xq (ps.length);have G:=Z hN;rw[hN] at dx dy;rw[hN];replace E:=E.t bf;clear hp de bf hN;have f33:=Z (Sb 12 12 rfl (by decide) b vb w2 (HB.o w2 E));go_upto_region 4 with (go_at_call 19;(with_reducible refine f33.o.mono ?_);rintro e w3 ⟨x,gx,cx,rfl,dz,df,cl,bf⟩)
 clear f33;replace b7:=Z (b7.o.ext bf);replace E:=E.t bf;have cm:=Z df;obtain⟨X,hX⟩:=Xq (x.length);have T:=Z hX;rw[hX] at cm dz cl;rw[hX];clear df bf hX;go_upto_region 6 with (fail)
 have dg:=E.alloc (.cells #[.int Φ 0,.int Φ 0] 3);have cb:(w3.alloc (.cells #[.int Φ 0,.int Φ 0] 3)).ownsRow w3.heap.size 3 1 (U (J ⟨w3.heap.size,0,I⟩) 2 2) 2 [iv 0,iv 0]:=World.ownsRow_lit w3 #[.int Φ 0,.int Φ 0] 2 (Nat.le_refl _) (by unfold maxLen;omega) rfl;obtain⟨w4,cc⟩:=Xq (w3.alloc (.cells #[.int Φ 0,.int Φ 0] 3));rw[cc] at dg cb;rw[cc];have eb:w.heap.size<=w3.heap.size:=E.size;have dh:Ext w3 w4:=cc▸(Κ w3).alloc _;obtain⟨gI,bg⟩:=Xq (w3.heap.size);rw[bg] at cb;simp only[bg];have ey:Hid (w3.heap.size=gI):=Z bg;have cn:=Z E;have ez:w3.heap.size<=gI:=Nat.le_of_eq bg;clear E;have E:=dh;clear cc eb dh dg bg;go_loopw [11] (λvi W=>∃ (j c0 c1:Nat),j<=2/\j<=M/\vi=.int Φ j/\c0<=X/\c1<=X/\Ext w3 W/\W.ownsRow gI 3 1 (U (J ⟨gI,0,I⟩) 2 2) 2 [iv c0,iv c1])
  (λvi _=>2-(intOf vi).toNat)
 case atStart=>exact⟨0,0,0,by omega,by omega,rfl,by omega,by omega,E,cb⟩
 clear E cb;obtain⟨j,c0,c1,e0,e1,rfl,bh,bj,E,hO⟩:=hrel;have e2:(0:Int)<(X:Int)+1:=by omega
 by_cases a1:j<M
 ·have e3:(j:Int)<(M:Int):=by omega
  by_cases e4:j<2
  ·have e5:(j:Int)<2:=by omega
   obtain rfl:=db.o (by omega);have dk:=(cn.o.t E).cell (dc.o j a1);have dm:bv (cu.getD j 0)=.int .u8 ((cu.getD j 0).toNat:Int):=rfl;rw[dm] at dk;have ec:=(cu.getD j 0).toNat_lt;obtain⟨y,hy⟩:=Xq ((cu.getD j 0).toNat);rw[hy] at dk ec;have e6:(y:Int)<256:=by omega
   clear dm hy;have co:wr.cell? ⟨gI,j,I⟩=J (if j=0 then iv c0 else iv c1):=by
    rw[hO.cellAt j (by omega)];have:j=0\/j=1:=by omega
    rcases this with rfl|rfl<;>rfl
   have fo:=hO.frozenAt j;have dp:y % (X+1)<=X:=by have:=Nat.mod_lt y (show 0<X+1 by omega);omega
   have ed:∃ cd cf,cd<=X/\cf<=X/\(wr.setCell ⟨gI,j,I⟩ (iv (y % (X+1)))).ownsRow gI 3 1 (U (J ⟨gI,0,I⟩) 2 2) 2 [iv cd,iv cf]/\wr.grownBy (wr.setCell ⟨gI,j,I⟩ (iv (y % (X+1)))) (J gI):=by
    obtain⟨h1,h2⟩:=hO.stored j (iv (y % (X+1)));have:j=0\/j=1:=by omega
    rcases this with rfl|rfl
    ·exact⟨y % (X+1),c1,dp,bj,h1,h2⟩
    exact⟨c0,y % (X+1),bh,dp,h1,h2⟩
   obtain⟨cd,cf,ee,ef,dr,dt⟩:=ed;have eg:=Z (E.grown dt (λk e=>by injection e;omega));have eh:=Z dr;clear dr dt hO E;go_wp2_with (fail);go_roundw
   case rel=>exact⟨j+1,cd,cf,by omega,by omega,by go_num,ee,ef,eg.o,eh.o⟩
   simp[intOf]<;>omega
  obtain rfl:j=2:=by omega
  obtain⟨cs,aj⟩:=Xq ([c0,c1]);have ak:=Y9 hO;rw[aj] at ak;have an:cs.length=2:=by rw[<-aj];rfl
  have a6:∀ i,i<cs.length->cs.getD i 0<=X:=λi hi=>by
   rw[an] at hi;rw[<-aj]
   match i,hi with
   | 0,_=>exact bh
   | 1,_=>exact bj
  have ao:=Z an;have bk:=Z a6;have cq:=Z (λV (hV:Ext wr V)=>show Ints V _ cs from Sl.ext ak hV);have bl:=cn.o.t E;have aq:=Z bl;have a7:=Z (b7.o.ext E);have bm:=Z (cm.o.ext E);have f55:=Su ps HP.o x (by rw[T.o];omega) cs (by rw[G.o,an];omega) (λi hi=>by rw[T.o];exact a6 i hi) gp 0 cp gx cx (by rw[T.o];exact cl) _ wr a7.o (by rw[T.o];exact bm.o) ak;rw[G.o,T.o] at f55;obtain⟨d,hd⟩:=Xq (Co ps x cs 0 0 N);rw[hd] at f55;have HD:=Z hd;have f55:=Z f55;clear ak an a6 bl hO bh bj aj hd;go_upto_region 9 with (fail)
  cases d with
  | false=>go_wp2_with (go_at_call 20;(with_reducible refine f55.o.mono ?_);rintro e w5 ⟨rfl,H⟩);go_ret;exact⟨rfl,aq.o.t H⟩
  | true=>
   go_upto_region 11 with (go_at_call 20;(with_reducible refine f55.o.mono ?_);rintro e w5 ⟨rfl,H⟩)
   have f56:=Jt ps HP.o x (by rw[T.o];omega) gp 0 cp (U (J ⟨gx,0,I⟩) X cx) w5 (c7.o w5 (aq.o.t H)) (c8.o w5 (aq.o.t H)) (a7.o.ext H) (bm.o.ext H);rw[G.o] at f56;have f56:=Z f56;have cv:=Z (cq.o w5 H);clear f55;go_upto_region 12 with (go_at_call 21;(with_reducible refine f56.o.mono ?_);rintro e w6 ⟨hm,ar⟩;obtain⟨ds,bo,⟨cw,rfl⟩|⟨ll,bs,os,ss,bp,bq,ba,rfl⟩⟩:=hm.cases HP.o)
   ·exact absurd (Lk HP.o bo (λi hi=>by rw[T.o];exact bk.o i hi) (by rw[G.o,ao.o];omega) (by rw[G.o];exact HD.o)).1 cw
   rw[G.o] at ba bq;rw[G.o];have aa:=(Lk HP.o bo (λi hi=>by rw[T.o];exact bk.o i hi) (by rw[G.o,ao.o];omega) (by rw[G.o];exact HD.o)).2 ll bp;rw[G.o] at aa;have cy:=Z aa;have br:=Z ba;have bb:=Z (aq.o.t (H.t ar));have bt:=Z (show Ints w6 _ cs from Sl.ext cv.o ar);have bu:=Z (a7.o.ext (H.t ar));clear f56 hm bp bq ba aa H;go_wp2_with (fail);have E:=Κ w6;clear ar;go_loopw [14] (λvi W=>∃ (i:Nat),i<=N/\vi=.int Φ i/\Ext w6 W/\Hid (∀ j,j<i->(ll.getD j (0,0)).2=cs.getD j 0))
    (λvi _=>N-(intOf vi).toNat)
   case atStart=>exact⟨0,by omega,rfl,E,Z λj hj=>by omega⟩
   clear E;obtain⟨i,ej,rfl,E,bw⟩:=hrel;have ek:Ü.wrap ((i:Int)+1)=(i:Int)+1:=IntKind.wrap_i64_id (by omega) (by omega);by_cases a1:i+1<N
   ·have en:(i:Int)+1<(N:Int):=by omega
    have eo:(i:Int)<(N:Int):=by omega
    have ep:(i:Int)<2:=by omega
    have k1:=Aw (E.cell (br.o i (by omega)).2);have k2:=Aw (E.cell (Le bt.o i (by rw[ao.o];omega)));have k3:=Aw (E.cell (Np bu.o i (by rw[G.o];omega)));obtain⟨s,hs⟩:=Xq ((ll.getD i (0,0)).2);obtain⟨c,hc⟩:=Xq (cs.getD i 0);obtain⟨lz,bd⟩:=Xq ((ps.getD i pN).lz);rw[hs] at k1;rw[hc] at k2;rw[bd] at k3;have HS:=Z hs;have HC:=Z hc;have bz:=Z bd;clear hs hc bd;go_upto_region 17 with (fail)
    simp only[ϖ] at k2 k3;by_cases b0:s=c
    ·have c3:(s:Int)=(c:Int):=by omega
     refine B2 (by kernel_rfl) (by kernel_rfl) ?_;iterate 10 (with_reducible refine Ϧ (λK hK=>?_);go_simp;(refine hK _ ?_;clear hK K))
     refine ϵ ?_;rintro _ ⟨e,rfl⟩;have ad:=E.t e.ext;clear k1 k2 k3 E;generalize e.W=w8 at *;have c5:Hid (∀ j,j<i+1->(ll.getD j (0,0)).2=cs.getD j 0):=Z λj hj=>by
      by_cases e:j=i
      ·rw[e,HS.o,HC.o];exact b0
      exact bw.o j (by omega)
     go_wp2_with (fail);go_roundw
     case rel=>exact⟨i+1,by omega,by go_num,ad,c5⟩
     simp[intOf]<;>omega
    have c3:((s:Int)=(c:Int))=False:=eq_false (by omega);refine B2 (by kernel_rfl) (by kernel_rfl) ?_;iterate 10 (with_reducible refine Ϧ (λK hK=>?_);go_simp;(refine hK _ ?_;clear hK K))
    refine ϵ ?_;rintro _ ⟨e,rfl⟩;have ad:=E.t e.ext;clear k1 k2 k3;generalize e.W=w8 at *;have k1:=Aw (ad.cell (br.o i (by omega)).2);have k2:=Aw (ad.cell (Le bt.o i (by rw[ao.o];omega)));have k3:=Aw (ad.cell (Np bu.o i (by rw[G.o];omega)));rw[HS.o] at k1;rw[HC.o] at k2;rw[bz.o] at k3;simp only[ϖ] at k2 k3;have aa:=cy.o i (by omega) bw.o (by rw[HS.o,HC.o];exact b0);rw[HS.o,HC.o,bz.o] at aa;clear E;go_upto_region 18 with (fail)
    cases lz with
    | false=>
     have a1:(c:Int)<(s:Int):=by have:=of_decide_eq_true (show decide (c<s)=Α from aa);omega
     refine B2 (by kernel_rfl) (by kernel_rfl) ?_;iterate 21 (with_reducible refine Ϧ (λK hK=>?_);go_simp;(refine hK _ ?_;clear hK K))
     refine ϵ ?_;rintro _ ⟨e,rfl⟩;go_wp2_with (fail);go_ret;exact⟨rfl,bb.o.t (ad.t e.ext)⟩
    | true=>
     have a1:¬ (c:Int)<(s:Int):=by have:=of_decide_eq_false (show decide (c<s)=Ε from aa);omega
     refine B2 (by kernel_rfl) (by kernel_rfl) ?_;iterate 21 (with_reducible refine Ϧ (λK hK=>?_);go_simp;(refine hK _ ?_;clear hK K))
     refine ϵ ?_;rintro _ ⟨e,rfl⟩;go_wp2_with (fail);go_ret;exact⟨rfl,bb.o.t (ad.t e.ext)⟩
   go_wp2_with (fail);go_ret;exact⟨rfl,bb.o.t E⟩
 obtain rfl:M=j:=by omega
 obtain⟨cs,aj⟩:=Xq ([c0,c1]);have ak:=Y9 hO;rw[aj] at ak;have an:cs.length=2:=by rw[<-aj];rfl
 have a6:∀ i,i<cs.length->cs.getD i 0<=X:=λi hi=>by
  rw[an] at hi;rw[<-aj]
  match i,hi with
  | 0,_=>exact bh
  | 1,_=>exact bj
 have ao:=Z an;have bk:=Z a6;have cq:=Z (λV (hV:Ext wr V)=>show Ints V _ cs from Sl.ext ak hV);have bl:=cn.o.t E;have aq:=Z bl;have a7:=Z (b7.o.ext E);have bm:=Z (cm.o.ext E);have f55:=Su ps HP.o x (by rw[T.o];omega) cs (by rw[G.o,an];omega) (λi hi=>by rw[T.o];exact a6 i hi) gp 0 cp gx cx (by rw[T.o];exact cl) _ wr a7.o (by rw[T.o];exact bm.o) ak;rw[G.o,T.o] at f55;obtain⟨d,hd⟩:=Xq (Co ps x cs 0 0 N);rw[hd] at f55;have HD:=Z hd;have f55:=Z f55;clear ak an a6 bl hO bh bj aj hd;go_upto_region 9 with (fail)
 cases d with
 | false=>go_wp2_with (go_at_call 20;(with_reducible refine f55.o.mono ?_);rintro e w5 ⟨rfl,H⟩);go_ret;exact⟨rfl,aq.o.t H⟩
 | true=>
  go_upto_region 11 with (go_at_call 20;(with_reducible refine f55.o.mono ?_);rintro e w5 ⟨rfl,H⟩)
  have f56:=Jt ps HP.o x (by rw[T.o];omega) gp 0 cp (U (J ⟨gx,0,I⟩) X cx) w5 (c7.o w5 (aq.o.t H)) (c8.o w5 (aq.o.t H)) (a7.o.ext H) (bm.o.ext H);rw[G.o] at f56;have f56:=Z f56;have cv:=Z (cq.o w5 H);clear f55;go_upto_region 12 with (go_at_call 21;(with_reducible refine f56.o.mono ?_);rintro e w6 ⟨hm,ar⟩;obtain⟨ds,bo,⟨cw,rfl⟩|⟨ll,bs,os,ss,bp,bq,ba,rfl⟩⟩:=hm.cases HP.o)
  ·exact absurd (Lk HP.o bo (λi hi=>by rw[T.o];exact bk.o i hi) (by rw[G.o,ao.o];omega) (by rw[G.o];exact HD.o)).1 cw
  rw[G.o] at ba bq;rw[G.o];have aa:=(Lk HP.o bo (λi hi=>by rw[T.o];exact bk.o i hi) (by rw[G.o,ao.o];omega) (by rw[G.o];exact HD.o)).2 ll bp;rw[G.o] at aa;have cy:=Z aa;have br:=Z ba;have bb:=Z (aq.o.t (H.t ar));have bt:=Z (show Ints w6 _ cs from Sl.ext cv.o ar);have bu:=Z (a7.o.ext (H.t ar));clear f56 hm bp bq ba aa H;go_wp2_with (fail);have E:=Κ w6;clear ar;go_loopw [14] (λvi W=>∃ (i:Nat),i<=N/\vi=.int Φ i/\Ext w6 W/\Hid (∀ j,j<i->(ll.getD j (0,0)).2=cs.getD j 0))
   (λvi _=>N-(intOf vi).toNat)
  case atStart=>exact⟨0,by omega,rfl,E,Z λj hj=>by omega⟩
  clear E;obtain⟨i,ej,rfl,E,bw⟩:=hrel;have ek:Ü.wrap ((i:Int)+1)=(i:Int)+1:=IntKind.wrap_i64_id (by omega) (by omega);by_cases a1:i+1<N
  ·have en:(i:Int)+1<(N:Int):=by omega
   have eo:(i:Int)<(N:Int):=by omega
   have ep:(i:Int)<2:=by omega
   have k1:=Aw (E.cell (br.o i (by omega)).2);have k2:=Aw (E.cell (Le bt.o i (by rw[ao.o];omega)));have k3:=Aw (E.cell (Np bu.o i (by rw[G.o];omega)));obtain⟨s,hs⟩:=Xq ((ll.getD i (0,0)).2);obtain⟨c,hc⟩:=Xq (cs.getD i 0);obtain⟨lz,bd⟩:=Xq ((ps.getD i pN).lz);rw[hs] at k1;rw[hc] at k2;rw[bd] at k3;have HS:=Z hs;have HC:=Z hc;have bz:=Z bd;clear hs hc bd;go_upto_region 17 with (fail)
   simp only[ϖ] at k2 k3;by_cases b0:s=c
   ·have c3:(s:Int)=(c:Int):=by omega
    refine B2 (by kernel_rfl) (by kernel_rfl) ?_;iterate 10 (with_reducible refine Ϧ (λK hK=>?_);go_simp;(refine hK _ ?_;clear hK K))
    refine ϵ ?_;rintro _ ⟨e,rfl⟩;have ad:=E.t e.ext;clear k1 k2 k3 E;generalize e.W=w8 at *;have c5:Hid (∀ j,j<i+1->(ll.getD j (0,0)).2=cs.getD j 0):=Z λj hj=>by
     by_cases e:j=i
     ·rw[e,HS.o,HC.o];exact b0
     exact bw.o j (by omega)
    go_wp2_with (fail);go_roundw
    case rel=>exact⟨i+1,by omega,by go_num,ad,c5⟩
    simp[intOf]<;>omega
   have c3:((s:Int)=(c:Int))=False:=eq_false (by omega);refine B2 (by kernel_rfl) (by kernel_rfl) ?_;iterate 10 (with_reducible refine Ϧ (λK hK=>?_);go_simp;(refine hK _ ?_;clear hK K))
   refine ϵ ?_;rintro _ ⟨e,rfl⟩;have ad:=E.t e.ext;clear k1 k2 k3;generalize e.W=w8 at *;have k1:=Aw (ad.cell (br.o i (by omega)).2);have k2:=Aw (ad.cell (Le bt.o i (by rw[ao.o];omega)));have k3:=Aw (ad.cell (Np bu.o i (by rw[G.o];omega)));rw[HS.o] at k1;rw[HC.o] at k2;rw[bz.o] at k3;simp only[ϖ] at k2 k3;have aa:=cy.o i (by omega) bw.o (by rw[HS.o,HC.o];exact b0);rw[HS.o,HC.o,bz.o] at aa;clear E;go_upto_region 18 with (fail)
   cases lz with
   | false=>
    have a1:(c:Int)<(s:Int):=by have:=of_decide_eq_true (show decide (c<s)=Α from aa);omega
    refine B2 (by kernel_rfl) (by kernel_rfl) ?_;iterate 21 (with_reducible refine Ϧ (λK hK=>?_);go_simp;(refine hK _ ?_;clear hK K))
    refine ϵ ?_;rintro _ ⟨e,rfl⟩;go_wp2_with (fail);go_ret;exact⟨rfl,bb.o.t (ad.t e.ext)⟩
   | true=>
    have a1:¬ (c:Int)<(s:Int):=by have:=of_decide_eq_false (show decide (c<s)=Ε from aa);omega
    refine B2 (by kernel_rfl) (by kernel_rfl) ?_;iterate 21 (with_reducible refine Ϧ (λK hK=>?_);go_simp;(refine hK _ ?_;clear hK K))
    refine ϵ ?_;rintro _ ⟨e,rfl⟩;go_wp2_with (fail);go_ret;exact⟨rfl,bb.o.t (ad.t e.ext)⟩
  go_wp2_with (fail);go_ret;exact⟨rfl,bb.o.t E⟩
end Go.Proofs.YtilncahcpjlfnaaGreatDoor
