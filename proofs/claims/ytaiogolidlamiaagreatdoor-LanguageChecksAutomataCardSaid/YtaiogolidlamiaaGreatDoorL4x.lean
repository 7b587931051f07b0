/-
  The walk of LanguageChecksAutomata.
-/
import Derived.Test.YtaiogolidlamiaaGreatDoorN21
set_option linter.unusedVariables false
set_option linter.unusedSimpArgs false
open Bool renaming true → Ξ
open Go renaming wpList_load_row → Ο, wpList_store_row → Φ
open Go.Lib renaming hid → Α
open Go.Obj renaming cells → Ε
open Go.Operand renaming tmp → η
open Go.Proofs.Tryz renaming prog → Ζ, underlying30 → Κ
open Go.Value renaming slice → Β
open Nat renaming lt_of_lt_of_le → δ
open Option renaming some → Δ, none → Γ
namespace Go.Proofs.YtaiogolidlamiaaGreatDoor
set_option maxRecDepth 100000
set_option maxHeartbeats 4000000

open Go.RowKit Go.Shelf
theorem Aei (z:Dz) (v:Value) (W:World) (G:Tab W) (E:0<W.heap.size) (h:IsDz W v z) :
  Calls Ζ 14 #[v,Β (Δ ⟨W.heap.size,0,Γ⟩) 1 1] (W.alloc (Ε #[.int .u8 97] 5 (1,2))) λe w'=>∃ q k,Gz e w' q k/\Fs z (Jv z [97]) q k/\Ext W w':=by
 have D:=(Θ W).alloc (Ε #[.int .u8 97] 5 (1,2));exact (Aej z v _ [97] _ (G.below D.below E) (δ E D.size) (h.ext D) (Jp W [97] (1,2) (by decide))).mono λe w' ⟨q,k,I,J,M⟩=>⟨q,k,I,J,D.trans M⟩
theorem Aem (z:Dz) (v:Value) (W:World) (h:IsDz W v z) :
  Calls Ζ 15 #[v,Β (Δ ⟨W.heap.size,0,Γ⟩) 1 1] (W.alloc (Ε #[.int .u8 97] 5 (1,2))) λe w'=>∃ q k,Gz e w' q k/\Fs z (Jv z [97]) q k/\Ext W w':=by
 have D:=(Θ W).alloc (Ε #[.int .u8 97] 5 (1,2));exact (Aen z v _ [97] _ (h.ext D) (Jp W [97] (1,2) (by decide))).mono λe w' ⟨q,k,E,G,I⟩=>⟨q,k,E,G,D.trans I⟩
theorem Amb (z:Dz) (v:Value) (n:Int) (w:World) (hT:Tab w) (bz:0<w.heap.size) (hz:InDz w v z) :
  Calls Ζ 4 #[v,.int .i64 n] w λe w'=>e=.returned (.bool Ξ)/\Ext w w':=by
 have bg:=Α (λW (hW:Ext w W)=>hT.below hW.below bz);have bh:=Α (λW (hW:Ext w W)=>δ bz hW.size);have hS:=λW hT hs=>Α (Acp W hT hs)
 have HZ:=Α (λW (hW:Ext w W)=>hz.ext hW);obtain⟨ac,cc,an,cn,aa,la,ca,rfl⟩:=hz.agg;obtain⟨nn,b4⟩:∃ y,z.n.length=y:=⟨_,rfl⟩;obtain⟨lc,b5⟩:∃ y,z.cls.length=y:=⟨_,rfl⟩;have cr:=Α b4;have ct:=Α b5;rw[b4,b5] at HZ ⊢;obtain⟨V2,G⟩:∃ X,dA (Β ac lc cc) (Β an nn cn) (Β aa la ca)=X:=⟨_,rfl⟩;have cu:V2[0]? = Δ (Β ac lc cc):=by rw[<-G];rfl
 have cv:V2[1]? = Δ (Β an nn cn):=by rw[<-G];rfl
 have a7:(Ζ.info? 30).map (·.size)=Δ V2.size:=by rw[<-G];exact Ad
 rw[G] at HZ ⊢;have E:=(Θ w).alloc (Ε V2 30);have H2:=Aa w (Ε V2 30);clear hT bz hz G b4 b5;go_enter Tryz.func4,Tryz.ntmps4;go_upto_region 1 with (fail)
 obtain⟨w2,b7⟩:∃ W,w.alloc (Ε V2 30)=W:=⟨_,rfl⟩;rw[b7] at E H2;simp only[b7];clear b7;obtain⟨g2,hg⟩:∃ y,w.heap.size=y:=⟨_,rfl⟩;rw[hg] at H2;simp only[hg];clear hg;have J:=Α H2;clear H2;have f12:=hS w2 (bg.out w2 E) (bh.out w2 E);go_upto_region 2 with (first
  | (go_at_call 12;(with_reducible refine f12.out.mono ?_);rintro e w7 ⟨rfl,M⟩))
 have D:=M;clear f12 hS;replace J:=Α (D.heap J.out);replace E:=E.trans D;clear M D;have c0:=Av J.out cu;have c1:=Av J.out cv;by_cases dt:8<nn
 ·have cw:(8:Int)<(nn:Int):=by omega
  go_wp2;go_ret;exact⟨rfl,E⟩
 have cw:¬ (8:Int)<(nn:Int):=by omega
 by_cases du:8<lc
 ·have cx:(8:Int)<(lc:Int):=by omega
  go_wp2;go_ret;exact⟨rfl,E⟩
 have cx:¬ (8:Int)<(lc:Int):=by omega
 have T:=Α ((HZ.out _ E).dz (by rw[ct.out];omega) (by rw[cr.out];omega));clear dt du HZ cr ct;go_upto_region 4 with (fail)
 clear cw cx c0 c1 cu cv;have kc:=λ(w:World) (C:Array Value) (n c:Nat)=>Lib.run_convert_bytes_const (P:=Ζ) w 22 5 C n c Tryz.underlying22 Tryz.underlying5
 have f14:=Α (Aei z _ w7 (bg.out w7 E) (bh.out w7 E) T.out);go_upto_region 5 with (first
  | (refine Ο rfl 30 (η 2) rfl _ rfl _ _ _ _ J.out Κ rfl a7 ?_)
  | (go_at_call 14;(with_reducible refine f14.out.mono ?_);rintro e bl ⟨q,kq,⟨v,rfl,hD⟩,aj,M⟩;obtain⟨ac,lc,cc,an,cn,aa,la,ca,rfl⟩:=hD.agg)
  | (refine Φ rfl 30 (η 6) (η 43) rfl _ _ rfl rfl _ _ (Aa bl _) Ad rfl (Aq _ _ _ rfl rfl rfl) ?_))
 obtain⟨U,I,ab⟩:=Ei hD;obtain⟨V6,G⟩:∃ X,dA (Β ac lc cc) (Β an q.n.length cn) (Β aa la ca)=X:=⟨_,rfl⟩;have dv:(Ζ.info? 30).map (·.size)=Δ V6.size:=by rw[<-G];exact Ad
 rw[G] at U I ab;rw[G];obtain⟨dw,hw⟩:∃ W,(bl.alloc (Ε #[Β Γ 0 0,Β Γ 0 0,Β Γ 0 0] 30)).setRow bl.heap.size V6=W:=⟨_,rfl⟩;rw[hw] at U I ab;simp only[hw];obtain⟨g6,hg⟩:∃ y,bl.heap.size=y:=⟨_,rfl⟩;rw[hg] at I;rw[hg];have D:=M.trans U;have af:=Α I;have ag:=Α ab;have dx:=Α aj;clear aj f14;replace J:=Α (D.heap J.out);replace T:=Α (T.out.ext D);replace E:=E.trans D;clear hD U I ab G hw hg M D;have f15:=Α (Aem z _ dw T.out);go_upto_region 6 with (first
  | (refine Ο rfl 30 (η 2) rfl _ rfl _ _ _ _ J.out Κ rfl a7 ?_)
  | (go_at_call 15;(with_reducible refine f15.out.mono ?_);rintro e bm ⟨a,ka,⟨v,rfl,hD⟩,aj,M⟩;obtain⟨ac,lc,cc,an,cn,aa,la,ca,rfl⟩:=hD.agg)
  | (refine Φ rfl 30 (η 8) (η 50) rfl _ _ rfl rfl _ _ (Aa bm _) Ad rfl (Aq _ _ _ rfl rfl rfl) ?_))
 obtain⟨U,I,ab⟩:=Ei hD;obtain⟨V8,G⟩:∃ X,dA (Β ac lc cc) (Β an a.n.length cn) (Β aa la ca)=X:=⟨_,rfl⟩;have dy:(Ζ.info? 30).map (·.size)=Δ V8.size:=by rw[<-G];exact Ad
 rw[G] at U I ab;rw[G];obtain⟨cd,hw⟩:∃ W,(bm.alloc (Ε #[Β Γ 0 0,Β Γ 0 0,Β Γ 0 0] 30)).setRow bm.heap.size V8=W:=⟨_,rfl⟩;rw[hw] at U I ab;simp only[hw];obtain⟨g8,hg⟩:∃ y,bm.heap.size=y:=⟨_,rfl⟩;rw[hg] at I;rw[hg];have D:=M.trans U;have ak:=Α I;have al:=Α ab;have ea:=Α aj;clear aj f15;replace J:=Α (D.heap J.out);replace T:=Α (T.out.ext D);replace af:=Α (D.heap af.out);replace ag:=Α (ag.out.ext D);replace E:=E.trans D;clear hD U I ab G hw hg M D;clear kc;have f16:=Α (Ae2 z _ cd (bg.out cd E) (bh.out cd E) T.out);go_upto_region 7 with (first
  | (refine Ο rfl 30 (η 2) rfl _ rfl _ _ _ _ J.out Κ rfl a7 ?_)
  | (go_at_call 16;(with_reducible refine f16.out.mono ?_);rintro e bn ⟨p,kp,⟨v,rfl,hD⟩,aj,M⟩;obtain⟨ac,lc,cc,an,cn,aa,la,ca,rfl⟩:=hD.agg)
  | (refine Φ rfl 30 (η 10) (η 55) rfl _ _ rfl rfl _ _ (Aa bn _) Ad rfl (Aq _ _ _ rfl rfl rfl) ?_))
 obtain⟨U,I,ab⟩:=Ei hD;obtain⟨cf,G⟩:∃ X,dA (Β ac lc cc) (Β an p.n.length cn) (Β aa la ca)=X:=⟨_,rfl⟩;have eb:(Ζ.info? 30).map (·.size)=Δ cf.size:=by rw[<-G];exact Ad
 rw[G] at U I ab;rw[G];obtain⟨ec,hw⟩:∃ W,(bn.alloc (Ε #[Β Γ 0 0,Β Γ 0 0,Β Γ 0 0] 30)).setRow bn.heap.size cf=W:=⟨_,rfl⟩;rw[hw] at U I ab;simp only[hw];obtain⟨e8,hg⟩:∃ y,bn.heap.size=y:=⟨_,rfl⟩;rw[hg] at I;rw[hg];have D:=M.trans U;have ao:=Α I;have aq:=Α ab;have ed:=Α aj;clear aj f16;replace J:=Α (D.heap J.out);replace T:=Α (T.out.ext D);replace af:=Α (D.heap af.out);replace ag:=Α (ag.out.ext D);replace ak:=Α (D.heap ak.out);replace al:=Α (al.out.ext D);replace E:=E.trans D;clear hD U I ab G hw hg M D;have f17:=Α (Ae5 z _ ec T.out);go_upto_region 8 with (first
  | (refine Ο rfl 30 (η 2) rfl _ rfl _ _ _ _ J.out Κ rfl a7 ?_)
  | (go_at_call 17;(with_reducible refine f17.out.mono ?_);rintro e bo ⟨b,kb,⟨v,rfl,hD⟩,aj,M⟩;obtain⟨ac,lc,cc,an,cn,aa,la,ca,rfl⟩:=hD.agg)
  | (refine Φ rfl 30 (η 12) (η 60) rfl _ _ rfl rfl _ _ (Aa bo _) Ad rfl (Aq _ _ _ rfl rfl rfl) ?_))
 obtain⟨U,I,ab⟩:=Ei hD;obtain⟨cg,G⟩:∃ X,dA (Β ac lc cc) (Β an b.n.length cn) (Β aa la ca)=X:=⟨_,rfl⟩;have ee:(Ζ.info? 30).map (·.size)=Δ cg.size:=by rw[<-G];exact Ad
 rw[G] at U I ab;rw[G];obtain⟨ch,hw⟩:∃ W,(bo.alloc (Ε #[Β Γ 0 0,Β Γ 0 0,Β Γ 0 0] 30)).setRow bo.heap.size cg=W:=⟨_,rfl⟩;rw[hw] at U I ab;simp only[hw];obtain⟨fa,hg⟩:∃ y,bo.heap.size=y:=⟨_,rfl⟩;rw[hg] at I;rw[hg];have D:=M.trans U;have ay:=Α I;have az:=Α ab;have ef:=Α aj;clear aj f17;replace J:=Α (D.heap J.out);replace T:=Α (T.out.ext D);replace af:=Α (D.heap af.out);replace ag:=Α (ag.out.ext D);replace ak:=Α (D.heap ak.out);replace al:=Α (al.out.ext D);replace ao:=Α (D.heap ao.out);replace aq:=Α (aq.out.ext D);replace E:=E.trans D;clear hD U I ab G hw hg M D;have f18:=Α (Ads z _ ch (bg.out ch E) (bh.out ch E) T.out);go_upto_region 9 with (first
  | (refine Ο rfl 30 (η 2) rfl _ rfl _ _ _ _ J.out Κ rfl a7 ?_)
  | (go_at_call 18;(with_reducible refine f18.out.mono ?_);rintro e bp ⟨r,kr,⟨v,rfl,hD⟩,aj,M⟩;obtain⟨ac,lc,cc,an,cn,aa,la,ca,rfl⟩:=hD.agg)
  | (refine Φ rfl 30 (η 14) (η 65) rfl _ _ rfl rfl _ _ (Aa bp _) Ad rfl (Aq _ _ _ rfl rfl rfl) ?_))
 obtain⟨U,I,ab⟩:=Ei hD;obtain⟨cj,G⟩:∃ X,dA (Β ac lc cc) (Β an r.n.length cn) (Β aa la ca)=X:=⟨_,rfl⟩;have eg:(Ζ.info? 30).map (·.size)=Δ cj.size:=by rw[<-G];exact Ad
 rw[G] at U I ab;rw[G];obtain⟨eh,hw⟩:∃ W,(bp.alloc (Ε #[Β Γ 0 0,Β Γ 0 0,Β Γ 0 0] 30)).setRow bp.heap.size cj=W:=⟨_,rfl⟩;rw[hw] at U I ab;simp only[hw];obtain⟨fb,hg⟩:∃ y,bp.heap.size=y:=⟨_,rfl⟩;rw[hg] at I;rw[hg];have D:=M.trans U;have a1:=Α I;have a6:=Α ab;have ei:=Α aj;clear aj f18;replace J:=Α (D.heap J.out);replace T:=Α (T.out.ext D);replace af:=Α (D.heap af.out);replace ag:=Α (ag.out.ext D);replace ak:=Α (D.heap ak.out);replace al:=Α (al.out.ext D);replace ao:=Α (D.heap ao.out);replace aq:=Α (aq.out.ext D);replace ay:=Α (D.heap ay.out);replace az:=Α (az.out.ext D);replace E:=E.trans D;clear hD U I ab G hw hg M D;have f19:=Α (Adx z _ eh T.out);go_upto_region 10 with (first
  | (refine Ο rfl 30 (η 2) rfl _ rfl _ _ _ _ J.out Κ rfl a7 ?_)
  | (go_at_call 19;(with_reducible refine f19.out.mono ?_);rintro e bq ⟨c,kc,⟨v,rfl,hD⟩,aj,M⟩;obtain⟨ac,lc,cc,an,cn,aa,la,ca,rfl⟩:=hD.agg)
  | (refine Φ rfl 30 (η 16) (η 70) rfl _ _ rfl rfl _ _ (Aa bq _) Ad rfl (Aq _ _ _ rfl rfl rfl) ?_))
 obtain⟨U,I,ab⟩:=Ei hD;obtain⟨cl,G⟩:∃ X,dA (Β ac lc cc) (Β an c.n.length cn) (Β aa la ca)=X:=⟨_,rfl⟩;have ej:(Ζ.info? 30).map (·.size)=Δ cl.size:=by rw[<-G];exact Ad
 rw[G] at U I ab;rw[G];obtain⟨ek,hw⟩:∃ W,(bq.alloc (Ε #[Β Γ 0 0,Β Γ 0 0,Β Γ 0 0] 30)).setRow bq.heap.size cl=W:=⟨_,rfl⟩;rw[hw] at U I ab;simp only[hw];obtain⟨fc,hg⟩:∃ y,bq.heap.size=y:=⟨_,rfl⟩;rw[hg] at I;rw[hg];have D:=M.trans U;have a8:=Α I;have ba:=Α ab;have en:=Α aj;clear aj f19;replace J:=Α (D.heap J.out);replace T:=Α (T.out.ext D);replace af:=Α (D.heap af.out);replace ag:=Α (ag.out.ext D);replace ak:=Α (D.heap ak.out);replace al:=Α (al.out.ext D);replace ao:=Α (D.heap ao.out);replace aq:=Α (aq.out.ext D);replace ay:=Α (D.heap ay.out);replace az:=Α (az.out.ext D);replace a1:=Α (D.heap a1.out);replace a6:=Α (a6.out.ext D);replace E:=E.trans D;clear hD U I ab G hw hg M D;obtain⟨ca,c3⟩:∃ y,(Gs z n).1=y:=⟨_,rfl⟩;obtain⟨ck,c4⟩:∃ y,(Gs z n).2=y:=⟨_,rfl⟩;obtain⟨L,hL⟩:∃ y,(Ew z n).1=y:=⟨_,rfl⟩;obtain⟨lk,c6⟩:∃ y,(Ew z n).2=y:=⟨_,rfl⟩;have c7:=Α c3;have c8:=Α c4;have cm:=Α hL;have c9:=Α c6;clear c3 c4 hL c6;have f20:=Α (Alm z _ ek n ca ck c7.out c8.out T.out);go_upto_region 11 with (first
  | (refine Ο rfl 30 (η 2) rfl _ rfl _ _ _ _ J.out Κ rfl a7 ?_)
  | (go_at_call 20;(with_reducible refine f20.out.mono ?_);rintro e eo ⟨rfl,M⟩))
 have D:=M;clear f20;replace J:=Α (D.heap J.out);replace T:=Α (T.out.ext D);replace af:=Α (D.heap af.out);replace ag:=Α (ag.out.ext D);replace ak:=Α (D.heap ak.out);replace al:=Α (al.out.ext D);replace ao:=Α (D.heap ao.out);replace aq:=Α (aq.out.ext D);replace ay:=Α (D.heap ay.out);replace az:=Α (az.out.ext D);replace a1:=Α (D.heap a1.out);replace a6:=Α (a6.out.ext D);replace a8:=Α (D.heap a8.out);replace ba:=Α (ba.out.ext D);replace E:=E.trans D;clear M D;have f21:=Α (Alq z _ eo n ca ck c7.out c8.out T.out);go_upto_region 12 with (first
  | (refine Ο rfl 30 (η 2) rfl _ rfl _ _ _ _ J.out Κ rfl a7 ?_)
  | (go_at_call 21;(with_reducible refine f21.out.mono ?_);rintro e ep ⟨rfl,M⟩))
 have D:=M;clear f21;replace J:=Α (D.heap J.out);replace T:=Α (T.out.ext D);replace af:=Α (D.heap af.out);replace ag:=Α (ag.out.ext D);replace ak:=Α (D.heap ak.out);replace al:=Α (al.out.ext D);replace ao:=Α (D.heap ao.out);replace aq:=Α (aq.out.ext D);replace ay:=Α (D.heap ay.out);replace az:=Α (az.out.ext D);replace a1:=Α (D.heap a1.out);replace a6:=Α (a6.out.ext D);replace a8:=Α (D.heap a8.out);replace ba:=Α (ba.out.ext D);replace E:=E.trans D;clear M D;have f22:=Α (Ah6 z _ ep n L lk cm.out c9.out T.out);go_upto_region 13 with (first
  | (refine Ο rfl 30 (η 2) rfl _ rfl _ _ _ _ J.out Κ rfl a7 ?_)
  | (go_at_call 22;(with_reducible refine f22.out.mono ?_);rintro e er ⟨vo,rfl,db,M⟩))
 have D:=M;have cp:=Α db;clear db;clear f22;replace J:=Α (D.heap J.out);replace T:=Α (T.out.ext D);replace af:=Α (D.heap af.out);replace ag:=Α (ag.out.ext D);replace ak:=Α (D.heap ak.out);replace al:=Α (al.out.ext D);replace ao:=Α (D.heap ao.out);replace aq:=Α (aq.out.ext D);replace ay:=Α (D.heap ay.out);replace az:=Α (az.out.ext D);replace a1:=Α (D.heap a1.out);replace a6:=Α (a6.out.ext D);replace a8:=Α (D.heap a8.out);replace ba:=Α (ba.out.ext D);replace E:=E.trans D;clear M D;have f23:=Α (Aic z _ er n L lk cm.out c9.out T.out);go_upto_region 14 with (first
  | (refine Ο rfl 30 (η 2) rfl _ rfl _ _ _ _ J.out Κ rfl a7 ?_)
  | (go_at_call 23;(with_reducible refine f23.out.mono ?_);rintro e bu ⟨vi,rfl,dd,M⟩))
 have D:=M;have et:=Α dd;clear dd;clear f23;replace J:=Α (D.heap J.out);replace T:=Α (T.out.ext D);replace af:=Α (D.heap af.out);replace ag:=Α (ag.out.ext D);replace ak:=Α (D.heap ak.out);replace al:=Α (al.out.ext D);replace ao:=Α (D.heap ao.out);replace aq:=Α (aq.out.ext D);replace ay:=Α (D.heap ay.out);replace az:=Α (az.out.ext D);replace a1:=Α (D.heap a1.out);replace a6:=Α (a6.out.ext D);replace a8:=Α (D.heap a8.out);replace ba:=Α (ba.out.ext D);replace cp:=Α (cp.out.ext D);replace E:=E.trans D;clear M D;obtain⟨hq,eu⟩:=Rh (Aeo z [97]) dx.out ea.out;obtain⟨hp,ev⟩:=Rh (Ae6 z) ed.out ef.out;obtain⟨hr,ew⟩:=Rh (Adr z) ei.out en.out;have e1:decide (q=a)=Ξ:=decide_eq_true hq;have e2:decide (p=b)=Ξ:=decide_eq_true hp;have e3:decide (r=c)=Ξ:=decide_eq_true hr;subst eu ev ew;have bw:=Ahq z n;have bx:=Ahp z n;rw[cm.out] at bw bx;have dn:=λ(e:EW bu)=>Α (Om q a _ _ e.W (ag.out.ext e.ext) (al.out.ext e.ext))
 have dp:=λ(e:EW bu)=>Α (Om p b _ _ e.W (aq.out.ext e.ext) (az.out.ext e.ext))
 have dq:=λ(e:EW bu)=>Α (Om r c _ _ e.W (a6.out.ext e.ext) (ba.out.ext e.ext))
 have f25:=λ(e:EW bu)=>Α (Acq L L Ξ (by simp) bw bw bx bx vo vi e.W (cp.out.ext e.ext) (et.out.ext e.ext))
 rw[e1] at dn;rw[e2] at dp;rw[e3] at dq;have ey:=Α E;clear e1 e2 e3 hq hp hr bw bx E;refine Z6 147 false 4 (.bool Ξ) [.keep,.keep,.keep,.keep,Ky (η 98) (η 99) kq kq Ξ (by simp),.pure,.keep,ldA af.out dv,ldA ak.out dy,Jo 24 Qu [.agg V6,.agg V8] _ λW hx=>(dn ⟨W,hx⟩).out,.pure,.keep,.keep,.keep,Ky (η 108) (η 109) kp kp Ξ (by simp),.pure,.keep,ldA ao.out eb,ldA ay.out ee,Jo 24 Qu [.agg cf,.agg cg] _ λW hx=>(dp ⟨W,hx⟩).out,.pure,.keep,.keep,.keep,Ky (η 118) (η 119) kr kr Ξ (by simp),.pure,.keep,ldA a1.out eg,ldA a8.out ej,Jo 24 Qu [.agg cj,.agg cl] _ λW hx=>(dq ⟨W,hx⟩).out,.pure,.keep,.keep,.keep,Ky (η 128) (η 129) ck ck Ξ (by simp),.pure,.keep,.keep,.keep,Qt (η 133) (η 134) ca ca Ξ (by simp),.pure,.keep,.keep,.keep,Ky (η 138) (η 139) lk lk Ξ (by simp),.pure,.keep,.keep,.keep,Jo 25 Ak8 [vo,vi] _ λW hx=>(f25 ⟨W,hx⟩).out,.pure,.keep] (λh=>by cases h) (by kernel_rfl) rfl rfl (λW=>by kernel_rfl) (by kernel_rfl) ?_;intro a' W hW ez ht;go_wp2;refine bodyPost_ret (results_tmp rfl _ _ _) ez ?_;rw[ht];exact⟨rfl,ey.out.trans hW⟩
end Go.Proofs.YtaiogolidlamiaaGreatDoor
