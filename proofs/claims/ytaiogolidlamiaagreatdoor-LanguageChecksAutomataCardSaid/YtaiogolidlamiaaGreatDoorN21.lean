import Derived.Test.YtaiogolidlamiaaGreatDoorN19
import Derived.Test.YtaiogolidlamiaaGreatDoorN20
import Derived.Test.YtaiogolidlamiaaGreatDoorN14
import Derived.Test.YtaiogolidlamiaaGreatDoorN15
import Derived.Test.YtaiogolidlamiaaGreatDoorN16
import Derived.Test.YtaiogolidlamiaaGreatDoorRows
import Derived.ProofKit
import Derived.LaidMore
import Derived.OpenShut
import Derived.Stop.Joined
import Derived.Lib.LaidTab
import Derived.Deep.Grids
import Derived.Deep.Matrix
set_option linter.unusedVariables false
set_option linter.unusedSimpArgs false
open Bool renaming false → Τ, true → Ξ
open Go renaming Value → Ν, World → Λ, Calls → ϓ, heap_alloc2_new → Ϗ, wpList_load_row → Ο, wpList_store_row → Φ, bodyPost_ret → ω, setRow_heap → μ, Operand → ϵ
open Go.Ending renaming returned → θ
open Go.IntKind renaming i64 → ε, u64 → π
open Go.Lib renaming hid → Α
open Go.Obj renaming cells → Ε
open Go.Operand renaming tmp → η
open Go.Proofs.Tryz renaming prog → Ζ, underlying30 → Κ
open Go.Value renaming tuple → ϙ, slice → Β, int → ö
open List renaming getD_eq_getElem?_getD → Η, getElem?_eq_getElem → Μ, getElem?_map → ϕ, length_map → ϋ, range → ι, length_range → Î, getElem?_range → Õ
open Option renaming some → Δ, none → Γ
namespace Go.Proofs.YtaiogolidlamiaaGreatDoor
set_option maxRecDepth 100000
set_option maxHeartbeats 4000000
open Go.RowKit Go.Shelf
theorem Amo (z:Dz) (hz:¬ B0 z) (v:Ν) (w:Λ) (h:IsDz w v z) :
  ϓ Ζ 28 #[v] w λe w'=>e=θ (ϙ #[zD,.int ε 1])/\Ext w w':=by
 have HD:=Α h;obtain⟨ac,lc,cc,an,cn,aa,la,ca,rfl⟩:=h.agg;have fv:=λW (hW:Ext w W)=>Α (J0 z Τ (by simp[hz]) _ W (HD.out.ext hW))
 obtain⟨D,G⟩:∃ X,dA (Β ac lc cc) (Β an z.n.length cn) (Β aa la ca)=X:=⟨_,rfl⟩;have au:(Ζ.info? 30).map (·.size)=Δ D.size:=by rw[<-G];exact Ad
 rw[G] at fv HD;rw[G];have M:=((Θ w).alloc (Ε D 30)).alloc (Ε #[Β Γ 0 0,Β Γ 0 0,Β Γ 0 0] 30);have I:=Ag (Aa w (Ε D 30)) (Ε #[Β Γ 0 0,Β Γ 0 0,Β Γ 0 0] 30);have E:=Ϗ w (Ε D 30) (Ε #[Β Γ 0 0,Β Γ 0 0,Β Γ 0 0] 30);have aw:=Α Dn;clear h G;go_enter Tryz.func28,Tryz.ntmps28;go_upto_region 1 with (fail)
 obtain⟨w1,T⟩:∃ X,(w.alloc (Ε D 30)).alloc (Ε #[Β Γ 0 0,Β Γ 0 0,Β Γ 0 0] 30)=X:=⟨_,rfl⟩;rw[T] at M I E;simp only[T];clear T;obtain⟨g1,U⟩:∃ y,w.heap.size=y:=⟨_,rfl⟩;obtain⟨g2,ab⟩:∃ y,g1+1=y:=⟨_,rfl⟩;have az:Hid (w.heap.size<=g2):=Α (by omega);rw[U] at I E;rw[ab] at E;simp only[U,ab];clear U ab;have a1:=Α I;have J:=Α E;have ag:=Α M;clear I E M;go_wp2_with (first
  | (refine Ο rfl 30 (η 1) rfl _ rfl _ _ _ _ a1.out Κ rfl au ?_)
  | (go_at_call 47;(with_reducible refine (fv _ ag.out).out.mono ?_);rintro e w2 ⟨rfl,ad⟩;have a7:=Α (ag.out.trans ad);have J:=Α (ad.heap J.out);clear ad)
  | (refine Bw rfl 30 _ rfl #[Β Γ 0 0,Β Γ 0 0,Β Γ 0 0] ?_ ?_;(simp;with_reducible exact aw.out))
  | (refine Φ rfl 30 (η 2) (η 7) rfl _ _ rfl rfl _ _ J.out Ad rfl C8 ?_))
 refine ω (v:=ϙ #[zD,.int ε 1]) (A3 rfl _ _ _ _ _ _ _ rfl _ rfl (μ w2 _ _ #[Β Γ 0 0,Β Γ 0 0,Β Γ 0 0] 30 (0,0) J.out) Κ rfl Ad) rfl ?_;exact⟨rfl,a7.out.setRow az.out _⟩
theorem Aeg (z:Dz) (hz:¬ B0 z) (v:Ν) (u:Ν) (w:Λ) (h:IsDz w v z) :
  ϓ Ζ 14 #[v,u] w λe w'=>e=θ (ϙ #[zD,.int ε 1])/\Ext w w':=by
 have HD:=Α h;obtain⟨ac,lc,cc,an,cn,aa,la,ca,rfl⟩:=h.agg;have fv:=λW (hW:Ext w W)=>Α (J0 z Τ (by simp[hz]) _ W (HD.out.ext hW))
 obtain⟨D,G⟩:∃ X,dA (Β ac lc cc) (Β an z.n.length cn) (Β aa la ca)=X:=⟨_,rfl⟩;have au:(Ζ.info? 30).map (·.size)=Δ D.size:=by rw[<-G];exact Ad
 rw[G] at fv HD;rw[G];have M:=((Θ w).alloc (Ε D 30)).alloc (Ε #[Β Γ 0 0,Β Γ 0 0,Β Γ 0 0] 30);have I:=Ag (Aa w (Ε D 30)) (Ε #[Β Γ 0 0,Β Γ 0 0,Β Γ 0 0] 30);have E:=Ϗ w (Ε D 30) (Ε #[Β Γ 0 0,Β Γ 0 0,Β Γ 0 0] 30);have aw:=Α Dn;clear h G;go_enter Tryz.func14,Tryz.ntmps14;go_upto_region 1 with (fail)
 obtain⟨w1,T⟩:∃ X,(w.alloc (Ε D 30)).alloc (Ε #[Β Γ 0 0,Β Γ 0 0,Β Γ 0 0] 30)=X:=⟨_,rfl⟩;rw[T] at M I E;simp only[T];clear T;obtain⟨g1,U⟩:∃ y,w.heap.size=y:=⟨_,rfl⟩;obtain⟨g2,ab⟩:∃ y,g1+1=y:=⟨_,rfl⟩;have az:Hid (w.heap.size<=g2):=Α (by omega);rw[U] at I E;rw[ab] at E;simp only[U,ab];clear U ab;have a1:=Α I;have J:=Α E;have ag:=Α M;clear I E M;go_wp2_with (first
  | (refine Ο rfl 30 (η 2) rfl _ rfl _ _ _ _ a1.out Κ rfl au ?_)
  | (go_at_call 47;(with_reducible refine (fv _ ag.out).out.mono ?_);rintro e w2 ⟨rfl,ad⟩;have a7:=Α (ag.out.trans ad);have J:=Α (ad.heap J.out);clear ad)
  | (refine Bw rfl 30 _ rfl #[Β Γ 0 0,Β Γ 0 0,Β Γ 0 0] ?_ ?_;(simp;with_reducible exact aw.out))
  | (refine Φ rfl 30 (η 4) (η 17) rfl _ _ rfl rfl _ _ J.out Ad rfl C8 ?_))
 refine ω (v:=ϙ #[zD,.int ε 1]) (A3 rfl _ _ _ _ _ _ _ rfl _ rfl (μ w2 _ _ #[Β Γ 0 0,Β Γ 0 0,Β Γ 0 0] 30 (0,0) J.out) Κ rfl Ad) rfl ?_;exact⟨rfl,a7.out.setRow az.out _⟩
theorem Aek (z:Dz) (hz:¬ B0 z) (v:Ν) (u:Ν) (w:Λ) (h:IsDz w v z) :
  ϓ Ζ 15 #[v,u] w λe w'=>e=θ (ϙ #[zD,.int ε 1])/\Ext w w':=by
 have HD:=Α h;obtain⟨ac,lc,cc,an,cn,aa,la,ca,rfl⟩:=h.agg;have fv:=λW (hW:Ext w W)=>Α (Ie z Τ (by simp[hz]) _ W (HD.out.ext hW))
 obtain⟨D,G⟩:∃ X,dA (Β ac lc cc) (Β an z.n.length cn) (Β aa la ca)=X:=⟨_,rfl⟩;have au:(Ζ.info? 30).map (·.size)=Δ D.size:=by rw[<-G];exact Ad
 rw[G] at fv HD;rw[G];have M:=((Θ w).alloc (Ε D 30)).alloc (Ε #[Β Γ 0 0,Β Γ 0 0,Β Γ 0 0] 30);have I:=Ag (Aa w (Ε D 30)) (Ε #[Β Γ 0 0,Β Γ 0 0,Β Γ 0 0] 30);have E:=Ϗ w (Ε D 30) (Ε #[Β Γ 0 0,Β Γ 0 0,Β Γ 0 0] 30);have aw:=Α Dn;clear h G;go_enter Tryz.func15,Tryz.ntmps15;go_upto_region 1 with (fail)
 obtain⟨w1,T⟩:∃ X,(w.alloc (Ε D 30)).alloc (Ε #[Β Γ 0 0,Β Γ 0 0,Β Γ 0 0] 30)=X:=⟨_,rfl⟩;rw[T] at M I E;simp only[T];clear T;obtain⟨g1,U⟩:∃ y,w.heap.size=y:=⟨_,rfl⟩;obtain⟨g2,ab⟩:∃ y,g1+1=y:=⟨_,rfl⟩;have az:Hid (w.heap.size<=g2):=Α (by omega);rw[U] at I E;rw[ab] at E;simp only[U,ab];clear U ab;have a1:=Α I;have J:=Α E;have ag:=Α M;clear I E M;go_wp2_with (first
  | (refine Ο rfl 30 (η 2) rfl _ rfl _ _ _ _ a1.out Κ rfl au ?_)
  | (go_at_call 50;(with_reducible refine (fv _ ag.out).out.mono ?_);rintro e w2 ⟨rfl,ad⟩;have a7:=Α (ag.out.trans ad);have J:=Α (ad.heap J.out);clear ad)
  | (refine Bw rfl 30 _ rfl #[Β Γ 0 0,Β Γ 0 0,Β Γ 0 0] ?_ ?_;(simp;with_reducible exact aw.out))
  | (refine Φ rfl 30 (η 4) (η 10) rfl _ _ rfl rfl _ _ J.out Ad rfl C8 ?_))
 refine ω (v:=ϙ #[zD,.int ε 1]) (A3 rfl _ _ _ _ _ _ _ rfl _ rfl (μ w2 _ _ #[Β Γ 0 0,Β Γ 0 0,Β Γ 0 0] 30 (0,0) J.out) Κ rfl Ad) rfl ?_;exact⟨rfl,a7.out.setRow az.out _⟩
theorem Ae0 (z:Dz) (hz:¬ B0 z) (v:Ν) (w:Λ) (h:IsDz w v z) :
  ϓ Ζ 16 #[v] w λe w'=>e=θ (ϙ #[zD,.int ε 1])/\Ext w w':=by
 have HD:=Α h;obtain⟨ac,lc,cc,an,cn,aa,la,ca,rfl⟩:=h.agg;have fv:=λW (hW:Ext w W)=>Α (J0 z Τ (by simp[hz]) _ W (HD.out.ext hW))
 obtain⟨D,G⟩:∃ X,dA (Β ac lc cc) (Β an z.n.length cn) (Β aa la ca)=X:=⟨_,rfl⟩;have au:(Ζ.info? 30).map (·.size)=Δ D.size:=by rw[<-G];exact Ad
 rw[G] at fv HD;rw[G];have M:=((Θ w).alloc (Ε D 30)).alloc (Ε #[Β Γ 0 0,Β Γ 0 0,Β Γ 0 0] 30);have I:=Ag (Aa w (Ε D 30)) (Ε #[Β Γ 0 0,Β Γ 0 0,Β Γ 0 0] 30);have E:=Ϗ w (Ε D 30) (Ε #[Β Γ 0 0,Β Γ 0 0,Β Γ 0 0] 30);have aw:=Α Dn;clear h G;go_enter Tryz.func16,Tryz.ntmps16;go_upto_region 1 with (fail)
 obtain⟨w1,T⟩:∃ X,(w.alloc (Ε D 30)).alloc (Ε #[Β Γ 0 0,Β Γ 0 0,Β Γ 0 0] 30)=X:=⟨_,rfl⟩;rw[T] at M I E;simp only[T];clear T;obtain⟨g1,U⟩:∃ y,w.heap.size=y:=⟨_,rfl⟩;obtain⟨g2,ab⟩:∃ y,g1+1=y:=⟨_,rfl⟩;have az:Hid (w.heap.size<=g2):=Α (by omega);rw[U] at I E;rw[ab] at E;simp only[U,ab];clear U ab;have a1:=Α I;have J:=Α E;have ag:=Α M;clear I E M;go_wp2_with (first
  | (refine Ο rfl 30 (η 1) rfl _ rfl _ _ _ _ a1.out Κ rfl au ?_)
  | (go_at_call 47;(with_reducible refine (fv _ ag.out).out.mono ?_);rintro e w2 ⟨rfl,ad⟩;have a7:=Α (ag.out.trans ad);have J:=Α (ad.heap J.out);clear ad)
  | (refine Bw rfl 30 _ rfl #[Β Γ 0 0,Β Γ 0 0,Β Γ 0 0] ?_ ?_;(simp;with_reducible exact aw.out))
  | (refine Φ rfl 30 (η 2) (η 11) rfl _ _ rfl rfl _ _ J.out Ad rfl C8 ?_))
 refine ω (v:=ϙ #[zD,.int ε 1]) (A3 rfl _ _ _ _ _ _ _ rfl _ rfl (μ w2 _ _ #[Β Γ 0 0,Β Γ 0 0,Β Γ 0 0] 30 (0,0) J.out) Κ rfl Ad) rfl ?_;exact⟨rfl,a7.out.setRow az.out _⟩
theorem Ae3 (z:Dz) (hz:¬ B0 z) (v:Ν) (w:Λ) (h:IsDz w v z) :
  ϓ Ζ 17 #[v] w λe w'=>e=θ (ϙ #[zD,.int ε 1])/\Ext w w':=by
 have HD:=Α h;obtain⟨ac,lc,cc,an,cn,aa,la,ca,rfl⟩:=h.agg;have fv:=λW (hW:Ext w W)=>Α (Ie z Τ (by simp[hz]) _ W (HD.out.ext hW))
 obtain⟨D,G⟩:∃ X,dA (Β ac lc cc) (Β an z.n.length cn) (Β aa la ca)=X:=⟨_,rfl⟩;have au:(Ζ.info? 30).map (·.size)=Δ D.size:=by rw[<-G];exact Ad
 rw[G] at fv HD;rw[G];have M:=((Θ w).alloc (Ε D 30)).alloc (Ε #[Β Γ 0 0,Β Γ 0 0,Β Γ 0 0] 30);have I:=Ag (Aa w (Ε D 30)) (Ε #[Β Γ 0 0,Β Γ 0 0,Β Γ 0 0] 30);have E:=Ϗ w (Ε D 30) (Ε #[Β Γ 0 0,Β Γ 0 0,Β Γ 0 0] 30);have aw:=Α Dn;clear h G;go_enter Tryz.func17,Tryz.ntmps17;go_upto_region 1 with (fail)
 obtain⟨w1,T⟩:∃ X,(w.alloc (Ε D 30)).alloc (Ε #[Β Γ 0 0,Β Γ 0 0,Β Γ 0 0] 30)=X:=⟨_,rfl⟩;rw[T] at M I E;simp only[T];clear T;obtain⟨g1,U⟩:∃ y,w.heap.size=y:=⟨_,rfl⟩;obtain⟨g2,ab⟩:∃ y,g1+1=y:=⟨_,rfl⟩;have az:Hid (w.heap.size<=g2):=Α (by omega);rw[U] at I E;rw[ab] at E;simp only[U,ab];clear U ab;have a1:=Α I;have J:=Α E;have ag:=Α M;clear I E M;go_wp2_with (first
  | (refine Ο rfl 30 (η 1) rfl _ rfl _ _ _ _ a1.out Κ rfl au ?_)
  | (go_at_call 50;(with_reducible refine (fv _ ag.out).out.mono ?_);rintro e w2 ⟨rfl,ad⟩;have a7:=Α (ag.out.trans ad);have J:=Α (ad.heap J.out);clear ad)
  | (refine Bw rfl 30 _ rfl #[Β Γ 0 0,Β Γ 0 0,Β Γ 0 0] ?_ ?_;(simp;with_reducible exact aw.out))
  | (refine Φ rfl 30 (η 2) (η 12) rfl _ _ rfl rfl _ _ J.out Ad rfl C8 ?_))
 refine ω (v:=ϙ #[zD,.int ε 1]) (A3 rfl _ _ _ _ _ _ _ rfl _ rfl (μ w2 _ _ #[Β Γ 0 0,Β Γ 0 0,Β Γ 0 0] 30 (0,0) J.out) Κ rfl Ad) rfl ?_;exact⟨rfl,a7.out.setRow az.out _⟩
theorem Adp (z:Dz) (hz:¬ B0 z) (v:Ν) (w:Λ) (h:IsDz w v z) :
  ϓ Ζ 18 #[v] w λe w'=>e=θ (ϙ #[zD,.int ε 1])/\Ext w w':=by
 have HD:=Α h;obtain⟨ac,lc,cc,an,cn,aa,la,ca,rfl⟩:=h.agg;have fv:=λW (hW:Ext w W)=>Α (Amo z hz _ W (HD.out.ext hW))
 obtain⟨E,I⟩:∃ X,dA (Β ac lc cc) (Β an z.n.length cn) (Β aa la ca)=X:=⟨_,rfl⟩;have az:(Ζ.info? 30).map (·.size)=Δ E.size:=by rw[<-I];exact Ad
 rw[I] at fv HD;rw[I];have U:=((Θ w).alloc (Ε E 30)).alloc (Ε #[Β Γ 0 0,Β Γ 0 0,Β Γ 0 0] 30);have J:=Ag (Aa w (Ε E 30)) (Ε #[Β Γ 0 0,Β Γ 0 0,Β Γ 0 0] 30);have G:=Ϗ w (Ε E 30) (Ε #[Β Γ 0 0,Β Γ 0 0,Β Γ 0 0] 30);have a1:=Α Dn;clear h I;go_enter Tryz.func18,Tryz.ntmps18;go_upto_region 1 with (fail)
 obtain⟨w1,ab⟩:∃ X,(w.alloc (Ε E 30)).alloc (Ε #[Β Γ 0 0,Β Γ 0 0,Β Γ 0 0] 30)=X:=⟨_,rfl⟩;rw[ab] at U J G;simp only[ab];clear ab;obtain⟨g1,ad⟩:∃ y,w.heap.size=y:=⟨_,rfl⟩;obtain⟨g2,ae⟩:∃ y,g1+1=y:=⟨_,rfl⟩;have a8:Hid (w.heap.size<=g2):=Α (by omega);rw[ad] at J G;rw[ae] at G;simp only[ad,ae];clear ad ae;have ba:=Α J;have D:=Α G;have ak:=Α U;clear J G U;go_upto_region 2 with (first
  | (refine Ο rfl 30 (η 1) rfl _ rfl _ _ _ _ ba.out Κ rfl az ?_)
  | (go_at_call 28;(with_reducible refine (fv _ ak.out).out.mono ?_);rintro e M ⟨rfl,af⟩;have ag:=Α (ak.out.trans af);have D:=Α (af.heap D.out);clear af)
  | (refine Φ rfl 30 (η 4) (η 23) rfl _ _ rfl rfl _ _ (Aa M _) Ad rfl C8 ?_))
 have T:=((Θ M).alloc (Ε #[Β Γ 0 0,Β Γ 0 0,Β Γ 0 0] 30)).setRow (Nat.le_refl _) #[Β Γ 0 0,Β Γ 0 0,Β Γ 0 0];obtain⟨w3,ah⟩:∃ X,(M.alloc (Ε #[Β Γ 0 0,Β Γ 0 0,Β Γ 0 0] 30)).setRow M.heap.size #[Β Γ 0 0,Β Γ 0 0,Β Γ 0 0]=X:=⟨_,rfl⟩;rw[ah] at T;simp only[ah];have ag:=Α (ag.out.trans T);have D:=Α (T.heap D.out);clear ah T;go_wp2_with (first
  | (refine Bw rfl 30 _ rfl #[Β Γ 0 0,Β Γ 0 0,Β Γ 0 0] ?_ ?_;(simp;with_reducible exact a1.out))
  | (refine Φ rfl 30 (η 2) (η 27) rfl _ _ rfl rfl _ _ D.out Ad rfl C8 ?_))
 refine ω (v:=ϙ #[zD,.int ε 1]) (A3 rfl _ _ _ _ _ _ _ rfl _ rfl (μ w3 _ _ #[Β Γ 0 0,Β Γ 0 0,Β Γ 0 0] 30 (0,0) D.out) Κ rfl Ad) rfl ?_;exact⟨rfl,ag.out.setRow a8.out _⟩
theorem Adv (z:Dz) (hz:¬ B0 z) (v:Ν) (w:Λ) (h:IsDz w v z) :
  ϓ Ζ 19 #[v] w λe w'=>e=θ (ϙ #[zD,.int ε 1])/\Ext w w':=by
 have HD:=Α h;obtain⟨ac,lc,cc,an,cn,aa,la,ca,rfl⟩:=h.agg;have fv:=λW (hW:Ext w W)=>Α (Ie z Τ (by simp[hz]) _ W (HD.out.ext hW))
 obtain⟨D,G⟩:∃ X,dA (Β ac lc cc) (Β an z.n.length cn) (Β aa la ca)=X:=⟨_,rfl⟩;have au:(Ζ.info? 30).map (·.size)=Δ D.size:=by rw[<-G];exact Ad
 rw[G] at fv HD;rw[G];have M:=((Θ w).alloc (Ε D 30)).alloc (Ε #[Β Γ 0 0,Β Γ 0 0,Β Γ 0 0] 30);have I:=Ag (Aa w (Ε D 30)) (Ε #[Β Γ 0 0,Β Γ 0 0,Β Γ 0 0] 30);have E:=Ϗ w (Ε D 30) (Ε #[Β Γ 0 0,Β Γ 0 0,Β Γ 0 0] 30);have aw:=Α Dn;clear h G;go_enter Tryz.func19,Tryz.ntmps19;go_upto_region 1 with (fail)
 obtain⟨w1,T⟩:∃ X,(w.alloc (Ε D 30)).alloc (Ε #[Β Γ 0 0,Β Γ 0 0,Β Γ 0 0] 30)=X:=⟨_,rfl⟩;rw[T] at M I E;simp only[T];clear T;obtain⟨g1,U⟩:∃ y,w.heap.size=y:=⟨_,rfl⟩;obtain⟨g2,ab⟩:∃ y,g1+1=y:=⟨_,rfl⟩;have az:Hid (w.heap.size<=g2):=Α (by omega);rw[U] at I E;rw[ab] at E;simp only[U,ab];clear U ab;have a1:=Α I;have J:=Α E;have ag:=Α M;clear I E M;go_wp2_with (first
  | (refine Ο rfl 30 (η 1) rfl _ rfl _ _ _ _ a1.out Κ rfl au ?_)
  | (go_at_call 50;(with_reducible refine (fv _ ag.out).out.mono ?_);rintro e w2 ⟨rfl,ad⟩;have a7:=Α (ag.out.trans ad);have J:=Α (ad.heap J.out);clear ad)
  | (refine Bw rfl 30 _ rfl #[Β Γ 0 0,Β Γ 0 0,Β Γ 0 0] ?_ ?_;(simp;with_reducible exact aw.out))
  | (refine Φ rfl 30 (η 2) (η 17) rfl _ _ rfl rfl _ _ J.out Ad rfl C8 ?_))
 refine ω (v:=ϙ #[zD,.int ε 1]) (A3 rfl _ _ _ _ _ _ _ rfl _ rfl (μ w2 _ _ #[Β Γ 0 0,Β Γ 0 0,Β Γ 0 0] 30 (0,0) J.out) Κ rfl Ad) rfl ?_;exact⟨rfl,a7.out.setRow az.out _⟩
theorem All (z:Dz) (hz:¬ B0 z) (v:Ν) (n:Int) (w:Λ) (h:IsDz w v z) :
  ϓ Ζ 20 #[v,.int ε n] w λe w'=>e=θ (ϙ #[.int ε 0,.int ε 1])/\Ext w w':=by
 have M:=Α h;obtain⟨ac,lc,cc,an,cn,aa,la,ca,rfl⟩:=h.agg;have T:=λW (hW:Ext w W)=>Α (J0 z Τ (by simp[hz]) _ W (M.out.ext hW))
 obtain⟨D,E⟩:∃ X,dA (Β ac lc cc) (Β an z.n.length cn) (Β aa la ca)=X:=⟨_,rfl⟩;have al:(Ζ.info? 30).map (·.size)=Δ D.size:=by rw[<-E];exact Ad
 rw[E] at T M;rw[E];have G:=(Θ w).alloc (Ε D 30);have I:=Aa w (Ε D 30);clear h E;go_enter Tryz.func20,Tryz.ntmps20;go_upto_region 1 with (fail)
 obtain⟨w1,J⟩:∃ W,w.alloc (Ε D 30)=W:=⟨_,rfl⟩;rw[J] at G I;simp only[J];clear J;have ao:=Α I;have U:=Α G;clear I G;go_wp2_with (first
  | (refine Ο rfl 30 (η 2) rfl _ rfl _ _ _ _ ao.out Κ rfl al ?_)
  | (go_at_call 47;(with_reducible refine (T _ U.out).out.mono ?_);rintro e w2 ⟨rfl,ab⟩;have aq:=Α (U.out.trans ab);clear ab))
 go_ret2;exact⟨rfl,aq.out⟩
theorem Alp (z:Dz) (hz:¬ B0 z) (v:Ν) (n:Int) (w:Λ) (h:IsDz w v z) :
  ϓ Ζ 21 #[v,.int ε n] w λe w'=>e=θ (ϙ #[.int ε 0,.int ε 1])/\Ext w w':=by
 have M:=Α h;obtain⟨ac,lc,cc,an,cn,aa,la,ca,rfl⟩:=h.agg;have T:=λW (hW:Ext w W)=>Α (Ie z Τ (by simp[hz]) _ W (M.out.ext hW))
 obtain⟨D,E⟩:∃ X,dA (Β ac lc cc) (Β an z.n.length cn) (Β aa la ca)=X:=⟨_,rfl⟩;have al:(Ζ.info? 30).map (·.size)=Δ D.size:=by rw[<-E];exact Ad
 rw[E] at T M;rw[E];have G:=(Θ w).alloc (Ε D 30);have I:=Aa w (Ε D 30);clear h E;go_enter Tryz.func21,Tryz.ntmps21;go_upto_region 1 with (fail)
 obtain⟨w1,J⟩:∃ W,w.alloc (Ε D 30)=W:=⟨_,rfl⟩;rw[J] at G I;simp only[J];clear J;have ao:=Α I;have U:=Α G;clear I G;go_wp2_with (first
  | (refine Ο rfl 30 (η 2) rfl _ rfl _ _ _ _ ao.out Κ rfl al ?_)
  | (go_at_call 50;(with_reducible refine (T _ U.out).out.mono ?_);rintro e w2 ⟨rfl,ab⟩;have aq:=Α (U.out.trans ab);clear ab))
 go_ret2;exact⟨rfl,aq.out⟩
theorem Ah5 (z:Dz) (hz:¬ B0 z) (v:Ν) (n:Int) (w:Λ) (h:IsDz w v z) :
  ϓ Ζ 22 #[v,.int ε n] w λe w'=>e=θ (ϙ #[Β Γ 0 0,.int ε 1])/\Ext w w':=by
 have M:=Α h;obtain⟨ac,lc,cc,an,cn,aa,la,ca,rfl⟩:=h.agg;have T:=λW (hW:Ext w W)=>Α (J0 z Τ (by simp[hz]) _ W (M.out.ext hW))
 obtain⟨D,E⟩:∃ X,dA (Β ac lc cc) (Β an z.n.length cn) (Β aa la ca)=X:=⟨_,rfl⟩;have al:(Ζ.info? 30).map (·.size)=Δ D.size:=by rw[<-E];exact Ad
 rw[E] at T M;rw[E];have G:=(Θ w).alloc (Ε D 30);have I:=Aa w (Ε D 30);clear h E;refine (callsIn_wide (n:=3)).1 ?_;refine callsIn_of_wp_marks Tryz.func22 rfl trivial ?_ rfl;refine wpIn_wide.2 ?_;simp only[Tryz.ntmps22,List.size_toArray,List.length_cons,List.length_nil,Nat.reduceAdd,Nat.reduceSub,Array.replicate_succ,Array.replicate_zero,List.push_toArray,List.append_toArray,List.nil_append,List.cons_append];go_upto_region 1 with (fail)
 obtain⟨w1,J⟩:∃ W,w.alloc (Ε D 30)=W:=⟨_,rfl⟩;rw[J] at G I;simp only[J];clear J;have ao:=Α I;have U:=Α G;clear I G;go_wp2_with (first
  | (refine Ο rfl 30 (η 2) rfl _ rfl _ _ _ _ ao.out Κ rfl al ?_)
  | (go_at_call 47;(with_reducible refine (T _ U.out).out.mono ?_);rintro e w2 ⟨rfl,ab⟩;have aq:=Α (U.out.trans ab);clear ab))
 exact⟨_,results_tmp2 rfl _ _ _,rfl,aq.out⟩
theorem Aia (z:Dz) (hz:¬ B0 z) (v:Ν) (n:Int) (w:Λ) (h:IsDz w v z) :
  ϓ Ζ 23 #[v,.int ε n] w λe w'=>e=θ (ϙ #[Β Γ 0 0,.int ε 1])/\Ext w w':=by
 have M:=Α h;obtain⟨ac,lc,cc,an,cn,aa,la,ca,rfl⟩:=h.agg;have T:=λW (hW:Ext w W)=>Α (Ie z Τ (by simp[hz]) _ W (M.out.ext hW))
 obtain⟨D,E⟩:∃ X,dA (Β ac lc cc) (Β an z.n.length cn) (Β aa la ca)=X:=⟨_,rfl⟩;have al:(Ζ.info? 30).map (·.size)=Δ D.size:=by rw[<-E];exact Ad
 rw[E] at T M;rw[E];have G:=(Θ w).alloc (Ε D 30);have I:=Aa w (Ε D 30);clear h E;go_enter Tryz.func23,Tryz.ntmps23;go_upto_region 1 with (fail)
 obtain⟨w1,J⟩:∃ W,w.alloc (Ε D 30)=W:=⟨_,rfl⟩;rw[J] at G I;simp only[J];clear J;have ao:=Α I;have U:=Α G;clear I G;go_wp2_with (first
  | (refine Ο rfl 30 (η 2) rfl _ rfl _ _ _ _ ao.out Κ rfl al ?_)
  | (go_at_call 50;(with_reducible refine (T _ U.out).out.mono ?_);rintro e w2 ⟨rfl,ab⟩;have aq:=Α (U.out.trans ab);clear ab))
 go_ret2;exact⟨rfl,aq.out⟩
theorem Afl {l:List Cls} (h:Fq l):Parts l:=by
 obtain⟨h1,h2,h3,J⟩:=h;refine⟨λc E=>?_,?_,λb G=>?_⟩
 ·obtain⟨i,hi,rfl⟩:=List.mem_iff_getElem.1 E;have:=h3 i hi;rw[Η,Μ hi] at this;exact this
 ·rw[List.pairwise_iff_getElem];intro i j hi M ak b ⟨I,ab⟩;have G:b<256:=by
   by_cases e:b<256
   ·exact e
   ·rw[Anl _ _ (by omega)] at I;cases I
  have T:=Hs l b i hi;have U:=Hs l b j M;have m1:=Nf l b (i+1) (j-(i+1)) (by omega);have m2:=Nf l b (j+1) (l.length-(j+1)) (by omega);rw[show i+1+(j-(i+1))=j by omega] at m1;rw[show j+1+(l.length-(j+1))=l.length by omega,J b G] at m2;rw[Kl,Η,Μ hi] at T;rw[Kl,Η,Μ M] at U;simp only[Option.getD_some,I,ab,if_true] at T U;omega
 ·have D:=J b G;unfold Eb at D;rw[List.take_length] at D;obtain⟨c,E⟩:∃ c,c∈l.filter λc=>Aw c b:=by
   cases hf:l.filter λc=>Aw c b with
   | nil=>rw[hf] at D;simp at D
   | cons c t=>exact⟨c,List.mem_cons_self⟩
  obtain⟨h6,h7⟩:=List.mem_filter.1 E;exact⟨c,h6,by rw[<-Kl];exact h7⟩
def ofZ (z:Dz):Dfa:=⟨z.cls,z.n.map λr=>r.map Int.toNat,z.acc⟩
theorem Pi (z:Dz) (s:Nat):(ofZ z).n.getD s []=(z.n.getD s []).map Int.toNat:=by
 unfold ofZ;simp only[Η,ϕ];cases z.n[s]?<;>rfl
theorem Agd (z:Dz) (s k:Nat):(ofZ z).ent2 s k=(Ci z s k).toNat:=by
 unfold Ci Dfa.ent2;rw[Pi];simp only[Η,ϕ];cases (z.n[s]?.getD [])[k]?<;>rfl
theorem Dt (z:Dz):(ofZ z).n.length=z.n.length:=ϋ _
theorem Fh {z:Dz} (h:B0 z):Val (ofZ z) where
 pos:=by rw[Dt];exact h.2.1
 accL:=by rw[Dt];exact h.2.2.1
 row:=λs hs=>by
  rw[Dt] at hs;rw[Pi,ϋ];exact (h.2.2.2.2 s hs).1
 tgt:=λs hs k D=>by
  rw[Dt] at hs ⊢;rw[Agd];have:=(h.2.2.2.2 s hs).2 k D;omega
 parts:=Afl h.2.2.2.1
theorem Fi {W:Λ} {v:Ν} {z:Dz} (hv:B0 z) (h:IsDz W v z):IsD W v (ofZ z):=by
 obtain⟨E,vn,va,he,G,⟨vs,I,J,M⟩,T⟩:=h;refine⟨E,vn,va,he,G,⟨vs,by rw[I,Dt],by rw[Dt];exact J,λi hi=>?_⟩,SlW.sl T (show z.acc.length<=4611686018427387904 by have:=hv.1;have:=hv.2.2.1;omega)⟩;rw[Dt] at hi;have D:=hv.2.2.2.2 i hi;have U:=SlW.sl (M i hi) (by have:=hv.2.2.2.1.2.1;have:=D.1;omega);rw[Pi];show Sl W _ 1 ((z.n.getD i []).map Int.toNat).length _;rw[ϋ];refine Sl.congr U λk hk=>?_
 have h7:=(D.2 k (by rw[<-D.1];omega)).1;have e:((z.n.getD i []).map Int.toNat).getD k 0=((z.n.getD i []).getD k 0).toNat:=by
  simp only[Η,ϕ];cases (z.n[i]?.getD [])[k]?<;>rfl
 show ö ε _=iv _;rw[e];unfold Ci at h7;show ö ε _=ö ε _
 congr 1
 omega
theorem Ak8:Enters Ζ 25:=enters_of Tryz.func25 (by kernel_rfl) rfl
theorem Ak6 (ρ:ϵ->Ν) (o:Oper) (W:Λ) (x y:ϵ) (a b:Int) (D:o.op=.binOp .eql 32 x y 32) (E:ρ x=.int ε a) (G:ρ y=.int ε b):(execOp ρ o).run Ζ W=.ok (.value (.bool (decide (a=b)))) W:=by
 unfold execOp;simp only[D,E,G];go_simp;rfl
def Ky {w:Λ} (x y:ϵ) (a b:Int) (r:Bool) (E:decide (a=b)=r):Sc Ζ w:=
 .gen (.binOp .eql 32 x y 32) [.c (.int ε a),.c (.int ε b)] (.c (.bool r)) (AV.mono_c _) λρ o W G _ D=>⟨_,Ak6 ρ o W x y a b G (C6 D).1 (C6 D).2,by rw[E];rfl⟩
abbrev Rp (d:Dfa) (l:List UInt8) (r:Dfa):Prop:=Cano r/\∀ x,r.has x=d.has (l++x)
abbrev Rq (d r:Dfa):Prop:=Cano r/\∀ x,r.has x=Ξ↔∃ u,d.has (x++u)=Ξ
abbrev Rn (d q:Dfa) (k:Nat):Prop:=∃ r,Ju d r/\q=dOf r/\k=kOf r
section
variable (d:Dfa) (hv:Val d) (hn:d.n.length<=64) (v:Value) (w:World)
include hv hn
theorem Aeh (l:List UInt8) (u:Ν) (D:Tab w) (E:0<w.heap.size) (h:IsD w v d) (G:By w u l) :
  ϓ Ζ 14 #[v,u] w λe w'=>∃ (r:Dfa) (v':Ν),e=θ (ϙ #[v',.int ε 0])/\IsD w' v' r/\Rp d l r/\Ext w w':=
 (Ue d hv hn v l u w D E h G).mono λe w' ⟨r,⟨v',I,J⟩,M,T,U⟩=>⟨r,v',I,J,⟨M,T⟩,U⟩
theorem Ael (l:List UInt8) (u:Ν) (h:IsD w v d) (D:By w u l) :
  ϓ Ζ 15 #[v,u] w λe w'=>∃ (r:Dfa) (v':Ν),e=θ (ϙ #[v',.int ε 0])/\IsD w' v' r/\Rp d l r/\Ext w w':=
 (Aec d hv hn v l u w h D).mono λe w' ⟨r,⟨v',E,G⟩,I,J,M⟩=>⟨r,v',E,G,⟨I,J⟩,M⟩
theorem Ae1 (D:Tab w) (E:0<w.heap.size) (h:IsD w v d) :
  ϓ Ζ 16 #[v] w λe w'=>∃ (r:Dfa) (v':Ν),e=θ (ϙ #[v',.int ε 0])/\IsD w' v' r/\Rq d r/\Ext w w':=
 (Um d hv hn v w D E h).mono λe w' ⟨r,⟨v',G,I⟩,J,M,T⟩=>⟨r,v',G,I,⟨J,M⟩,T⟩
theorem Ae4 (h:IsD w v d) :
  ϓ Ζ 17 #[v] w λe w'=>∃ (r:Dfa) (v':Ν),e=θ (ϙ #[v',.int ε 0])/\IsD w' v' r/\Rq d r/\Ext w w':=
 (Aew d hv hn v w h).mono λe w' ⟨r,⟨v',D,E⟩,G,I,J⟩=>⟨r,v',D,E,⟨G,I⟩,J⟩
theorem Adq (D:Tab w) (E:0<w.heap.size) (h:IsD w v d) :
  ϓ Ζ 18 #[v] w λe w'=>∃ (q:Dfa) (k:Nat) (v':Ν),e=θ (ϙ #[v',.int ε k])/\IsD w' v' q/\Rn d q k/\Ext w w':=
 (T3 d hv hn v w D E h).mono λe w' ⟨r,G,I,J⟩=>by
  obtain⟨v',M,T⟩:=T6 G;exact⟨dOf r,kOf r,v',M,T,⟨r,I,rfl,rfl⟩,J⟩
theorem Adw (h:IsD w v d) :
  ϓ Ζ 19 #[v] w λe w'=>∃ (q:Dfa) (k:Nat) (v':Ν),e=θ (ϙ #[v',.int ε k])/\IsD w' v' q/\Rn d q k/\Ext w w':=
 (Adj d hv hn v w h).mono λe w' ⟨r,D,E,G⟩=>by
  obtain⟨v',I,J⟩:=T6 D;exact⟨dOf r,kOf r,v',I,J,⟨r,E,rfl,rfl⟩,G⟩
theorem Alz (n D:Int) (E:Nat) (G:(Ej d n).1=D) (I:(Ej d n).2=E) (h:IsD w v d) :
  ϓ Ζ 20 #[v,.int ε n] w λe w'=>e=θ (ϙ #[.int ε D,.int ε E])/\Ext w w':=by
 rw[<-G,<-I];exact Alj d hv hn n v w h
theorem Al3 (n D:Int) (E:Nat) (G:(Ej d n).1=D) (I:(Ej d n).2=E) (h:IsD w v d) :
  ϓ Ζ 21 #[v,.int ε n] w λe w'=>e=θ (ϙ #[.int ε D,.int ε E])/\Ext w w':=by
 rw[<-G,<-I];exact Alo d hv hn n v w h
theorem Aho (n:Int) (L:List (List UInt8)) (D:Nat) (G:(Cf d n).1=L) (I:(Cf d n).2=D) (h:IsD w v d) :
  ϓ Ζ 22 #[v,.int ε n] w λe w'=>∃ E,e=θ (ϙ #[E,.int ε D])/\Wrds w' E L/\Ext w w':=by
 rw[<-G,<-I];exact Ah4 d hv hn n v w h
theorem Aht (n:Int) (L:List (List UInt8)) (D:Nat) (G:(Cf d n).1=L) (I:(Cf d n).2=D) (h:IsD w v d) :
  ϓ Ζ 23 #[v,.int ε n] w λe w'=>∃ E,e=θ (ϙ #[E,.int ε D])/\Wrds w' E L/\Ext w w':=by
 rw[<-G,<-I];exact Ah9 d hv hn n v w h
end
abbrev Fs (z:Dz) (R:Dfa->Nat->Prop) (q:Dfa) (k:Nat):Prop:=(B0 z/\R q k)\/(¬ B0 z/\q=Fn/\k=1)
abbrev Gz (e:Ending) (w':Λ) (q:Dfa) (k:Nat):Prop:=∃ v',e=θ (ϙ #[v',.int ε (k:Nat)])/\IsD w' v' q
theorem Rh {z:Dz} {R:Dfa->Nat->Prop} (hu:∀ q k q' k',R q k->R q' k'->q=q'/\k=k') {q q':Dfa} {k k':Nat} (h:Fs z R q k) (J:Fs z R q' k'):q=q'/\k=k':=by
 rcases h with⟨D,E⟩|⟨D,E,M⟩<;>rcases J with⟨G,I⟩|⟨G,I,T⟩
 ·exact hu _ _ _ _ E I
 ·exact absurd D G
 ·exact absurd G D
 ·exact⟨by rw[E,I],by rw[M,T]⟩
abbrev Jv (z:Dz) (l:List UInt8):Dfa->Nat->Prop:=λq k=>k=0/\Rp (ofZ z) l q
abbrev Ns (z:Dz):Dfa->Nat->Prop:=λq k=>k=0/\Rq (ofZ z) q
abbrev Nq (z:Dz):Dfa->Nat->Prop:=λq k=>Rn (ofZ z) q k
theorem Aeo (z:Dz) (l:List UInt8) (q:Dfa) (k:Nat) (q':Dfa) (k':Nat) (h:Jv z l q k) (D:Jv z l q' k'):q=q'/\k=k':=
 ⟨Gw h.2.1 D.2.1 λu=>by rw[h.2.2,D.2.2],by rw[h.1,D.1]⟩
theorem Ae6 (z:Dz) (q:Dfa) (k:Nat) (q':Dfa) (k':Nat) (h:Ns z q k) (D:Ns z q' k'):q=q'/\k=k':=
 ⟨Gw h.2.1 D.2.1 λu=>by rw[Bool.eq_iff_iff,h.2.2,D.2.2],by rw[h.1,D.1]⟩
theorem Adr (z:Dz) (q:Dfa) (k:Nat) (q':Dfa) (k':Nat) (h:Nq z q k) (D:Nq z q' k'):q=q'/\k=k':=by
 obtain⟨r,E,G,I⟩:=h;obtain⟨U,J,M,T⟩:=D;have:=Adt E J;subst this;exact⟨by rw[G,M],by rw[I,T]⟩
section
variable (z:Dz) (v:Value) (w:World)
theorem Aej (l:List UInt8) (u:Ν) (I:Tab w) (J:0<w.heap.size) (h:IsDz w v z) (M:By w u l) :
  ϓ Ζ 14 #[v,u] w λe w'=>∃ q k,Gz e w' q k/\Fs z (Jv z l) q k/\Ext w w':=by
 by_cases D:B0 z
 ·exact (Aeh (ofZ z) (Fh D) (by rw[Dt];exact D.1) v w l u I J (Fi D h) M).mono λe w' ⟨r,v',E,G,T,U⟩=>⟨r,0,⟨v',E,G⟩,.inl ⟨D,rfl,T⟩,U⟩
 ·exact (Aeg z D v u w h).mono λe w' ⟨E,G⟩=>⟨Fn,1,⟨zD,E,Hi w'⟩,.inr ⟨D,rfl,rfl⟩,G⟩
theorem Aen (l:List UInt8) (u:Ν) (h:IsDz w v z) (I:By w u l) :
  ϓ Ζ 15 #[v,u] w λe w'=>∃ q k,Gz e w' q k/\Fs z (Jv z l) q k/\Ext w w':=by
 by_cases D:B0 z
 ·exact (Ael (ofZ z) (Fh D) (by rw[Dt];exact D.1) v w l u (Fi D h) I).mono λe w' ⟨r,v',E,G,J,M⟩=>⟨r,0,⟨v',E,G⟩,.inl ⟨D,rfl,J⟩,M⟩
 ·exact (Aek z D v u w h).mono λe w' ⟨E,G⟩=>⟨Fn,1,⟨zD,E,Hi w'⟩,.inr ⟨D,rfl,rfl⟩,G⟩
theorem Ae2 (I:Tab w) (J:0<w.heap.size) (h:IsDz w v z) :
  ϓ Ζ 16 #[v] w λe w'=>∃ q k,Gz e w' q k/\Fs z (Ns z) q k/\Ext w w':=by
 by_cases D:B0 z
 ·exact (Ae1 (ofZ z) (Fh D) (by rw[Dt];exact D.1) v w I J (Fi D h)).mono λe w' ⟨r,v',E,G,M,T⟩=>⟨r,0,⟨v',E,G⟩,.inl ⟨D,rfl,M⟩,T⟩
 ·exact (Ae0 z D v w h).mono λe w' ⟨E,G⟩=>⟨Fn,1,⟨zD,E,Hi w'⟩,.inr ⟨D,rfl,rfl⟩,G⟩
theorem Ae5 (h:IsDz w v z) :
  ϓ Ζ 17 #[v] w λe w'=>∃ q k,Gz e w' q k/\Fs z (Ns z) q k/\Ext w w':=by
 by_cases D:B0 z
 ·exact (Ae4 (ofZ z) (Fh D) (by rw[Dt];exact D.1) v w (Fi D h)).mono λe w' ⟨r,v',E,G,I,J⟩=>⟨r,0,⟨v',E,G⟩,.inl ⟨D,rfl,I⟩,J⟩
 ·exact (Ae3 z D v w h).mono λe w' ⟨E,G⟩=>⟨Fn,1,⟨zD,E,Hi w'⟩,.inr ⟨D,rfl,rfl⟩,G⟩
theorem Ads (I:Tab w) (J:0<w.heap.size) (h:IsDz w v z) :
  ϓ Ζ 18 #[v] w λe w'=>∃ q k,Gz e w' q k/\Fs z (Nq z) q k/\Ext w w':=by
 by_cases D:B0 z
 ·exact (Adq (ofZ z) (Fh D) (by rw[Dt];exact D.1) v w I J (Fi D h)).mono λe w' ⟨r,k,v',E,G,M,T⟩=>⟨r,k,⟨v',E,G⟩,.inl ⟨D,M⟩,T⟩
 ·exact (Adp z D v w h).mono λe w' ⟨E,G⟩=>⟨Fn,1,⟨zD,E,Hi w'⟩,.inr ⟨D,rfl,rfl⟩,G⟩
theorem Adx (h:IsDz w v z) :
  ϓ Ζ 19 #[v] w λe w'=>∃ q k,Gz e w' q k/\Fs z (Nq z) q k/\Ext w w':=by
 by_cases D:B0 z
 ·exact (Adw (ofZ z) (Fh D) (by rw[Dt];exact D.1) v w (Fi D h)).mono λe w' ⟨r,k,v',E,G,I,J⟩=>⟨r,k,⟨v',E,G⟩,.inl ⟨D,I⟩,J⟩
 ·exact (Adv z D v w h).mono λe w' ⟨E,G⟩=>⟨Fn,1,⟨zD,E,Hi w'⟩,.inr ⟨D,rfl,rfl⟩,G⟩
open Classical in
noncomputable def Gs (n:Int):Int × Nat:=if B0 z then Ej (ofZ z) n else (0,1)
open Classical in
noncomputable def Ew (n:Int):List (List UInt8) × Nat:=if B0 z then Cf (ofZ z) n else ([],1)
theorem Alm (n I:Int) (J:Nat) (E:(Gs z n).1=I) (G:(Gs z n).2=J) (h:IsDz w v z) :
  ϓ Ζ 20 #[v,.int ε n] w λe w'=>e=θ (ϙ #[.int ε I,.int ε J])/\Ext w w':=by
 unfold Gs at E G;by_cases D:B0 z
 ·rw[if_pos D] at E G;exact Alz (ofZ z) (Fh D) (by rw[Dt];exact D.1) v w n I J E G (Fi D h)
 ·rw[if_neg D] at E G;subst E G;exact All z D v n w h
theorem Alq (n I:Int) (J:Nat) (E:(Gs z n).1=I) (G:(Gs z n).2=J) (h:IsDz w v z) :
  ϓ Ζ 21 #[v,.int ε n] w λe w'=>e=θ (ϙ #[.int ε I,.int ε J])/\Ext w w':=by
 unfold Gs at E G;by_cases D:B0 z
 ·rw[if_pos D] at E G;exact Al3 (ofZ z) (Fh D) (by rw[Dt];exact D.1) v w n I J E G (Fi D h)
 ·rw[if_neg D] at E G;subst E G;exact Alp z D v n w h
theorem Ah6 (n:Int) (L:List (List UInt8)) (I:Nat) (E:(Ew z n).1=L) (G:(Ew z n).2=I) (h:IsDz w v z) :
  ϓ Ζ 22 #[v,.int ε n] w λe w'=>∃ J,e=θ (ϙ #[J,.int ε I])/\Wrds w' J L/\Ext w w':=by
 unfold Ew at E G;by_cases D:B0 z
 ·rw[if_pos D] at E G;exact Aho (ofZ z) (Fh D) (by rw[Dt];exact D.1) v w n L I E G (Fi D h)
 ·rw[if_neg D] at E G;subst E G;exact (Ah5 z D v n w h).mono λe w' ⟨M,T⟩=>⟨_,M,Wrds.nil w',T⟩
theorem Aic (n:Int) (L:List (List UInt8)) (I:Nat) (E:(Ew z n).1=L) (G:(Ew z n).2=I) (h:IsDz w v z) :
  ϓ Ζ 23 #[v,.int ε n] w λe w'=>∃ J,e=θ (ϙ #[J,.int ε I])/\Wrds w' J L/\Ext w w':=by
 unfold Ew at E G;by_cases D:B0 z
 ·rw[if_pos D] at E G;exact Aht (ofZ z) (Fh D) (by rw[Dt];exact D.1) v w n L I E G (Fi D h)
 ·rw[if_neg D] at E G;subst E G;exact (Aia z D v n w h).mono λe w' ⟨M,T⟩=>⟨_,M,Wrds.nil w',T⟩
theorem Ahq (n:Int):(Ew z n).1.length<=65536:=by
 unfold Ew;split
 ·exact Ahs _ _
 ·simp
theorem Ahp (n:Int):∀ x∈(Ew z n).1,x.length<=65536:=by
 unfold Ew;split
 ·exact Ahr _ _
 ·intro x D;cases D
end
def CsZ (W:Λ) (v:Ν) (l:List Cls):Prop:=SlW W v 4 l.length (λi=>.int π (wd (l.getD (i / 4) 0#256) (i % 4)))
def Zv (W:Λ) (v:Ν) (N:List (List Int)):Prop:=
 ∃ vs:List Ν,vs.length=N.length/\SlW W v 1 N.length (λi=>vs.getD i undef)/\∀ i,i<N.length->Rr W (vs.getD i undef) (N.getD i [])
def InDz (W:Λ) (v:Ν) (z:Dz):Prop:=∃ D vn va,v=.agg #[D,vn,va]/\CsZ W D z.cls/\Zv W vn z.n/\Nw W va z.acc
theorem InDz.dz {W:Λ} {v:Ν} {z:Dz} (h:InDz W v z) (T:z.cls.length<=8) (U:z.n.length<=8):IsDz W v z:=by
 obtain⟨D,vn,va,hv,E,⟨vs,G,I,J⟩,M⟩:=h;exact⟨D,vn,va,hv,SlW.sl E (by omega),⟨vs,G,SlW.sl I (by omega),J⟩,M⟩
theorem InDz.agg {W:Λ} {v:Ν} {z:Dz} (h:InDz W v z):∃ ac cc D E G J I,v=.agg (dA (Β ac z.cls.length cc) (Β D z.n.length E) (Β G J I)):=by
 obtain⟨vc,vn,va,rfl,M,⟨_,_,T,_⟩,U⟩:=h;obtain⟨ac,cc,rfl⟩:=SlW.len M;obtain⟨D,E,rfl⟩:=SlW.len T;obtain⟨G,I,rfl⟩:=SlW.len U;exact⟨_,_,_,_,_,_,_,rfl⟩
theorem InDz.ext {W W':Λ} {v:Ν} {z:Dz} (h:InDz W v z) (D:Ext W W'):InDz W' v z:=by
 obtain⟨E,vn,va,hv,G,⟨vs,I,J,M⟩,T⟩:=h;exact⟨E,vn,va,hv,SlW.ext G D,⟨vs,I,SlW.ext J D,λi hi=>SlW.ext (M i hi) D⟩,SlW.ext T D⟩
open Go.ChangeShapes Go.WideShapes Go.ChangeAt Go.WideMaps Go.WideElems Go.RowKit
def Ks : List (String × DataW Unit) := [("math/bits.deBruijn64tab", Rows.laid_math_bits_deBruijn64tab)]
theorem Afy:ownKnob Ζ.godebug=Γ:=by kernel_rfl
theorem Wz : Ζ.globalNamed "math/bits.deBruijn64tab" = Δ 0 := by kernel_rfl
theorem Abb:(Ζ.globals[0]?).map (·.type)=Δ 205:=by kernel_rfl
theorem Wd:laidOutB Ζ=Ξ:=by kernel_rfl
theorem Alb (os:Os) (args:Array Ν):laidMetH Ζ Ks ((Λ.doorLaid Ζ 400 os).forCall (λ_ _=>0) ⟨#[],args,[]⟩).memory:=
 laidMetH_of_parts3 (fuel:=8) (laidMet_of_run' 8 (by kernel_rfl) (by kernel_rfl)) (by kernel_rfl) (by kernel_rfl)
theorem Aba {W:Λ} (h:laidMetH Ζ Ks W):Tab W/\0<W.heap.size:=by
 rw [MakeChecks.laidMetH_plain _ _ _ (by kernel_rfl)] at h;have G : Lib.TabIs Ζ W "math/bits.deBruijn64tab" .u8 (Lib.deBruijn64tab.map Int.ofNat) :=
  Lib.tabIs_of_head Wz Abb Tryz.underlying205 Tryz.underlying5 (by kernel_rfl) (by kernel_rfl) h
 have D:Tab W:=λj E=>by
  rw[G.cell Wz j (by simpa [Lib.deBruijn64tab] using E)];have I:j<Lib.deBruijn64tab.length:=by simpa [Lib.deBruijn64tab] using E
  simp[Η,I]
 exact⟨D,Λ.block_lt_of_cell? W _ (D 0 (by decide))⟩
theorem Al6 (D n1 E G:Nat) (I:D<18446744073709551616) (J:n1<18446744073709551616) (M:E<18446744073709551616) (T:G<18446744073709551616) :
  ∃ c:Cls,wn c 0=D/\wn c 1=n1/\wn c 2=E/\wn c 3=G:=by
 refine⟨BitVec.ofNat 256 (D+18446744073709551616*n1+340282366920938463463374607431768211456*E+6277101735386680763835789423207666416102355444464034512896*G),?_⟩;have e:(BitVec.ofNat 256 (D+18446744073709551616*n1+340282366920938463463374607431768211456*E+6277101735386680763835789423207666416102355444464034512896*G)).toNat=D+18446744073709551616*n1+340282366920938463463374607431768211456*E+6277101735386680763835789423207666416102355444464034512896*G:=by
  rw[BitVec.toNat_ofNat];apply Nat.mod_eq_of_lt;omega
 unfold wn;rw[e];refine⟨?_,?_,?_,?_⟩<;>simp only[Nat.mul_zero,Nat.mul_one,Nat.reduceMul,Nat.reducePow]<;>omega
theorem Lr {k:Int} (h:(Lit.int π k).wf=Ξ):∃ n:Nat,k=n/\n<18446744073709551616:=by
 simp[Lit.wf,IntKind.min,IntKind.max,IntKind.bits,IntKind.signed] at h;exact⟨k.toNat,by omega,by omega⟩
theorem An4 {cs:List Ν} (J:cs.length=4) (h:∀ i,i<4->∃ k,(cs.drop i).take 1=[ö π k]/\(Lit.int π k).wf=Ξ):∃ c:Cls,cs=[.int π (wd c 0),.int π (wd c 1),.int π (wd c 2),.int π (wd c 3)]:=by
 match cs,J with
 | [a,b,c,d],_=>
  obtain⟨k0,D,w0⟩:=h 0 (by omega);obtain⟨k1,E,w1⟩:=h 1 (by omega);obtain⟨k2,G,M⟩:=h 2 (by omega);obtain⟨k3,I,T⟩:=h 3 (by omega);simp at D E G I;obtain⟨U,rfl,b0⟩:=Lr w0;obtain⟨n1,rfl,b1⟩:=Lr w1;obtain⟨n2,rfl,b2⟩:=Lr M;obtain⟨n3,rfl,b3⟩:=Lr T;obtain⟨C,f0,f1,f2,f3⟩:=Al6 U n1 n2 n3 b0 b1 b2 b3;exact⟨C,by rw[D,E,G,I];unfold wd;rw[f0,f1,f2,f3]⟩
theorem Xo {α:Type} (Q:Nat->α->Prop) (d:α):∀ n:Nat,(∀ i,i<n->∃ x,Q i x)->∃ l:List α,l.length=n/\∀ i,i<n->Q i (l.getD i d)
 | 0,_=>⟨[],rfl,λi hi=>by omega⟩
 | n+1,h=>by
  obtain⟨l,D,E⟩:=Xo Q d n λi hi=>h i (by omega)
  obtain⟨x,G⟩:=h n (by omega);refine⟨l++[x],by simp[D],λi hi=>?_⟩;by_cases I:i<n
  ·have:=E i I;rw[Η,List.getElem?_append_left (by omega),<-Η];exact this
  ·obtain rfl:i=n:=by omega
   rw[Η,List.getElem?_append_right (by omega),D]
   simpa using G
theorem Lx {W:Λ} {x:Addr} {len D k:Nat} {f:Nat->Ν} (G:0<k) (h:∀ i,i<len*k->W.cell? (x.add i)=Δ (f i)):SlW W (Β (Δ x) len D) k len f:=by
 by_cases I:len=0
 ·subst I;exact .inl ⟨rfl,_,_,rfl⟩
 ·obtain⟨b,J,M⟩:=x;have E:=h 0 (Nat.mul_pos (by omega) G);have T:M=Γ:=by simpa [Addr.add] using Λ.cell?_spot E
  subst T;refine .inr ⟨by omega,b,J,D,rfl,Λ.block_lt_of_cell? W _ E,λi hi=>?_⟩;rw[<-Addr.add_lit];exact h i hi
section
variable {H:Type} {enc:TypeId × Value->H} {W:World} {fuel:Nat} {x:DataW H × List MemPlace} {cs:List Value}
theorem Alh (hf:DataW.trod enc Ζ W 0 (λ_=>Ξ) Ξ fuel 26 cs=Δ x):∃ v l,cs=[v]/\CsZ W v l:=by
 have ab:Ζ.cellsOf 60=1:=by kernel_rfl
 have G:Ζ.cellsOf 62=4:=by kernel_rfl
 rcases DataW.trod_slice Tryz.underlying26 hf with⟨E,_⟩|⟨x,len,c,al,rest,m,_,E,_,_,hl,hm,ao,ad,_,_⟩
 ·exact⟨_,[],E,.inl ⟨rfl,_,_,rfl⟩⟩
 ·obtain⟨L,hL,hq⟩:=Xo (λi (c:Cls)=>∀ j,j<4->W.cell? (x.add (i*4+j))=Δ (.int π (wd c j))) 0#256 len λi hi=>by
   have D:=ad i hi;rw[G,Μ (by omega),Option.bind_eq_some_iff] at D;obtain⟨cs,h2,h3⟩:=D;obtain⟨xs,m,_,_,I,aq,J⟩:=DataW.trod_array Tryz.underlying62 h3;rw[G] at I;rw[ab] at J;obtain⟨c,hc⟩:=An4 I λi hi=>by
    have M:=J i hi;rw[Nat.mul_one,Μ (by omega)] at M;obtain⟨k,e1,_,hw⟩:=DataW.trod_int Tryz.underlying60 M;exact⟨k,e1,hw⟩
   refine⟨c,λj T=>?_⟩;have U:=(Λ.cells?_some h2).2.2 j T;rw[Addr.add_add] at U;rw[U,hc]
   match j,T with
   | 0,_=>rfl
   | 1,_=>rfl
   | 2,_=>rfl
   | 3,_=>rfl
  refine⟨_,L,E,?_⟩;unfold CsZ;rw[hL];refine Lx (by omega) λi hi=>?_
  have D:=hq (i / 4) (by omega) (i % 4) (by omega);rw[show i / 4*4+i % 4=i by omega] at D;exact D
theorem Anh (E:DataW.trod enc Ζ W 0 (λ_=>Ξ) Ξ fuel 28 cs=Δ x):∃ v l,cs=[v]/\Nw W v l:=by
 rcases Deep.open_bools Tryz.underlying28 Tryz.underlying4 (by kernel_rfl) E with⟨D,_⟩|⟨a,len,I,B,D,_,J,hm,_,G⟩
 ·exact⟨_,[],D,.inl ⟨rfl,_,_,rfl⟩⟩
 ·refine⟨_,(ι len).map B,D,?_⟩;unfold Nw;rw[ϋ,Î];refine Lx (by omega) λi hi=>?_
  rw[G i (by omega),Η,ϕ,Õ (by omega)];rfl
theorem Adc (I:DataW.trod enc Ζ W 0 (λ_=>Ξ) Ξ fuel 27 cs=Δ x):∃ v N,cs=[v]/\Zv W v N:=by
 rcases Deep.open_int_rows Tryz.underlying27 Tryz.underlying68 Tryz.underlying3 (by kernel_rfl) (by kernel_rfl) I with⟨D,_⟩|⟨a,len,ad,A,L,C,Z,D,_,hl,hm,_,E⟩
 ·exact⟨_,[],D,[],rfl,.inl ⟨rfl,_,_,rfl⟩,λi hi=>absurd hi (Nat.not_lt_zero i)⟩
 ·refine⟨_,(ι len).map λr=>(Z r).take (L r),D,(ι len).map λr=>Β (A r) (L r) (C r),by simp,?_,λi hi=>?_⟩
  ·rw[ϋ,Î];refine Lx (by omega) λi hi=>?_
   rw[(E i (by omega)).1,Η,ϕ,Õ (by omega)];rfl
  ·rw[ϋ,Î] at hi;obtain⟨_,h1,h2,h3,_,J,M⟩:=E i (by omega);have T:((ι len).map λr=>(Ν.slice (A r) (L r) (C r))).getD i undef=Β (A i) (L i) (C i):=by
    rw[Η,ϕ,Õ hi];rfl
   have U:((ι len).map λr=>(Z r).take (L r)).getD i []=(Z i).take (L i):=by
    rw[Η,ϕ,Õ hi];rfl
   rw[T,U];have aa:((Z i).take (L i)).length=L i:=by rw[List.length_take];omega
   unfold Rr;rw[aa];cases G:A i with
   | none=>have:=J G;exact .inl ⟨by omega,Γ,C i,by rw[show L i=0 by omega]⟩
   | some a'=>
    refine Lx (by omega) λk hk=>?_
    rw[(M a' G).2 k (by omega)]
    congr 2
    rw[Η,Η,List.getElem?_take,if_pos (by omega)]
end
theorem Af4 {H:Type} {enc:TypeId × Ν->H} {W:Λ} {M:Nat} {v:Ν} {d:DataW H} {p:List MemPlace} (hv:Ν.okWide Ζ W .any M 30 v) (h:DataW.Trod enc Ζ W 0 (λ_=>Ξ) Ξ 30 v d p) :
  ∃ z,InDz W v z:=by
 obtain⟨cs,rfl,E⟩:=okWide_struct Κ hv;obtain⟨fuel,T⟩:=h;obtain⟨xs,m,_,_,ax,U,D⟩:=DataW.trod_struct Κ T;have aa:Ζ.cellsOf 30=3:=by kernel_rfl
 have ab:Ζ.cellsOf 26=1:=by kernel_rfl
 have ad:Ζ.cellsOf 27=1:=by kernel_rfl
 have ae:Ζ.cellsOf 28=1:=by kernel_rfl
 rw[aa] at E;obtain⟨L⟩:=cs
 match L,E with
 | [u,s,t],_=>
  match xs,U with
  | [x0,x1,x2],_=>
   have G:DataW.trod enc Ζ W 0 (λ_=>Ξ) Ξ m 26 (([u,s,t].drop 0).take (Ζ.cellsOf 26))=Δ x0:=D 0 _ rfl;have I:DataW.trod enc Ζ W 0 (λ_=>Ξ) Ξ m 27 (([u,s,t].drop 1).take (Ζ.cellsOf 27))=Δ x1:=D 1 _ rfl;have J:DataW.trod enc Ζ W 0 (λ_=>Ξ) Ξ m 28 (([u,s,t].drop 2).take (Ζ.cellsOf 28))=Δ x2:=D 2 _ rfl;rw[ab] at G;rw[ad] at I;rw[ae] at J;obtain⟨v0,l0,e0,g0⟩:=Alh G;obtain⟨v1,l1,e1,g1⟩:=Adc I;obtain⟨v2,l2,e2,g2⟩:=Anh J;have f0:u=v0:=by injection e0
   have f1:s=v1:=by injection e1
   have f2:t=v2:=by injection e2
   subst f0 f1 f2;exact⟨⟨l0,l1,l2⟩,_,_,_,rfl,g0,g1,g2⟩
end Go.Proofs.YtaiogolidlamiaaGreatDoor
