/-
  The walk of LanguageMatchesReference.
-/
import Derived.Test.YtaiogolidlamiaaGreatDoorM21
import Derived.Test.YtaiogolidlamiaaGreatDoorM16
set_option linter.unusedVariables false
set_option linter.unusedSimpArgs false
open Bool renaming true → Ξ
open Go renaming Operand → ϻ, Value → Ρ, World → Κ, Calls → Ϝ, wpList_load_row → Υ, wpList_store_row → Φ
open Go.Ending renaming returned → ν
open Go.IntKind renaming i64 → ζ
open Go.Lib renaming hid → Α
open Go.Obj renaming cells → Ε
open Go.Operand renaming tmp → η
open Go.Proofs.Tryz renaming prog → Η, underlying30 → Ν
open Go.Value renaming tuple → ϥ, slice → Β
open Option renaming some → Δ, none → Γ
namespace Go.Proofs.YtaiogolidlamiaaGreatDoor
set_option maxRecDepth 100000
set_option maxHeartbeats 4000000

open Go.RowKit Go.Shelf
theorem Aks:Enters Η 25:=enters_of Tryz.func25 (by kernel_rfl) rfl
theorem Akq (ρ:ϻ->Ρ) (o:Oper) (W:Κ) (x y:ϻ) (a b:Int) (D:o.op=.binOp .eql 32 x y 32) (E:ρ x=.int ζ a) (G:ρ y=.int ζ b):(execOp ρ o).run Η W=.ok (.value (.bool (decide (a=b)))) W:=by
 unfold execOp;simp only[D,E,G];go_simp;rfl
def Qd {w:Κ} (x y:ϻ) (a b:Int) (r:Bool) (E:decide (a=b)=r):Sc Η w:=
 .gen (.binOp .eql 32 x y 32) [.c (.int ζ a),.c (.int ζ b)] (.c (.bool r)) (AV.mono_c _) λρ o W G _ D=>⟨_,Akq ρ o W x y a b G (C6 D).1 (C6 D).2,by rw[E];rfl⟩
abbrev Zs (R:Array Ρ) (W:Κ):Prop:=Ϝ Η 13 #[.agg R] W λe w'=>∃ d v,e=ν v/\IsD w' v d/\(Val d/\d.n.length<=6)/\Ext W w'
theorem Afl {w:Κ} {S:Nat} {a:Option Addr} {n c A:Nat} (h:RawAt w S a n c A):Zs (Fv S a n c A) w:=by
 obtain⟨E,G,l,rfl,H⟩:=h;exact (Afh S A E G _ l w H).mono λe w' ⟨v,d,I,J,D,M⟩=>⟨d,v,I,J,⟨D.1,D.2.1⟩,M⟩
abbrev Zq (d:Dfa) (l:List UInt8) (r:Dfa):Prop:=Cano r/\∀ x,r.has x=d.has (l++x)
abbrev Zr (d r:Dfa):Prop:=Cano r/\∀ x,r.has x=Ξ↔∃ u,d.has (x++u)=Ξ
abbrev Zp (d q:Dfa) (k:Nat):Prop:=∃ r,Jl d r/\q=dOf r/\k=kOf r
section
variable (d:Dfa) (hv:Val d) (hn:d.n.length<=64) (v:Value) (w:World)
include hv hn
theorem Aeb (l:List UInt8) (u:Ρ) (D:Tab w) (E:0<w.heap.size) (h:IsD w v d) (G:By w u l) :
  Ϝ Η 14 #[v,u] w λe w'=>∃ (r:Dfa) (v':Ρ),e=ν (ϥ #[v',.int ζ 0])/\IsD w' v' r/\Zq d l r/\Ext w w':=
 (Ty d hv hn v l u w D E h G).mono λe w' ⟨r,⟨v',H,I⟩,J,M,T⟩=>⟨r,v',H,I,⟨J,M⟩,T⟩
theorem Aec (l:List UInt8) (u:Ρ) (h:IsD w v d) (D:By w u l) :
  Ϝ Η 15 #[v,u] w λe w'=>∃ (r:Dfa) (v':Ρ),e=ν (ϥ #[v',.int ζ 0])/\IsD w' v' r/\Zq d l r/\Ext w w':=
 (Ad7 d hv hn v l u w h D).mono λe w' ⟨r,⟨v',E,G⟩,H,I,J⟩=>⟨r,v',E,G,⟨H,I⟩,J⟩
theorem Aeo (D:Tab w) (E:0<w.heap.size) (h:IsD w v d) :
  Ϝ Η 16 #[v] w λe w'=>∃ (r:Dfa) (v':Ρ),e=ν (ϥ #[v',.int ζ 0])/\IsD w' v' r/\Zr d r/\Ext w w':=
 (T7 d hv hn v w D E h).mono λe w' ⟨r,⟨v',G,H⟩,I,J,M⟩=>⟨r,v',G,H,⟨I,J⟩,M⟩
theorem Aep (h:IsD w v d) :
  Ϝ Η 17 #[v] w λe w'=>∃ (r:Dfa) (v':Ρ),e=ν (ϥ #[v',.int ζ 0])/\IsD w' v' r/\Zr d r/\Ext w w':=
 (Aek d hv hn v w h).mono λe w' ⟨r,⟨v',D,E⟩,G,H,I⟩=>⟨r,v',D,E,⟨G,H⟩,I⟩
theorem Adp (D:Tab w) (E:0<w.heap.size) (h:IsD w v d) :
  Ϝ Η 18 #[v] w λe w'=>∃ (q:Dfa) (k:Nat) (v':Ρ),e=ν (ϥ #[v',.int ζ k])/\IsD w' v' q/\Zp d q k/\Ext w w':=
 (Tn d hv hn v w D E h).mono λe w' ⟨r,G,H,I⟩=>by
  obtain⟨v',J,M⟩:=Tq G;exact⟨dOf r,kOf r,v',J,M,⟨r,H,rfl,rfl⟩,I⟩
theorem Ads (h:IsD w v d) :
  Ϝ Η 19 #[v] w λe w'=>∃ (q:Dfa) (k:Nat) (v':Ρ),e=ν (ϥ #[v',.int ζ k])/\IsD w' v' q/\Zp d q k/\Ext w w':=
 (Adj d hv hn v w h).mono λe w' ⟨r,D,E,G⟩=>by
  obtain⟨v',H,I⟩:=Tq D;exact⟨dOf r,kOf r,v',H,I,⟨r,E,rfl,rfl⟩,G⟩
theorem Ald (n D:Int) (E:Nat) (G:(Ed d n).1=D) (H:(Ed d n).2=E) (h:IsD w v d) :
  Ϝ Η 20 #[v,.int ζ n] w λe w'=>e=ν (ϥ #[.int ζ D,.int ζ E])/\Ext w w':=by
 rw[<-G,<-H];exact Ak2 d hv hn n v w h
theorem Alh (n D:Int) (E:Nat) (G:(Ed d n).1=D) (H:(Ed d n).2=E) (h:IsD w v d) :
  Ϝ Η 21 #[v,.int ζ n] w λe w'=>e=ν (ϥ #[.int ζ D,.int ζ E])/\Ext w w':=by
 rw[<-G,<-H];exact Ak4 d hv hn n v w h
theorem Ahc (n:Int) (L:List (List UInt8)) (D:Nat) (G:(Ce d n).1=L) (H:(Ce d n).2=D) (h:IsD w v d) :
  Ϝ Η 22 #[v,.int ζ n] w λe w'=>∃ E,e=ν (ϥ #[E,.int ζ D])/\Wrds w' E L/\Ext w w':=by
 rw[<-G,<-H];exact Ahq d hv hn n v w h
theorem Ahf (n:Int) (L:List (List UInt8)) (D:Nat) (G:(Ce d n).1=L) (H:(Ce d n).2=D) (h:IsD w v d) :
  Ϝ Η 23 #[v,.int ζ n] w λe w'=>∃ E,e=ν (ϥ #[E,.int ζ D])/\Wrds w' E L/\Ext w w':=by
 rw[<-G,<-H];exact Aht d hv hn n v w h
end
theorem Agz (S1 A1 n1 c1:Nat) (a1:Option Addr) (lu:List UInt8) (vu:Ρ) (n:Int) (w:Κ) (hT:Tab w) (cf:0<w.heap.size) (h1:RawAt w S1 a1 n1 c1 A1) (hu:ByW w vu lu) :
  Ϝ Η 3 #[.agg (Fv S1 a1 n1 c1 A1),vu,.int ζ n] w λe w'=>e=ν (.bool Ξ)/\Ext w w':=by
 have bp:=Α (λW (hW:Ext w W)=>hT.below hW.below cf);have bq:=Α (λW (hW:Ext w W)=>Nat.lt_of_lt_of_le cf hW.size);have c6:=Α (λW (hW:Ext w W)=>h1.ext hW);have c7:=Α hu;have hS:=λW hT hs=>Α (Acp W hT hs)
 have G:=(Ι w).alloc (Ε (Fv S1 a1 n1 c1 A1) 24);have H3:=Ab w (Ε (Fv S1 a1 n1 c1 A1) 24);obtain⟨au,bu,ou,cu,rfl,-,-,-⟩:=hu.split;clear hT cf h1 hu;have c9:=We S1 a1 n1 c1 A1;obtain⟨R1,bn⟩:∃ X,Fv S1 a1 n1 c1 A1=X:=⟨_,rfl⟩;have en:Hid (∀ W,Ext w W->Zs R1 W):=Α (λW hW=>by rw[<-bn];exact Afl (c6.out W hW));rw[bn] at G H3;rw[bn] at c9;rw[bn];clear bn c6;go_enter Tryz.func3,Tryz.ntmps3;go_upto_region 1 with (fail)
 obtain⟨w2,ch⟩:∃ W,w.alloc (Ε R1 24)=W:=⟨_,rfl⟩;rw[ch] at G H3;simp only[ch];clear ch;have ae:=Α H3;clear H3;have f12:=hS w2 (bp.out w2 G) (bq.out w2 G);go_upto_region 2 with (first
  | (go_at_call 12;(with_reducible refine f12.out.mono ?_);rintro e w7 ⟨rfl,H⟩))
 have D:=H;clear f12 hS;replace ae:=Α (D.heap ae.out);replace G:=G.trans D;clear H D;by_cases ep:200<lu.length
 ·have db:(200:Int)<(lu.length:Int):=by omega
  go_wp2;go_ret;exact⟨rfl,G⟩
 have db:¬ (200:Int)<(lu.length:Int):=by omega
 have cj:=Α (λW (hW:Ext w W)=>(c7.out.ext hW).short (by omega));clear ep c7;go_upto_region 4 with (fail)
 clear db;obtain⟨fk,cl⟩:∃ y,lu.length=y:=⟨_,rfl⟩;simp only[cl];rw[cl] at cj;clear cl;have f13:=Α (en.out w7 G);go_upto_region 5 with (first
  | (refine Υ rfl 24 (η 3) rfl _ rfl _ _ _ _ ae.out Tryz.underlying24 rfl c9 ?_)
  | (go_at_call 13;(with_reducible refine f13.out.mono ?_);rintro e w8 ⟨d,v,rfl,hD,af,H⟩;obtain⟨ac,lc,cc,an,cn,aa,la,ca,rfl⟩:=hD.agg)
  | (refine Φ rfl 30 (η 8) (η 35) rfl _ _ rfl rfl _ _ (Ab w8 _) Ad rfl (Ap _ _ _ rfl rfl rfl) ?_))
 obtain⟨I,E,J⟩:=Ec hD;obtain⟨V8,M⟩:∃ X,dA (Β ac lc cc) (Β an d.n.length cn) (Β aa la ca)=X:=⟨_,rfl⟩;have bb:(Η.info? 30).map (·.size)=Δ V8.size:=by rw[<-M];exact Ad
 rw[M] at I E J;rw[M];obtain⟨bw,hw⟩:∃ W,(w8.alloc (Ε #[Β Γ 0 0,Β Γ 0 0,Β Γ 0 0] 30)).setRow w8.heap.size V8=W:=⟨_,rfl⟩;rw[hw] at I E J;simp only[hw];obtain⟨g8,hg⟩:∃ y,w8.heap.size=y:=⟨_,rfl⟩;rw[hg] at E;rw[hg];have D:=H.trans I;have T:=Α E;have U:=Α J;have HV:=Α af.1;have HN:=Α (show d.n.length<=64 by have:=af.2;omega);clear af f13;replace ae:=Α (D.heap ae.out);replace G:=G.trans D;clear hD I E J M hw hg H D;have f14:=Α (Aeb d HV.out HN.out _ bw lu _ (bp.out bw G) (bq.out bw G) U.out (cj.out bw G));go_upto_region 6 with (first
  | (refine Υ rfl 30 (η 8) rfl _ rfl _ _ _ _ T.out Ν rfl bb ?_)
  | (go_at_call 14;(with_reducible refine f14.out.mono ?_);rintro e bx ⟨q,v,rfl,hD,af,H⟩;obtain⟨ac,lc,cc,an,cn,aa,la,ca,rfl⟩:=hD.agg)
  | (refine Φ rfl 30 (η 9) (η 40) rfl _ _ rfl rfl _ _ (Ab bx _) Ad rfl (Ap _ _ _ rfl rfl rfl) ?_))
 obtain⟨I,E,J⟩:=Ec hD;obtain⟨V9,M⟩:∃ X,dA (Β ac lc cc) (Β an q.n.length cn) (Β aa la ca)=X:=⟨_,rfl⟩;have er:(Η.info? 30).map (·.size)=Δ V9.size:=by rw[<-M];exact Ad
 rw[M] at I E J;rw[M];obtain⟨dd,hw⟩:∃ W,(bx.alloc (Ε #[Β Γ 0 0,Β Γ 0 0,Β Γ 0 0] 30)).setRow bx.heap.size V9=W:=⟨_,rfl⟩;rw[hw] at I E J;simp only[hw];obtain⟨g9,hg⟩:∃ y,bx.heap.size=y:=⟨_,rfl⟩;rw[hg] at E;rw[hg];have D:=H.trans I;have ag:=Α E;have ah:=Α J;have de:=Α af;clear af f14;replace T:=Α (D.heap T.out);replace U:=Α (U.out.ext D);replace ae:=Α (D.heap ae.out);replace G:=G.trans D;clear hD I E J M hw hg H D;have f15:=Α (Aec d HV.out HN.out _ dd lu _ U.out (cj.out dd G));go_upto_region 7 with (first
  | (refine Υ rfl 30 (η 8) rfl _ rfl _ _ _ _ T.out Ν rfl bb ?_)
  | (go_at_call 15;(with_reducible refine f15.out.mono ?_);rintro e bz ⟨a,v,rfl,hD,af,H⟩;obtain⟨ac,lc,cc,an,cn,aa,la,ca,rfl⟩:=hD.agg)
  | (refine Φ rfl 30 (η 11) (η 46) rfl _ _ rfl rfl _ _ (Ab bz _) Ad rfl (Ap _ _ _ rfl rfl rfl) ?_))
 obtain⟨I,E,J⟩:=Ec hD;obtain⟨cp,M⟩:∃ X,dA (Β ac lc cc) (Β an a.n.length cn) (Β aa la ca)=X:=⟨_,rfl⟩;have et:(Η.info? 30).map (·.size)=Δ cp.size:=by rw[<-M];exact Ad
 rw[M] at I E J;rw[M];obtain⟨cq,hw⟩:∃ W,(bz.alloc (Ε #[Β Γ 0 0,Β Γ 0 0,Β Γ 0 0] 30)).setRow bz.heap.size cp=W:=⟨_,rfl⟩;rw[hw] at I E J;simp only[hw];obtain⟨fo,hg⟩:∃ y,bz.heap.size=y:=⟨_,rfl⟩;rw[hg] at E;rw[hg];have D:=H.trans I;have aj:=Α E;have ak:=Α J;have df:=Α af;clear af f15;replace T:=Α (D.heap T.out);replace U:=Α (U.out.ext D);replace ag:=Α (D.heap ag.out);replace ah:=Α (ah.out.ext D);replace ae:=Α (D.heap ae.out);replace G:=G.trans D;clear hD I E J M hw hg H D;have f16:=Α (Aeo d HV.out HN.out _ cq (bp.out cq G) (bq.out cq G) U.out);go_upto_region 8 with (first
  | (refine Υ rfl 30 (η 8) rfl _ rfl _ _ _ _ T.out Ν rfl bb ?_)
  | (go_at_call 16;(with_reducible refine f16.out.mono ?_);rintro e b0 ⟨p,v,rfl,hD,af,H⟩;obtain⟨ac,lc,cc,an,cn,aa,la,ca,rfl⟩:=hD.agg)
  | (refine Φ rfl 30 (η 13) (η 51) rfl _ _ rfl rfl _ _ (Ab b0 _) Ad rfl (Ap _ _ _ rfl rfl rfl) ?_))
 obtain⟨I,E,J⟩:=Ec hD;obtain⟨cr,M⟩:∃ X,dA (Β ac lc cc) (Β an p.n.length cn) (Β aa la ca)=X:=⟨_,rfl⟩;have eu:(Η.info? 30).map (·.size)=Δ cr.size:=by rw[<-M];exact Ad
 rw[M] at I E J;rw[M];obtain⟨ev,hw⟩:∃ W,(b0.alloc (Ε #[Β Γ 0 0,Β Γ 0 0,Β Γ 0 0] 30)).setRow b0.heap.size cr=W:=⟨_,rfl⟩;rw[hw] at I E J;simp only[hw];obtain⟨fp,hg⟩:∃ y,b0.heap.size=y:=⟨_,rfl⟩;rw[hg] at E;rw[hg];have D:=H.trans I;have al:=Α E;have ao:=Α J;have dg:=Α af;clear af f16;replace T:=Α (D.heap T.out);replace U:=Α (U.out.ext D);replace ag:=Α (D.heap ag.out);replace ah:=Α (ah.out.ext D);replace aj:=Α (D.heap aj.out);replace ak:=Α (ak.out.ext D);replace ae:=Α (D.heap ae.out);replace G:=G.trans D;clear hD I E J M hw hg H D;have f17:=Α (Aep d HV.out HN.out _ ev U.out);go_upto_region 9 with (first
  | (refine Υ rfl 30 (η 8) rfl _ rfl _ _ _ _ T.out Ν rfl bb ?_)
  | (go_at_call 17;(with_reducible refine f17.out.mono ?_);rintro e b4 ⟨b,v,rfl,hD,af,H⟩;obtain⟨ac,lc,cc,an,cn,aa,la,ca,rfl⟩:=hD.agg)
  | (refine Φ rfl 30 (η 15) (η 56) rfl _ _ rfl rfl _ _ (Ab b4 _) Ad rfl (Ap _ _ _ rfl rfl rfl) ?_))
 obtain⟨I,E,J⟩:=Ec hD;obtain⟨ct,M⟩:∃ X,dA (Β ac lc cc) (Β an b.n.length cn) (Β aa la ca)=X:=⟨_,rfl⟩;have ew:(Η.info? 30).map (·.size)=Δ ct.size:=by rw[<-M];exact Ad
 rw[M] at I E J;rw[M];obtain⟨cv,hw⟩:∃ W,(b4.alloc (Ε #[Β Γ 0 0,Β Γ 0 0,Β Γ 0 0] 30)).setRow b4.heap.size ct=W:=⟨_,rfl⟩;rw[hw] at I E J;simp only[hw];obtain⟨fq,hg⟩:∃ y,b4.heap.size=y:=⟨_,rfl⟩;rw[hg] at E;rw[hg];have D:=H.trans I;have az:=Α E;have a6:=Α J;have dh:=Α af;clear af f17;replace T:=Α (D.heap T.out);replace U:=Α (U.out.ext D);replace ag:=Α (D.heap ag.out);replace ah:=Α (ah.out.ext D);replace aj:=Α (D.heap aj.out);replace ak:=Α (ak.out.ext D);replace al:=Α (D.heap al.out);replace ao:=Α (ao.out.ext D);replace ae:=Α (D.heap ae.out);replace G:=G.trans D;clear hD I E J M hw hg H D;have f18:=Α (Adp d HV.out HN.out _ cv (bp.out cv G) (bq.out cv G) U.out);go_upto_region 10 with (first
  | (refine Υ rfl 30 (η 8) rfl _ rfl _ _ _ _ T.out Ν rfl bb ?_)
  | (go_at_call 18;(with_reducible refine f18.out.mono ?_);rintro e b5 ⟨r,kr,v,rfl,hD,af,H⟩;obtain⟨ac,lc,cc,an,cn,aa,la,ca,rfl⟩:=hD.agg)
  | (refine Φ rfl 30 (η 17) (η 61) rfl _ _ rfl rfl _ _ (Ab b5 _) Ad rfl (Ap _ _ _ rfl rfl rfl) ?_))
 obtain⟨I,E,J⟩:=Ec hD;obtain⟨cw,M⟩:∃ X,dA (Β ac lc cc) (Β an r.n.length cn) (Β aa la ca)=X:=⟨_,rfl⟩;have ey:(Η.info? 30).map (·.size)=Δ cw.size:=by rw[<-M];exact Ad
 rw[M] at I E J;rw[M];obtain⟨ez,hw⟩:∃ W,(b5.alloc (Ε #[Β Γ 0 0,Β Γ 0 0,Β Γ 0 0] 30)).setRow b5.heap.size cw=W:=⟨_,rfl⟩;rw[hw] at I E J;simp only[hw];obtain⟨ft,hg⟩:∃ y,b5.heap.size=y:=⟨_,rfl⟩;rw[hg] at E;rw[hg];have D:=H.trans I;have a8:=Α E;have ba:=Α J;have e0:=Α af;clear af f18;replace T:=Α (D.heap T.out);replace U:=Α (U.out.ext D);replace ag:=Α (D.heap ag.out);replace ah:=Α (ah.out.ext D);replace aj:=Α (D.heap aj.out);replace ak:=Α (ak.out.ext D);replace al:=Α (D.heap al.out);replace ao:=Α (ao.out.ext D);replace az:=Α (D.heap az.out);replace a6:=Α (a6.out.ext D);replace ae:=Α (D.heap ae.out);replace G:=G.trans D;clear hD I E J M hw hg H D;have f19:=Α (Ads d HV.out HN.out _ ez U.out);go_upto_region 11 with (first
  | (refine Υ rfl 30 (η 8) rfl _ rfl _ _ _ _ T.out Ν rfl bb ?_)
  | (go_at_call 19;(with_reducible refine f19.out.mono ?_);rintro e b6 ⟨c,kc,v,rfl,hD,af,H⟩;obtain⟨ac,lc,cc,an,cn,aa,la,ca,rfl⟩:=hD.agg)
  | (refine Φ rfl 30 (η 19) (η 66) rfl _ _ rfl rfl _ _ (Ab b6 _) Ad rfl (Ap _ _ _ rfl rfl rfl) ?_))
 obtain⟨I,E,J⟩:=Ec hD;obtain⟨cx,M⟩:∃ X,dA (Β ac lc cc) (Β an c.n.length cn) (Β aa la ca)=X:=⟨_,rfl⟩;have e4:(Η.info? 30).map (·.size)=Δ cx.size:=by rw[<-M];exact Ad
 rw[M] at I E J;rw[M];obtain⟨e5,hw⟩:∃ W,(b6.alloc (Ε #[Β Γ 0 0,Β Γ 0 0,Β Γ 0 0] 30)).setRow b6.heap.size cx=W:=⟨_,rfl⟩;rw[hw] at I E J;simp only[hw];obtain⟨fu,hg⟩:∃ y,b6.heap.size=y:=⟨_,rfl⟩;rw[hg] at E;rw[hg];have D:=H.trans I;have be:=Α E;have bf:=Α J;have e6:=Α af;clear af f19;replace T:=Α (D.heap T.out);replace U:=Α (U.out.ext D);replace ag:=Α (D.heap ag.out);replace ah:=Α (ah.out.ext D);replace aj:=Α (D.heap aj.out);replace ak:=Α (ak.out.ext D);replace al:=Α (D.heap al.out);replace ao:=Α (ao.out.ext D);replace az:=Α (D.heap az.out);replace a6:=Α (a6.out.ext D);replace a8:=Α (D.heap a8.out);replace ba:=Α (ba.out.ext D);replace ae:=Α (D.heap ae.out);replace G:=G.trans D;clear hD I E J M hw hg H D;obtain⟨ca,dm⟩:∃ y,(Ed d n).1=y:=⟨_,rfl⟩;obtain⟨ck,dn⟩:∃ y,(Ed d n).2=y:=⟨_,rfl⟩;obtain⟨L,hL⟩:∃ y,(Ce d n).1=y:=⟨_,rfl⟩;obtain⟨lk,dq⟩:∃ y,(Ce d n).2=y:=⟨_,rfl⟩;have dr:=Α dm;have dt:=Α dn;have cy:=Α hL;have du:=Α dq;clear dm dn hL dq;have f20:=Α (Ald d HV.out HN.out _ e5 n ca ck dr.out dt.out U.out);go_upto_region 12 with (first
  | (refine Υ rfl 30 (η 8) rfl _ rfl _ _ _ _ T.out Ν rfl bb ?_)
  | (go_at_call 20;(with_reducible refine f20.out.mono ?_);rintro e e7 ⟨rfl,H⟩))
 have D:=H;clear f20;replace T:=Α (D.heap T.out);replace U:=Α (U.out.ext D);replace ag:=Α (D.heap ag.out);replace ah:=Α (ah.out.ext D);replace aj:=Α (D.heap aj.out);replace ak:=Α (ak.out.ext D);replace al:=Α (D.heap al.out);replace ao:=Α (ao.out.ext D);replace az:=Α (D.heap az.out);replace a6:=Α (a6.out.ext D);replace a8:=Α (D.heap a8.out);replace ba:=Α (ba.out.ext D);replace be:=Α (D.heap be.out);replace bf:=Α (bf.out.ext D);replace ae:=Α (D.heap ae.out);replace G:=G.trans D;clear H D;have f21:=Α (Alh d HV.out HN.out _ e7 n ca ck dr.out dt.out U.out);go_upto_region 13 with (first
  | (refine Υ rfl 30 (η 8) rfl _ rfl _ _ _ _ T.out Ν rfl bb ?_)
  | (go_at_call 21;(with_reducible refine f21.out.mono ?_);rintro e e8 ⟨rfl,H⟩))
 have D:=H;clear f21;replace T:=Α (D.heap T.out);replace U:=Α (U.out.ext D);replace ag:=Α (D.heap ag.out);replace ah:=Α (ah.out.ext D);replace aj:=Α (D.heap aj.out);replace ak:=Α (ak.out.ext D);replace al:=Α (D.heap al.out);replace ao:=Α (ao.out.ext D);replace az:=Α (D.heap az.out);replace a6:=Α (a6.out.ext D);replace a8:=Α (D.heap a8.out);replace ba:=Α (ba.out.ext D);replace be:=Α (D.heap be.out);replace bf:=Α (bf.out.ext D);replace ae:=Α (D.heap ae.out);replace G:=G.trans D;clear H D;have f22:=Α (Ahc d HV.out HN.out _ e8 n L lk cy.out du.out U.out);go_upto_region 14 with (first
  | (refine Υ rfl 30 (η 8) rfl _ rfl _ _ _ _ T.out Ν rfl bb ?_)
  | (go_at_call 22;(with_reducible refine f22.out.mono ?_);rintro e e9 ⟨vo,rfl,dw,H⟩))
 have D:=H;have cz:=Α dw;clear dw;clear f22;replace T:=Α (D.heap T.out);replace U:=Α (U.out.ext D);replace ag:=Α (D.heap ag.out);replace ah:=Α (ah.out.ext D);replace aj:=Α (D.heap aj.out);replace ak:=Α (ak.out.ext D);replace al:=Α (D.heap al.out);replace ao:=Α (ao.out.ext D);replace az:=Α (D.heap az.out);replace a6:=Α (a6.out.ext D);replace a8:=Α (D.heap a8.out);replace ba:=Α (ba.out.ext D);replace be:=Α (D.heap be.out);replace bf:=Α (bf.out.ext D);replace ae:=Α (D.heap ae.out);replace G:=G.trans D;clear H D;have f23:=Α (Ahf d HV.out HN.out _ e9 n L lk cy.out du.out U.out);go_upto_region 15 with (first
  | (refine Υ rfl 30 (η 8) rfl _ rfl _ _ _ _ T.out Ν rfl bb ?_)
  | (go_at_call 23;(with_reducible refine f23.out.mono ?_);rintro e b9 ⟨vi,rfl,dy,H⟩))
 have D:=H;have fa:=Α dy;clear dy;clear f23;replace T:=Α (D.heap T.out);replace U:=Α (U.out.ext D);replace ag:=Α (D.heap ag.out);replace ah:=Α (ah.out.ext D);replace aj:=Α (D.heap aj.out);replace ak:=Α (ak.out.ext D);replace al:=Α (D.heap al.out);replace ao:=Α (ao.out.ext D);replace az:=Α (D.heap az.out);replace a6:=Α (a6.out.ext D);replace a8:=Α (D.heap a8.out);replace ba:=Α (ba.out.ext D);replace be:=Α (D.heap be.out);replace bf:=Α (bf.out.ext D);replace ae:=Α (D.heap ae.out);replace cz:=Α (cz.out.ext D);replace G:=G.trans D;clear H D;obtain⟨rr,ea,eb,ec⟩:=e0.out;obtain⟨rc,ed,c2,ee⟩:=e6.out;have c3:=Adq ed ea;rw[c3,<-ec] at ee;rw[c3,<-eb] at c2;have e1:decide (q=a)=Ξ:=decide_eq_true (Gt de.out.1 df.out.1 λu=>by rw[de.out.2,df.out.2]);have e2:decide (p=b)=Ξ:=decide_eq_true (Gt dg.out.1 dh.out.1 λu=>by rw[Bool.eq_iff_iff,dg.out.2,dh.out.2]);have e3:decide (r=c)=Ξ:=decide_eq_true c2.symm;subst ee;have cb:=Ahe d n;have cd:=Ahd d n;rw[cy.out] at cb cd;have ei:=λ(e:EW b9)=>Α (N4 q a _ _ e.W (ah.out.ext e.ext) (ak.out.ext e.ext))
 have ej:=λ(e:EW b9)=>Α (N4 p b _ _ e.W (ao.out.ext e.ext) (a6.out.ext e.ext))
 have ek:=λ(e:EW b9)=>Α (N4 r c _ _ e.W (ba.out.ext e.ext) (bf.out.ext e.ext))
 have f25:=λ(e:EW b9)=>Α (Acq L L Ξ (by simp) cb cb cd cd vo vi e.W (cz.out.ext e.ext) (fa.out.ext e.ext))
 rw[e1] at ei;rw[e2] at ej;rw[e3] at ek;have fb:=Α G;clear e1 e2 e3 ea eb ec ed c2 c3 cb cd G;refine Z3 143 false 6 (.bool Ξ) [.keep,.keep,.keep,.keep,.pure,.pure,.keep,ldA ag.out er,ldA aj.out et,Jg 24 Qf [.agg V9,.agg cp] _ λW hx=>(ei ⟨W,hx⟩).out,.pure,.keep,.keep,.keep,.pure,.pure,.keep,ldA al.out eu,ldA az.out ew,Jg 24 Qf [.agg cr,.agg ct] _ λW hx=>(ej ⟨W,hx⟩).out,.pure,.keep,.keep,.keep,Qd (η 114) (η 115) kc kc Ξ (by simp),.pure,.keep,ldA a8.out ey,ldA be.out e4,Jg 24 Qf [.agg cw,.agg cx] _ λW hx=>(ek ⟨W,hx⟩).out,.pure,.keep,.keep,.keep,Qd (η 124) (η 125) ck ck Ξ (by simp),.pure,.keep,.keep,.keep,Qe (η 129) (η 130) ca ca Ξ (by simp),.pure,.keep,.keep,.keep,Qd (η 134) (η 135) lk lk Ξ (by simp),.pure,.keep,.keep,.keep,Jg 25 Aks [vo,vi] _ λW hx=>(f25 ⟨W,hx⟩).out,.pure,.keep] (λh=>by cases h) (by kernel_rfl) rfl rfl (λW=>by kernel_rfl) (by kernel_rfl) ?_;intro a' W hW fc ht;go_wp2;refine bodyPost_ret (results_tmp rfl _ _ _) fc ?_;rw[ht];exact⟨rfl,fb.out.trans hW⟩
end Go.Proofs.YtaiogolidlamiaaGreatDoor
