import Derived.Test.YtilncahcpjlfnaaGreatDoorM07
import Derived.Test.YtilncahcpjlfnaaGreatDoorM02
import Derived.Test.YtilncahcpjlfnaaGreatDoorM04
import Derived.WalkMore
import Derived.Test.YtilncahcpjlfnaaGreatDoorM05
set_option linter.unusedVariables false
set_option linter.unusedSimpArgs false
set_option maxRecDepth 100000
set_option maxHeartbeats 8000000
open Bool renaming true → Α, false → Ε, eq_iff_iff → Ϸ, false_eq_true → Ó, or_eq_true → Û, and_eq_true → ψ
open Classical renaming byContradiction → Ë
open Go renaming Value → Δ, World → Γ, Calls → ϛ, heap_alloc2_new → ϒ, cell_of_row → Τ, bodyPost_ret → ω, setRow_heap → Χ, wpList_load_mid → å, wpQuiet_step → Ϧ, wpQuiet_nil → ϵ, undef → Ω
open Go.Act renaming put → η
open Go.Ending renaming returned → Ψ
open Go.IntKind renaming i64 → Φ, u64 → ζ, u64 → ϯ, i64 → Ü
open Go.Lib renaming hid → Z
open Go.Obj renaming cells → Β
open Go.Operand renaming tmp → δ
open Go.Proofs.Tryz renaming prog → Η, underlying40 → Ο, underlying91 → ϋ
open Go.RowKit renaming Hid → ϟ
open Go.Value renaming slice → U, tuple → ϗ, int → Â, pointer → ε
open List renaming setIfInBounds_toArray → Θ, set_cons_zero → Μ, set_cons_succ → Λ, getElem?_cons_succ → Æ, getElem?_map → ν, getElem?_range → î, replicate → θ, length_take → Ö, getD_eq_getElem?_getD → Ζ, getElem?_eq_getElem → Ι, length_append → Ν, length_cons → ϑ, length_eq_zero_iff → ϭ, getElem_mem → ϣ, pairwise_iff_getElem → Ϫ, mem_iff_getElem → Ï, mem_map → ϴ, take_succ_cons → ú, drop_succ_cons → Ä, drop_zero → ϰ
open Nat renaming lt_of_lt_of_le → Ξ, le_refl → Υ, le_trans → μ, pow_le_pow_right → Ϲ, le_of_eq → Ô
open Option renaming some → J, none → I
namespace Go.Proofs.YtilncahcpjlfnaaGreatDoor
open Go.RowKit Go.Shelf
def rnA (k l r:Nat) (c:Cls) (mn:Nat) (mx:Int):Array Δ:=#[iv k,.int ζ (wd c 0),.int ζ (wd c 1),.int ζ (wd c 2),.int ζ (wd c 3),iv l,iv r,iv mn,.int Φ mx]
def DsAt (W:Γ) (b o:Nat) (ds:List Dfa):Prop:=∀ i,i<ds.length->∃ E G H,W.rangeAt b (o+i*3) [E,G,H]/\IsD W (.agg #[E,G,H]) (ds.getD i dN)
theorem DsAt.ext {W W':Γ} {b o:Nat} {ds:List Dfa} (h:DsAt W b o ds) (E:Ext W W'):DsAt W' b o ds:=λi hi=>by obtain⟨G,H,T,h1,X⟩:=h i hi;exact⟨G,H,T,λj v hj=>E.cell (h1 j v hj),X.ext E⟩
theorem Zd:(Η.info? 96).map (·.size)=J 9:=by kernel_rfl
theorem Dk (E G H:Δ):(Η.info? 40).map (·.size)=J [E,G,H].length:=by kernel_rfl
theorem F8 (E G H T:Δ):(Η.info? 91).map (·.size)=J [E,G,H,T].length:=by kernel_rfl
theorem V7 {d:Dfa} (hd:Val d) (ad:d.n.length<=64) {H:Nat} {hi:Int} {r:Option Dfa} (h:Fa d H hi r) (q:Dfa) (hq:r=J q):Val q/\q.n.length<=64:=by
 subst hq;obtain⟨e,he,p,h1,E⟩:=h;have ae:=Gl (show Fit e (λw=>w=[]) from he);cases p with
 | none=>cases (show J q=I from E)
 | some p=>
  obtain⟨T,X⟩:=Ll H e p he.1.val (by omega) h1;unfold Eo at E;simp only at E;by_cases c1:hi=H
  ·rw[if_pos c1] at E;injection E with E
   subst E;exact⟨T,X⟩
  rw[if_neg c1] at E;by_cases c2:hi<0
  ·rw[if_pos c2] at E;obtain⟨s,h3,G⟩:=E;cases s with
   | none=>cases (show J q=I from G)
   | some s=>exact I2 (show Cp p s (J q) from G) q rfl
  rw[if_neg c2] at E;obtain⟨s,h3,G⟩:=E;cases s with
  | none=>cases (show J q=I from G)
  | some s=>exact Ll _ p q T X (show Dr p s _ (J q) from G)
def okD (ds:List Dfa):Prop:=∀ i,i<ds.length->Val (ds.getD i dN)/\(ds.getD i dN).n.length<=64
theorem MU (k l r:Nat) (c:Cls) (mn:Nat) (mx:Int) (ds:List Dfa) (hg:(RNode.mk k l r c mn mx).good ds.length) (cw:mn<=16) (cy:mx=-1\/(mn:Int)<=mx) (cz:mx<=16) (cp:okD ds) (b o N c3:Nat) (hN:ds.length<=N) (de:N<=200) (w:Γ) (hT:Tab w) (bl:0<w.heap.size) (ct:DsAt w b o ds) :
  ϛ Η 41 #[.agg (rnA k l r c mn mx),U (J ⟨b,o,I⟩) N c3] w λe w'=>∃ q,ResOf w' e q/\F2 (RNode.mk k l r c mn mx) ds q/\Ext w w':=by
 have b5:=Z (λW (E:Ext w W)=>hT.below E.below bl);have bm:=Z cp;have bn:=Z ct;have cl:=((Κ w).alloc (Β (rnA k l r c mn mx) 96)).alloc (Β #[U I 0 0,U I 0 0,U I 0 0] 40);have H2:=Ah (Ad w (Β (rnA k l r c mn mx) 96)) (Β #[U I 0 0,U I 0 0,U I 0 0] 40);have G:=ϒ w (Β (rnA k l r c mn mx) 96) (Β #[U I 0 0,U I 0 0,U I 0 0] 40);obtain⟨g1,g2,g3,g4,g5⟩:=hg;simp only at g1 g2 g3 g4 g5;have f117:=λW (E:Ext w W)=>Z (Xl W (b5.o W E) (Ξ bl E.size))
 have f45:=λW (E:Ext w W)=>Z (Kx [] (by simp) _ W (CC W))
 have f118:=λW (E:Ext w W)=>Z (PF c W (b5.o W E) (Ξ bl E.size))
 clear hT cp ct;go_enter Tryz.func41,Tryz.ntmps41;go_upto_region 1 with (fail)
 obtain⟨w1,cn⟩:=Xq ((w.alloc (Β (rnA k l r c mn mx) 96)).alloc (Β #[U I 0 0,U I 0 0,U I 0 0] 40));rw[cn] at cl H2 G;simp only[cn];clear cn;have bg:=Z (λ(W:Γ) (E:W.heap[w.heap.size]? = J (Β (rnA k l r c mn mx) 96 (0,0)))=>(⟨(Τ W _ 0 _ _ _ E).trans rfl,(Τ W _ 5 _ _ _ E).trans rfl,(Τ W _ 6 _ _ _ E).trans rfl,(Τ W _ 7 _ _ _ E).trans rfl,(Τ W _ 8 _ _ _ E).trans rfl⟩:W.cell? ⟨w.heap.size,0,I⟩=J (iv k)/\W.cell? ⟨w.heap.size,5,I⟩=J (iv l)/\W.cell? ⟨w.heap.size,6,I⟩=J (iv r)/\W.cell? ⟨w.heap.size,7,I⟩=J (iv mn)/\W.cell? ⟨w.heap.size,8,I⟩=J (.int Φ mx)))
 have cu:w1.rangeAt w.heap.size 1 [.int ζ (wd c 0),.int ζ (wd c 1),.int ζ (wd c 2),.int ζ (wd c 3)]:=λj v hj=>by
  rw[Τ w1 _ _ _ _ _ H2]
  match j,hj with
  | 0,hj=>exact hj
  | 1,hj=>exact hj
  | 2,hj=>exact hj
  | 3,hj=>exact hj
 have db:=Z cu;have H2:=Z H2;have G:=Z G;have au:=Z cl;clear cl cu;have hk:=(bg.o w1 H2.o).1;have dc:k=1\/k=2\/k=3\/k=4\/k=5\/k=6\/k=7\/k=8:=by omega
 rcases dc with rfl|rfl|rfl|rfl|rfl|rfl|rfl|rfl
 ·go_wp2_with (first
  | (go_at_call 72;(with_reducible refine (f117 _ au.o).o.mono ?_);rintro e w2 ⟨re,X,bb,bc,T⟩;obtain⟨aa,ab,ad,ae,af,ag,ah,ai,aj,k1,rfl⟩:=X.form;have ax:=Z X;have bd:=Z bb;have b6:=Z bc;have an:=Z (au.o.t T);have G:=Z (T.heap G.o);clear X bb bc T)
  | (refine Sr 40 (δ 4) (δ 11) rfl G.o Ae rfl (Av _ _ _ rfl rfl rfl) ?_))
  refine ω (v:=ϗ #[.agg (dA (U aa ab ad) (U ae af ag) (U ah ai aj)),.int Φ k1]) (Bi rfl _ _ _ _ _ _ _ rfl _ rfl (Χ w2 _ _ (dA (U aa ab ad) (U ae af ag) (U ah ai aj)) 40 (0,0) G.o) Ο rfl Ae) rfl ?_;refine⟨J re,ax.o.setRow (λd' h=>by injection h with h;subst h;exact bd.o.val) G.o _,?_,an.o.setRow (by omega) _⟩;show Fb _ _;exact⟨re,rfl,bd.o,λu=>by rw[b6.o];simp⟩
 ·go_wp2_with (first
  | (go_at_call 16;(with_reducible refine (f45 _ au.o).o.mono ?_);rintro e w2 ⟨re,X,bb,bc,T⟩;obtain⟨aa,ab,ad,ae,af,ag,ah,ai,aj,k1,rfl⟩:=X.form;have ax:=Z X;have bd:=Z bb;have b6:=Z bc;have an:=Z (au.o.t T);have G:=Z (T.heap G.o);clear X bb bc T)
  | (refine Sr 40 (δ 4) (δ 16) rfl G.o Ae rfl (Av _ _ _ rfl rfl rfl) ?_))
  refine ω (v:=ϗ #[.agg (dA (U aa ab ad) (U ae af ag) (U ah ai aj)),.int Φ k1]) (Bi rfl _ _ _ _ _ _ _ rfl _ rfl (Χ w2 _ _ (dA (U aa ab ad) (U ae af ag) (U ah ai aj)) 40 (0,0) G.o) Ο rfl Ae) rfl ?_;refine⟨J re,ax.o.setRow (λd' h=>by injection h with h;subst h;exact bd.o.val) G.o _,?_,an.o.setRow (by omega) _⟩;show Fb _ _;exact⟨re,rfl,bd.o,b6.o⟩
 ·go_wp2_with (first
  | (refine å rfl 91 (δ 20) rfl _ 1 rfl _ _ db.o ϋ rfl (F8 _ _ _ _) ?_)
  | (go_at_call 73;(with_reducible refine (f118 _ au.o).o.mono ?_);rintro e w2 ⟨re,X,bb,bc,T⟩;obtain⟨aa,ab,ad,ae,af,ag,ah,ai,aj,k1,rfl⟩:=X.form;have ax:=Z X;have bd:=Z bb;have b6:=Z bc;have an:=Z (au.o.t T);have G:=Z (T.heap G.o);clear X bb bc T)
  | (refine Sr 40 (δ 4) (δ 23) rfl G.o Ae rfl (Av _ _ _ rfl rfl rfl) ?_))
  refine ω (v:=ϗ #[.agg (dA (U aa ab ad) (U ae af ag) (U ah ai aj)),.int Φ k1]) (Bi rfl _ _ _ _ _ _ _ rfl _ rfl (Χ w2 _ _ (dA (U aa ab ad) (U ae af ag) (U ah ai aj)) 40 (0,0) G.o) Ο rfl Ae) rfl ?_;refine⟨J re,ax.o.setRow (λd' h=>by injection h with h;subst h;exact bd.o.val) G.o _,?_,an.o.setRow (by omega) _⟩;show Fb _ _;exact⟨re,rfl,bd.o,b6.o⟩
 ·obtain⟨a6,bo⟩:=g1 (by simp);obtain⟨x1,x2,x3,a7,a8⟩:=bn.o l a6;obtain⟨y1,y2,y3,bt,bu⟩:=bn.o r bo;obtain⟨bh,bj⟩:=bm.o l a6;obtain⟨cc,cd⟩:=bm.o r bo;have ck:l<N:=by omega
  have cv:r<N:=by omega
  have bk:=Z (λ(W:Γ) (E:Ext w W) j v hj=>E.cell (a7 j v hj));have cf:=Z (λ(W:Γ) (E:Ext w W) j v hj=>E.cell (bt j v hj));have fc:=λW (E:Ext w W)=>Z (Ka (ds.getD l dN) (ds.getD r dN) bh cc bj cd _ _ W (b5.o W E) (Ξ bl E.size) (a8.ext E) (bu.ext E))
  clear a7 bt a8 bu;go_upto_region 9 with (fail)
  clear hk;refine Bl 14 [(0,Α),(1,Α),(2,Α),(3,Α),(4,Α),(5,Α),(6,Α),(7,Α),(8,Α),(9,Α),(10,Ε),(11,Α),(12,Α),(13,Ε),(14,Ε)] (by kernel_rfl) (by kernel_rfl) (λ_ _ _ _ h=>h)
   (λV=>Ext w V/\V.heap[w.heap.size]? = J (Β (rnA 4 l r c mn mx) 96 (0,0))) ⟨au.o.t (Κ w1).drew,(Κ w1).drew.heap H2.o⟩ ?_
  have ao:Ext w w1.drew/\w1.drew.heap[w.heap.size]? = J (Β (rnA 4 l r c mn mx) 96 (0,0)):=⟨au.o.t (Κ w1).drew,(Κ w1).drew.heap H2.o⟩;have ay:=(Κ w1).drew.heap G.o;obtain⟨wy,az⟩:=Xq (w1.drew);rw[az] at ao ay;rw[az];clear az;iterate 4
   refine Af (v:=?_) rfl rfl (λV H=>?_) ?_
   rotate_left
   ·obtain⟨c0,c5,c6,c7,c8⟩:=bg.o V H.2;clear H;go_simp;first|done|with_reducible rfl
   simp only[η,Θ,Μ,Λ]
  refine Af (v:=.agg #[x1,x2,x3]) rfl rfl (λV H=>?_) ?_
  ·exact Cg 40 (δ 30) rfl b (o+l*3) rfl _ _ (bk.o V H.1) Ο rfl (Dk _ _ _)
  simp only[η,Θ,Μ,Λ];iterate 4
   refine Af (v:=?_) rfl rfl (λV H=>?_) ?_
   rotate_left
   ·obtain⟨c0,c5,c6,c7,c8⟩:=bg.o V H.2;clear H;go_simp;first|done|with_reducible rfl
   simp only[η,Θ,Μ,Λ]
  refine Af (v:=.agg #[y1,y2,y3]) rfl rfl (λV H=>?_) ?_
  ·exact Cg 40 (δ 35) rfl b (o+r*3) rfl _ _ (cf.o V H.1) Ο rfl (Dk _ _ _)
  simp only[η,Θ,Μ,Λ];refine Ao rfl (λKk hK=>?_);go_simp
  (with_reducible refine (fc wy ao.1).o.mono ?_)
  rintro e w2 ⟨re,X,hrel,T⟩;obtain⟨aa,ab,ad,ae,af,ag,ah,ai,aj,k1,rfl⟩:=X.form;have G:=Z (T.heap ay);have ax:=Z X;have be:=Z hrel;have an:=Z (ao.1.trans T);have bf:=Z (T.heap ao.2);clear X hrel fc ay;refine hK _ _ (λ_=>⟨an.o,bf.o⟩) ?_;clear hK Kk;refine Af (v:=.agg (dA (U aa ab ad) (U ae af ag) (U ah ai aj))) rfl rfl (λV _=>?_) ?_
  ·go_simp
  simp only[η,Θ,Μ,Λ];refine Af (v:=.int Φ k1) rfl rfl (λV _=>?_) ?_
  ·go_simp
  simp only[η,Θ,Μ,Λ];refine Ao rfl (λKk hK=>?_);refine Ik 40 (δ 4) (δ 38) rfl rfl _ _ rfl rfl _ _ G.o Ae rfl (Av _ _ _ rfl rfl rfl) ?_;refine hK _ _ (λ_=>⟨an.o.setRow (show w.heap.size<=w.heap.size+1 by omega) _,Bm bf.o (show w.heap.size≠w.heap.size+1 by omega) _⟩) ?_;clear hK Kk;refine Ao rfl (λKk hK=>?_);go_simp;refine hK _ _ (λh=>absurd h (by omega)) ?_;clear hK Kk;refine Bj ?_;clear ao T;go_wp2;refine ω (v:=ϗ #[.agg (dA (U aa ab ad) (U ae af ag) (U ah ai aj)),.int Φ k1]) (Bi rfl _ _ _ _ _ _ _ rfl _ rfl (Χ w2 _ _ (dA (U aa ab ad) (U ae af ag) (U ah ai aj)) 40 (0,0) G.o) Ο rfl Ae) rfl ?_;refine⟨re,ax.o.setRow (λd' h=>(I2 be.o d' h).1) G.o _,?_,an.o.setRow (by omega) _⟩;exact be.o
 ·obtain⟨a6,bo⟩:=g1 (by simp);obtain⟨x1,x2,x3,a7,a8⟩:=bn.o l a6;obtain⟨y1,y2,y3,bt,bu⟩:=bn.o r bo;obtain⟨bh,bj⟩:=bm.o l a6;obtain⟨cc,cd⟩:=bm.o r bo;have ck:l<N:=by omega
  have cv:r<N:=by omega
  have bk:=Z (λ(W:Γ) (E:Ext w W) j v hj=>E.cell (a7 j v hj));have cf:=Z (λ(W:Γ) (E:Ext w W) j v hj=>E.cell (bt j v hj));have fc:=λW (E:Ext w W)=>Z (Qs (ds.getD l dN) (ds.getD r dN) bh cc bj cd _ _ W (b5.o W E) (Ξ bl E.size) (a8.ext E) (bu.ext E))
  clear a7 bt a8 bu;go_upto_region 11 with (fail)
  clear hk;refine Bl 14 [(0,Α),(1,Α),(2,Α),(3,Α),(4,Α),(5,Α),(6,Α),(7,Α),(8,Α),(9,Α),(10,Ε),(11,Α),(12,Α),(13,Ε),(14,Ε)] (by kernel_rfl) (by kernel_rfl) (λ_ _ _ _ h=>h)
   (λV=>Ext w V/\V.heap[w.heap.size]? = J (Β (rnA 5 l r c mn mx) 96 (0,0))) ⟨au.o.t (Κ w1).drew,(Κ w1).drew.heap H2.o⟩ ?_
  have ao:Ext w w1.drew/\w1.drew.heap[w.heap.size]? = J (Β (rnA 5 l r c mn mx) 96 (0,0)):=⟨au.o.t (Κ w1).drew,(Κ w1).drew.heap H2.o⟩;have ay:=(Κ w1).drew.heap G.o;obtain⟨wy,az⟩:=Xq (w1.drew);rw[az] at ao ay;rw[az];clear az;iterate 4
   refine Af (v:=?_) rfl rfl (λV H=>?_) ?_
   rotate_left
   ·obtain⟨c0,c5,c6,c7,c8⟩:=bg.o V H.2;clear H;go_simp;first|done|with_reducible rfl
   simp only[η,Θ,Μ,Λ]
  refine Af (v:=.agg #[x1,x2,x3]) rfl rfl (λV H=>?_) ?_
  ·exact Cg 40 (δ 45) rfl b (o+l*3) rfl _ _ (bk.o V H.1) Ο rfl (Dk _ _ _)
  simp only[η,Θ,Μ,Λ];iterate 4
   refine Af (v:=?_) rfl rfl (λV H=>?_) ?_
   rotate_left
   ·obtain⟨c0,c5,c6,c7,c8⟩:=bg.o V H.2;clear H;go_simp;first|done|with_reducible rfl
   simp only[η,Θ,Μ,Λ]
  refine Af (v:=.agg #[y1,y2,y3]) rfl rfl (λV H=>?_) ?_
  ·exact Cg 40 (δ 50) rfl b (o+r*3) rfl _ _ (cf.o V H.1) Ο rfl (Dk _ _ _)
  simp only[η,Θ,Μ,Λ];refine Ao rfl (λKk hK=>?_);go_simp
  (with_reducible refine (fc wy ao.1).o.mono ?_)
  rintro e w2 ⟨re,X,hrel,T⟩;obtain⟨aa,ab,ad,ae,af,ag,ah,ai,aj,k1,rfl⟩:=X.form;have G:=Z (T.heap ay);have ax:=Z X;have be:=Z hrel;have an:=Z (ao.1.trans T);have bf:=Z (T.heap ao.2);clear X hrel fc ay;refine hK _ _ (λ_=>⟨an.o,bf.o⟩) ?_;clear hK Kk;refine Af (v:=.agg (dA (U aa ab ad) (U ae af ag) (U ah ai aj))) rfl rfl (λV _=>?_) ?_
  ·go_simp
  simp only[η,Θ,Μ,Λ];refine Af (v:=.int Φ k1) rfl rfl (λV _=>?_) ?_
  ·go_simp
  simp only[η,Θ,Μ,Λ];refine Ao rfl (λKk hK=>?_);refine Ik 40 (δ 4) (δ 53) rfl rfl _ _ rfl rfl _ _ G.o Ae rfl (Av _ _ _ rfl rfl rfl) ?_;refine hK _ _ (λ_=>⟨an.o.setRow (show w.heap.size<=w.heap.size+1 by omega) _,Bm bf.o (show w.heap.size≠w.heap.size+1 by omega) _⟩) ?_;clear hK Kk;refine Ao rfl (λKk hK=>?_);go_simp;refine hK _ _ (λh=>absurd h (by omega)) ?_;clear hK Kk;refine Bj ?_;clear ao T;go_wp2;refine ω (v:=ϗ #[.agg (dA (U aa ab ad) (U ae af ag) (U ah ai aj)),.int Φ k1]) (Bi rfl _ _ _ _ _ _ _ rfl _ rfl (Χ w2 _ _ (dA (U aa ab ad) (U ae af ag) (U ah ai aj)) 40 (0,0) G.o) Ο rfl Ae) rfl ?_;refine⟨re,ax.o.setRow (Hm be.o) G.o _,?_,an.o.setRow (by omega) _⟩;exact be.o
 ·obtain⟨a6,bo⟩:=g1 (by simp);obtain⟨x1,x2,x3,a7,a8⟩:=bn.o l a6;obtain⟨y1,y2,y3,bt,bu⟩:=bn.o r bo;obtain⟨bh,bj⟩:=bm.o l a6;obtain⟨cc,cd⟩:=bm.o r bo;have ck:l<N:=by omega
  have cv:r<N:=by omega
  have bk:=Z (λ(W:Γ) (E:Ext w W) j v hj=>E.cell (a7 j v hj));have cf:=Z (λ(W:Γ) (E:Ext w W) j v hj=>E.cell (bt j v hj));have fc:=λW (E:Ext w W)=>Z (DB (ds.getD l dN) (ds.getD r dN) bh cc bj cd _ _ W (b5.o W E) (Ξ bl E.size) (a8.ext E) (bu.ext E))
  clear a7 bt a8 bu;go_upto_region 13 with (fail)
  clear hk;refine Bl 14 [(0,Α),(1,Α),(2,Α),(3,Α),(4,Α),(5,Α),(6,Α),(7,Α),(8,Α),(9,Α),(10,Ε),(11,Α),(12,Α),(13,Ε),(14,Ε)] (by kernel_rfl) (by kernel_rfl) (λ_ _ _ _ h=>h)
   (λV=>Ext w V/\V.heap[w.heap.size]? = J (Β (rnA 6 l r c mn mx) 96 (0,0))) ⟨au.o.t (Κ w1).drew,(Κ w1).drew.heap H2.o⟩ ?_
  have ao:Ext w w1.drew/\w1.drew.heap[w.heap.size]? = J (Β (rnA 6 l r c mn mx) 96 (0,0)):=⟨au.o.t (Κ w1).drew,(Κ w1).drew.heap H2.o⟩;have ay:=(Κ w1).drew.heap G.o;obtain⟨wy,az⟩:=Xq (w1.drew);rw[az] at ao ay;rw[az];clear az;iterate 4
   refine Af (v:=?_) rfl rfl (λV H=>?_) ?_
   rotate_left
   ·obtain⟨c0,c5,c6,c7,c8⟩:=bg.o V H.2;clear H;go_simp;first|done|with_reducible rfl
   simp only[η,Θ,Μ,Λ]
  refine Af (v:=.agg #[x1,x2,x3]) rfl rfl (λV H=>?_) ?_
  ·exact Cg 40 (δ 60) rfl b (o+l*3) rfl _ _ (bk.o V H.1) Ο rfl (Dk _ _ _)
  simp only[η,Θ,Μ,Λ];iterate 4
   refine Af (v:=?_) rfl rfl (λV H=>?_) ?_
   rotate_left
   ·obtain⟨c0,c5,c6,c7,c8⟩:=bg.o V H.2;clear H;go_simp;first|done|with_reducible rfl
   simp only[η,Θ,Μ,Λ]
  refine Af (v:=.agg #[y1,y2,y3]) rfl rfl (λV H=>?_) ?_
  ·exact Cg 40 (δ 65) rfl b (o+r*3) rfl _ _ (cf.o V H.1) Ο rfl (Dk _ _ _)
  simp only[η,Θ,Μ,Λ];refine Ao rfl (λKk hK=>?_);go_simp
  (with_reducible refine (fc wy ao.1).o.mono ?_)
  rintro e w2 ⟨re,X,hrel,T⟩;obtain⟨aa,ab,ad,ae,af,ag,ah,ai,aj,k1,rfl⟩:=X.form;have G:=Z (T.heap ay);have ax:=Z X;have be:=Z hrel;have an:=Z (ao.1.trans T);have bf:=Z (T.heap ao.2);clear X hrel fc ay;refine hK _ _ (λ_=>⟨an.o,bf.o⟩) ?_;clear hK Kk;refine Af (v:=.agg (dA (U aa ab ad) (U ae af ag) (U ah ai aj))) rfl rfl (λV _=>?_) ?_
  ·go_simp
  simp only[η,Θ,Μ,Λ];refine Af (v:=.int Φ k1) rfl rfl (λV _=>?_) ?_
  ·go_simp
  simp only[η,Θ,Μ,Λ];refine Ao rfl (λKk hK=>?_);refine Ik 40 (δ 4) (δ 68) rfl rfl _ _ rfl rfl _ _ G.o Ae rfl (Av _ _ _ rfl rfl rfl) ?_;refine hK _ _ (λ_=>⟨an.o.setRow (show w.heap.size<=w.heap.size+1 by omega) _,Bm bf.o (show w.heap.size≠w.heap.size+1 by omega) _⟩) ?_;clear hK Kk;refine Ao rfl (λKk hK=>?_);go_simp;refine hK _ _ (λh=>absurd h (by omega)) ?_;clear hK Kk;refine Bj ?_;clear ao T;go_wp2;refine ω (v:=ϗ #[.agg (dA (U aa ab ad) (U ae af ag) (U ah ai aj)),.int Φ k1]) (Bi rfl _ _ _ _ _ _ _ rfl _ rfl (Χ w2 _ _ (dA (U aa ab ad) (U ae af ag) (U ah ai aj)) 40 (0,0) G.o) Ο rfl Ae) rfl ?_;refine⟨re,ax.o.setRow (Hm be.o) G.o _,?_,an.o.setRow (by omega) _⟩;exact be.o
 ·have a6:=g2 (by simp);obtain⟨x1,x2,x3,a7,a8⟩:=bn.o l a6;obtain⟨bh,bj⟩:=bm.o l a6;have ck:l<N:=by omega
  have bk:=Z (λ(W:Γ) (E:Ext w W) j v hj=>E.cell (a7 j v hj));have fc:=λW (E:Ext w W)=>Z (MJ (ds.getD l dN) bh bj _ W (b5.o W E) (Ξ bl E.size) (a8.ext E))
  obtain⟨c0,c5,c6,c7,c8⟩:=bg.o w1 H2.o;clear a7 a8;go_wp2_with (first
   | (refine å rfl 40 (δ 75) rfl b (o+l*3) rfl _ _ (bk.o w1 au.o) Ο rfl (Dk _ _ _) ?_)
   | (go_at_call 75;(with_reducible refine (fc _ au.o).o.mono ?_);rintro e w2 ⟨re,X,bb,bc,T⟩;obtain⟨aa,ab,ad,ae,af,ag,ah,ai,aj,k1,rfl⟩:=X.form;have ax:=Z X;have bd:=Z bb;have b6:=Z bc;have an:=Z (au.o.t T);have G:=Z (T.heap G.o);clear X bb bc T)
   | (refine Sr 40 (δ 4) (δ 78) rfl G.o Ae rfl (Av _ _ _ rfl rfl rfl) ?_))
  refine ω (v:=ϗ #[.agg (dA (U aa ab ad) (U ae af ag) (U ah ai aj)),.int Φ k1]) (Bi rfl _ _ _ _ _ _ _ rfl _ rfl (Χ w2 _ _ (dA (U aa ab ad) (U ae af ag) (U ah ai aj)) 40 (0,0) G.o) Ο rfl Ae) rfl ?_;refine⟨J re,ax.o.setRow (λd' h=>by injection h with h;subst h;exact bd.o.val) G.o _,?_,an.o.setRow (by omega) _⟩;show Fb _ _;exact⟨re,rfl,bd.o,λu=>by rw[b6.o];simp⟩
 have a6:=g2 (by simp);obtain⟨x1,x2,x3,a7,a8⟩:=bn.o l a6;obtain⟨bh,bj⟩:=bm.o l a6;have ck:l<N:=by omega
 have bk:=Z (λ(W:Γ) (E:Ext w W) j v hj=>E.cell (a7 j v hj));have fc:=λW (E:Ext w W)=>Z (JK (ds.getD l dN) bh bj mn cw mx cy cz _ W (b5.o W E) (Ξ bl E.size) (a8.ext E))
 clear a7 a8;go_upto_region 16 with (fail)
 clear hk;refine Bl 13 [(0,Α),(1,Α),(2,Α),(3,Α),(4,Α),(5,Α),(6,Α),(7,Α),(8,Α),(9,Ε),(10,Α),(11,Α),(12,Ε),(13,Ε)] (by kernel_rfl) (by kernel_rfl) (λ_ _ _ _ h=>h)
  (λV=>Ext w V/\V.heap[w.heap.size]? = J (Β (rnA 8 l r c mn mx) 96 (0,0))) ⟨au.o.t (Κ w1).drew,(Κ w1).drew.heap H2.o⟩ ?_
 have ao:Ext w w1.drew/\w1.drew.heap[w.heap.size]? = J (Β (rnA 8 l r c mn mx) 96 (0,0)):=⟨au.o.t (Κ w1).drew,(Κ w1).drew.heap H2.o⟩;have ay:=(Κ w1).drew.heap G.o;obtain⟨wy,az⟩:=Xq (w1.drew);rw[az] at ao ay;rw[az];clear az;iterate 4
  refine Af (v:=?_) rfl rfl (λV H=>?_) ?_
  rotate_left
  ·obtain⟨c0,c5,c6,c7,c8⟩:=bg.o V H.2;clear H;go_simp;first|done|with_reducible rfl
  simp only[η,Θ,Μ,Λ]
 refine Af (v:=.agg #[x1,x2,x3]) rfl rfl (λV H=>?_) ?_
 ·exact Cg 40 (δ 83) rfl b (o+l*3) rfl _ _ (bk.o V H.1) Ο rfl (Dk _ _ _)
 simp only[η,Θ,Μ,Λ];iterate 4
  refine Af (v:=?_) rfl rfl (λV H=>?_) ?_
  rotate_left
  ·obtain⟨c0,c5,c6,c7,c8⟩:=bg.o V H.2;clear H;go_simp;first|done|with_reducible rfl
  simp only[η,Θ,Μ,Λ]
 refine Ao rfl (λKk hK=>?_);go_simp
 (with_reducible refine (fc wy ao.1).o.mono ?_)
 rintro e w2 ⟨re,X,hrel,T⟩;obtain⟨aa,ab,ad,ae,af,ag,ah,ai,aj,k1,rfl⟩:=X.form;have G:=Z (T.heap ay);have ax:=Z X;have be:=Z hrel;have an:=Z (ao.1.trans T);have bf:=Z (T.heap ao.2);clear X hrel fc ay;refine hK _ _ (λ_=>⟨an.o,bf.o⟩) ?_;clear hK Kk;refine Af (v:=.agg (dA (U aa ab ad) (U ae af ag) (U ah ai aj))) rfl rfl (λV _=>?_) ?_
 ·go_simp
 simp only[η,Θ,Μ,Λ];refine Af (v:=.int Φ k1) rfl rfl (λV _=>?_) ?_
 ·go_simp
 simp only[η,Θ,Μ,Λ];refine Ao rfl (λKk hK=>?_);refine Ik 40 (δ 4) (δ 90) rfl rfl _ _ rfl rfl _ _ G.o Ae rfl (Av _ _ _ rfl rfl rfl) ?_;refine hK _ _ (λ_=>⟨an.o.setRow (show w.heap.size<=w.heap.size+1 by omega) _,Bm bf.o (show w.heap.size≠w.heap.size+1 by omega) _⟩) ?_;clear hK Kk;refine Ao rfl (λKk hK=>?_);go_simp;refine hK _ _ (λh=>absurd h (by omega)) ?_;clear hK Kk;refine Bj ?_;clear ao T;go_wp2;refine ω (v:=ϗ #[.agg (dA (U aa ab ad) (U ae af ag) (U ah ai aj)),.int Φ k1]) (Bi rfl _ _ _ _ _ _ _ rfl _ rfl (Χ w2 _ _ (dA (U aa ab ad) (U ae af ag) (U ah ai aj)) 40 (0,0) G.o) Ο rfl Ae) rfl ?_;refine⟨re,ax.o.setRow (λd' h=>(V7 bh bj (be.o) d' h).1) G.o _,be.o,an.o.setRow (by omega) _⟩
def mL (c:Nat->Nat) (vc E G:Δ):List Δ:=vc::E::G::(List.range 256).map λb=>iv (c b)
def mA (c:Nat->Nat) (vc E G:Δ):Array Δ:=(mL c vc E G).toArray
theorem Yc (c:Nat->Nat) (vc E G:Δ) (b:Nat) (hb:b<256):(mA c vc E G)[3+b]? = J (iv (c b)):=by unfold mA mL;rw[List.getElem?_toArray,show 3+b=b+1+1+1 by omega,Æ,Æ,Æ,ν,î hb];rfl
theorem Jw {c c':Nat->Nat} (h:∀ b,b<256->c b=c' b) (vc E G:Δ):mA c vc E G=mA c' vc E G:=by unfold mA mL;rw[List.map_congr_left (g:=λb=>iv (c' b)) λb hb=>by rw[h b (List.mem_range.1 hb)]]
theorem OK (c:Nat->Nat) (vc E G:Δ) (b x:Nat) (hb:b<256):(mA c vc E G).setIfInBounds (3+b) (iv x)=mA (λy=>if y=b then x else c y) vc E G:=by
 apply Array.ext';rw[Array.toList_setIfInBounds];show (mL c vc E G).set (3+b) (iv x)=mL _ vc E G;unfold mL;rw[show 3+b=b+1+1+1 by omega,Λ,Λ,Λ];refine congrArg (λl=>vc::E::G::l) ?_;apply List.ext_getElem?;intro i;rw[List.getElem?_set,ν,ν,List.length_map,List.length_range];by_cases hi:i<256
 ·rw[î hi];by_cases e:b=i
  ·subst e;simp[hb]
  rw[if_neg e];simp[Ne.symm e]
 rw[List.getElem?_eq_none (by simp;omega)];by_cases e:b=i
 ·omega
 rw[if_neg e];rfl
theorem OJ (vc E G:Δ):mA (λ_=>0) vc E G=(vc::E::G::θ 256 (Â Φ 0)).toArray:=by unfold mA mL;simp[List.map_const']
theorem XG (a E G:Option Addr) (l c H T X aa:Nat):Η.built 162 [(0,.agg #[U a l c,U E H T,U G X aa])]=J (mA (λ_=>0) (U a l c) (U E H T) (U G X aa)):=by rw[OJ];kernel_rfl
theorem Ox {w:Γ} {b i:Nat} {V:Array Δ} {t:TypeId} {fr:Nat × Nat} {v:Δ} (h:w.heap[b]? = J (Β V t fr)) (e:V[i]? = J v):w.cell? ⟨b,i,I⟩=J v:=(Τ w b i _ _ _ h).trans e
theorem RB:(Η.info? 40).map (·.size)=J 3:=by kernel_rfl
def MachAt (W:Γ) (g:Nat) (d:Dfa):Prop:=∃ vc E G,W.heap[g]? = J (Β (mA (Am d.cls) vc E G) 162 (0,0))/\IsD W (.agg #[vc,E,G]) d
theorem MachAt.ext {W W':Γ} {g:Nat} {d:Dfa} (h:MachAt W g d) (E:Ext W W'):MachAt W' g d:=by obtain⟨vc,G,H,h1,T⟩:=h;exact⟨vc,G,H,E.heap h1,T.ext E⟩
theorem IL (c:Cls) (j:Nat):(bits BinOp.and ϯ (wd c (j / 64) / 2 ^ (j % 64)) 1==1)=c.getLsbD j:=by
 have G:=D4 c (j / 64);have E:=Ct c (j / 64) (j % 64);rw[show 64*(j / 64)+j % 64=j by omega,show decide (j % 64<64)=Α by simp;omega,Bool.true_and] at E;have H:(wd c (j / 64)) / 2 ^ (j % 64)=((wn c (j / 64) / 2 ^ (j % 64):Nat):Int):=by unfold wd;rw[Int.natCast_ediv];simp
 rw[H,<-E,Nat.testBit_eq_decide_div_mod_eq,show (1:Int)=((1:Nat):Int) from rfl,u64_and_nat _ _ (Nat.lt_of_le_of_lt (Nat.div_le_self _ _) G) (by decide)];generalize wn c (j / 64) / 2 ^ (j % 64)=m;rw[Nat.and_one_is_mod,Ϸ];simp
 omega
def mF (d:Dfa) (k j b:Nat):Nat:=if Am d.cls b<k\/(Am d.cls b=k/\b<j) then Am d.cls b else 0
theorem OH {d:Dfa} {k j b:Nat} (h:Am d.cls j≠k):mF d k j b=mF d k (j+1) b:=by
 unfold mF;have e:(Am d.cls b<k\/(Am d.cls b=k/\b<j))↔(Am d.cls b<k\/(Am d.cls b=k/\b<j+1)):=by
  refine or_congr Iff.rfl (and_congr_right λE=>?_);constructor
  ·omega
  intro hb;by_cases e:b=j
  ·subst e;exact absurd E h
  omega
 simp only[e]
theorem OG {d:Dfa} {k j b:Nat} (h:Am d.cls j=k):mF d k (j+1) b=if b=j then k else mF d k j b:=by
 unfold mF;by_cases e:b=j
 ·subst e;rw[if_pos rfl,if_pos (.inr ⟨h,by omega⟩),h]
 rw[if_neg e];have E:(Am d.cls b<k\/(Am d.cls b=k/\b<j+1))↔(Am d.cls b<k\/(Am d.cls b=k/\b<j)):=or_congr Iff.rfl (and_congr_right λ_=>by omega);simp only[E]
theorem OI {d:Dfa} {k b:Nat} (hb:b<256):mF d k 256 b=if Am d.cls b<k+1 then Am d.cls b else 0:=by
 unfold mF;have e:(Am d.cls b<k\/(Am d.cls b=k/\b<256))↔Am d.cls b<k+1:=by omega
 simp only[e]
theorem Q5 (d:Dfa) (hv:Val d) (v:Δ) (w:Γ) (h:IsD w v d) :
  ϛ Η 50 #[v] w λe w'=>∃ g,e=Ψ (ε (J ⟨g,0,I⟩))/\MachAt w' g d/\Ext w w':=by
 have HD:=Z h;obtain⟨vc,vn,va,rfl,hC,hN,hA⟩:=h;obtain⟨bc,oc,cc,rfl,hc⟩:=â hC (by obtain⟨c,hc,_⟩:=hv.parts.cov 0 (by omega);exact List.length_pos_of_mem hc);obtain⟨an,ln,cn,rfl⟩:∃ a n c,vn=U a n c:=by obtain⟨vs,_,hs,_⟩:=hN;obtain⟨a,c,rfl⟩:=hs.len;exact⟨_,_,_,rfl⟩
 obtain⟨aa,la,ca,rfl⟩:∃ a n c,va=U a n c:=by obtain⟨a,c,rfl⟩:=Sl.len hA;exact⟨_,_,_,rfl⟩
 have cv:d.cls.length<=4611686018427387904:=hC.1;have HC:=Z hc;obtain⟨A0,a8⟩:=Xq (mA (λ_=>0) (U (J ⟨bc,oc,I⟩) d.cls.length cc) (U an ln cn) (U aa la ca));have E:=XG (J ⟨bc,oc,I⟩) an aa d.cls.length cc ln cn la ca;obtain⟨V,hV⟩:=Xq ((#[U (J ⟨bc,oc,I⟩) d.cls.length cc,U an ln cn,U aa la ca]:Array Δ));have bt:V[0]? = J (U (J ⟨bc,oc,I⟩) d.cls.length cc):=by rw[<-hV];rfl
 have hi:(Η.info? 40).map (·.size)=J V.size:=by rw[<-hV];exact RB
 rw[a8,hV] at E;rw[hV] at HD;rw[hV];have G:=Z E;have cf:=Z a8;have HV:=Z hV;clear hN hA hc hC E a8 hV;go_enter Tryz.func50,Tryz.ntmps50;go_upto_region 1 with (fail)
 have ba:=(Κ w).alloc (Β V 40);have H0:=Ad w (Β V 40);obtain⟨w1,bb⟩:=Xq (w.alloc (Β V 40));rw[bb] at ba H0;simp only[bb];clear bb;have H0:=Z H0;go_upto_region 2 with (first
  | (refine Lr 40 (δ 1) H0.o Ο hi ?_)
  | (refine Bk rfl 162 _ rfl A0 ?_ ?_;(simp[Act.eval,η];exact G.o)))
 have bd:=ba.alloc (Β A0 162);have H9:=Ad w1 (Β A0 162);have be:=Ah H0.o (Β A0 162);obtain⟨w2,bf⟩:=Xq (w1.alloc (Β A0 162));rw[bf] at bd H9 be;simp only[bf];obtain⟨B,E⟩:=Xq (w1.heap.size);rw[E] at H9;simp only[E];have ck:ϟ (w.heap.size<=B):=Z (by have:=ba.size;omega);have cy:ϟ (B<w2.heap.size):=Z (Al H9);clear bf E;have c0:=Ox be bt;rw[<-cf.o] at H9;have H9:=Z H9;clear be bt;go_wp2_with (fail);clear c0;go_loopw [13] (λi W=>∃ k:Nat,k<=d.cls.length/\i=.int Φ k/\Ext w W/\W.heap[B]? = J (Β (mA (λb=>if Am d.cls b<k then Am d.cls b else 0) (U (J ⟨bc,oc,I⟩) d.cls.length cc) (U an ln cn) (U aa la ca)) 162 (0,0)))
  (λi _=>d.cls.length-(intOf i).toNat)
 case atStart=>refine⟨0,by omega,rfl,bd,?_⟩;rw[H9.o,Jw (c:=λb=>if Am d.cls b<0 then Am d.cls b else 0) (c':=λ_=>0) (λb _=>by simp)]
 obtain⟨k,hk,rfl,H,bu⟩:=hrel;have T:=Z bu;clear bu bd;by_cases bw:k<d.cls.length
 ·obtain⟨a0,a1,a2,a3⟩:=Kf (W:=wr) (λi hi=>H.cell (HC.o i hi)) k bw;have HK:=Z (λb hb=>Gw hv.parts (b:=b) hb bw);have b5:=Z (λb hb=>Gx hv.parts (b:=b) hb);obtain⟨c,bh⟩:=Xq (d.cls.getD k 0#256);rw[bh] at a0 a1 a2 a3 HK;have cl:ϟ (∀ b,b<256->(c.getLsbD b=Α↔Am d.cls b=k)):=Z λb hb=>⟨HK.o b hb,λe=>by rw[<-bh,<-e];exact b5.o b hb⟩
  clear bh HK b5;go_upto_region 5 with (fail)
  clear a0 a1 a2 a3;have bj:=H.alloc (Β (Ab c) 91);have X:=Ad wr (Β (Ab c) 91);have ay:=Ah T.o (Β (Ab c) 91);obtain⟨wi,bk⟩:=Xq (wr.alloc (Β (Ab c) 91));rw[bk] at bj X ay;simp only[bk];obtain⟨g5,bm⟩:=Xq (wr.heap.size);have c4:B<g5:=by have:=Al T.o;omega
  rw[bm] at X;simp only[bm];clear bk bm;rw[Jw (c':=mF d k 0) (λb _=>by unfold mF;simp)] at ay;go_wp2_with (fail);clear T;go_loopw [18] (λi W=>∃ j:Nat,j<=256/\i=.int Φ j/\Ext w W/\W.heap[g5]? = J (Β (Ab c) 91 (0,0))/\W.heap[B]? = J (Β (mA (mF d k j) (U (J ⟨bc,oc,I⟩) d.cls.length cc) (U an ln cn) (U aa la ca)) 162 (0,0)))
   (λi _=>256-(intOf i).toNat)
  case atStart=>exact⟨0,by omega,rfl,bj,X,ay⟩
  clear bj X ay H;obtain⟨j,hj,rfl,H,h5,E⟩:=hrel;have X:=Z h5;have G:=Z E;clear h5 E;by_cases bn:j<256
  ·have cw:=(Τ wr g5 (j / 64) _ _ _ X.o).trans (Iw c (j / 64) (by omega));have cp:=(Τ wr B (3+j) _ _ _ G.o).trans (Yc _ _ _ _ j bn);have c6:=frozen_of_row wr B (3+j) _ _ G.o;have ⟨h1,h2⟩:=G1 c (j / 64);have bo:=IL c j;have hm:=cl.o j bn;generalize mF d k j j=c7 at cp;generalize wd c (j / 64)=x at cw h1 h2 bo;cases az:c.getLsbD j
   ·rw[az] at bo hm;have HN:ϟ (mA (mF d k j) (U (J ⟨bc,oc,I⟩) d.cls.length cc) (U an ln cn) (U aa la ca)=mA (mF d k (j+1)) (U (J ⟨bc,oc,I⟩) d.cls.length cc) (U an ln cn) (U aa la ca)):=Z (Jw (λb _=>OH (λe=>by simp[e] at hm)) _ _ _);clear az hm;go_wp2;go_roundw
    case rel=>exact⟨j+1,by omega,by go_num,H,X.o,by rw[<-HN.o];exact G.o⟩
    simp[intOf];omega
   rw[az] at bo hm;have HY:=Z (hm.1 rfl);clear az hm;go_wp2;go_roundw
   case rel=>rw[setCell_eq_setRow wr _ _ _ _ _ _ G.o,OK _ _ _ _ _ _ bn];refine⟨j+1,by omega,by go_num,H.setRow ck.o _,Bm X.o (by omega) _,?_⟩;rw[Jw (c':=λy=>if y=j then k else mF d k j y) (λb _=>OG HY.o)];exact Χ wr _ _ _ _ _ G.o
   case measure=>simp[intOf];omega
  obtain rfl:j=256:=by omega
  have a6:=G.o;rw[Jw (c':=λb=>if Am d.cls b<k+1 then Am d.cls b else 0) (λb hb=>OI hb)] at a6;have a6:=Z a6;clear G X;go_wp2;go_roundw
  case rel=>exact⟨k+1,by omega,by go_num,H,a6.o⟩
  simp[intOf];omega
 obtain rfl:k=d.cls.length:=by omega
 have T:=T.o;rw[Jw (c':=Am d.cls) (λb hb=>by rw[if_pos (cell_lt hv.parts hb)])] at T;have T:=Z T;have b7:=Z (HD.o.ext H);rw[<-HV.o] at b7;go_wp2;go_ret;exact⟨B,rfl,⟨_,_,_,T.o,b7.o⟩,H⟩
theorem MachAt.opened {W:Γ} {g:Nat} {d:Dfa} (h:MachAt W g d) (E:Val d):∃ G H cn T X ca,W.cell? ⟨g,1,I⟩=J (U (J ⟨G,H,I⟩) d.n.length cn)/\W.cell? ⟨g,2,I⟩=J (U (J ⟨T,X,I⟩) d.n.length ca)/\
  (∀ b,b<256->W.cell? ⟨g,3+b,I⟩=J (iv (Am d.cls b)))/\RowsAt W G H d.n.length d.cls.length d.ent2/\∀ s,s<d.n.length->W.cell? ⟨T,X+s,I⟩=J (.bool (d.ok s)):=by
 obtain⟨vc,vn,va,hM,ao,aq,ar,he,hC,hN,hA⟩:=h;injection he with he
 injection he with he
 injection he with _ he
 injection he with e1 he
 injection he with e2 _
 subst e1 e2;obtain⟨G,H,cn,rfl,hr⟩:=Lh hN d.cls.length E.pos E.parts.pos E.row;obtain⟨T,X,ca,rfl,ha⟩:=O4 hA (by rw[E.accL];exact E.pos);refine⟨G,H,cn,T,X,ca,Ox hM rfl,?_,λb hb=>Ox hM (Yc _ _ _ _ b hb),hr,λs hs=>ha s (by rw[E.accL];exact hs)⟩;have:=Ox hM (i:=2) rfl;rw[E.accL] at this;exact this
theorem K3 (d:Dfa) (G:Val d) (g s:Nat) (hs:s<d.n.length) (x:UInt8) (w:Γ) (h:MachAt w g d) :
  ϛ Η 59 #[ε (J ⟨g,0,I⟩),iv s,bv x] w λe w'=>e=Ψ (iv (d.stp s x.toNat))/\Ext w w':=by
 obtain⟨bn,on,cn,ba,oa,ca,h1,-,H,T,-⟩:=h.opened G;obtain⟨br,or',cr,X,aa⟩:=T s hs;have hx:=x.toNat_lt;have ar:(x.toNat:Int)<256:=by omega
 have hk:=cell_lt G.parts hx;have c1:=Aw h1;have c3:=Aw (H x.toNat hx);have c4:=Aw X;have c5:=Aw (aa _ hk);have E:ϟ (d.ent2 s (Am d.cls x.toNat)=d.stp s x.toNat):=Z rfl;generalize Am d.cls x.toNat=k at c3 c5 hk E;obtain⟨t,ht⟩:=Xq (d.ent2 s k);rw[ht] at c5 E;rw[<-E.o];clear ht E h1 H T X aa h G;go_enter Tryz.func59,Tryz.ntmps59;go_upto_region 1 with (fail)
 refine B2 (by kernel_rfl) (by kernel_rfl) ?_;iterate 17 (with_reducible refine Ϧ (λK hK=>?_);go_simp;(refine hK _ ?_;clear hK K))
 refine ϵ ?_;rintro _ ⟨e,rfl⟩;go_wp2;go_ret;exact⟨rfl,e.ext⟩
structure Pt where
 d:Dfa
 lz:Bool
def Bp:List Dfa->Ag
 | []=>λw=>w=[]
 | d::ds=>Cat (wd1 d) (Bp ds)
def seg (w:List UInt8) (i j:Nat):List UInt8:=(w.take j).drop i
theorem Gi (w:List UInt8) (i j:Nat) (E:j<=w.length):(seg w i j).length=j-i:=by unfold seg;rw[List.length_drop,Ö];omega
theorem Jh (w:List UInt8) (i:Nat):seg w i i=[]:=by unfold seg;rw[List.drop_take];simp
theorem IN (w:List UInt8) (i j:Nat) (G:i<=j) (E:j<w.length):seg w i (j+1)=seg w i j++[w.getD j 0]:=by unfold seg;rw[List.take_add_one,List.drop_append_of_le_length (by rw[Ö];omega),Ζ,Ι E];rfl
theorem M8 (w:List UInt8) (i j:Nat) (E:i<=j) (G:j<=w.length):seg w i j++w.drop j=w.drop i:=by
 unfold seg;have h:w.drop i=(w.take j++w.drop j).drop i:=by rw[List.take_append_drop]
 rw[h,List.drop_append_of_le_length (by rw[Ö];omega)]
theorem Vo (w:List UInt8) (i j:Nat) (G:i<j) (H:j<=w.length):seg w i j=w.getD i 0::seg w (i+1) j:=by
 unfold seg;have E:i<(w.take j).length:=by rw[Ö];omega
 rw[List.drop_eq_getElem_cons E,List.getElem_take,Ζ,Ι (by omega)];rfl
def C1 (d:Dfa) (L:Ag) (w:List UInt8) (i q:Nat):Prop:=i<=q/\q<=w.length/\d.has (seg w i q)=Α/\L (w.drop q)
def Hw (lz:Bool) (d:Dfa) (L:Ag) (w:List UInt8) (i q:Nat):Prop:=C1 d L w i q/\∀ q',C1 d L w i q'->if lz=Α then q<=q' else q'<=q
def Cb:List Pt->List UInt8->Nat->List (Nat × Nat)->Prop
 | [],w,i,l=>l=[]/\i=w.length
 | p::ps,w,i,l=>∃ q E,l=(i,q)::E/\Hw p.lz p.d (Bp (ps.map (·.d))) w i q/\Cb ps w q E
theorem Sn {d:Dfa} {L:Ag} {w:List UInt8} {i:Nat} (hi:i<=w.length):Cat (wd1 d) L (w.drop i)↔∃ q,C1 d L w i q:=by
 constructor
 ·rintro⟨u,v,e,hu,E⟩;have X:u.length+v.length=w.length-i:=by have:=congrArg List.length e;rw[List.length_drop,Ν] at this;omega
  refine⟨i+u.length,by omega,by omega,?_,?_⟩
  ·have:seg w i (i+u.length)=u:=by unfold seg;rw[List.drop_take,e];simp
   rw[this];exact hu
  have:w.drop (i+u.length)=v:=by rw[<-List.drop_drop,e];simp
  rw[this];exact E
 rintro⟨q,h1,G,H,T⟩;exact⟨seg w i q,w.drop q,(M8 w i q h1 G).symm,H,T⟩
theorem QS {lz:Bool} {d:Dfa} {L:Ag} {w:List UInt8} {i q q':Nat} (h:Hw lz d L w i q) (E:Hw lz d L w i q'):q=q':=by have h1:=h.2 _ E.1;have G:=E.2 _ h.1;cases lz<;>simp at h1 G<;>omega
theorem N1 {ps:List Pt} {w:List UInt8} {i:Nat} {l:List (Nat × Nat)} (hi:i<=w.length) (h:Cb ps w i l):Bp (ps.map (·.d)) (w.drop i):=by
 cases ps with
 | nil=>obtain⟨_,E⟩:=h;show w.drop i=[];rw[E];simp
 | cons p ps=>obtain⟨q,H,_,G,_⟩:=h;exact (Sn hi).2 ⟨q,G.1⟩
theorem Q3 {ps:List Pt} {w:List UInt8} {i:Nat} {l E:List (Nat × Nat)} (h:Cb ps w i l) (G:Cb ps w i E):l=E:=by
 induction ps generalizing i l E with
 | nil=>rw[h.1,G.1]
 | cons p ps H=>obtain⟨q,m,e,T,hm⟩:=h;obtain⟨q',m',X,aa,ab⟩:=G;obtain rfl:=QS T aa;rw[e,X,H hm ab]
theorem NZ {ps:List Pt} {w:List UInt8} {i:Nat} {l:List (Nat × Nat)} (h:Cb ps w i l):l.length=ps.length:=by
 induction ps generalizing i l with
 | nil=>rw[h.1];rfl
 | cons p ps E=>obtain⟨q,m,e,_,hm⟩:=h;rw[e,ϑ,ϑ,E hm]
/-! A state from which the rest can be divided. -/
def Gd (d:Dfa) (L:Ag) (w:List UInt8) (i s:Nat):Prop:=∃ q,i<=q/\q<=w.length/\d.ok (d.run s (seg w i q))=Α/\L (w.drop q)
theorem Yj {d:Dfa} {L:Ag} {w:List UInt8} {i s:Nat} (hi:i<=w.length) :
  Gd d L w i s↔(d.ok s=Α/\L (w.drop i))\/(i<w.length/\Gd d L w (i+1) (d.stp s (w.getD i 0).toNat)):=by
 constructor
 ·rintro⟨q,h1,G,E,H⟩;by_cases e:q=i
  ·subst e;rw[Jh] at E;exact .inl ⟨E,H⟩
  refine .inr ⟨by omega,q,by omega,G,?_,H⟩;rw[Vo w i q (by omega) G] at E;exact E
 rintro (⟨h1,G⟩|⟨h1,q,G,E,H,T⟩)
 ·refine⟨i,Υ _,hi,?_,G⟩;rw[Jh];exact h1
 refine⟨q,by omega,E,?_,T⟩;rw[Vo w i q (by omega) E];exact H
theorem M9 (w:List UInt8) (i j k:Nat) (G:i<=j) (E:j<=k) (H:k<=w.length):seg w i k=seg w i j++seg w j k:=by
 unfold seg;have h:w.take k=w.take j++(w.take k).drop j:=by
  conv=>lhs;rw[<-List.take_append_drop j (w.take k)]
  rw[List.take_take,Nat.min_eq_left E]
 conv=>lhs;rw[h]
 rw[List.drop_append_of_le_length (by rw[Ö];omega)]
theorem Sm {d:Dfa} {L:Ag} {w:List UInt8} {i q q':Nat} (H:i<=q) (E:q<=q') (h:C1 d L w i q'):Gd d L w q (d.run 0 (seg w i q)):=by obtain⟨h1,G,T,X⟩:=h;refine⟨q',E,G,?_,X⟩;rw[<-Bf,<-M9 w i q q' H E G];exact T
theorem Yi {d:Dfa} {L:Ag} {w:List UInt8} {i q:Nat} (E:i<=q) (h:Gd d L w q (d.run 0 (seg w i q))):∃ q',q<=q'/\C1 d L w i q':=by obtain⟨q',h1,G,H,T⟩:=h;refine⟨q',h1,μ E h1,G,?_,T⟩;rw[<-Bf,<-M9 w i q q' E h1 G] at H;exact H
def Pf (A B:Ag) (w v:List UInt8):Prop:=B v/\¬ ∃ x y,x≠[]/\v=x++y/\A (w++x)/\B y
def T6 (A B:Ag) (w v:List UInt8):Prop:=B v/\¬ ∃ x y,y≠[]/\w=x++y/\A x/\B (y++v)
def Adm (lz:Bool) (A B:Ag) (w v:List UInt8):Prop:=if lz=Α then T6 A B w v else Pf A B w v
theorem Lf (u v x:List UInt8):seg (u++v++x) u.length (u.length+v.length)=v:=by unfold seg;rw[List.take_append_of_le_length (by rw[Ν];omega),List.take_of_length_le (by rw[Ν];omega),List.drop_append_of_le_length (Υ _)];simp
theorem Me (u v x:List UInt8):(u++v++x).drop (u.length+v.length)=x:=by rw[<-Ν,List.drop_append_of_le_length (Υ _)];simp
theorem Y7 {lz:Bool} {d:Dfa} {L:Ag} (u v x:List UInt8) (hv:d.has v=Α):Hw lz d L (u++v++x) u.length (u.length+v.length)↔Adm lz (wd1 d) L v x:=by
 have hE:C1 d L (u++v++x) u.length (u.length+v.length)↔L x:=by unfold C1;rw[Lf,Me];exact⟨λh=>h.2.2.2,λh=>⟨by omega,by rw[Ν,Ν];omega,hv,h⟩⟩
 unfold Hw Adm;rw[hE];cases lz with
 | false=>
  simp only[Ó,if_false];constructor
  ·rintro⟨h1,E⟩;refine⟨h1,?_⟩;rintro⟨a,b,ha,rfl,H,T⟩;have X:=E (u.length+(v++a).length) (by
    have e:u++v++(a++b)=u++(v++a)++b:=by simp
    unfold C1;rw[e,Lf,Me];exact⟨by omega,by simp,H,T⟩)
   rw[Ν] at X;have:a.length=0:=by omega
   exact ha (ϭ.1 this)
  rintro⟨h1,E⟩;refine⟨h1,λq' ⟨g1,G,g3,g4⟩=>?_⟩;by_cases ad:q'<=u.length+v.length
  ·exact ad
  exfalso
  apply E;refine⟨seg (u++v++x) (u.length+v.length) q',(u++v++x).drop q',?_,?_,?_,g4⟩
  ·intro e;have:=congrArg List.length e;rw[Gi _ _ _ G] at this;simp at this;omega
  ·have:=M8 (u++v++x) (u.length+v.length) q' (by omega) G;rw[this,Me]
  have:=M9 (u++v++x) u.length (u.length+v.length) q' (by omega) (by omega) G;rw[Lf] at this;show d.has _=Α;rw[<-this];exact g3
 | true=>
  simp only[if_true];constructor
  ·rintro⟨h1,E⟩;refine⟨h1,?_⟩;rintro⟨a,b,hb,rfl,H,T⟩;have X:=E (u.length+a.length) (by
    have e:u++(a++b)++x=u++a++(b++x):=by simp
    unfold C1;rw[e,Lf,Me];exact⟨by omega,by simp,H,T⟩)
   rw[Ν] at X;have:b.length=0:=by omega
   exact hb (ϭ.1 this)
  rintro⟨h1,E⟩;refine⟨h1,λq' ⟨g1,G,g3,g4⟩=>?_⟩;by_cases ad:u.length+v.length<=q'
  ·exact ad
  exfalso
  apply E;refine⟨seg (u++v++x) u.length q',seg (u++v++x) q' (u.length+v.length),?_,?_,g3,?_⟩
  ·intro e;have:=congrArg List.length e;rw[Gi _ _ _ (by simp)] at this;simp at this;omega
  ·have:=M9 (u++v++x) u.length q' (u.length+v.length) g1 (by omega) (by simp);rw[Lf] at this;exact this
  have:=M8 (u++v++x) q' (u.length+v.length) (by omega) (by simp);rw[Me] at this;rw[this];exact g4
/-! The words of a division. -/
def Ge:List Pt->List (List UInt8)->Prop
 | [],E=>E=[]
 | p::ps,E=>∃ w t,E=w::t/\Adm p.lz (wd1 p.d) (Bp (ps.map (·.d))) w t.flatten/\Ge ps t
def InR:List Pt->List (List UInt8)->Prop
 | [],E=>E=[]
 | p::ps,E=>∃ w t,E=w::t/\p.d.has w=Α/\InR ps t
theorem RK {ps:List Pt} {E:List (List UInt8)} (h:InR ps E):Bp (ps.map (·.d)) E.flatten:=by
 induction ps generalizing E with
 | nil=>rw[h];rfl
 | cons p ps G=>obtain⟨w,t,rfl,H,T⟩:=h;exact⟨w,t.flatten,rfl,H,G T⟩
def E4:Nat->List (List UInt8)->List (Nat × Nat)
 | _,[]=>[]
 | i,w::t=>(i,i+w.length)::E4 (i+w.length) t
theorem Q4 {ps:List Pt} {ws:List (List UInt8)} (u:List UInt8) (h:InR ps ws):Cb ps (u++ws.flatten) u.length (E4 u.length ws)↔Ge ps ws:=by
 induction ps generalizing ws u with
 | nil=>have E:ws=[]:=h;subst E;simp[Cb,Ge,E4]
 | cons p ps X=>
  obtain⟨w,t,rfl,E,ht⟩:=h;have e:u++(w::t).flatten=u++w++t.flatten:=by simp
  rw[e];constructor
  ·rintro⟨q,l',h1,G,H⟩;unfold E4 at h1;injection h1 with h1 T
   injection h1 with _ h1
   subst h1 T;refine⟨w,t,rfl,(Y7 u w t.flatten E).1 G,(X (u++w) ht).1 ?_⟩;rw[Ν];exact H
  rintro⟨w',t',h1,G,H⟩;injection h1 with h1 T
  subst h1 T;refine⟨u.length+w.length,E4 (u.length+w.length) t,rfl,(Y7 u w t.flatten E).2 G,?_⟩;have:=(X (u++w) ht).2 H;rw[Ν] at this;exact this
structure Opt where
 head:Dfa
 rest:Dfa
structure OptsOf (lz:Bool) (A B:Ag) (os:List Opt):Prop where
 hc:∀ o∈os,Cano o.head/\Cano o.rest
 J:∀ o∈os,(∃ w,o.head.has w=Α)/\∃ v,o.rest.has v=Α
 head:∀ o∈os,∀ w,o.head.has w=Α↔A w/\∀ v,o.rest.has v=Α↔Adm lz A B w v
 all:∀ w,A w->(∃ v,Adm lz A B w v)->∃ o∈os,o.head.has w=Α
 dis:os.Pairwise λa b=>a.rest≠b.rest
theorem OptsOf.one {lz:Bool} {A B:Ag} {os:List Opt} (h:OptsOf lz A B os) {i j:Nat} (hi:i<os.length) (E:j<os.length) {w:List UInt8} (h1:os[i].head.has w=Α) (T:os[j].head.has w=Α):i=j:=by
 have H:os[i].rest=os[j].rest:=by
  refine E8 (h.hc _ (ϣ hi)).2 (h.hc _ (ϣ E)).2 λv=>?_
  rw[Ϸ,((h.head _ (ϣ hi) w).1 h1).2 v,((h.head _ (ϣ E) w).1 T).2 v]
 rcases Nat.lt_trichotomy i j with G|he|G
 ·exact absurd H (Ϫ.1 h.dis _ _ hi E G)
 ·exact he
 exact absurd H.symm (Ϫ.1 h.dis _ _ E hi G)
theorem OptsOf.disj {lz:Bool} {A B:Ag} {os:List Opt} (h:OptsOf lz A B os) {a b:Opt} (E:a∈os) (hb:b∈os):a.head=b.head\/∀ w,¬ (a.head.has w=Α/\b.head.has w=Α):=by
 obtain⟨i,hi,rfl⟩:=Ï.1 E;obtain⟨j,G,rfl⟩:=Ï.1 hb;by_cases e:i=j
 ·subst e;exact .inl rfl
 exact .inr λw ⟨h1,H⟩=>e (h.one hi G h1 H)
def Ar:List (List Opt)->List (List Opt)
 | []=>[[]]
 | os::t=>os.flatMap λo=>(Ar t).map (o::·)
def Ee:List Opt->List (List UInt8)->Prop
 | [],E=>E=[]
 | o::os,E=>∃ w t,E=w::t/\o.head.has w=Α/\o.rest.has t.flatten=Α/\Ee os t
def Ef:List Pt->List (List Opt)->Prop
 | [],l=>l=[]
 | p::ps,l=>∃ os t,l=os::t/\OptsOf p.lz (wd1 p.d) (Bp (ps.map (·.d))) os/\Ef ps t
theorem UY {ps:List Pt} {l:List (List Opt)} (h:Ef ps l) {ws:List (List UInt8)} (hw:InR ps ws):(Ge ps ws->∃ i,∃ hi:i<(Ar l).length,Ee (Ar l)[i] ws)/\(∀ i (hi:i<(Ar l).length),Ee (Ar l)[i] ws->Ge ps ws)/\
  ∀ i j (hi:i<(Ar l).length) (hj:j<(Ar l).length),Ee (Ar l)[i] ws->Ee (Ar l)[j] ws->i=j:=by
 suffices H:(Ge ps ws->∃ c∈Ar l,Ee c ws)/\(∀ c∈Ar l,Ee c ws->Ge ps ws)/\(Ar l).Pairwise λa b=>¬ (Ee a ws/\Ee b ws) by
  refine⟨λhd=>?_,λi hi hd=>H.2.1 _ (ϣ hi) hd,λi j hi hj h1 E=>?_⟩
  ·obtain⟨c,hc,hd⟩:=H.1 hd;obtain⟨i,hi,rfl⟩:=Ï.1 hc;exact⟨i,hi,hd⟩
  rcases Nat.lt_trichotomy i j with hl|he|hl
  ·exact absurd ⟨h1,E⟩ (Ϫ.1 H.2.2 _ _ hi hj hl)
  ·exact he
  exact absurd ⟨E,h1⟩ (Ϫ.1 H.2.2 _ _ hj hi hl)
 induction ps generalizing l ws with
 | nil=>have hl:l=[]:=h;have ak:ws=[]:=hw;subst hl ak;refine⟨λ_=>⟨[],List.mem_singleton.2 rfl,rfl⟩,λc hc _=>rfl,List.pairwise_singleton _ _⟩
 | cons p ps ih=>
  obtain⟨os,t,rfl,ho,ht⟩:=h;obtain⟨w,u,rfl,aq,hu⟩:=hw;obtain⟨i1,i2,i3⟩:=ih ht hu;have hm:∀ c,c∈Ar (os::t)↔∃ o∈os,∃ X∈Ar t,c=o::X:=by
   intro c;show c∈os.flatMap _↔_;simp only[List.mem_flatMap,ϴ];constructor
   ·rintro⟨o,h1,X,E,rfl⟩;exact⟨o,h1,X,E,rfl⟩
   rintro⟨o,h1,X,E,rfl⟩;exact⟨o,h1,X,E,rfl⟩
  refine⟨?_,?_,?_⟩
  ·rintro⟨w',u',e,h1,E⟩;injection e with G T
   subst G T;obtain⟨o,ad,hh⟩:=ho.all w aq ⟨_,h1⟩;obtain⟨c,hc,hd⟩:=i1 E;exact⟨o::c,(hm _).2 ⟨o,ad,c,hc,rfl⟩,w,u,rfl,hh,(((ho.head o ad w).1 hh).2 _).2 h1,hd⟩
  ·intro c hc hd;obtain⟨o,ad,X,af,rfl⟩:=(hm c).1 hc;obtain⟨w',u',e,h1,E,h3⟩:=hd;injection e with G T
   subst G T;exact⟨w,u,rfl,(((ho.head o ad w).1 h1).2 _).1 E,i2 X af h3⟩
  show (os.flatMap _).Pairwise _;rw[List.pairwise_flatMap];refine⟨λo ad=>?_,?_⟩
  ·rw[List.pairwise_map];refine i3.imp λ{a b} az=>?_
   rintro⟨⟨w1,u1,G,_,_,g1⟩,⟨w2,u2,T,_,_,g2⟩⟩;injection G with G e3
   injection T with T e4
   subst e3 e4;exact az ⟨g1,g2⟩
  rw[Ϫ];intro i j hi hj bc c hc X af;obtain⟨a,_,rfl⟩:=ϴ.1 hc;obtain⟨b,_,rfl⟩:=ϴ.1 af;rintro⟨⟨w1,u1,G,k1,_,_⟩,⟨w2,u2,T,k2,_,_⟩⟩;injection G with G e3
  injection T with T e4
  subst G T;have:=ho.one hi hj k1 k2;omega
def Hz:List Dfa->List UInt8->Nat->List Nat->Prop
 | [],w,i,E=>E=[]/\i=w.length
 | d::ds,w,i,E=>∃ t u,E=t::u/\i<=t/\t<=w.length/\d.has (seg w i t)=Α/\Hz ds w t u
theorem AK {ds:List Dfa} {w:List UInt8} {i:Nat} {E:List Nat} (hi:i<=w.length) (h:Hz ds w i E):Bp ds (w.drop i):=by
 induction ds generalizing i E with
 | nil=>show w.drop i=[];rw[h.2];simp
 | cons d ds H=>obtain⟨t,u,_,h1,G,T,X⟩:=h;exact⟨seg w i t,w.drop t,(M8 w i t h1 G).symm,T,H G X⟩
theorem UR {ds:List Dfa} {w:List UInt8} {i:Nat} {E:List Nat} (h:Hz ds w i E):E.length=ds.length:=by
 induction ds generalizing i E with
 | nil=>rw[h.1];rfl
 | cons d ds G=>obtain⟨t,u,rfl,_,_,_,H⟩:=h;rw[ϑ,ϑ,G H]
theorem X3 {ps:List Pt} {w:List UInt8} {i:Nat} {l:List (Nat × Nat)} (h:Cb ps w i l):Hz (ps.map (·.d)) w i (l.map (·.2)):=by
 induction ps generalizing i l with
 | nil=>exact⟨by rw[h.1];rfl,h.2⟩
 | cons p ps E=>obtain⟨q,G,rfl,h1,H⟩:=h;exact⟨q,G.map (·.2),rfl,h1.1.1,h1.1.2.1,h1.1.2.2.1,E H⟩
theorem OA {ps:List Pt} {w:List UInt8} {i:Nat} {l:List (Nat × Nat)} {E:List Nat} (h:Cb ps w i l) (hd:Hz (ps.map (·.d)) w i E) (k:Nat) (H:k<ps.length) (he:∀ j,j<k->(l.getD j (0,0)).2=E.getD j 0) (G:(l.getD k (0,0)).2≠E.getD k 0) :
  (ps.getD k ⟨⟨[],[],[]⟩,Ε⟩).lz=Α↔(l.getD k (0,0)).2<E.getD k 0:=by
 induction ps generalizing i l E k with
 | nil=>exact absurd H (Nat.not_lt_zero k)
 | cons p ps ih=>
  obtain⟨q,l',rfl,h1,h2⟩:=h;obtain⟨t,u,rfl,g1,T,g3,X⟩:=hd;cases k with
  | zero=>
   have hE:C1 p.d (Bp (ps.map (·.d))) w i t:=⟨g1,T,g3,AK T X⟩;have:=h1.2 t hE;simp only[List.getD_cons_zero] at G ⊢;cases hz:p.lz
   ·rw[hz] at this;simp at this ⊢;omega
   rw[hz] at this;simp at this ⊢;omega
  | succ k=>
   have hq:q=t:=by
    have:=he 0 (by omega)
    simpa using this
   subst hq;simp only[List.getD_cons_succ] at G ⊢;exact ih h2 X k (by simpa using H) (λj hj=>by simpa using he (j+1) (by omega)) G
theorem AJ {ds:List Dfa} {w:List UInt8} {i:Nat} {E:List Nat} (h:Hz ds w i E) (h0:0<ds.length):E.getD (ds.length-1) 0=w.length:=by
 induction ds generalizing i E with
 | nil=>exact absurd h0 (by simp)
 | cons d ds H=>
  obtain⟨t,u,rfl,_,_,_,G⟩:=h;cases ds with
  | nil=>obtain⟨rfl,rfl⟩:=G;rfl
  | cons e ds=>
   have:=H G (by simp)
   simpa using this
structure CollR (nx:Nat->Nat->Nat) (ρ:Nat->Option Dfa) (os:List Opt):Prop where
 hc:∀ o∈os,Cano o.head/\Cano o.rest/\(∃ v,o.rest.has v=Α)/\∃ w,ρ (Aq nx 0 w)=J o.rest
 head:∀ o∈os,∀ w,o.head.has w=Α↔ρ (Aq nx 0 w)=J o.rest
 all:∀ w d,ρ (Aq nx 0 w)=J d->(∃ v,d.has v=Α)->∃ o∈os,o.rest=d
 dis:os.Pairwise λa b=>a.rest≠b.rest
theorem AU {nx:Nat->Nat->Nat} {ρ:Nat->Option Dfa} {os:List Opt} {lz:Bool} {A B:Ag} (h:CollR nx ρ os) (G:∀ w,A w↔∃ d,ρ (Aq nx 0 w)=J d) (H:∀ w d,ρ (Aq nx 0 w)=J d->Cano d/\∀ v,d.has v=Α↔Adm lz A B w v):OptsOf lz A B os where
 hc:=λo E=>⟨(h.hc o E).1,(h.hc o E).2.1⟩
 J:=λo E=>by obtain⟨_,_,h1,w,T⟩:=h.hc o E;exact⟨⟨w,(h.head o E w).2 T⟩,h1⟩
 head:=λo E w=>by
  rw[h.head o E w];constructor
  ·intro e;exact⟨(G w).2 ⟨_,e⟩,(H w _ e).2⟩
  rintro⟨h1,T⟩;obtain⟨d,hd⟩:=(G w).1 h1;obtain⟨X,h4⟩:=H w d hd;rw[hd,E8 X (h.hc o E).2.1 λv=>by rw[Ϸ,h4 v,T v]]
 all:=λw hw ⟨v,hv⟩=>by obtain⟨d,hd⟩:=(G w).1 hw;obtain⟨o,E,hr⟩:=h.all w d hd ⟨v,((H w d hd).2 v).2 hv⟩;exact⟨o,E,(h.head o E w).2 (by rw[hr];exact hd)⟩
 dis:=h.dis
def Ds (a:Dfa) (s:Nat):Ag:=λx=>x≠[]/\a.ok (a.run s x)=Α
theorem SH {a:Dfa} {B:Ag} {w v:List UInt8}:(B v/\¬ Cat (Ds a (a.run 0 w)) B v)↔Adm Ε (wd1 a) B w v:=by
 unfold Adm Pf;simp only[Ó,if_false];constructor
 ·rintro⟨h1,E⟩;refine⟨h1,?_⟩;rintro⟨x,y,hx,rfl,G,H⟩;refine E ⟨x,y,rfl,⟨hx,?_⟩,H⟩;rw[<-Bf];exact G
 rintro⟨h1,E⟩;refine⟨h1,?_⟩;rintro⟨x,y,rfl,⟨hx,G⟩,H⟩;refine E ⟨x,y,hx,rfl,?_,H⟩;show a.ok (a.run 0 (w++x))=Α;rw[Bf];exact G
def Ku (a b:Dfa) (w:List UInt8) (q:Nat):Prop:=∃ x y,y≠[]/\w=x++y/\a.has x=Α/\q=b.run 0 y
theorem SN (a b:Dfa) (q:Nat):¬ Ku a b [] q:=by rintro⟨x,y,E,e,_⟩;have:=congrArg List.length e;rw[Ν,List.length_nil] at this;exact E (ϭ.1 (by omega))
theorem SM (a b:Dfa) (w:List UInt8) (c:UInt8) (q:Nat):Ku a b (w++[c]) q↔(∃ p,Ku a b w p/\q=b.stp p c.toNat)\/(a.has w=Α/\q=b.stp 0 c.toNat):=by
 constructor
 ·rintro⟨x,y,G,e,hx,rfl⟩;obtain⟨E,X,rfl⟩:∃ E X,y=E++[X]:=⟨y.dropLast,y.getLast G,(List.dropLast_concat_getLast G).symm⟩;rw[<-List.append_assoc] at e;obtain⟨H,T⟩:=List.append_inj' e rfl;injection T with T
  subst T;by_cases h0:E=[]
  ·subst h0;right
   rw[List.append_nil] at H;subst H;exact⟨hx,rfl⟩
  left
  refine⟨b.run 0 E,⟨x,E,h0,H,hx,rfl⟩,?_⟩;rw[Bf];rfl
 rintro (⟨p,⟨x,y,G,rfl,hx,rfl⟩,rfl⟩|⟨h1,rfl⟩)
 ·refine⟨x,y++[c],by simp,by simp,hx,?_⟩;rw[Bf];rfl
 exact⟨w,[c],by simp,rfl,h1,rfl⟩
theorem PV {a b:Dfa} {w v:List UInt8}:(b.has v=Α/\¬ ∃ q,Ku a b w q/\b.ok (b.run q v)=Α)↔Adm Α (wd1 a) (wd1 b) w v:=by
 unfold Adm T6;simp only[if_true];constructor
 ·rintro⟨h1,E⟩;refine⟨h1,?_⟩;rintro⟨x,y,G,rfl,H,T⟩;refine E ⟨b.run 0 y,⟨x,y,G,rfl,H,rfl⟩,?_⟩;rw[<-Bf];exact T
 rintro⟨h1,E⟩;refine⟨h1,?_⟩;rintro⟨q,⟨x,y,G,rfl,H,rfl⟩,T⟩;refine E ⟨x,y,G,rfl,H,?_⟩;show b.ok (b.run 0 (y++v))=Α;rw[Bf];exact T
theorem Qr (a n s:Nat):(a ||| 2 ^ n).testBit s=Α↔a.testBit s=Α\/s=n:=by rw[Nat.testBit_or,Û,Nat.testBit_two_pow,decide_eq_true_eq];exact⟨λh=>h.imp_right λe=>e.symm,λh=>h.imp_right λe=>e.symm⟩
def B9 (b:Dfa) (S c:Nat):Nat->Nat
 | 0=>0
 | n+1=>if S.testBit n then B9 b S c n ||| 2 ^ b.stp n c else B9 b S c n
theorem Rs (b:Dfa) (S c:Nat):∀ n t,(B9 b S c n).testBit t=Α↔∃ q,q<n/\S.testBit q=Α/\b.stp q c=t
 | 0,t=>by simp[B9]
 | n+1,t=>by
  have H:=Rs b S c n t;unfold B9;split
  ·rename_i h
   rw[Qr,H];constructor
   ·rintro (⟨q,h1,E,G⟩|rfl)
    ·exact⟨q,by omega,E,G⟩
    exact⟨n,by omega,h,rfl⟩
   rintro⟨q,h1,E,G⟩;by_cases e:q=n
   ·subst e;exact .inr G.symm
   exact .inl ⟨q,by omega,E,G⟩
  rename_i h
  rw[H];constructor
  ·rintro⟨q,h1,E,G⟩;exact⟨q,by omega,E,G⟩
  rintro⟨q,h1,E,G⟩;refine⟨q,?_,E,G⟩;by_cases e:q=n
  ·subst e;exact absurd E h
  omega
def Ey (a b:Dfa) (p S c:Nat):Nat:=if a.ok p then B9 b S c b.n.length ||| 2 ^ b.stp 0 c else B9 b S c b.n.length
theorem OR (a b:Dfa) (p S c t:Nat):(Ey a b p S c).testBit t=Α↔(∃ q,q<b.n.length/\S.testBit q=Α/\b.stp q c=t)\/(a.ok p=Α/\t=b.stp 0 c):=by
 unfold Ey;split
 ·rename_i h
  rw[Qr,Rs];simp[h]
 rename_i h
 rw[Rs];simp[h]
def lnx (a b:Dfa) (s:Nat × Nat) (c:Nat):Nat × Nat:=(a.stp s.1 c,Ey a b s.1 s.2 c)
theorem Oc {b:Dfa} (hb:Val b) (S c:Nat) (hc:c<256):∀ n,n<=b.n.length->B9 b S c n<2 ^ b.n.length
 | 0,_=>Nat.two_pow_pos _
 | n+1,G=>by
  have E:=Oc hb S c hc n (by omega);unfold B9;split
  ·exact Nat.or_lt_two_pow E (Nat.pow_lt_pow_right (by omega) (hb.stp_lt (by omega) hc))
  exact E
theorem N5 {a b:Dfa} (hb:Val b) (p S c:Nat) (hc:c<256):Ey a b p S c<2 ^ b.n.length:=by
 have h:=Oc hb S c hc b.n.length (Υ _);unfold Ey;split
 ·exact Nat.or_lt_two_pow h (Nat.pow_lt_pow_right (by omega) (hb.stp_lt hb.pos hc))
 exact h
theorem Lw {a b:Dfa} (hb:Val b) (w:List UInt8):(Aq (lnx a b) (0,0) w).1=a.run 0 w/\∀ q,(Aq (lnx a b) (0,0) w).2.testBit q=Α↔Ku a b w q:=by
 have key:∀ r:List UInt8,(Aq (lnx a b) (0,0) r.reverse).1=a.run 0 r.reverse/\∀ q,(Aq (lnx a b) (0,0) r.reverse).2.testBit q=Α↔Ku a b r.reverse q:=by
  intro r;induction r with
  | nil=>exact⟨rfl,λq=>⟨λh=>by simp[Aq] at h,λh=>absurd h (SN a b q)⟩⟩
  | cons c r E=>
   rw[List.reverse_cons,E9];refine⟨?_,λq=>?_⟩
   ·show a.stp (Aq (lnx a b) (0,0) r.reverse).1 c.toNat=_;rw[E.1,Bf];rfl
   show (Ey a b (Aq (lnx a b) (0,0) r.reverse).1 (Aq (lnx a b) (0,0) r.reverse).2 c.toNat).testBit q=Α↔_;rw[OR,SM,E.1];refine or_congr ?_ Iff.rfl;constructor
   ·rintro⟨p,_,G,H⟩;exact⟨p,(E.2 p).1 G,H.symm⟩
   rintro⟨p,h1,G⟩;refine⟨p,?_,(E.2 p).2 h1,G.symm⟩;obtain⟨_,y,_,_,_,rfl⟩:=h1;exact hb.run_lt y hb.pos
 have:=key w.reverse
 rwa [List.reverse_reverse] at this
theorem SE {a b:Dfa} (H:Val a) {ρ:Nat->Option Dfa} (T:∀ s,s<a.n.length->(a.ok s=Α->∃ d,ρ s=J d/\Cano d/\∀ v,d.has v=Α↔b.has v=Α/\¬ Cat (Ds a s) (wd1 b) v)/\(a.ok s=Ε->ρ s=I))
  {os:List Opt} (hc:CollR a.stp ρ os):OptsOf Ε (wd1 a) (wd1 b) os:=by
 refine AU hc (λw=>?_) λw d hd=>?_
 ·have E:=H.run_lt w H.pos;show a.ok (a.run 0 w)=Α↔∃ d,ρ (a.run 0 w)=J d;cases G:a.ok (a.run 0 w)
  ·simp[(T _ E).2 G]
  obtain⟨d,hd,_⟩:=(T _ E).1 G;simp[hd]
 have E:=H.run_lt w H.pos;have X:ρ (a.run 0 w)=J d:=hd;cases G:a.ok (a.run 0 w)
 ·rw[(T _ E).2 G] at X;cases X
 obtain⟨e,he,h1,h2⟩:=(T _ E).1 G;rw[X] at he;injection he with he
 subst he;exact⟨h1,λv=>(h2 v).trans (SH (B:=wd1 b))⟩
theorem PR {a b:Dfa} (ha:Val a) (hb:Val b) {c:Nat->Nat} {bs:List Nat} {ac:Nat × Nat->Bool} {l:List (Nat × Nat)} {t:Tbl} (hj:Joint (Am a.cls) (Am b.cls) c bs) (h:Expl c bs (0,0) (lnx a b) ac l t) {ρ:Nat->Option Dfa}
  (G:∀ i s,l[i]? = J s->(a.ok s.1=Α->∃ d,ρ i=J d/\Cano d/\∀ v,d.has v=Α↔b.has v=Α/\¬ ∃ q,s.2.testBit q=Α/\b.ok (b.run q v)=Α)/\(a.ok s.1=Ε->ρ i=I))
  {os:List Opt} (hc:CollR t.stp ρ os):OptsOf Α (wd1 a) (wd1 b) os:=by
 have hn:∀ s x,x<256->lnx a b s (bs.getD (c x) 0)=lnx a b s x:=λs x hx=>by
  obtain⟨_,h1,H⟩:=hj.rep x hx;have ea:∀ p,a.stp p (bs.getD (c x) 0)=a.stp p x:=λp=>by unfold Dfa.stp;rw[h1]
  have eb:∀ p,b.stp p (bs.getD (c x) 0)=b.stp p x:=λp=>by unfold Dfa.stp;rw[H]
  have ei:∀ S n,B9 b S (bs.getD (c x) 0) n=B9 b S x n:=λS n=>by
   induction n with
   | zero=>rfl
   | succ n X=>unfold B9;rw[X,eb]
  unfold lnx Ey;rw[ea,ei,eb]
 have T:∀ w:List UInt8,l[t.run 0 w]? = J (Aq (lnx a b) (0,0) w):=by
  have key:∀ (w:List UInt8) i s,l[i]? = J s->l[t.run i w]? = J (Aq (lnx a b) s w):=λw=>by
   induction w with
   | nil=>intro i s hi;exact hi
   | cons x w X=>intro i s hi;have h1:=(h.tgt i s hi _ (hj.lt _ x.toNat_lt)).2;rw[hn s _ x.toNat_lt] at h1;refine X (t.stp i x.toNat) _ ?_;unfold Tbl.stp;rw[h.cell];exact h1
  exact λw=>key w 0 _ h.zero
 refine AU hc (λw=>?_) λw d hd=>?_
 ·obtain⟨h1,H⟩:=Lw (a:=a) hb w;show a.ok (a.run 0 w)=Α↔∃ d,ρ (t.run 0 w)=J d;rw[<-h1];cases E:a.ok (Aq (lnx a b) (0,0) w).1
  ·simp[(G _ _ (T w)).2 E]
  obtain⟨d,hd,_⟩:=(G _ _ (T w)).1 E;simp[hd]
 obtain⟨h1,H⟩:=Lw (a:=a) hb w;have aa:ρ (t.run 0 w)=J d:=hd;cases E:a.ok (Aq (lnx a b) (0,0) w).1
 ·rw[(G _ _ (T w)).2 E] at aa;cases aa
 obtain⟨e,he,g1,g2⟩:=(G _ _ (T w)).1 E;rw[aa] at he;injection he with he
 subst he;refine⟨g1,λv=>(g2 v).trans (Iff.trans ?_ PV)⟩;simp only[H]
def Gb (f:Nat->Bool):Nat->Nat
 | 0=>0
 | n+1=>if f n=Α then Gb f n ||| 2 ^ n else Gb f n
theorem CK (f:Nat->Bool):∀ n s,(Gb f n).testBit s=Α↔s<n/\f s=Α
 | 0,s=>by simp[Gb]
 | n+1,s=>by
  have G:=CK f n s;unfold Gb;split
  ·rename_i h
   rw[Qr,G];constructor
   ·rintro (⟨h1,E⟩|rfl)
    ·exact⟨by omega,E⟩
    exact⟨by omega,h⟩
   rintro⟨h1,E⟩;by_cases e:s=n
   ·exact .inr e
   exact .inl ⟨by omega,E⟩
  rename_i h
  rw[G];constructor
  ·rintro⟨h1,E⟩;exact⟨by omega,E⟩
  rintro⟨h1,E⟩;refine⟨?_,E⟩;by_cases e:s=n
  ·subst e;exact absurd E h
  omega
theorem Tt (f:Nat->Bool):∀ n,Gb f n<2 ^ n
 | 0=>by simp[Gb]
 | n+1=>by
  have E:=Tt f n;have h1:2 ^ n<2 ^ (n+1):=Nat.pow_lt_pow_right (by omega) (by omega);unfold Gb;split
  ·exact Nat.or_lt_two_pow (by omega) h1
  omega
def Lx (d:Dfa) (ok:Nat->Bool) (w:List UInt8) (S i s:Nat):Bool:=(d.ok s&&ok i)||(decide (i<w.length)&&S.testBit (d.stp s (w.getD i 0).toNat))
def Gc (d:Dfa) (L:Ag) (w:List UInt8) (i S:Nat):Prop:=S<2 ^ d.n.length/\∀ s,s<d.n.length->(S.testBit s=Α↔Gd d L w i s)
theorem OW {d:Dfa} (hd:Val d) {L:Ag} {w:List UInt8} {ok:Nat->Bool} {i S:Nat} (hi:i<=w.length) (T:ok i=Α↔L (w.drop i)) (H:i<w.length->Gc d L w (i+1) S):Gc d L w i (Gb (Lx d ok w S i) d.n.length):=by
 refine⟨Tt _ _,λs E=>?_⟩;rw[CK,Yj hi];unfold Lx;rw[Û,ψ,ψ,decide_eq_true_eq,T];constructor
 ·rintro⟨_,h|⟨h1,G⟩⟩
  ·exact .inl h
  exact .inr ⟨h1,((H h1).2 _ (hd.stp_lt E (w.getD i 0).toNat_lt)).1 G⟩
 rintro (h|⟨h1,G⟩)
 ·exact⟨E,.inl h⟩
 exact⟨E,.inr ⟨h1,((H h1).2 _ (hd.stp_lt E (w.getD i 0).toNat_lt)).2 G⟩⟩
theorem OV {d:Dfa} (hd:Val d) {L:Ag} {w:List UInt8} {i S:Nat} (hi:i<=w.length) (h:Gc d L w i S):(S % 2=1)↔Cat (wd1 d) L (w.drop i):=by
 have h0:=h.2 0 hd.pos;rw[Nat.testBit_zero,decide_eq_true_eq] at h0;rw[h0,Sn hi];constructor
 ·intro G;have e:d.run 0 (seg w i i)=0:=by rw[Jh];rfl
  obtain⟨q,_,E⟩:=Yi (Υ i) (by rw[e];exact G);exact⟨q,E⟩
 rintro⟨q,E⟩;have:=Sm (Υ i) E.1 E;rw[Jh] at this;exact this
structure EndInv (lz:Bool) (d:Dfa) (L:Ag) (w:List UInt8) (i q s:Nat) (best:Option Nat):Prop where
 iq:i<=q
 qn:q<=w.length
 run:s=d.run 0 (seg w i q)
 non:best=I->Gd d L w q s/\∀ q',q'<q->¬ C1 d L w i q'
 som:∀ k,best=J k->lz=Ε/\C1 d L w i k/\k<q/\∀ q',q'<q->C1 d L w i q'->q'<=k
theorem UL {lz:Bool} {d:Dfa} {L:Ag} {w:List UInt8} {i:Nat} (hi:i<=w.length) (h:∃ q,C1 d L w i q):EndInv lz d L w i i 0 I:=by refine⟨Υ _,hi,by rw[Jh];rfl,λ_=>⟨?_,λq' E G=>by have:=G.1;omega⟩,λk H=>by cases H⟩;obtain⟨q,E⟩:=h;have:=Sm (Υ i) E.1 E;rw[Jh] at this;exact this
section
variable {lz:Bool} {d:Dfa} {L:Ag} {w:List UInt8} {i q s:Nat} {best:Option Nat}
theorem EndInv.here (h:EndInv lz d L w i q s best):C1 d L w i q↔d.ok s=Α/\L (w.drop q):=by unfold C1 Dfa.has;rw[<-h.run];exact⟨λg=>g.2.2,λg=>⟨h.iq,h.qn,g⟩⟩
theorem UN (h:EndInv Α d L w i q s best) (h1:d.ok s=Α) (E:L (w.drop q)):Hw Α d L w i q:=by
 refine⟨h.here.2 ⟨h1,E⟩,λq' G=>?_⟩;rw[if_pos rfl];cases hb:best with
 | some k=>have:=(h.som k hb).1;cases this
 | none=>
  by_cases H:q'<q
  ·exact absurd G ((h.non hb).2 q' H)
  omega
def Ms (c:Bool) (q:Nat) (best:Option Nat):Option Nat:=if c=Α then J q else best
theorem UM (h:EndInv lz d L w i q s best) {c:Bool} (hc:c=Α↔d.ok s=Α/\L (w.drop q)) (hl:lz=Α->c=Ε) (X:q<w.length) (hL:Gd d L w q s):EndInv lz d L w i (q+1) (d.stp s (w.getD q 0).toNat) (Ms c q best):=by
 have T:c=Α↔C1 d L w i q:=hc.trans h.here.symm;refine⟨by have:=h.iq;omega,X,?_,λhb=>?_,λk G=>?_⟩
 ·rw[IN w i q h.iq X,Bf,<-h.run];rfl
 ·unfold Ms at hb;cases E:c with
  | true=>rw[E,if_pos rfl] at hb;cases hb
  | false=>
   rw[E] at hb;simp only[Ó,if_false] at hb;refine⟨?_,λq' aa H=>?_⟩
   ·rcases (Yj h.qn).1 hL with h1|h1
    ·have:=hc.2 h1;rw[E] at this;cases this
    exact h1.2
   by_cases e:q'=q
   ·subst e;have:=T.2 H;rw[E] at this;cases this
   exact (h.non hb).2 q' (by omega) H
 unfold Ms at G;cases E:c with
 | true=>
  rw[E,if_pos rfl] at G;injection G with G
  subst G;refine⟨?_,T.1 E,by omega,λq' aa _=>by omega⟩;cases hz:lz with
  | false=>rfl
  | true=>have:=hl hz;rw[E] at this;cases this
 | false=>
  rw[E] at G;simp only[Ó,if_false] at G;obtain⟨h1,h2,h3,h4⟩:=h.som k G;refine⟨h1,h2,by omega,λq' aa H=>?_⟩;by_cases e:q'=q
  ·subst e;have:=T.2 H;rw[E] at this;cases this
  exact h4 q' (by omega) H
theorem UK (h:EndInv lz d L w i q s best) {c:Bool} (hc:c=Α↔d.ok s=Α/\L (w.drop q)) (hl:lz=Α->c=Ε) (H:q=w.length\/¬ Gd d L w q s):∃ k,Ms c q best=J k/\Hw lz d L w i k:=by
 have ab:c=Α↔C1 d L w i q:=hc.trans h.here.symm;have X:∀ q',q<q'->¬ C1 d L w i q':=λq' ag E=>by
  rcases H with H|H
  ·have:=E.2.1;omega
  have:=Sm h.iq (Nat.le_of_lt ag) E;rw[<-h.run] at this;exact H this
 cases aa:c with
 | true=>
  refine⟨q,rfl,ab.1 aa,λq' E=>?_⟩;cases hz:lz with
  | true=>have:=hl hz;rw[aa] at this;cases this
  | false=>
   simp only[Ó,if_false];by_cases G:q<q'
   ·exact absurd E (X q' G)
   omega
 | false=>
  have ad:¬ C1 d L w i q:=λE=>by have:=ab.2 E;rw[aa] at this;cases this
  cases hb:best with
  | none=>
   exfalso
   obtain⟨ae,_⟩:=h.non hb;rw[h.run] at ae;obtain⟨q',h1,T⟩:=Yi h.iq ae;by_cases e:q'=q
   ·subst e;exact ad T
   exact X q' (by omega) T
  | some k=>
   obtain⟨h1,T,h3,h4⟩:=h.som k hb;refine⟨k,by simp[Ms],T,λq' E=>?_⟩;rw[h1];simp only[Ó,if_false];rcases Nat.lt_trichotomy q' q with G|e|G
   ·exact h4 q' G E
   ·subst e;exact absurd E ad
   exact absurd E (X q' G)
end
def Mr:Option Nat->Int
 | none=>-1
 | some k=>(k:Nat)
theorem Vm (S s:Nat) (E:S<18446744073709551616):(bits BinOp.and ϯ ((S:Int) / 2 ^ s) 1==0)=!S.testBit s:=by
 have G:(S:Int) / 2 ^ s=((S / 2 ^ s:Nat):Int):=by rw[Int.natCast_ediv];simp
 rw[G,Nat.testBit_eq_decide_div_mod_eq,show (1:Int)=((1:Nat):Int) from rfl,u64_and_nat _ _ (Nat.lt_of_le_of_lt (Nat.div_le_self _ _) E) (by decide)];generalize S / 2 ^ s=m;rw[Nat.and_one_is_mod,Ϸ];simp
 omega
theorem UJ (lz:Bool) (d:Dfa) (hv:Val d) (hn:d.n.length<=64) (L:Ag) (x:List UInt8) (cm:x.length<=4611686018427387900) (i:Nat) (hi:i<=x.length) (E:∃ q,C1 d L x i q) (ok:List Bool) (bh:∀ q,q<=x.length->(ok.getD q Ε=Α↔L (x.drop q))) (S:List Nat)
  (hS:∀ q,q<=x.length->Gc d L x q (S.getD q 0)) (g:Nat) (vb vl vS:Δ) (w:Γ) (hM:MachAt w g d) (hb:By w vb x) (hl:Sl w vl 1 (x.length+1) λq=>.bool (ok.getD q Ε)) (hs:Sl w vS 1 (x.length+1) λq=>.int ζ (S.getD q 0:Nat)) :
  ϛ Η 52 #[ε (J ⟨g,0,I⟩),vb,iv i,vl,vS,.bool lz] w λe w'=>∃ q,e=Ψ (iv q)/\Hw lz d L x i q/\Ext w w':=by
 obtain⟨-,-,-,ba,oa,ca,-,h2,-,-,bq⟩:=hM.opened hv;obtain⟨ab,bb,ob,cb,rfl,ar,br⟩:=hb.split;obtain⟨bl,ol,cl,rfl,bw⟩:=â hl (by omega);obtain⟨bS,oS,cS,rfl,bz⟩:=â hs (by omega);have HM:=Z hM;have H2:=Z h2;have cq:=Z bq;have a1:=Z br;have b0:=Z (λq (hq:q<x.length+1)=>bw q (by omega));have b4:=Z (λq (hq:q<x.length+1)=>bz q (by omega));have b5:=Z bh;have b6:=Z hS;have HI:=Z (UL (lz:=lz) hi E);have HV:=Z hv;obtain⟨n,a7⟩:=Xq (x.length);have HN:=Z a7;rw[a7] at cm ar b0 b4 b5 b6 ⊢;clear hM h2 bq hb hl hs br bw bz bh hS E hv a7 hi;go_enter Tryz.func52,Tryz.ntmps52;go_wp2_with (fail);try go_step3
 go_wp2_with (fail);try go_step3
 go_wp2_with (fail);go_loopw [13,14,15] (λvs vb vq W=>∃ (q s:Nat) (best:Option Nat),q<=n/\vs=iv s/\vb=.int Φ (Mr best)/\vq=iv q/\Ext w W/\ϟ (EndInv lz d L x i q s best))
  (λ_ _ vq _=>n+1-(intOf vq).toNat)
 case atStart=>exact⟨i,0,I,by have:=HI.o.qn;rw[HN.o] at this;exact this,rfl,rfl,rfl,Κ w,HI⟩
 clear HI;obtain⟨q,s,best,hq,rfl,rfl,rfl,E,HI⟩:=hrel;have c2:=E.cell H2.o;have bc:s<d.n.length:=by rw[HI.o.run];exact HV.o.run_lt _ HV.o.pos
 have dd:s<64:=by omega
 have ca:=E.cell (cq.o s bc);have cl:=E.cell (b0.o q (by omega));have cs:=E.cell (b4.o q (by omega));have HB:=Z (b5.o q hq);obtain⟨b8,b9⟩:=b6.o q hq;have bd:S.getD q 0<18446744073709551616:=Ξ b8 (Ϲ (by omega) hn);have ak:=Vm (S.getD q 0) s bd;have ae:=Z (b9 s bc);clear b8 b9;obtain⟨Sq,cc⟩:=Xq (S.getD q 0);rw[cc] at cs bd ak ae;clear cc;have ct:(Sq:Int)<18446744073709551616:=by omega
 obtain⟨o1,be⟩:=Xq (d.ok s);obtain⟨o2,cd⟩:=Xq (ok.getD q Ε);obtain⟨bt,cf⟩:=Xq (Sq.testBit s);rw[be] at ca;rw[cd] at cl HB;rw[cf] at ak ae;have cu:(0:Int)<=(Sq:Int):=by omega
 generalize (Sq:Int)=de at cs ak ct cu;clear bd;have cv:=Z be;clear be cd cf;have HC:ϟ ((o1&&o2)=Α↔d.ok s=Α/\L (x.drop q)):=Z (by rw[ψ,HB.o,cv.o]);have bg:=Z (λ(hl:lz=Α->(o1&&o2)=Ε) (af:q<n) (hL:Gd d L x q s)=>UM HI.o HC.o hl (by rw[HN.o];exact af) hL);have an:=Z (λ(hl:lz=Α->(o1&&o2)=Ε) (h:q=n\/¬ Gd d L x q s)=>UK HI.o HC.o hl (by rw[HN.o];exact h));have f152:=λW (hW:Ext w W) (af:q<n)=>Z (K3 d HV.o g s bc (x.getD q 0) W (HM.o.ext hW))
 cases o1 with
 | false=>
  by_cases af:q=n
  ·subst af;obtain⟨k,G,H⟩:=an.o (λ_=>rfl) (.inl rfl);have HK:ϟ ((Â Φ (Mr best))=iv k):=Z (by have T:best=J k:=G;rw[T];rfl);have X:=Z H;clear G H ak;go_wp2;try rw[Exit.noGoto_ret]
   go_ret;exact⟨k,by rw[<-HK.o];rfl,X.o,E⟩
  have cg:¬ ((q:Int)=(n:Int)):=by omega
  cases bt with
  | false=>
   obtain⟨k,G,H⟩:=an.o (λ_=>rfl) (.inr λh=>by have:=ae.o.2 h;cases this);have HK:ϟ ((Â Φ (Mr best))=iv k):=Z (by have T:best=J k:=G;rw[T];rfl);have X:=Z H;clear G H;go_wp2;try rw[Exit.noGoto_ret]
   go_ret;exact⟨k,by rw[<-HK.o];rfl,X.o,E⟩
  | true=>
   have ag:=Z (bg.o (λ_=>rfl) (by omega) (ae.o.1 rfl));have ao:=ar (by omega);subst ao;have cx:=E.cell (a1.o q (by rw[HN.o];omega));have f152:=f152 wr E (by omega);obtain⟨y,hy⟩:=Xq (x.getD q 0);rw[hy] at cx f152 ag;clear hy;go_wp2_with (first
    | (go_at_call 59;(with_reducible refine f152.o.mono ?_);rintro e w2 ⟨rfl,aq⟩))
   go_roundw
   case rel=>exact⟨q+1,_,_,by omega,rfl,rfl,by go_num,E.t aq,ag⟩
   simp[intOf];omega
 | true=>
  cases o2 with
  | false=>
   by_cases af:q=n
   ·subst af;obtain⟨k,G,H⟩:=an.o (λ_=>rfl) (.inl rfl);have HK:ϟ ((Â Φ (Mr best))=iv k):=Z (by have T:best=J k:=G;rw[T];rfl);have X:=Z H;clear G H ak;go_wp2;try rw[Exit.noGoto_ret]
    go_ret;exact⟨k,by rw[<-HK.o];rfl,X.o,E⟩
   have cg:¬ ((q:Int)=(n:Int)):=by omega
   cases bt with
   | false=>
    obtain⟨k,G,H⟩:=an.o (λ_=>rfl) (.inr λh=>by have:=ae.o.2 h;cases this);have HK:ϟ ((Â Φ (Mr best))=iv k):=Z (by have T:best=J k:=G;rw[T];rfl);have X:=Z H;clear G H;go_wp2;try rw[Exit.noGoto_ret]
    go_ret;exact⟨k,by rw[<-HK.o];rfl,X.o,E⟩
   | true=>
    have ag:=Z (bg.o (λ_=>rfl) (by omega) (ae.o.1 rfl));have ao:=ar (by omega);subst ao;have cx:=E.cell (a1.o q (by rw[HN.o];omega));have f152:=f152 wr E (by omega);obtain⟨y,hy⟩:=Xq (x.getD q 0);rw[hy] at cx f152 ag;clear hy;go_wp2_with (first
     | (go_at_call 59;(with_reducible refine f152.o.mono ?_);rintro e w2 ⟨rfl,aq⟩))
    go_roundw
    case rel=>exact⟨q+1,_,_,by omega,rfl,rfl,by go_num,E.t aq,ag⟩
    simp[intOf];omega
  | true=>
   cases lz with
   | true=>
    have X:=Z (UN HI.o (HC.o.1 rfl).1 (HC.o.1 rfl).2);go_wp2;try rw[Exit.noGoto_ret]
    go_ret;exact⟨q,rfl,X.o,E⟩
   | false=>
    by_cases af:q=n
    ·subst af;obtain⟨k,G,H⟩:=an.o (λh=>by cases h) (.inl rfl);have HK:ϟ ((Â Φ (q:Int))=iv k):=Z (by have T:J q=J k:=G;injection T with T;rw[T]);have X:=Z H;clear G H ak;go_wp2;try rw[Exit.noGoto_ret]
     go_ret;exact⟨k,by rw[<-HK.o];rfl,X.o,E⟩
    have cg:¬ ((q:Int)=(n:Int)):=by omega
    cases bt with
    | false=>
     obtain⟨k,G,H⟩:=an.o (λh=>by cases h) (.inr λh=>by have:=ae.o.2 h;cases this);have HK:ϟ ((Â Φ (q:Int))=iv k):=Z (by have T:J q=J k:=G;injection T with T;rw[T]);have X:=Z H;clear G H;go_wp2;try rw[Exit.noGoto_ret]
     go_ret;exact⟨k,by rw[<-HK.o];rfl,X.o,E⟩
    | true=>
     have ag:=Z (bg.o (λh=>by cases h) (by omega) (ae.o.1 rfl));have ao:=ar (by omega);subst ao;have cx:=E.cell (a1.o q (by rw[HN.o];omega));have f152:=f152 wr E (by omega);obtain⟨y,hy⟩:=Xq (x.getD q 0);rw[hy] at cx f152 ag;clear hy;go_wp2_with (first
      | (go_at_call 59;(with_reducible refine f152.o.mono ?_);rintro e w2 ⟨rfl,aq⟩))
     go_roundw
     case rel=>exact⟨q+1,_,_,by omega,rfl,rfl,by go_num,E.t aq,ag⟩
     simp[intOf];omega
abbrev uv (n:Nat):Δ:=.int ζ (n:Int)
theorem OB (f:Nat->Δ) (S:List Nat) (q:Nat):(S.map f).getD q (f 0)=f (S.getD q 0):=by rw[Ζ,Ζ,ν];cases S[q]?<;>rfl
theorem IntKind.wrap_i64_id {x:Int} (h0:-9223372036854775808<=x) (h1:x<9223372036854775808):Ü.wrap x=x:=by simp[IntKind.wrap,IntKind.bits,IntKind.signed];omega
theorem P5 (S s:Nat) (E:S<18446744073709551616):(bits BinOp.and ϯ ((S:Int) / 2 ^ s) 1==1)=S.testBit s:=by
 have G:(S:Int) / 2 ^ s=((S / 2 ^ s:Nat):Int):=by rw[Int.natCast_ediv];simp
 rw[G,Nat.testBit_eq_decide_div_mod_eq,show (1:Int)=((1:Nat):Int) from rfl,u64_and_nat _ _ (Nat.lt_of_le_of_lt (Nat.div_le_self _ _) E) (by decide)];generalize S / 2 ^ s=m;rw[Nat.and_one_is_mod,Ϸ];simp
 omega
def LvOut (W:Γ) (v:Δ) (d:Dfa) (L:Ag) (x:List UInt8) (n:Nat):Prop:=∃ S:List Nat,(∀ q,q<=n->Gc d L x q (S.getD q 0))/\Sl W v 1 (n+1) λq=>uv (S.getD q 0)
structure LvInv (d:Dfa) (L:Ag) (x:List UInt8) (n b s:Nat) (f:Nat->Bool) (S:List Nat):Prop where
 len:S.length=n+1
 done:∀ q,b<q->q<=n->Gc d L x q (S.getD q 0)
 todo:∀ q,q<b->S.getD q 0=0
 cur:S.getD b 0=Gb f s
theorem OM {d:Dfa} {L:Ag} {x:List UInt8} {n b s:Nat} {f:Nat->Bool} {S:List Nat} (h:LvInv d L x n b s f S) (hb:b<=n) (E:f s=Α):LvInv d L x n b (s+1) f (S.set b (S.getD b 0 ||| 2 ^ s)):=by
 have G:=h.len;refine⟨by rw[List.length_set];exact G,λq h1 H=>?_,λq T=>?_,?_⟩
 ·rw[Cf _ _ _ _ _ (by omega),if_neg (by omega)];exact h.done q h1 H
 ·rw[Cf _ _ _ _ _ (by omega),if_neg (by omega)];exact h.todo q T
 rw[Cf _ _ _ _ _ (by omega),if_pos rfl,h.cur];show _=if f s=Α then _ else _
 rw[if_pos E]
theorem ON {d:Dfa} {L:Ag} {x:List UInt8} {n b s:Nat} {f:Nat->Bool} {S:List Nat} (h:LvInv d L x n b s f S) (E:f s=Ε):LvInv d L x n b (s+1) f S:=by
 refine⟨h.len,h.done,h.todo,?_⟩;rw[h.cur];show _=if f s=Α then _ else _
 rw[E];simp
theorem OX (d:Dfa) (hv:Val d) (hn:d.n.length<=64) (L:Ag) (x:List UInt8) (dp:x.length<=1000000) (ok:List Bool) (cz:∀ q,q<=x.length->(ok.getD q Ε=Α↔L (x.drop q))) (g:Nat) (vb vl:Δ) (w:Γ) (hM:MachAt w g d) (hb:By w vb x)
  (hl:Sl w vl 1 (x.length+1) λq=>.bool (ok.getD q Ε)) :
  ϛ Η 51 #[ε (J ⟨g,0,I⟩),vb,vl] w λe w'=>∃ v,e=Ψ v/\LvOut w' v d L x x.length/\Ext w w':=by
 obtain⟨-,-,-,ba,oa,ca,-,h2,-,-,c5⟩:=hM.opened hv;obtain⟨ab,bb,ob,cb,rfl,c6,c7⟩:=hb.split;obtain⟨bl,ol,cl,rfl,c8⟩:=â hl (by omega);obtain⟨i0,hi,dr,dt,du⟩:=info_parts (show (Η.info? 89).map (λi=>(i.zero,i.size,i.bytes))=J (J (.int ζ 0),1,8) by kernel_rfl);have HM:=Z hM;have H2:=Z h2;have dx:=Z c5;have c9:=Z c7;have da:=Z (λq (hq:q<x.length+1)=>c8 q (by omega));have db:=Z cz;have HV:=Z hv;have b0:=Z c6;obtain⟨n,b4⟩:=Xq (x.length);have HN:=Z b4;rw[b4] at dp b0 da db ⊢;clear hM h2 c5 hb hl c7 c8 cz hv b4 c6;go_enter Tryz.func51,Tryz.ntmps51;go_upto_region 1 with (fail)
 go_upto_region 2 with (at_make;refine wpList_make_full _ rfl _ _ 117 rfl w.heap.size 89 i0 (.int ζ 0) 1 Tryz.underlying117 hi dr dt Φ Φ _ _ (n+1) (by push_cast;rfl) (by push_cast;rfl) rfl rfl (by rw[du];omega) (by unfold maxLen;omega) (Υ _) ?_;intro w2 dc dd)
 have de:=(Κ w).grown dd (λk e=>by cases e);have b5:w2.ownsRow w.heap.size 89 1 (U (J ⟨w.heap.size,0,I⟩) (n+1) (n+1)) (n+1) ((θ (n+1) 0).map uv):=by rw[<-B8];exact dc
 clear dc dd;obtain⟨go,bn⟩:=Xq (w.heap.size);rw[bn] at b5;simp only[bn];have b6:ϟ (w.heap.size=go):=Z bn;clear bn;go_wp2_with (fail);go_loopw [8] (λva W=>∃ (z:Int) (a:Nat) (S:List Nat),z+1=(a:Int)/\a<=n+1/\va=.int Φ z/\Ext w W/\W.ownsRow go 89 1 (U (J ⟨go,0,I⟩) (n+1) (n+1)) (n+1) (S.map uv)/\ϟ (S.length=n+1/\(∀ q,a<=q->q<=n->Gc d L x q (S.getD q 0))/\∀ q,q<a->S.getD q 0=0))
  (λva _=>(intOf va+1).toNat)
 case atStart=>exact⟨n,n+1,_,by push_cast;rfl,by omega,rfl,de,b5,Z ⟨by simp,λq h1 h2=>by omega,λq hq=>by simp[Ζ,hq]⟩⟩
 clear de b5;obtain⟨z,a,S,df,ha,rfl,E,G,HS⟩:=hrel;by_cases hz:z<0
 ·have ea:¬ (0:Int)<=z:=by omega
  have h0:a=0:=by omega
  have eb:=Z (λq (hq:q<=n)=>HS.o.2.1 q (by omega) hq);have ax:=HS.o.1;have ec:=Z (Sl.of_owns G (by omega) (uv 0));clear df ha h0;go_wp2;go_ret;exact⟨_,rfl,⟨S,eb.o,Sl.congr ec.o (λq _=>OB uv S q)⟩,E⟩
 obtain⟨b,rfl⟩:∃ b:Nat,z=b:=⟨z.toNat,by omega⟩;obtain rfl:a=b+1:=by omega
 have b8:b<=n:=by omega
 have ea:(0:Int)<=(b:Int):=by omega
 clear hz df ha;have c2:=E.cell H2.o;have b9:ϟ (LvInv d L x n b 0 (Lx d (λq=>ok.getD q Ε) x (S.getD (b+1) 0) b) S):=Z ⟨HS.o.1,λq h1 h2=>HS.o.2.1 q (by omega) h2,λq hq=>HS.o.2.2 q (by omega),HS.o.2.2 b (by omega)⟩;obtain⟨T,hT⟩:=Xq (S.getD (b+1) 0);have HT:ϟ (b<n->Gc d L x (b+1) T):=Z (λh=>by rw[<-hT];exact HS.o.2.1 (b+1) (by omega) (by omega));rw[hT] at b9;have ai:=Z hT;clear hT HS;go_upto_region 6 with (fail)
 clear c2;go_loopw [27] (λvs W=>∃ (s:Nat) (S':List Nat),s<=d.n.length/\vs=iv s/\Ext w W/\W.ownsRow go 89 1 (U (J ⟨go,0,I⟩) (n+1) (n+1)) (n+1) (S'.map uv)/\ϟ (LvInv d L x n b s (Lx d (λq=>ok.getD q Ε) x T b) S')/\ϟ (S'.getD (b+1) 0=T))
  (λvs _=>d.n.length-(intOf vs).toNat)
 case atStart=>exact⟨0,S,by omega,rfl,E,G,b9,ai⟩
 clear E G b9 ai;clear S;obtain⟨s,S,hs,rfl,E,G,HI,ai⟩:=hrel;by_cases bp:s<d.n.length
 ·have ed:s<64:=by omega
  have ca:=E.cell (dx.o s bp);have ax:=HI.o.len;have aa:=Z (show Lx d (λq=>ok.getD q Ε) x T b s=((d.ok s&&ok.getD b Ε)||(decide (b<x.length)&&T.testBit (d.stp s (x.getD b 0).toNat))) from rfl);have HY:=Z (OM HI.o b8);have br:=Z (ON HI.o);have dh:S.getD b 0<18446744073709551616:=by rw[HI.o.cur];exact Ξ (Tt _ s) (Ϲ (by omega) (show s<=64 by omega))
  have cl:=Aw (E.cell (da.o b (by omega)));have co:=Au 0 G ax.symm b (by rw[ax];omega);have dk:=Z (λ(h:b<n)=>Au 0 G ax.symm (b+1) (by rw[ax];omega));have ay:=Z (Ns (S.getD b 0) s dh ed);obtain⟨cu,cf⟩:=Xq (S.getD b 0);rw[cf] at HY ay co;have cg:=Z cf;clear cf dh;have cj:ϟ ((S.set b (cu ||| 2 ^ s)).getD (b+1) 0=T):=Z (by rw[Cf _ _ _ _ _ (by omega),if_neg (by omega)];exact ai.o);have f152:=λ(e:EW wr)=>Z (K3 d HV.o g s bp (x.getD b 0) e.W (HM.o.ext (E.t e.ext)))
  have af:=Z ax;clear ax co;obtain⟨o1,ck⟩:=Xq (d.ok s);obtain⟨o2,cm⟩:=Xq (ok.getD b Ε);rw[ck] at ca;rw[cm] at cl;rw[ck,cm] at aa;clear ck cm;have ey:(s:Int)<=64:=by omega
  have ez:(b:Int)<(n:Int)+1:=by omega
  have az:Ü.wrap ((b:Int)+1)=(b:Int)+1:=IntKind.wrap_i64_id (by omega) (by omega);have a1:(0:Int)<=(b:Int)+1:=by omega
  have a6:((b:Int)+1).toNat=b+1:=by omega
  go_upto_region 8 with (fail)
  clear ca;cases o1 with
  | false=>
   by_cases ak:b<n
   ·have cn:(b:Int)<(n:Int):=by omega
    have ef:(b:Int)+1<(n:Int)+1:=by omega
    have cp:=b0.o (by omega);subst cp;have cx:=Aw (E.cell (c9.o b (by rw[HN.o];omega)));have X:=dk.o ak;rw[ai.o] at X;replace X:wr.cell? ⟨go,b+1,I⟩=J (.int ζ (T:Int)):=X;have X:=Aw X;have bd:T<18446744073709551616:=Ξ (HT.o ak).1 (Ϲ (by omega) hn);obtain⟨y,hy⟩:=Xq (x.getD b 0);rw[hy,show decide (b<x.length)=Α by rw[HN.o];simpa using ak] at aa;rw[hy] at cx f152;clear hy;have hr:=HV.o.stp_lt bp y.toNat_lt;obtain⟨r,be⟩:=Xq (d.stp s y.toNat);rw[be] at hr aa f152;clear be;have eg:r<64:=by omega
    have eh:(r:Int)<=64:=by omega
    have bf:=P5 T r bd;obtain⟨bt,bg⟩:=Xq (T.testBit r);rw[bg] at bf aa;clear bg;have cv:(0:Int)<=(T:Int):=by omega
    have cw:(T:Int)<18446744073709551616:=by omega
    generalize (T:Int)=ei at X bf cv cw;clear bd;cases bt with
    | false=>
     refine B2 (by kernel_rfl) (by kernel_rfl) ?_;iterate 30 (with_reducible refine Ϧ (λK hK=>?_);go_simp;first|(refine hK _ ?_;clear hK K)|(apply Exists.intro;refine⟨λ_=>?_,hK _ ?_⟩;(with_reducible exact Ev (f152 _).o);clear hK K))
     refine ϵ ?_;rintro _ ⟨e,rfl⟩;have ad:=E.t e.ext;have H:=Aa G e.ext;clear f152 az a1 a6 cl cx X G E;generalize e.W=w5 at *;have ae:=Z (br.o (by rw[aa.o];rfl));go_wp2_with (fail);go_roundw
     case rel=>exact⟨s+1,S,by omega,by go_num,ad,H,ae,ai⟩
     simp[intOf];omega
    | true=>
     refine B2 (by kernel_rfl) (by kernel_rfl) ?_;iterate 30 (with_reducible refine Ϧ (λK hK=>?_);go_simp;first|(refine hK _ ?_;clear hK K)|(apply Exists.intro;refine⟨λ_=>?_,hK _ ?_⟩;(with_reducible exact Ev (f152 _).o);clear hK K))
     refine ϵ ?_;rintro _ ⟨e,rfl⟩;have ad:=E.t e.ext;have H:=Aa G e.ext;clear f152 az a1 a6 cl cx X G E;generalize e.W=w5 at *;have ae:=Z (HY.o (by rw[aa.o];rfl));have co:=Aw (Au 0 H af.o.symm b (by rw[af.o];omega));rw[cg.o] at co;go_upto_region 9 with (fail)
     refine Jk 8 (by kernel_rfl) (by kernel_rfl) ?_;simp only[ú,List.take_zero,Ä,ϰ];iterate 8 (with_reducible refine Ϧ (λK hK=>?_);go_simp;(refine hK _ ?_;clear hK K))
     refine ϵ ?_;rintro _ ⟨e2,rfl⟩;have bh:=ad.t e2.ext;have ah:=Aa H e2.ext;clear co H ad;generalize e2.W=w6 at *;have co:=Au 0 ah af.o.symm b (by rw[af.o];omega);have fo:=ah.frozenAt b;obtain⟨ar,au⟩:=Ba ah b (cu ||| 2 ^ s);have bj:=Z ar;have bk:=Z (bh.grown au (λk e=>by cases e;exact Ô b6.o));clear ar au;go_wp2_with (fail);go_roundw
     case rel=>exact⟨s+1,_,by omega,by go_num,by rw[ay.o];exact bk.o,by rw[ay.o];exact bj.o,ae,cj⟩
     simp[intOf];omega
   have cn:¬ ((b:Int)<(n:Int)):=by omega
   rw[show decide (b<x.length)=Ε by rw[HN.o];simpa using ak] at aa;refine B2 (by kernel_rfl) (by kernel_rfl) ?_;iterate 30 (with_reducible refine Ϧ (λK hK=>?_);go_simp;first|(refine hK _ ?_;clear hK K)|(apply Exists.intro;refine⟨λ_=>?_,hK _ ?_⟩;(with_reducible exact Ev (f152 _).o);clear hK K))
   refine ϵ ?_;rintro _ ⟨e,rfl⟩;have ad:=E.t e.ext;have H:=Aa G e.ext;clear f152 az a1 a6 cl G E;generalize e.W=w5 at *;have ae:=Z (br.o (by rw[aa.o];rfl));go_wp2_with (fail);go_roundw
   case rel=>exact⟨s+1,S,by omega,by go_num,ad,H,ae,ai⟩
   simp[intOf];omega
  | true=>
   cases o2 with
   | false=>
    by_cases ak:b<n
    ·have cn:(b:Int)<(n:Int):=by omega
     have ef:(b:Int)+1<(n:Int)+1:=by omega
     have cp:=b0.o (by omega);subst cp;have cx:=Aw (E.cell (c9.o b (by rw[HN.o];omega)));have X:=dk.o ak;rw[ai.o] at X;replace X:wr.cell? ⟨go,b+1,I⟩=J (.int ζ (T:Int)):=X;have X:=Aw X;have bd:T<18446744073709551616:=Ξ (HT.o ak).1 (Ϲ (by omega) hn);obtain⟨y,hy⟩:=Xq (x.getD b 0);rw[hy,show decide (b<x.length)=Α by rw[HN.o];simpa using ak] at aa;rw[hy] at cx f152;clear hy;have hr:=HV.o.stp_lt bp y.toNat_lt;obtain⟨r,be⟩:=Xq (d.stp s y.toNat);rw[be] at hr aa f152;clear be;have eg:r<64:=by omega
     have eh:(r:Int)<=64:=by omega
     have bf:=P5 T r bd;obtain⟨bt,bg⟩:=Xq (T.testBit r);rw[bg] at bf aa;clear bg;have cv:(0:Int)<=(T:Int):=by omega
     have cw:(T:Int)<18446744073709551616:=by omega
     generalize (T:Int)=ei at X bf cv cw;clear bd;cases bt with
     | false=>
      refine B2 (by kernel_rfl) (by kernel_rfl) ?_;iterate 30 (with_reducible refine Ϧ (λK hK=>?_);go_simp;first|(refine hK _ ?_;clear hK K)|(apply Exists.intro;refine⟨λ_=>?_,hK _ ?_⟩;(with_reducible exact Ev (f152 _).o);clear hK K))
      refine ϵ ?_;rintro _ ⟨e,rfl⟩;have ad:=E.t e.ext;have H:=Aa G e.ext;clear f152 az a1 a6 cl cx X G E;generalize e.W=w5 at *;have ae:=Z (br.o (by rw[aa.o];rfl));go_wp2_with (fail);go_roundw
      case rel=>exact⟨s+1,S,by omega,by go_num,ad,H,ae,ai⟩
      simp[intOf];omega
     | true=>
      refine B2 (by kernel_rfl) (by kernel_rfl) ?_;iterate 30 (with_reducible refine Ϧ (λK hK=>?_);go_simp;first|(refine hK _ ?_;clear hK K)|(apply Exists.intro;refine⟨λ_=>?_,hK _ ?_⟩;(with_reducible exact Ev (f152 _).o);clear hK K))
      refine ϵ ?_;rintro _ ⟨e,rfl⟩;have ad:=E.t e.ext;have H:=Aa G e.ext;clear f152 az a1 a6 cl cx X G E;generalize e.W=w5 at *;have ae:=Z (HY.o (by rw[aa.o];rfl));have co:=Aw (Au 0 H af.o.symm b (by rw[af.o];omega));rw[cg.o] at co;go_upto_region 9 with (fail)
      refine Jk 8 (by kernel_rfl) (by kernel_rfl) ?_;simp only[ú,List.take_zero,Ä,ϰ];iterate 8 (with_reducible refine Ϧ (λK hK=>?_);go_simp;(refine hK _ ?_;clear hK K))
      refine ϵ ?_;rintro _ ⟨e2,rfl⟩;have bh:=ad.t e2.ext;have ah:=Aa H e2.ext;clear co H ad;generalize e2.W=w6 at *;have co:=Au 0 ah af.o.symm b (by rw[af.o];omega);have fo:=ah.frozenAt b;obtain⟨ar,au⟩:=Ba ah b (cu ||| 2 ^ s);have bj:=Z ar;have bk:=Z (bh.grown au (λk e=>by cases e;exact Ô b6.o));clear ar au;go_wp2_with (fail);go_roundw
      case rel=>exact⟨s+1,_,by omega,by go_num,by rw[ay.o];exact bk.o,by rw[ay.o];exact bj.o,ae,cj⟩
      simp[intOf];omega
    have cn:¬ ((b:Int)<(n:Int)):=by omega
    rw[show decide (b<x.length)=Ε by rw[HN.o];simpa using ak] at aa;refine B2 (by kernel_rfl) (by kernel_rfl) ?_;iterate 30 (with_reducible refine Ϧ (λK hK=>?_);go_simp;first|(refine hK _ ?_;clear hK K)|(apply Exists.intro;refine⟨λ_=>?_,hK _ ?_⟩;(with_reducible exact Ev (f152 _).o);clear hK K))
    refine ϵ ?_;rintro _ ⟨e,rfl⟩;have ad:=E.t e.ext;have H:=Aa G e.ext;clear f152 az a1 a6 cl G E;generalize e.W=w5 at *;have ae:=Z (br.o (by rw[aa.o];rfl));go_wp2_with (fail);go_roundw
    case rel=>exact⟨s+1,S,by omega,by go_num,ad,H,ae,ai⟩
    simp[intOf];omega
   | true=>
    refine B2 (by kernel_rfl) (by kernel_rfl) ?_;iterate 30 (with_reducible refine Ϧ (λK hK=>?_);go_simp;first|(refine hK _ ?_;clear hK K)|(refine (if_neg (λh=>by simp[Ω] at h)).mpr ?_;refine hK _ ?_;clear hK K)|(apply Exists.intro;refine⟨λ_=>?_,hK _ ?_⟩;(with_reducible exact Ev (f152 _).o);clear hK K))
    refine ϵ ?_;rintro _ ⟨e,rfl⟩;have ad:=E.t e.ext;have H:=Aa G e.ext;clear f152 az a1 a6 cl G E;generalize e.W=w5 at *;have ae:=Z (HY.o (by rw[aa.o];rfl));have co:=Aw (Au 0 H af.o.symm b (by rw[af.o];omega));rw[cg.o] at co;go_upto_region 9 with (fail)
    refine Jk 8 (by kernel_rfl) (by kernel_rfl) ?_;simp only[ú,List.take_zero,Ä,ϰ];iterate 8 (with_reducible refine Ϧ (λK hK=>?_);go_simp;(refine hK _ ?_;clear hK K))
    refine ϵ ?_;rintro _ ⟨e2,rfl⟩;have bh:=ad.t e2.ext;have ah:=Aa H e2.ext;clear co H ad;generalize e2.W=w6 at *;have co:=Au 0 ah af.o.symm b (by rw[af.o];omega);have fo:=ah.frozenAt b;obtain⟨ar,au⟩:=Ba ah b (cu ||| 2 ^ s);have bj:=Z ar;have bk:=Z (bh.grown au (λk e=>by cases e;exact Ô b6.o));clear ar au;go_wp2_with (fail);go_roundw
    case rel=>exact⟨s+1,_,by omega,by go_num,by rw[ay.o];exact bk.o,by rw[ay.o];exact bj.o,ae,cj⟩
    simp[intOf];omega
 obtain rfl:s=d.n.length:=by omega
 have HD:ϟ (S.length=n+1/\(∀ q,b<=q->q<=n->Gc d L x q (S.getD q 0))/\∀ q,q<b->S.getD q 0=0):=Z ⟨HI.o.len,λq h1 h2=>by
  by_cases e:q=b
  ·subst e;rw[HI.o.cur];exact OW HV.o (by rw[HN.o];exact b8) (db.o _ b8) (λh=>HT.o (by rw[<-HN.o];exact h))
  exact HI.o.done q (by omega) h2,HI.o.todo⟩
 go_wp2;go_roundw
 case rel=>exact⟨(b:Int)-1,b,S,by omega,by omega,by go_num,E,G,HD⟩
 (simp[intOf];try omega)
theorem B7 {α:Type} {l:List α} {i:Nat} {v d:α} (h:i<l.length):(l.set i v).getD i d=v:=by rw[Ζ,List.getElem?_set_self h];rfl
theorem Be {α:Type} {l:List α} {i j:Nat} {v d:α} (h:j≠i):(l.set i v).getD j d=l.getD j d:=by rw[Ζ,List.getElem?_set_ne (Ne.symm h),<-Ζ]
structure NilX (W W':Γ):Prop where
 size:W.heap.size<=W'.heap.size
 cell:∀ a v,W.cell? a=J v->v≠U I 0 0->v≠ε I->W'.cell? a=J v
 mach:∀ (g:Nat) cs fr,W.heap[g]? = J (Obj.cells cs 162 fr)->W'.heap[g]? = J (Obj.cells cs 162 fr)
theorem NilX.refl (W:Γ):NilX W W:=⟨Υ _,λ_ _ h _ _=>h,λ_ _ _ h=>h⟩
theorem NilX.trans {A B C:Γ} (h:NilX A B) (k:NilX B C):NilX A C:=⟨μ h.size k.size,λa v h1 E G=>k.cell a v (h.cell a v h1 E G) E G,λg cs fr h1=>k.mach g cs fr (h.mach g cs fr h1)⟩
theorem NilX.of_ext {A B:Γ} (h:Ext A B):NilX A B:=⟨h.size,λ_ _ h1 _ _=>h.cell h1,λ_ _ _ h1=>h.heap h1⟩
theorem NilX.fresh {A W W':Γ} (h:NilX A W) {g:Nat} (hg:W.grownBy W' (J g)) (H:A.heap.size<=g):NilX A W':=by
 refine⟨μ h.size hg.size,λa v h1 E G=>?_,λk cs fr h1=>?_⟩
 ·refine hg.cell (h.cell a v h1 E G) λe=>?_
  injection e with e
  have:=Γ.block_lt_of_cell? A a h1;omega
 have:=Al h1;exact (hg.block k (Ξ this h.size) (λe=>by injection e with e;omega)).trans (h.mach k cs fr h1)
theorem NilX.set {A W:Γ} (h:NilX A W) {base g o n ab size:Nat} {v x:Δ} {xs:List Δ} {e:TypeId} (G:W.ownsRow base e size (U (J ⟨g,0,I⟩) n ab) n xs) (he:e≠162) (hx:W.cell? ⟨g,o,I⟩=J x) (ad:x=U I 0 0\/x=.pointer I):NilX A (W.setCell ⟨g,o,I⟩ v):=by
 have H:=(G.stored o v).2;refine h.trans ⟨H.size,λa u h1 h2 h3=>?_,λk cs aj h1=>?_⟩
 ·have e1:W.setCell ⟨g,o,I⟩ v=W.setCells g o [v]:=rfl;rw[e1,Γ.cell?_setCells_out]
  ·exact h1
  intro hb T;apply Ë;intro ah;have X:a.off=o:=by simp at ah;omega
  have ha:a=⟨g,o,I⟩:=by
   cases a
   simp at hb T X;subst hb T X;rfl
  subst ha;rw[hx] at h1;injection h1 with h1
  subst h1;rcases ad with e|e
  ·exact h2 e
  exact h3 e
 by_cases hk:k=g
 ·subst hk;rcases G.2 with⟨E,_⟩|⟨g',an,cur,E,_,hg,_⟩
  ·cases E
  injection E with E _ _
  injection E with E
  injection E with E _ _
  subst E;rw[hg] at h1;injection h1 with h1
  injection h1 with _ h1 _
  exact absurd h1 he
 exact (H.block k (Al h1) (λe=>hk (by injection e))).trans h1
theorem Sl.nilx {W W':Γ} {v:Δ} {k n:Nat} {f:Nat->Δ} (h:Sl W v k n f) (E:NilX W W') (G:∀ i,i<n*k->f i≠U I 0 0/\f i≠.pointer I):Sl W' v k n f:=by
 obtain⟨h1,h|⟨H,b,T,X,hv,hb,hc⟩⟩:=h
 ·exact⟨h1,.inl h⟩
 exact⟨h1,.inr ⟨H,b,T,X,hv,Ξ hb E.size,λi hi=>E.cell _ _ (hc i hi) (G i hi).1 (G i hi).2⟩⟩
theorem IsD.nilx {W W':Γ} {v:Δ} {d:Dfa} (G:Val d) (h:IsD W v d) (E:NilX W W'):IsD W' v d:=by
 obtain⟨vc,T,X,rfl,h1,⟨vs,aa,hN,H⟩,h3⟩:=h;refine⟨vc,T,X,rfl,Sl.nilx h1 E (λi _=>⟨λe=>(by cases e),λe=>(by cases e)⟩),⟨vs,aa,Sl.nilx hN E (λi hi=>?_),λi hi=>Sl.nilx (H i hi) E (λi _=>⟨λe=>(by cases e),λe=>(by cases e)⟩)⟩,Sl.nilx h3 E (λi _=>⟨λe=>(by cases e),λe=>(by cases e)⟩)⟩;have hi:i<d.n.length:=by simpa using hi
 obtain⟨b,af,ag,ae,_⟩:=â (H i hi) (by rw[G.row i hi];exact G.parts.pos);rw[ae];exact⟨λe=>(by cases e),λe=>(by cases e)⟩
theorem MachAt.nilx {W W':Γ} {g:Nat} {d:Dfa} (G:Val d) (h:MachAt W g d) (E:NilX W W'):MachAt W' g d:=by obtain⟨vc,H,T,h1,X⟩:=h;exact⟨vc,H,T,E.mach _ _ _ h1,X.nilx G E⟩
theorem LvOut.nilx {W W':Γ} {v:Δ} {d:Dfa} {L:Ag} {x:List UInt8} {n:Nat} (h:LvOut W v d L x n) (E:NilX W W'):LvOut W' v d L x n:=by obtain⟨S,h1,G⟩:=h;exact⟨S,h1,Sl.nilx G E (λi _=>⟨λe=>(by cases e),λe=>(by cases e)⟩)⟩
def LatAt (W:Γ) (v:Δ) (L:Ag) (x:List UInt8):Prop:=∃ ok:List Bool,(∀ q,q<=x.length->(ok.getD q Ε=Α↔L (x.drop q)))/\Sl W v 1 (x.length+1) λq=>.bool (ok.getD q Ε)
theorem LatAt.nilx {W W':Γ} {v:Δ} {L:Ag} {x:List UInt8} (h:LatAt W v L x) (E:NilX W W'):LatAt W' v L x:=by obtain⟨ok,h1,G⟩:=h;exact⟨ok,h1,Sl.nilx G E (λi _=>⟨λe=>(by cases e),λe=>(by cases e)⟩)⟩
structure MtInv (W:Γ) (ds:List Dfa) (x:List UInt8) (M Lt Lv:List Δ) (k:Nat):Prop where
 m:∀ j,k<=j->j<ds.length->∃ g,M.getD j Ω=ε (J ⟨g,0,I⟩)/\MachAt W g (ds.getD j dN)
 l:∀ j,k<=j->j<=ds.length->LatAt W (Lt.getD j Ω) (Bp (ds.drop j)) x
 v:∀ j,k<=j->j<ds.length->LvOut W (Lv.getD j Ω) (ds.getD j dN) (Bp (ds.drop (j+1))) x x.length
 m0:∀ j,j<k->j<ds.length->M.getD j Ω=ε I
 l0:∀ j,j<k->j<=ds.length->Lt.getD j Ω=U I 0 0
 v0:∀ j,j<k->j<ds.length->Lv.getD j Ω=U I 0 0
theorem MtInv.nilx {W W':Γ} {ds:List Dfa} {x:List UInt8} {M Lt Lv:List Δ} {k:Nat} (h:MtInv W ds x M Lt Lv k) (hd:okD ds) (G:NilX W W'):MtInv W' ds x M Lt Lv k where
 m:=λj h1 E=>by obtain⟨g,e,hm⟩:=h.m j h1 E;exact⟨g,e,hm.nilx (hd j E).1 G⟩
 l:=λj h1 E=>(h.l j h1 E).nilx G
 v:=λj h1 E=>(h.v j h1 E).nilx G
 m0:=h.m0
 l0:=h.l0
 v0:=h.v0
theorem MtInv.step {W:Γ} {ds:List Dfa} {x:List UInt8} {M Lt Lv:List Δ} {k:Nat} (h:MtInv W ds x M Lt Lv (k+1)) (hk:k<ds.length) (hM:M.length=ds.length) (ad:Lt.length=ds.length+1) (ae:Lv.length=ds.length)
  {g:Nat} (h1:MachAt W g (ds.getD k dN)) {H T:Δ} (X:LatAt W H (Bp (ds.drop k)) x) (h3:LvOut W T (ds.getD k dN) (Bp (ds.drop (k+1))) x x.length) :
  MtInv W ds x (M.set k (ε (J ⟨g,0,I⟩))) (Lt.set k H) (Lv.set k T) k where
 m:=λj G E=>by
  by_cases e:j=k
  ·subst e;exact⟨g,by rw[B7 (by omega)],h1⟩
  rw[Be e];exact h.m j (by omega) E
 l:=λj G E=>by
  by_cases e:j=k
  ·subst e;rw[B7 (by omega)];exact X
  rw[Be e];exact h.l j (by omega) E
 v:=λj G E=>by
  by_cases e:j=k
  ·subst e;rw[B7 (by omega)];exact h3
  rw[Be e];exact h.v j (by omega) E
 m0:=λj G E=>by rw[Be (by omega)];exact h.m0 j (by omega) E
 l0:=λj G E=>by rw[Be (by omega)];exact h.l0 j (by omega) E
 v0:=λj G E=>by rw[Be (by omega)];exact h.v0 j (by omega) E
def arK (k:Nat):Nat:=if k=4\/k=5\/k=6 then 2 else if k=7\/k=8 then 1 else 0
theorem CY (k:Nat) (G:1<=k) (H:k<=8) (w:Γ):ϛ Η 71 #[iv k] w λe w'=>e=Ψ (iv (arK k))/\w'=w:=by
 have E:k=1\/k=2\/k=3\/k=4\/k=5\/k=6\/k=7\/k=8:=by omega
 rcases E with rfl|rfl|rfl|rfl|rfl|rfl|rfl|rfl<;>
 ·go_enter Tryz.func71,Tryz.ntmps71;go_wp2;go_ret;exact⟨rfl,rfl⟩
theorem Zb (x i g:Nat) (hx:x<i) (W:Γ) (hc:W.cell? ⟨g,0,I⟩=J (iv i)) :
  ϛ Η 94 #[iv x,ε (J ⟨g,0,I⟩)] W λe w'=>e=Ψ (.bool Α)/\w'=W:=by
 have h0:(0:Int)<=(x:Int):=by omega
 have h1:(x:Int)<(i:Int):=by omega
 go_enter Tryz.func94,Tryz.ntmps94;go_wp2;go_ret;exact⟨rfl,rfl⟩
structure VNode (k l r:Nat) (c:Cls) (mn:Nat) (mx:Int) (i:Nat):Prop where
 k1:1<=k
 k8:k<=8
 l1:0<arK k->l<i
 l0:arK k=0->l=0
 r1:1<arK k->r<i
 r0:arK k<2->r=0
 c0:k≠3->c=0#256
 m0:k≠8->mn=0/\mx=0
 m8:k=8->mn<=16/\mx<=16/\-1<=mx/\(mx≠-1->(mn:Int)<=mx)
theorem WC (k l r:Nat) (c:Cls) (mn:Nat) (mx:Int) (i:Nat) (h:VNode k l r c mn mx i) (w:Γ) :
  ϛ Η 70 #[.agg (rnA k l r c mn mx),iv i] w λe w'=>e=Ψ (.int Φ 0)/\Ext w w':=by
 obtain⟨k1,k8,l1,l0,r1,r0,c0,m0,m8⟩:=h;have ae:=((Κ w).alloc (Β (rnA k l r c mn mx) 96)).alloc (Β #[iv i] 3);have X:=Ah (Ad w (Β (rnA k l r c mn mx) 96)) (Β #[iv i] 3);have H3:=ϒ w (Β (rnA k l r c mn mx) 96) (Β #[iv i] 3);have f116:=λW=>Z (CY k k1 k8 W)
 have az:=enters_of Tryz.func94 (by kernel_rfl) rfl;have ao:k=1\/k=2\/k=3\/k=4\/k=5\/k=6\/k=7\/k=8:=by omega
 go_enter Tryz.func70,Tryz.ntmps70;go_upto_region 1 with (fail)
 obtain⟨w1,ag⟩:=Xq ((w.alloc (Β (rnA k l r c mn mx) 96)).alloc (Β #[iv i] 3));have aj:(w.alloc (Β (rnA k l r c mn mx) 96)).alloc (Β #[.int Φ (i:Int)] 3)=w1:=ag;rw[ag] at ae X H3;simp only[aj];clear ag aj;have q0:=(Τ w1 _ 0 _ _ _ X).trans (show (rnA k l r c mn mx)[0]? = J (iv k) from rfl);have q5:=(Τ w1 _ 5 _ _ _ X).trans (show (rnA k l r c mn mx)[5]? = J (iv l) from rfl);have q6:=(Τ w1 _ 6 _ _ _ X).trans (show (rnA k l r c mn mx)[6]? = J (iv r) from rfl);have q7:=(Τ w1 _ 7 _ _ _ X).trans (show (rnA k l r c mn mx)[7]? = J (iv mn) from rfl);have q8:=(Τ w1 _ 8 _ _ _ X).trans (show (rnA k l r c mn mx)[8]? = J (.int Φ mx) from rfl);have qi:=(Τ w1 _ 0 _ _ _ H3).trans (show (#[iv i]:Array Δ)[0]? = J (iv i) from rfl);have an:w1.rangeAt w.heap.size 1 [.int ζ (wd c 0),.int ζ (wd c 1),.int ζ (wd c 2),.int ζ (wd c 3)]:=λj v G=>by
  rw[Τ w1 _ _ _ _ _ X]
  match j,G with
  | 0,G=>exact G
  | 1,G=>exact G
  | 2,G=>exact G
  | 3,G=>exact G
 have H:=Z an;have T:=Z ae;have HL:=Z (λhl:l<i=>Zb l i (w.heap.size+1) hl w1 qi);have ah:=Z (λhr:r<i=>Zb r i (w.heap.size+1) hr w1 qi);have HZ:=Z (λhc:c=0#256=>On c Α (by rw[hc];rfl));have g3:=Ma;clear X H3 an ae;rcases ao with rfl|rfl|rfl|rfl|rfl|rfl|rfl|rfl
 ·obtain rfl:=l0 rfl;obtain rfl:=r0 (by decide);have hz:=HZ.o (c0 (by decide));obtain⟨rfl,rfl⟩:=m0 (by decide);clear k1 k8 l1 l0 r1 r0 c0 m0 m8;go_wp2_with (first
   | (go_at_call 71;(with_reducible refine (f116 _).o.mono ?_);rintro e W' ⟨rfl,rfl⟩)
   | (refine Ep rfl (wp_load_mid 91 (δ 57) rfl _ 1 rfl _ _ H.o ϋ rfl (F8 _ _ _ _) ?_)))
  go_ret;exact⟨rfl,T.o⟩
 ·obtain rfl:=l0 rfl;obtain rfl:=r0 (by decide);have hz:=HZ.o (c0 (by decide));obtain⟨rfl,rfl⟩:=m0 (by decide);clear k1 k8 l1 l0 r1 r0 c0 m0 m8;go_wp2_with (first
   | (go_at_call 71;(with_reducible refine (f116 _).o.mono ?_);rintro e W' ⟨rfl,rfl⟩)
   | (refine Ep rfl (wp_load_mid 91 (δ 57) rfl _ 1 rfl _ _ H.o ϋ rfl (F8 _ _ _ _) ?_)))
  go_ret;exact⟨rfl,T.o⟩
 ·obtain rfl:=l0 rfl;obtain rfl:=r0 (by decide);obtain⟨rfl,rfl⟩:=m0 (by decide);clear k1 k8 l1 l0 r1 r0 c0 m0 m8;go_wp2_with (first
   | (go_at_call 71;(with_reducible refine (f116 _).o.mono ?_);rintro e W' ⟨rfl,rfl⟩)
   | (refine Ep rfl (wp_load_mid 91 (δ 57) rfl _ 1 rfl _ _ H.o ϋ rfl (F8 _ _ _ _) ?_)))
  go_ret;exact⟨rfl,T.o⟩
 ·have E:=Z (HL.o (l1 (by decide)));have fr:=Z (ah.o (r1 (by decide)));have hz:=HZ.o (c0 (by decide));obtain⟨rfl,rfl⟩:=m0 (by decide);clear k1 k8 l1 l0 r1 r0 c0 m0 m8;go_wp2_with (first
   | (go_at_call 71;(with_reducible refine (f116 _).o.mono ?_);rintro e W' ⟨rfl,rfl⟩)
   | (go_at_call 94;(with_reducible refine E.o.mono ?_);rintro e W' ⟨rfl,rfl⟩)
   | (go_at_call 94;(with_reducible refine fr.o.mono ?_);rintro e W' ⟨rfl,rfl⟩)
   | (refine Ep rfl (wp_load_mid 91 (δ 57) rfl _ 1 rfl _ _ H.o ϋ rfl (F8 _ _ _ _) ?_)))
  go_ret;exact⟨rfl,T.o⟩
 ·have E:=Z (HL.o (l1 (by decide)));have fr:=Z (ah.o (r1 (by decide)));have hz:=HZ.o (c0 (by decide));obtain⟨rfl,rfl⟩:=m0 (by decide);clear k1 k8 l1 l0 r1 r0 c0 m0 m8;go_wp2_with (first
   | (go_at_call 71;(with_reducible refine (f116 _).o.mono ?_);rintro e W' ⟨rfl,rfl⟩)
   | (go_at_call 94;(with_reducible refine E.o.mono ?_);rintro e W' ⟨rfl,rfl⟩)
   | (go_at_call 94;(with_reducible refine fr.o.mono ?_);rintro e W' ⟨rfl,rfl⟩)
   | (refine Ep rfl (wp_load_mid 91 (δ 57) rfl _ 1 rfl _ _ H.o ϋ rfl (F8 _ _ _ _) ?_)))
  go_ret;exact⟨rfl,T.o⟩
 ·have E:=Z (HL.o (l1 (by decide)));have fr:=Z (ah.o (r1 (by decide)));have hz:=HZ.o (c0 (by decide));obtain⟨rfl,rfl⟩:=m0 (by decide);clear k1 k8 l1 l0 r1 r0 c0 m0 m8;go_wp2_with (first
   | (go_at_call 71;(with_reducible refine (f116 _).o.mono ?_);rintro e W' ⟨rfl,rfl⟩)
   | (go_at_call 94;(with_reducible refine E.o.mono ?_);rintro e W' ⟨rfl,rfl⟩)
   | (go_at_call 94;(with_reducible refine fr.o.mono ?_);rintro e W' ⟨rfl,rfl⟩)
   | (refine Ep rfl (wp_load_mid 91 (δ 57) rfl _ 1 rfl _ _ H.o ϋ rfl (F8 _ _ _ _) ?_)))
  go_ret;exact⟨rfl,T.o⟩
 ·have E:=Z (HL.o (l1 (by decide)));obtain rfl:=r0 (by decide);have hz:=HZ.o (c0 (by decide));obtain⟨rfl,rfl⟩:=m0 (by decide);clear k1 k8 l1 l0 r1 r0 c0 m0 m8;go_wp2_with (first
   | (go_at_call 71;(with_reducible refine (f116 _).o.mono ?_);rintro e W' ⟨rfl,rfl⟩)
   | (go_at_call 94;(with_reducible refine E.o.mono ?_);rintro e W' ⟨rfl,rfl⟩)
   | (refine Ep rfl (wp_load_mid 91 (δ 57) rfl _ 1 rfl _ _ H.o ϋ rfl (F8 _ _ _ _) ?_)))
  go_ret;exact⟨rfl,T.o⟩
 have E:=Z (HL.o (l1 (by decide)));obtain rfl:=r0 (by decide);have hz:=HZ.o (c0 (by decide));obtain⟨m1,m2,m3,m4⟩:=m8 rfl;clear k1 k8 l1 l0 r1 r0 c0 m0 m8;have n1:¬ (mn:Int)<0:=by omega
 have n2:¬ mx < -1:=by omega
 have n3:¬ (16:Int)<(mn:Int):=by omega
 have n4:¬ (16:Int)<mx:=by omega
 by_cases hm:mx=-1
 ·subst hm;clear m2 m3 m4 n2 n4;go_wp2_with (first
   | (go_at_call 71;(with_reducible refine (f116 _).o.mono ?_);rintro e W' ⟨rfl,rfl⟩)
   | (go_at_call 94;(with_reducible refine E.o.mono ?_);rintro e W' ⟨rfl,rfl⟩)
   | (refine Ep rfl (wp_load_mid 91 (δ 57) rfl _ 1 rfl _ _ H.o ϋ rfl (F8 _ _ _ _) ?_)))
  go_ret;exact⟨rfl,T.o⟩
 have n5:¬ mx<(mn:Int):=by have:=m4 hm;omega
 have n6:(mx != -1)=Α:=by simp[hm]
 clear m4;go_wp2_with (first
  | (go_at_call 71;(with_reducible refine (f116 _).o.mono ?_);rintro e W' ⟨rfl,rfl⟩)
  | (go_at_call 94;(with_reducible refine E.o.mono ?_);rintro e W' ⟨rfl,rfl⟩)
  | (refine Ep rfl (wp_load_mid 91 (δ 57) rfl _ 1 rfl _ _ H.o ϋ rfl (F8 _ _ _ _) ?_)))
 go_ret;exact⟨rfl,T.o⟩
end Go.Proofs.YtilncahcpjlfnaaGreatDoor
