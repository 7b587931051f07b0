import Derived.Test.YtilncahcpjlfnaaGreatDoorN06
import Derived.Great.FillDense
import Derived.Great.BuildSlice
import Derived.Test.YtilncahcpjlfnaaGreatDoorN01
import Derived.Test.YtilncahcpjlfnaaGreatDoorN02
import Derived.Test.YtilncahcpjlfnaaGreatDoorN03
import Derived.WalkMore
import Derived.Test.YtilncahcpjlfnaaGreatDoorN05
set_option linter.unusedVariables false
set_option linter.unusedSimpArgs false
set_option maxRecDepth 100000
set_option maxHeartbeats 8000000
open Bool renaming true → Α, false → Ε, eq_iff_iff → ϴ, false_eq_true → Í, or_eq_true → Ô, and_eq_true → ς
open Classical renaming byContradiction → Å
open Go renaming Value → Δ, World → Γ, Calls → Ϟ, heap_alloc2_new → ύ, cell_of_row → Τ, bodyPost_ret → ω, setRow_heap → Φ, wpList_load_mid → é, info_parts → ϑ, wpList_make_full → Ϛ, wpQuiet_step → Á, wpQuiet_nil → Ë
open Go.Act renaming put → θ
open Go.Ending renaming returned → Ω
open Go.IntKind renaming i64 → Χ, u64 → γ, i64 → å, u64 → ϩ
open Go.Lib renaming hid → Z
open Go.Obj renaming cells → Β
open Go.Operand renaming tmp → ε
open Go.Proofs.Tryz renaming prog → Ι, underlying40 → Ρ, underlying91 → ϋ, underlying96 → Ò
open Go.RowKit renaming Hid → ϟ
open Go.Value renaming slice → U, tuple → ϙ, pointer → η, int → ϲ
open List renaming setIfInBounds_toArray → Η, set_cons_zero → Μ, set_cons_succ → Λ, getD_eq_getElem?_getD → Ζ, getElem?_eq_getElem → Θ, range → π, ext_getElem? → Ϩ, getElem?_set → Ó, getElem?_map → υ, getElem?_range → ü, length_cons → ϒ, replicate → ζ, length_take → Ï, length_append → Ν, length_singleton → Ϥ, getElem?_eq_some_iff → ν, drop_eq_getElem_cons → ϱ, getElem?_toArray → Ϸ, mem_map → Ϫ, getElem?_eq_none → û, getElem?_cons_succ → ϻ, length_eq_zero_iff → ϵ, getElem_mem → ϯ, pairwise_iff_getElem → Ϧ, take_succ_cons → î, drop_succ_cons → ϸ, drop_zero → À
open Nat renaming lt_of_lt_of_le → Ξ, le_refl → Υ, le_of_eq → Ñ, zero_add → Ϣ, le_trans → μ, pow_le_pow_right → ϳ
open Option renaming some → I, none → J
namespace Go.Proofs.YtilncahcpjlfnaaGreatDoor
open Go.RowKit Go.Shelf
def rnA (k l r:Nat) (c:Cls) (mn:Nat) (mx:Int):Array Δ:=#[iv k,.int γ (wd c 0),.int γ (wd c 1),.int γ (wd c 2),.int γ (wd c 3),iv l,iv r,iv mn,.int Χ mx]
def DsAt (W:Γ) (b o:Nat) (ds:List Dfa):Prop:=∀ i,i<ds.length->∃ E G H,W.rangeAt b (o+i*3) [E,G,H]/\IsD W (.agg #[E,G,H]) (ds.getD i dN)
theorem DsAt.ext {W W':Γ} {b o:Nat} {ds:List Dfa} (h:DsAt W b o ds) (E:Ext W W'):DsAt W' b o ds:=λi hi=>by obtain⟨G,H,T,h1,X⟩:=h i hi;exact⟨G,H,T,λj v hj=>E.cell (h1 j v hj),X.ext E⟩
theorem Xz:(Ι.info? 96).map (·.size)=I 9:=by kernel_rfl
theorem Dg (E G H:Δ):(Ι.info? 40).map (·.size)=I [E,G,H].length:=by kernel_rfl
theorem F0 (E G H T:Δ):(Ι.info? 91).map (·.size)=I [E,G,H,T].length:=by kernel_rfl
theorem Uv {d:Dfa} (hd:Val d) (ad:d.n.length<=64) {H:Nat} {hi:Int} {r:Option Dfa} (h:E3 d H hi r) (q:Dfa) (hq:r=I q):Val q/\q.n.length<=64:=by
 subst hq;obtain⟨e,he,p,h1,E⟩:=h;have ae:=Ia (show Fit e (λw=>w=[]) from he);cases p with
 | none=>cases (show I q=J from E)
 | some p=>
  obtain⟨T,X⟩:=Ks H e p he.1.val (by omega) h1;unfold Ek at E;simp only at E;by_cases c1:hi=H
  ·rw[if_pos c1] at E;injection E with E
   subst E;exact⟨T,X⟩
  rw[if_neg c1] at E;by_cases c2:hi<0
  ·rw[if_pos c2] at E;obtain⟨s,h3,G⟩:=E;cases s with
   | none=>cases (show I q=J from G)
   | some s=>exact Im (show Cx p s (I q) from G) q rfl
  rw[if_neg c2] at E;obtain⟨s,h3,G⟩:=E;cases s with
  | none=>cases (show I q=J from G)
  | some s=>exact Ks _ p q T X (show Dn p s _ (I q) from G)
def okD (ds:List Dfa):Prop:=∀ i,i<ds.length->Val (ds.getD i dN)/\(ds.getD i dN).n.length<=64
theorem KL (k l r:Nat) (c:Cls) (mn:Nat) (mx:Int) (ds:List Dfa) (hg:(RNode.mk k l r c mn mx).good ds.length) (cw:mn<=16) (cy:mx=-1\/(mn:Int)<=mx) (cz:mx<=16) (cp:okD ds) (b o N c3:Nat) (hN:ds.length<=N) (de:N<=200) (w:Γ) (hT:Tab w) (bl:0<w.heap.size) (ct:DsAt w b o ds) :
  Ϟ Ι 41 #[.agg (rnA k l r c mn mx),U (I ⟨b,o,J⟩) N c3] w λe w'=>∃ q,ResOf w' e q/\Fw (RNode.mk k l r c mn mx) ds q/\Ext w w':=by
 have b5:=Z (λW (E:Ext w W)=>hT.below E.below bl);have bm:=Z cp;have bn:=Z ct;have cl:=((Κ w).alloc (Β (rnA k l r c mn mx) 96)).alloc (Β #[U J 0 0,U J 0 0,U J 0 0] 40);have H2:=Ag (Ad w (Β (rnA k l r c mn mx) 96)) (Β #[U J 0 0,U J 0 0,U J 0 0] 40);have G:=ύ w (Β (rnA k l r c mn mx) 96) (Β #[U J 0 0,U J 0 0,U J 0 0] 40);obtain⟨g1,g2,g3,g4,g5⟩:=hg;simp only at g1 g2 g3 g4 g5;have f117:=λW (E:Ext w W)=>Z (V7 W (b5.o W E) (Ξ bl E.size))
 have f45:=λW (E:Ext w W)=>Z (Ma [] (by simp) _ W (Z9 W))
 have f118:=λW (E:Ext w W)=>Z (MV c W (b5.o W E) (Ξ bl E.size))
 clear hT cp ct;go_enter Tryz.func41,Tryz.ntmps41;go_upto_region 1 with (fail)
 obtain⟨w1,cn⟩:=Xq ((w.alloc (Β (rnA k l r c mn mx) 96)).alloc (Β #[U J 0 0,U J 0 0,U J 0 0] 40));rw[cn] at cl H2 G;simp only[cn];clear cn;have bg:=Z (λ(W:Γ) (E:W.heap[w.heap.size]? = I (Β (rnA k l r c mn mx) 96 (0,0)))=>(⟨(Τ W _ 0 _ _ _ E).trans rfl,(Τ W _ 5 _ _ _ E).trans rfl,(Τ W _ 6 _ _ _ E).trans rfl,(Τ W _ 7 _ _ _ E).trans rfl,(Τ W _ 8 _ _ _ E).trans rfl⟩:W.cell? ⟨w.heap.size,0,J⟩=I (iv k)/\W.cell? ⟨w.heap.size,5,J⟩=I (iv l)/\W.cell? ⟨w.heap.size,6,J⟩=I (iv r)/\W.cell? ⟨w.heap.size,7,J⟩=I (iv mn)/\W.cell? ⟨w.heap.size,8,J⟩=I (.int Χ mx)))
 have cu:w1.rangeAt w.heap.size 1 [.int γ (wd c 0),.int γ (wd c 1),.int γ (wd c 2),.int γ (wd c 3)]:=λj v hj=>by
  rw[Τ w1 _ _ _ _ _ H2]
  match j,hj with
  | 0,hj=>exact hj
  | 1,hj=>exact hj
  | 2,hj=>exact hj
  | 3,hj=>exact hj
 have db:=Z cu;have H2:=Z H2;have G:=Z G;have au:=Z cl;clear cl cu;have hk:=(bg.o w1 H2.o).1;have dc:k=1\/k=2\/k=3\/k=4\/k=5\/k=6\/k=7\/k=8:=by omega
 rcases dc with rfl|rfl|rfl|rfl|rfl|rfl|rfl|rfl
 ·go_wp2_with (first
  | (go_at_call 72;(with_reducible refine (f117 _ au.o).o.mono ?_);rintro e w2 ⟨re,X,bb,bc,T⟩;obtain⟨aa,ab,ad,ae,af,ag,ah,ai,aj,k1,rfl⟩:=X.form;have ax:=Z X;have bd:=Z bb;have b6:=Z bc;have an:=Z (au.o.t T);have G:=Z (T.heap G.o);clear X bb bc T)
  | (refine Sr 40 (ε 4) (ε 11) rfl G.o Ae rfl (Aw _ _ _ rfl rfl rfl) ?_))
  refine ω (v:=ϙ #[.agg (dA (U aa ab ad) (U ae af ag) (U ah ai aj)),.int Χ k1]) (Bi rfl _ _ _ _ _ _ _ rfl _ rfl (Φ w2 _ _ (dA (U aa ab ad) (U ae af ag) (U ah ai aj)) 40 (0,0) G.o) Ρ rfl Ae) rfl ?_;refine⟨I re,ax.o.setRow (λd' h=>by injection h with h;subst h;exact bd.o.val) G.o _,?_,an.o.setRow (by omega) _⟩;show E4 _ _;exact⟨re,rfl,bd.o,λu=>by rw[b6.o];simp⟩
 ·go_wp2_with (first
  | (go_at_call 16;(with_reducible refine (f45 _ au.o).o.mono ?_);rintro e w2 ⟨re,X,bb,bc,T⟩;obtain⟨aa,ab,ad,ae,af,ag,ah,ai,aj,k1,rfl⟩:=X.form;have ax:=Z X;have bd:=Z bb;have b6:=Z bc;have an:=Z (au.o.t T);have G:=Z (T.heap G.o);clear X bb bc T)
  | (refine Sr 40 (ε 4) (ε 16) rfl G.o Ae rfl (Aw _ _ _ rfl rfl rfl) ?_))
  refine ω (v:=ϙ #[.agg (dA (U aa ab ad) (U ae af ag) (U ah ai aj)),.int Χ k1]) (Bi rfl _ _ _ _ _ _ _ rfl _ rfl (Φ w2 _ _ (dA (U aa ab ad) (U ae af ag) (U ah ai aj)) 40 (0,0) G.o) Ρ rfl Ae) rfl ?_;refine⟨I re,ax.o.setRow (λd' h=>by injection h with h;subst h;exact bd.o.val) G.o _,?_,an.o.setRow (by omega) _⟩;show E4 _ _;exact⟨re,rfl,bd.o,b6.o⟩
 ·go_wp2_with (first
  | (refine é rfl 91 (ε 20) rfl _ 1 rfl _ _ db.o ϋ rfl (F0 _ _ _ _) ?_)
  | (go_at_call 73;(with_reducible refine (f118 _ au.o).o.mono ?_);rintro e w2 ⟨re,X,bb,bc,T⟩;obtain⟨aa,ab,ad,ae,af,ag,ah,ai,aj,k1,rfl⟩:=X.form;have ax:=Z X;have bd:=Z bb;have b6:=Z bc;have an:=Z (au.o.t T);have G:=Z (T.heap G.o);clear X bb bc T)
  | (refine Sr 40 (ε 4) (ε 23) rfl G.o Ae rfl (Aw _ _ _ rfl rfl rfl) ?_))
  refine ω (v:=ϙ #[.agg (dA (U aa ab ad) (U ae af ag) (U ah ai aj)),.int Χ k1]) (Bi rfl _ _ _ _ _ _ _ rfl _ rfl (Φ w2 _ _ (dA (U aa ab ad) (U ae af ag) (U ah ai aj)) 40 (0,0) G.o) Ρ rfl Ae) rfl ?_;refine⟨I re,ax.o.setRow (λd' h=>by injection h with h;subst h;exact bd.o.val) G.o _,?_,an.o.setRow (by omega) _⟩;show E4 _ _;exact⟨re,rfl,bd.o,b6.o⟩
 ·obtain⟨a6,bo⟩:=g1 (by simp);obtain⟨x1,x2,x3,a7,a8⟩:=bn.o l a6;obtain⟨y1,y2,y3,bt,bu⟩:=bn.o r bo;obtain⟨bh,bj⟩:=bm.o l a6;obtain⟨cc,cd⟩:=bm.o r bo;have ck:l<N:=by omega
  have cv:r<N:=by omega
  have bk:=Z (λ(W:Γ) (E:Ext w W) j v hj=>E.cell (a7 j v hj));have cf:=Z (λ(W:Γ) (E:Ext w W) j v hj=>E.cell (bt j v hj));have fc:=λW (E:Ext w W)=>Z (Lp (ds.getD l dN) (ds.getD r dN) bh cc bj cd _ _ W (b5.o W E) (Ξ bl E.size) (a8.ext E) (bu.ext E))
  clear a7 bt a8 bu;go_upto_region 9 with (fail)
  clear hk;refine Bq 14 [(0,Α),(1,Α),(2,Α),(3,Α),(4,Α),(5,Α),(6,Α),(7,Α),(8,Α),(9,Α),(10,Ε),(11,Α),(12,Α),(13,Ε),(14,Ε)] (by kernel_rfl) (by kernel_rfl) (λ_ _ _ _ h=>h)
   (λV=>Ext w V/\V.heap[w.heap.size]? = I (Β (rnA 4 l r c mn mx) 96 (0,0))) ⟨au.o.t (Κ w1).drew,(Κ w1).drew.heap H2.o⟩ ?_
  have ao:Ext w w1.drew/\w1.drew.heap[w.heap.size]? = I (Β (rnA 4 l r c mn mx) 96 (0,0)):=⟨au.o.t (Κ w1).drew,(Κ w1).drew.heap H2.o⟩;have ay:=(Κ w1).drew.heap G.o;obtain⟨wy,az⟩:=Xq (w1.drew);rw[az] at ao ay;rw[az];clear az;iterate 4
   refine Ai (v:=?_) rfl rfl (λV H=>?_) ?_
   rotate_left
   ·obtain⟨c0,c5,c6,c7,c8⟩:=bg.o V H.2;clear H;go_simp;first|done|with_reducible rfl
   simp only[θ,Η,Μ,Λ]
  refine Ai (v:=.agg #[x1,x2,x3]) rfl rfl (λV H=>?_) ?_
  ·exact Cj 40 (ε 30) rfl b (o+l*3) rfl _ _ (bk.o V H.1) Ρ rfl (Dg _ _ _)
  simp only[θ,Η,Μ,Λ];iterate 4
   refine Ai (v:=?_) rfl rfl (λV H=>?_) ?_
   rotate_left
   ·obtain⟨c0,c5,c6,c7,c8⟩:=bg.o V H.2;clear H;go_simp;first|done|with_reducible rfl
   simp only[θ,Η,Μ,Λ]
  refine Ai (v:=.agg #[y1,y2,y3]) rfl rfl (λV H=>?_) ?_
  ·exact Cj 40 (ε 35) rfl b (o+r*3) rfl _ _ (cf.o V H.1) Ρ rfl (Dg _ _ _)
  simp only[θ,Η,Μ,Λ];refine Ao rfl (λKk hK=>?_);go_simp
  (with_reducible refine (fc wy ao.1).o.mono ?_)
  rintro e w2 ⟨re,X,hrel,T⟩;obtain⟨aa,ab,ad,ae,af,ag,ah,ai,aj,k1,rfl⟩:=X.form;have G:=Z (T.heap ay);have ax:=Z X;have be:=Z hrel;have an:=Z (ao.1.trans T);have bf:=Z (T.heap ao.2);clear X hrel fc ay;refine hK _ _ (λ_=>⟨an.o,bf.o⟩) ?_;clear hK Kk;refine Ai (v:=.agg (dA (U aa ab ad) (U ae af ag) (U ah ai aj))) rfl rfl (λV _=>?_) ?_
  ·go_simp
  simp only[θ,Η,Μ,Λ];refine Ai (v:=.int Χ k1) rfl rfl (λV _=>?_) ?_
  ·go_simp
  simp only[θ,Η,Μ,Λ];refine Ao rfl (λKk hK=>?_);refine Hu 40 (ε 4) (ε 38) rfl rfl _ _ rfl rfl _ _ G.o Ae rfl (Aw _ _ _ rfl rfl rfl) ?_;refine hK _ _ (λ_=>⟨an.o.setRow (show w.heap.size<=w.heap.size+1 by omega) _,Bk bf.o (show w.heap.size≠w.heap.size+1 by omega) _⟩) ?_;clear hK Kk;refine Ao rfl (λKk hK=>?_);go_simp;refine hK _ _ (λh=>absurd h (by omega)) ?_;clear hK Kk;refine Bn ?_;clear ao T;go_wp2;refine ω (v:=ϙ #[.agg (dA (U aa ab ad) (U ae af ag) (U ah ai aj)),.int Χ k1]) (Bi rfl _ _ _ _ _ _ _ rfl _ rfl (Φ w2 _ _ (dA (U aa ab ad) (U ae af ag) (U ah ai aj)) 40 (0,0) G.o) Ρ rfl Ae) rfl ?_;refine⟨re,ax.o.setRow (λd' h=>(Im be.o d' h).1) G.o _,?_,an.o.setRow (by omega) _⟩;exact be.o
 ·obtain⟨a6,bo⟩:=g1 (by simp);obtain⟨x1,x2,x3,a7,a8⟩:=bn.o l a6;obtain⟨y1,y2,y3,bt,bu⟩:=bn.o r bo;obtain⟨bh,bj⟩:=bm.o l a6;obtain⟨cc,cd⟩:=bm.o r bo;have ck:l<N:=by omega
  have cv:r<N:=by omega
  have bk:=Z (λ(W:Γ) (E:Ext w W) j v hj=>E.cell (a7 j v hj));have cf:=Z (λ(W:Γ) (E:Ext w W) j v hj=>E.cell (bt j v hj));have fc:=λW (E:Ext w W)=>Z (Pp (ds.getD l dN) (ds.getD r dN) bh cc bj cd _ _ W (b5.o W E) (Ξ bl E.size) (a8.ext E) (bu.ext E))
  clear a7 bt a8 bu;go_upto_region 11 with (fail)
  clear hk;refine Bq 14 [(0,Α),(1,Α),(2,Α),(3,Α),(4,Α),(5,Α),(6,Α),(7,Α),(8,Α),(9,Α),(10,Ε),(11,Α),(12,Α),(13,Ε),(14,Ε)] (by kernel_rfl) (by kernel_rfl) (λ_ _ _ _ h=>h)
   (λV=>Ext w V/\V.heap[w.heap.size]? = I (Β (rnA 5 l r c mn mx) 96 (0,0))) ⟨au.o.t (Κ w1).drew,(Κ w1).drew.heap H2.o⟩ ?_
  have ao:Ext w w1.drew/\w1.drew.heap[w.heap.size]? = I (Β (rnA 5 l r c mn mx) 96 (0,0)):=⟨au.o.t (Κ w1).drew,(Κ w1).drew.heap H2.o⟩;have ay:=(Κ w1).drew.heap G.o;obtain⟨wy,az⟩:=Xq (w1.drew);rw[az] at ao ay;rw[az];clear az;iterate 4
   refine Ai (v:=?_) rfl rfl (λV H=>?_) ?_
   rotate_left
   ·obtain⟨c0,c5,c6,c7,c8⟩:=bg.o V H.2;clear H;go_simp;first|done|with_reducible rfl
   simp only[θ,Η,Μ,Λ]
  refine Ai (v:=.agg #[x1,x2,x3]) rfl rfl (λV H=>?_) ?_
  ·exact Cj 40 (ε 45) rfl b (o+l*3) rfl _ _ (bk.o V H.1) Ρ rfl (Dg _ _ _)
  simp only[θ,Η,Μ,Λ];iterate 4
   refine Ai (v:=?_) rfl rfl (λV H=>?_) ?_
   rotate_left
   ·obtain⟨c0,c5,c6,c7,c8⟩:=bg.o V H.2;clear H;go_simp;first|done|with_reducible rfl
   simp only[θ,Η,Μ,Λ]
  refine Ai (v:=.agg #[y1,y2,y3]) rfl rfl (λV H=>?_) ?_
  ·exact Cj 40 (ε 50) rfl b (o+r*3) rfl _ _ (cf.o V H.1) Ρ rfl (Dg _ _ _)
  simp only[θ,Η,Μ,Λ];refine Ao rfl (λKk hK=>?_);go_simp
  (with_reducible refine (fc wy ao.1).o.mono ?_)
  rintro e w2 ⟨re,X,hrel,T⟩;obtain⟨aa,ab,ad,ae,af,ag,ah,ai,aj,k1,rfl⟩:=X.form;have G:=Z (T.heap ay);have ax:=Z X;have be:=Z hrel;have an:=Z (ao.1.trans T);have bf:=Z (T.heap ao.2);clear X hrel fc ay;refine hK _ _ (λ_=>⟨an.o,bf.o⟩) ?_;clear hK Kk;refine Ai (v:=.agg (dA (U aa ab ad) (U ae af ag) (U ah ai aj))) rfl rfl (λV _=>?_) ?_
  ·go_simp
  simp only[θ,Η,Μ,Λ];refine Ai (v:=.int Χ k1) rfl rfl (λV _=>?_) ?_
  ·go_simp
  simp only[θ,Η,Μ,Λ];refine Ao rfl (λKk hK=>?_);refine Hu 40 (ε 4) (ε 53) rfl rfl _ _ rfl rfl _ _ G.o Ae rfl (Aw _ _ _ rfl rfl rfl) ?_;refine hK _ _ (λ_=>⟨an.o.setRow (show w.heap.size<=w.heap.size+1 by omega) _,Bk bf.o (show w.heap.size≠w.heap.size+1 by omega) _⟩) ?_;clear hK Kk;refine Ao rfl (λKk hK=>?_);go_simp;refine hK _ _ (λh=>absurd h (by omega)) ?_;clear hK Kk;refine Bn ?_;clear ao T;go_wp2;refine ω (v:=ϙ #[.agg (dA (U aa ab ad) (U ae af ag) (U ah ai aj)),.int Χ k1]) (Bi rfl _ _ _ _ _ _ _ rfl _ rfl (Φ w2 _ _ (dA (U aa ab ad) (U ae af ag) (U ah ai aj)) 40 (0,0) G.o) Ρ rfl Ae) rfl ?_;refine⟨re,ax.o.setRow (Hb be.o) G.o _,?_,an.o.setRow (by omega) _⟩;exact be.o
 ·obtain⟨a6,bo⟩:=g1 (by simp);obtain⟨x1,x2,x3,a7,a8⟩:=bn.o l a6;obtain⟨y1,y2,y3,bt,bu⟩:=bn.o r bo;obtain⟨bh,bj⟩:=bm.o l a6;obtain⟨cc,cd⟩:=bm.o r bo;have ck:l<N:=by omega
  have cv:r<N:=by omega
  have bk:=Z (λ(W:Γ) (E:Ext w W) j v hj=>E.cell (a7 j v hj));have cf:=Z (λ(W:Γ) (E:Ext w W) j v hj=>E.cell (bt j v hj));have fc:=λW (E:Ext w W)=>Z (WA (ds.getD l dN) (ds.getD r dN) bh cc bj cd _ _ W (b5.o W E) (Ξ bl E.size) (a8.ext E) (bu.ext E))
  clear a7 bt a8 bu;go_upto_region 13 with (fail)
  clear hk;refine Bq 14 [(0,Α),(1,Α),(2,Α),(3,Α),(4,Α),(5,Α),(6,Α),(7,Α),(8,Α),(9,Α),(10,Ε),(11,Α),(12,Α),(13,Ε),(14,Ε)] (by kernel_rfl) (by kernel_rfl) (λ_ _ _ _ h=>h)
   (λV=>Ext w V/\V.heap[w.heap.size]? = I (Β (rnA 6 l r c mn mx) 96 (0,0))) ⟨au.o.t (Κ w1).drew,(Κ w1).drew.heap H2.o⟩ ?_
  have ao:Ext w w1.drew/\w1.drew.heap[w.heap.size]? = I (Β (rnA 6 l r c mn mx) 96 (0,0)):=⟨au.o.t (Κ w1).drew,(Κ w1).drew.heap H2.o⟩;have ay:=(Κ w1).drew.heap G.o;obtain⟨wy,az⟩:=Xq (w1.drew);rw[az] at ao ay;rw[az];clear az;iterate 4
   refine Ai (v:=?_) rfl rfl (λV H=>?_) ?_
   rotate_left
   ·obtain⟨c0,c5,c6,c7,c8⟩:=bg.o V H.2;clear H;go_simp;first|done|with_reducible rfl
   simp only[θ,Η,Μ,Λ]
  refine Ai (v:=.agg #[x1,x2,x3]) rfl rfl (λV H=>?_) ?_
  ·exact Cj 40 (ε 60) rfl b (o+l*3) rfl _ _ (bk.o V H.1) Ρ rfl (Dg _ _ _)
  simp only[θ,Η,Μ,Λ];iterate 4
   refine Ai (v:=?_) rfl rfl (λV H=>?_) ?_
   rotate_left
   ·obtain⟨c0,c5,c6,c7,c8⟩:=bg.o V H.2;clear H;go_simp;first|done|with_reducible rfl
   simp only[θ,Η,Μ,Λ]
  refine Ai (v:=.agg #[y1,y2,y3]) rfl rfl (λV H=>?_) ?_
  ·exact Cj 40 (ε 65) rfl b (o+r*3) rfl _ _ (cf.o V H.1) Ρ rfl (Dg _ _ _)
  simp only[θ,Η,Μ,Λ];refine Ao rfl (λKk hK=>?_);go_simp
  (with_reducible refine (fc wy ao.1).o.mono ?_)
  rintro e w2 ⟨re,X,hrel,T⟩;obtain⟨aa,ab,ad,ae,af,ag,ah,ai,aj,k1,rfl⟩:=X.form;have G:=Z (T.heap ay);have ax:=Z X;have be:=Z hrel;have an:=Z (ao.1.trans T);have bf:=Z (T.heap ao.2);clear X hrel fc ay;refine hK _ _ (λ_=>⟨an.o,bf.o⟩) ?_;clear hK Kk;refine Ai (v:=.agg (dA (U aa ab ad) (U ae af ag) (U ah ai aj))) rfl rfl (λV _=>?_) ?_
  ·go_simp
  simp only[θ,Η,Μ,Λ];refine Ai (v:=.int Χ k1) rfl rfl (λV _=>?_) ?_
  ·go_simp
  simp only[θ,Η,Μ,Λ];refine Ao rfl (λKk hK=>?_);refine Hu 40 (ε 4) (ε 68) rfl rfl _ _ rfl rfl _ _ G.o Ae rfl (Aw _ _ _ rfl rfl rfl) ?_;refine hK _ _ (λ_=>⟨an.o.setRow (show w.heap.size<=w.heap.size+1 by omega) _,Bk bf.o (show w.heap.size≠w.heap.size+1 by omega) _⟩) ?_;clear hK Kk;refine Ao rfl (λKk hK=>?_);go_simp;refine hK _ _ (λh=>absurd h (by omega)) ?_;clear hK Kk;refine Bn ?_;clear ao T;go_wp2;refine ω (v:=ϙ #[.agg (dA (U aa ab ad) (U ae af ag) (U ah ai aj)),.int Χ k1]) (Bi rfl _ _ _ _ _ _ _ rfl _ rfl (Φ w2 _ _ (dA (U aa ab ad) (U ae af ag) (U ah ai aj)) 40 (0,0) G.o) Ρ rfl Ae) rfl ?_;refine⟨re,ax.o.setRow (Hb be.o) G.o _,?_,an.o.setRow (by omega) _⟩;exact be.o
 ·have a6:=g2 (by simp);obtain⟨x1,x2,x3,a7,a8⟩:=bn.o l a6;obtain⟨bh,bj⟩:=bm.o l a6;have ck:l<N:=by omega
  have bk:=Z (λ(W:Γ) (E:Ext w W) j v hj=>E.cell (a7 j v hj));have fc:=λW (E:Ext w W)=>Z (KB (ds.getD l dN) bh bj _ W (b5.o W E) (Ξ bl E.size) (a8.ext E))
  obtain⟨c0,c5,c6,c7,c8⟩:=bg.o w1 H2.o;clear a7 a8;go_wp2_with (first
   | (refine é rfl 40 (ε 75) rfl b (o+l*3) rfl _ _ (bk.o w1 au.o) Ρ rfl (Dg _ _ _) ?_)
   | (go_at_call 75;(with_reducible refine (fc _ au.o).o.mono ?_);rintro e w2 ⟨re,X,bb,bc,T⟩;obtain⟨aa,ab,ad,ae,af,ag,ah,ai,aj,k1,rfl⟩:=X.form;have ax:=Z X;have bd:=Z bb;have b6:=Z bc;have an:=Z (au.o.t T);have G:=Z (T.heap G.o);clear X bb bc T)
   | (refine Sr 40 (ε 4) (ε 78) rfl G.o Ae rfl (Aw _ _ _ rfl rfl rfl) ?_))
  refine ω (v:=ϙ #[.agg (dA (U aa ab ad) (U ae af ag) (U ah ai aj)),.int Χ k1]) (Bi rfl _ _ _ _ _ _ _ rfl _ rfl (Φ w2 _ _ (dA (U aa ab ad) (U ae af ag) (U ah ai aj)) 40 (0,0) G.o) Ρ rfl Ae) rfl ?_;refine⟨I re,ax.o.setRow (λd' h=>by injection h with h;subst h;exact bd.o.val) G.o _,?_,an.o.setRow (by omega) _⟩;show E4 _ _;exact⟨re,rfl,bd.o,λu=>by rw[b6.o];simp⟩
 have a6:=g2 (by simp);obtain⟨x1,x2,x3,a7,a8⟩:=bn.o l a6;obtain⟨bh,bj⟩:=bm.o l a6;have ck:l<N:=by omega
 have bk:=Z (λ(W:Γ) (E:Ext w W) j v hj=>E.cell (a7 j v hj));have fc:=λW (E:Ext w W)=>Z (GM (ds.getD l dN) bh bj mn cw mx cy cz _ W (b5.o W E) (Ξ bl E.size) (a8.ext E))
 clear a7 a8;go_upto_region 16 with (fail)
 clear hk;refine Bq 13 [(0,Α),(1,Α),(2,Α),(3,Α),(4,Α),(5,Α),(6,Α),(7,Α),(8,Α),(9,Ε),(10,Α),(11,Α),(12,Ε),(13,Ε)] (by kernel_rfl) (by kernel_rfl) (λ_ _ _ _ h=>h)
  (λV=>Ext w V/\V.heap[w.heap.size]? = I (Β (rnA 8 l r c mn mx) 96 (0,0))) ⟨au.o.t (Κ w1).drew,(Κ w1).drew.heap H2.o⟩ ?_
 have ao:Ext w w1.drew/\w1.drew.heap[w.heap.size]? = I (Β (rnA 8 l r c mn mx) 96 (0,0)):=⟨au.o.t (Κ w1).drew,(Κ w1).drew.heap H2.o⟩;have ay:=(Κ w1).drew.heap G.o;obtain⟨wy,az⟩:=Xq (w1.drew);rw[az] at ao ay;rw[az];clear az;iterate 4
  refine Ai (v:=?_) rfl rfl (λV H=>?_) ?_
  rotate_left
  ·obtain⟨c0,c5,c6,c7,c8⟩:=bg.o V H.2;clear H;go_simp;first|done|with_reducible rfl
  simp only[θ,Η,Μ,Λ]
 refine Ai (v:=.agg #[x1,x2,x3]) rfl rfl (λV H=>?_) ?_
 ·exact Cj 40 (ε 83) rfl b (o+l*3) rfl _ _ (bk.o V H.1) Ρ rfl (Dg _ _ _)
 simp only[θ,Η,Μ,Λ];iterate 4
  refine Ai (v:=?_) rfl rfl (λV H=>?_) ?_
  rotate_left
  ·obtain⟨c0,c5,c6,c7,c8⟩:=bg.o V H.2;clear H;go_simp;first|done|with_reducible rfl
  simp only[θ,Η,Μ,Λ]
 refine Ao rfl (λKk hK=>?_);go_simp
 (with_reducible refine (fc wy ao.1).o.mono ?_)
 rintro e w2 ⟨re,X,hrel,T⟩;obtain⟨aa,ab,ad,ae,af,ag,ah,ai,aj,k1,rfl⟩:=X.form;have G:=Z (T.heap ay);have ax:=Z X;have be:=Z hrel;have an:=Z (ao.1.trans T);have bf:=Z (T.heap ao.2);clear X hrel fc ay;refine hK _ _ (λ_=>⟨an.o,bf.o⟩) ?_;clear hK Kk;refine Ai (v:=.agg (dA (U aa ab ad) (U ae af ag) (U ah ai aj))) rfl rfl (λV _=>?_) ?_
 ·go_simp
 simp only[θ,Η,Μ,Λ];refine Ai (v:=.int Χ k1) rfl rfl (λV _=>?_) ?_
 ·go_simp
 simp only[θ,Η,Μ,Λ];refine Ao rfl (λKk hK=>?_);refine Hu 40 (ε 4) (ε 90) rfl rfl _ _ rfl rfl _ _ G.o Ae rfl (Aw _ _ _ rfl rfl rfl) ?_;refine hK _ _ (λ_=>⟨an.o.setRow (show w.heap.size<=w.heap.size+1 by omega) _,Bk bf.o (show w.heap.size≠w.heap.size+1 by omega) _⟩) ?_;clear hK Kk;refine Ao rfl (λKk hK=>?_);go_simp;refine hK _ _ (λh=>absurd h (by omega)) ?_;clear hK Kk;refine Bn ?_;clear ao T;go_wp2;refine ω (v:=ϙ #[.agg (dA (U aa ab ad) (U ae af ag) (U ah ai aj)),.int Χ k1]) (Bi rfl _ _ _ _ _ _ _ rfl _ rfl (Φ w2 _ _ (dA (U aa ab ad) (U ae af ag) (U ah ai aj)) 40 (0,0) G.o) Ρ rfl Ae) rfl ?_;refine⟨re,ax.o.setRow (λd' h=>(Uv bh bj (be.o) d' h).1) G.o _,be.o,an.o.setRow (by omega) _⟩
def arK (k:Nat):Nat:=if k=4\/k=5\/k=6 then 2 else if k=7\/k=8 then 1 else 0
theorem AZ (k:Nat) (G:1<=k) (H:k<=8) (w:Γ):Ϟ Ι 71 #[iv k] w λe w'=>e=Ω (iv (arK k))/\w'=w:=by
 have E:k=1\/k=2\/k=3\/k=4\/k=5\/k=6\/k=7\/k=8:=by omega
 rcases E with rfl|rfl|rfl|rfl|rfl|rfl|rfl|rfl<;>
 ·go_enter Tryz.func71,Tryz.ntmps71;go_wp2;go_ret;exact⟨rfl,rfl⟩
theorem Xy (x i g:Nat) (hx:x<i) (W:Γ) (hc:W.cell? ⟨g,0,J⟩=I (iv i)) :
  Ϟ Ι 94 #[iv x,η (I ⟨g,0,J⟩)] W λe w'=>e=Ω (.bool Α)/\w'=W:=by
 have h0:(0:Int)<=(x:Int):=by omega
 have h1:(x:Int)<(i:Int):=by omega
 go_enter Tryz.func94,Tryz.ntmps94;go_wp2;go_ret;exact⟨rfl,rfl⟩
structure VNode (k l r:Nat) (c:Cls) (mn:Nat) (mx:Int) (i:Nat):Prop where
 k1:1<=k
 k8:k<=8
 l1:0<arK k->l<i
 l0:arK k=0->l=0
 r1:1<arK k->r<i
 r0:arK k<2->r=0
 c0:k≠3->c=0#256
 m0:k≠8->mn=0/\mx=0
 m8:k=8->mn<=16/\mx<=16/\-1<=mx/\(mx≠-1->(mn:Int)<=mx)
theorem TE (k l r:Nat) (c:Cls) (mn:Nat) (mx:Int) (i:Nat) (h:VNode k l r c mn mx i) (w:Γ) :
  Ϟ Ι 70 #[.agg (rnA k l r c mn mx),iv i] w λe w'=>e=Ω (.int Χ 0)/\Ext w w':=by
 obtain⟨k1,k8,l1,l0,r1,r0,c0,m0,m8⟩:=h;have ae:=((Κ w).alloc (Β (rnA k l r c mn mx) 96)).alloc (Β #[iv i] 3);have X:=Ag (Ad w (Β (rnA k l r c mn mx) 96)) (Β #[iv i] 3);have H3:=ύ w (Β (rnA k l r c mn mx) 96) (Β #[iv i] 3);have f116:=λW=>Z (AZ k k1 k8 W)
 have az:=enters_of Tryz.func94 (by kernel_rfl) rfl;have ao:k=1\/k=2\/k=3\/k=4\/k=5\/k=6\/k=7\/k=8:=by omega
 go_enter Tryz.func70,Tryz.ntmps70;go_upto_region 1 with (fail)
 obtain⟨w1,ag⟩:=Xq ((w.alloc (Β (rnA k l r c mn mx) 96)).alloc (Β #[iv i] 3));have aj:(w.alloc (Β (rnA k l r c mn mx) 96)).alloc (Β #[.int Χ (i:Int)] 3)=w1:=ag;rw[ag] at ae X H3;simp only[aj];clear ag aj;have q0:=(Τ w1 _ 0 _ _ _ X).trans (show (rnA k l r c mn mx)[0]? = I (iv k) from rfl);have q5:=(Τ w1 _ 5 _ _ _ X).trans (show (rnA k l r c mn mx)[5]? = I (iv l) from rfl);have q6:=(Τ w1 _ 6 _ _ _ X).trans (show (rnA k l r c mn mx)[6]? = I (iv r) from rfl);have q7:=(Τ w1 _ 7 _ _ _ X).trans (show (rnA k l r c mn mx)[7]? = I (iv mn) from rfl);have q8:=(Τ w1 _ 8 _ _ _ X).trans (show (rnA k l r c mn mx)[8]? = I (.int Χ mx) from rfl);have qi:=(Τ w1 _ 0 _ _ _ H3).trans (show (#[iv i]:Array Δ)[0]? = I (iv i) from rfl);have an:w1.rangeAt w.heap.size 1 [.int γ (wd c 0),.int γ (wd c 1),.int γ (wd c 2),.int γ (wd c 3)]:=λj v G=>by
  rw[Τ w1 _ _ _ _ _ X]
  match j,G with
  | 0,G=>exact G
  | 1,G=>exact G
  | 2,G=>exact G
  | 3,G=>exact G
 have H:=Z an;have T:=Z ae;have HL:=Z (λhl:l<i=>Xy l i (w.heap.size+1) hl w1 qi);have ah:=Z (λhr:r<i=>Xy r i (w.heap.size+1) hr w1 qi);have HZ:=Z (λhc:c=0#256=>Nn c Α (by rw[hc];rfl));have g3:=Lj;clear X H3 an ae;rcases ao with rfl|rfl|rfl|rfl|rfl|rfl|rfl|rfl
 ·obtain rfl:=l0 rfl;obtain rfl:=r0 (by decide);have hz:=HZ.o (c0 (by decide));obtain⟨rfl,rfl⟩:=m0 (by decide);clear k1 k8 l1 l0 r1 r0 c0 m0 m8;go_wp2_with (first
   | (go_at_call 71;(with_reducible refine (f116 _).o.mono ?_);rintro e W' ⟨rfl,rfl⟩)
   | (refine El rfl (wp_load_mid 91 (ε 57) rfl _ 1 rfl _ _ H.o ϋ rfl (F0 _ _ _ _) ?_)))
  go_ret;exact⟨rfl,T.o⟩
 ·obtain rfl:=l0 rfl;obtain rfl:=r0 (by decide);have hz:=HZ.o (c0 (by decide));obtain⟨rfl,rfl⟩:=m0 (by decide);clear k1 k8 l1 l0 r1 r0 c0 m0 m8;go_wp2_with (first
   | (go_at_call 71;(with_reducible refine (f116 _).o.mono ?_);rintro e W' ⟨rfl,rfl⟩)
   | (refine El rfl (wp_load_mid 91 (ε 57) rfl _ 1 rfl _ _ H.o ϋ rfl (F0 _ _ _ _) ?_)))
  go_ret;exact⟨rfl,T.o⟩
 ·obtain rfl:=l0 rfl;obtain rfl:=r0 (by decide);obtain⟨rfl,rfl⟩:=m0 (by decide);clear k1 k8 l1 l0 r1 r0 c0 m0 m8;go_wp2_with (first
   | (go_at_call 71;(with_reducible refine (f116 _).o.mono ?_);rintro e W' ⟨rfl,rfl⟩)
   | (refine El rfl (wp_load_mid 91 (ε 57) rfl _ 1 rfl _ _ H.o ϋ rfl (F0 _ _ _ _) ?_)))
  go_ret;exact⟨rfl,T.o⟩
 ·have E:=Z (HL.o (l1 (by decide)));have fr:=Z (ah.o (r1 (by decide)));have hz:=HZ.o (c0 (by decide));obtain⟨rfl,rfl⟩:=m0 (by decide);clear k1 k8 l1 l0 r1 r0 c0 m0 m8;go_wp2_with (first
   | (go_at_call 71;(with_reducible refine (f116 _).o.mono ?_);rintro e W' ⟨rfl,rfl⟩)
   | (go_at_call 94;(with_reducible refine E.o.mono ?_);rintro e W' ⟨rfl,rfl⟩)
   | (go_at_call 94;(with_reducible refine fr.o.mono ?_);rintro e W' ⟨rfl,rfl⟩)
   | (refine El rfl (wp_load_mid 91 (ε 57) rfl _ 1 rfl _ _ H.o ϋ rfl (F0 _ _ _ _) ?_)))
  go_ret;exact⟨rfl,T.o⟩
 ·have E:=Z (HL.o (l1 (by decide)));have fr:=Z (ah.o (r1 (by decide)));have hz:=HZ.o (c0 (by decide));obtain⟨rfl,rfl⟩:=m0 (by decide);clear k1 k8 l1 l0 r1 r0 c0 m0 m8;go_wp2_with (first
   | (go_at_call 71;(with_reducible refine (f116 _).o.mono ?_);rintro e W' ⟨rfl,rfl⟩)
   | (go_at_call 94;(with_reducible refine E.o.mono ?_);rintro e W' ⟨rfl,rfl⟩)
   | (go_at_call 94;(with_reducible refine fr.o.mono ?_);rintro e W' ⟨rfl,rfl⟩)
   | (refine El rfl (wp_load_mid 91 (ε 57) rfl _ 1 rfl _ _ H.o ϋ rfl (F0 _ _ _ _) ?_)))
  go_ret;exact⟨rfl,T.o⟩
 ·have E:=Z (HL.o (l1 (by decide)));have fr:=Z (ah.o (r1 (by decide)));have hz:=HZ.o (c0 (by decide));obtain⟨rfl,rfl⟩:=m0 (by decide);clear k1 k8 l1 l0 r1 r0 c0 m0 m8;go_wp2_with (first
   | (go_at_call 71;(with_reducible refine (f116 _).o.mono ?_);rintro e W' ⟨rfl,rfl⟩)
   | (go_at_call 94;(with_reducible refine E.o.mono ?_);rintro e W' ⟨rfl,rfl⟩)
   | (go_at_call 94;(with_reducible refine fr.o.mono ?_);rintro e W' ⟨rfl,rfl⟩)
   | (refine El rfl (wp_load_mid 91 (ε 57) rfl _ 1 rfl _ _ H.o ϋ rfl (F0 _ _ _ _) ?_)))
  go_ret;exact⟨rfl,T.o⟩
 ·have E:=Z (HL.o (l1 (by decide)));obtain rfl:=r0 (by decide);have hz:=HZ.o (c0 (by decide));obtain⟨rfl,rfl⟩:=m0 (by decide);clear k1 k8 l1 l0 r1 r0 c0 m0 m8;go_wp2_with (first
   | (go_at_call 71;(with_reducible refine (f116 _).o.mono ?_);rintro e W' ⟨rfl,rfl⟩)
   | (go_at_call 94;(with_reducible refine E.o.mono ?_);rintro e W' ⟨rfl,rfl⟩)
   | (refine El rfl (wp_load_mid 91 (ε 57) rfl _ 1 rfl _ _ H.o ϋ rfl (F0 _ _ _ _) ?_)))
  go_ret;exact⟨rfl,T.o⟩
 have E:=Z (HL.o (l1 (by decide)));obtain rfl:=r0 (by decide);have hz:=HZ.o (c0 (by decide));obtain⟨m1,m2,m3,m4⟩:=m8 rfl;clear k1 k8 l1 l0 r1 r0 c0 m0 m8;have n1:¬ (mn:Int)<0:=by omega
 have n2:¬ mx < -1:=by omega
 have n3:¬ (16:Int)<(mn:Int):=by omega
 have n4:¬ (16:Int)<mx:=by omega
 by_cases hm:mx=-1
 ·subst hm;clear m2 m3 m4 n2 n4;go_wp2_with (first
   | (go_at_call 71;(with_reducible refine (f116 _).o.mono ?_);rintro e W' ⟨rfl,rfl⟩)
   | (go_at_call 94;(with_reducible refine E.o.mono ?_);rintro e W' ⟨rfl,rfl⟩)
   | (refine El rfl (wp_load_mid 91 (ε 57) rfl _ 1 rfl _ _ H.o ϋ rfl (F0 _ _ _ _) ?_)))
  go_ret;exact⟨rfl,T.o⟩
 have n5:¬ mx<(mn:Int):=by have:=m4 hm;omega
 have n6:(mx != -1)=Α:=by simp[hm]
 clear m4;go_wp2_with (first
  | (go_at_call 71;(with_reducible refine (f116 _).o.mono ?_);rintro e W' ⟨rfl,rfl⟩)
  | (go_at_call 94;(with_reducible refine E.o.mono ?_);rintro e W' ⟨rfl,rfl⟩)
  | (refine El rfl (wp_load_mid 91 (ε 57) rfl _ 1 rfl _ _ H.o ϋ rfl (F0 _ _ _ _) ?_)))
 go_ret;exact⟨rfl,T.o⟩
def rnC (n:RNode):Array Δ:=rnA n.kind n.l n.r n.c n.min n.max
def RxAt (W:Γ) (b o:Nat) (xs:List RNode):Prop:=∀ i,i<xs.length->W.rangeAt b (o+i*9) (rnC (xs.getD i ⟨0,0,0,0#256,0,0⟩)).toList
theorem RxAt.ext {W W':Γ} {b o:Nat} {xs:List RNode} (h:RxAt W b o xs) (E:Ext W W'):RxAt W' b o xs:=λi hi j v G=>E.cell (h i hi j v G)
def Gz (n:RNode) (j:Nat):Nat:=(if 0<arK n.kind/\n.l=j then 1 else 0)+(if 1<arK n.kind/\n.r=j then 1 else 0)
def par (xs:List RNode) (j:Nat):Nat:=(xs.map λn=>Gz n j).sum
theorem IQ (xs:List RNode) (n:RNode) (j:Nat):par (xs++[n]) j=par xs j+Gz n j:=by simp[par]
structure VRx (xs:List RNode):Prop where
 pos:0<xs.length
 le:xs.length<=200
 node:∀ i,i<xs.length->VNode (xs.getD i ⟨0,0,0,0#256,0,0⟩).kind (xs.getD i ⟨0,0,0,0#256,0,0⟩).l (xs.getD i ⟨0,0,0,0#256,0,0⟩).r (xs.getD i ⟨0,0,0,0#256,0,0⟩).c (xs.getD i ⟨0,0,0,0#256,0,0⟩).min (xs.getD i ⟨0,0,0,0#256,0,0⟩).max i
 par:∀ j,j+1<xs.length->par xs j=1
theorem Kp (n:RNode):(rnC n).all (·.oneCell')=Α:=by simp[rnC,rnA,Δ.oneCell']
theorem Pb (n:RNode):(Ι.info? 96).map (·.size)=I (rnC n).toList.length:=by rw[show (rnC n).toList.length=9 from rfl];exact Xz
theorem Dd (n:RNode):(Ι.info? 96).map (·.size)=I (rnC n).size:=Xz
theorem DO (xs:List RNode) (i:Nat) (h:i<xs.length):xs.take (i+1)=xs.take i++[xs.getD i ⟨0,0,0,0#256,0,0⟩]:=by rw[List.take_succ_eq_append_getElem h,Ζ,Θ h];rfl
def Dk (N:Nat) (f:Nat->Nat):List Nat:=(π N).map f
theorem F9 (N:Nat) (f:Nat->Nat):(Dk N f).length=N:=by simp[Dk]
theorem Mm (N:Nat) (f:Nat->Nat) (x:Nat) (hx:x<N):(Dk N f).getD x 0=f x:=Eu _ _ _ _ hx
theorem O9 (N:Nat) (f:Nat->Nat) (x:Nat) (hx:x<N):(Dk N f).set x (f x+1)=Dk N λj=>f j+if x=j then 1 else 0:=by
 apply Ϩ;intro i;rw[Ó,F9];simp only[Dk,υ];by_cases e:x=i
 ·subst e;simp[hx]
 by_cases hi:i<N
 ·simp[ü hi,e]
 simp[e,hi]
theorem VT (k:Nat):arK k<=2:=by
 unfold arK;split
 ·omega
 split<;>omega
theorem Vn:∀ (xs:List RNode) (j:Nat),par xs j<=2*xs.length
 | [],j=>by simp[par]
 | n::xs,j=>by
  have:=Vn xs j;have h1:Gz n j<=2:=by unfold Gz;split<;>split<;>omega
  simp only[par,List.map_cons,List.sum_cons,ϒ] at this ⊢;omega
theorem Na (p:Nat):iv (p+1)=.int Χ ((p:Int)+1):=by simp
theorem Pa {N:Nat} {f g:Nat->Nat} (h:∀ j,f j=g j):Dk N f=Dk N g:=by rw[show f=g from funext h]
abbrev Ck:Array Δ:=#[.int Χ 0,.int γ 0,.int γ 0,.int γ 0,.int γ 0,.int Χ 0,.int Χ 0,.int Χ 0,.int Χ 0]
theorem Oi (xs:List RNode) (hx:VRx xs) (b o b4:Nat) (w:Γ) (h:RxAt w b o xs) :
  Ϟ Ι 40 #[U (I ⟨b,o,J⟩) xs.length b4] w λe w'=>e=Ω (.int Χ 0)/\Ext w w':=by
 have HX:=Z hx;have HR:=Z h;obtain⟨i0,hi,b7,b8,b9⟩:=ϑ Ds;obtain⟨N,hN⟩:=Xq (xs.length);have ca:=hx.pos;have cb:=hx.le;rw[hN] at ca cb;rw[hN];have T:=Z hN;have f116:=λi (hi:i<N) W=>Z (AZ _ (HX.o.node i (by rw[T.o];exact hi)).k1 (HX.o.node i (by rw[T.o];exact hi)).k8 W)
 have f115:=λi (hi:i<N) W=>Z (TE _ _ _ _ _ _ i (HX.o.node i (by rw[T.o];exact hi)) W)
 have c1:¬ (200:Int)<(N:Int):=by omega
 have c2:((N:Int)==0)=Ε:=by simp;omega
 have cc:å.wrap ((N:Int)-1)=((N-1:Nat):Int):=by rw[show (N:Int)-1=((N-1:Nat):Int) by omega];exact IntWalk.i64_in _ ⟨by omega,by omega⟩
 clear hx h hN;go_enter Tryz.func40,Tryz.ntmps40;go_upto_region 6 with (at_make;refine Ϛ _ rfl _ _ 54 rfl w.heap.size 3 i0 (.int Χ 0) 1 Tryz.underlying54 hi b7 b8 Χ Χ _ _ N rfl rfl rfl rfl (by rw[b9];omega) (by unfold maxLen;omega) (Υ _) ?_;intro w1 bh bj)
 have bk:Ext w w1:=(Κ w).grown bj (λk e=>by cases e);have bl:w1.ownsRow w.heap.size 3 1 (U (I ⟨w.heap.size,0,J⟩) N N) N ((Dk N λ_=>0).map iv):=by
  have:Dk N (λ_=>0)=ζ N 0:=by apply Ϩ;intro j;simp only[Dk,υ,List.getElem?_replicate];by_cases hj:j<N<;>simp[hj]
  rw[this,<-B7];exact bh
 clear bh bj c1 c2;generalize hg:w.heap.size=g at *;have HG:=Z hg;clear hg;go_wp2_with (fail);go_loopw [22] (λv W=>∃ i:Nat,i<=N/\v=.int Χ i/\Ext w W/\W.ownsRow g 3 1 (U (I ⟨g,0,J⟩) N N) N ((Dk N (par (xs.take i))).map iv))
  (λv _=>N-(intOf v).toNat)
 case atStart=>exact⟨0,by omega,rfl,bk,bl⟩
 clear bk bl;obtain⟨i,cy,rfl,G,E⟩:=hrel;by_cases ah:i<N
 ·have ay:=(HR.o.ext G) i (by rw[T.o];exact ah);have hv:=HX.o.node i (by rw[T.o];exact ah);have f116:=f116 i ah;have f115:=f115 i ah;have az:=DO xs i (by rw[T.o];exact ah);obtain⟨n,hn⟩:=Xq (xs.getD i ⟨0,0,0,0#256,0,0⟩);rw[hn] at ay hv f116 f115 az;have cg:=Z az;clear hn az;have f115:∀ W,ϟ (Ϟ Ι 70 #[.agg (rnC n),iv i] W λe w'=>e=Ω (.int Χ 0)/\Ext W w'):=f115;go_upto_region 9 with (first
   | (refine é rfl 96 (ε 25) rfl b (o+i*9) rfl _ _ ay Ò rfl (Pb n) ?_)
   | (refine Sr 96 (ε 5) (ε 26) rfl (Ad wr (Β Ck 96)) (Dd n) rfl (Kp n) ?_))
  have ar:=((Κ wr).alloc (Β Ck 96)).setRow (Υ _) (rnC n);have H5:=Φ (wr.alloc (Β Ck 96)) wr.heap.size _ (rnC n) _ _ (Ad wr (Β Ck 96));obtain⟨w2,a1⟩:=Xq ((wr.alloc (Β Ck 96)).setRow wr.heap.size (rnC n));rw[a1] at ar H5;simp only[a1];clear a1 ay;have E:=Aa E ar;have G:=G.t ar;have H5:=Z H5;generalize wr.heap.size=g5 at *;clear ar;have a6:=Vn (xs.take i);have cj:(xs.take i).length<=200:=by rw[Ï];omega
  obtain⟨f,hf⟩:=Xq (par (xs.take i));rw[hf] at E a6;have a8:ϟ (∀ j,par (xs.take (i+1)) j=f j+Gz n j):=Z λj=>by rw[cg.o,IQ,hf]
  have bn:∀ j,f j<=400:=λj=>by have:=a6 j;omega
  have ba:=Z bn;clear a6 cj hf bn;obtain⟨a,ha⟩:=Xq (arK n.kind);have au:=VT n.kind;have af:=hv.l1;have ai:=hv.r1;rw[ha] at f116 au af ai;have HA:=Z ha;clear ha hv;go_upto_region 12 with (first
   | (refine Lr 96 (ε 5) H5.o Ò (Dd n) ?_)
   | (go_at_call 70;(with_reducible refine (f115 _).o.mono ?_);rintro e w3 ⟨rfl,aw⟩))
  have E:=Aa E aw;have G:=G.t aw;have aj:=aw.heap H5.o;have q0:=(Τ w3 g5 0 _ _ _ aj).trans (show (rnC n)[0]? = I (iv n.kind) from rfl);have q5:=(Τ w3 g5 5 _ _ _ aj).trans (show (rnC n)[5]? = I (iv n.l) from rfl);have q6:=(Τ w3 g5 6 _ _ _ aj).trans (show (rnC n)[6]? = I (iv n.r) from rfl);have bp:=B2 E aj (by decide);have be:w.heap.size<=g:=Ñ HG.o;have bq:g5≠g:=λe=>by
   rcases bp with h|h
   ·cases h
   exact h (by rw[e];rfl)
  clear aw H5 aj bp;have cm:a=0\/a=1\/a=2:=by omega
  rcases cm with rfl|rfl|rfl
  ·have X:Dk N (par (xs.take (i+1)))=Dk N f:=Pa λj=>by rw[a8.o];unfold Gz;rw[HA.o];simp
   rw[<-X] at E;clear af ai au X;go_wp2_with (first
    | (go_at_call 71;(with_reducible refine (f116 _).o.mono ?_);rintro e W' ⟨rfl,rfl⟩))
   go_roundw
   case rel=>exact⟨i+1,by omega,by go_num,G,E⟩
   simp[intOf];omega
  ·have hl:=af (by omega);have aa:n.l<N:=by omega
   have cl:=Aq 0 E (F9 _ _).symm n.l (by rw[F9];exact aa);rw[Mm _ _ _ aa] at cl;have fl:=E.frozenAt n.l;obtain⟨H,ab⟩:=Ba E n.l (f n.l+1);rw[O9 _ _ _ aa] at H;have X:Dk N (par (xs.take (i+1)))=Dk N (λj=>f j+if n.l=j then 1 else 0):=Pa λj=>by rw[a8.o];unfold Gz;rw[HA.o];simp
   rw[<-X] at H;have ak:=G.grown ab (λk e=>by cases e;exact be);have hb:=ba.o n.l;rw[Na] at H ak;clear af ai au X ab E G;generalize f n.l=p at *;go_wp2_with (first
    | (go_at_call 71;(with_reducible refine (f116 _).o.mono ?_);rintro e W' ⟨rfl,rfl⟩))
   go_roundw
   case rel=>exact⟨i+1,by omega,by go_num,ak,H⟩
   simp[intOf];omega
  have hl:=af (by omega);have hr:=ai (by omega);have aa:n.l<N:=by omega
  have bg:n.r<N:=by omega
  have cl:=Aq 0 E (F9 _ _).symm n.l (by rw[F9];exact aa);rw[Mm _ _ _ aa] at cl;have fl:=E.frozenAt n.l;obtain⟨H,ab⟩:=Ba E n.l (f n.l+1);rw[O9 _ _ _ aa] at H;have cq:=(ab.cell_far ⟨g5,0,J⟩ (Zs q0) (by simp[bq])).trans q0;have ct:=(ab.cell_far ⟨g5,6,J⟩ (Zs q6) (by simp[bq])).trans q6;have ak:=G.grown ab (λk e=>by cases e;exact be);have cr:=Aq 0 H (F9 _ _).symm n.r (by rw[F9];exact bg);rw[Mm _ _ _ bg] at cr;have fr:=H.frozenAt n.r;obtain⟨hQ,br⟩:=Ba H n.r ((f n.r+if n.l=n.r then 1 else 0)+1);have e2:=O9 N (λj=>f j+if n.l=j then 1 else 0) n.r bg;rw[e2] at hQ;have X:Dk N (par (xs.take (i+1)))=Dk N (λj=>(f j+if n.l=j then 1 else 0)+if n.r=j then 1 else 0):=Pa λj=>by rw[a8.o];unfold Gz;rw[HA.o];simp;omega
  rw[<-X] at hQ;have bu:=ak.grown br (λk e=>by cases e;exact be);have hb:=ba.o n.l;have c5:(f n.r+if n.l=n.r then 1 else 0)<=401:=by have:=ba.o n.r;split<;>omega
  clear af ai au X e2 ab br E G H ak;generalize f n.r+(if n.l=n.r then 1 else 0)=p2 at *;generalize f n.l=p at *;rw[Na] at cq ct cr fr;rw[Na,Na] at hQ bu;go_wp2_with (first
   | (go_at_call 71;(with_reducible refine (f116 _).o.mono ?_);rintro e W' ⟨rfl,rfl⟩))
  go_roundw
  case rel=>exact⟨i+1,by omega,by go_num,bu,hQ⟩
  simp[intOf];omega
 obtain rfl:N=i:=by omega
 rw[show xs.take N=xs by rw[<-T.o];exact List.take_length] at E;have bw:=λk (hk:k<N)=>Aq 0 E (F9 _ _).symm k (by rw[F9];exact hk)
 have bz:=λk (hk:k<N-1)=>HX.o.par k (by rw[T.o];omega)
 have HC:=Z (λk (hk:k<N-1)=>by have:=bw k (by omega);rw[Mm _ _ _ (by omega),bz k hk] at this;exact (this:wr.cell? ⟨g,k,J⟩=I (iv 1)))
 clear bw bz E;obtain⟨M,hM⟩:=Xq (N-1);rw[hM] at cc HC;have c7:M<N:=by omega
 clear hM;go_upto_region 18 with (fail)
 obtain⟨wq,cv⟩:∃ W,W=wr:=⟨_,rfl⟩;subst cv;go_loopw [62] (λv W=>∃ k:Nat,k<=M/\v=.int Χ k/\W=wq) (λv _=>M-(intOf v).toNat)
 case atStart=>exact⟨0,by omega,rfl,rfl⟩
 obtain⟨k,hk,rfl,rfl⟩:=hrel;by_cases cw:k<M
 ·have ck:wr.cell? ⟨g,k,J⟩=I (.int Χ 1):=HC.o k cw;go_wp2;go_roundw
  case rel=>exact⟨k+1,by omega,by go_num,trivial⟩
  simp[intOf];omega
 obtain rfl:M=k:=by omega
 go_wp2;go_ret;exact⟨rfl,G⟩
theorem Sl.setNil {W:Γ} {v:Δ} {k n:Nat} {f:Nat->Δ} (h:Sl W v k n f) {g o:Nat} {cs:List Δ} (T:W.heap.size<=(W.setCells g o cs).heap.size) (X:∀ j,j<cs.length->W.cell? ⟨g,o+j,J⟩=I (U J 0 0)) (aa:∀ i,i<n*k->f i≠U J 0 0):Sl (W.setCells g o cs) v k n f:=by
 obtain⟨h1,h|⟨hn,b,E,ad,hv,hb,hc⟩⟩:=h
 ·exact⟨h1,.inl h⟩
 refine⟨h1,.inr ⟨hn,b,E,ad,hv,Ξ hb T,λi hi=>?_⟩⟩;rw[Γ.cell?_setCells_out]
 ·exact hc i hi
 intro H _;have H:b=g:=H;subst H;show E+i<o\/o+cs.length<=E+i;apply Å;intro af;have G:=X (E+i-o) (by omega);rw[show o+(E+i-o)=E+i by omega,hc i hi] at G;injection G with G
 exact aa i hi G
theorem IsD.setNil {W:Γ} {v:Δ} {d:Dfa} (H:Val d) (h:IsD W v d) {g o:Nat} {cs:List Δ} (E:W.heap.size<=(W.setCells g o cs).heap.size) (G:∀ j,j<cs.length->W.cell? ⟨g,o+j,J⟩=I (U J 0 0)):IsD (W.setCells g o cs) v d:=by
 obtain⟨vc,X,va,rfl,h1,⟨vs,ab,hN,T⟩,h3⟩:=h;refine⟨vc,X,va,rfl,Sl.setNil h1 E G (λi _ e=>by cases e),⟨vs,ab,Sl.setNil hN E G (λi hi e=>?_),λi hi=>Sl.setNil (T i hi) E G (λi _ e=>by cases e)⟩,Sl.setNil h3 E G (λi _ e=>by cases e)⟩;have hi:i<d.n.length:=by simpa using hi
 obtain⟨b,ag,ah,af,_⟩:=Ü (T i hi) (by rw[H.row i hi];exact H.parts.pos);rw[af] at e;cases e
theorem O4 (W:Γ) (g o:Nat) (a b c:Δ):W.setCells g o [a,b,c]=((W.setCell ⟨g,o,J⟩ a).setCell ⟨g,o+1,J⟩ b).setCell ⟨g,o+1+1,J⟩ c:=rfl
theorem Vt {W:Γ} {base e g n E size:Nat} {xs:List Δ} (h:W.ownsRow base e size (U (I ⟨g,0,J⟩) n E) n xs) (o:Nat) (a b c:Δ) :
  (∃ ys,(W.setCells g o [a,b,c]).ownsRow base e size (U (I ⟨g,0,J⟩) n E) n ys)/\W.grownBy (W.setCells g o [a,b,c]) (I g):=by
 have h0:=h.stored o a;have h1:=h0.1.stored (o+1) b;have G:=h1.1.stored (o+1+1) c;rw[O4];exact⟨⟨_,G.1⟩,h0.2.trans (h1.2.trans G.2)⟩
structure Lds (W:Γ) (g N:Nat) (ds:List Dfa):Prop where
 at_:DsAt W g 0 ds
 nil:∀ j,ds.length*3<=j->j<N*3->W.cell? ⟨g,j,J⟩=I (U J 0 0)
theorem Lds.ext {W W':Γ} {g N:Nat} {ds:List Dfa} (h:Lds W g N ds) (E:Ext W W'):Lds W' g N ds:=⟨h.at_.ext E,λj h1 G=>E.cell (h.nil j h1 G)⟩
theorem Lds.store {W:Γ} {g N:Nat} {ds:List Dfa} (h:Lds W g N ds) (X:okD ds) (hN:ds.length<N) {a b c:Δ} {q:Dfa} (hq:Val q) (hD:IsD W (.agg #[a,b,c]) q) (T:W.heap.size<=(W.setCells g (ds.length*3) [a,b,c]).heap.size):Lds (W.setCells g (ds.length*3) [a,b,c]) g N (ds++[q]):=by
 have G:∀ j,j<[a,b,c].length->W.cell? ⟨g,ds.length*3+j,J⟩=I (U J 0 0):=λj E=>h.nil _ (by omega) (by have:j<3:=E;omega)
 refine⟨λi hi=>?_,λj h1 h2=>?_⟩
 ·rw[Ν,Ϥ] at hi;by_cases e:i<ds.length
  ·obtain⟨v1,v2,v3,hr,hI⟩:=h.at_ i e;refine⟨v1,v2,v3,λj v E=>?_,?_⟩
   ·have H:j<3:=by have:=(ν.1 E).1;exact this
    rw[Γ.cell?_setCells_out]
    ·exact hr j v E
    intro _ _;left
    show 0+i*3+j<ds.length*3;omega
   rw[B9 _ _ _ _ e];exact IsD.setNil (X i e).1 hI T G
  obtain rfl:i=ds.length:=by omega
  refine⟨a,b,c,λj v E=>?_,?_⟩
  ·have H:j<[a,b,c].length:=(ν.1 E).1;have:=Γ.cell?_setCells_in g [a,b,c] (ds.length*3) W (λj E=>by rw[G j E];rfl) j H;rw[Ϣ,this,<-E,Θ H]
  rw[Dt];exact IsD.setNil hq hD T G
 rw[Ν,Ϥ] at h1;rw[Γ.cell?_setCells_out]
 ·exact h.nil j (by omega) h2
 intro _ _;right
 show ds.length*3+3<=j;omega
theorem Qu {n:RNode} {i:Nat} (h:VNode n.kind n.l n.r n.c n.min n.max i):n.good i/\n.min<=16/\(n.max=-1\/(n.min:Int)<=n.max)/\n.max<=16:=by
 have hm:n.min<=16/\(n.max=-1\/(n.min:Int)<=n.max)/\n.max<=16:=by
  by_cases e:n.kind=8
  ·obtain⟨h1,G,X,T⟩:=h.m8 e;refine⟨h1,?_,G⟩;by_cases H:n.max=-1
   ·exact .inl H
   exact .inr (T H)
  obtain⟨h1,G⟩:=h.m0 e;rw[h1,G];exact⟨by omega,.inr (by simp),by omega⟩
 refine⟨⟨λE=>?_,λE=>?_,?_,h.k1,h.k8⟩,hm⟩
 ·have:arK n.kind=2:=by unfold arK;rw[if_pos E]
  exact⟨h.l1 (by omega),h.r1 (by omega)⟩
 ·have:0<arK n.kind:=by unfold arK;rcases E with E|E<;>rw[E]<;>decide
  exact h.l1 this
 rcases hm.2.1 with h1|h1
 ·left;omega
 exact .inr h1
theorem X3:(Ι.info? 40).map (λi=>(i.zero,i.size,i.bytes))=I (I zD,3,72):=by kernel_rfl
theorem Wv (N j:Nat) (E:j<N*3):(madeCells zD.cells (N*3)).toList[j]? = I (U J 0 0):=by
 have hc:zD.cells=#[U J 0 0,U J 0 0,U J 0 0]:=rfl;rw[hc];have G:j % 3=0\/j % 3=1\/j % 3=2:=by omega
 rcases G with h|h|h<;>simp[madeCells,E,h]
theorem UW (xs:List RNode) (ds:List Dfa) (hi:ds.length<xs.length) {q:Option Dfa} {r:Option Dfa} (h1:Fw (xs.getD ds.length ⟨0,0,0,0#256,0,0⟩) ds q) (E:Ek q (λd=>Dj (xs.drop (ds.length+1)) (ds++[d])) r):Dj (xs.drop ds.length) ds r:=by
 have e:xs.drop ds.length=xs.getD ds.length ⟨0,0,0,0#256,0,0⟩::xs.drop (ds.length+1):=by rw[ϱ hi,Ζ,Θ hi];rfl
 rw[e];exact⟨q,h1,E⟩
theorem KO {n:RNode} {ds:List Dfa} (ab:okD ds) (hg:n.good ds.length) {q:Dfa} (h:Fw n ds (I q)):Val q/\q.n.length<=64:=by
 obtain⟨g1,g2,g3,g4,g5⟩:=hg;unfold Fw at h;have G:∀ {L:Af},E4 L (I q)->Fit q L:=fun⟨e,T,e2,e3⟩=>by
  injection T with T
  subst T;exact⟨e2,e3⟩
 by_cases c1:n.kind=1
 ·rw[if_pos c1] at h;have E:=G h;have:=Gh E (λ_ _=>0) (λ_=>False) 1 (by omega) (λs x _=>by omega) (λw=>Iff.rfl);exact⟨E.1.val,by omega⟩
 rw[if_neg c1] at h;by_cases c2:n.kind=2
 ·rw[if_pos c2] at h;have E:=G h;have:=Ia E;exact⟨E.1.val,by omega⟩
 rw[if_neg c2] at h;by_cases c3:n.kind=3
 ·rw[if_pos c3] at h;have E:=G h;have:=Je (p:=λx=>n.c.getLsbD x.toNat=Α) E;exact⟨E.1.val,by omega⟩
 rw[if_neg c3] at h;by_cases c4:n.kind=4
 ·rw[if_pos c4] at h;exact Im h q rfl
 rw[if_neg c4] at h;by_cases c5:n.kind=5
 ·rw[if_pos c5] at h;exact⟨h.1.val,h.2.2⟩
 rw[if_neg c5] at h;by_cases c6:n.kind=6
 ·rw[if_pos c6] at h;exact⟨h.1.val,h.2.2⟩
 rw[if_neg c6] at h;by_cases X:n.kind=7
 ·rw[if_pos X] at h;have E:=G h;obtain⟨H,hl⟩:=ab n.l (g2 (.inl X));have:=TQ E.1 (V5 (Bt H)) (λw=>by rw[ϴ,E.2,V6 (Bt H),Ec];simp)
  exact⟨E.1.val,μ this hl⟩
 rw[if_neg X] at h;obtain⟨H,hl⟩:=ab n.l (g2 (.inr (by omega)));exact Uv H hl h q rfl
theorem UZ (xs:List RNode) (hx:VRx xs) (b o b9:Nat) (w:Γ) (hT:Tab w) (cb:0<w.heap.size) (h:RxAt w b o xs) :
  Ϟ Ι 17 #[U (I ⟨b,o,J⟩) xs.length b9] w λe w'=>∃ r,ResOf w' e r/\Dj xs [] r/\Ext w w':=by
 have dm:=Z (λW (H:Ext w W)=>hT.below H.below cb);have HX:=Z hx;have HR:=Z h;have f82:=λW (H:Ext w W)=>Z (Oi xs hx b o b9 W (h.ext H))
 obtain⟨i0,hi,dr,dt,du⟩:=ϑ X3;obtain⟨N,hN⟩:=Xq (xs.length);have dv:=hx.pos;have cc:=hx.le;rw[hN] at dv cc f82;rw[hN];have HN:=Z hN;have dw:å.wrap ((N:Int)-1)=((N-1:Nat):Int):=by rw[show (N:Int)-1=((N-1:Nat):Int) by omega];exact IntWalk.i64_in _ ⟨by omega,by omega⟩
 have bh:=(Κ w).alloc (Β #[U J 0 0,U J 0 0,U J 0 0] 40);have E:=Ad w (Β #[U J 0 0,U J 0 0,U J 0 0] 40);clear hx h hN hT;go_enter Tryz.func17,Tryz.ntmps17;go_upto_region 1 with (fail)
 obtain⟨w1,bj⟩:=Xq (w.alloc (Β #[U J 0 0,U J 0 0,U J 0 0] 40));rw[bj] at bh E;simp only[bj];clear bj;have E:=Z E;have bk:=Z bh;clear bh;go_upto_region 4 with (go_at_call 40;(with_reducible refine (f82 _ bk.o).o.mono ?_);rintro e w2 ⟨rfl,T⟩;have cd:=Z (bk.o.t T);have E:=Z (T.heap E.o);clear T)
 have ej:=cd.o.size;go_upto_region 5 with (at_make;refine Ϛ _ rfl _ _ 31 rfl w2.heap.size 40 i0 zD 3 Tryz.underlying31 hi dr dt Χ Χ _ _ N rfl rfl rfl rfl (by rw[du];omega) (by unfold maxLen;omega) (Υ _) ?_;intro w3 bl bm)
 have cf:=cd.o.grown bm (λk e=>by cases e);have cg:=(bm.block w.heap.size (Al E.o) (by simp)).trans E.o;have cj:Lds w3 w2.heap.size N []:=⟨λi hi=>absurd hi (by simp),λj _ hj=>by rw[bl.cellAt j hj];exact Wv N j hj⟩;have ek:w.heap.size<w2.heap.size:=Al E.o;generalize w2.heap.size=g at *;clear bm f82 bk;go_wp2_with (fail);go_loopw [21] (λv W=>∃ ds:List Dfa,ds.length<=N/\v=.int Χ ds.length/\Ext w W/\(∃ ys,W.ownsRow g 40 3 (U (I ⟨g,0,J⟩) N N) N ys)/\ϟ (W.heap[w.heap.size]? = I (Β #[U J 0 0,U J 0 0,U J 0 0] 40 (0,0)))/\ϟ (Lds W g N ds)/\ϟ (okD ds)/\ϟ (∀ r,Dj (xs.drop ds.length) ds r->Dj xs [] r))
  (λv _=>N-(intOf v).toNat)
 case atStart=>exact⟨[],by simp,rfl,cf,⟨_,bl⟩,Z cg,Z cj,Z (λi hi=>absurd hi (by simp)),Z λr h=>h⟩
 clear cf bl cg cj E;obtain⟨ds,en,rfl,hE,⟨ys,hO⟩,E,HL,au,HB⟩:=hrel;by_cases ba:ds.length<N
 ·have bo:=(HR.o.ext hE) ds.length (by rw[HN.o];exact ba);have hv:=HX.o.node ds.length (by rw[HN.o];exact ba);have bq:=Z (λ(q r:Option Dfa)=>UW xs ds (by rw[HN.o];exact ba) (q:=q) (r:=r));obtain⟨n,hn⟩:=Xq (xs.getD ds.length ⟨0,0,0,0#256,0,0⟩);rw[hn] at bo hv bq;obtain⟨br,cl,cm,cn⟩:=Qu hv;have eo:((ds.length:Nat):Int)<(N:Int):=by omega
  have f83:∀ W,Ext wr W->ϟ (Ϟ Ι 41 #[.agg (rnC n),U (I ⟨g,0,J⟩) N N] W λe w'=>∃ q,ResOf w' e q/\Fw n ds q/\Ext W w'):=λW H=>Z (KL n.kind n.l n.r n.c n.min n.max ds br cl cm cn au.o g 0 N N (by omega) cc W (dm.o W (hE.t H)) (Ξ cb (hE.t H).size) (HL.o.at_.ext H))
  have dy:=Z br;clear hn hv br cl cm cn;generalize cp:ds.length=i at *;have X:=Z cp;clear cp;go_upto_region 8 with (first
   | (refine é rfl 96 (ε 24) rfl b (o+i*9) rfl _ _ bo Ò rfl (Pb n) ?_)
   | (refine Sr 96 (ε 7) (ε 25) rfl (Ad wr (Β Ck 96)) (Dd n) rfl (Kp n) ?_))
  have T:=((Κ wr).alloc (Β Ck 96)).setRow (Υ _) (rnC n);have H7:=Φ (wr.alloc (Β Ck 96)) wr.heap.size _ (rnC n) _ _ (Ad wr (Β Ck 96));obtain⟨w4,bt⟩:=Xq ((wr.alloc (Β Ck 96)).setRow wr.heap.size (rnC n));rw[bt] at T H7;simp only[bt];clear bt bo;have H7:=Z H7;have bu:=Z T;generalize wr.heap.size=g7 at *;clear T;go_upto_region 9 with (first
   | (refine Lr 96 (ε 7) H7.o Ò (Dd n) ?_)
   | (go_at_call 41;(with_reducible refine (f83 _ bu.o).o.mono ?_);rintro e w5 ⟨q,bw,cq,ct⟩;obtain⟨aa,ab,ad,ae,af,ag,ah,ai,aj,k1,rfl⟩:=bw.form;have bb:=Z bw;have bz:=Z cq;have dz:=Z (bu.o.t ct);clear bw cq ct)
   | (refine Sr 40 (ε 8) (ε 30) rfl (Ad w5 (Β #[U J 0 0,U J 0 0,U J 0 0] 40)) Ae rfl (Aw _ _ _ rfl rfl rfl) ?_))
  obtain⟨bc,b0⟩:=Fm w5 (dA (U aa ab ad) (U ae af ag) (U ah ai aj));obtain⟨w6,b5⟩:=Xq ((w5.alloc (Β #[U J 0 0,U J 0 0,U J 0 0] 40)).setRow w5.heap.size (dA (U aa ab ad) (U ae af ag) (U ah ai aj)));rw[b5] at bc b0;simp only[b5];clear b5;have ay:=dz.o.t bc;have cu:=Z (hE.t ay);have H8:=Z b0;have E:=Z (ay.heap E.o);have HL:=Z (HL.o.ext ay);have hO:=Aa hO ay;have bb:=Z (bb.o.ext bc);generalize w5.heap.size=g8 at *;clear bc b0 ay hE f83 H7 bu;cases q with
  | none=>
   obtain⟨rfl,hz⟩:=bb.o.none_inv;have ec:=Z F1;have HF:=Z (HB.o J (bq.o J J bz.o rfl));clear hz hO;go_wp2_with (first
    | (refine Bj rfl 40 _ rfl #[U J 0 0,U J 0 0,U J 0 0] ?_ ?_;(simp;with_reducible exact ec.o))
    | (refine Sr 40 (ε 2) (ε 34) rfl E.o Ae rfl Fa ?_))
   refine ω (v:=ϙ #[zD,.int Χ 2]) (Bi rfl _ _ _ _ _ _ _ rfl _ rfl (Φ w6 _ _ #[U J 0 0,U J 0 0,U J 0 0] 40 (0,0) E.o) Ρ rfl Ae) rfl ?_;exact⟨J,rfl,HF.o,cu.o.setRow (Υ _) _⟩
  | some q=>
   obtain⟨rfl,cv⟩:=bb.o.some_inv;obtain⟨az,b6⟩:=KO au.o (by rw[X.o];exact dy.o) bz.o;obtain⟨⟨zs,cw⟩,be⟩:=Vt hO (i*3) (U aa ab ad) (U ae af ag) (U ah ai aj);have b7:=HL.o.store au.o (by rw[X.o];exact ba) az cv (by rw[X.o];exact be.size);rw[X.o] at b7;have cy:w6.there g (i*3) 3:=λj hj=>by refine⟨?_,hO.frozenAt _⟩;rw[HL.o.nil (i*3+j) (by rw[X.o];omega) (by omega)];rfl
   have cz:=cu.o.grown be (λk e=>by cases e;omega);have bf:=(be.block w.heap.size (Al E.o) (by simp;omega)).trans E.o;have c3:=Z cy;have c4:=Z b7;have c5:=Z cw;have c6:=Z cz;have bf:=Z bf;have ed:ϟ (okD (ds++[q])):=Z λj hj=>by
    rw[Ν,Ϥ] at hj;by_cases e:j<ds.length
    ·rw[B9 _ _ _ _ e];exact au.o j e
    obtain rfl:j=ds.length:=by omega
    rw[Dt];exact⟨az,b6⟩
   have ee:ϟ (∀ r,Dj (xs.drop (ds++[q]).length) (ds++[q]) r->Dj xs [] r):=Z λr hr=>HB.o r (bq.o (I q) r bz.o (by rw[Ν,Ϥ,X.o] at hr;exact hr))
   have c7:ϟ ((ds++[q]).length=i+1):=Z (by rw[Ν,X.o];rfl);clear cv b7 cw be cy cz hO;go_upto_region 12 with (first
    | (refine Lr 40 (ε 8) H8.o Ρ Ae ?_)
    | (refine wpList_store_mid rfl 40 (ε 39) (ε 38) rfl g (i*3) (dA (U aa ab ad) (U ae af ag) (U ah ai aj)) rfl rfl c3.o Ae (Aw _ _ _ rfl rfl rfl) ?_))
   have c8:(dA (U aa ab ad) (U ae af ag) (U ah ai aj)).toList=[U aa ab ad,U ae af ag,U ah ai aj]:=rfl;rw[c8];obtain⟨w7,b8⟩:=Xq (w6.setCells g (i*3) [U aa ab ad,U ae af ag,U ah ai aj]);rw[b8] at c4 c5 c6 bf;rw[b8];clear b8 c8 c3;go_wp2;go_roundw
   case rel=>exact⟨ds++[q],by rw[c7.o];omega,by rw[c7.o];go_num,c6.o,⟨_,c5.o⟩,bf,c4,ed,ee⟩
   simp[intOf];omega
 have a1:ds.length=N:=by omega
 have ew:=Z a1;rw[a1];obtain⟨v1,v2,v3,hr,hD⟩:=HL.o.at_ (N-1) (by omega);obtain⟨az,b6⟩:=au.o (N-1) (by omega);have HF:=Z (HB.o (I (ds.getD (N-1) dN)) (by rw[a1,List.drop_of_length_le (by rw[HN.o];exact Υ _)];show I (ds.getD (N-1) dN)=I (ds.getD (ds.length-1) dN);rw[a1]))
 clear a1;obtain⟨q,hq⟩:=Xq (ds.getD (N-1) dN);rw[hq] at hD az b6 HF;clear hq;obtain⟨da,db,dc,dd,de,df,dg,dh,G⟩:=hD.agg;injection G with G
 unfold dA at G;injection G with G
 injection G with e1 G
 injection G with e2 G
 injection G with e3 _
 subst e1;subst e2;subst e3;rw[Ϣ] at hr;have dk:=Z hr;have ei:=Z hD;obtain⟨M,hM⟩:=Xq (N-1);rw[hM] at dw dk;have e4:M<N:=by omega
 clear hM hr hD;go_wp2_with (first
  | (refine é rfl 40 (ε 45) rfl g (M*3) rfl _ _ dk.o Ρ rfl (Dg _ _ _) ?_)
  | (refine Sr 40 (ε 2) (ε 46) rfl E.o Ae rfl (Aw _ _ _ rfl rfl rfl) ?_))
 refine ω (v:=ϙ #[.agg (dA (U da db dc) (U dd q.n.length de) (U df dg dh)),.int Χ 0]) (Bi rfl _ _ _ _ _ _ _ rfl _ rfl (Φ wr _ _ (dA (U da db dc) (U dd q.n.length de) (U df dg dh)) 40 (0,0) E.o) Ρ rfl Ae) rfl ?_;exact⟨I q,⟨_,rfl,IsD.setRow az ei.o E.o _⟩,HF.o,hE.setRow (Υ _) _⟩
theorem R6 (W:Γ) (l:List UInt8) (fr:Nat × Nat) (G:l.length<=1000000):By (W.alloc (Β (l.map bv).toArray 5 fr)) (U (I ⟨W.heap.size,0,J⟩) l.length l.length) l:=by
 refine⟨by omega,?_⟩;by_cases h0:l.length=0
 ·exact .inl ⟨h0,_,_,by rw[h0]⟩
 refine .inr ⟨by omega,W.heap.size,0,l.length,rfl,by simp,λi hi=>?_⟩;rw[Ϣ,Τ _ _ _ _ 5 fr (Ad W _)];have E:i<l.length:=by omega
 simp[Ζ,E]
def flR (E:List RNode):List Δ:=E.flatMap λn=>(rnC n).toList
theorem QM (E:List RNode):(flR E).length=E.length*9:=by
 induction E with
 | nil=>rfl
 | cons x l G=>have e:flR (x::l)=(rnC x).toList++flR l:=rfl;rw[e,Ν,G,ϒ];have:(rnC x).toList.length=9:=rfl;omega
theorem Yn (E:List RNode) (i j:Nat) (hi:i<E.length) (T:j<9):(flR E)[i*9+j]? = (rnC (E.getD i ⟨0,0,0,0#256,0,0⟩)).toList[j]? := by
 induction E generalizing i with
 | nil=>simp at hi
 | cons x l G=>
  have e:flR (x::l)=(rnC x).toList++flR l:=rfl;have H:(rnC x).toList.length=9:=rfl;rw[e];cases i with
  | zero=>rw[List.getElem?_append_left (by omega)];simp
  | succ i=>rw[List.getElem?_append_right (by omega),H,show (i+1)*9+j-9=i*9+j by omega];exact G i (by simpa using hi)
theorem GF {W:Γ} {g:Nat} {fr:Nat × Nat} {E:List RNode} (h:W.heap[g]? = I (Β (flR E).toArray 96 fr)):RxAt W g 0 E:=λi hi j v G=>by have H:j<9:=(ν.1 G).1;rw[show 0+i*9+j=i*9+j by omega,Τ W g _ _ _ _ h,Ϸ,Yn E i j hi H];exact G
theorem OK:(Ι.info? 96).map (λi=>(i.zero,i.size,i.bytes))=I (I (.agg #[.int Χ 0,.int γ 0,.int γ 0,.int γ 0,.int γ 0,.int Χ 0,.int Χ 0,.int Χ 0,.int Χ 0]),9,72):=by kernel_rfl
theorem Fx {ops:Array Oper} {rest:List Oper} {o:Oper} {a:Act} {w:Γ} {Q:Exit->Act->Γ->Prop} (hg:o.guard=J) (E:List RNode) (n:Nat) (X:n=E.length) (h0:0<E.length) (h1:E.length<=100) (parts:Array (Nat × Operand)) (ho:o.op=.buildSlice 46 n parts)
  (hp:(parts.map λ(i,x)=>(i,a.eval x)).toList=((E.map λn=>Δ.agg (rnC n)).zipIdx 0).map λx=>(x.2,x.1))
  (h:wpList Ι ops Q rest (a.put o.dst (U (I ⟨w.heap.size,0,J⟩) n n)) (w.alloc (Β (flR E).toArray 96))):wpList Ι ops Q (o::rest) a w:=by
 subst X;obtain⟨i,hi,hz,G,hb⟩:=ϑ OK;refine wpList_buildSlice hg 46 96 E.length _ ho (flR E).toArray i _ Tryz.underlying46 hi hz (by rw[G];omega) (by rw[G];omega) ?_ h;rw[hp,G];obtain⟨r,q1,q2,q3⟩:=Great.fill_dense (s:=9) (by omega) (E.map λn=>Δ.agg (rnC n)) 0 ((Array.range (E.length*9)).map ((Δ.agg #[.int Χ 0,.int γ 0,.int γ 0,.int γ 0,.int γ 0,.int Χ 0,.int Χ 0,.int Χ 0,.int Χ 0]).cells[· % (Δ.agg #[.int Χ 0,.int γ 0,.int γ 0,.int γ 0,.int γ 0,.int Χ 0,.int Χ 0,.int Χ 0,.int Χ 0]).cells.size]!)) (λv hv=>by obtain⟨n,_,rfl⟩:=Ϫ.1 hv;rfl) (by simp)
 rw[q1]
 congr 1
 apply Array.ext_getElem?;intro k;rw[q3];by_cases hk:k<E.length*9
 ·rw[if_pos (by simp;omega)];have H:k / 9<E.length:=by omega
  have e1:(E.map λn=>Δ.agg (rnC n))[k / 9-0]? = I (.agg (rnC (E.getD (k / 9) ⟨0,0,0,0#256,0,0⟩))):=by rw[Nat.sub_zero,υ,Θ H,Ζ,Θ H];rfl
  rw[e1];have T:=Yn E (k / 9) (k % 9) H (by omega);rw[show k / 9*9+k % 9=k by omega] at T;refine Eq.trans ?_ (Eq.trans T.symm (Ϸ ..).symm);simp[Δ.cells]
 rw[if_neg (by simp;omega),Array.getElem?_eq_none (by simp;omega)];refine (Eq.trans (Ϸ ..) (û (by rw[QM];omega))).symm
theorem Y8 {w':Γ} {A:Array Δ} {d:Dfa} (G:IsD w' (.agg A) d):Ext w' ((w'.alloc (Β #[U J 0 0,U J 0 0,U J 0 0] 40)).setRow w'.heap.size A)/\
  ((w'.alloc (Β #[U J 0 0,U J 0 0,U J 0 0] 40)).setRow w'.heap.size A).heap[w'.heap.size]? = I (Β A 40 (0,0))/\IsD ((w'.alloc (Β #[U J 0 0,U J 0 0,U J 0 0] 40)).setRow w'.heap.size A) (.agg A) d:=by
 have E:=((Κ w').alloc (Β #[U J 0 0,U J 0 0,U J 0 0] 40)).setRow (Υ w'.heap.size) A;exact⟨E,Φ _ _ _ _ _ _ (Ad w' _),G.ext E⟩
def ByW (W:Γ) (v:Δ) (l:List UInt8):Prop:=
 l.length<=9223372036854775807/\((l.length=0/\∃ a E,v=U a 0 E)\/(0<l.length/\∃ b G E,v=U (I ⟨b,G,J⟩) l.length E/\b<W.heap.size/\∀ i,i<l.length->W.cell? ⟨b,G+i,J⟩=I (bv (l.getD i 0))))
theorem ByW.ext {W W':Γ} {v:Δ} {l:List UInt8} (h:ByW W v l) (E:Ext W W'):ByW W' v l:=by
 obtain⟨h0,h|⟨h1,b,G,H,T,hb,hc⟩⟩:=h
 ·exact⟨h0,.inl h⟩
 exact⟨h0,.inr ⟨h1,b,G,H,T,Ξ hb E.size,λi hi=>E.cell (hc i hi)⟩⟩
theorem ByW.split {W:Γ} {v:Δ} {l:List UInt8} (h:ByW W v l):∃ a b G E,v=U a l.length E/\(0<l.length->a=I ⟨b,G,J⟩)/\(0<l.length->b<W.heap.size)/\∀ i,i<l.length->W.cell? ⟨b,G+i,J⟩=I (bv (l.getD i 0)):=by
 obtain⟨h0,⟨H,a,E,rfl⟩|⟨H,b,G,E,rfl,hb,hc⟩⟩:=h
 ·exact⟨a,0,0,E,by rw[H],by omega,by omega,by omega⟩
 exact⟨_,b,G,E,rfl,λ_=>rfl,λ_=>hb,hc⟩
def mL (c:Nat->Nat) (vc E G:Δ):List Δ:=vc::E::G::(π 256).map λb=>iv (c b)
def mA (c:Nat->Nat) (vc E G:Δ):Array Δ:=(mL c vc E G).toArray
theorem Ww (c:Nat->Nat) (vc E G:Δ) (b:Nat) (hb:b<256):(mA c vc E G)[3+b]? = I (iv (c b)):=by unfold mA mL;rw[Ϸ,show 3+b=b+1+1+1 by omega,ϻ,ϻ,ϻ,υ,ü hb];rfl
theorem Jd {c c':Nat->Nat} (h:∀ b,b<256->c b=c' b) (vc E G:Δ):mA c vc E G=mA c' vc E G:=by unfold mA mL;rw[List.map_congr_left (g:=λb=>iv (c' b)) λb hb=>by rw[h b (List.mem_range.1 hb)]]
theorem LZ (c:Nat->Nat) (vc E G:Δ) (b x:Nat) (hb:b<256):(mA c vc E G).setIfInBounds (3+b) (iv x)=mA (λy=>if y=b then x else c y) vc E G:=by
 apply Array.ext';rw[Array.toList_setIfInBounds];show (mL c vc E G).set (3+b) (iv x)=mL _ vc E G;unfold mL;rw[show 3+b=b+1+1+1 by omega,Λ,Λ,Λ];refine congrArg (λl=>vc::E::G::l) ?_;apply Ϩ;intro i;rw[Ó,υ,υ,List.length_map,List.length_range];by_cases hi:i<256
 ·rw[ü hi];by_cases e:b=i
  ·subst e;simp[hb]
  rw[if_neg e];simp[Ne.symm e]
 rw[û (by simp;omega)];by_cases e:b=i
 ·omega
 rw[if_neg e];rfl
theorem LY (vc E G:Δ):mA (λ_=>0) vc E G=(vc::E::G::ζ 256 (ϲ Χ 0)).toArray:=by unfold mA mL;simp[List.map_const']
theorem UL (a E G:Option Addr) (l c H T X aa:Nat):Ι.built 162 [(0,.agg #[U a l c,U E H T,U G X aa])]=I (mA (λ_=>0) (U a l c) (U E H T) (U G X aa)):=by rw[LY];kernel_rfl
theorem Nt {w:Γ} {b i:Nat} {V:Array Δ} {t:TypeId} {fr:Nat × Nat} {v:Δ} (h:w.heap[b]? = I (Β V t fr)) (e:V[i]? = I v):w.cell? ⟨b,i,J⟩=I v:=(Τ w b i _ _ _ h).trans e
theorem OL:(Ι.info? 40).map (·.size)=I 3:=by kernel_rfl
def MachAt (W:Γ) (g:Nat) (d:Dfa):Prop:=∃ vc E G,W.heap[g]? = I (Β (mA (Am d.cls) vc E G) 162 (0,0))/\IsD W (.agg #[vc,E,G]) d
theorem MachAt.ext {W W':Γ} {g:Nat} {d:Dfa} (h:MachAt W g d) (E:Ext W W'):MachAt W' g d:=by obtain⟨vc,G,H,h1,T⟩:=h;exact⟨vc,G,H,E.heap h1,T.ext E⟩
theorem FM (c:Cls) (j:Nat):(bits BinOp.and ϩ (wd c (j / 64) / 2 ^ (j % 64)) 1==1)=c.getLsbD j:=by
 have G:=Dy c (j / 64);have E:=Cn c (j / 64) (j % 64);rw[show 64*(j / 64)+j % 64=j by omega,show decide (j % 64<64)=Α by simp;omega,Bool.true_and] at E;have H:(wd c (j / 64)) / 2 ^ (j % 64)=((wn c (j / 64) / 2 ^ (j % 64):Nat):Int):=by unfold wd;rw[Int.natCast_ediv];simp
 rw[H,<-E,Nat.testBit_eq_decide_div_mod_eq,show (1:Int)=((1:Nat):Int) from rfl,u64_and_nat _ _ (Nat.lt_of_le_of_lt (Nat.div_le_self _ _) G) (by decide)];generalize wn c (j / 64) / 2 ^ (j % 64)=m;rw[Nat.and_one_is_mod,ϴ];simp
 omega
def mF (d:Dfa) (k j b:Nat):Nat:=if Am d.cls b<k\/(Am d.cls b=k/\b<j) then Am d.cls b else 0
theorem LW {d:Dfa} {k j b:Nat} (h:Am d.cls j≠k):mF d k j b=mF d k (j+1) b:=by
 unfold mF;have e:(Am d.cls b<k\/(Am d.cls b=k/\b<j))↔(Am d.cls b<k\/(Am d.cls b=k/\b<j+1)):=by
  refine or_congr Iff.rfl (and_congr_right λE=>?_);constructor
  ·omega
  intro hb;by_cases e:b=j
  ·subst e;exact absurd E h
  omega
 simp only[e]
theorem LV {d:Dfa} {k j b:Nat} (h:Am d.cls j=k):mF d k (j+1) b=if b=j then k else mF d k j b:=by
 unfold mF;by_cases e:b=j
 ·subst e;rw[if_pos rfl,if_pos (.inr ⟨h,by omega⟩),h]
 rw[if_neg e];have E:(Am d.cls b<k\/(Am d.cls b=k/\b<j+1))↔(Am d.cls b<k\/(Am d.cls b=k/\b<j)):=or_congr Iff.rfl (and_congr_right λ_=>by omega);simp only[E]
theorem LX {d:Dfa} {k b:Nat} (hb:b<256):mF d k 256 b=if Am d.cls b<k+1 then Am d.cls b else 0:=by
 unfold mF;have e:(Am d.cls b<k\/(Am d.cls b=k/\b<256))↔Am d.cls b<k+1:=by omega
 simp only[e]
theorem P6 (d:Dfa) (hv:Val d) (v:Δ) (w:Γ) (h:IsD w v d) :
  Ϟ Ι 50 #[v] w λe w'=>∃ g,e=Ω (η (I ⟨g,0,J⟩))/\MachAt w' g d/\Ext w w':=by
 have HD:=Z h;obtain⟨vc,vn,va,rfl,hC,hN,hA⟩:=h;obtain⟨bc,oc,cc,rfl,hc⟩:=Ü hC (by obtain⟨c,hc,_⟩:=hv.parts.cov 0 (by omega);exact List.length_pos_of_mem hc);obtain⟨an,ln,cn,rfl⟩:∃ a n c,vn=U a n c:=by obtain⟨vs,_,hs,_⟩:=hN;obtain⟨a,c,rfl⟩:=hs.len;exact⟨_,_,_,rfl⟩
 obtain⟨aa,la,ca,rfl⟩:∃ a n c,va=U a n c:=by obtain⟨a,c,rfl⟩:=Sl.len hA;exact⟨_,_,_,rfl⟩
 have cv:d.cls.length<=4611686018427387904:=hC.1;have HC:=Z hc;obtain⟨A0,a8⟩:=Xq (mA (λ_=>0) (U (I ⟨bc,oc,J⟩) d.cls.length cc) (U an ln cn) (U aa la ca));have E:=UL (I ⟨bc,oc,J⟩) an aa d.cls.length cc ln cn la ca;obtain⟨V,hV⟩:=Xq ((#[U (I ⟨bc,oc,J⟩) d.cls.length cc,U an ln cn,U aa la ca]:Array Δ));have bt:V[0]? = I (U (I ⟨bc,oc,J⟩) d.cls.length cc):=by rw[<-hV];rfl
 have hi:(Ι.info? 40).map (·.size)=I V.size:=by rw[<-hV];exact OL
 rw[a8,hV] at E;rw[hV] at HD;rw[hV];have G:=Z E;have cf:=Z a8;have HV:=Z hV;clear hN hA hc hC E a8 hV;go_enter Tryz.func50,Tryz.ntmps50;go_upto_region 1 with (fail)
 have ba:=(Κ w).alloc (Β V 40);have H0:=Ad w (Β V 40);obtain⟨w1,bb⟩:=Xq (w.alloc (Β V 40));rw[bb] at ba H0;simp only[bb];clear bb;have H0:=Z H0;go_upto_region 2 with (first
  | (refine Lr 40 (ε 1) H0.o Ρ hi ?_)
  | (refine Bj rfl 162 _ rfl A0 ?_ ?_;(simp[Act.eval,θ];exact G.o)))
 have bd:=ba.alloc (Β A0 162);have H9:=Ad w1 (Β A0 162);have be:=Ag H0.o (Β A0 162);obtain⟨w2,bf⟩:=Xq (w1.alloc (Β A0 162));rw[bf] at bd H9 be;simp only[bf];obtain⟨B,E⟩:=Xq (w1.heap.size);rw[E] at H9;simp only[E];have ck:ϟ (w.heap.size<=B):=Z (by have:=ba.size;omega);have cy:ϟ (B<w2.heap.size):=Z (Al H9);clear bf E;have c0:=Nt be bt;rw[<-cf.o] at H9;have H9:=Z H9;clear be bt;go_wp2_with (fail);clear c0;go_loopw [13] (λi W=>∃ k:Nat,k<=d.cls.length/\i=.int Χ k/\Ext w W/\W.heap[B]? = I (Β (mA (λb=>if Am d.cls b<k then Am d.cls b else 0) (U (I ⟨bc,oc,J⟩) d.cls.length cc) (U an ln cn) (U aa la ca)) 162 (0,0)))
  (λi _=>d.cls.length-(intOf i).toNat)
 case atStart=>refine⟨0,by omega,rfl,bd,?_⟩;rw[H9.o,Jd (c:=λb=>if Am d.cls b<0 then Am d.cls b else 0) (c':=λ_=>0) (λb _=>by simp)]
 obtain⟨k,hk,rfl,H,bu⟩:=hrel;have T:=Z bu;clear bu bd;by_cases bw:k<d.cls.length
 ·obtain⟨a0,a1,a2,a3⟩:=Jr (W:=wr) (λi hi=>H.cell (HC.o i hi)) k bw;have HK:=Z (λb hb=>Gm hv.parts (b:=b) hb bw);have b5:=Z (λb hb=>Gn hv.parts (b:=b) hb);obtain⟨c,bh⟩:=Xq (d.cls.getD k 0#256);rw[bh] at a0 a1 a2 a3 HK;have cl:ϟ (∀ b,b<256->(c.getLsbD b=Α↔Am d.cls b=k)):=Z λb hb=>⟨HK.o b hb,λe=>by rw[<-bh,<-e];exact b5.o b hb⟩
  clear bh HK b5;go_upto_region 5 with (fail)
  clear a0 a1 a2 a3;have bj:=H.alloc (Β (Ab c) 91);have X:=Ad wr (Β (Ab c) 91);have ay:=Ag T.o (Β (Ab c) 91);obtain⟨wi,bk⟩:=Xq (wr.alloc (Β (Ab c) 91));rw[bk] at bj X ay;simp only[bk];obtain⟨g5,bm⟩:=Xq (wr.heap.size);have c4:B<g5:=by have:=Al T.o;omega
  rw[bm] at X;simp only[bm];clear bk bm;rw[Jd (c':=mF d k 0) (λb _=>by unfold mF;simp)] at ay;go_wp2_with (fail);clear T;go_loopw [18] (λi W=>∃ j:Nat,j<=256/\i=.int Χ j/\Ext w W/\W.heap[g5]? = I (Β (Ab c) 91 (0,0))/\W.heap[B]? = I (Β (mA (mF d k j) (U (I ⟨bc,oc,J⟩) d.cls.length cc) (U an ln cn) (U aa la ca)) 162 (0,0)))
   (λi _=>256-(intOf i).toNat)
  case atStart=>exact⟨0,by omega,rfl,bj,X,ay⟩
  clear bj X ay H;obtain⟨j,hj,rfl,H,h5,E⟩:=hrel;have X:=Z h5;have G:=Z E;clear h5 E;by_cases bn:j<256
  ·have cw:=(Τ wr g5 (j / 64) _ _ _ X.o).trans (Ij c (j / 64) (by omega));have cp:=(Τ wr B (3+j) _ _ _ G.o).trans (Ww _ _ _ _ j bn);have c6:=frozen_of_row wr B (3+j) _ _ G.o;have ⟨h1,h2⟩:=Gs c (j / 64);have bo:=FM c j;have hm:=cl.o j bn;generalize mF d k j j=c7 at cp;generalize wd c (j / 64)=x at cw h1 h2 bo;cases az:c.getLsbD j
   ·rw[az] at bo hm;have HN:ϟ (mA (mF d k j) (U (I ⟨bc,oc,J⟩) d.cls.length cc) (U an ln cn) (U aa la ca)=mA (mF d k (j+1)) (U (I ⟨bc,oc,J⟩) d.cls.length cc) (U an ln cn) (U aa la ca)):=Z (Jd (λb _=>LW (λe=>by simp[e] at hm)) _ _ _);clear az hm;go_wp2;go_roundw
    case rel=>exact⟨j+1,by omega,by go_num,H,X.o,by rw[<-HN.o];exact G.o⟩
    simp[intOf];omega
   rw[az] at bo hm;have HY:=Z (hm.1 rfl);clear az hm;go_wp2;go_roundw
   case rel=>rw[setCell_eq_setRow wr _ _ _ _ _ _ G.o,LZ _ _ _ _ _ _ bn];refine⟨j+1,by omega,by go_num,H.setRow ck.o _,Bk X.o (by omega) _,?_⟩;rw[Jd (c':=λy=>if y=j then k else mF d k j y) (λb _=>LV HY.o)];exact Φ wr _ _ _ _ _ G.o
   case measure=>simp[intOf];omega
  obtain rfl:j=256:=by omega
  have a6:=G.o;rw[Jd (c':=λb=>if Am d.cls b<k+1 then Am d.cls b else 0) (λb hb=>LX hb)] at a6;have a6:=Z a6;clear G X;go_wp2;go_roundw
  case rel=>exact⟨k+1,by omega,by go_num,H,a6.o⟩
  simp[intOf];omega
 obtain rfl:k=d.cls.length:=by omega
 have T:=T.o;rw[Jd (c':=Am d.cls) (λb hb=>by rw[if_pos (cell_lt hv.parts hb)])] at T;have T:=Z T;have b7:=Z (HD.o.ext H);rw[<-HV.o] at b7;go_wp2;go_ret;exact⟨B,rfl,⟨_,_,_,T.o,b7.o⟩,H⟩
theorem MachAt.opened {W:Γ} {g:Nat} {d:Dfa} (h:MachAt W g d) (E:Val d):∃ G H cn T X ca,W.cell? ⟨g,1,J⟩=I (U (I ⟨G,H,J⟩) d.n.length cn)/\W.cell? ⟨g,2,J⟩=I (U (I ⟨T,X,J⟩) d.n.length ca)/\
  (∀ b,b<256->W.cell? ⟨g,3+b,J⟩=I (iv (Am d.cls b)))/\RowsAt W G H d.n.length d.cls.length d.ent2/\∀ s,s<d.n.length->W.cell? ⟨T,X+s,J⟩=I (.bool (d.ok s)):=by
 obtain⟨vc,vn,va,hM,ao,aq,ar,he,hC,hN,hA⟩:=h;injection he with he
 injection he with he
 injection he with _ he
 injection he with e1 he
 injection he with e2 _
 subst e1 e2;obtain⟨G,H,cn,rfl,hr⟩:=Ko hN d.cls.length E.pos E.parts.pos E.row;obtain⟨T,X,ca,rfl,ha⟩:=N4 hA (by rw[E.accL];exact E.pos);refine⟨G,H,cn,T,X,ca,Nt hM rfl,?_,λb hb=>Nt hM (Ww _ _ _ _ b hb),hr,λs hs=>ha s (by rw[E.accL];exact hs)⟩;have:=Nt hM (i:=2) rfl;rw[E.accL] at this;exact this
theorem Ke (d:Dfa) (G:Val d) (g s:Nat) (hs:s<d.n.length) (x:UInt8) (w:Γ) (h:MachAt w g d) :
  Ϟ Ι 59 #[η (I ⟨g,0,J⟩),iv s,bv x] w λe w'=>e=Ω (iv (d.stp s x.toNat))/\Ext w w':=by
 obtain⟨bn,on,cn,ba,oa,ca,h1,-,H,T,-⟩:=h.opened G;obtain⟨br,or',cr,X,aa⟩:=T s hs;have hx:=x.toNat_lt;have ar:(x.toNat:Int)<256:=by omega
 have hk:=cell_lt G.parts hx;have c1:=A4 h1;have c3:=A4 (H x.toNat hx);have c4:=A4 X;have c5:=A4 (aa _ hk);have E:ϟ (d.ent2 s (Am d.cls x.toNat)=d.stp s x.toNat):=Z rfl;generalize Am d.cls x.toNat=k at c3 c5 hk E;obtain⟨t,ht⟩:=Xq (d.ent2 s k);rw[ht] at c5 E;rw[<-E.o];clear ht E h1 H T X aa h G;go_enter Tryz.func59,Tryz.ntmps59;go_upto_region 1 with (fail)
 refine Cl (by kernel_rfl) (by kernel_rfl) ?_;iterate 17 (with_reducible refine Á (λK hK=>?_);go_simp;(refine hK _ ?_;clear hK K))
 refine Ë ?_;rintro _ ⟨e,rfl⟩;go_wp2;go_ret;exact⟨rfl,e.ext⟩
structure Pt where
 d:Dfa
 lz:Bool
def Bv:List Dfa->Af
 | []=>λw=>w=[]
 | d::ds=>Cat (wd1 d) (Bv ds)
def seg (w:List UInt8) (i j:Nat):List UInt8:=(w.take j).drop i
theorem Ub (w:List UInt8) (i j:Nat) (E:j<=w.length):(seg w i j).length=j-i:=by unfold seg;rw[List.length_drop,Ï];omega
theorem I2 (w:List UInt8) (i:Nat):seg w i i=[]:=by unfold seg;rw[List.drop_take];simp
theorem FO (w:List UInt8) (i j:Nat) (G:i<=j) (E:j<w.length):seg w i (j+1)=seg w i j++[w.getD j 0]:=by unfold seg;rw[List.take_add_one,List.drop_append_of_le_length (by rw[Ï];omega),Ζ,Θ E];rfl
theorem O5 (w:List UInt8) (i j:Nat) (E:i<=j) (G:j<=w.length):seg w i j++w.drop j=w.drop i:=by
 unfold seg;have h:w.drop i=(w.take j++w.drop j).drop i:=by rw[List.take_append_drop]
 rw[h,List.drop_append_of_le_length (by rw[Ï];omega)]
theorem Uc (w:List UInt8) (i j:Nat) (G:i<j) (H:j<=w.length):seg w i j=w.getD i 0::seg w (i+1) j:=by
 unfold seg;have E:i<(w.take j).length:=by rw[Ï];omega
 rw[ϱ E,List.getElem_take,Ζ,Θ (by omega)];rfl
def C0 (d:Dfa) (L:Af) (w:List UInt8) (i q:Nat):Prop:=i<=q/\q<=w.length/\d.has (seg w i q)=Α/\L (w.drop q)
def Hj (lz:Bool) (d:Dfa) (L:Af) (w:List UInt8) (i q:Nat):Prop:=C0 d L w i q/\∀ q',C0 d L w i q'->if lz=Α then q<=q' else q'<=q
def Cw:List Pt->List UInt8->Nat->List (Nat × Nat)->Prop
 | [],w,i,l=>l=[]/\i=w.length
 | p::ps,w,i,l=>∃ q E,l=(i,q)::E/\Hj p.lz p.d (Bv (ps.map (·.d))) w i q/\Cw ps w q E
theorem Rb {d:Dfa} {L:Af} {w:List UInt8} {i:Nat} (hi:i<=w.length):Cat (wd1 d) L (w.drop i)↔∃ q,C0 d L w i q:=by
 constructor
 ·rintro⟨u,v,e,hu,E⟩;have X:u.length+v.length=w.length-i:=by have:=congrArg List.length e;rw[List.length_drop,Ν] at this;omega
  refine⟨i+u.length,by omega,by omega,?_,?_⟩
  ·have:seg w i (i+u.length)=u:=by unfold seg;rw[List.drop_take,e];simp
   rw[this];exact hu
  have:w.drop (i+u.length)=v:=by rw[<-List.drop_drop,e];simp
  rw[this];exact E
 rintro⟨q,h1,G,H,T⟩;exact⟨seg w i q,w.drop q,(O5 w i q h1 G).symm,H,T⟩
theorem OE {lz:Bool} {d:Dfa} {L:Af} {w:List UInt8} {i q q':Nat} (h:Hj lz d L w i q) (E:Hj lz d L w i q'):q=q':=by have h1:=h.2 _ E.1;have G:=E.2 _ h.1;cases lz<;>simp at h1 G<;>omega
theorem P5 {ps:List Pt} {w:List UInt8} {i:Nat} {l:List (Nat × Nat)} (hi:i<=w.length) (h:Cw ps w i l):Bv (ps.map (·.d)) (w.drop i):=by
 cases ps with
 | nil=>obtain⟨_,E⟩:=h;show w.drop i=[];rw[E];simp
 | cons p ps=>obtain⟨q,H,_,G,_⟩:=h;exact (Rb hi).2 ⟨q,G.1⟩
theorem P3 {ps:List Pt} {w:List UInt8} {i:Nat} {l E:List (Nat × Nat)} (h:Cw ps w i l) (G:Cw ps w i E):l=E:=by
 induction ps generalizing i l E with
 | nil=>rw[h.1,G.1]
 | cons p ps H=>obtain⟨q,m,e,T,hm⟩:=h;obtain⟨q',m',X,aa,ab⟩:=G;obtain rfl:=OE T aa;rw[e,X,H hm ab]
theorem LO {ps:List Pt} {w:List UInt8} {i:Nat} {l:List (Nat × Nat)} (h:Cw ps w i l):l.length=ps.length:=by
 induction ps generalizing i l with
 | nil=>rw[h.1];rfl
 | cons p ps E=>obtain⟨q,m,e,_,hm⟩:=h;rw[e,ϒ,ϒ,E hm]
/-! A state from which the rest can be divided. -/
def F4 (d:Dfa) (L:Af) (w:List UInt8) (i s:Nat):Prop:=∃ q,i<=q/\q<=w.length/\d.ok (d.run s (seg w i q))=Α/\L (w.drop q)
theorem W7 {d:Dfa} {L:Af} {w:List UInt8} {i s:Nat} (hi:i<=w.length) :
  F4 d L w i s↔(d.ok s=Α/\L (w.drop i))\/(i<w.length/\F4 d L w (i+1) (d.stp s (w.getD i 0).toNat)):=by
 constructor
 ·rintro⟨q,h1,G,E,H⟩;by_cases e:q=i
  ·subst e;rw[I2] at E;exact .inl ⟨E,H⟩
  refine .inr ⟨by omega,q,by omega,G,?_,H⟩;rw[Uc w i q (by omega) G] at E;exact E
 rintro (⟨h1,G⟩|⟨h1,q,G,E,H,T⟩)
 ·refine⟨i,Υ _,hi,?_,G⟩;rw[I2];exact h1
 refine⟨q,by omega,E,?_,T⟩;rw[Uc w i q (by omega) E];exact H
theorem Mh (w:List UInt8) (i j k:Nat) (G:i<=j) (E:j<=k) (H:k<=w.length):seg w i k=seg w i j++seg w j k:=by
 unfold seg;have h:w.take k=w.take j++(w.take k).drop j:=by
  conv=>lhs;rw[<-List.take_append_drop j (w.take k)]
  rw[List.take_take,Nat.min_eq_left E]
 conv=>lhs;rw[h]
 rw[List.drop_append_of_le_length (by rw[Ï];omega)]
theorem Ra {d:Dfa} {L:Af} {w:List UInt8} {i q q':Nat} (H:i<=q) (E:q<=q') (h:C0 d L w i q'):F4 d L w q (d.run 0 (seg w i q)):=by obtain⟨h1,G,T,X⟩:=h;refine⟨q',E,G,?_,X⟩;rw[<-Bf,<-Mh w i q q' H E G];exact T
theorem W6 {d:Dfa} {L:Af} {w:List UInt8} {i q:Nat} (E:i<=q) (h:F4 d L w q (d.run 0 (seg w i q))):∃ q',q<=q'/\C0 d L w i q':=by obtain⟨q',h1,G,H,T⟩:=h;refine⟨q',h1,μ E h1,G,?_,T⟩;rw[<-Bf,<-Mh w i q q' E h1 G] at H;exact H
def Of (A B:Af) (w v:List UInt8):Prop:=B v/\¬ ∃ x y,x≠[]/\v=x++y/\A (w++x)/\B y
def St (A B:Af) (w v:List UInt8):Prop:=B v/\¬ ∃ x y,y≠[]/\w=x++y/\A x/\B (y++v)
def Adm (lz:Bool) (A B:Af) (w v:List UInt8):Prop:=if lz=Α then St A B w v else Of A B w v
theorem Kn (u v x:List UInt8):seg (u++v++x) u.length (u.length+v.length)=v:=by unfold seg;rw[List.take_append_of_le_length (by rw[Ν];omega),List.take_of_length_le (by rw[Ν];omega),List.drop_append_of_le_length (Υ _)];simp
theorem Ln (u v x:List UInt8):(u++v++x).drop (u.length+v.length)=x:=by rw[<-Ν,List.drop_append_of_le_length (Υ _)];simp
theorem Xv {lz:Bool} {d:Dfa} {L:Af} (u v x:List UInt8) (hv:d.has v=Α):Hj lz d L (u++v++x) u.length (u.length+v.length)↔Adm lz (wd1 d) L v x:=by
 have hE:C0 d L (u++v++x) u.length (u.length+v.length)↔L x:=by unfold C0;rw[Kn,Ln];exact⟨λh=>h.2.2.2,λh=>⟨by omega,by rw[Ν,Ν];omega,hv,h⟩⟩
 unfold Hj Adm;rw[hE];cases lz with
 | false=>
  simp only[Í,if_false];constructor
  ·rintro⟨h1,E⟩;refine⟨h1,?_⟩;rintro⟨a,b,ha,rfl,H,T⟩;have X:=E (u.length+(v++a).length) (by
    have e:u++v++(a++b)=u++(v++a)++b:=by simp
    unfold C0;rw[e,Kn,Ln];exact⟨by omega,by simp,H,T⟩)
   rw[Ν] at X;have:a.length=0:=by omega
   exact ha (ϵ.1 this)
  rintro⟨h1,E⟩;refine⟨h1,λq' ⟨g1,G,g3,g4⟩=>?_⟩;by_cases ad:q'<=u.length+v.length
  ·exact ad
  exfalso
  apply E;refine⟨seg (u++v++x) (u.length+v.length) q',(u++v++x).drop q',?_,?_,?_,g4⟩
  ·intro e;have:=congrArg List.length e;rw[Ub _ _ _ G] at this;simp at this;omega
  ·have:=O5 (u++v++x) (u.length+v.length) q' (by omega) G;rw[this,Ln]
  have:=Mh (u++v++x) u.length (u.length+v.length) q' (by omega) (by omega) G;rw[Kn] at this;show d.has _=Α;rw[<-this];exact g3
 | true=>
  simp only[if_true];constructor
  ·rintro⟨h1,E⟩;refine⟨h1,?_⟩;rintro⟨a,b,hb,rfl,H,T⟩;have X:=E (u.length+a.length) (by
    have e:u++(a++b)++x=u++a++(b++x):=by simp
    unfold C0;rw[e,Kn,Ln];exact⟨by omega,by simp,H,T⟩)
   rw[Ν] at X;have:b.length=0:=by omega
   exact hb (ϵ.1 this)
  rintro⟨h1,E⟩;refine⟨h1,λq' ⟨g1,G,g3,g4⟩=>?_⟩;by_cases ad:u.length+v.length<=q'
  ·exact ad
  exfalso
  apply E;refine⟨seg (u++v++x) u.length q',seg (u++v++x) q' (u.length+v.length),?_,?_,g3,?_⟩
  ·intro e;have:=congrArg List.length e;rw[Ub _ _ _ (by simp)] at this;simp at this;omega
  ·have:=Mh (u++v++x) u.length q' (u.length+v.length) g1 (by omega) (by simp);rw[Kn] at this;exact this
  have:=O5 (u++v++x) q' (u.length+v.length) (by omega) (by simp);rw[Ln] at this;rw[this];exact g4
/-! The words of a division. -/
def F5:List Pt->List (List UInt8)->Prop
 | [],E=>E=[]
 | p::ps,E=>∃ w t,E=w::t/\Adm p.lz (wd1 p.d) (Bv (ps.map (·.d))) w t.flatten/\F5 ps t
def InR:List Pt->List (List UInt8)->Prop
 | [],E=>E=[]
 | p::ps,E=>∃ w t,E=w::t/\p.d.has w=Α/\InR ps t
theorem OU {ps:List Pt} {E:List (List UInt8)} (h:InR ps E):Bv (ps.map (·.d)) E.flatten:=by
 induction ps generalizing E with
 | nil=>rw[h];rfl
 | cons p ps G=>obtain⟨w,t,rfl,H,T⟩:=h;exact⟨w,t.flatten,rfl,H,G T⟩
def Ex:Nat->List (List UInt8)->List (Nat × Nat)
 | _,[]=>[]
 | i,w::t=>(i,i+w.length)::Ex (i+w.length) t
theorem P4 {ps:List Pt} {ws:List (List UInt8)} (u:List UInt8) (h:InR ps ws):Cw ps (u++ws.flatten) u.length (Ex u.length ws)↔F5 ps ws:=by
 induction ps generalizing ws u with
 | nil=>have E:ws=[]:=h;subst E;simp[Cw,F5,Ex]
 | cons p ps X=>
  obtain⟨w,t,rfl,E,ht⟩:=h;have e:u++(w::t).flatten=u++w++t.flatten:=by simp
  rw[e];constructor
  ·rintro⟨q,l',h1,G,H⟩;unfold Ex at h1;injection h1 with h1 T
   injection h1 with _ h1
   subst h1 T;refine⟨w,t,rfl,(Xv u w t.flatten E).1 G,(X (u++w) ht).1 ?_⟩;rw[Ν];exact H
  rintro⟨w',t',h1,G,H⟩;injection h1 with h1 T
  subst h1 T;refine⟨u.length+w.length,Ex (u.length+w.length) t,rfl,(Xv u w t.flatten E).2 G,?_⟩;have:=(X (u++w) ht).2 H;rw[Ν] at this;exact this
structure Opt where
 head:Dfa
 rest:Dfa
structure OptsOf (lz:Bool) (A B:Af) (os:List Opt):Prop where
 hc:∀ o∈os,Cano o.head/\Cano o.rest
 I:∀ o∈os,(∃ w,o.head.has w=Α)/\∃ v,o.rest.has v=Α
 head:∀ o∈os,∀ w,o.head.has w=Α↔A w/\∀ v,o.rest.has v=Α↔Adm lz A B w v
 all:∀ w,A w->(∃ v,Adm lz A B w v)->∃ o∈os,o.head.has w=Α
 dis:os.Pairwise λa b=>a.rest≠b.rest
theorem OptsOf.one {lz:Bool} {A B:Af} {os:List Opt} (h:OptsOf lz A B os) {i j:Nat} (hi:i<os.length) (E:j<os.length) {w:List UInt8} (h1:os[i].head.has w=Α) (T:os[j].head.has w=Α):i=j:=by
 have H:os[i].rest=os[j].rest:=by
  refine Fu (h.hc _ (ϯ hi)).2 (h.hc _ (ϯ E)).2 λv=>?_
  rw[ϴ,((h.head _ (ϯ hi) w).1 h1).2 v,((h.head _ (ϯ E) w).1 T).2 v]
 rcases Nat.lt_trichotomy i j with G|he|G
 ·exact absurd H (Ϧ.1 h.dis _ _ hi E G)
 ·exact he
 exact absurd H.symm (Ϧ.1 h.dis _ _ E hi G)
def Ar:List (List Opt)->List (List Opt)
 | []=>[[]]
 | os::t=>os.flatMap λo=>(Ar t).map (o::·)
def Eb:List Opt->List (List UInt8)->Prop
 | [],E=>E=[]
 | o::os,E=>∃ w t,E=w::t/\o.head.has w=Α/\o.rest.has t.flatten=Α/\Eb os t
def Er:List Pt->List (List Opt)->Prop
 | [],l=>l=[]
 | p::ps,l=>∃ os t,l=os::t/\OptsOf p.lz (wd1 p.d) (Bv (ps.map (·.d))) os/\Er ps t
theorem SE {ps:List Pt} {l:List (List Opt)} (h:Er ps l) {ws:List (List UInt8)} (hw:InR ps ws):(F5 ps ws->∃ i,∃ hi:i<(Ar l).length,Eb (Ar l)[i] ws)/\(∀ i (hi:i<(Ar l).length),Eb (Ar l)[i] ws->F5 ps ws)/\
  ∀ i j (hi:i<(Ar l).length) (hj:j<(Ar l).length),Eb (Ar l)[i] ws->Eb (Ar l)[j] ws->i=j:=by
 suffices H:(F5 ps ws->∃ c∈Ar l,Eb c ws)/\(∀ c∈Ar l,Eb c ws->F5 ps ws)/\(Ar l).Pairwise λa b=>¬ (Eb a ws/\Eb b ws) by
  refine⟨λhd=>?_,λi hi hd=>H.2.1 _ (ϯ hi) hd,λi j hi hj h1 E=>?_⟩
  ·obtain⟨c,hc,hd⟩:=H.1 hd;obtain⟨i,hi,rfl⟩:=List.mem_iff_getElem.1 hc;exact⟨i,hi,hd⟩
  rcases Nat.lt_trichotomy i j with hl|he|hl
  ·exact absurd ⟨h1,E⟩ (Ϧ.1 H.2.2 _ _ hi hj hl)
  ·exact he
  exact absurd ⟨E,h1⟩ (Ϧ.1 H.2.2 _ _ hj hi hl)
 induction ps generalizing l ws with
 | nil=>have hl:l=[]:=h;have ak:ws=[]:=hw;subst hl ak;refine⟨λ_=>⟨[],List.mem_singleton.2 rfl,rfl⟩,λc hc _=>rfl,List.pairwise_singleton _ _⟩
 | cons p ps ih=>
  obtain⟨os,t,rfl,ho,ht⟩:=h;obtain⟨w,u,rfl,aq,hu⟩:=hw;obtain⟨i1,i2,i3⟩:=ih ht hu;have hm:∀ c,c∈Ar (os::t)↔∃ o∈os,∃ X∈Ar t,c=o::X:=by
   intro c;show c∈os.flatMap _↔_;simp only[List.mem_flatMap,Ϫ];constructor
   ·rintro⟨o,h1,X,E,rfl⟩;exact⟨o,h1,X,E,rfl⟩
   rintro⟨o,h1,X,E,rfl⟩;exact⟨o,h1,X,E,rfl⟩
  refine⟨?_,?_,?_⟩
  ·rintro⟨w',u',e,h1,E⟩;injection e with G T
   subst G T;obtain⟨o,ad,hh⟩:=ho.all w aq ⟨_,h1⟩;obtain⟨c,hc,hd⟩:=i1 E;exact⟨o::c,(hm _).2 ⟨o,ad,c,hc,rfl⟩,w,u,rfl,hh,(((ho.head o ad w).1 hh).2 _).2 h1,hd⟩
  ·intro c hc hd;obtain⟨o,ad,X,af,rfl⟩:=(hm c).1 hc;obtain⟨w',u',e,h1,E,h3⟩:=hd;injection e with G T
   subst G T;exact⟨w,u,rfl,(((ho.head o ad w).1 h1).2 _).1 E,i2 X af h3⟩
  show (os.flatMap _).Pairwise _;rw[List.pairwise_flatMap];refine⟨λo ad=>?_,?_⟩
  ·rw[List.pairwise_map];refine i3.imp λ{a b} az=>?_
   rintro⟨⟨w1,u1,G,_,_,g1⟩,⟨w2,u2,T,_,_,g2⟩⟩;injection G with G e3
   injection T with T e4
   subst e3 e4;exact az ⟨g1,g2⟩
  rw[Ϧ];intro i j hi hj bc c hc X af;obtain⟨a,_,rfl⟩:=Ϫ.1 hc;obtain⟨b,_,rfl⟩:=Ϫ.1 af;rintro⟨⟨w1,u1,G,k1,_,_⟩,⟨w2,u2,T,k2,_,_⟩⟩;injection G with G e3
  injection T with T e4
  subst G T;have:=ho.one hi hj k1 k2;omega
structure CollR (nx:Nat->Nat->Nat) (ρ:Nat->Option Dfa) (os:List Opt):Prop where
 hc:∀ o∈os,Cano o.head/\Cano o.rest/\(∃ v,o.rest.has v=Α)/\∃ w,ρ (Ap nx 0 w)=I o.rest
 head:∀ o∈os,∀ w,o.head.has w=Α↔ρ (Ap nx 0 w)=I o.rest
 all:∀ w d,ρ (Ap nx 0 w)=I d->(∃ v,d.has v=Α)->∃ o∈os,o.rest=d
 dis:os.Pairwise λa b=>a.rest≠b.rest
theorem Zd {nx:Nat->Nat->Nat} {ρ:Nat->Option Dfa} {os:List Opt} {lz:Bool} {A B:Af} (h:CollR nx ρ os) (G:∀ w,A w↔∃ d,ρ (Ap nx 0 w)=I d) (H:∀ w d,ρ (Ap nx 0 w)=I d->Cano d/\∀ v,d.has v=Α↔Adm lz A B w v):OptsOf lz A B os where
 hc:=λo E=>⟨(h.hc o E).1,(h.hc o E).2.1⟩
 I:=λo E=>by obtain⟨_,_,h1,w,T⟩:=h.hc o E;exact⟨⟨w,(h.head o E w).2 T⟩,h1⟩
 head:=λo E w=>by
  rw[h.head o E w];constructor
  ·intro e;exact⟨(G w).2 ⟨_,e⟩,(H w _ e).2⟩
  rintro⟨h1,T⟩;obtain⟨d,hd⟩:=(G w).1 h1;obtain⟨X,h4⟩:=H w d hd;rw[hd,Fu X (h.hc o E).2.1 λv=>by rw[ϴ,h4 v,T v]]
 all:=λw hw ⟨v,hv⟩=>by obtain⟨d,hd⟩:=(G w).1 hw;obtain⟨o,E,hr⟩:=h.all w d hd ⟨v,((H w d hd).2 v).2 hv⟩;exact⟨o,E,(h.head o E w).2 (by rw[hr];exact hd)⟩
 dis:=h.dis
def Dp (a:Dfa) (s:Nat):Af:=λx=>x≠[]/\a.ok (a.run s x)=Α
theorem PR {a:Dfa} {B:Af} {w v:List UInt8}:(B v/\¬ Cat (Dp a (a.run 0 w)) B v)↔Adm Ε (wd1 a) B w v:=by
 unfold Adm Of;simp only[Í,if_false];constructor
 ·rintro⟨h1,E⟩;refine⟨h1,?_⟩;rintro⟨x,y,hx,rfl,G,H⟩;refine E ⟨x,y,rfl,⟨hx,?_⟩,H⟩;rw[<-Bf];exact G
 rintro⟨h1,E⟩;refine⟨h1,?_⟩;rintro⟨x,y,rfl,⟨hx,G⟩,H⟩;refine E ⟨x,y,hx,rfl,?_,H⟩;show a.ok (a.run 0 (w++x))=Α;rw[Bf];exact G
def J8 (a b:Dfa) (w:List UInt8) (q:Nat):Prop:=∃ x y,y≠[]/\w=x++y/\a.has x=Α/\q=b.run 0 y
theorem PX (a b:Dfa) (q:Nat):¬ J8 a b [] q:=by rintro⟨x,y,E,e,_⟩;have:=congrArg List.length e;rw[Ν,List.length_nil] at this;exact E (ϵ.1 (by omega))
theorem PW (a b:Dfa) (w:List UInt8) (c:UInt8) (q:Nat):J8 a b (w++[c]) q↔(∃ p,J8 a b w p/\q=b.stp p c.toNat)\/(a.has w=Α/\q=b.stp 0 c.toNat):=by
 constructor
 ·rintro⟨x,y,G,e,hx,rfl⟩;obtain⟨E,X,rfl⟩:∃ E X,y=E++[X]:=⟨y.dropLast,y.getLast G,(List.dropLast_concat_getLast G).symm⟩;rw[<-List.append_assoc] at e;obtain⟨H,T⟩:=List.append_inj' e rfl;injection T with T
  subst T;by_cases h0:E=[]
  ·subst h0;right
   rw[List.append_nil] at H;subst H;exact⟨hx,rfl⟩
  left
  refine⟨b.run 0 E,⟨x,E,h0,H,hx,rfl⟩,?_⟩;rw[Bf];rfl
 rintro (⟨p,⟨x,y,G,rfl,hx,rfl⟩,rfl⟩|⟨h1,rfl⟩)
 ·refine⟨x,y++[c],by simp,by simp,hx,?_⟩;rw[Bf];rfl
 exact⟨w,[c],by simp,rfl,h1,rfl⟩
theorem NL {a b:Dfa} {w v:List UInt8}:(b.has v=Α/\¬ ∃ q,J8 a b w q/\b.ok (b.run q v)=Α)↔Adm Α (wd1 a) (wd1 b) w v:=by
 unfold Adm St;simp only[if_true];constructor
 ·rintro⟨h1,E⟩;refine⟨h1,?_⟩;rintro⟨x,y,G,rfl,H,T⟩;refine E ⟨b.run 0 y,⟨x,y,G,rfl,H,rfl⟩,?_⟩;rw[<-Bf];exact T
 rintro⟨h1,E⟩;refine⟨h1,?_⟩;rintro⟨q,⟨x,y,G,rfl,H,rfl⟩,T⟩;refine E ⟨x,y,G,rfl,H,?_⟩;show b.ok (b.run 0 (y++v))=Α;rw[Bf];exact T
theorem Po (a n s:Nat):(a ||| 2 ^ n).testBit s=Α↔a.testBit s=Α\/s=n:=by rw[Nat.testBit_or,Ô,Nat.testBit_two_pow,decide_eq_true_eq];exact⟨λh=>h.imp_right λe=>e.symm,λh=>h.imp_right λe=>e.symm⟩
def B8 (b:Dfa) (S c:Nat):Nat->Nat
 | 0=>0
 | n+1=>if S.testBit n then B8 b S c n ||| 2 ^ b.stp n c else B8 b S c n
theorem Qp (b:Dfa) (S c:Nat):∀ n t,(B8 b S c n).testBit t=Α↔∃ q,q<n/\S.testBit q=Α/\b.stp q c=t
 | 0,t=>by simp[B8]
 | n+1,t=>by
  have H:=Qp b S c n t;unfold B8;split
  ·rename_i h
   rw[Po,H];constructor
   ·rintro (⟨q,h1,E,G⟩|rfl)
    ·exact⟨q,by omega,E,G⟩
    exact⟨n,by omega,h,rfl⟩
   rintro⟨q,h1,E,G⟩;by_cases e:q=n
   ·subst e;exact .inr G.symm
   exact .inl ⟨q,by omega,E,G⟩
  rename_i h
  rw[H];constructor
  ·rintro⟨q,h1,E,G⟩;exact⟨q,by omega,E,G⟩
  rintro⟨q,h1,E,G⟩;refine⟨q,?_,E,G⟩;by_cases e:q=n
  ·subst e;exact absurd E h
  omega
def Et (a b:Dfa) (p S c:Nat):Nat:=if a.ok p then B8 b S c b.n.length ||| 2 ^ b.stp 0 c else B8 b S c b.n.length
theorem MG (a b:Dfa) (p S c t:Nat):(Et a b p S c).testBit t=Α↔(∃ q,q<b.n.length/\S.testBit q=Α/\b.stp q c=t)\/(a.ok p=Α/\t=b.stp 0 c):=by
 unfold Et;split
 ·rename_i h
  rw[Po,Qp];simp[h]
 rename_i h
 rw[Qp];simp[h]
def lnx (a b:Dfa) (s:Nat × Nat) (c:Nat):Nat × Nat:=(a.stp s.1 c,Et a b s.1 s.2 c)
theorem Nc {b:Dfa} (hb:Val b) (S c:Nat) (hc:c<256):∀ n,n<=b.n.length->B8 b S c n<2 ^ b.n.length
 | 0,_=>Nat.two_pow_pos _
 | n+1,G=>by
  have E:=Nc hb S c hc n (by omega);unfold B8;split
  ·exact Nat.or_lt_two_pow E (Nat.pow_lt_pow_right (by omega) (hb.stp_lt (by omega) hc))
  exact E
theorem M6 {a b:Dfa} (hb:Val b) (p S c:Nat) (hc:c<256):Et a b p S c<2 ^ b.n.length:=by
 have h:=Nc hb S c hc b.n.length (Υ _);unfold Et;split
 ·exact Nat.or_lt_two_pow h (Nat.pow_lt_pow_right (by omega) (hb.stp_lt hb.pos hc))
 exact h
theorem K0 {a b:Dfa} (hb:Val b) (w:List UInt8):(Ap (lnx a b) (0,0) w).1=a.run 0 w/\∀ q,(Ap (lnx a b) (0,0) w).2.testBit q=Α↔J8 a b w q:=by
 have key:∀ r:List UInt8,(Ap (lnx a b) (0,0) r.reverse).1=a.run 0 r.reverse/\∀ q,(Ap (lnx a b) (0,0) r.reverse).2.testBit q=Α↔J8 a b r.reverse q:=by
  intro r;induction r with
  | nil=>exact⟨rfl,λq=>⟨λh=>by simp[Ap] at h,λh=>absurd h (PX a b q)⟩⟩
  | cons c r E=>
   rw[List.reverse_cons,E1];refine⟨?_,λq=>?_⟩
   ·show a.stp (Ap (lnx a b) (0,0) r.reverse).1 c.toNat=_;rw[E.1,Bf];rfl
   show (Et a b (Ap (lnx a b) (0,0) r.reverse).1 (Ap (lnx a b) (0,0) r.reverse).2 c.toNat).testBit q=Α↔_;rw[MG,PW,E.1];refine or_congr ?_ Iff.rfl;constructor
   ·rintro⟨p,_,G,H⟩;exact⟨p,(E.2 p).1 G,H.symm⟩
   rintro⟨p,h1,G⟩;refine⟨p,?_,(E.2 p).2 h1,G.symm⟩;obtain⟨_,y,_,_,_,rfl⟩:=h1;exact hb.run_lt y hb.pos
 have:=key w.reverse
 rwa [List.reverse_reverse] at this
theorem PO {a b:Dfa} (H:Val a) {ρ:Nat->Option Dfa} (T:∀ s,s<a.n.length->(a.ok s=Α->∃ d,ρ s=I d/\Cano d/\∀ v,d.has v=Α↔b.has v=Α/\¬ Cat (Dp a s) (wd1 b) v)/\(a.ok s=Ε->ρ s=J))
  {os:List Opt} (hc:CollR a.stp ρ os):OptsOf Ε (wd1 a) (wd1 b) os:=by
 refine Zd hc (λw=>?_) λw d hd=>?_
 ·have E:=H.run_lt w H.pos;show a.ok (a.run 0 w)=Α↔∃ d,ρ (a.run 0 w)=I d;cases G:a.ok (a.run 0 w)
  ·simp[(T _ E).2 G]
  obtain⟨d,hd,_⟩:=(T _ E).1 G;simp[hd]
 have E:=H.run_lt w H.pos;have X:ρ (a.run 0 w)=I d:=hd;cases G:a.ok (a.run 0 w)
 ·rw[(T _ E).2 G] at X;cases X
 obtain⟨e,he,h1,h2⟩:=(T _ E).1 G;rw[X] at he;injection he with he
 subst he;exact⟨h1,λv=>(h2 v).trans (PR (B:=wd1 b))⟩
theorem NH {a b:Dfa} (ha:Val a) (hb:Val b) {c:Nat->Nat} {bs:List Nat} {ac:Nat × Nat->Bool} {l:List (Nat × Nat)} {t:Tbl} (hj:Joint (Am a.cls) (Am b.cls) c bs) (h:Expl c bs (0,0) (lnx a b) ac l t) {ρ:Nat->Option Dfa}
  (G:∀ i s,l[i]? = I s->(a.ok s.1=Α->∃ d,ρ i=I d/\Cano d/\∀ v,d.has v=Α↔b.has v=Α/\¬ ∃ q,s.2.testBit q=Α/\b.ok (b.run q v)=Α)/\(a.ok s.1=Ε->ρ i=J))
  {os:List Opt} (hc:CollR t.stp ρ os):OptsOf Α (wd1 a) (wd1 b) os:=by
 have hn:∀ s x,x<256->lnx a b s (bs.getD (c x) 0)=lnx a b s x:=λs x hx=>by
  obtain⟨_,h1,H⟩:=hj.rep x hx;have ea:∀ p,a.stp p (bs.getD (c x) 0)=a.stp p x:=λp=>by unfold Dfa.stp;rw[h1]
  have eb:∀ p,b.stp p (bs.getD (c x) 0)=b.stp p x:=λp=>by unfold Dfa.stp;rw[H]
  have ei:∀ S n,B8 b S (bs.getD (c x) 0) n=B8 b S x n:=λS n=>by
   induction n with
   | zero=>rfl
   | succ n X=>unfold B8;rw[X,eb]
  unfold lnx Et;rw[ea,ei,eb]
 have T:∀ w:List UInt8,l[t.run 0 w]? = I (Ap (lnx a b) (0,0) w):=by
  have key:∀ (w:List UInt8) i s,l[i]? = I s->l[t.run i w]? = I (Ap (lnx a b) s w):=λw=>by
   induction w with
   | nil=>intro i s hi;exact hi
   | cons x w X=>intro i s hi;have h1:=(h.tgt i s hi _ (hj.lt _ x.toNat_lt)).2;rw[hn s _ x.toNat_lt] at h1;refine X (t.stp i x.toNat) _ ?_;unfold Tbl.stp;rw[h.cell];exact h1
  exact λw=>key w 0 _ h.zero
 refine Zd hc (λw=>?_) λw d hd=>?_
 ·obtain⟨h1,H⟩:=K0 (a:=a) hb w;show a.ok (a.run 0 w)=Α↔∃ d,ρ (t.run 0 w)=I d;rw[<-h1];cases E:a.ok (Ap (lnx a b) (0,0) w).1
  ·simp[(G _ _ (T w)).2 E]
  obtain⟨d,hd,_⟩:=(G _ _ (T w)).1 E;simp[hd]
 obtain⟨h1,H⟩:=K0 (a:=a) hb w;have aa:ρ (t.run 0 w)=I d:=hd;cases E:a.ok (Ap (lnx a b) (0,0) w).1
 ·rw[(G _ _ (T w)).2 E] at aa;cases aa
 obtain⟨e,he,g1,g2⟩:=(G _ _ (T w)).1 E;rw[aa] at he;injection he with he
 subst he;refine⟨g1,λv=>(g2 v).trans (Iff.trans ?_ NL)⟩;simp only[H]
def F2 (f:Nat->Bool):Nat->Nat
 | 0=>0
 | n+1=>if f n=Α then F2 f n ||| 2 ^ n else F2 f n
theorem AJ (f:Nat->Bool):∀ n s,(F2 f n).testBit s=Α↔s<n/\f s=Α
 | 0,s=>by simp[F2]
 | n+1,s=>by
  have G:=AJ f n s;unfold F2;split
  ·rename_i h
   rw[Po,G];constructor
   ·rintro (⟨h1,E⟩|rfl)
    ·exact⟨by omega,E⟩
    exact⟨by omega,h⟩
   rintro⟨h1,E⟩;by_cases e:s=n
   ·exact .inr e
   exact .inl ⟨by omega,E⟩
  rename_i h
  rw[G];constructor
  ·rintro⟨h1,E⟩;exact⟨by omega,E⟩
  rintro⟨h1,E⟩;refine⟨?_,E⟩;by_cases e:s=n
  ·subst e;exact absurd E h
  omega
theorem Sb (f:Nat->Bool):∀ n,F2 f n<2 ^ n
 | 0=>by simp[F2]
 | n+1=>by
  have E:=Sb f n;have h1:2 ^ n<2 ^ (n+1):=Nat.pow_lt_pow_right (by omega) (by omega);unfold F2;split
  ·exact Nat.or_lt_two_pow (by omega) h1
  omega
def K3 (d:Dfa) (ok:Nat->Bool) (w:List UInt8) (S i s:Nat):Bool:=(d.ok s&&ok i)||(decide (i<w.length)&&S.testBit (d.stp s (w.getD i 0).toNat))
def F3 (d:Dfa) (L:Af) (w:List UInt8) (i S:Nat):Prop:=S<2 ^ d.n.length/\∀ s,s<d.n.length->(S.testBit s=Α↔F4 d L w i s)
theorem ML {d:Dfa} (hd:Val d) {L:Af} {w:List UInt8} {ok:Nat->Bool} {i S:Nat} (hi:i<=w.length) (T:ok i=Α↔L (w.drop i)) (H:i<w.length->F3 d L w (i+1) S):F3 d L w i (F2 (K3 d ok w S i) d.n.length):=by
 refine⟨Sb _ _,λs E=>?_⟩;rw[AJ,W7 hi];unfold K3;rw[Ô,ς,ς,decide_eq_true_eq,T];constructor
 ·rintro⟨_,h|⟨h1,G⟩⟩
  ·exact .inl h
  exact .inr ⟨h1,((H h1).2 _ (hd.stp_lt E (w.getD i 0).toNat_lt)).1 G⟩
 rintro (h|⟨h1,G⟩)
 ·exact⟨E,.inl h⟩
 exact⟨E,.inr ⟨h1,((H h1).2 _ (hd.stp_lt E (w.getD i 0).toNat_lt)).2 G⟩⟩
theorem MK {d:Dfa} (hd:Val d) {L:Af} {w:List UInt8} {i S:Nat} (hi:i<=w.length) (h:F3 d L w i S):(S % 2=1)↔Cat (wd1 d) L (w.drop i):=by
 have h0:=h.2 0 hd.pos;rw[Nat.testBit_zero,decide_eq_true_eq] at h0;rw[h0,Rb hi];constructor
 ·intro G;have e:d.run 0 (seg w i i)=0:=by rw[I2];rfl
  obtain⟨q,_,E⟩:=W6 (Υ i) (by rw[e];exact G);exact⟨q,E⟩
 rintro⟨q,E⟩;have:=Ra (Υ i) E.1 E;rw[I2] at this;exact this
structure EndInv (lz:Bool) (d:Dfa) (L:Af) (w:List UInt8) (i q s:Nat) (best:Option Nat):Prop where
 iq:i<=q
 qn:q<=w.length
 run:s=d.run 0 (seg w i q)
 non:best=J->F4 d L w q s/\∀ q',q'<q->¬ C0 d L w i q'
 som:∀ k,best=I k->lz=Ε/\C0 d L w i k/\k<q/\∀ q',q'<q->C0 d L w i q'->q'<=k
theorem RU {lz:Bool} {d:Dfa} {L:Af} {w:List UInt8} {i:Nat} (hi:i<=w.length) (h:∃ q,C0 d L w i q):EndInv lz d L w i i 0 J:=by refine⟨Υ _,hi,by rw[I2];rfl,λ_=>⟨?_,λq' E G=>by have:=G.1;omega⟩,λk H=>by cases H⟩;obtain⟨q,E⟩:=h;have:=Ra (Υ i) E.1 E;rw[I2] at this;exact this
section
variable {lz:Bool} {d:Dfa} {L:Af} {w:List UInt8} {i q s:Nat} {best:Option Nat}
theorem EndInv.here (h:EndInv lz d L w i q s best):C0 d L w i q↔d.ok s=Α/\L (w.drop q):=by unfold C0 Dfa.has;rw[<-h.run];exact⟨λg=>g.2.2,λg=>⟨h.iq,h.qn,g⟩⟩
theorem RW (h:EndInv Α d L w i q s best) (h1:d.ok s=Α) (E:L (w.drop q)):Hj Α d L w i q:=by
 refine⟨h.here.2 ⟨h1,E⟩,λq' G=>?_⟩;rw[if_pos rfl];cases hb:best with
 | some k=>have:=(h.som k hb).1;cases this
 | none=>
  by_cases H:q'<q
  ·exact absurd G ((h.non hb).2 q' H)
  omega
def L4 (c:Bool) (q:Nat) (best:Option Nat):Option Nat:=if c=Α then I q else best
theorem RV (h:EndInv lz d L w i q s best) {c:Bool} (hc:c=Α↔d.ok s=Α/\L (w.drop q)) (hl:lz=Α->c=Ε) (X:q<w.length) (hL:F4 d L w q s):EndInv lz d L w i (q+1) (d.stp s (w.getD q 0).toNat) (L4 c q best):=by
 have T:c=Α↔C0 d L w i q:=hc.trans h.here.symm;refine⟨by have:=h.iq;omega,X,?_,λhb=>?_,λk G=>?_⟩
 ·rw[FO w i q h.iq X,Bf,<-h.run];rfl
 ·unfold L4 at hb;cases E:c with
  | true=>rw[E,if_pos rfl] at hb;cases hb
  | false=>
   rw[E] at hb;simp only[Í,if_false] at hb;refine⟨?_,λq' aa H=>?_⟩
   ·rcases (W7 h.qn).1 hL with h1|h1
    ·have:=hc.2 h1;rw[E] at this;cases this
    exact h1.2
   by_cases e:q'=q
   ·subst e;have:=T.2 H;rw[E] at this;cases this
   exact (h.non hb).2 q' (by omega) H
 unfold L4 at G;cases E:c with
 | true=>
  rw[E,if_pos rfl] at G;injection G with G
  subst G;refine⟨?_,T.1 E,by omega,λq' aa _=>by omega⟩;cases hz:lz with
  | false=>rfl
  | true=>have:=hl hz;rw[E] at this;cases this
 | false=>
  rw[E] at G;simp only[Í,if_false] at G;obtain⟨h1,h2,h3,h4⟩:=h.som k G;refine⟨h1,h2,by omega,λq' aa H=>?_⟩;by_cases e:q'=q
  ·subst e;have:=T.2 H;rw[E] at this;cases this
  exact h4 q' (by omega) H
theorem RT (h:EndInv lz d L w i q s best) {c:Bool} (hc:c=Α↔d.ok s=Α/\L (w.drop q)) (hl:lz=Α->c=Ε) (H:q=w.length\/¬ F4 d L w q s):∃ k,L4 c q best=I k/\Hj lz d L w i k:=by
 have ab:c=Α↔C0 d L w i q:=hc.trans h.here.symm;have X:∀ q',q<q'->¬ C0 d L w i q':=λq' ag E=>by
  rcases H with H|H
  ·have:=E.2.1;omega
  have:=Ra h.iq (Nat.le_of_lt ag) E;rw[<-h.run] at this;exact H this
 cases aa:c with
 | true=>
  refine⟨q,rfl,ab.1 aa,λq' E=>?_⟩;cases hz:lz with
  | true=>have:=hl hz;rw[aa] at this;cases this
  | false=>
   simp only[Í,if_false];by_cases G:q<q'
   ·exact absurd E (X q' G)
   omega
 | false=>
  have ad:¬ C0 d L w i q:=λE=>by have:=ab.2 E;rw[aa] at this;cases this
  cases hb:best with
  | none=>
   exfalso
   obtain⟨ae,_⟩:=h.non hb;rw[h.run] at ae;obtain⟨q',h1,T⟩:=W6 h.iq ae;by_cases e:q'=q
   ·subst e;exact ad T
   exact X q' (by omega) T
  | some k=>
   obtain⟨h1,T,h3,h4⟩:=h.som k hb;refine⟨k,by simp[L4],T,λq' E=>?_⟩;rw[h1];simp only[Í,if_false];rcases Nat.lt_trichotomy q' q with G|e|G
   ·exact h4 q' G E
   ·subst e;exact absurd E ad
   exact absurd E (X q' G)
end
def L3:Option Nat->Int
 | none=>-1
 | some k=>(k:Nat)
theorem T9 (S s:Nat) (E:S<18446744073709551616):(bits BinOp.and ϩ ((S:Int) / 2 ^ s) 1==0)=!S.testBit s:=by
 have G:(S:Int) / 2 ^ s=((S / 2 ^ s:Nat):Int):=by rw[Int.natCast_ediv];simp
 rw[G,Nat.testBit_eq_decide_div_mod_eq,show (1:Int)=((1:Nat):Int) from rfl,u64_and_nat _ _ (Nat.lt_of_le_of_lt (Nat.div_le_self _ _) E) (by decide)];generalize S / 2 ^ s=m;rw[Nat.and_one_is_mod,ϴ];simp
 omega
theorem RS (lz:Bool) (d:Dfa) (hv:Val d) (hn:d.n.length<=64) (L:Af) (x:List UInt8) (cm:x.length<=4611686018427387900) (i:Nat) (hi:i<=x.length) (E:∃ q,C0 d L x i q) (ok:List Bool) (bh:∀ q,q<=x.length->(ok.getD q Ε=Α↔L (x.drop q))) (S:List Nat)
  (hS:∀ q,q<=x.length->F3 d L x q (S.getD q 0)) (g:Nat) (vb vl vS:Δ) (w:Γ) (hM:MachAt w g d) (hb:By w vb x) (hl:Sl w vl 1 (x.length+1) λq=>.bool (ok.getD q Ε)) (hs:Sl w vS 1 (x.length+1) λq=>.int γ (S.getD q 0:Nat)) :
  Ϟ Ι 52 #[η (I ⟨g,0,J⟩),vb,iv i,vl,vS,.bool lz] w λe w'=>∃ q,e=Ω (iv q)/\Hj lz d L x i q/\Ext w w':=by
 obtain⟨-,-,-,ba,oa,ca,-,h2,-,-,bq⟩:=hM.opened hv;obtain⟨ab,bb,ob,cb,rfl,ar,br⟩:=hb.split;obtain⟨bl,ol,cl,rfl,bw⟩:=Ü hl (by omega);obtain⟨bS,oS,cS,rfl,bz⟩:=Ü hs (by omega);have HM:=Z hM;have H2:=Z h2;have cq:=Z bq;have a1:=Z br;have b0:=Z (λq (hq:q<x.length+1)=>bw q (by omega));have b4:=Z (λq (hq:q<x.length+1)=>bz q (by omega));have b5:=Z bh;have b6:=Z hS;have HI:=Z (RU (lz:=lz) hi E);have HV:=Z hv;obtain⟨n,a7⟩:=Xq (x.length);have HN:=Z a7;rw[a7] at cm ar b0 b4 b5 b6 ⊢;clear hM h2 bq hb hl hs br bw bz bh hS E hv a7 hi;go_enter Tryz.func52,Tryz.ntmps52;go_wp2_with (fail);try go_step3
 go_wp2_with (fail);try go_step3
 go_wp2_with (fail);go_loopw [13,14,15] (λvs vb vq W=>∃ (q s:Nat) (best:Option Nat),q<=n/\vs=iv s/\vb=.int Χ (L3 best)/\vq=iv q/\Ext w W/\ϟ (EndInv lz d L x i q s best))
  (λ_ _ vq _=>n+1-(intOf vq).toNat)
 case atStart=>exact⟨i,0,J,by have:=HI.o.qn;rw[HN.o] at this;exact this,rfl,rfl,rfl,Κ w,HI⟩
 clear HI;obtain⟨q,s,best,hq,rfl,rfl,rfl,E,HI⟩:=hrel;have c2:=E.cell H2.o;have bc:s<d.n.length:=by rw[HI.o.run];exact HV.o.run_lt _ HV.o.pos
 have dd:s<64:=by omega
 have ca:=E.cell (cq.o s bc);have cl:=E.cell (b0.o q (by omega));have cs:=E.cell (b4.o q (by omega));have HB:=Z (b5.o q hq);obtain⟨b8,b9⟩:=b6.o q hq;have bd:S.getD q 0<18446744073709551616:=Ξ b8 (ϳ (by omega) hn);have ak:=T9 (S.getD q 0) s bd;have ae:=Z (b9 s bc);clear b8 b9;obtain⟨Sq,cc⟩:=Xq (S.getD q 0);rw[cc] at cs bd ak ae;clear cc;have ct:(Sq:Int)<18446744073709551616:=by omega
 obtain⟨o1,be⟩:=Xq (d.ok s);obtain⟨o2,cd⟩:=Xq (ok.getD q Ε);obtain⟨bt,cf⟩:=Xq (Sq.testBit s);rw[be] at ca;rw[cd] at cl HB;rw[cf] at ak ae;have cu:(0:Int)<=(Sq:Int):=by omega
 generalize (Sq:Int)=de at cs ak ct cu;clear bd;have cv:=Z be;clear be cd cf;have HC:ϟ ((o1&&o2)=Α↔d.ok s=Α/\L (x.drop q)):=Z (by rw[ς,HB.o,cv.o]);have bg:=Z (λ(hl:lz=Α->(o1&&o2)=Ε) (af:q<n) (hL:F4 d L x q s)=>RV HI.o HC.o hl (by rw[HN.o];exact af) hL);have an:=Z (λ(hl:lz=Α->(o1&&o2)=Ε) (h:q=n\/¬ F4 d L x q s)=>RT HI.o HC.o hl (by rw[HN.o];exact h));have f152:=λW (hW:Ext w W) (af:q<n)=>Z (Ke d HV.o g s bc (x.getD q 0) W (HM.o.ext hW))
 cases o1 with
 | false=>
  by_cases af:q=n
  ·subst af;obtain⟨k,G,H⟩:=an.o (λ_=>rfl) (.inl rfl);have HK:ϟ ((ϲ Χ (L3 best))=iv k):=Z (by have T:best=I k:=G;rw[T];rfl);have X:=Z H;clear G H ak;go_wp2;try rw[Exit.noGoto_ret]
   go_ret;exact⟨k,by rw[<-HK.o];rfl,X.o,E⟩
  have cg:¬ ((q:Int)=(n:Int)):=by omega
  cases bt with
  | false=>
   obtain⟨k,G,H⟩:=an.o (λ_=>rfl) (.inr λh=>by have:=ae.o.2 h;cases this);have HK:ϟ ((ϲ Χ (L3 best))=iv k):=Z (by have T:best=I k:=G;rw[T];rfl);have X:=Z H;clear G H;go_wp2;try rw[Exit.noGoto_ret]
   go_ret;exact⟨k,by rw[<-HK.o];rfl,X.o,E⟩
  | true=>
   have ag:=Z (bg.o (λ_=>rfl) (by omega) (ae.o.1 rfl));have ao:=ar (by omega);subst ao;have cx:=E.cell (a1.o q (by rw[HN.o];omega));have f152:=f152 wr E (by omega);obtain⟨y,hy⟩:=Xq (x.getD q 0);rw[hy] at cx f152 ag;clear hy;go_wp2_with (first
    | (go_at_call 59;(with_reducible refine f152.o.mono ?_);rintro e w2 ⟨rfl,aq⟩))
   go_roundw
   case rel=>exact⟨q+1,_,_,by omega,rfl,rfl,by go_num,E.t aq,ag⟩
   simp[intOf];omega
 | true=>
  cases o2 with
  | false=>
   by_cases af:q=n
   ·subst af;obtain⟨k,G,H⟩:=an.o (λ_=>rfl) (.inl rfl);have HK:ϟ ((ϲ Χ (L3 best))=iv k):=Z (by have T:best=I k:=G;rw[T];rfl);have X:=Z H;clear G H ak;go_wp2;try rw[Exit.noGoto_ret]
    go_ret;exact⟨k,by rw[<-HK.o];rfl,X.o,E⟩
   have cg:¬ ((q:Int)=(n:Int)):=by omega
   cases bt with
   | false=>
    obtain⟨k,G,H⟩:=an.o (λ_=>rfl) (.inr λh=>by have:=ae.o.2 h;cases this);have HK:ϟ ((ϲ Χ (L3 best))=iv k):=Z (by have T:best=I k:=G;rw[T];rfl);have X:=Z H;clear G H;go_wp2;try rw[Exit.noGoto_ret]
    go_ret;exact⟨k,by rw[<-HK.o];rfl,X.o,E⟩
   | true=>
    have ag:=Z (bg.o (λ_=>rfl) (by omega) (ae.o.1 rfl));have ao:=ar (by omega);subst ao;have cx:=E.cell (a1.o q (by rw[HN.o];omega));have f152:=f152 wr E (by omega);obtain⟨y,hy⟩:=Xq (x.getD q 0);rw[hy] at cx f152 ag;clear hy;go_wp2_with (first
     | (go_at_call 59;(with_reducible refine f152.o.mono ?_);rintro e w2 ⟨rfl,aq⟩))
    go_roundw
    case rel=>exact⟨q+1,_,_,by omega,rfl,rfl,by go_num,E.t aq,ag⟩
    simp[intOf];omega
  | true=>
   cases lz with
   | true=>
    have X:=Z (RW HI.o (HC.o.1 rfl).1 (HC.o.1 rfl).2);go_wp2;try rw[Exit.noGoto_ret]
    go_ret;exact⟨q,rfl,X.o,E⟩
   | false=>
    by_cases af:q=n
    ·subst af;obtain⟨k,G,H⟩:=an.o (λh=>by cases h) (.inl rfl);have HK:ϟ ((ϲ Χ (q:Int))=iv k):=Z (by have T:I q=I k:=G;injection T with T;rw[T]);have X:=Z H;clear G H ak;go_wp2;try rw[Exit.noGoto_ret]
     go_ret;exact⟨k,by rw[<-HK.o];rfl,X.o,E⟩
    have cg:¬ ((q:Int)=(n:Int)):=by omega
    cases bt with
    | false=>
     obtain⟨k,G,H⟩:=an.o (λh=>by cases h) (.inr λh=>by have:=ae.o.2 h;cases this);have HK:ϟ ((ϲ Χ (q:Int))=iv k):=Z (by have T:I q=I k:=G;injection T with T;rw[T]);have X:=Z H;clear G H;go_wp2;try rw[Exit.noGoto_ret]
     go_ret;exact⟨k,by rw[<-HK.o];rfl,X.o,E⟩
    | true=>
     have ag:=Z (bg.o (λh=>by cases h) (by omega) (ae.o.1 rfl));have ao:=ar (by omega);subst ao;have cx:=E.cell (a1.o q (by rw[HN.o];omega));have f152:=f152 wr E (by omega);obtain⟨y,hy⟩:=Xq (x.getD q 0);rw[hy] at cx f152 ag;clear hy;go_wp2_with (first
      | (go_at_call 59;(with_reducible refine f152.o.mono ?_);rintro e w2 ⟨rfl,aq⟩))
     go_roundw
     case rel=>exact⟨q+1,_,_,by omega,rfl,rfl,by go_num,E.t aq,ag⟩
     simp[intOf];omega
abbrev uv (n:Nat):Δ:=.int γ (n:Int)
theorem LP (f:Nat->Δ) (S:List Nat) (q:Nat):(S.map f).getD q (f 0)=f (S.getD q 0):=by rw[Ζ,Ζ,υ];cases S[q]?<;>rfl
theorem IntKind.wrap_i64_id {x:Int} (h0:-9223372036854775808<=x) (h1:x<9223372036854775808):å.wrap x=x:=by simp[IntKind.wrap,IntKind.bits,IntKind.signed];omega
theorem O3 (S s:Nat) (E:S<18446744073709551616):(bits BinOp.and ϩ ((S:Int) / 2 ^ s) 1==1)=S.testBit s:=by
 have G:(S:Int) / 2 ^ s=((S / 2 ^ s:Nat):Int):=by rw[Int.natCast_ediv];simp
 rw[G,Nat.testBit_eq_decide_div_mod_eq,show (1:Int)=((1:Nat):Int) from rfl,u64_and_nat _ _ (Nat.lt_of_le_of_lt (Nat.div_le_self _ _) E) (by decide)];generalize S / 2 ^ s=m;rw[Nat.and_one_is_mod,ϴ];simp
 omega
def LvOut (W:Γ) (v:Δ) (d:Dfa) (L:Af) (x:List UInt8) (n:Nat):Prop:=∃ S:List Nat,(∀ q,q<=n->F3 d L x q (S.getD q 0))/\Sl W v 1 (n+1) λq=>uv (S.getD q 0)
structure LvInv (d:Dfa) (L:Af) (x:List UInt8) (n b s:Nat) (f:Nat->Bool) (S:List Nat):Prop where
 len:S.length=n+1
 done:∀ q,b<q->q<=n->F3 d L x q (S.getD q 0)
 todo:∀ q,q<b->S.getD q 0=0
 cur:S.getD b 0=F2 f s
theorem MB {d:Dfa} {L:Af} {x:List UInt8} {n b s:Nat} {f:Nat->Bool} {S:List Nat} (h:LvInv d L x n b s f S) (hb:b<=n) (E:f s=Α):LvInv d L x n b (s+1) f (S.set b (S.getD b 0 ||| 2 ^ s)):=by
 have G:=h.len;refine⟨by rw[List.length_set];exact G,λq h1 H=>?_,λq T=>?_,?_⟩
 ·rw[Cd _ _ _ _ _ (by omega),if_neg (by omega)];exact h.done q h1 H
 ·rw[Cd _ _ _ _ _ (by omega),if_neg (by omega)];exact h.todo q T
 rw[Cd _ _ _ _ _ (by omega),if_pos rfl,h.cur];show _=if f s=Α then _ else _
 rw[if_pos E]
theorem MC {d:Dfa} {L:Af} {x:List UInt8} {n b s:Nat} {f:Nat->Bool} {S:List Nat} (h:LvInv d L x n b s f S) (E:f s=Ε):LvInv d L x n b (s+1) f S:=by
 refine⟨h.len,h.done,h.todo,?_⟩;rw[h.cur];show _=if f s=Α then _ else _
 rw[E];simp
theorem MM (d:Dfa) (hv:Val d) (hn:d.n.length<=64) (L:Af) (x:List UInt8) (dp:x.length<=1000000) (ok:List Bool) (cz:∀ q,q<=x.length->(ok.getD q Ε=Α↔L (x.drop q))) (g:Nat) (vb vl:Δ) (w:Γ) (hM:MachAt w g d) (hb:By w vb x)
  (hl:Sl w vl 1 (x.length+1) λq=>.bool (ok.getD q Ε)) :
  Ϟ Ι 51 #[η (I ⟨g,0,J⟩),vb,vl] w λe w'=>∃ v,e=Ω v/\LvOut w' v d L x x.length/\Ext w w':=by
 obtain⟨-,-,-,ba,oa,ca,-,h2,-,-,c5⟩:=hM.opened hv;obtain⟨ab,bb,ob,cb,rfl,c6,c7⟩:=hb.split;obtain⟨bl,ol,cl,rfl,c8⟩:=Ü hl (by omega);obtain⟨i0,hi,dr,dt,du⟩:=ϑ (show (Ι.info? 89).map (λi=>(i.zero,i.size,i.bytes))=I (I (.int γ 0),1,8) by kernel_rfl);have HM:=Z hM;have H2:=Z h2;have dx:=Z c5;have c9:=Z c7;have da:=Z (λq (hq:q<x.length+1)=>c8 q (by omega));have db:=Z cz;have HV:=Z hv;have b0:=Z c6;obtain⟨n,b4⟩:=Xq (x.length);have HN:=Z b4;rw[b4] at dp b0 da db ⊢;clear hM h2 c5 hb hl c7 c8 cz hv b4 c6;go_enter Tryz.func51,Tryz.ntmps51;go_upto_region 1 with (fail)
 go_upto_region 2 with (at_make;refine Ϛ _ rfl _ _ 117 rfl w.heap.size 89 i0 (.int γ 0) 1 Tryz.underlying117 hi dr dt Χ Χ _ _ (n+1) (by push_cast;rfl) (by push_cast;rfl) rfl rfl (by rw[du];omega) (by unfold maxLen;omega) (Υ _) ?_;intro w2 dc dd)
 have de:=(Κ w).grown dd (λk e=>by cases e);have b5:w2.ownsRow w.heap.size 89 1 (U (I ⟨w.heap.size,0,J⟩) (n+1) (n+1)) (n+1) ((ζ (n+1) 0).map uv):=by rw[<-B7];exact dc
 clear dc dd;obtain⟨go,bn⟩:=Xq (w.heap.size);rw[bn] at b5;simp only[bn];have b6:ϟ (w.heap.size=go):=Z bn;clear bn;go_wp2_with (fail);go_loopw [8] (λva W=>∃ (z:Int) (a:Nat) (S:List Nat),z+1=(a:Int)/\a<=n+1/\va=.int Χ z/\Ext w W/\W.ownsRow go 89 1 (U (I ⟨go,0,J⟩) (n+1) (n+1)) (n+1) (S.map uv)/\ϟ (S.length=n+1/\(∀ q,a<=q->q<=n->F3 d L x q (S.getD q 0))/\∀ q,q<a->S.getD q 0=0))
  (λva _=>(intOf va+1).toNat)
 case atStart=>exact⟨n,n+1,_,by push_cast;rfl,by omega,rfl,de,b5,Z ⟨by simp,λq h1 h2=>by omega,λq hq=>by simp[Ζ,hq]⟩⟩
 clear de b5;obtain⟨z,a,S,df,ha,rfl,E,G,HS⟩:=hrel;by_cases hz:z<0
 ·have ea:¬ (0:Int)<=z:=by omega
  have h0:a=0:=by omega
  have eb:=Z (λq (hq:q<=n)=>HS.o.2.1 q (by omega) hq);have ax:=HS.o.1;have ec:=Z (Sl.of_owns G (by omega) (uv 0));clear df ha h0;go_wp2;go_ret;exact⟨_,rfl,⟨S,eb.o,Sl.congr ec.o (λq _=>LP uv S q)⟩,E⟩
 obtain⟨b,rfl⟩:∃ b:Nat,z=b:=⟨z.toNat,by omega⟩;obtain rfl:a=b+1:=by omega
 have b8:b<=n:=by omega
 have ea:(0:Int)<=(b:Int):=by omega
 clear hz df ha;have c2:=E.cell H2.o;have b9:ϟ (LvInv d L x n b 0 (K3 d (λq=>ok.getD q Ε) x (S.getD (b+1) 0) b) S):=Z ⟨HS.o.1,λq h1 h2=>HS.o.2.1 q (by omega) h2,λq hq=>HS.o.2.2 q (by omega),HS.o.2.2 b (by omega)⟩;obtain⟨T,hT⟩:=Xq (S.getD (b+1) 0);have HT:ϟ (b<n->F3 d L x (b+1) T):=Z (λh=>by rw[<-hT];exact HS.o.2.1 (b+1) (by omega) (by omega));rw[hT] at b9;have ai:=Z hT;clear hT HS;go_upto_region 6 with (fail)
 clear c2;go_loopw [27] (λvs W=>∃ (s:Nat) (S':List Nat),s<=d.n.length/\vs=iv s/\Ext w W/\W.ownsRow go 89 1 (U (I ⟨go,0,J⟩) (n+1) (n+1)) (n+1) (S'.map uv)/\ϟ (LvInv d L x n b s (K3 d (λq=>ok.getD q Ε) x T b) S')/\ϟ (S'.getD (b+1) 0=T))
  (λvs _=>d.n.length-(intOf vs).toNat)
 case atStart=>exact⟨0,S,by omega,rfl,E,G,b9,ai⟩
 clear E G b9 ai;clear S;obtain⟨s,S,hs,rfl,E,G,HI,ai⟩:=hrel;by_cases bp:s<d.n.length
 ·have ed:s<64:=by omega
  have ca:=E.cell (dx.o s bp);have ax:=HI.o.len;have aa:=Z (show K3 d (λq=>ok.getD q Ε) x T b s=((d.ok s&&ok.getD b Ε)||(decide (b<x.length)&&T.testBit (d.stp s (x.getD b 0).toNat))) from rfl);have HY:=Z (MB HI.o b8);have br:=Z (MC HI.o);have dh:S.getD b 0<18446744073709551616:=by rw[HI.o.cur];exact Ξ (Sb _ s) (ϳ (by omega) (show s<=64 by omega))
  have cl:=A4 (E.cell (da.o b (by omega)));have co:=Aq 0 G ax.symm b (by rw[ax];omega);have dk:=Z (λ(h:b<n)=>Aq 0 G ax.symm (b+1) (by rw[ax];omega));have ay:=Z (My (S.getD b 0) s dh ed);obtain⟨cu,cf⟩:=Xq (S.getD b 0);rw[cf] at HY ay co;have cg:=Z cf;clear cf dh;have cj:ϟ ((S.set b (cu ||| 2 ^ s)).getD (b+1) 0=T):=Z (by rw[Cd _ _ _ _ _ (by omega),if_neg (by omega)];exact ai.o);have f152:=λ(e:EW wr)=>Z (Ke d HV.o g s bp (x.getD b 0) e.W (HM.o.ext (E.t e.ext)))
  have af:=Z ax;clear ax co;obtain⟨o1,ck⟩:=Xq (d.ok s);obtain⟨o2,cm⟩:=Xq (ok.getD b Ε);rw[ck] at ca;rw[cm] at cl;rw[ck,cm] at aa;clear ck cm;have ey:(s:Int)<=64:=by omega
  have ez:(b:Int)<(n:Int)+1:=by omega
  have az:å.wrap ((b:Int)+1)=(b:Int)+1:=IntKind.wrap_i64_id (by omega) (by omega);have a1:(0:Int)<=(b:Int)+1:=by omega
  have a6:((b:Int)+1).toNat=b+1:=by omega
  go_upto_region 8 with (fail)
  clear ca;cases o1 with
  | false=>
   by_cases ak:b<n
   ·have cn:(b:Int)<(n:Int):=by omega
    have ef:(b:Int)+1<(n:Int)+1:=by omega
    have cp:=b0.o (by omega);subst cp;have cx:=A4 (E.cell (c9.o b (by rw[HN.o];omega)));have X:=dk.o ak;rw[ai.o] at X;replace X:wr.cell? ⟨go,b+1,J⟩=I (.int γ (T:Int)):=X;have X:=A4 X;have bd:T<18446744073709551616:=Ξ (HT.o ak).1 (ϳ (by omega) hn);obtain⟨y,hy⟩:=Xq (x.getD b 0);rw[hy,show decide (b<x.length)=Α by rw[HN.o];simpa using ak] at aa;rw[hy] at cx f152;clear hy;have hr:=HV.o.stp_lt bp y.toNat_lt;obtain⟨r,be⟩:=Xq (d.stp s y.toNat);rw[be] at hr aa f152;clear be;have eg:r<64:=by omega
    have eh:(r:Int)<=64:=by omega
    have bf:=O3 T r bd;obtain⟨bt,bg⟩:=Xq (T.testBit r);rw[bg] at bf aa;clear bg;have cv:(0:Int)<=(T:Int):=by omega
    have cw:(T:Int)<18446744073709551616:=by omega
    generalize (T:Int)=ei at X bf cv cw;clear bd;cases bt with
    | false=>
     refine Cl (by kernel_rfl) (by kernel_rfl) ?_;iterate 30 (with_reducible refine Á (λK hK=>?_);go_simp;first|(refine hK _ ?_;clear hK K)|(apply Exists.intro;refine⟨λ_=>?_,hK _ ?_⟩;(with_reducible exact E0 (f152 _).o);clear hK K))
     refine Ë ?_;rintro _ ⟨e,rfl⟩;have ad:=E.t e.ext;have H:=Aa G e.ext;clear f152 az a1 a6 cl cx X G E;generalize e.W=w5 at *;have ae:=Z (br.o (by rw[aa.o];rfl));go_wp2_with (fail);go_roundw
     case rel=>exact⟨s+1,S,by omega,by go_num,ad,H,ae,ai⟩
     simp[intOf];omega
    | true=>
     refine Cl (by kernel_rfl) (by kernel_rfl) ?_;iterate 30 (with_reducible refine Á (λK hK=>?_);go_simp;first|(refine hK _ ?_;clear hK K)|(apply Exists.intro;refine⟨λ_=>?_,hK _ ?_⟩;(with_reducible exact E0 (f152 _).o);clear hK K))
     refine Ë ?_;rintro _ ⟨e,rfl⟩;have ad:=E.t e.ext;have H:=Aa G e.ext;clear f152 az a1 a6 cl cx X G E;generalize e.W=w5 at *;have ae:=Z (HY.o (by rw[aa.o];rfl));have co:=A4 (Aq 0 H af.o.symm b (by rw[af.o];omega));rw[cg.o] at co;go_upto_region 9 with (fail)
     refine I4 8 (by kernel_rfl) (by kernel_rfl) ?_;simp only[î,List.take_zero,ϸ,À];iterate 8 (with_reducible refine Á (λK hK=>?_);go_simp;(refine hK _ ?_;clear hK K))
     refine Ë ?_;rintro _ ⟨e2,rfl⟩;have bh:=ad.t e2.ext;have ah:=Aa H e2.ext;clear co H ad;generalize e2.W=w6 at *;have co:=Aq 0 ah af.o.symm b (by rw[af.o];omega);have fo:=ah.frozenAt b;obtain⟨ar,au⟩:=Ba ah b (cu ||| 2 ^ s);have bj:=Z ar;have bk:=Z (bh.grown au (λk e=>by cases e;exact Ñ b6.o));clear ar au;go_wp2_with (fail);go_roundw
     case rel=>exact⟨s+1,_,by omega,by go_num,by rw[ay.o];exact bk.o,by rw[ay.o];exact bj.o,ae,cj⟩
     simp[intOf];omega
   have cn:¬ ((b:Int)<(n:Int)):=by omega
   rw[show decide (b<x.length)=Ε by rw[HN.o];simpa using ak] at aa;refine Cl (by kernel_rfl) (by kernel_rfl) ?_;iterate 30 (with_reducible refine Á (λK hK=>?_);go_simp;first|(refine hK _ ?_;clear hK K)|(apply Exists.intro;refine⟨λ_=>?_,hK _ ?_⟩;(with_reducible exact E0 (f152 _).o);clear hK K))
   refine Ë ?_;rintro _ ⟨e,rfl⟩;have ad:=E.t e.ext;have H:=Aa G e.ext;clear f152 az a1 a6 cl G E;generalize e.W=w5 at *;have ae:=Z (br.o (by rw[aa.o];rfl));go_wp2_with (fail);go_roundw
   case rel=>exact⟨s+1,S,by omega,by go_num,ad,H,ae,ai⟩
   simp[intOf];omega
  | true=>
   cases o2 with
   | false=>
    by_cases ak:b<n
    ·have cn:(b:Int)<(n:Int):=by omega
     have ef:(b:Int)+1<(n:Int)+1:=by omega
     have cp:=b0.o (by omega);subst cp;have cx:=A4 (E.cell (c9.o b (by rw[HN.o];omega)));have X:=dk.o ak;rw[ai.o] at X;replace X:wr.cell? ⟨go,b+1,J⟩=I (.int γ (T:Int)):=X;have X:=A4 X;have bd:T<18446744073709551616:=Ξ (HT.o ak).1 (ϳ (by omega) hn);obtain⟨y,hy⟩:=Xq (x.getD b 0);rw[hy,show decide (b<x.length)=Α by rw[HN.o];simpa using ak] at aa;rw[hy] at cx f152;clear hy;have hr:=HV.o.stp_lt bp y.toNat_lt;obtain⟨r,be⟩:=Xq (d.stp s y.toNat);rw[be] at hr aa f152;clear be;have eg:r<64:=by omega
     have eh:(r:Int)<=64:=by omega
     have bf:=O3 T r bd;obtain⟨bt,bg⟩:=Xq (T.testBit r);rw[bg] at bf aa;clear bg;have cv:(0:Int)<=(T:Int):=by omega
     have cw:(T:Int)<18446744073709551616:=by omega
     generalize (T:Int)=ei at X bf cv cw;clear bd;cases bt with
     | false=>
      refine Cl (by kernel_rfl) (by kernel_rfl) ?_;iterate 30 (with_reducible refine Á (λK hK=>?_);go_simp;first|(refine hK _ ?_;clear hK K)|(apply Exists.intro;refine⟨λ_=>?_,hK _ ?_⟩;(with_reducible exact E0 (f152 _).o);clear hK K))
      refine Ë ?_;rintro _ ⟨e,rfl⟩;have ad:=E.t e.ext;have H:=Aa G e.ext;clear f152 az a1 a6 cl cx X G E;generalize e.W=w5 at *;have ae:=Z (br.o (by rw[aa.o];rfl));go_wp2_with (fail);go_roundw
      case rel=>exact⟨s+1,S,by omega,by go_num,ad,H,ae,ai⟩
      simp[intOf];omega
     | true=>
      refine Cl (by kernel_rfl) (by kernel_rfl) ?_;iterate 30 (with_reducible refine Á (λK hK=>?_);go_simp;first|(refine hK _ ?_;clear hK K)|(apply Exists.intro;refine⟨λ_=>?_,hK _ ?_⟩;(with_reducible exact E0 (f152 _).o);clear hK K))
      refine Ë ?_;rintro _ ⟨e,rfl⟩;have ad:=E.t e.ext;have H:=Aa G e.ext;clear f152 az a1 a6 cl cx X G E;generalize e.W=w5 at *;have ae:=Z (HY.o (by rw[aa.o];rfl));have co:=A4 (Aq 0 H af.o.symm b (by rw[af.o];omega));rw[cg.o] at co;go_upto_region 9 with (fail)
      refine I4 8 (by kernel_rfl) (by kernel_rfl) ?_;simp only[î,List.take_zero,ϸ,À];iterate 8 (with_reducible refine Á (λK hK=>?_);go_simp;(refine hK _ ?_;clear hK K))
      refine Ë ?_;rintro _ ⟨e2,rfl⟩;have bh:=ad.t e2.ext;have ah:=Aa H e2.ext;clear co H ad;generalize e2.W=w6 at *;have co:=Aq 0 ah af.o.symm b (by rw[af.o];omega);have fo:=ah.frozenAt b;obtain⟨ar,au⟩:=Ba ah b (cu ||| 2 ^ s);have bj:=Z ar;have bk:=Z (bh.grown au (λk e=>by cases e;exact Ñ b6.o));clear ar au;go_wp2_with (fail);go_roundw
      case rel=>exact⟨s+1,_,by omega,by go_num,by rw[ay.o];exact bk.o,by rw[ay.o];exact bj.o,ae,cj⟩
      simp[intOf];omega
    have cn:¬ ((b:Int)<(n:Int)):=by omega
    rw[show decide (b<x.length)=Ε by rw[HN.o];simpa using ak] at aa;refine Cl (by kernel_rfl) (by kernel_rfl) ?_;iterate 30 (with_reducible refine Á (λK hK=>?_);go_simp;first|(refine hK _ ?_;clear hK K)|(apply Exists.intro;refine⟨λ_=>?_,hK _ ?_⟩;(with_reducible exact E0 (f152 _).o);clear hK K))
    refine Ë ?_;rintro _ ⟨e,rfl⟩;have ad:=E.t e.ext;have H:=Aa G e.ext;clear f152 az a1 a6 cl G E;generalize e.W=w5 at *;have ae:=Z (br.o (by rw[aa.o];rfl));go_wp2_with (fail);go_roundw
    case rel=>exact⟨s+1,S,by omega,by go_num,ad,H,ae,ai⟩
    simp[intOf];omega
   | true=>
    refine Cl (by kernel_rfl) (by kernel_rfl) ?_;iterate 30 (with_reducible refine Á (λK hK=>?_);go_simp;first|(refine hK _ ?_;clear hK K)|(refine (if_neg (λh=>by simp[undef] at h)).mpr ?_;refine hK _ ?_;clear hK K)|(apply Exists.intro;refine⟨λ_=>?_,hK _ ?_⟩;(with_reducible exact E0 (f152 _).o);clear hK K))
    refine Ë ?_;rintro _ ⟨e,rfl⟩;have ad:=E.t e.ext;have H:=Aa G e.ext;clear f152 az a1 a6 cl G E;generalize e.W=w5 at *;have ae:=Z (HY.o (by rw[aa.o];rfl));have co:=A4 (Aq 0 H af.o.symm b (by rw[af.o];omega));rw[cg.o] at co;go_upto_region 9 with (fail)
    refine I4 8 (by kernel_rfl) (by kernel_rfl) ?_;simp only[î,List.take_zero,ϸ,À];iterate 8 (with_reducible refine Á (λK hK=>?_);go_simp;(refine hK _ ?_;clear hK K))
    refine Ë ?_;rintro _ ⟨e2,rfl⟩;have bh:=ad.t e2.ext;have ah:=Aa H e2.ext;clear co H ad;generalize e2.W=w6 at *;have co:=Aq 0 ah af.o.symm b (by rw[af.o];omega);have fo:=ah.frozenAt b;obtain⟨ar,au⟩:=Ba ah b (cu ||| 2 ^ s);have bj:=Z ar;have bk:=Z (bh.grown au (λk e=>by cases e;exact Ñ b6.o));clear ar au;go_wp2_with (fail);go_roundw
    case rel=>exact⟨s+1,_,by omega,by go_num,by rw[ay.o];exact bk.o,by rw[ay.o];exact bj.o,ae,cj⟩
    simp[intOf];omega
 obtain rfl:s=d.n.length:=by omega
 have HD:ϟ (S.length=n+1/\(∀ q,b<=q->q<=n->F3 d L x q (S.getD q 0))/\∀ q,q<b->S.getD q 0=0):=Z ⟨HI.o.len,λq h1 h2=>by
  by_cases e:q=b
  ·subst e;rw[HI.o.cur];exact ML HV.o (by rw[HN.o];exact b8) (db.o _ b8) (λh=>HT.o (by rw[<-HN.o];exact h))
  exact HI.o.done q (by omega) h2,HI.o.todo⟩
 go_wp2;go_roundw
 case rel=>exact⟨(b:Int)-1,b,S,by omega,by omega,by go_num,E,G,HD⟩
 (simp[intOf];try omega)
end Go.Proofs.YtilncahcpjlfnaaGreatDoor
