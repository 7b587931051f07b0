import Derived.Test.YtilncahcpjlfnaaGreatDoorN07
import Derived.Test.YtilncahcpjlfnaaGreatDoorN05
import Derived.Test.YtilncahcpjlfnaaGreatDoorN03
import Derived.Test.YtilncahcpjlfnaaGreatDoorN02
import Derived.Test.YtilncahcpjlfnaaGreatDoorN06
set_option linter.unusedVariables false
set_option linter.unusedSimpArgs false
set_option maxRecDepth 100000
set_option maxHeartbeats 8000000
open And renaming intro → í
open Bool renaming false → Ε, true → Α, eq_iff_iff → ϴ
open Classical renaming byContradiction → Å
open Go renaming World → Γ, Value → Δ, TypeId → ϫ, undef → δ, Calls → Ϟ, info_parts → ϑ, wpList_make_full → Ϛ, maxLen → ϐ, wpList_load_mid → é, setRow_heap → Φ, cell_of_row → Τ, wpList_append_lies → ϕ, cell_one_new → Õ, wpQuiet_step → Á, Oper → Ϭ, Operand → á, yielded → ð, bodyPost_ret → ω
open Go.Act renaming put → θ
open Go.Ending renaming returned → Ω
open Go.IntKind renaming i64 → Χ, u8 → â, i64 → å
open Go.Lib renaming hid → Z
open Go.Obj renaming cells → Β
open Go.Operand renaming tmp → ε
open Go.Proofs.Tryz renaming prog → Ι, underlying40 → Ρ, underlying22 → ϡ, underlying38 → Ý, underlying54 → ϝ
open Go.Region renaming wanted → Ϡ
open Go.RowKit renaming Hid → ϟ
open Go.Value renaming slice → U, pointer → η, tuple → ϙ, oneCell' → ξ, int → ϲ, slice → ό, bool → ψ
open Go.World renaming ownsRow → ϣ, ownsRow_lit → Ê, size_alloc → Ο
open List renaming getD_eq_getElem?_getD → Ζ, getElem?_eq_getElem → Θ, length_append → Ν, length_singleton → Ϥ, map_append → ϥ, setIfInBounds_toArray → Η, set_cons_zero → Μ, set_cons_succ → Λ, drop_eq_getElem_cons → ϱ, replicate → ζ, length_set → ο, getElem?_append_left → ϊ, drop_zero → À, append_assoc → ê, mem_iff_getElem → Û, mem_singleton → ϖ, range → π, mem_range → ώ, length_map → ι
open List.cons renaming injEq → ó
open Nat renaming le_refl → Υ, le_trans → μ, lt_of_lt_of_le → Ξ, le_of_eq → Ñ
open Ne renaming symm → þ
open Option renaming some → I, none → J, isSome → æ
open UInt8 renaming ofNat → ϔ
namespace Go.Proofs.YtilncahcpjlfnaaGreatDoor
open Go.RowKit Go.Shelf
theorem B6 {α:Type} {l:List α} {i:Nat} {v d:α} (h:i<l.length):(l.set i v).getD i d=v:=by rw[Ζ,List.getElem?_set_self h];rfl
theorem Be {α:Type} {l:List α} {i j:Nat} {v d:α} (h:j≠i):(l.set i v).getD j d=l.getD j d:=by rw[Ζ,List.getElem?_set_ne (þ h),<-Ζ]
structure NilX (W W':Γ):Prop where
 size:W.heap.size<=W'.heap.size
 cell:∀ a v,W.cell? a=I v->v≠U J 0 0->v≠η J->W'.cell? a=I v
 mach:∀ (g:Nat) cs fr,W.heap[g]? = I (Obj.cells cs 162 fr)->W'.heap[g]? = I (Obj.cells cs 162 fr)
theorem NilX.refl (W:Γ):NilX W W:=⟨Υ _,λ_ _ h _ _=>h,λ_ _ _ h=>h⟩
theorem NilX.trans {A B C:Γ} (h:NilX A B) (k:NilX B C):NilX A C:=⟨μ h.size k.size,λa v h1 E G=>k.cell a v (h.cell a v h1 E G) E G,λg cs fr h1=>k.mach g cs fr (h.mach g cs fr h1)⟩
theorem NilX.of_ext {A B:Γ} (h:Ext A B):NilX A B:=⟨h.size,λ_ _ h1 _ _=>h.cell h1,λ_ _ _ h1=>h.heap h1⟩
theorem NilX.fresh {A W W':Γ} (h:NilX A W) {g:Nat} (hg:W.grownBy W' (I g)) (H:A.heap.size<=g):NilX A W':=by
 refine⟨μ h.size hg.size,λa v h1 E G=>?_,λk cs fr h1=>?_⟩
 ·refine hg.cell (h.cell a v h1 E G) λe=>?_
  injection e with e
  have:=Γ.block_lt_of_cell? A a h1;omega
 have:=Al h1;exact (hg.block k (Ξ this h.size) (λe=>by injection e with e;omega)).trans (h.mach k cs fr h1)
theorem NilX.set {A W:Γ} (h:NilX A W) {base g o n ab size:Nat} {v x:Δ} {xs:List Δ} {e:ϫ} (G:W.ownsRow base e size (U (I ⟨g,0,J⟩) n ab) n xs) (he:e≠162) (hx:W.cell? ⟨g,o,J⟩=I x) (ad:x=U J 0 0\/x=.pointer J):NilX A (W.setCell ⟨g,o,J⟩ v):=by
 have H:=(G.stored o v).2;refine h.trans ⟨H.size,λa u h1 h2 h3=>?_,λk cs aj h1=>?_⟩
 ·have e1:W.setCell ⟨g,o,J⟩ v=W.setCells g o [v]:=rfl;rw[e1,Γ.cell?_setCells_out]
  ·exact h1
  intro hb T;apply Å;intro ah;have X:a.off=o:=by simp at ah;omega
  have ha:a=⟨g,o,J⟩:=by
   cases a
   simp at hb T X;subst hb T X;rfl
  subst ha;rw[hx] at h1;injection h1 with h1
  subst h1;rcases ad with e|e
  ·exact h2 e
  exact h3 e
 by_cases hk:k=g
 ·subst hk;rcases G.2 with⟨E,_⟩|⟨g',an,cur,E,_,hg,_⟩
  ·cases E
  injection E with E _ _
  injection E with E
  injection E with E _ _
  subst E;rw[hg] at h1;injection h1 with h1
  injection h1 with _ h1 _
  exact absurd h1 he
 exact (H.block k (Al h1) (λe=>hk (by injection e))).trans h1
theorem Sl.nilx {W W':Γ} {v:Δ} {k n:Nat} {f:Nat->Δ} (h:Sl W v k n f) (E:NilX W W') (G:∀ i,i<n*k->f i≠U J 0 0/\f i≠.pointer J):Sl W' v k n f:=by
 obtain⟨h1,h|⟨H,b,T,X,hv,hb,hc⟩⟩:=h
 ·exact⟨h1,.inl h⟩
 exact⟨h1,.inr ⟨H,b,T,X,hv,Ξ hb E.size,λi hi=>E.cell _ _ (hc i hi) (G i hi).1 (G i hi).2⟩⟩
theorem IsD.nilx {W W':Γ} {v:Δ} {d:Dfa} (G:Val d) (h:IsD W v d) (E:NilX W W'):IsD W' v d:=by
 obtain⟨vc,T,X,rfl,h1,⟨vs,aa,hN,H⟩,h3⟩:=h;refine⟨vc,T,X,rfl,Sl.nilx h1 E (λi _=>⟨λe=>(by cases e),λe=>(by cases e)⟩),⟨vs,aa,Sl.nilx hN E (λi hi=>?_),λi hi=>Sl.nilx (H i hi) E (λi _=>⟨λe=>(by cases e),λe=>(by cases e)⟩)⟩,Sl.nilx h3 E (λi _=>⟨λe=>(by cases e),λe=>(by cases e)⟩)⟩;have hi:i<d.n.length:=by simpa using hi
 obtain⟨b,af,ag,ae,_⟩:=Ü (H i hi) (by rw[G.row i hi];exact G.parts.pos);rw[ae];exact⟨λe=>(by cases e),λe=>(by cases e)⟩
theorem MachAt.nilx {W W':Γ} {g:Nat} {d:Dfa} (G:Val d) (h:MachAt W g d) (E:NilX W W'):MachAt W' g d:=by obtain⟨vc,H,T,h1,X⟩:=h;exact⟨vc,H,T,E.mach _ _ _ h1,X.nilx G E⟩
theorem LvOut.nilx {W W':Γ} {v:Δ} {d:Dfa} {L:Af} {x:List UInt8} {n:Nat} (h:LvOut W v d L x n) (E:NilX W W'):LvOut W' v d L x n:=by obtain⟨S,h1,G⟩:=h;exact⟨S,h1,Sl.nilx G E (λi _=>⟨λe=>(by cases e),λe=>(by cases e)⟩)⟩
def LatAt (W:Γ) (v:Δ) (L:Af) (x:List UInt8):Prop:=∃ ok:List Bool,(∀ q,q<=x.length->(ok.getD q Ε=Α↔L (x.drop q)))/\Sl W v 1 (x.length+1) λq=>.bool (ok.getD q Ε)
theorem LatAt.nilx {W W':Γ} {v:Δ} {L:Af} {x:List UInt8} (h:LatAt W v L x) (E:NilX W W'):LatAt W' v L x:=by obtain⟨ok,h1,G⟩:=h;exact⟨ok,h1,Sl.nilx G E (λi _=>⟨λe=>(by cases e),λe=>(by cases e)⟩)⟩
structure MtInv (W:Γ) (ds:List Dfa) (x:List UInt8) (M Lt Lv:List Δ) (k:Nat):Prop where
 m:∀ j,k<=j->j<ds.length->∃ g,M.getD j δ=η (I ⟨g,0,J⟩)/\MachAt W g (ds.getD j dN)
 l:∀ j,k<=j->j<=ds.length->LatAt W (Lt.getD j δ) (Bv (ds.drop j)) x
 v:∀ j,k<=j->j<ds.length->LvOut W (Lv.getD j δ) (ds.getD j dN) (Bv (ds.drop (j+1))) x x.length
 m0:∀ j,j<k->j<ds.length->M.getD j δ=η J
 l0:∀ j,j<k->j<=ds.length->Lt.getD j δ=U J 0 0
 v0:∀ j,j<k->j<ds.length->Lv.getD j δ=U J 0 0
theorem MtInv.nilx {W W':Γ} {ds:List Dfa} {x:List UInt8} {M Lt Lv:List Δ} {k:Nat} (h:MtInv W ds x M Lt Lv k) (hd:okD ds) (G:NilX W W'):MtInv W' ds x M Lt Lv k where
 m:=λj h1 E=>by obtain⟨g,e,hm⟩:=h.m j h1 E;exact⟨g,e,hm.nilx (hd j E).1 G⟩
 l:=λj h1 E=>(h.l j h1 E).nilx G
 v:=λj h1 E=>(h.v j h1 E).nilx G
 m0:=h.m0
 l0:=h.l0
 v0:=h.v0
theorem MtInv.step {W:Γ} {ds:List Dfa} {x:List UInt8} {M Lt Lv:List Δ} {k:Nat} (h:MtInv W ds x M Lt Lv (k+1)) (hk:k<ds.length) (hM:M.length=ds.length) (ad:Lt.length=ds.length+1) (ae:Lv.length=ds.length)
  {g:Nat} (h1:MachAt W g (ds.getD k dN)) {H T:Δ} (X:LatAt W H (Bv (ds.drop k)) x) (h3:LvOut W T (ds.getD k dN) (Bv (ds.drop (k+1))) x x.length) :
  MtInv W ds x (M.set k (η (I ⟨g,0,J⟩))) (Lt.set k H) (Lv.set k T) k where
 m:=λj G E=>by
  by_cases e:j=k
  ·subst e;exact⟨g,by rw[B6 (by omega)],h1⟩
  rw[Be e];exact h.m j (by omega) E
 l:=λj G E=>by
  by_cases e:j=k
  ·subst e;rw[B6 (by omega)];exact X
  rw[Be e];exact h.l j (by omega) E
 v:=λj G E=>by
  by_cases e:j=k
  ·subst e;rw[B6 (by omega)];exact h3
  rw[Be e];exact h.v j (by omega) E
 m0:=λj G E=>by rw[Be (by omega)];exact h.m0 j (by omega) E
 l0:=λj G E=>by rw[Be (by omega)];exact h.l0 j (by omega) E
 v0:=λj G E=>by rw[Be (by omega)];exact h.v0 j (by omega) E
structure PtN where
 xs:List RNode
 lz:Bool
abbrev pN:PtN:=⟨[],Ε⟩
def PatAt (W:Γ) (b o:Nat) (ps:List PtN):Prop:=∀ i,i<ps.length->∃ b' E G,W.rangeAt b (o+i*2) [U (I ⟨b',E,J⟩) (ps.getD i pN).xs.length G,.bool (ps.getD i pN).lz]/\RxAt W b' E (ps.getD i pN).xs
theorem PatAt.ext {W W':Γ} {b o:Nat} {ps:List PtN} (h:PatAt W b o ps) (E:Ext W W'):PatAt W' b o ps:=λi hi=>by obtain⟨b',G,H,h1,T⟩:=h i hi;exact⟨b',G,H,λj v X=>E.cell (h1 j v X),T.ext E⟩
structure DsOf (ps:List PtN) (ds:List Dfa):Prop where
 len:ds.length=ps.length
 at_:∀ i,i<ds.length->Dj (ps.getD i pN).xs [] (I (ds.getD i dN))/\Cano (ds.getD i dN)/\(ds.getD i dN).n.length<=64
theorem DsOf.unique {ps:List PtN} {ds E:List Dfa} (h:DsOf ps ds) (G:DsOf ps E):ds=E:=by
 refine List.ext_getElem (h.len.trans G.len.symm) λi h1 H=>?_
 have e:=AF _ _ (h.at_ i h1).1 (G.at_ i H).1;injection e with e
 rw[Ζ,Θ h1,Ζ,Θ H] at e;exact e
structure PatOk (ps:List PtN):Prop where
 pos:0<ps.length
 le:ps.length<=6
 part:∀ i,i<ps.length->VRx (ps.getD i pN).xs/\∀ r,Dj (ps.getD i pN).xs [] r->∃ d,r=I d/\Cano d/\d.n.length<=64
theorem OH:(Ι.info? 48).map (·.size)=I 2:=by kernel_rfl
theorem OG (E G:Δ):(Ι.info? 48).map (·.size)=I [E,G].length:=by kernel_rfl
theorem Sf (ps:List PtN) (hp:PatOk ps) (b o cz:Nat) (w:Γ) (hT:Tab w) (bw:0<w.heap.size) (h:PatAt w b o ps) :
  Ϟ Ι 28 #[U (I ⟨b,o,J⟩) ps.length cz] w λe w'=>∃ g ds,e=Ω (ϙ #[U (I ⟨g,0,J⟩) ps.length ps.length,.int Χ 0])/\DsOf ps ds/\DsAt w' g 0 ds/\Ext w w':=by
 have c3:=Z (λW (E:Ext w W)=>hT.below E.below bw);have HP:=Z hp;have HR:=Z h;obtain⟨i0,hi,c8,c9,da⟩:=ϑ X3;obtain⟨N,hN⟩:=Xq (ps.length);have db:=hp.pos;have dc:=hp.le;rw[hN] at db dc;rw[hN];have HN:=Z hN;have bz:=Κ w;have dr:((N:Int)==0)=Ε:=by simp;omega
 have dt:¬ (6:Int)<(N:Int):=by omega
 clear hp h hN hT;go_enter Tryz.func28,Tryz.ntmps28;go_upto_region 5 with (fail)
 go_upto_region 6 with (at_make;refine Ϛ _ rfl _ _ 31 rfl w.heap.size 40 i0 zD 3 Tryz.underlying31 hi c8 c9 Χ Χ _ _ N rfl rfl rfl rfl (by rw[da];omega) (by unfold ϐ;omega) (Υ _) ?_;intro w3 aw b0)
 have b4:=bz.grown b0 (λk e=>by cases e);have bb:Lds w3 w.heap.size N []:=⟨λi hi=>absurd hi (by simp),λj _ hj=>by rw[aw.cellAt j hj];exact Wv N j hj⟩;have b5:w.heap.size<=w.heap.size:=Υ _;generalize b6:w.heap.size=g at aw bb;have b5:w.heap.size<=g:=Ñ b6;clear b6 b0 bz;go_wp2_with (fail);go_loopw [21] (λv W=>∃ ds:List Dfa,ds.length<=N/\v=.int Χ ds.length/\Ext w W/\(∃ ys,W.ownsRow g 40 3 (U (I ⟨g,0,J⟩) N N) N ys)/\ϟ (Lds W g N ds)/\ϟ (∀ i,i<ds.length->Dj (ps.getD i pN).xs [] (I (ds.getD i dN))/\Cano (ds.getD i dN)/\(ds.getD i dN).n.length<=64))
  (λv _=>N-(intOf v).toNat)
 case atStart=>exact⟨[],by simp,rfl,b4,⟨_,aw⟩,Z bb,Z (λi hi=>absurd hi (by simp))⟩
 clear b4 aw bb;obtain⟨ds,du,rfl,hE,⟨ys,hO⟩,HL,HD⟩:=hrel;have de:ϟ (okD ds):=Z λi hi=>⟨(HD.o i hi).2.1.val,(HD.o i hi).2.2⟩
 by_cases bc:ds.length<N
 ·obtain⟨b',G,H,ay,az⟩:=(HR.o.ext hE) ds.length (by rw[HN.o];exact bc);obtain⟨a1,b7⟩:=HP.o.part ds.length (by rw[HN.o];exact bc);have b8:=Z b7;have dv:((ds.length:Nat):Int)<(N:Int):=by omega
  obtain⟨xs,bd⟩:=Xq ((ps.getD ds.length pN).xs);obtain⟨lz,b9⟩:=Xq ((ps.getD ds.length pN).lz);rw[bd] at a1 az ay b8;rw[b9] at ay;have df:=Z bd;have f95:∀ W,Ext wr W->ϟ (Ϟ Ι 40 #[U (I ⟨b',G,J⟩) xs.length H] W λe w'=>e=Ω (.int Χ 0)/\Ext W w'):=λW E=>Z (Oi xs a1 b' G H W (az.ext E))
  have f42:=λW (E:Ext wr W)=>Z (UZ xs a1 b' G H W (c3.o W (hE.t E)) (Ξ bw (hE.t E).size) (az.ext E))
  clear a1 az b7 bd b9;generalize xs.length=nx at *;generalize ca:ds.length=i at *;have T:=Z ca;clear ca;go_upto_region 9 with (first
   | (refine é rfl 48 (ε 24) rfl b (o+i*2) rfl _ _ ay Tryz.underlying48 rfl (OG _ _) ?_)
   | (refine Sr 48 (ε 6) (ε 25) rfl (Ad wr (Β #[U J 0 0,.bool Ε] 48)) OH rfl (by simp[ξ]) ?_))
  have be:=((Κ wr).alloc (Β #[U J 0 0,.bool Ε] 48)).setRow (Υ _) #[U (I ⟨b',G,J⟩) nx H,.bool lz];have H6:=Φ (wr.alloc (Β #[U J 0 0,.bool Ε] 48)) wr.heap.size _ #[U (I ⟨b',G,J⟩) nx H,.bool lz] _ _ (Ad wr (Β #[U J 0 0,.bool Ε] 48));obtain⟨w4,bh⟩:=Xq ((wr.alloc (Β #[U J 0 0,.bool Ε] 48)).setRow wr.heap.size #[U (I ⟨b',G,J⟩) nx H,.bool lz]);rw[bh] at be H6;simp only[bh];clear bh ay;have cb:=λW (E:Ext w4 W)=>(Τ W wr.heap.size 0 _ _ _ (E.heap H6)).trans (show (#[U (I ⟨b',G,J⟩) nx H,.bool lz]:Array Δ)[0]? = I (U (I ⟨b',G,J⟩) nx H) from rfl)
  have bj:=Z cb;have a6:=Z be;generalize wr.heap.size=g6 at *;clear be H6 cb;have c6:=bj.o w4 (Κ w4);go_upto_region 12 with (go_at_call 40;(with_reducible refine (f95 _ a6.o).o.mono ?_);rintro e w5 ⟨rfl,cc⟩)
  have bl:=Z cc;clear c6 cc;have c6:=bj.o w5 bl.o;go_upto_region 13 with (first
   | (go_at_call 17;(with_reducible refine (f42 _ (a6.o.t bl.o)).o.mono ?_);rintro e w6 ⟨q,bm,cd,cf⟩;obtain⟨X,aa,ab,ad,ae,af,ag,ah,ai,k1,rfl⟩:=bm.form;have bn:=Z bm;have cg:=Z cd;have dh:=Z ((a6.o.t bl.o).trans cf);clear bm cd cf)
   | (refine Sr 40 (ε 8) (ε 36) rfl (Ad w6 (Β #[U J 0 0,U J 0 0,U J 0 0] 40)) Ae rfl (Aw _ _ _ rfl rfl rfl) ?_))
  clear c6;obtain⟨a7,bo⟩:=Fm w6 (dA (U X aa ab) (U ad ae af) (U ag ah ai));obtain⟨w7,bp⟩:=Xq ((w6.alloc (Β #[U J 0 0,U J 0 0,U J 0 0] 40)).setRow w6.heap.size (dA (U X aa ab) (U ad ae af) (U ag ah ai)));rw[bp] at a7 bo;simp only[bp];clear bp;have a8:=dh.o.t a7;have dk:=Z (hE.t a8);have H8:=Z bo;have HL:=Z (HL.o.ext a8);have hO:=Aa hO a8;have bn:=Z (bn.o.ext a7);generalize w6.heap.size=g8 at *;clear a7 bo a8 hE f95 f42 bj a6;obtain⟨q,rfl,ck,dn⟩:=b8.o _ cg.o;obtain⟨rfl,cl⟩:=bn.o.some_inv;obtain⟨⟨zs,cm⟩,bq⟩:=Vt hO (i*3) (U X aa ab) (U ad ae af) (U ag ah ai);have br:=HL.o.store de.o (by rw[T.o];exact bc) ck.val cl (by rw[T.o];exact bq.size);rw[T.o] at br;have cn:w7.there g (i*3) 3:=λj hj=>by refine⟨?_,hO.frozenAt _⟩;rw[HL.o.nil (i*3+j) (by rw[T.o];omega) (by omega)];rfl
  have cp:=dk.o.grown bq (λk e=>by cases e;exact b5);have cq:=Z cn;have ct:=Z br;have cu:=Z cm;have cv:=Z cp;have dp:ϟ (∀ j,j<(ds++[q]).length->Dj (ps.getD j pN).xs [] (I ((ds++[q]).getD j dN))/\Cano ((ds++[q]).getD j dN)/\((ds++[q]).getD j dN).n.length<=64):=Z λj hj=>by
   rw[Ν,Ϥ] at hj;by_cases e:j<ds.length
   ·rw[B9 _ _ _ _ e];exact HD.o j (by rw[<-T.o];exact e)
   obtain rfl:j=ds.length:=by omega
   rw[Dt];refine⟨?_,ck,dn⟩;rw[T.o,df.o];exact cg.o
  have cw:ϟ ((ds++[q]).length=i+1):=Z (by rw[Ν,T.o];rfl);clear cl br cm bq cn cp hO;go_upto_region 16 with (first
   | (refine Lr 40 (ε 8) H8.o Ρ Ae ?_)
   | (refine wpList_store_mid rfl 40 (ε 44) (ε 43) rfl g (i*3) (dA (U X aa ab) (U ad ae af) (U ag ah ai)) rfl rfl cq.o Ae (Aw _ _ _ rfl rfl rfl) ?_))
  have cy:(dA (U X aa ab) (U ad ae af) (U ag ah ai)).toList=[U X aa ab,U ad ae af,U ag ah ai]:=rfl;rw[cy];obtain⟨w8,bt⟩:=Xq (w7.setCells g (i*3) [U X aa ab,U ad ae af,U ag ah ai]);rw[bt] at ct cu cv;rw[bt];clear bt cy cq;go_wp2;go_roundw
  case rel=>exact⟨ds++[q],by rw[cw.o];omega,by rw[cw.o];go_num,cv.o,⟨_,cu.o⟩,ct,dp⟩
  simp[intOf];omega
 obtain rfl:N=ds.length:=by omega
 have dq:=Z (DsOf.mk (ps:=ps) HN.o.symm HD.o);go_wp2;go_ret2;exact⟨g,ds,rfl,dq.o,HL.o.at_,hE⟩
theorem CV (ps:List PtN) (G:PatOk ps) (b o H:Nat) (w:Γ) (T:Tab w) (X:0<w.heap.size) (h:PatAt w b o ps) :
  Ϟ Ι 26 #[U (I ⟨b,o,J⟩) ps.length H] w λe w'=>e=Ω (.int Χ 0)/\Ext w w':=by
 have f106:=Z (Sf ps G b o H w T X h);obtain⟨N,E⟩:=Xq (ps.length);rw[E] at f106;rw[E];clear h G E;go_enter Tryz.func26,Tryz.ntmps26;go_wp2_with (go_at_call 28;(with_reducible refine f106.o.mono ?_);rintro e w2 ⟨g6,ds,rfl,-,-,aa⟩);go_ret;exact⟨rfl,aa⟩
theorem CW (w:Γ) :
  Ϟ Ι 26 #[U J 0 0] w λe w'=>e=Ω (.int Χ 1)/\Ext w w':=by
 have f106:ϟ (Ϟ Ι 28 #[U J 0 0] w λe w'=>e=Ω (ϙ #[U J 0 0,.int Χ 1])/\Ext w w'):=Z (by go_enter Tryz.func28,Tryz.ntmps28;go_wp2_with (fail);go_ret2;exact⟨rfl,Κ w⟩)
 go_enter Tryz.func26,Tryz.ntmps26;go_wp2_with (go_at_call 28;(with_reducible refine f106.o.mono ?_);rintro e G ⟨rfl,E⟩);go_ret;exact⟨rfl,E⟩
theorem RB (l:List UInt8) (v:Δ) (n:Nat) (hn:n<=1000) (w:Γ) (hl:ByW w v l) :
  Ϟ Ι 19 #[v,iv n] w λe w'=>∃ (x:List UInt8) (g c:Nat),e=Ω (U (I ⟨g,0,J⟩) x.length c)/\x.length<=n/\w'.ownsRow w.heap.size 5 1 (U (I ⟨g,0,J⟩) x.length c) x.length (x.map bv)/\Ext w w':=by
 obtain⟨j0,hj,ah,ai,aj⟩:=ϑ (show (Ι.info? 5).map (λi=>(i.zero,i.size,i.bytes))=I (I (.int .u8 0),1,1) by kernel_rfl);obtain⟨a,b,o,ca,rfl,ao,_,aq⟩:=hl.split;have bk:=hl.1;have HC:=Z (λ(W:Γ) (hW:Ext w W) i (hi:i<l.length)=>hW.cell (aq i hi));have HA:=Z ao;clear hl ao aq;have ar:=(Κ w).alloc (Β #[] 5);have au:ϣ (w.alloc (Β #[] 5)) w.heap.size 5 1 (U (I ⟨w.heap.size,0,J⟩) 0 0) 0 []:=Ê (base:=w.heap.size) (e:=5) (size:=1) w #[] 0 (Υ _) (by unfold ϐ;omega) rfl;go_enter Tryz.func19,Tryz.ntmps19;go_wp2_with (fail);go_loopw [5,6] (λvx vi W=>∃ (x:List UInt8) (g c:Nat),x.length<=n/\x.length<=l.length/\vx=U (I ⟨g,0,J⟩) x.length c/\vi=.int Χ x.length/\Ext w W/\W.ownsRow w.heap.size 5 1 (U (I ⟨g,0,J⟩) x.length c) x.length (x.map bv))
  (λ_ vi _=>n-(intOf vi).toNat)
 case atStart=>exact⟨[],_,_,by simp,by simp,rfl,rfl,ar,au⟩
 clear ar au;obtain⟨x,g,c,bb,bc,rfl,rfl,H,G⟩:=hrel;obtain⟨wo,be⟩:∃ W,W=wr:=⟨_,rfl⟩;subst be;have bl:=H.size;obtain⟨i,hi⟩:=Xq (x.length);rw[hi] at bb bc G;have E:=Z hi;simp only[hi];clear hi;by_cases aw:i<l.length/\i<n
 ·obtain⟨h1,h2⟩:=aw;have bm:(i:Int)<(l.length:Int):=by omega
  have bn:(i:Int)<(n:Int):=by omega
  obtain rfl:=HA.o (by omega);have cx:=HC.o wo H i h1;obtain⟨y,hy⟩:=Xq (l.getD i 0);rw[hy] at cx;have bo:=y.toNat_lt;clear hy;obtain⟨z,hz⟩:∃ z:UInt8,97+(y.toNat:Int) % 4=(z.toNat:Int):=⟨ϔ (97+y.toNat % 4),by rw[u8n _ (by omega)];omega⟩;have HZ:=Z hz;clear hz;have bg:(y.toNat:Int)<97\/(97<=(y.toNat:Int)/\(y.toNat:Int)<=100)\/100<(y.toNat:Int):=by omega
  rcases bg with h|h|h
  ·go_upto_region 8 with (fail)
   clear cx;rw[HZ.o,show (ϲ â (z.toNat:Int))=bv z from rfl];go_wp2_with (at_builtin;refine ϕ _ rfl _ _ 22 rfl w.heap.size 5 j0 (.int .u8 0) 1 1 ϡ hj ah ai aj rfl (by decide) _ _ _ rfl (G.alloc _) _ 1 1 [bv z] rfl rfl (Õ _ _ _) (by simp[ξ]) (by decide) (by unfold ϐ;omega) (by omega) (by simp;omega) _ rfl ?_;intro T X w7 aa ab a1 _);have ad:=(H.alloc (Β #[bv z] 5)).grown ab (λk e=>by have:=(G.lt k e).1;omega);go_roundw
   case rel=>exact⟨x++[z],T,X,by rw[Ν,E.o];simp;omega,by rw[Ν,E.o];simp;omega,by rw[Ν,E.o];rfl,by rw[Ν,E.o];go_num,ad,by rw[Ν,E.o,ϥ];exact aa⟩
   case measure=>simp[intOf];omega
  ·go_upto_region 8 with (fail)
   clear cx;clear HZ;clear z;obtain⟨z,rfl⟩:∃ z,z=y:=⟨_,rfl⟩
   go_wp2_with (at_builtin;refine ϕ _ rfl _ _ 22 rfl w.heap.size 5 j0 (.int .u8 0) 1 1 ϡ hj ah ai aj rfl (by decide) _ _ _ rfl (G.alloc _) _ 1 1 [bv z] rfl rfl (Õ _ _ _) (by simp[ξ]) (by decide) (by unfold ϐ;omega) (by omega) (by simp;omega) _ rfl ?_;intro T X w7 aa ab a1 _);have ad:=(H.alloc (Β #[bv z] 5)).grown ab (λk e=>by have:=(G.lt k e).1;omega);go_roundw
   case rel=>exact⟨x++[z],T,X,by rw[Ν,E.o];simp;omega,by rw[Ν,E.o];simp;omega,by rw[Ν,E.o];rfl,by rw[Ν,E.o];go_num,ad,by rw[Ν,E.o,ϥ];exact aa⟩
   case measure=>simp[intOf];omega
  go_upto_region 8 with (fail)
  clear cx;rw[HZ.o,show (ϲ â (z.toNat:Int))=bv z from rfl];go_wp2_with (at_builtin;refine ϕ _ rfl _ _ 22 rfl w.heap.size 5 j0 (.int .u8 0) 1 1 ϡ hj ah ai aj rfl (by decide) _ _ _ rfl (G.alloc _) _ 1 1 [bv z] rfl rfl (Õ _ _ _) (by simp[ξ]) (by decide) (by unfold ϐ;omega) (by omega) (by simp;omega) _ rfl ?_;intro T X w7 aa ab a1 _);have ad:=(H.alloc (Β #[bv z] 5)).grown ab (λk e=>by have:=(G.lt k e).1;omega);go_roundw
  case rel=>exact⟨x++[z],T,X,by rw[Ν,E.o];simp;omega,by rw[Ν,E.o];simp;omega,by rw[Ν,E.o];rfl,by rw[Ν,E.o];go_num,ad,by rw[Ν,E.o,ϥ];exact aa⟩
  case measure=>simp[intOf];omega
 by_cases h1:i<l.length
 ·have h2:¬ i<n:=λh=>aw ⟨h1,h⟩
  go_wp2;go_ret;exact⟨x,g,c,by rw[E.o];rfl,by rw[E.o];omega,by rw[E.o];exact G,H⟩
 go_wp2;go_ret;exact⟨x,g,c,by rw[E.o];rfl,by rw[E.o];omega,by rw[E.o];exact G,H⟩
theorem K7 {α:Type} [DecidableEq α] (l E:List α) (d:α) (h:l.length=E.length) (G:∀ q,q<l.length->l.getD q d=E.getD q d):l=E:=by apply List.ext_getElem h;intro i h1 H;have:=G i h1;rw[Ζ,Ζ,Θ h1,Θ H] at this;exact this
theorem FZ (l E:List Nat) (v v':Δ) (w:Γ) (h:Ints w v l) (h':Ints w v' E) :
  Ϟ Ι 38 #[v,v'] w λe w'=>e=Ω (.bool (decide (l=E)))/\Ext w w':=by
 obtain⟨a,c,rfl⟩:=Sl.len h;obtain⟨a',c',rfl⟩:=Sl.len h';by_cases T:l.length=E.length
 ·have hb:=h.1;have HC:ϟ (0<l.length->∃ b o b' H,a=I ⟨b,o,J⟩/\a'=I ⟨b',H,J⟩/\(∀ i,i<l.length->w.cell? ⟨b,o+i,J⟩=I (iv (l.getD i 0)))/\∀ i,i<l.length->w.cell? ⟨b',H+i,J⟩=I (iv (E.getD i 0))):=Z λh0=>by
   obtain⟨b,o,c1,e1,k1⟩:=Ü h h0;obtain⟨b',H,c2,e2,G⟩:=Ü h' (by omega);injection e1 with e1
   injection e2 with e2
   exact⟨b,o,b',H,e1,e2,λi hi=>k1 i (by omega),λi hi=>G i (by omega)⟩
  have HL:=Z T;rw[<-T];obtain⟨n,X⟩:=Xq (l.length);rw[X] at HC hb;rw[X];have HN:=Z X;clear h h' T X;go_enter Tryz.func38,Tryz.ntmps38;go_wp2_with (fail);go_loopw [5] (λvi W=>∃ j:Nat,j<=n/\vi=.int Χ j/\Ext w W/\ϟ (∀ q,q<j->l.getD q 0=E.getD q 0))
   (λvi _=>n-(intOf vi).toNat)
  case atStart=>exact⟨0,by omega,rfl,Κ w,Z λq hq=>by omega⟩
  obtain⟨j,hj,rfl,hE,HQ⟩:=hrel;by_cases ao:j<n
  ·obtain⟨b,o,b',H,rfl,rfl,k1,G⟩:=HC.o (by omega);have k1:=A4 (hE.cell (k1 j ao));have G:=A4 (hE.cell (G j ao));obtain⟨x,hx⟩:=Xq (l.getD j 0);obtain⟨y,hy⟩:=Xq (E.getD j 0);rw[hx] at k1;rw[hy] at G;have HX:=Z hx;have HY:=Z hy;clear hx hy;go_upto_region 6 with (fail)
   refine Cl (by kernel_rfl) (by kernel_rfl) ?_;iterate 9 (with_reducible refine Á (λK hK=>?_);go_simp;first|(refine hK _ ?_;clear hK K))
   refine wpQuiet_nil ?_;rintro _ ⟨e,rfl⟩;have au:=hE.t e.ext;clear k1 G;generalize e.W=w5 at *;by_cases aw:x=y
   ·have a1:(x:Int)=(y:Int):=by omega
    go_wp2;go_roundw
    case rel=>exact⟨j+1,by omega,by go_num,au,Z λq hq=>by
     by_cases a6:q<j
     ·exact HQ.o q a6
     obtain rfl:q=j:=by omega
     rw[HX.o,HY.o,aw]⟩
    case measure=>simp[intOf];omega
   have a1:¬ (x:Int)=(y:Int):=by omega
   have ai:ϟ (decide (l=E)=Ε):=Z (decide_eq_false λe=>aw (by rw[<-HX.o,<-HY.o,e]));go_wp2;go_ret;exact⟨by rw[ai.o];rfl,au⟩
  obtain rfl:j=n:=by omega
  have a7:ϟ (decide (l=E)=Α):=Z (decide_eq_true (K7 l E 0 HL.o λq hq=>HQ.o q (by rw[<-HN.o];exact hq)));go_wp2;go_ret;exact⟨by rw[a7.o];rfl,hE⟩
 have ai:ϟ (decide (l=E)=Ε):=Z (decide_eq_false λe=>T (by rw[e]));have bc:¬ (l.length:Int)=(E.length:Int):=by omega
 go_enter Tryz.func38,Tryz.ntmps38;go_wp2_with (fail);go_ret;exact⟨by rw[ai.o];rfl,Κ w⟩
def spF (l:List (Nat × Nat)) (i:Nat):Δ:=if i % 2=0 then iv (l.getD (i / 2) (0,0)).1 else iv (l.getD (i / 2) (0,0)).2
def SpV (W:Γ) (v:Δ) (l:List (Nat × Nat)):Prop:=Sl W v 2 l.length (spF l)
theorem SpV.ext {W W':Γ} {v:Δ} {l:List (Nat × Nat)} (h:SpV W v l) (E:Ext W W'):SpV W' v l:=Sl.ext h E
theorem Oy (l:List (Nat × Nat)) (j:Nat):spF l (j*2)=iv (l.getD j (0,0)).1:=by unfold spF;rw[if_pos (by omega),Nat.mul_div_cancel _ (by omega)]
theorem Ox (l:List (Nat × Nat)) (j:Nat):spF l (j*2+1)=iv (l.getD j (0,0)).2:=by unfold spF;rw[if_neg (by omega),show (j*2+1) / 2=j by omega]
theorem Ql (E G:Δ):(Ι.info? 60).map (·.size)=I [E,G].length:=by kernel_rfl
theorem RP (a b c d:Int) (w:Γ):(Op.equalIn 10000 60 (.agg #[.int Χ a,.int Χ b]) (.agg #[.int Χ c,.int Χ d])).run Ι w=.ok (a==c&&b==d) w:=by
 rw[run_equalIn_struct (P:=Ι) w 9999 60 _ _ (by kernel_rfl) (by kernel_rfl)];have e:∀ (x y:Int) (w:Γ),(Op.equalIn 9999 3 (.int Χ x) (.int Χ y)).run Ι w=.ok (x==y) w:=λx y w=>run_equalIn_int (P:=Ι) w 9998 3 Χ Χ x y Tryz.underlying3
 have H:∀ (a b:Int) (w:Γ),(part 3 #[.int Χ a,.int Χ b] 0).run Ι w=.ok (.int Χ a) w:=λa b w=>by kernel_rfl
 have E:∀ (a b:Int) (w:Γ),(part 3 #[.int Χ a,.int Χ b] 1).run Ι w=.ok (.int Χ b) w:=λa b w=>by kernel_rfl
 have h : (Ι.fieldsOf 60).toList.map (fun f => (decide (f.name ≠ "_"), f.type, f.offset)) = [(Α, 3, 0), (Α, 3, 1)] := by kernel_rfl
 generalize (Ι.fieldsOf 60).toList=G at h ⊢;rcases G with _|⟨f,_|⟨g,_|⟨k,G⟩⟩⟩
 ·simp at h
 ·simp at h
 ·simp only[List.map_cons,List.map_nil,ó,Prod.mk.injEq,decide_eq_true_eq,and_true] at h;obtain⟨⟨h1,T,X⟩,h4,h5,h6⟩:=h;simp only[Op.eqFields,h1,T,X,h4,h5,h6,ne_eq,not_false_eq_true,if_true,Sem.run_bind,H,E,Result.andThen_ok,e];cases a==c<;>cases hb:b==d<;>simp[E,e,hb]
 simp at h
theorem KR (a b c d:Int) (w:Γ):(binOp .neq 60 (.agg #[.int Χ a,.int Χ b]) (.agg #[.int Χ c,.int Χ d])).run Ι w=.ok (.bool (!(a==c&&b==d))) w:=by rw[run_neq_struct,RP];rfl
theorem T4 {W:Γ} {l:List (Nat × Nat)} {b o:Nat} (h:∀ i,i<l.length*2->W.cell? ⟨b,o+i,J⟩=I (spF l i)) (j:Nat) (G:j<l.length):W.rangeAt b (o+j*2) [iv (l.getD j (0,0)).1,iv (l.getD j (0,0)).2]:=λi v E=>by
 rcases i with _|_|i
 ·have:=h (j*2) (by omega);rw[Oy] at this;have E:iv (l.getD j (0,0)).1=v:=by simpa using E
  rw[<-E];exact this
 ·have:=h (j*2+1) (by omega);rw[Ox] at this;have E:iv (l.getD j (0,0)).2=v:=by simpa using E
  rw[<-E,<-this]
  congr 2
 simp at E
theorem FY (l E:List (Nat × Nat)) (v v':Δ) (w:Γ) (h:SpV w v l) (h':SpV w v' E) :
  Ϟ Ι 25 #[v,v'] w λe w'=>e=Ω (.bool (decide (l=E)))/\Ext w w':=by
 obtain⟨a,c,rfl⟩:=Sl.len h;obtain⟨a',c',rfl⟩:=Sl.len h';by_cases X:l.length=E.length
 ·have hb:=h.1;have HC:ϟ (0<l.length->∃ b o b' H,a=I ⟨b,o,J⟩/\a'=I ⟨b',H,J⟩/\(∀ j,j<l.length->w.rangeAt b (o+j*2) [iv (l.getD j (0,0)).1,iv (l.getD j (0,0)).2])/\∀ j,j<l.length->w.rangeAt b' (H+j*2) [iv (E.getD j (0,0)).1,iv (E.getD j (0,0)).2]):=Z λh0=>by
   obtain⟨b,o,c1,e1,k1⟩:=Ü h h0;obtain⟨b',H,c2,e2,k2⟩:=Ü h' (by omega);injection e1 with e1
   injection e2 with e2
   exact⟨b,o,b',H,e1,e2,λj hj=>T4 k1 j hj,λj hj=>T4 k2 j (by omega)⟩
  have HL:=Z X;rw[<-X];obtain⟨n,hn⟩:=Xq (l.length);rw[hn] at HC hb;rw[hn];have HN:=Z hn;clear h h' X hn;go_enter Tryz.func25,Tryz.ntmps25;go_wp2_with (fail);go_loopw [5] (λvi W=>∃ j:Nat,j<=n/\vi=.int Χ j/\Ext w W/\ϟ (∀ q,q<j->l.getD q (0,0)=E.getD q (0,0)))
   (λvi _=>n-(intOf vi).toNat)
  case atStart=>exact⟨0,by omega,rfl,Κ w,Z λq T=>by omega⟩
  obtain⟨j,hj,rfl,hE,HQ⟩:=hrel;by_cases az:j<n
  ·obtain⟨b,o,b',H,rfl,rfl,k1,k2⟩:=HC.o (by omega);have K1:=Z (λV (G:Ext w V) i v hv=>G.cell (k1 j az i v hv));have K2:=Z (λV (G:Ext w V) i v hv=>G.cell (k2 j az i v hv));clear k1 k2;obtain⟨x,hx⟩:=Xq (l.getD j (0,0));obtain⟨y,hy⟩:=Xq (E.getD j (0,0));rw[hx] at K1;rw[hy] at K2;have HX:=Z hx;have HY:=Z hy;clear hx hy;go_upto_region 6 with (fail)
   refine Bq 8 [(0,Α),(1,Α),(2,Α),(3,Α),(4,Α),(5,Α),(6,Α),(7,Α),(8,Ε)] (by kernel_rfl) (by kernel_rfl) (λ_ _ _ _ h=>h) (λV=>Ext w V) (hE.t (Κ wr).drew) ?_;have an:=hE.t (Κ wr).drew;obtain⟨w5,ao⟩:=Xq (wr.drew);rw[ao] at an;rw[ao];clear ao;iterate 3
    refine Ai (v:=?_) rfl rfl (λV G=>?_) ?_
    rotate_left
    ·clear G;go_simp;first|done|with_reducible rfl
    simp only[θ,Η,Μ,Λ]
   refine Ai (v:=.agg #[iv x.1,iv x.2]) rfl rfl (λV G=>?_) ?_
   ·exact Cj 60 (ε 19) rfl b (o+j*2) rfl _ _ (K1.o V G) Tryz.underlying60 rfl (Ql _ _)
   simp only[θ,Η,Μ,Λ];iterate 3
    refine Ai (v:=?_) rfl rfl (λV G=>?_) ?_
    rotate_left
    ·clear G;go_simp;first|done|with_reducible rfl
    simp only[θ,Η,Μ,Λ]
   refine Ai (v:=.agg #[iv y.1,iv y.2]) rfl rfl (λV G=>?_) ?_
   ·exact Cj 60 (ε 23) rfl b' (H+j*2) rfl _ _ (K2.o V G) Tryz.underlying60 rfl (Ql _ _)
   simp only[θ,Η,Μ,Λ];have T:=KR x.1 x.2 y.1 y.2;obtain⟨bx,aq⟩:=Xq ((!((x.1:Int)==(y.1:Int)&&(x.2:Int)==(y.2:Int))));rw[aq] at T;have ba:=Z aq;clear aq;refine Ao rfl (λKk hK=>?_);go_simp;refine hK _ _ (λh=>absurd h (by omega)) ?_;clear hK Kk;refine Bn ?_;cases bx with
   | false=>
    have ar:x=y:=by have:=ba.o;simp at this;exact Prod.ext (by omega) (by omega)
    go_wp2;go_roundw
    case rel=>exact⟨j+1,by omega,by go_num,an,Z λq T=>by
     by_cases bf:q<j
     ·exact HQ.o q bf
     obtain rfl:q=j:=by omega
     rw[HX.o,HY.o,ar]⟩
    case measure=>simp[intOf];omega
   | true=>
    have ar:x≠y:=λh=>by have:=ba.o;rw[h] at this;simp at this
    have au:ϟ (decide (l=E)=Ε):=Z (decide_eq_false λe=>ar (by rw[<-HX.o,<-HY.o,e]));go_wp2;go_ret;exact⟨by rw[au.o];rfl,an⟩
  obtain rfl:j=n:=by omega
  have bg:ϟ (decide (l=E)=Α):=Z (decide_eq_true (K7 l E (0,0) HL.o λq T=>HQ.o q (by rw[<-HN.o];exact T)));go_wp2;go_ret;exact⟨by rw[bg.o];rfl,hE⟩
 have au:ϟ (decide (l=E)=Ε):=Z (decide_eq_false λe=>X (by rw[e]));have bk:¬ (l.length:Int)=(E.length:Int):=by omega
 go_enter Tryz.func25,Tryz.ntmps25;go_wp2_with (fail);go_ret;exact⟨by rw[au.o];rfl,Κ w⟩
def pts (ps:List PtN) (ds:List Dfa):List Pt:=List.zipWith (λp d=>(⟨d,p.lz⟩:Pt)) ps ds
theorem Gb {ps:List PtN} {ds:List Dfa} (h:ds.length=ps.length):(pts ps ds).map (·.d)=ds:=by unfold pts;rw[List.map_zipWith];exact List.ext_getElem (by simp[h]) λi h1 E=>by simp
theorem Pf {ps:List PtN} {ds:List Dfa} (h:ds.length=ps.length) {j:Nat} (E:j<ds.length):(pts ps ds).drop j=⟨ds.getD j dN,(ps.getD j pN).lz⟩::(pts ps ds).drop (j+1):=by
 have G:j<(pts ps ds).length:=by simp[pts,h];omega
 rw[ϱ G];simp[pts,Ζ,Θ E,Θ (h▸E)]
theorem U9 {ps:List PtN} {ds:List Dfa} (h:ds.length=ps.length) (j:Nat):((pts ps ds).drop j).map (·.d)=ds.drop j:=by rw[List.map_drop,Gb h]
theorem Zz {ds:List Dfa} {j:Nat} (E:j<ds.length):Bv (ds.drop j)=Cat (wd1 (ds.getD j dN)) (Bv (ds.drop (j+1))):=by rw[ϱ E,Ζ,Θ E];rfl
def MatOut (W:Γ) (e:Ending) (ps:List PtN) (x:List UInt8):Prop:=∃ ds,DsOf ps ds/\((¬ Bv ds x/\e=Ω (ϙ #[U J 0 0,.bool Ε]))\/∃ l v,Cw (pts ps ds) x 0 l/\SpV W v l/\e=Ω (ϙ #[v,.bool Α]))
theorem WB (S:Nat) (E:S<18446744073709551616):(bits BinOp.and IntKind.u64 (S:Int) 1==1)=decide (S % 2=1):=by
 rw[show (1:Int)=((1:Nat):Int) from rfl,u64_and_nat _ _ E (by decide),Nat.and_one_is_mod,ϴ];simp
 omega
theorem Jc (z:Δ) (n:Nat):(madeCells #[z] (n*1)).toList=ζ n z:=by rw[Nat.mul_one,toList_madeCells_one]
theorem Jl {α:Type} (n j:Nat) (z d:α) (h:j<n):(ζ n z).getD j d=z:=by simp[Ζ,h]
theorem C3 {W:Γ} {base e g n E:Nat} {xs:List Δ} (h:W.ownsRow base e 1 (U (I ⟨g,0,J⟩) n E) n xs) (k:Nat) (G:k<xs.length):W.cell? ⟨g,k,J⟩=I (xs.getD k δ):=by have H:xs.length=n*1:=h.1;rw[ϣ.cellAt h k (by omega),Ζ,Θ G];rfl
theorem De {W:Γ} {base e g n E:Nat} {xs:List Δ} (h:W.ownsRow base e 1 (U (I ⟨g,0,J⟩) n E) n xs):xs.length=n:=by have G:xs.length=n*1:=h.1;omega
theorem Cb {W:Γ} {base e s g n E:Nat} {xs:List Δ} (_h:W.ownsRow base e s (U (I ⟨g,0,J⟩) n E) n xs) {k:Nat} (G:g≠k):(ό (I ⟨g,0,J⟩) n E).ownBlock=J\/(ό (I ⟨g,0,J⟩) n E).ownBlock≠I k:=.inr (by simp[Δ.ownBlock];exact G)
theorem Kj {P:Program} {ops:Array Ϭ} {o:Ϭ} {a:Act} {w:Γ} {K:Act->Γ->Prop} {Q:Exit->Act->Γ->Prop} {E:Prop} (ty:ϫ) (x y:á) (H:o.op=.store ty x y) (T:o.guard=J)
  (b G:Nat) (cells:Array Δ) (hx:a.eval x=η (I ⟨b,G,J⟩)) (X:a.eval y=.agg cells) (ht:w.there b G cells.size) (hi:(P.info? ty).map (·.size)=I cells.size) (h1:cells.all (·.oneCell')=Α)
  (h:K (a.put o.dst δ) (w.setCells b G cells.toList)):if Ϡ o (ð ops a.tmps)=Α then Ϭ.wp P o a w K Q else E:=by
 have hw:Ϡ o (ð ops a.tmps)=Α:=by simp[Ϡ,T]
 rw[if_pos hw];exact wp_store_mid ty x y H b G cells hx X ht hi h1 h
theorem UC (a b:Int):Ι.built 60 [(0,.int Χ a),(1,.int Χ b)]=I #[.int Χ a,.int Χ b]:=by kernel_rfl
theorem IT {W:Γ} {base e g n E size:Nat} {xs:List Δ} (h:W.ownsRow base e size (U (I ⟨g,0,J⟩) n E) n xs) (o:Nat) (a b:Δ) :
  (W.setCells g o [a,b]).ownsRow base e size (U (I ⟨g,0,J⟩) n E) n ((xs.set o a).set (o+1) b)/\W.grownBy (W.setCells g o [a,b]) (I g):=by
 have h0:=h.stored o a;have h1:=h0.1.stored (o+1) b;exact⟨h1.1,h0.2.trans h1.2⟩
theorem FD {l:List (Nat × Nat)} {xs:List Δ} {a q:Nat} (hx:l.length*2+1<xs.length) (h:∀ i,i<l.length*2->xs.getD i δ=spF l i) (i:Nat) (hi:i<(l++[(a,q)]).length*2) :
  ((xs.set (l.length*2) (iv a)).set (l.length*2+1) (iv q)).getD i δ=spF (l++[(a,q)]) i:=by
 rw[Ν,Ϥ] at hi;by_cases E:i=l.length*2+1
 ·subst E;rw[B6 (by rw[ο];omega),Ox];simp[Ζ]
 rw[Be E];by_cases G:i=l.length*2
 ·subst G;rw[B6 (by omega),Oy];simp[Ζ]
 rw[Be G,h i (by omega)];unfold spF;have:i / 2<l.length:=by omega
 simp[Ζ,ϊ this]
theorem Wn (ps:List PtN) (hp:PatOk ps) (x:List UInt8) (hx:x.length<=1000) (b o ga:Nat) (vb:Δ) (w:Γ) (hT:Tab w) (gb:0<w.heap.size) (h:PatAt w b o ps) (hb:By w vb x) :
  Ϟ Ι 21 #[U (I ⟨b,o,J⟩) ps.length ga,vb] w λe w'=>MatOut w' e ps x/\Ext w w':=by
 obtain⟨ab,bb,ob,cb,rfl,jc,jd⟩:=hb.split;have lv:=Z (λW (hW:Ext w W)=>hT.below hW.below gb);have HP:=Z hp;have je:=Z h;obtain⟨iM,jg,jh,ji,jk⟩:=ϑ (show (Ι.info? 115).map (λi=>(i.zero,i.size,i.bytes))=I (I (.pointer J),1,8) by kernel_rfl);obtain⟨iL,jm,jn,jo,jq⟩:=ϑ (show (Ι.info? 38).map (λi=>(i.zero,i.size,i.bytes))=I (I (U J 0 0),1,24) by kernel_rfl);obtain⟨iV,js,jt,ju,jv⟩:=ϑ (show (Ι.info? 117).map (λi=>(i.zero,i.size,i.bytes))=I (I (U J 0 0),1,24) by kernel_rfl);obtain⟨iB,hiB,gi,gk,gl⟩:=ϑ (show (Ι.info? 4).map (λi=>(i.zero,i.size,i.bytes))=I (I (.bool Ε),1,1) by kernel_rfl);have f106:=Z (Sf ps hp b o ga w hT gb h);obtain⟨n,da⟩:=Xq (x.length);obtain⟨m,dv⟩:=Xq (ps.length);have jw:=hp.pos;have jx:=hp.le;rw[dv] at jw jx f106;rw[da] at hx;simp only[dv,da];rw[da] at hb;have HB:=Z hb;have G:=Z da;have ep:=Z dv;clear hp h hb hT jc jd da dv;go_enter Tryz.func21,Tryz.ntmps21;go_upto_region 2 with (go_at_call 28;(with_reducible refine f106.o.mono ?_);rintro e w2 ⟨g6,ds,rfl,db,gp,er⟩)
 have dc:=Z er;have dd:=Z db;have jz:=Z gp;have T:ϟ (ds.length=m):=Z (by rw[db.len,ep.o]);have cw:ϟ (okD ds):=Z λi hi=>⟨(db.at_ i hi).2.1.val,(db.at_ i hi).2.2⟩
 have j0:=er.size;clear er db gp f106;go_upto_region 5 with (at_make;refine Ϛ _ rfl _ _ 112 rfl w2.heap.size 115 iM (.pointer J) 1 Tryz.underlying112 jg jh ji Χ Χ _ _ m rfl rfl rfl rfl (by rw[jk];omega) (by unfold ϐ;omega) (Υ _) ?_;intro w3 aq de)
 have H:Ext w2 w3:=(Κ w2).grown de (λk e=>by cases e);have aq:w3.ownsRow w2.heap.size 115 1 (U (I ⟨w2.heap.size,0,J⟩) m m) m (ζ m (.pointer J)):=by rw[<-Jc];exact aq
 have s3:w2.heap.size<w3.heap.size:=(aq.lt _ rfl).2;go_upto_region 6 with (at_make;refine Ϛ _ rfl _ _ 113 rfl w3.heap.size 38 iL (U J 0 0) 1 Tryz.underlying113 jm jn jo Χ Χ _ _ (m+1) (by push_cast;rfl) (by push_cast;rfl) rfl rfl (by rw[jq];omega) (by unfold ϐ;omega) (Υ _) ?_;intro w4 ai bn)
 have b7:=H.grown bn (λk e=>by cases e);have bd:=Bz aq bn;have ai:w4.ownsRow w3.heap.size 38 1 (U (I ⟨w3.heap.size,0,J⟩) (m+1) (m+1)) (m+1) (ζ (m+1) (U J 0 0)):=by rw[<-Jc];exact ai
 have s4:w3.heap.size<w4.heap.size:=(ai.lt _ rfl).2;go_upto_region 7 with (at_make;refine Ϛ _ rfl _ _ 114 rfl w4.heap.size 117 iV (U J 0 0) 1 Tryz.underlying114 js jt ju Χ Χ _ _ m rfl rfl rfl rfl (by rw[jv];omega) (by unfold ϐ;omega) (Υ _) ?_;intro w5 af dw)
 have bo:=b7.grown dw (λk e=>by cases e);have et:=Bz bd dw;have eu:=Bz ai dw;have af:w5.ownsRow w4.heap.size 117 1 (U (I ⟨w4.heap.size,0,J⟩) m m) m (ζ m (U J 0 0)):=by rw[<-Jc];exact af
 have s5:w4.heap.size<w5.heap.size:=(af.lt _ rfl).2;clear aq bd ai de bn dw H b7;obtain⟨gM,dy⟩:=Xq (w2.heap.size);obtain⟨gL,ev⟩:=Xq (w3.heap.size);obtain⟨gV,ew⟩:=Xq (w4.heap.size);obtain⟨gB,dz⟩:=Xq (w5.heap.size);rw[dy] at et s3 j0;rw[ev] at eu s3 s4;rw[ew] at af s4 s5;rw[dz] at s5;simp only[dy,ev,ew];have cy:=Z dy;have j1:=Z dz;clear dy ev ew;go_upto_region 8 with (at_make;refine Ϛ _ rfl _ _ 38 rfl w5.heap.size 4 iB (.bool Ε) 1 Ý hiB gi gk Χ Χ _ _ (n+1) (by push_cast;rfl) (by push_cast;rfl) rfl rfl (by rw[gl];omega) (by unfold ϐ;omega) (Υ _) ?_;rw[dz];intro w6 cz ah;have bq:=Bz eu ah;have cL:=C3 bq m (by simp);have fL:=bq.frozenAt m)
 have s6:gB<w6.heap.size:=(cz.lt _ rfl).2;have cz:w6.ownsRow gB 4 1 (U (I ⟨gB,0,J⟩) (n+1) (n+1)) (n+1) ((ζ (n+1) Ε).map ψ):=by rw[<-B7];exact cz
 have br:=Bz et ah;have be:=Bz af ah;have bf:=bo.grown ah (λk e=>by cases e);obtain⟨ak,an⟩:=bq.stored m (U (I ⟨gB,0,J⟩) (n+1) (n+1));have c3:=bf.grown an (λk e=>by cases e;rw[cy.o];exact Nat.le_of_lt s3);have ea:=br.kept an (Cb br (Nat.ne_of_lt s3));have eb:=be.kept an (Cb be (þ (Nat.ne_of_lt s4)));have ao:=cz.kept an (Cb cz (þ (Nat.ne_of_lt (Nat.lt_trans s4 s5))));have s7:gB<(w6.setCell ⟨gL,m,J⟩ (U (I ⟨gB,0,J⟩) (n+1) (n+1))).heap.size:=(ao.lt _ rfl).2;clear et eu af bo ah cL fL bq br be cz bf an s6;obtain⟨w7,ez⟩:=Xq (w6.setCell ⟨gL,m,J⟩ (U (I ⟨gB,0,J⟩) (n+1) (n+1)));rw[ez] at ak c3 ea eb ao s7;simp only[ez];clear ez;have cL:w7.cell? ⟨gL,m,J⟩=I (U (I ⟨gB,0,J⟩) (n+1) (n+1)):=by have:=C3 ak m (by simp);rw[this,B6 (by simp)]
 have cB:=Aq Ε ao (by simp) n (by simp);have fB:=ao.frozenAt n;go_upto_region 9 with (fail)
 obtain⟨bt,aw⟩:=Ba ao n Α;have b9:=c3.grown aw (λk e=>by cases e;rw[cy.o];omega);have ca:=ea.kept aw (Cb ea (by omega));have cc:=ak.kept aw (Cb ak (by omega));have a8:=eb.kept aw (Cb eb (by omega));have s8:gB<(w7.setCell ⟨gB,n,J⟩ (.bool Α)).heap.size:=(bt.lt _ rfl).2;clear ao ea ak eb c3 aw cL cB fB s7;obtain⟨w8,cd⟩:=Xq (w7.setCell ⟨gB,n,J⟩ (.bool Α));rw[cd] at cc b9 ca a8 bt s8;simp only[cd];clear cd;have gy:ϟ (MtInv w8 ds x (ζ m (.pointer J)) ((ζ (m+1) (U J 0 0)).set m (U (I ⟨gB,0,J⟩) (n+1) (n+1))) (ζ m (U J 0 0)) m):=Z (by
  have gz:=T.o;refine⟨λj h1 h2=>by omega,λj h1 h2=>?_,λj h1 h2=>by omega,λj h1 h2=>Jl _ _ _ _ h1,λj h1 h2=>?_,λj h1 h2=>Jl _ _ _ _ h1⟩
  ·obtain rfl:j=m:=by omega
   rw[B6 (by simp)];refine⟨(ζ (n+1) Ε).set n Α,λq hq=>?_,?_⟩
   ·rw[G.o] at hq;rw[List.drop_of_length_le (by omega)];show _↔x.drop q=[];rw[List.drop_eq_nil_iff,G.o];by_cases e:q=n
    ·subst e;rw[B6 (by simp)];simp
    rw[Be e,Jl _ _ _ _ (by omega)];simp
    omega
   rw[G.o];exact Sl.congr (Sl.of_owns bt (by omega) δ) λq hq=>by
    have ec:q<((ζ (n+1) Ε).set n Α).length:=by simp;omega
    rw[Ζ,List.getElem?_map,Θ ec,Ζ,Θ ec];rfl
  rw[Be (by omega),Jl _ _ _ _ (by omega)])
 clear bt;go_wp2_with (fail);go_loopw [11] (λvi W=>∃ (z:Int) (k:Nat) (M Lt Lv:List Δ),z+1=(k:Int)/\k<=m/\vi=.int Χ z/\Ext w2 W/\W.ownsRow gM 115 1 (U (I ⟨gM,0,J⟩) m m) m M/\W.ownsRow gL 38 1 (U (I ⟨gL,0,J⟩) (m+1) (m+1)) (m+1) Lt/\W.ownsRow gV 117 1 (U (I ⟨gV,0,J⟩) m m) m Lv/\gV<W.heap.size/\ϟ (MtInv W ds x M Lt Lv k))
  (λvi _=>(intOf vi+1).toNat)
 case atStart=>exact⟨(m:Int)-1,m,_,_,_,by omega,by omega,by go_num,b9,ca,cc,a8,by omega,gy⟩
 clear b9 ca cc a8 gy s8 s5 j1 dz;obtain⟨z,k,M,Lt,Lv,hz,ly,rfl,hE,hM,X,E,j3,HI⟩:=hrel;by_cases hf:z<0
 ·obtain rfl:k=0:=by omega
  have l2:¬ (0:Int)<=z:=by omega
  have df:=HI.o.l 0 (by omega) (by omega);have e3:=C3 X 0 (by have:=De X;omega);obtain⟨vl,bg⟩:=Xq (Lt.getD 0 δ);rw[bg] at df e3;obtain⟨ok,bw,bz⟩:=df;obtain⟨bl,ol,cl,rfl,hh⟩:=Ü bz (by omega);have e4:=hh 0 (by omega);rw[Nat.add_zero] at e4;rw[G.o] at e3;obtain⟨o0,hn⟩:=Xq (ok.getD 0 Ε);have ee:=bw 0 (by omega);rw[hn] at e4 ee;rw[À,À] at ee;have ho:=Z ee;clear hz hf bg bw bz hh hn ee;cases o0 with
  | false=>go_wp2_with (fail);go_ret2;exact⟨⟨ds,dd.o,.inl ⟨λh=>by simpa using ho.o.2 h,rfl⟩⟩,dc.o.t hE⟩
  | true=>
   have j4:=Z (ho.o.1 rfl);obtain⟨iO,j6,j7,j8,j9⟩:=ϑ (show (Ι.info? 60).map (λi=>(i.zero,i.size,i.bytes))=I (I (.agg #[.int Χ 0,.int Χ 0]),2,16) by kernel_rfl);obtain⟨gO,e5⟩:=Xq (wr.heap.size);go_upto_region 23 with (at_make;refine Ϛ _ rfl _ _ 56 rfl wr.heap.size 60 iO (.agg #[.int Χ 0,.int Χ 0]) 2 Tryz.underlying56 j6 j7 j8 Χ Χ _ _ m rfl rfl rfl rfl (by rw[j9];omega) (by unfold ϐ;omega) (Υ _) ?_;rw[e5];intro w3 bh de)
   have H:=(Κ wr).grown de (λk e=>by cases e);obtain⟨we,ka⟩:∃ V,V=wr:=⟨_,rfl⟩;subst ka;have kb:=Z e5;clear e3 e4 de e5;go_wp2_with (fail);go_loopw [15,118] (λva vj W=>∃ (j p:Nat) (l:List (Nat × Nat)) (xs:List Δ),j<=m/\vj=iv j/\va=iv p/\Ext we W/\W.ownsRow gO 60 2 (U (I ⟨gO,0,J⟩) m m) m xs/\ϟ (l.length=j/\(∀ i,i<l.length*2->xs.getD i δ=spF l i)/\p<=n/\Bv (ds.drop j) (x.drop p)/\∀ l',Cw ((pts ps ds).drop j) x p l'->Cw (pts ps ds) x 0 (l++l')))
    (λ_ vj _=>m-(intOf vj).toNat)
   case atStart=>exact⟨0,0,[],_,by omega,rfl,rfl,H,bh,Z ⟨rfl,λi hi=>absurd hi (by simp),by omega,by simpa using j4.o,λl' h=>h⟩⟩
   clear H bh;obtain⟨j,p,l,xs,hj,rfl,rfl,H,bh,HL⟩:=hrel;by_cases c4:j<m
   ·obtain⟨gj,hr,hs⟩:=HI.o.m j (by omega) (by rw[T.o];exact c4);have df:=HI.o.l (j+1) (by omega) (by rw[T.o];omega);have ht:=HI.o.v j (by omega) (by rw[T.o];exact c4);have cM:=C3 hM j (by have:=De hM;omega);have cL:=C3 X (j+1) (by have:=De X;omega);have cV:=C3 E j (by have:=De E;omega);rw[hr] at cM;obtain⟨vl,bg⟩:=Xq (Lt.getD (j+1) δ);obtain⟨vv,hv⟩:=Xq (Lv.getD j δ);rw[bg] at df cL;rw[hv] at ht cV;obtain⟨ok,bw,bz⟩:=df;obtain⟨S,dh,dk⟩:=ht;obtain⟨b',o',c',hy,_⟩:=je.o j (by rw[ep.o];exact c4);have dm:=hy 1 (.bool (ps.getD j pN).lz) rfl;obtain⟨lz,e8⟩:=Xq ((ps.getD j pN).lz);rw[e8] at dm;have kd:=Z e8;have dm:=(dc.o.t hE).cell dm;obtain⟨b5,ef⟩:=cw.o j (by rw[T.o];exact c4);have h6:Bv (ds.drop j)=Cat (wd1 (ds.getD j dN)) (Bv (ds.drop (j+1))):=Zz (by rw[T.o];exact c4);have h7:∃ q,C0 (ds.getD j dN) (Bv (ds.drop (j+1))) x p q:=(Rb (by rw[G.o];exact HL.o.2.2.1)).1 (by rw[<-h6];exact HL.o.2.2.2.1);have f113:=Z (λV (E:Ext we V)=>RS lz (ds.getD j dN) b5 ef (Bv (ds.drop (j+1))) x (by rw[G.o];omega) p (by rw[G.o];exact HL.o.2.2.1) h7 ok bw S dh gj (U ab n cb) vl vv V (hs.ext E) (HB.o.ext ((dc.o.t hE).trans E)) (bz.ext E) (dk.ext E));have HK:=Z (λV (E:Ext we V)=>í (E.cell cL) (í (E.cell cV) (E.cell dm)));have cM:=H.cell cM;have c5:xs.length=m*2:=bh.1;have h9:∀ V,Ext wr V->V.there gO (j*2) 2:=λV E jj l9=>by have ia:=Aa bh E;refine⟨?_,ia.frozenAt _⟩;rw[ia.cellAt (j*2+jj) (by omega),Θ (by omega)];rfl
    have ib:=Z h9;have eg:=Z H;have ic:=Z bh;have ie:=Z c5;clear hr hs bw bz dh dk bg hv hy e8 dm cL cV h6 h7 bh c5 h9 H;have e9:å.wrap ((j:Int)+1)=(j:Int)+1:=IntKind.wrap_i64_id (by omega) (by omega);have fa:(j:Int)+1<(m:Int)+1:=by omega
    have fb:(0:Int)<=(j:Int)+1:=by omega
    have fc:((j:Int)+1).toNat=j+1:=by omega
    have ma:(j:Int)<(m:Int):=by omega
    go_upto_region 27 with (fail)
    clear cM;refine Bq 23 [(0,Α),(1,Α),(2,Α),(3,Α),(4,Α),(5,Α),(6,Α),(7,Α),(8,Α),(9,Α),(10,Α),(11,Α),(12,Α),(13,Α),(14,Α),(15,Α),(16,Α),(17,Α),(18,Α),(19,Α),(20,Ε),(21,Α),(22,Α),(23,Ε)] (by kernel_rfl) (by kernel_rfl) (λ_ _ _ _ h=>h) (λV=>Ext wr V) (Κ wr).drew ?_;have bj:=(Κ wr).drew;obtain⟨wy,cn⟩:=Xq (wr.drew);rw[cn] at bj;rw[cn];clear cn;iterate 20
     refine Ai (v:=?_) rfl rfl (λV E=>?_) ?_
     rotate_left
     ·obtain⟨k1,k2,k3⟩:=HK.o V (eg.o.t E);clear E;go_simp;first|done|with_reducible rfl
     simp only[θ,Η,Μ,Λ]
    refine Ao rfl (λKk hK=>?_);go_simp
    (with_reducible refine (f113.o wy (eg.o.t bj)).mono ?_)
    rintro e w5 ⟨q,rfl,eh,bo⟩;have ad:=bj.t bo;refine hK _ _ (λ_=>ad) ?_;clear hK Kk f113 bj bo HK;have ig:=Z (UC (p:Int) (q:Int));refine Ai (v:=.agg #[iv p,iv q]) rfl rfl (λV _=>?_) ?_
    ·exact Gi 60 _ rfl (by simpa [Act.eval] using ig.o) V
    simp only[θ,Η,Μ,Λ];refine Ai (v:=?_) rfl rfl (λV E=>?_) ?_
    rotate_left
    ·clear E;go_simp;first|done|with_reducible rfl
    simp only[θ,Η,Μ,Λ];refine Ao rfl (λKk hK=>?_);refine Kj 60 (ε 145) (ε 144) rfl rfl gO (j*2) #[iv p,iv q] rfl rfl (ib.o w5 ad) (Ql _ _) (by simp[ξ]) ?_;obtain⟨ff,ah⟩:=IT (Aa ic.o ad) (j*2) (iv p) (iv q);have bf:=(eg.o.t ad).grown ah (λk e=>by cases e;exact Ñ kb.o);refine hK _ _ (λh=>absurd h (by omega)) ?_;clear hK Kk;refine Bn ?_;have ih:(#[iv p,iv q]:Array Δ).toList=[iv p,iv q]:=rfl;rw[ih];obtain⟨w6,ct⟩:=Xq (w5.setCells gO (j*2) [iv p,iv q]);rw[ct] at ff bf;rw[ct];have c1:w6.cell? ⟨gO,j*2+1,J⟩=I (iv q):=by rw[ff.cellAt (j*2+1) (by omega),List.getElem?_set_self (by rw[ο,ie.o];omega)]
    have fg:ϟ ((l++[(p,q)]).length=j+1/\(∀ i,i<(l++[(p,q)]).length*2->((xs.set (j*2) (iv p)).set (j*2+1) (iv q)).getD i δ=spF (l++[(p,q)]) i)/\q<=n/\Bv (ds.drop (j+1)) (x.drop q)/\∀ l',Cw ((pts ps ds).drop (j+1)) x q l'->Cw (pts ps ds) x 0 ((l++[(p,q)])++l')):=Z (by
     obtain⟨h1,h2,h3,h4,h5⟩:=HL.o;refine⟨by rw[Ν,h1];rfl,?_,?_,eh.1.2.2.2,λl' kh=>?_⟩
     ·rw[<-h1];exact FD (by rw[h1,ie.o];omega) h2
     ·rw[<-G.o];exact eh.1.2.1
     rw[ê];refine h5 _ ?_;rw[Pf dd.o.len (by rw[T.o];exact c4)];refine⟨q,l',rfl,?_,kh⟩;rw[U9 dd.o.len,kd.o];exact eh)
    clear ih ct ah ad eh eg ib ic e9 fa fb fc ig;go_wp2_with (fail);go_roundw
    case rel=>exact⟨j+1,q,l++[(p,q)],_,by omega,by go_num,rfl,bf,ff,fg⟩
    simp[intOf]<;>omega
   obtain rfl:j=m:=by omega
   have ki:ϟ (Cw (pts ps ds) x 0 l):=Z (by
    obtain⟨h1,h2,h3,h4,h5⟩:=HL.o;have kj:ds.drop j=[]:=List.drop_of_length_le (by rw[T.o];exact Υ _);rw[kj] at h4;have h4:x.drop p=[]:=h4;rw[List.drop_eq_nil_iff,G.o] at h4;have:=h5 [] (by rw[List.drop_of_length_le (by simp[pts,dd.o.len,ep.o])];exact⟨rfl,by rw[G.o];omega⟩)
    rwa [List.append_nil] at this)
   have kk:ϟ (SpV wr (U (I ⟨gO,0,J⟩) j j) l):=Z (by have hl:=HL.o.1;have:=Sl.of_owns bh (by omega) δ;unfold SpV;rw[hl];exact Sl.congr this λi hi=>HL.o.2.1 i (by rw[hl];exact hi))
   clear bh;go_wp2_with (fail);go_ret2;exact⟨⟨ds,dd.o,.inr ⟨l,_,ki.o,kk.o,rfl⟩⟩,(dc.o.t hE).trans H⟩
 obtain⟨i,rfl⟩:∃ i:Nat,z=i:=⟨z.toNat,by omega⟩;obtain rfl:k=i+1:=by omega
 have dp:i<m:=by omega
 have mc:(0:Int)<=(i:Int):=by omega
 obtain⟨y1,y2,y3,fj,ik⟩:=(jz.o.ext hE) i (by rw[T.o];exact dp);obtain⟨b5,ef⟩:=cw.o i (by rw[T.o];exact dp);have f111:=Z (P6 (ds.getD i dN) b5 _ wr ik);rw[Nat.zero_add] at fj;have kl:=De hM;clear hz hf ik;go_upto_region 13 with (first
  | (refine é rfl 40 (ε 62) rfl g6 (i*3) rfl _ _ fj Ρ rfl (Dg _ _ _) ?_)
  | (go_at_call 50;(with_reducible refine f111.o.mono ?_);rintro e w3 ⟨gm,rfl,il,H⟩;have aq:=Aa hM H;have cM:=C3 aq i (by omega);have fM:=aq.frozenAt i))
 have im:M.getD i δ=η J:=HI.o.m0 i (by omega) (by rw[T.o];exact dp);rw[im] at cM;obtain⟨bd,bn⟩:=aq.stored i (η (I ⟨gm,0,J⟩));have fk:=(NilX.refl w3).set (v:=η (I ⟨gm,0,J⟩)) aq (by decide) cM (.inr rfl);have fl:=(NilX.of_ext H).trans fk;have b7:=(hE.t H).grown bn (λk e=>by cases e;rw[cy.o];exact Υ _);have ai:=(Aa X H).kept bn (Cb X (þ (Nat.ne_of_lt s3)));have dq:=(Aa E H).kept bn (Cb E (þ (Nat.ne_of_lt (Nat.lt_trans s3 s4))));have ei:=il.nilx b5 fk;have kn:gV<(w3.setCell ⟨gM,i,J⟩ (η (I ⟨gm,0,J⟩))).heap.size:=(dq.lt _ rfl).2;clear bn fk aq cM fM im il H hM X E hE j3 fj f111;obtain⟨w4,fm⟩:=Xq (w3.setCell ⟨gM,i,J⟩ (η (I ⟨gm,0,J⟩)));rw[fm] at bd ai dq b7 fl ei kn;simp only[fm];clear fm;have cv:=HI.o.nilx cw.o fl;have ko:=De bd;have kq:=De ai;have kr:=De dq;obtain⟨vl,bg⟩:=Xq (Lt.getD (i+1) δ);have ir:=cv.l (i+1) (by omega) (by rw[T.o];omega);rw[bg] at ir;have iu:=cv.v0 i (by omega) (by rw[T.o];exact dp);have iw:=cv.l0 i (by omega) (by rw[T.o];omega);have fo:=C3 bd i (by omega);rw[B6 (by omega)] at fo;have dr:=C3 ai (i+1) (by omega);rw[bg] at dr;have cv:=Z cv;have ix:=Z (λV (E:Ext w4 V)=>í (E.cell fo) (E.cell dr));obtain⟨ok,bw,bz⟩:=ir;have f112:=Z (λV (E:Ext w4 V)=>MM (ds.getD i dN) b5 ef (Bv (ds.drop (i+1))) x (by rw[G.o];omega) ok bw gm (U ab n cb) vl V (ei.ext E) (HB.o.ext ((dc.o.t b7).trans E)) (bz.ext E));have ks:=Z ei;have kt:=Z iu;have fg:=Z iw;clear fl HI bg fo dr bw bz ok ei iu iw ko kq kr kl;have e9:å.wrap ((i:Int)+1)=(i:Int)+1:=IntKind.wrap_i64_id (by omega) (by omega);have fa:(i:Int)+1<(m:Int)+1:=by omega
 have fb:(0:Int)<=(i:Int)+1:=by omega
 have fc:((i:Int)+1).toNat=i+1:=by omega
 have mh:(i:Int)<(m:Int):=by omega
 refine Bq 14 [(0,Α),(1,Α),(2,Α),(3,Α),(4,Α),(5,Α),(6,Α),(7,Α),(8,Α),(9,Α),(10,Α),(11,Α),(12,Ε),(13,Α),(14,Ε)] (by kernel_rfl) (by kernel_rfl) (λ_ _ _ _ h=>h) (λV=>Ext w4 V) (Κ w4).drew ?_;have bj:=(Κ w4).drew;obtain⟨wy,cn⟩:=Xq (w4.drew);rw[cn] at bj;rw[cn];clear cn;iterate 12
  refine Ai (v:=?_) rfl rfl (λV E=>?_) ?_
  rotate_left
  ·obtain⟨k1,k2⟩:=ix.o V E;clear E;go_simp;first|done|with_reducible rfl
  simp only[θ,Η,Μ,Λ]
 refine Ao rfl (λKk hK=>?_);go_simp
 (with_reducible refine (f112.o wy bj).mono ?_)
 rintro e w5 ⟨vv,rfl,fp,bo⟩;have ad:=bj.t bo;obtain⟨bS,oS,cS,rfl⟩:∃ bS oS cS,vv=U (I ⟨bS,oS,J⟩) (n+1) cS:=by obtain⟨S,_,hS⟩:=fp;obtain⟨bS,oS,cS,e',_⟩:=Ü hS (by omega);rw[G.o] at e';exact⟨bS,oS,cS,e'⟩
 refine hK _ _ (λ_=>ad) ?_;clear hK Kk f112 bj bo ix;have af:=Aa dq ad;have cV:=C3 af i (by have:=De af;omega);rw[kt.o] at cV;have fV:=af.frozenAt i;obtain⟨be,ah⟩:=af.stored i (U (I ⟨bS,oS,J⟩) (n+1) cS);have br:=(Aa bd ad).kept ah (Cb bd (Nat.ne_of_lt (Nat.lt_trans s3 s4)));have bq:=(Aa ai ad).kept ah (Cb ai (Nat.ne_of_lt s4));have ej:=(NilX.refl w5).set (v:=U (I ⟨bS,oS,J⟩) (n+1) cS) af (by decide) cV (.inl rfl);have bf:=(b7.t ad).grown ah (λk e=>by cases e;rw[cy.o];exact Nat.le_of_lt (Nat.lt_trans s3 s4));have fq:=(cv.o.nilx cw.o (NilX.of_ext ad)).nilx cw.o ej;have fs:=fp.nilx ej;have ft:=(ks.o.ext ad).nilx b5 ej;have fu:gV<(w5.setCell ⟨gV,i,J⟩ (U (I ⟨bS,oS,J⟩) (n+1) cS)).heap.size:=(be.lt _ rfl).2;obtain⟨w6,ct⟩:=Xq (w5.setCell ⟨gV,i,J⟩ (U (I ⟨bS,oS,J⟩) (n+1) cS));refine Ai (v:=?_) rfl rfl (λV E=>?_) ?_
 rotate_left
 ·clear E;go_simp;first|done|with_reducible rfl
 simp only[θ,Η,Μ,Λ];refine Ao rfl (λKk hK=>?_);go_simp;refine hK _ _ (λh=>absurd h (by omega)) ?_;clear hK Kk;refine Bn ?_;rw[ct] at be br bq bf fq fs ft fu;try rw[ct]
 clear ct af cV fV ah ej fp ad dq bd ai b7 e9 fa fb fc cv;obtain⟨gN,ek⟩:=Xq (w6.heap.size);rw[ek] at fu;go_upto_region 15 with (at_make;refine Ϛ _ rfl _ _ 38 rfl w6.heap.size 4 iB (.bool Ε) 1 Ý hiB gi gk Χ Χ _ _ (n+1) (by push_cast;rfl) (by push_cast;rfl) rfl rfl (by rw[gl];omega) (by unfold ϐ;omega) (Υ _) ?_;rw[ek];intro w7 ao an;have ak:=Bz bq an;have cL:=C3 ak i (by have:=De ak;omega);have fL:=ak.frozenAt i)
 rw[fg.o] at cL;have ao:w7.ownsRow gN 4 1 (U (I ⟨gN,0,J⟩) (n+1) (n+1)) (n+1) ((ζ (n+1) Ε).map ψ):=by rw[<-B7];exact ao
 obtain⟨cc,aw⟩:=ak.stored i (U (I ⟨gN,0,J⟩) (n+1) (n+1));have c3:=bf.grown an (λk e=>by cases e);have iy:NilX w6 w7:=NilX.of_ext ((Κ w6).grown an (λk e=>by cases e));have fv:=iy.set (v:=U (I ⟨gN,0,J⟩) (n+1) (n+1)) ak (by decide) cL (.inl rfl);have b9:=c3.grown aw (λk e=>by cases e;rw[cy.o];exact Nat.le_of_lt s3);have ca:=(Bz br an).kept aw (Cb br (Nat.ne_of_lt s3));have a8:=(Bz be an).kept aw (Cb be (þ (Nat.ne_of_lt s4)));have bt:=ao.kept aw (Cb ao (þ (Nat.ne_of_lt (Nat.lt_trans s4 fu))));have fw:=C3 a8 i (by have:=De a8;omega);rw[B6 (by have:=De a8;simp at this;omega)] at fw;have kx:=Z ek;have ky:=Z fq;have iz:=Z fs;have kz:=Z ft;clear an aw ak cL fL ao c3 iy bf br be bq ek fq fs ft;obtain⟨w8,cd⟩:=Xq (w7.setCell ⟨gL,i,J⟩ (U (I ⟨gN,0,J⟩) (n+1) (n+1)));rw[cd] at cc fv b9 ca a8 bt fw;simp only[cd];clear cd;obtain⟨S,dh,dk⟩:=iz.o;have k0:ϟ (∀ W,NilX w6 W->∀ q,q<n+1->W.cell? ⟨bS,oS+q,J⟩=I (.int .u64 (S.getD q 0:Nat))):=Z λW hW q hq=>by
  obtain⟨mi,mj,ml,e',hc⟩:=Ü dk (by omega);injection e' with e' _ _
  injection e' with e'
  injection e' with e1 e2 _
  subst e1 e2;exact hW.cell _ _ (hc q (by rw[G.o];omega)) (λe=>by cases e) (λe=>by cases e)
 have k7:ϟ (∀ q,q<=n->F3 (ds.getD i dN) (Bv (ds.drop (i+1))) x q (S.getD q 0)):=Z λq hq=>dh q (by rw[G.o];exact hq)
 have k9:ϟ (Bv (ds.drop i)=Cat (wd1 (ds.getD i dN)) (Bv (ds.drop (i+1)))):=Z (Zz (by rw[T.o];exact dp));clear dh dk;go_wp2_with (fail);clear fw;go_loopw [92] (λva W=>∃ (q:Nat) (bm:List Bool),q<=n+1/\va=iv q/\Ext w2 W/\NilX w6 W/\W.ownsRow gM 115 1 (U (I ⟨gM,0,J⟩) m m) m (M.set i (η (I ⟨gm,0,J⟩)))/\W.ownsRow gL 38 1 (U (I ⟨gL,0,J⟩) (m+1) (m+1)) (m+1) (Lt.set i (U (I ⟨gN,0,J⟩) (n+1) (n+1)))/\W.ownsRow gV 117 1 (U (I ⟨gV,0,J⟩) m m) m (Lv.set i (U (I ⟨bS,oS,J⟩) (n+1) cS))/\W.ownsRow gN 4 1 (U (I ⟨gN,0,J⟩) (n+1) (n+1)) (n+1) (bm.map ψ)/\ϟ (bm.length=n+1/\∀ q',q'<q->(bm.getD q' Ε=Α↔Bv (ds.drop i) (x.drop q'))))
  (λva _=>n+1-(intOf va).toNat)
 case atStart=>exact⟨0,_,by omega,rfl,b9,fv,ca,cc,a8,bt,Z ⟨by simp,λq hq=>by omega⟩⟩
 clear b9 fv ca cc a8 bt;obtain⟨q,bm,hq,rfl,hE,hX,hM,X,E,dt,HQ⟩:=hrel;by_cases la:q<n+1
 ·have cq:=k0.o wr hX q la;have dr:=C3 X i (by have:=De X;omega);rw[B6 (by have:=De X;simp at this;omega)] at dr;have c5:=HQ.o.1;have cB:=Aq Ε dt c5.symm q (by omega);have fB:=dt.frozenAt q;have fx:=k7.o q (by omega);have ja:=WB (S.getD q 0) (Ξ fx.1 (Nat.pow_le_pow_right (by omega) ef));have HZ:=Z (MK b5 (by rw[G.o];omega) fx);obtain⟨mm,hZ⟩:=Xq (((S.getD q 0:Nat):Int):Int);rw[hZ] at cq ja;obtain⟨bb,fy⟩:=Xq (decide (S.getD q 0 % 2=1));rw[fy] at ja;have lg:=Z fy;clear hZ fy fx;have mo:(q:Int)<(n:Int)+1:=by omega
  obtain⟨lh,c7⟩:=Ba (f:=ψ) dt q bb;have lj:=hE.grown c7 (λk e=>by cases e;rw[cy.o];omega);have lk:=hM.kept c7 (Cb hM (by omega));have ll:=X.kept c7 (Cb X (by omega));have ln:=E.kept c7 (Cb E (by omega));have lo:=hX.fresh c7 (Ñ kx.o);have lp:ϟ ((bm.set q bb).length=n+1/\∀ q',q'<q+1->((bm.set q bb).getD q' Ε=Α↔Bv (ds.drop i) (x.drop q'))):=Z ⟨by rw[ο];exact c5,λq' fz=>by
   by_cases e:q'=q
   ·subst e;rw[B6 (by omega),k9.o,<-HZ.o,<-lg.o];simp
   rw[Be e];exact HQ.o.2 q' (by omega)⟩
  clear c7 hE hX hM X E dt HQ c5;go_wp2_with (fail);go_roundw
  case rel=>exact⟨q+1,bm.set q bb,by omega,by go_num,lj,lo,lk,ll,ln,lh,lp⟩
  simp[intOf];omega
 obtain rfl:q=n+1:=by omega
 have gz:=T.o;have lq:ϟ (MtInv wr ds x (M.set i (η (I ⟨gm,0,J⟩))) (Lt.set i (U (I ⟨gN,0,J⟩) (n+1) (n+1))) (Lv.set i (U (I ⟨bS,oS,J⟩) (n+1) cS)) i):=Z (by
  refine MtInv.step (ky.o.nilx cw.o hX) (by omega) ?_ ?_ ?_ (kz.o.nilx b5 hX) ⟨bm,λq' fz=>HQ.o.2 q' (by rw[G.o] at fz;omega),?_⟩ (iz.o.nilx hX)
  ·have:=De hM;simp at this;omega
  ·have:=De X;simp at this;omega
  ·have:=De E;simp at this;omega
  rw[G.o];exact Sl.congr (Sl.of_owns dt (by omega) δ) λq' fz=>by
   have ec:q'<bm.length:=by rw[HQ.o.1];omega
   simp[Ζ,ec])
 have lr:gV<wr.heap.size:=(E.lt _ rfl).2;clear gz;go_wp2_with (fail);go_roundw
 case rel=>exact⟨(i:Int)-1,i,_,_,_,by omega,by omega,by go_num,hE,hM,X,E,lr,lq⟩
 simp[intOf]<;>omega
theorem Fe {α:Type} (l:List α) (x d:α):(l++[x]).getD l.length d=x:=by rw[Ζ,List.getElem?_append_right (Υ _),Nat.sub_self];rfl
theorem Fq {α:Type} (l:List α) (x d:α) {i:Nat} (h:i<l.length):(l++[x]).getD i d=l.getD i d:=by rw[Ζ,ϊ h,<-Ζ]
theorem Ib {α:Type} {l:List α} {i:Nat} {d:α} (h:i<l.length):l.getD i d∈l:=by rw[Ζ,Θ h];exact List.getElem_mem h
theorem Yf {α:Type} {l:List α} {x d:α} (h:x∈l):∃ i,i<l.length/\l.getD i d=x:=by obtain⟨i,hi,rfl⟩:=Û.1 h;exact⟨i,hi,by rw[Ζ,Θ hi];rfl⟩
structure GInv (ρ:Nat->Option Dfa) (n s:Nat) (rs:List Dfa) (mb:List (List Bool)):Prop where
 len:mb.length=rs.length
 nodup:rs.Nodup
 from_:∀ d,d∈rs->(∃ x,x<s/\ρ x=I d)/\∃ v,d.has v=Α
 all:∀ x,x<s->∀ d,ρ x=I d->(∃ v,d.has v=Α)->d∈rs
 mlen:∀ i,i<rs.length->(mb.getD i []).length=n
 mem:∀ i,i<rs.length->∀ x,x<n->((mb.getD i []).getD x Ε=Α↔x<s/\ρ x=I (rs.getD i dN))
 le:rs.length<=s
theorem PY (ρ:Nat->Option Dfa) (n:Nat):GInv ρ n 0 [] []:=
 ⟨rfl,List.nodup_nil,λd h=>absurd h (by simp),λx h=>by omega,λi h=>absurd h (by simp),λi h=>absurd h (by simp),Υ _⟩
section
variable {ρ:Nat->Option Dfa} {n s:Nat} {rs:List Dfa} {mb:List (List Bool)}
theorem GInv.skip (h:GInv ρ n s rs mb) (H:∀ d,ρ s=I d->∀ v,d.has v=Ε):GInv ρ n (s+1) rs mb where
 len:=h.len
 nodup:=h.nodup
 from_:=λd hd=>by obtain⟨⟨x,h1,G⟩,T⟩:=h.from_ d hd;exact⟨⟨x,by omega,G⟩,T⟩
 all:=λx hx d hd E=>by
  by_cases e:x=s
  ·subst e;obtain⟨v,E⟩:=E;rw[H d hd v] at E;cases E
  exact h.all x (by omega) d hd E
 mlen:=h.mlen
 mem:=λi hi x hx=>by
  rw[h.mem i hi x hx];constructor
  ·rintro⟨h1,G⟩;exact⟨by omega,G⟩
  rintro⟨h1,G⟩;refine⟨?_,G⟩;by_cases e:x=s
  ·subst e;obtain⟨_,v,E⟩:=h.from_ _ (Ib (d:=dN) hi);rw[H _ G v] at E;cases E
  omega
 le:=by have:=h.le;omega
theorem GInv.hit (h:GInv ρ n s rs mb) (hn:s<n) {a:Nat} (X:a<rs.length) (H:ρ s=I (rs.getD a dN)):GInv ρ n (s+1) rs (mb.set a ((mb.getD a []).set s Α)) where
 len:=by rw[ο];exact h.len
 nodup:=h.nodup
 from_:=λd hd=>by obtain⟨⟨x,h1,E⟩,T⟩:=h.from_ d hd;exact⟨⟨x,by omega,E⟩,T⟩
 all:=λx hx d hd hv=>by
  by_cases e:x=s
  ·subst e;rw[H] at hd;injection hd with hd
   rw[<-hd];exact Ib X
  exact h.all x (by omega) d hd hv
 mlen:=λi hi=>by
  by_cases e:i=a
  ·subst e;rw[B6 (by rw[h.len];exact hi),ο];exact h.mlen i hi
  rw[Be e];exact h.mlen i hi
 mem:=λi hi x hx=>by
  by_cases e:i=a
  ·subst e;rw[B6 (by rw[h.len];exact hi)];by_cases G:x=s
   ·subst G;rw[B6 (by rw[h.mlen i hi];exact hn)];exact⟨λ_=>⟨by omega,H⟩,λ_=>rfl⟩
   rw[Be G,h.mem i hi x hx];constructor
   ·rintro⟨h1,E⟩;exact⟨by omega,E⟩
   rintro⟨h1,E⟩;exact⟨by omega,E⟩
  rw[Be e,h.mem i hi x hx];constructor
  ·rintro⟨h1,E⟩;exact⟨by omega,E⟩
  rintro⟨h1,E⟩;refine⟨?_,E⟩;by_cases G:x=s
  ·subst G;rw[H] at E;injection E with E
   have T:rs[a]'X=rs[i]'hi:=by rw[Ζ,Θ X,Ζ,Θ hi] at E;exact E
   exact absurd ((List.getElem_inj h.nodup).1 T).symm e
  omega
 le:=by have:=h.le;omega
theorem GInv.new (h:GInv ρ n s rs mb) (X:s<n) {d:Dfa} (hd:d∉rs) (H:ρ s=I d) (T:∃ v,d.has v=Α):GInv ρ n (s+1) (rs++[d]) (mb++[(ζ n Ε).set s Α]) where
 len:=by rw[Ν,Ν,h.len];rfl
 nodup:=by rw[List.nodup_append];refine⟨h.nodup,by simp,λa ha b hb=>?_⟩;rw[ϖ] at hb;subst hb;rintro rfl;exact hd ha
 from_:=λe he=>by
  rcases List.mem_append.1 he with he|he
  ·obtain⟨⟨x,h1,E⟩,h3⟩:=h.from_ e he;exact⟨⟨x,by omega,E⟩,h3⟩
  rw[ϖ] at he;subst he;exact⟨⟨s,by omega,H⟩,T⟩
 all:=λx hx e he T=>by
  by_cases G:x=s
  ·subst G;rw[H] at he;injection he with he
   rw[<-he];simp
  exact List.mem_append_left _ (h.all x (by omega) e he T)
 mlen:=λi hi=>by
  rw[Ν,Ϥ] at hi;by_cases e:i<rs.length
  ·rw[Fq _ _ _ (by rw[h.len];exact e)];exact h.mlen i e
  obtain rfl:i=mb.length:=by rw[h.len];omega
  rw[Fe];simp
 mem:=λi hi x hx=>by
  rw[Ν,Ϥ] at hi;by_cases e:i<rs.length
  ·rw[Fq _ _ _ (by rw[h.len];exact e),Fq _ _ _ e,h.mem i e x hx];constructor
   ·rintro⟨h1,E⟩;exact⟨by omega,E⟩
   rintro⟨h1,E⟩;refine⟨?_,E⟩;by_cases G:x=s
   ·subst G;rw[H] at E;injection E with E
    rw[E] at hd;exact absurd (Ib e) hd
   omega
  obtain rfl:i=rs.length:=by omega
  rw[show rs.length=mb.length from h.len.symm,Fe,h.len,Fe];by_cases G:x=s
  ·subst G;rw[B6 (by simp;exact X)];exact⟨λ_=>⟨by omega,H⟩,λ_=>rfl⟩
  rw[Be G,Jl _ _ _ _ hx];constructor
  ·intro h1;cases h1
  rintro⟨h1,E⟩;exact absurd (h.all x (by omega) d E T) hd
 le:=by rw[Ν,Ϥ];have:=h.le;omega
theorem PZ (h:GInv ρ n n rs mb) {nx:Nat->Nat->Nat} (hρ:∀ s d,ρ s=I d->s<n/\Cano d) (T:∀ u,Ap nx 0 u<n) (af:∀ s,s<n->∃ u,Ap nx 0 u=s) {E:List Dfa} (hl:E.length=rs.length)
  (hh:∀ i,i<rs.length->Cano (E.getD i dN)/\∀ u,(E.getD i dN).has u=Α↔(mb.getD i []).getD (Ap nx 0 u) Ε=Α):CollR nx ρ (List.zipWith Opt.mk E rs):=by
 have hz:∀ o,o∈List.zipWith Opt.mk E rs->∃ i,i<rs.length/\o.head=E.getD i dN/\o.rest=rs.getD i dN:=λo G=>by
  obtain⟨i,hi,rfl⟩:=Û.1 G;rw[List.length_zipWith] at hi;have h1:i<E.length:=by omega
  have H:i<rs.length:=by omega
  refine⟨i,H,?_,?_⟩
  ·simp[Ζ,Θ h1]
  simp[Ζ,Θ H]
 have hm:∀ i,i<rs.length->∀ u,(E.getD i dN).has u=Α↔ρ (Ap nx 0 u)=I (rs.getD i dN):=λi hi u=>by rw[(hh i hi).2 u,h.mem i hi _ (T u)];exact⟨λh1=>h1.2,λh1=>⟨T u,h1⟩⟩
 refine⟨λo G=>?_,λo G w=>?_,λw d hd hv=>?_,?_⟩
 ·obtain⟨i,hi,X,e2⟩:=hz o G;obtain⟨⟨x,hx,h1⟩,H⟩:=h.from_ _ (Ib (d:=dN) hi);obtain⟨u,hu⟩:=af x hx;rw[X,e2];exact⟨(hh i hi).1,(hρ x _ h1).2,H,u,by rw[hu];exact h1⟩
 ·obtain⟨i,hi,X,e2⟩:=hz o G;rw[X,e2];exact hm i hi w
 ·obtain⟨i,hi,e⟩:=Yf (d:=dN) (h.all _ (T w) d hd hv);have h1:i<E.length:=by omega
  refine⟨⟨E.getD i dN,rs.getD i dN⟩,?_,e⟩;rw[Û];refine⟨i,by rw[List.length_zipWith];omega,?_⟩;simp[Ζ,Θ h1,Θ hi]
 rw[List.pairwise_iff_getElem];intro i j hi hj aj;rw[List.length_zipWith] at hi hj;simp only[List.getElem_zipWith];intro e;have:=(List.getElem_inj h.nodup).1 e;omega
end
theorem CollR.perm {nx:Nat->Nat->Nat} {ρ:Nat->Option Dfa} {os H:List Opt} (h:CollR nx ρ os) (G:os.Perm H):CollR nx ρ H where
 hc:=λo E=>h.hc o (G.mem_iff.2 E)
 head:=λo E=>h.head o (G.mem_iff.2 E)
 all:=λw d hd T=>by obtain⟨o,E,e⟩:=h.all w d hd T;exact⟨o,G.mem_iff.1 E,e⟩
 dis:=G.pairwise h.dis λh=>þ h
def IsW (W:Γ) (A:Array Δ) (L:List Cls) (N:List (List Nat)):Prop:=∃ vc E,A=#[vc,E]/\Cs W vc L/\Rows W E N
theorem IsW.ext {W W':Γ} {A:Array Δ} {L:List Cls} {N:List (List Nat)} (h:IsW W A L N) (E:Ext W W'):IsW W' A L N:=by obtain⟨vc,G,H,h1,T⟩:=h;exact⟨vc,G,H,h1.ext E,T.ext E⟩
theorem IsW.opened {W:Γ} {A:Array Δ} {L:List Cls} {t:Tbl} (h:IsW W A L t.n) (H:TVal t):∃ E G T,A.size=2/\A.all (·.oneCell')=Α/\A[1]? = I (U (I ⟨E,G,J⟩) t.n.length T)/\RowsAt W E G t.n.length t.cells t.ent2:=by obtain⟨vc,vn,rfl,X,hN⟩:=h;obtain⟨ac,cc,rfl⟩:=Sl.len X;obtain⟨E,G,T,rfl,hr⟩:=Ko hN t.cells H.pos H.cpos H.row;exact⟨E,G,T,rfl,by simp[ξ],rfl,hr⟩
theorem CB (L:List Cls) (t:Tbl) (X:TVal t) (hn:t.n.length<=65536) (A:Array Δ) (w:Γ) (h:IsW w A L t.n) :
  Ϟ Ι 79 #[.agg A] w λe w'=>∃ v l,e=Ω v/\Reached t l/\Ints w' v l/\Ext w w':=by
 obtain⟨bn,on,cn,b6,b7,bc,hR⟩:=h.opened X;have b8:=X.pos;have dm:=X.cpos;have dn:=X.cle;have HR:=Z hR;have HV:=Z X;obtain⟨i0,hi,cb,cc,cd⟩:=ϑ Ds;obtain⟨j0,hj,cj,ck,cm⟩:=ϑ Fc;have au:=(Κ w).alloc (Β A 128);have H0:=Ad w (Β A 128);have HK:=Z (λ(W:Γ) (hW:Ext (w.alloc (Β A 128)) W)=>(Τ W w.heap.size 1 _ _ _ (hW.heap H0)).trans bc);clear hR X h H0 bc b7 b6;go_enter Tryz.func79,Tryz.ntmps79;go_upto_region 1 with (fail)
 generalize w.alloc (Β A 128)=w1 at *;have k1:=HK.o w1 (Κ w1);go_upto_region 2 with (at_make;refine Ϛ _ rfl _ _ 38 rfl w1.heap.size 4 j0 (.bool Ε) 1 Ý hj cj ck Χ Χ _ _ t.n.length rfl rfl rfl rfl (by rw[cm];omega) (by unfold ϐ;omega) (Υ _) ?_;intro w2 bg bh)
 have ct:Ext w1 w2:=(Κ w1).grown bh (λk e=>by cases e);have af:w2.ownsRow w1.heap.size 4 1 (U (I ⟨w1.heap.size,0,J⟩) t.n.length t.n.length) t.n.length ((Ee t.n.length []).map ψ):=by rw[Ud,<-B7];exact bg
 have cs:=Aq Ε af (Gw _ _).symm 0 (by rw[Gw];exact b8);have fs:=af.frozenAt 0;obtain⟨bj,bk⟩:=Ba af 0 Α;rw[Mi,List.nil_append] at bj;have bl:=ct.grown bk (λk e=>by cases e;exact Υ _);clear bg bh k1 af bk;go_upto_region 3 with (fail)
 clear cs fs;obtain⟨w3,bo⟩:=Xq (w2.setCell ⟨w1.heap.size,0,J⟩ (.bool Α));simp only[bo] at *;clear bo;have cv:=bl.alloc (Β #[.int Χ 0] 3);have cw:=bj.alloc (Β #[.int Χ 0] 3);have cy:=Ê (base:=w1.heap.size) (e:=3) (size:=1) w3 #[.int Χ 0] 1 bl.size (by unfold ϐ;omega) rfl;generalize bp:w1.heap.size=G at *;have bq:=Z bp;clear bp;go_wp2_with (fail);go_loopw [4,5] (λv i W=>∃ (l:List Nat) (k g c:Nat),k<=l.length/\i=.int Χ k/\v=U (I ⟨g,0,J⟩) l.length c/\Ext w1 W/\OwnI W G v l/\W.ownsRow G 4 1 (U (I ⟨G,0,J⟩) t.n.length t.n.length) t.n.length ((Ee t.n.length l).map ψ)/\ϟ (BInv t l k 0))
  (λ_ i _=>t.n.length-(intOf i).toNat)
 case atStart=>exact⟨[0],0,w3.heap.size,1,by omega,rfl,rfl,cv,cy,cw,Z (AM HV.o)⟩
 obtain⟨l,k,g,c,hk,rfl,rfl,hE,hI,hS,HI⟩:=hrel;have dq:=HI.o.le;by_cases ay:k<l.length
 ·have cl:=A4 (Aq 0 hI rfl k ay);have az:=HI.o.lt _ (Di l k 0 ay);obtain⟨s,a1⟩:=Xq (l.getD k 0);rw[a1] at cl az;have cz:=Z a1;clear a1;obtain⟨br,or',cr,bu,bw⟩:=HR.o s az;have c3:=A4 ((au.t hE).cell bu);have k1:=A4 (HK.o wr hE);have c4:=Z bw;clear bu bw;go_upto_region 7 with (fail)
  refine Cl (by kernel_rfl) (by kernel_rfl) ?_;iterate 10 (with_reducible refine Á (λK hK=>?_);go_simp;(refine hK _ ?_;clear hK K))
  refine wpQuiet_nil ?_;rintro _ ⟨e,rfl⟩;clear cl c3 k1;have c5:=hE.t e.ext;have hI:=Aa hI e.ext;have hS:=Aa hS e.ext;generalize e.W=w5 at *;have c6:w1.heap.size<=G:=Ñ bq.o;have du:G<=w1.heap.size:=Ñ bq.o.symm;go_wp2_with (fail);go_loopw [4,30] (λv i W=>∃ (E:List Nat) (q g' c':Nat),q<=t.cells/\i=.int Χ q/\v=U (I ⟨g',0,J⟩) E.length c'/\Ext w1 W/\OwnI W G v E/\W.ownsRow G 4 1 (U (I ⟨G,0,J⟩) t.n.length t.n.length) t.n.length ((Ee t.n.length E).map ψ)/\ϟ (BInv t E k q)/\ϟ (k<E.length/\E.getD k 0=s))
   (λ_ i _=>t.cells-(intOf i).toNat)
  case atStart=>exact⟨l,0,g,c,by omega,rfl,rfl,c5,hI,hS,HI,Z ⟨ay,cz.o⟩⟩
  obtain⟨E,q,g',c',hq,rfl,rfl,ad,ae,T,ak,H⟩:=hrel;have dw:=ak.o.le;by_cases a6:q<t.cells
  ·have cq:=(au.t ad).cell (c4.o q a6);have a7:=HV.o.tgt s az q a6;obtain⟨x,a8⟩:=Xq (t.ent2 s q);rw[a8] at cq a7;have ba:=Z a8;clear a8;have an:=Aq Ε T (Gw _ _).symm x (by rw[Gw];exact a7);rw[Ue _ _ _ a7] at an;have c8:=T.frozenAt x;have dx:=ad.size;by_cases hx:x∈E
   ·rw[decide_eq_true hx] at an;have HN:=Z (AN ak.o (by rw[H.o.2,ba.o];exact hx));clear hx;go_wp2;go_roundw
    case rel=>exact⟨E,q+1,g',c',by omega,by go_num,rfl,ad,ae,T,HN,H⟩
    simp[intOf];omega
   rw[decide_eq_false hx] at an;have HN:=Z (AP HV.o ak.o H.o.1 a6 (by rw[H.o.2,ba.o];exact hx));rw[H.o.2,ba.o] at HN;clear hx;obtain⟨ao,b0⟩:=Ba T x Α;rw[Mi] at ao;have aq:=ae.kept b0 (Aj ae T (by decide));have b4:=ad.grown b0 (λk e=>by cases e;exact c6);go_upto_region 12 with (fail)
   obtain⟨w6,b5⟩:=Xq (wr.setCell ⟨G,x,J⟩ (.bool Α));simp only[b5] at *;clear b5 an c8 T ae cq;have dz:=b4.size;go_wp2_with (at_builtin;refine ϕ _ rfl _ _ 54 rfl G 3 i0 (.int Χ 0) 1 8 ϝ hi cb cc cd rfl (by decide) _ _ _ rfl (aq.alloc _) _ 1 1 [iv x] rfl rfl (Õ _ _ _) (by simp[ξ]) (by decide) (by unfold ϐ;omega) (by omega) (by simp;omega) _ rfl ?_);intro g7 c7 w7 db bb _ _;have dc:=(ao.alloc (Β #[iv x] 3)).kept bb (Aj ao aq (by decide));have dd:=(b4.alloc (Β #[iv x] 3)).grown bb (λk e=>by have:=(aq.lt k e).1;omega);clear bb aq ao;go_wp2;go_roundw
   case rel=>refine⟨E++[x],q+1,g7,c7,by omega,by go_num,by rw[Ν];rfl,dd,?_,dc,HN,Z ⟨by rw[Ν];have:=H.o.1;omega,by rw[B9 _ _ _ _ H.o.1];exact H.o.2⟩⟩;show ϣ _ _ _ _ _ _ _;rw[Ν,ϥ];exact db
   case measure=>simp[intOf];omega
  obtain rfl:q=t.cells:=by omega
  have HN:=Z (AO ak.o);go_wp2;go_roundw
  case rel=>exact⟨E,k+1,g',c',by have:=H.o.1;omega,by go_num,rfl,ad,ae,T,HN⟩
  simp[intOf];omega
 obtain rfl:k=l.length:=by omega
 have de:=Z (AQ HI.o);go_wp2;go_ret;exact⟨_,l,rfl,de.o,hI.ints (by omega),au.t hE⟩
open Go.Maps (Keyed)
def Big (L:List UInt8->Prop):Prop:=∃ E:List (List UInt8),64<E.length/\E.Pairwise λu v=>∃ x,¬ (L (u++x)↔L (v++x))
def C7 (L:List UInt8->Prop):Option Dfa->Prop
 | some d=>Cano d/\(∀ w,d.has w=Α↔L w)/\d.n.length<=64
 | none=>Big L
theorem Sd {L:List UInt8->Prop} (h:Big L) {d:Dfa} (E:Val d) (hd:∀ w,d.has w=Α↔L w):64<d.n.length:=by obtain⟨G,h1,H⟩:=h;refine Ξ h1 (TR E G (H.imp λ{u v} ⟨x,hx⟩=>⟨x,λe=>hx ?_⟩));rw[<-hd,<-hd,e]
theorem MU {L:List UInt8->Prop} {r G:Option Dfa} (h:C7 L r) (E:C7 L G):r=G:=by
 cases r<;>cases G
 ·rfl
 ·have:=Sd h E.1.val E.2.1;have:=E.2.2;omega
 ·have:=Sd E h.1.val h.2.1;have:=h.2.2;omega
 rw[Ip h.1 E.1 h.2.1 E.2.1]
theorem VB {t:Tbl} (hv:TVal t) {R:List Nat} {B:Nat->Nat} {l:List Nat} (T:Reached t l) (hb:Blocks t l B R) (X:64<R.length):Big λw=>t.has w=Α:=by
 classical
 have E:∀ s:Nat,∃ w,s∈l->t.run 0 w=s:=λs=>by
  by_cases H:s∈l
  ·obtain⟨w,E⟩:=T.all s H;exact⟨w,λ_=>E⟩
  exact⟨[],λh=>absurd h H⟩
 refine⟨(π R.length).map λi=>(E (R.getD i 0)).choose,by simpa using X,?_⟩;rw[List.pairwise_map];refine List.Pairwise.imp_of_mem (λ{i j} hi G aa=>?_) (List.nodup_iff_pairwise_ne.1 List.nodup_range);have hi:=ώ.1 hi;have G:=ώ.1 G;refine Å λhx=>aa ?_
 have hx:∀ x,(t.has ((E (R.getD i 0)).choose++x)=Α↔t.has ((E (R.getD j 0)).choose++x)=Α):=λx=>Å λab=>hx ⟨x,ab⟩
 rw[<-hb.blk.rep i hi,<-hb.blk.rep j G];refine (hb.leq _ (hb.blk.mem i hi) _ (hb.blk.mem j G)).2 λx=>?_
 have:=hx x;rw[<-ϴ] at this;unfold Tbl.has at this;rw[Kd,Kd,(E (R.getD i 0)).choose_spec (hb.blk.mem i hi),(E (R.getD j 0)).choose_spec (hb.blk.mem j G)] at this;exact this
section
variable {κ:Type} {W:World} {k:TypeId} {key:κ->Value} {b n:Nat} {f:κ->Option Nat}
variable {ops:Array Oper} {rest:List Oper} {o:Oper} {a:Act} {Q:Exit->Act->World->Prop}
end
def Ay (L:List Cls) (N:List (List Nat)) (A:List Bool):Tbl:=⟨Am L,L.length,N,A⟩
structure WVal (L:List Cls) (N:List (List Nat)) (A:List Bool):Prop where
 pos:0<N.length
 accL:A.length=N.length
 row:∀ s,s<N.length->(N.getD s []).length=L.length
 tgt:∀ s,s<N.length->∀ k,k<L.length->(N.getD s []).getD k 0<N.length
 parts:Parts L
theorem WVal.tval {L:List Cls} {N:List (List Nat)} {A:List Bool} (h:WVal L N A):TVal (Ay L N A) where
 pos:=h.pos
 accL:=h.accL
 row:=h.row
 tgt:=h.tgt
 cell_lt:=λb hb=>cell_lt h.parts hb
 onto:=λk E=>Lw h.parts E
structure QuotD (L:List Cls) (t:Tbl) (B:Nat->Nat) (R:List Nat) (d:Dfa):Prop where
 cls:d.cls=L
 len:d.n.length=R.length
 acl:d.acc.length=R.length
 row:∀ i,i<R.length->(d.n.getD i []).length=L.length
 tgt:∀ i,i<R.length->∀ k,k<L.length->d.ent2 i k=B (t.ent2 (R.getD i 0) k)
 acc:∀ i,i<R.length->d.ok i=t.ok (R.getD i 0)
theorem GX {L:List Cls} {N:List (List Nat)} {A:List Bool} (hw:WVal L N A) {l:List Nat} (G:Reached (Ay L N A) l) {B:Nat->Nat} {R:List Nat} (hb:Blocks (Ay L N A) l B R) (h0:B 0=0) {d:Dfa} (h:QuotD L (Ay L N A) B R d) :
  Val d/\∀ w,d.has w=(Ay L N A).has w:=by
 have T:=hw.tval;have hR:0<R.length:=by have:=hb.blk.lt 0 G.zero;omega
 have ae:Val d:=by
  refine⟨by rw[h.len];exact hR,by rw[h.acl,h.len],λs E=>?_,λs E k hk=>?_,by rw[h.cls];exact hw.parts⟩
  ·rw[h.len] at E;rw[h.row s E,h.cls]
  rw[h.len] at E ⊢;rw[h.cls] at hk;rw[h.tgt s E k hk];exact hb.blk.lt _ (G.closed _ (hb.blk.mem s E) k hk)
 have af:∀ s∈l,d.ok (B s)=(Ay L N A).ok s:=λs E=>by have H:=hb.blk.lt s E;rw[h.acc _ H];have:=(hb.leq _ (hb.blk.mem _ H) s E).1 (hb.blk.rep _ H) [];exact this
 have ag:∀ s∈l,∀ b,b<256->d.stp (B s) b=B ((Ay L N A).stp s b):=λs E b X=>by have H:=hb.blk.lt s E;have hc:=cell_lt hw.parts X;unfold Dfa.stp;rw[h.cls,h.tgt _ H _ hc];have hm:=hb.blk.mem _ H;have ah:=((hb.leq _ hm s E).1 (hb.blk.rep _ H)).step b X;exact (hb.leq _ (G.stp T hm X) _ (G.stp T E X)).2 ah
 have ai:∀ (w:List UInt8) s,s∈l->d.run (B s) w=B ((Ay L N A).run s w):=λw=>by
  induction w with
  | nil=>intro s _;rfl
  | cons x w ih=>intro s E;show d.run (d.stp (B s) x.toNat) w=B ((Ay L N A).run ((Ay L N A).stp s x.toNat) w);rw[ag s E _ x.toNat_lt];exact ih _ (G.stp T E x.toNat_lt)
 refine⟨ae,λw=>?_⟩;have h1:=ai w 0 G.zero;rw[h0] at h1;show d.ok (d.run 0 w)=_;rw[h1];exact af _ (G.run T w G.zero)
theorem VA {L:List Cls} {N:List (List Nat)} {A:List Bool} (E:WVal L N A) {l:List Nat} (G:Reached (Ay L N A) l) {B:Nat->Nat} {R:List Nat} (hb:Blocks (Ay L N A) l B R) (H:64<R.length):C7 (λw=>(Ay L N A).has w=Α) J:=VB E.tval G hb H
theorem Lk {A B C:Γ} {g:Nat} {row:Option Nat} (h:A.grownBy B (I g)) (k:B.grownBy C row) (G:∀ x,row=I x->A.heap.size<=x\/x=g):A.grownBy C (I g):=
 ⟨k.os.trans h.os,k.tape.trans h.tape,k.output.trans h.output,μ h.size k.size,λx hx E=>(k.block x (Ξ hx h.size) (λe=>by
  rcases G x e.symm with h1|h1
  ·omega
  exact E (by rw[h1]))).trans (h.block x hx E)⟩
theorem QR {l:List Nat} {key:Nat->List UInt8} {N R:List Nat} {f:List UInt8->Option Nat} (h:NInv l key l.length N R f) (h0:0<R.length) (E:R.getD 0 0=0):N.getD 0 0=0:=by
 have:=(h.rep 0 h0).2
 rwa [E] at this
theorem Mo (n j:Nat) (h:j<n):(π n).getD j 0=j:=by simp[Ζ,h]
theorem WD {t:Tbl} {B:List Nat} (h:AInv t (π t.n.length) t.n.length B) (l:List Nat) (G:∀ s∈l,s<t.n.length):OInv t l B 0:=by
 refine⟨h.len,Uz t l _ λs E=>?_,λs E=>?_,by omega⟩
 ·show B.getD s 0=_;rw[h.at_ s];have:s∈(π t.n.length).take t.n.length:=by rw[List.take_of_length_le (by simp)];exact ώ.2 (G s E)
  have H:=G s E;simp[H]
 rw[h.at_ s];split<;>omega
theorem Wy (x:Nat):([ϲ .u8 (â.wrap (x:Int)),ϲ .u8 (â.wrap ((x:Int) / 256))]:List Δ)=(Bp x).map bv:=by
 have E:â.wrap (x:Int)=((ϔ x).toNat:Int):=by rw[IntKind.wrap_u8,UInt8.toNat_ofNat'];omega
 have G:â.wrap ((x:Int) / 256)=((ϔ (x / 256)).toNat:Int):=by rw[IntKind.wrap_u8,UInt8.toNat_ofNat'];omega
 rw[E,G];rfl
theorem IU {W:Γ} {base e size g n G:Nat} {xs:List Δ} (h:W.ownsRow base e size (U (I ⟨g,0,J⟩) n G) n xs):W.ownsRow base e size (U (I ⟨g,0,J⟩) 0 G) 0 []:=by
 rcases h.2 with⟨E,_⟩|⟨g',ad,cur,E,h1,H,h3,T,X,h6⟩
 ·cases E
 injection E with E _ e2
 injection E with E
 injection E with E _ _
 subst E e2;exact⟨by simp,.inr ⟨g,G,cur,rfl,h1,H,by omega,T,X,by simp⟩⟩
theorem Fp:(Ι.info? 128).map (·.size)=I 2:=by kernel_rfl
def Pz (E n T:Nat) (vc:Δ):Nat->Δ->Γ->Prop
 | 0,v,_=>v=η (I ⟨T,0,J⟩)
 | 1,v,_=>v=vc
 | 2,v,_=>v=iv n
 | 3,v,W=>∃ g,v=U (I ⟨g,0,J⟩) n n/\W.ownsRow E 54 1 v n (ζ n (U J 0 0))
 | 4,v,_=>v=iv n
 | 5,v,W=>∃ g,v=U (I ⟨g,0,J⟩) n n/\W.ownsRow E 4 1 v n ((ζ n Ε).map ψ)
 | 6,v,W=>∃ G H,v=.agg (dA vc (U (I ⟨G,0,J⟩) n n) (U (I ⟨H,0,J⟩) n n))/\W.ownsRow E 54 1 (U (I ⟨G,0,J⟩) n n) n (ζ n (U J 0 0))/\W.ownsRow E 4 1 (U (I ⟨H,0,J⟩) n n) n ((ζ n Ε).map ψ)
 | _,v,W=>∃ g,v=η (I ⟨g,0,J⟩)/\W.heap[g]? = I (Β #[U J 0 0,U J 0 0,U J 0 0] 40 (0,0))/\E<=g
theorem KT (T n X:Nat) (vc:Δ):∀ (i:Nat) (v:Δ) (w w':Γ),Pz T n X vc i v w->Ext w w'->Pz T n X vc i v w'
 | 0,_,_,_,h,_=>h
 | 1,_,_,_,h,_=>h
 | 2,_,_,_,h,_=>h
 | 3,_,_,_,⟨g,h1,G⟩,E=>⟨g,h1,Aa G E⟩
 | 4,_,_,_,h,_=>h
 | 5,_,_,_,⟨g,h1,G⟩,E=>⟨g,h1,Aa G E⟩
 | 6,_,_,_,⟨g,g',h1,G,H⟩,E=>⟨g,g',h1,Aa G E,Aa H E⟩
 | _+7,_,_,_,⟨g,h1,G,H⟩,E=>⟨g,h1,E.heap G,H⟩
theorem EC {P:Program} {ops:Array Ϭ} (w:Γ) {o:Ϭ} {a:Act} {K:Act->Γ->Prop} {Q:Exit->Act->Γ->Prop} {E:Prop} (T:o.guard=J)
  (l c:á) (t:ϫ) (X:o.op=Op.makeSlice t l c)
  (base:Nat) (e:ϫ) (i:TypeInfo) (z:Δ) (size:Nat) (h1:P.underlying t=I (.slice e)) (h2:P.info? e=I i) (h3:i.zero=I z) (h4:i.size=size)
  (G H:IntKind) (L C:Int) (n:Nat) (hl:a.eval l=.int G L) (hc:a.eval c=.int H C) (hL:L=(n:Int)) (hC:C=(n:Int)) (b2:i.bytes*n<=281474976710656) (b3:n<=ϐ) (b4:base<=w.heap.size)
  (hK:∀ w',w'.ownsRow base e size (U (I ⟨w.heap.size,0,J⟩) n n) n (madeCells z.cells (n*size)).toList->w.grownBy w' J->K (a.put o.dst (U (I ⟨w.heap.size,0,J⟩) n n)) w') :
  if Ϡ o (ð ops a.tmps)=Α then Ϭ.wp P o a w K Q else E:=by
 have hw:Ϡ o (ð ops a.tmps)=Α:=by simp[Ϡ,T]
 rw[if_pos hw];exact Gq w l c t X base e i z size h1 h2 h3 h4 G H L C n hl hc hL hC b2 b3 b4 hK
theorem Py (L:List Cls) (N0:List (List Nat)) (A0:List Bool) (hw:WVal L N0 A0) (hp:N0.length<=65536) (A:Array Δ) (va:Δ) (w:Γ) (hT:Tab w) (kc:0<w.heap.size) (h:IsW w A L N0) (ha:Bools w va A0) :
  Ϟ Ι 55 #[.agg A,va] w λe w'=>∃ r,ResOf w' e r/\C7 (λu=>(Ay L N0 A0).has u=Α) r/\Ext w w':=by
 obtain⟨t,ht⟩:=Xq (Ay L N0 A0);have hv:TVal t:=ht▸hw.tval;have h4:t.n=N0:=by rw[<-ht];rfl
 have kd:t.cells=L.length:=by rw[<-ht];rfl
 have h6:t.acc=A0:=by rw[<-ht];rfl
 have HT:=Z ht;have ke:=Z hw;rw[ht];rw[<-h4] at h hp;rw[<-h6] at ha;have ra:=Z h4;have h7:=Z kd;have rb:=Z h6;clear hw ht h4 kd h6;obtain⟨bn,on,cn,kg,rh,h8,hR⟩:=h.opened hv;obtain⟨ba,oa,ca,rfl,kk⟩:=Ü ha (by rw[hv.accL];exact hv.pos);have oe:=Z (λW (hW:Ext w W)=>hT.below hW.below kc);have og:=hv.pos;have rj:=hv.cpos;have rl:=hv.cle;have HR:=Z hR;have HV:=Z hv;have km:=Z h;have oh:=Z hv.accL;have ia:ϟ (∀ s,s<t.n.length->w.cell? ⟨ba,oa+s,J⟩=I (.bool (t.ok s))):=Z λs hs=>kk s (by rw[hv.accL];omega)
 rw[oh.o];obtain⟨n,fk⟩:=Xq (t.n.length);have HN:=Z fk;rw[fk] at hp og h8 ia;rw[fk];have om:(Ι.info? 128).map (·.size)=I A.size:=by rw[kg];exact Fp
 obtain⟨i0,hi,fm,fp,fq⟩:=ϑ Ds;obtain⟨i5,oq,ot,ou,ow⟩:=ϑ (show (Ι.info? 5).map (λi=>(i.zero,i.size,i.bytes))=I (I (.int .u8 0),1,1) by kernel_rfl);have ib:=((Κ w).alloc (Β A 128)).alloc (Β #[U J 0 0,U J 0 0,U J 0 0] 40);have H0:=Ag (Ad w (Β A 128)) (Β #[U J 0 0,U J 0 0,U J 0 0] 40);have H4:=heap_alloc2_new w (Β A 128) (Β #[U J 0 0,U J 0 0,U J 0 0] 40);clear hR hv h kk ha kg fk hT;go_enter Tryz.func55,Tryz.ntmps55;go_upto_region 1 with (fail)
 obtain⟨w1,ic⟩:=Xq ((w.alloc (Β A 128)).alloc (Β #[U J 0 0,U J 0 0,U J 0 0] 40));rw[ic] at ib H0 H4;simp only[ic];clear ic;have H0:=Z H0;have H4:=Z H4;have HK:=Z (λ(W:Γ) (hW:Ext w1 W)=>(Τ W w.heap.size 1 _ _ _ (hW.heap H0.o)).trans h8);clear h8;have du:=Z ib;have k1:=HK.o w1 (Κ w1);go_upto_region 2 with (at_make;refine Ϛ _ rfl _ _ 54 rfl w1.heap.size 3 i0 (.int Χ 0) 1 ϝ hi fm fp Χ Χ _ _ n rfl rfl rfl rfl (by rw[fq];omega) (by unfold ϐ;omega) (Υ _) ?_;intro w2 ko kq)
 have kr:Ext w1 w2:=(Κ w1).grown kq (λk e=>by cases e);have ig:w2.ownsRow w1.heap.size 3 1 (U (I ⟨w1.heap.size,0,J⟩) n n) n ((ζ n 0).map iv):=by rw[<-B7];exact ko
 clear ko kq k1 ib;obtain⟨gb,ft⟩:=Xq (w1.heap.size);rw[ft] at ig;simp only[ft];have oy:=Z ft;clear ft;go_wp2_with (fail);go_loopw [32] (λi W=>∃ (j:Nat) (B:List Nat),j<=n/\i=.int Χ j/\Ext w1 W/\W.ownsRow gb 3 1 (U (I ⟨gb,0,J⟩) n n) n (B.map iv)/\ϟ (AInv t (π n) j B))
  (λi _=>n-(intOf i).toNat)
 case atStart=>exact⟨0,_,by omega,rfl,kr,ig,Z (by have:=BE t (π n);rwa [HN.o] at this)⟩
 clear kr ig;obtain⟨j,B,hj,rfl,hE,hB,HI⟩:=hrel;by_cases af:j<n
 ·have fu:=du.o.cell (ia.o j af);have fu:=hE.cell fu;have ij:B.length=n:=by rw[HI.o.len,HN.o]
  have HY:=Z (λho=>BD HI.o (by simpa using af) (by rw[Mo n j af,HN.o];exact af) (by rw[Mo n j af];exact ho));have oz:=Z (λho=>BF HI.o (by simpa using af) (by rw[Mo n j af];exact ho));rw[Mo n j af] at HY;have o2:w1.heap.size<=gb:=Ñ oy.o;cases dv:t.ok j
  ·rw[dv] at fu;have bj:=Z (oz.o dv);clear dv ij;go_wp2_with (fail);go_roundw
   case rel=>exact⟨j+1,B,by omega,by go_num,hE,hB,bj⟩
   simp[intOf]<;>omega
  rw[dv] at fu;have o3:=Z (HY.o dv);clear dv;obtain⟨o4,ay⟩:=Ba hB j 1;have cs:=Aq 0 hB ij.symm j (by omega);have fs:=hB.frozenAt j;clear ij;go_wp2_with (fail);go_roundw
  case rel=>exact⟨j+1,B.set j 1,by omega,by go_num,hE.grown ay (λk e=>by cases e;exact o2),o4,o3⟩
  simp[intOf]<;>omega
 obtain rfl:n=j:=by omega
 have kt:=Z (λW (hW:Ext w W)=>CB L t HV.o (by rw[HN.o];exact hp) A W (km.o.ext hW));have ku:=Z (hE.heap H0.o);have kv:=du.o.t hE;go_upto_region 9 with (first
  | (refine Lr 128 (ε 2) ku.o Tryz.underlying128 om ?_)
  | (go_at_call 79;(with_reducible refine (kt.o _ kv).mono ?_);rintro e w3 ⟨vl,l,rfl,hl,kx,cq⟩))
 have rp:gb<w3.heap.size:=Ξ (hB.lt gb rfl).2 cq.size;have HO:=Z (WD (by rw[HN.o];exact HI.o) l hl.lt);have kz:=Aa hB cq;have il:=hE.t cq;have rq:l.length<=n:=by
  have:=D5 l (π t.n.length) hl.nodup λs hs=>ώ.2 (hl.lt s hs)
  simpa [HN.o] using this
 obtain⟨bl,ol,cl,rfl,k6⟩:=Ü kx hl.ne;have k7:=hl.ne;have HL:=Z hl;have o5:=Z (λW (hW:Ext w3 W) k (hk:k<l.length)=>hW.cell (k6 k (by omega)));have k9:ϟ (∀ s,s<n->w3.cell? ⟨gb,s,J⟩=I (iv (B.getD s 0))):=Z λs hs=>Aq 0 kz (by rw[HO.o.len,HN.o]) s (by rw[HO.o.len,HN.o];exact hs)
 clear kt ku HI cq hE hB kv kz k6 kx hl;go_upto_region 10 with (fail)
 have b5:=Ê (base:=w3.heap.size) (e:=3) (size:=1) w3 #[] 0 (Υ _) (by unfold ϐ;omega) rfl;have ir:=(Κ w3).alloc (Β #[] 3);have la:gb<(w3.alloc (Β #[] 3)).heap.size:=by rw[Ο];omega
 have lb:ϟ (∀ s,s<n->(w3.alloc (Β #[] 3)).cell? ⟨gb,s,J⟩=I (iv (B.getD s 0))):=Z λs hs=>ir.cell (k9.o s hs)
 have rv:w1.heap.size<=w3.heap.size:=il.size;have ez:gb≠w3.heap.size:=by omega
 have b6:=Z il;clear k9 il;go_wp2_with (fail);go_loopw [6,10,11] (λv6 lf o7 W=>∃ (B R0:List Nat) (m g cp gr cr:Nat),v6=U (I ⟨g,0,J⟩) n cp/\lf=U (I ⟨gr,0,J⟩) R0.length cr/\o7=.int Χ m/\Ext w3 W/\g<W.heap.size/\g≠gr/\ϟ (∀ s,s<n->W.cell? ⟨g,s,J⟩=I (iv (B.getD s 0)))/\W.ownsRow w3.heap.size 3 1 lf R0.length (R0.map iv)/\ϟ (OInv t l B m))
  (λ_ _ c _=>l.length-(intOf c).toNat)
 case atStart=>exact⟨B,[],0,gb,_,_,_,rfl,rfl,rfl,ir,la,ez,lb,b5,HO⟩
 clear lb HO la ir b5 ez B;obtain⟨B,R0,m,g,cp,gr,cr,rfl,rfl,rfl,hE,o8,ez,HC,iu,HO⟩:=hrel;have ry:=HO.o.le;obtain⟨T,pa⟩:∃ W,W=wr:=⟨_,rfl⟩;subst pa;have pb:=(iu.lt gr rfl);have pc:=hE.size;have pd:=@run_makeMap Ι;go_upto_region 11 with (fail)
 clear pd;have cq:=(Κ T).alloc (.map #[] 0);have iw:=Ig T 9 Co;have lh:(T.alloc (.map #[] 0)).heap.size=T.heap.size+1:=Ο _ _;obtain⟨w5,e0⟩:=Xq (T.alloc (.map #[] 0));rw[e0] at cq iw lh;simp only[e0];clear e0;go_upto_region 12 with (at_make;refine Ϛ _ rfl _ _ 54 rfl w5.heap.size 3 i0 (.int Χ 0) 1 ϝ hi fm fp Χ Χ _ _ n rfl rfl rfl rfl (by rw[fq];omega) (by unfold ϐ;omega) (Υ _) ?_;intro w6 fw X)
 have aa:=cq.grown X (λk e=>by cases e);have a1:w6.ownsRow w5.heap.size 3 1 (U (I ⟨w5.heap.size,0,J⟩) n n) n ((ζ n 0).map iv):=by rw[<-B7];exact fw
 have a8:=iw.kept X (by simp);have bf:T.heap.size+1<w6.heap.size:=by have:w5.heap.size<w6.heap.size:=(a1.lt _ rfl).2;omega
 have a6:=IU (Aa iu aa);have bb:T.grownBy w6 (I gr):=⟨aa.below.os,aa.below.tape,aa.below.output,aa.size,λk hk _=>aa.block hk⟩;have lj:=hE.t aa;clear fw X iw cq iu aa hE;generalize w5.heap.size=gn at *;subst lh;go_wp2_with (fail);go_loopw [10,53] (λv i W=>∃ (j:Nat) (N R:List Nat) (f:List UInt8->Option Nat) (bg de:Nat),j<=l.length/\i=.int Χ j/\v=U (I ⟨bg,0,J⟩) R.length de/\Ext w3 W/\T.grownBy W (I gr)/\T.heap.size+1<W.heap.size/\W.ownsRow (T.heap.size+1) 3 1 (U (I ⟨T.heap.size+1,0,J⟩) n n) n (N.map iv)/\W.ownsRow w3.heap.size 3 1 v R.length (R.map iv)/\IsMp W 9 Co T.heap.size R.length f/\(bg=gr\/T.heap.size+1<bg)/\ϟ (NInv l (Fo t λs=>B.getD s 0) j N R f/\N.length=n/\(0<j->R.getD 0 0=0/\0<R.length)))
  (λ_ i _=>l.length-(intOf i).toNat)
 case atStart=>exact⟨0,_,[],_,gr,cr,by omega,rfl,rfl,lj,bb,bf,a1,a6,a8,.inl rfl,Z ⟨Wa l _ _,by simp,λh=>absurd h (by omega)⟩⟩
 clear a1 a6 a8 lj bb bf;obtain⟨j,N,R,f,bg,de,hj,rfl,rfl,bm,fx,fy,e1,b5,ix,iy,ai⟩:=hrel;have rz:=ai.o.1.le;obtain⟨G,pe⟩:∃ W,W=wr:=⟨_,rfl⟩;subst pe;have iz:=Z (λW (hW:T.grownBy W (I gr)) s (hs:s<n)=>hW.cell (HC.o s hs) (λe=>ez (by injection e)));by_cases af:j<l.length
 ·have cl:=o5.o G bm j af;have fz:=Di l j 0 af;have dw:=HL.o.lt _ fz;rw[HN.o] at dw;have hx:=HO.o.lt _ fz;have lk:=Z (λk (hk:k<t.cells)=>HO.o.lt _ (HL.o.closed _ fz k hk));have ll:ϟ (j=0->l.getD j 0=0):=Z λe=>by rw[e];exact HL.o.head
  obtain⟨s,ja⟩:=Xq (l.getD j 0);rw[ja] at cl dw hx lk ll;have dx:=Z ja;clear ja fz;obtain⟨br,or',pg,ga,e2⟩:=HR.o s (by rw[HN.o];exact dw);have ph:=Z (λ(W:Γ) (hW:Ext w3 W)=>((du.o.t b6.o).trans hW).cell ga);have jb:=Z (λ(W:Γ) (hW:Ext w3 W) k (hk:k<t.cells)=>((du.o.t b6.o).trans hW).cell (e2 k hk));have pj:=Z (λk (hk:k<t.cells)=>HV.o.tgt s (by rw[HN.o];exact dw) k hk);clear ga e2;obtain⟨x,gd⟩:=Xq (B.getD s 0);rw[gd] at hx;have cx:=iz.o G fx s dw;rw[gd] at cx;have pk:=Z gd;clear gd;go_upto_region 16 with (fail)
  clear cl;refine Bq 12 [(0,Α),(1,Α),(2,Α),(3,Α),(4,Α),(5,Α),(6,Α),(7,Α),(8,Α),(9,Α),(10,Α),(11,Ε),(12,Ε)] (by kernel_rfl) (by kernel_rfl) (λ_ _ _ _ h=>h) (λV=>V.cell? ⟨g,s,J⟩=I (iv x)) ((Κ G).drew.cell cx) ?_;have H:=(Κ G).drew;obtain⟨wy,ak⟩:=Xq (G.drew);rw[ak] at H;rw[ak];clear ak;iterate 11
   refine Ai (v:=?_) rfl rfl (λV E=>?_) ?_
   rotate_left
   ·go_simp;first|done|with_reducible rfl
   simp only[θ,Η,Μ,Λ]
  refine Ao rfl (λKk hK=>?_);go_simp;refine hK _ _ (λ_=>(H.alloc _).cell cx) ?_;clear hK Kk;refine Ao rfl (λKk hK=>?_);go_simp;refine hK _ _ (λh=>absurd h (by omega)) ?_;clear hK Kk;refine Bn ?_;have e3:=Ê (base:=T.heap.size+1+1) (e:=5) (size:=1) wy #[ϲ .u8 (â.wrap (x:Int)),ϲ .u8 (â.wrap ((x:Int) / 256))] 2 (by have:=H.size;omega) (by unfold ϐ;omega) rfl;rw[show (#[ϲ .u8 (â.wrap (x:Int)),ϲ .u8 (â.wrap ((x:Int) / 256))]:Array Δ).toList=(Bp x).map bv from Wy x] at e3;have an:=H.alloc (Β #[ϲ .u8 (â.wrap (x:Int)),ϲ .u8 (â.wrap ((x:Int) / 256))] 5);have aa:=bm.t an;have bb:=fx.trans ((an.grownBy (I gr)));have a1:=Aa e1 an;have a6:=Aa b5 an;have a8:=ix.ext an;have bf:=Ξ fy an.size;obtain⟨gf,ln⟩:=Xq ((λk=>B.getD (t.ent2 s k) 0):Nat->Nat);have lo:=Z ln;clear ln e1 b5 ix bm fx fy cx H an;obtain⟨w6,df⟩:=Xq (wy.alloc (Β #[ϲ .u8 (â.wrap (x:Int)),ϲ .u8 (â.wrap ((x:Int) / 256))] 5));rw[df] at e3 aa bb a1 a6 a8 bf;simp only[df];clear df;obtain⟨lp,jc⟩:=Xq (wy.heap.size);rw[jc] at e3;simp only[jc];clear jc;have dy:w6.ownsRow (T.heap.size+1+1) 5 1 (U (I ⟨lp,0,J⟩) (2+2*0) 2) (2+2*0) ((Bp x++Bl gf 0).map bv):=by rw[show Bp x++Bl gf 0=Bp x by simp[Bl]];exact e3
  have k1:=HK.o w6 (b6.o.t aa);have k2:=ph.o w6 aa;clear e3;go_wp2_with (fail);clear k1 k2;go_loopw [16,75] (λv i W=>∃ (k gk ck:Nat),k<=t.cells/\i=.int Χ k/\v=U (I ⟨gk,0,J⟩) (2+2*k) ck/\Ext w3 W/\T.grownBy W (I gr)/\T.heap.size+1<W.heap.size/\W.ownsRow (T.heap.size+1) 3 1 (U (I ⟨T.heap.size+1,0,J⟩) n n) n (N.map iv)/\W.ownsRow w3.heap.size 3 1 (U (I ⟨bg,0,J⟩) R.length de) R.length (R.map iv)/\IsMp W 9 Co T.heap.size R.length f/\W.ownsRow (T.heap.size+1+1) 5 1 v (2+2*k) ((Bp x++Bl gf k).map bv))
   (λ_ i _=>t.cells-(intOf i).toNat)
  case atStart=>exact⟨0,lp,2,by omega,rfl,rfl,aa,bb,bf,a1,a6,a8,dy⟩
  clear aa bb bf a1 a6 a8 dy;obtain⟨k,gk,ck,hk,rfl,rfl,bw,dg,dz,bz,b7,b0,ea⟩:=hrel;obtain⟨w5,e0⟩:∃ W,W=wr:=⟨_,rfl⟩;subst e0;by_cases je:k<t.cells
  ·have cu:=pj.o k je;rw[HN.o] at cu;have hz:=lk.o k je;have cy:=jb.o w5 bw k je;obtain⟨y,dh⟩:=Xq (t.ent2 s k);have lu:ϟ (gf k=B.getD y 0):=Z (by rw[<-lo.o,<-dh]);rw[dh] at cy cu hz;clear dh;have cz:=iz.o w5 dg y cu;obtain⟨z,e6⟩:=Xq (B.getD y 0);rw[e6] at hz lu cz;clear e6;go_upto_region 20 with (fail)
   clear cy;refine Bq 14 [(0,Α),(1,Α),(2,Α),(3,Α),(4,Α),(5,Α),(6,Α),(7,Α),(8,Α),(9,Α),(10,Α),(11,Α),(12,Ε),(13,Ε),(14,Ε)] (by kernel_rfl) (by kernel_rfl) (λ_ _ _ _ h=>h) (λV=>V.cell? ⟨g,y,J⟩=I (iv z)) ((Κ w5).drew.cell cz) ?_;have H:=(Κ w5).drew;have gi:=H.cell cz;obtain⟨wy,ak⟩:=Xq (w5.drew);rw[ak] at H gi;rw[ak];clear ak cz;iterate 12
    refine Ai (v:=?_) rfl rfl (λV E=>?_) ?_
    rotate_left
    ·go_simp;first|done|with_reducible rfl
    simp only[θ,Η,Μ,Λ]
   refine Ao rfl (λKk hK=>?_);go_simp;refine hK _ _ (λ_=>((Κ wy).alloc _).cell gi) ?_;clear hK Kk;refine Ao rfl (λKk hK=>?_);have eb:=(Aa ea H).alloc (Β #[ϲ .u8 (â.wrap (z:Int)),ϲ .u8 (â.wrap ((z:Int) / 256))] 5);have an:=H.alloc (Β #[ϲ .u8 (â.wrap (z:Int)),ϲ .u8 (â.wrap ((z:Int) / 256))] 5);refine step_append_lies _ rfl _ _ 22 rfl (T.heap.size+1+1) 5 i5 (.int .u8 0) 1 1 ϡ oq ot ou ow rfl (by decide) (U (I ⟨gk,0,J⟩) (2+2*k) ck) _ _ rfl eb _ 2 2 ([ϲ .u8 (â.wrap (z:Int)),ϲ .u8 (â.wrap ((z:Int) / 256))]) rfl rfl (Js _ _ _ _) (by simp[ξ]) (by decide) (by unfold ϐ;omega) (by omega) (by have:=an.size;omega) _ rfl ?_;intro g6 c6 w6 dy X pn po;have gj:∀ x,(ό (I ⟨gk,0,J⟩) (2+2*k) ck).ownBlock=I x->T.heap.size+1+1<=x:=λx e=>(eb.lt x e).1
   have aa:Ext w3 w6:=(bw.t an).grown X (λk' e=>by have h1:=gj k' e;omega);have bb:=Lk (dg.trans (an.grownBy (I gr))) X (λk' e=>by have h1:=gj k' e;omega);refine hK _ _ (λ_=>?_) ?_
   ·exact X.cell (((Κ wy).alloc _).cell gi) (λe=>by have h1:=gj g e.symm;omega)
   clear hK Kk;refine Ao rfl (λKk hK=>?_);go_simp;refine hK _ _ (λh=>absurd h (by omega)) ?_;clear hK Kk;refine Bn ?_;have a1:=(Aa bz an).kept X (Aj (Aa bz an) eb (by decide));have a6:=(Aa b7 an).kept X (Aj (Aa b7 an) eb (by decide));have a8:=(b0.ext an).kept X ((b0.ext an).ne_row eb);have bf:=Ξ (Ξ dz an.size) X.size;have dy:w6.ownsRow (T.heap.size+1+1) 5 1 (U (I ⟨g6,0,J⟩) (2+2*(k+1)) c6) (2+2*(k+1)) ((Bp x++Bl gf (k+1)).map bv):=by rw[show Bp x++Bl gf (k+1)=(Bp x++Bl gf k)++Bp z by rw[Bl,lu.o,ê],ϥ,<-Wy z];exact dy
   clear bz b7 b0 ea X pn po gi bw dg dz an eb H gj;go_wp2_with (fail);go_roundw
   case rel=>exact⟨k+1,g6,c6,by omega,by go_num,rfl,aa,bb,bf,a1,a6,a8,dy⟩
   simp[intOf]<;>omega
  obtain rfl:k=t.cells:=by omega
  have ec:(Bp x++Bl gf t.cells).length=2+2*t.cells:=by rw[Ν,Jq,P7]
  have jf:Fo t (λs=>B.getD s 0) s=Bp x++Bl gf t.cells:=by show Bp (B.getD s 0)++Bl (λk=>B.getD (t.ent2 s k) 0) t.cells=_;rw[pk.o,lo.o]
  obtain⟨ky,ly⟩:=Xq (Bp x++Bl gf t.cells);rw[ly] at ec jf ea;have jg:=Z jf;clear ly jf;have pq:(convert 22 9 (U (I ⟨gk,0,J⟩) (2+2*t.cells) ck)).run Ι w5=.ok (Co ky) w5:=Kh _ _ _ (By.of_owns (by rw[ec];exact ea) (by rw[ec];omega));have jh:=Oo ky (by rw[ec];unfold ϐ;omega);have r2:=Z ec;have ee:s<N.length:=by rw[ai.o.2.1];exact dw
  clear ec;cases hf:f ky with
  | some i=>
   have bj:=Wb ai.o.1 HL.o.nodup af (by rw[dx.o];exact ee) i (by rw[dx.o,jg.o];exact hf);rw[dx.o] at bj;have l2:0<j:=by obtain⟨q,hq,_⟩:=ai.o.1.from_ _ _ hf;omega
   have bj:=Z (í bj (í (show (N.set s i).length=n by rw[ο];exact ai.o.2.1) (λ(_:0<j+1)=>ai.o.2.2 l2)));have cn:=Aq 0 bz ai.o.2.1.symm s ee;have fn:=bz.frozenAt s;obtain⟨a1,X⟩:=Ba bz s i;have aa:=bw.grown X (λk' e=>by cases e;omega);have bb:=Lk dg X (λk' e=>by cases e;omega);have a6:=b7.kept X (Cb b7 (by omega));have a8:=b0.kept X (by simp);have bf:=Ξ dz X.size;clear X b7 bz bw dz dg ee l2;go_wp2_with (at_lookup;refine Dx rfl _ _ 168 rfl Gd Tryz.underlying168 rfl b0 ky rfl jh ?_;rw[hf];dsimp only [æ,Option.getD]);go_roundw
   case rel=>exact⟨j+1,N.set s i,R,f,bg,de,by omega,by go_num,rfl,aa,bb,bf,a1,a6,a8,iy,bj⟩
   simp[intOf]<;>omega
  | none=>
   have bj:=Wc ai.o.1 HL.o.nodup af (by rw[dx.o];exact ee) (by rw[dx.o,jg.o];exact hf);rw[dx.o,jg.o] at bj;have bj:=Z (í bj (í (show (N.set s R.length).length=n by rw[ο];exact ai.o.2.1) (λ(_:0<j+1)=>(show (R++[s]).getD 0 0=0/\0<(R++[s]).length from by
    refine⟨?_,by simp⟩;by_cases e:j=0
    ·have pr:R=[]:=List.length_eq_zero_iff.1 (by omega);have pt:=ll.o e;subst pr
     simpa using pt
    obtain⟨h1,h2⟩:=ai.o.2.2 (by omega);rw[Ζ,ϊ h2,<-Ζ];exact h1))))
   have fw:=ea;go_upto_region 25 with (at_lookup;refine Dx rfl _ _ 168 rfl Gd Tryz.underlying168 rfl b0 ky rfl jh ?_;rw[hf];dsimp only [æ,Option.getD])
   go_upto_region 26 with (at_mapUpdate;refine Gr rfl _ _ _ 168 rfl Gd Tryz.underlying168 rfl b0 (by unfold ϐ;omega) Oq ky rfl jh R.length rfl (by omega) ?_;intro w6 a8 X)
   clear pq;have a1:=bz.kept X (b0.far bz);have a6:=b7.kept X (b0.far b7);have aa:=bw.grown X (λk' e=>by cases e;omega);have bb:=Lk dg X (λk' e=>by cases e;omega);have bf:=Ξ dz X.size;clear X b7 bz bw dz b0 ea fw dg;go_upto_region 27 with (at_builtin;refine ϕ _ rfl _ _ 54 rfl w3.heap.size 3 i0 (.int Χ 0) 1 8 ϝ hi fm fp fq rfl (by decide) (U (I ⟨bg,0,J⟩) R.length de) _ _ rfl (a6.alloc _) _ 1 1 [iv s] rfl rfl (Õ _ _ _) (by simp[ξ]) (by decide) (by unfold ϐ;omega) (by omega) (by simp;omega) _ rfl ?_;intro g7 c7 w7 e9 ef ji _)
   have ji:g7=gr\/T.heap.size+1<g7:=by
    rcases ji with h|h
    ·injection h with h
     have h:bg=g7:=h;rw[<-h];exact iy
    right
    rw[Ο] at h;omega
   have jj:∀ k',(ό (I ⟨bg,0,J⟩) R.length de).ownBlock=I k'->k'=bg:=λk' e=>by injection e with e;exact e.symm
   have gl:=(a1.alloc (Β #[iv s] 3)).kept ef (Cb a1 (show T.heap.size+1≠bg by omega));have l4:=(a8.alloc (Β #[iv s] 3)).kept ef (λe=>by have:=jj _ e.symm;omega);have fa:=(aa.alloc (Β #[iv s] 3)).grown ef (λk' e=>(a6.lt k' e).1);have cw:=Lk (bb.trans (((Κ w6).alloc (Β #[iv s] 3)).grownBy (I gr))) ef (λk' e=>by have:=jj _ e;omega);have l5:T.heap.size+1<w7.heap.size:=by have:=ef.size;rw[Ο] at this;omega
   have e9:w7.ownsRow w3.heap.size 3 1 (U (I ⟨g7,0,J⟩) (R.length+1) c7) (R.length+1) ((R++[s]).map iv):=by rw[ϥ];exact e9
   clear ef a6 a1 aa bf a8 bb jj;have cn:=Aq 0 gl ai.o.2.1.symm s ee;have fn:=gl.frozenAt s;obtain⟨px,bc⟩:=Ba gl s R.length;have eg:=fa.grown bc (λk' e=>by cases e;omega);have dk:=Lk cw bc (λk' e=>by cases e;omega);have py:=e9.kept bc (Cb e9 (by omega));have pz:=l4.kept bc (by simp);have p0:=Ξ l5 bc.size;clear bc e9 gl fa l5 l4 cw ee;go_wp2_with (fail);go_roundw
   case rel=>exact⟨j+1,N.set s R.length,R++[s],_,g7,c7,by omega,by go_num,by rw[Ν];rfl,eg,dk,p0,px,by rw[Ν];exact py,by rw[Ν];exact pz,ji,bj⟩
   simp[intOf]<;>omega
 obtain rfl:j=l.length:=by omega
 by_cases he:R.length=m
 ·have l6:((R.length:Int)==(m:Int))=Α:=by simp[he]
  have HB:=Z (V0 HV.o HL.o HO.o ai.o.1 he);have p1:R.length<=65536:=by omega
  have p2:=Z (QR ai.o.1 (ai.o.2.2 k7).2 (ai.o.2.2 k7).1);have l7:=Z ai.o.2.1;subst he;clear HO ai ix iz fx iy pb pc ez o8;by_cases l8:64<R.length
  ·have l9:(64:Int)<(R.length:Int):=by omega
   have p3:=Z (VA ke.o (by rw[HT.o];exact HL.o) (by rw[HT.o];exact HB.o) l8);have ma:=Z (bm.heap (b6.o.heap H4.o));have p4:=Z F1;go_wp2_with (first
    | (refine Bj rfl 40 _ rfl #[U J 0 0,U J 0 0,U J 0 0] ?_ ?_;(simp;with_reducible exact p4.o))
    | (refine Sr 40 (ε 4) (ε 127) rfl ma.o Ae rfl Fa ?_))
   refine ω (v:=ϙ #[zD,.int Χ 2]) (Bi rfl _ _ _ _ _ _ _ rfl _ rfl (Φ G _ _ #[U J 0 0,U J 0 0,U J 0 0] 40 (0,0) ma.o) Ρ rfl Ae) rfl ?_;refine⟨J,rfl,?_,((du.o.t b6.o).trans bm).setRow (by omega) _⟩;have:=p3.o;rw[HT.o] at this;exact this
  have l9:¬ (64:Int)<(R.length:Int):=by omega
  obtain⟨M,hM⟩:=Xq (R.length);have b9:=Z hM;rw[hM] at l8 p1 b5;simp only[hM] at l9 ⊢;clear hM l6;have p5:=Z (λV (E:Ext G V) y (hy:y<n)=>E.cell (Aq 0 e1 l7.o.symm y (by rw[l7.o];exact hy)));have p7:=Z (λV (E:Ext G V) i (hi:i<M)=>E.cell (Aq 0 b5 b9.o.symm i (by rw[b9.o];exact hi)));obtain⟨vc,vn,mc,jl,p8⟩:=km.o;obtain⟨ac,cc,jm⟩:=Sl.len jl;rw[<-h7.o] at jm;have fb:=Z jm;clear jm;have eh:=Z ((du.o.t b6.o).trans bm);have qa:=Z (jl.ext eh.o);have qb:=Z (bm.heap (b6.o.heap H0.o));have me:=Z (λV (E:Ext G V)=>(Τ V w.heap.size 0 _ _ _ (E.heap qb.o)).trans (show A[0]? = I vc by rw[mc];rfl));have qc:=Z (λV (E:Ext G V)=>HK.o V ((b6.o.t bm).trans E));have dm:=Z (bm.heap (b6.o.heap H4.o));have qd:=Z (λV (E:Ext G V)=>HR.o.ext (eh.o.t E));have qe:=Z (λV (E:Ext G V) s hs=>(eh.o.t E).cell (ia.o s hs));clear jl p8 mc bm e1 b5 fy;obtain⟨j0,hj,qg,qh,qi⟩:=ϑ Fc;obtain⟨k0,hk,qj,qk,ql⟩:=ϑ Lf;go_upto_region 34 with (fail)
  refine Hk 8 186 (by kernel_rfl) (by kernel_rfl) rfl (Pz G.heap.size M w.heap.size vc) Hz Kv (KT _ _ _ _) (λi gm=>?_) (λvs w5 bw hF hN=>?_)
  ·have gp:=(Κ G).drew
   match i,gm with
   | 0,_=>
    refine Av _ _ rfl rfl rfl λc W hW bd b4=>?_
    have h3:c.tmps.getD 2 δ=η (I ⟨w.heap.size,0,J⟩):=b4 2 (by kernel_rfl);go_simp;exact⟨_,rfl,Κ W,rfl,λ_ _ _ _ _=>trivial⟩
   | 1,_=>
    refine Av _ _ rfl rfl rfl λc W hW bd b4=>?_
    have h3:c.tmps.getD 128 δ=η (I ⟨w.heap.size,0,J⟩):=bd 0 128 (by kernel_rfl);have c0:=me.o W (gp.t hW);rw[fb.o] at c0;go_simp;exact⟨_,rfl,Κ W,fb.o.symm,λ_ _ _ _ _=>trivial⟩
   | 2,_=>
    refine Av _ _ rfl rfl rfl λc W hW bd b4=>?_
    have h3:c.tmps.getD 11 δ=.int Χ (M:Int):=b4 11 (by kernel_rfl);go_simp;exact⟨_,rfl,Κ W,rfl,λ_ _ _ _ _=>trivial⟩
   | 3,_=>
    refine Av _ _ rfl rfl rfl λc W hW bd b4=>?_
    have h3:c.tmps.getD 130 δ=iv M:=bd 2 130 (by kernel_rfl);refine Gq W _ _ 37 rfl G.heap.size 54 k0 (U J 0 0) 1 Tryz.underlying37 hk qj qk Χ Χ _ _ M h3 h3 rfl rfl (by rw[ql];omega) (by unfold ϐ;omega) (gp.t hW).size ?_;intro W' jn ay;refine⟨_,rfl,(Κ W).grown ay (λk e=>by cases e),⟨_,rfl,?_⟩,λ_ _ _ _ _=>trivial⟩;rw[<-Jc];exact jn
   | 4,_=>
    refine Av _ _ rfl rfl rfl λc W hW bd b4=>?_
    have h3:c.tmps.getD 11 δ=.int Χ (M:Int):=b4 11 (by kernel_rfl);go_simp;exact⟨_,rfl,Κ W,rfl,λ_ _ _ _ _=>trivial⟩
   | 5,_=>
    refine Av _ _ rfl rfl rfl λc W hW bd b4=>?_
    have h3:c.tmps.getD 132 δ=iv M:=bd 4 132 (by kernel_rfl);refine Gq W _ _ 38 rfl G.heap.size 4 j0 (.bool Ε) 1 Ý hj qg qh Χ Χ _ _ M h3 h3 rfl rfl (by rw[qi];omega) (by unfold ϐ;omega) (gp.t hW).size ?_;intro W' jn ay;refine⟨_,rfl,(Κ W).grown ay (λk e=>by cases e),⟨_,rfl,?_⟩,λ_ _ _ _ _=>trivial⟩;rw[<-B7];exact jn
   | 6,_=>
    refine Av _ _ rfl rfl rfl λc W hW bd b4=>?_
    have h3:c.tmps.getD 129 δ=vc:=bd 1 129 (by kernel_rfl);obtain⟨g5,mg,h5⟩:∃ g,c.tmps.getD 131 δ=U (I ⟨g,0,J⟩) M M/\W.ownsRow G.heap.size 54 1 (c.tmps.getD 131 δ) M (ζ M (U J 0 0)):=bd 3 131 (by kernel_rfl);obtain⟨g9,mi,h9⟩:∃ g,c.tmps.getD 133 δ=U (I ⟨g,0,J⟩) M M/\W.ownsRow G.heap.size 4 1 (c.tmps.getD 133 δ) M ((ζ M Ε).map ψ):=bd 5 133 (by kernel_rfl);rw[mg] at h5;rw[mi] at h9;refine Cy (Gi 40 _ rfl (A:=dA vc (U (I ⟨g5,0,J⟩) M M) (U (I ⟨g9,0,J⟩) M M)) ?_ W) ?_
    ·have e:(Array.map (λ(i,x)=>(i,c.eval x)) #[(0,á.tmp 129),(1,á.tmp 131),(2,á.tmp 133)]).toList=[(0,c.eval (ε 129)),(1,c.eval (ε 131)),(2,c.eval (ε 133))]:=by simp
     rw[e,show c.eval (ε 129)=vc from h3,show c.eval (ε 131)=_ from mg,show c.eval (ε 133)=_ from mi,fb.o];exact UI _ _ _ _ _ _ _ _ _
    exact⟨_,rfl,Κ W,⟨g5,g9,rfl,h5,h9⟩,λ_ _ _ _ _=>trivial⟩
   | 7,_=>
    refine Av _ _ rfl rfl rfl λc W hW bd b4=>?_
    go_simp;exact⟨_,rfl,(Κ W).alloc _,⟨_,rfl,Ad W _,(gp.t hW).size⟩,λ_ _ _ _ _=>trivial⟩
  have mj:vs 0=η (I ⟨w.heap.size,0,J⟩):=hF 0 (by omega);have ml:vs 1=vc:=hF 1 (by omega);have mm:vs 2=iv M:=hF 2 (by omega);obtain⟨r5,mo,-⟩:∃ g,vs 3=U (I ⟨g,0,J⟩) M M/\_:=hF 3 (by omega);have mq:vs 4=iv M:=hF 4 (by omega);obtain⟨r6,mr,-⟩:∃ g,vs 5=U (I ⟨g,0,J⟩) M M/\_:=hF 5 (by omega);obtain⟨g5,g9,mu,c3,c4⟩:∃ g5 g9,vs 6=.agg (dA vc (U (I ⟨g5,0,J⟩) M M) (U (I ⟨g9,0,J⟩) M M))/\_/\_:=hF 6 (by omega);obtain⟨g8,mv,H8,qo⟩:∃ g,vs 7=η (I ⟨g,0,J⟩)/\_/\_:=hF 7 (by omega);simp only[Bm,List.drop_succ_cons,À,mj,ml,mm,mo,mq,mr,mu,mv,List.getElem?_toArray,List.getElem?_cons_zero,List.getElem?_cons_succ,Option.bind_some,θ,Η,Μ,Λ];clear hF hN mj ml mm mo mq mr mu mv;go_upto_region 35 with (refine Sr 40 (ε 21) (ε 134) rfl H8 Ae rfl (Aw _ _ _ (by rw[fb.o];rfl) rfl rfl) ?_)
  have aa:=((Κ G).drew.t bw).setRow qo (dA vc (U (I ⟨g5,0,J⟩) M M) (U (I ⟨g9,0,J⟩) M M));have jo:=Φ w5 g8 _ (dA vc (U (I ⟨g5,0,J⟩) M M) (U (I ⟨g9,0,J⟩) M M)) _ _ H8;have jq:=c3.kept (Ca w5 g8 (dA vc (U (I ⟨g5,0,J⟩) M M) (U (I ⟨g9,0,J⟩) M M))) (B2 c3 H8 (by decide));have jr:=c4.kept (Ca w5 g8 (dA vc (U (I ⟨g5,0,J⟩) M M) (U (I ⟨g9,0,J⟩) M M))) (B2 c4 H8 (by decide));obtain⟨w6,df⟩:=Xq (w5.setRow g8 (dA vc (U (I ⟨g5,0,J⟩) M M) (U (I ⟨g9,0,J⟩) M M)));rw[df] at aa jo jq jr;simp only[df];clear df H8 c3 c4 bw;have ei:G.heap.size<=w6.heap.size:=aa.size;have H8:=Z jo;clear jo;obtain⟨cd,mw⟩:=Xq ((λj q=>N.getD (t.ent2 (R.getD j 0) q) 0):Nat->Nat->Nat);have my:=Z mw;clear mw;go_wp2_with (fail);go_loopw [137] (λi W=>∃ (s:Nat) (NX:List Δ) (AC:List Bool),s<=M/\i=.int Χ s/\Ext G W/\G.heap.size<=W.heap.size/\ϟ (NX.length=M/\AC.length=M)/\W.ownsRow G.heap.size 54 1 (U (I ⟨g5,0,J⟩) M M) M NX/\W.ownsRow G.heap.size 4 1 (U (I ⟨g9,0,J⟩) M M) M (AC.map ψ)/\ϟ (W.heap[g8]? = I (Β (dA vc (U (I ⟨g5,0,J⟩) M M) (U (I ⟨g9,0,J⟩) M M)) 40 (0,0)))/\ϟ (∀ j,j<s->OwnI W G.heap.size (NX.getD j δ) ((π t.cells).map (cd j)))/\ϟ (∀ j,j<s->AC.getD j Ε=t.ok (R.getD j 0)))
   (λi _=>M-(intOf i).toNat)
  case atStart=>exact⟨0,_,_,by omega,rfl,aa,ei,Z ⟨by simp,by simp⟩,jq,jr,H8,Z (λj h=>by omega),Z (λj h=>by omega)⟩
  clear aa ei jq jr H8;obtain⟨s,NX,AC,hs,rfl,hE,ei,bh,c3,c4,H8,HQ,gu⟩:=hrel;by_cases af:s<M
  ·have cr:=p7.o wr hE s af;have mz:=HB.o.blk.mem s (by rw[b9.o];exact af);have gv:=HL.o.lt _ mz;obtain⟨q,dn⟩:=Xq (R.getD s 0);rw[dn] at cr gv;have na:=Z dn;clear dn mz;go_upto_region 38 with (fail)
   clear cr;have ej:=Z (λV (E:Ext wr V)=>show V.cell? ⟨w.heap.size,0,J⟩=I (U ac t.cells cc)/\V.cell? ⟨g8,1,J⟩=I (U (I ⟨g5,0,J⟩) M M) from
    ⟨(me.o V (hE.t E)).trans (by rw[fb.o]),(Τ V g8 1 _ _ _ (E.heap H8.o)).trans rfl⟩)
   have qp:(s:Int)<(M:Int):=by omega
   refine Bq 8 [(0,Α),(1,Α),(2,Α),(3,Α),(4,Α),(5,Α),(6,Ε),(7,Α),(8,Ε)] (by kernel_rfl) (by kernel_rfl) (λ_ _ _ _ h=>h) (λV=>Ext wr V) (Κ wr).drew ?_;have H:=(Κ wr).drew;obtain⟨wy,ak⟩:=Xq (wr.drew);rw[ak] at H;rw[ak];clear ak;iterate 6
    refine Ai (v:=?_) rfl rfl (λV E=>?_) ?_
    rotate_left
    ·obtain⟨k0,k8⟩:=ej.o V E;clear E;go_simp;first|done|with_reducible rfl
    simp only[θ,Η,Μ,Λ]
   refine Ao rfl (λKk hK=>?_);refine EC wy rfl _ _ 54 rfl wy.heap.size 3 i0 (.int Χ 0) 1 ϝ hi fm fp Χ Χ _ _ t.cells rfl rfl rfl rfl (by rw[fq];omega) (by unfold ϐ;omega) (Υ _) ?_;intro w7 nb nc;have dp:=H.grown nc (λk e=>by cases e);refine hK _ _ (λ_=>dp) ?_;clear hK Kk;have fa:=hE.t dp;have cj:=Aa c3 dp;have js:=Aa c4 dp;have cw:w7.ownsRow wy.heap.size 3 1 (U (I ⟨wy.heap.size,0,J⟩) t.cells t.cells) t.cells ((Cp (cd s) t.cells 0).map iv):=by rw[Ll,<-B7];exact nb
   have gw:=Z (dp.heap H8.o);have fe:=Z (λj h1=>í (Aa (HQ.o j h1) dp) (λe=>(show ∀ k,(NX.getD j δ).ownBlock=I k->k<wy.heap.size from λk e=>Ξ ((HQ.o j h1).lt k e).2 H.size) wy.heap.size e));have jt:G.heap.size<=wy.heap.size:=μ ei H.size;have nd:wy.heap.size<w7.heap.size:=(cw.lt _ rfl).2;clear nb nc HQ c3 c4 H8 hE ei ej;obtain⟨gn,ff⟩:=Xq (wy.heap.size);rw[ff] at cw jt nd fe;simp only[ff];clear ff H;have c5:=C3 cj s (by rw[bh.o.1];exact af);have f5:=cj.frozenAt s;have qq:G.heap.size<=g5:=(cj.lt g5 rfl).1;obtain⟨ek,bc⟩:=cj.stored s (U (I ⟨gn,0,J⟩) t.cells t.cells);have eg:=fa.grown bc (λk e=>by cases e;exact qq);have gx:=js.kept bc (Aj js cj (by decide));have dk:=cw.kept bc (Aj cw cj (by decide));have fh:ϟ ((w7.setCell ⟨g5,s,J⟩ (U (I ⟨gn,0,J⟩) t.cells t.cells)).heap[g8]? = I (Β (dA vc (U (I ⟨g5,0,J⟩) M M) (U (I ⟨g9,0,J⟩) M M)) 40 (0,0))):=Z ((bc.block g8 (Al gw.o) (λe=>by
    have h1:=gw.o;obtain⟨C,hC,-⟩:=Eg cj;injection e with e
    rw[e,hC] at h1;injection h1 with h1
    injection h1 with _ h2 _
    exact absurd h2 (by decide))).trans gw.o)
   have ju:=Z (λj h1=>(fe.o j h1).1.kept bc (Aj (fe.o j h1).1 cj (by decide)));have qs:gn<(w7.setCell ⟨g5,s,J⟩ (U (I ⟨gn,0,J⟩) t.cells t.cells)).heap.size:=(dk.lt _ rfl).2;iterate 1
    refine Ai (v:=?_) rfl rfl (λV E=>?_) ?_
    rotate_left
    ·clear E;go_simp;first|done|with_reducible rfl
    simp only[θ,Η,Μ,Λ]
   refine Ao rfl (λKk hK=>?_);go_simp;refine hK _ _ (λh=>absurd h (by omega)) ?_;clear hK Kk;refine Bn ?_;clear c5 f5 bc gw cj js cw fa dp nd;obtain⟨w8,jw⟩:=Xq (w7.setCell ⟨g5,s,J⟩ (U (I ⟨gn,0,J⟩) t.cells t.cells));rw[jw] at ek eg gx dk fh ju qs;simp only[jw];clear jw;have nf:=Z (λj h1=>(fe.o j h1).2);clear fe;obtain⟨br,or',pg,ng,e2⟩:=qd.o G (Κ G) q gv;have ga:=eg.cell ng;have k1:=qc.o w8 eg;have qt:q<n:=by rw[<-HN.o];exact gv
   have jb:=Z (λV (E:Ext G V) k (hk:k<t.cells)=>E.cell (e2 k hk));have jx:NX.length=M:=bh.o.1;clear e2 ng;go_wp2_with (fail);clear k1 ga;have gy:=Z dk;go_loopw [156] (λi W=>∃ k:Nat,k<=t.cells/\i=.int Χ k/\w8.grownBy W (I gn)/\W.ownsRow gn 3 1 (U (I ⟨gn,0,J⟩) t.cells t.cells) t.cells ((Cp (cd s) t.cells k).map iv))
    (λi _=>t.cells-(intOf i).toNat)
   case atStart=>exact⟨0,by omega,rfl,Γ.grownBy.refl _ _,dk⟩
   clear dk;obtain⟨k,r7,rfl,hg,hX⟩:=hrel;have eo:=eg.grown hg (λk e=>by cases e;exact jt);have nh:g5≠gn:=λe=>by
    obtain⟨C,hC,-⟩:=Eg hX;have ep:=ek.kept hg (Aj ek (show w8.ownsRow gn 3 1 (U (I ⟨gn,0,J⟩) t.cells t.cells) t.cells _ from gy.o) (by decide));obtain⟨C5,gz,-⟩:=Eg ep;rw[e,hC] at gz;injection gz with gz
    injection gz with _ h2 _
    exact absurd h2 (by decide)
   have ni:g8≠gn:=λe=>by
    have h1:=fh.o;obtain⟨C,hC,-⟩:=Eg gy.o;rw[e,hC] at h1;injection h1 with h1
    injection h1 with _ h2 _
    exact absurd h2 (by decide)
   have ep:=ek.kept hg (Cb ek nh);have jy:=gx.kept hg (Aj gx gy.o (by decide));have er:=Z ((hg.block g8 (Al fh.o) (λe=>ni (by injection e))).trans fh.o);by_cases hh:k<t.cells
   ·have ct:=jb.o wr eo k hh;have cu:=HV.o.tgt q gv k hh;rw[HN.o] at cu;have fj:cd s k=N.getD (t.ent2 q k) 0:=by rw[<-my.o,<-na.o]
    obtain⟨y,dh⟩:=Xq (t.ent2 q k);have cu:y<n:=by rw[<-dh];exact cu
    rw[dh] at ct fj;clear dh;have c5:=C3 ep s (by rw[ο,jx];exact af);rw[B6 (by rw[jx];exact af)] at c5;have ej:=Z (λV (E:Ext wr V)=>show V.cell? ⟨g8,1,J⟩=I (U (I ⟨g5,0,J⟩) M M)/\V.cell? ⟨g5,s,J⟩=I (U (I ⟨gn,0,J⟩) t.cells t.cells)/\V.cell? ⟨T.heap.size+1,y,J⟩=I (iv (N.getD y 0)) from
     ⟨(Τ V g8 1 _ _ _ (E.heap er.o)).trans rfl,E.cell c5,p5.o V (eo.t E) y cu⟩)
    obtain⟨z,e6⟩:=Xq (N.getD y 0);rw[e6] at ej fj;clear e6 c5;have r9:(k:Int)<(t.cells:Int):=by omega
    have sa:(y:Int)<(n:Int):=by omega
    go_upto_region 42 with (fail)
    clear ct;refine Bq 11 [(0,Α),(1,Α),(2,Α),(3,Α),(4,Α),(5,Α),(6,Α),(7,Α),(8,Α),(9,Α),(10,Α),(11,Ε)] (by kernel_rfl) (by kernel_rfl) (λ_ _ _ _ h=>h) (λV=>Ext wr V) (Κ wr).drew ?_;have H:=(Κ wr).drew;obtain⟨wy,ak⟩:=Xq (wr.drew);rw[ak] at H;rw[ak];clear ak;iterate 11
     refine Ai (v:=?_) rfl rfl (λV E=>?_) ?_
     rotate_left
     ·obtain⟨k8,k5,kN⟩:=ej.o V E;clear E;go_simp;first|done|with_reducible rfl
     simp only[θ,Η,Μ,Λ]
    have c8:=Aa hX H;have co:=Aq 0 c8 (Ev _ _ _).symm k (by rw[Ev];exact hh);have fo:=c8.frozenAt k;obtain⟨et,ay⟩:=Ba c8 k z;rw[<-fj,Jm (cd s) _ _ hh] at et;rw[fj] at et;have ff:=(hg.trans (H.grownBy (I gn))).trans ay;refine Ao rfl (λKk hK=>?_);go_simp;refine hK _ _ (λh=>absurd h (by omega)) ?_;clear hK Kk;refine Bn ?_;clear co fo ay c8 hX hg H ej ep jy eo fj;go_wp2_with (fail);go_roundw
    case rel=>exact⟨k+1,by omega,by go_num,ff,et⟩
    simp[intOf]<;>omega
   obtain rfl:k=t.cells:=by omega
   rw[Nl] at hX;have nk:=Z (λj h1=>(ju.o j h1).kept hg (.inr λe=>absurd ((nf.o j h1) e) (Nat.lt_irrefl _)));clear nh ni ju nf ek gx fh;obtain⟨c9,j1⟩:=Xq (t.ok q);have nl:=Z (λV (E:Ext wr V)=>show V.cell? ⟨g8,2,J⟩=I (U (I ⟨g9,0,J⟩) M M)/\V.cell? ⟨ba,oa+q,J⟩=I (.bool c9) from
    ⟨(Τ V g8 2 _ _ _ (E.heap er.o)).trans rfl,by rw[<-j1];exact qe.o V (eo.t E) q qt⟩)
   have qp:(s:Int)<(M:Int):=by omega
   have sd:(q:Int)<(n:Int):=by omega
   go_upto_region 44 with (fail)
   refine Bq 8 [(0,Α),(1,Α),(2,Α),(3,Α),(4,Α),(5,Α),(6,Α),(7,Α),(8,Ε)] (by kernel_rfl) (by kernel_rfl) (λ_ _ _ _ h=>h) (λV=>Ext wr V) (Κ wr).drew ?_;have H:=(Κ wr).drew;obtain⟨wy,ak⟩:=Xq (wr.drew);rw[ak] at H;rw[ak];clear ak;iterate 8
    refine Ai (v:=?_) rfl rfl (λV E=>?_) ?_
    rotate_left
    ·obtain⟨k8,kA⟩:=nl.o V E;clear E;go_simp;first|done|with_reducible rfl
    simp only[θ,Η,Μ,Λ]
   have cm:=Aa jy H;have j2:=Aa ep H;have c8:=Aa hX H;have co:=Aq Ε cm bh.o.2.symm s (by rw[bh.o.2];exact af);have fo:=cm.frozenAt s;have qu:G.heap.size<=g9:=(cm.lt g9 rfl).1;obtain⟨nm,ay⟩:=Ba (f:=ψ) cm s c9;have j3:=(eo.t H).grown ay (λk e=>by cases e;exact qu);have nn:=j2.kept ay (Aj j2 cm (by decide));have et:=c8.kept ay (Aj c8 cm (by decide));have np:ϟ ((wy.setCell ⟨g9,s,J⟩ (.bool c9)).heap[g8]? = I (Β (dA vc (U (I ⟨g5,0,J⟩) M M) (U (I ⟨g9,0,J⟩) M M)) 40 (0,0))):=Z ((ay.block g8 (Al (H.heap er.o)) (λe=>by
    have h1:=H.heap er.o;obtain⟨C,hC,-⟩:=Eg cm;injection e with e
    rw[e,hC] at h1;injection h1 with h1
    injection h1 with _ h2 _
    exact absurd h2 (by decide))).trans (H.heap er.o))
   have nq:ϟ (∀ j,j<s+1->OwnI (wy.setCell ⟨g9,s,J⟩ (.bool c9)) G.heap.size ((NX.set s (U (I ⟨gn,0,J⟩) t.cells t.cells)).getD j δ) ((π t.cells).map (cd j))):=Z (λj qv=>by
    by_cases e:j=s
    ·subst e;rw[B6 (by rw[jx];exact af)];have:=E9 et jt;unfold OwnI;rw[ι,List.length_range];exact this
    rw[Be e];have h1:=Aa (nk.o j (by omega)) H;exact h1.kept ay (Aj h1 cm (by decide)))
   have qw:ϟ (∀ j,j<s+1->(AC.set s c9).getD j Ε=t.ok (R.getD j 0)):=Z (λj qv=>by
    by_cases e:j=s
    ·subst e;rw[B6 (by rw[bh.o.2];exact af),na.o,j1]
    rw[Be e];exact gu.o j (by omega))
   have qx:ϟ ((NX.set s (U (I ⟨gn,0,J⟩) t.cells t.cells)).length=M/\(AC.set s c9).length=M):=Z ⟨by rw[ο];exact bh.o.1,by rw[ο];exact bh.o.2⟩;have nr:=j3.size;refine Ao rfl (λKk hK=>?_);go_simp;refine hK _ _ (λh=>absurd h (by omega)) ?_;clear hK Kk;refine Bn ?_;clear co fo ay cm j2 c8 hX hg H nl ep jy eo et nk gu er bh j1 gy;obtain⟨wF,j4⟩:=Xq (wy.setCell ⟨g9,s,J⟩ (.bool c9));rw[j4] at nm j3 nn np nq nr;try simp only[j4]
   clear j4;go_wp2_with (fail);go_roundw
   case rel=>exact⟨s+1,_,AC.set s c9,by omega,by go_num,j3,nr,qx,nn,nm,np,nq,qw⟩
   simp[intOf]<;>omega
  obtain rfl:s=M:=by omega
  obtain⟨d,hd⟩:=Xq (Dfa.mk L ((π s).map λj=>(π t.cells).map (cd j)) AC:Dfa);have dn:QuotD L t (λs=>N.getD s 0) R d:=by
   rw[<-hd];refine⟨rfl,by rw[b9.o];simp,by rw[b9.o];exact bh.o.2,λi hi=>?_,λi hi k hk=>?_,λi hi=>?_⟩
   ·rw[b9.o] at hi;show (((π s).map λj=>(π t.cells).map (cd j)).getD i []).length=_;rw[Eu _ _ _ _ hi,<-h7.o];simp
   ·rw[b9.o] at hi;rw[<-h7.o] at hk;show (((π s).map λj=>(π t.cells).map (cd j)).getD i []).getD k 0=_;rw[Eu _ _ _ _ hi,Eu _ _ _ _ hk,<-my.o]
   rw[b9.o] at hi;exact gu.o i hi
  have ns:=GX ke.o (l:=l) (B:=λs=>N.getD s 0) (R:=R) (by rw[HT.o];exact HL.o) (by rw[HT.o];exact HB.o) p2.o (by rw[HT.o];exact dn);rw[HT.o] at ns;obtain⟨j5,nt⟩:=ns;have j6:d.n.length=s:=by rw[dn.len,b9.o]
  have nu:IsD wr (.agg (dA vc (U (I ⟨g5,0,J⟩) s s) (U (I ⟨g9,0,J⟩) s s))) d:=by
   refine⟨vc,_,_,rfl,by rw[<-hd];exact qa.o.ext hE,?_,?_⟩
   ·rw[<-hd];refine⟨NX,by rw[bh.o.1];simp,?_,λi hi=>?_⟩
    ·have:=Sl.of_owns c3 (show s<=4611686018427387904 by omega) δ;simp only[ι,List.length_range];exact this
    have gm:i<s:=by simpa using hi
    have h1:=HQ.o i gm;simp only;rw[Eu _ _ _ _ gm];exact h1.ints (by simp;omega)
   have h9:OwnB wr G.heap.size (U (I ⟨g9,0,J⟩) s s) AC:=by unfold OwnB;rw[bh.o.2];exact c4
   rw[<-hd];exact h9.bools (by rw[bh.o.2];omega)
  have qy:=Z (Ry d j5 (by rw[j6];omega) _ wr (oe.o wr (eh.o.t hE)) (Ξ kc (eh.o.t hE).size) nu);have dm:=Z (hE.heap dm.o);have qz:=Z nt;have q4:=Z j5;have q5:=Z j6;have HE:=Z (eh.o.t hE);clear j5 j6 nt nu dn c3 c4 HQ gu hE ei hd;go_wp2_with (first
   | (refine Lr 40 (ε 21) H8.o Ρ Ae ?_)
   | (go_at_call 80;(with_reducible refine qy.o.mono ?_);rintro e w9 ⟨r,j7,nv,nw,ny⟩;obtain⟨n0,n1,n2,n3,n4,n5,n9,ob,oc,k2,rfl⟩:=j7.form;have q8:=Z j7;have j8:=Z nv;have od:=Z nw;clear j7 nv nw;have dm:=Z (ny.heap dm.o))
   | (refine Sr 40 (ε 4) (ε 184) rfl dm.o Ae rfl (Aw _ _ _ rfl rfl rfl) ?_))
  refine ω (v:=ϙ #[.agg (dA (U n0 n1 n2) (U n3 n4 n5) (U n9 ob oc)),.int Χ k2]) (Bi rfl _ _ _ _ _ _ _ rfl _ rfl (Φ w9 _ _ (dA (U n0 n1 n2) (U n3 n4 n5) (U n9 ob oc)) 40 (0,0) dm.o) Ρ rfl Ae) rfl ?_;refine⟨I r,q8.o.setRow (λd' h=>by injection h with h;subst h;exact j8.o.val) dm.o _,⟨j8.o,λx=>by rw[od.o,qz.o],?_⟩,(HE.o.t ny).setRow (by omega) _⟩;have:=Nw j8.o q4.o (λx=>by rw[od.o]);rw[q5.o] at this;omega
 have l6:((R.length:Int)==(m:Int))=Ε:=by simp;omega
 obtain⟨j9,si⟩:=Vz HV.o HL.o HO.o (by omega) (by rw[ai.o.2.1,HN.o]) ai.o.1 he;have j9:=Z j9;have q9:ϟ (∀ s,s<n->G.cell? ⟨T.heap.size+1,s,J⟩=I (iv (N.getD s 0))):=Z λs hs=>Aq 0 e1 ai.o.2.1.symm s (by rw[ai.o.2.1];exact hs)
 clear he;go_wp2_with (fail);go_roundw
 case rel=>exact⟨N,R,R.length,T.heap.size+1,_,bg,de,rfl,rfl,rfl,bm,fy,by omega,q9,b5,j9⟩
 simp[intOf]<;>omega
end Go.Proofs.YtilncahcpjlfnaaGreatDoor
