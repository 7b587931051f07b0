import Derived.Test.YtilncahcpjlfnaaGreatDoorN10
import Derived.Test.YtilncahcpjlfnaaGreatDoorN09
import Derived.Test.YtilncahcpjlfnaaGreatDoorN03
import Derived.Test.YtilncahcpjlfnaaGreatDoorN07
import Derived.Test.YtilncahcpjlfnaaGreatDoorN02
import Derived.Test.YtilncahcpjlfnaaGreatDoorN04
import Derived.Test.YtilncahcpjlfnaaGreatDoorN06
import Derived.Test.YtilncahcpjlfnaaGreatDoorN08
import Derived.Test.YtilncahcpjlfnaaGreatDoorN05
set_option linter.unusedVariables false
set_option linter.unusedSimpArgs false
set_option maxRecDepth 100000
set_option maxHeartbeats 4000000
open Array renaming getD_eq_getD_getElem? → Ϗ, getElem?_eq_getElem → ϗ, replicate → ä, getElem?_toList → Ϲ
open BitVec renaming getLsbD_zero → ï
open Bool renaming true → Α, false → Ε, eq_iff_iff → ϴ, false_eq_true → Í, and_eq_true → ς
open Go renaming Value → Δ, World → Γ, TypeId → ϫ, Calls → Ϟ, info_parts → ϑ, heap_alloc2_new → ύ, cell_of_row → Τ, undef → δ, maxLen → ϐ, Operand → á, setRow_heap → Φ, frozen_of_row → Â, setCell_eq_setRow → ϧ, bodyPost_ret → ω, results_cell_row → Æ, Program → Ö, Oper → Ϭ, Act → ë, mem_ready → ý, getD_replicate_false → ϛ
open Go.Act renaming put → θ, eval → ß
open Go.Ending renaming returned → Ω
open Go.IntKind renaming i64 → Χ, u64 → γ, i64 → å, u8 → â
open Go.Lib renaming hid → Z
open Go.Obj renaming cells → Β
open Go.Operand renaming tmp → ε
open Go.Proofs.Tryz renaming prog → Ι, underlying40 → Ρ, underlying91 → ϋ, underlying96 → Ò
open Go.Region renaming wanted → Ϡ, ready → Ϯ
open Go.RowKit renaming Hid → ϟ
open Go.Value renaming slice → U, pointer → η, bool → ψ, oneCell' → ξ, slice → ό
open Go.World renaming ownsRow_nil → ϰ, size_alloc → Ο, ownsRow → ϣ
open List renaming getElem?_eq_some_iff → ν, length_map → ι, getElem?_eq_getElem → Θ, getD_eq_getElem?_getD → Ζ, mem_map → Ϫ, nil_append → Ú, getElem?_cons_zero → Ϻ, getElem?_cons_succ → ϻ, setIfInBounds_toArray → Η, set_cons_zero → Μ, set_cons_succ → Λ, length_append → Ν, take_of_length_le → Ø, replicate → ζ, getElem_mem → ϯ, length_eq_zero_iff → ϵ, length_cons → ϒ, length_nil → à, mem_singleton → ϖ, mem_cons → ù, mem_cons_self → É, mem_append → Ä, length_take → Ï, mem_cons_of_mem → ç, not_mem_nil → è, length_singleton → Ϥ, getElem?_append_left → ϊ, getElem?_append_right → χ
open Nat renaming zero_add → Ϣ, le_of_eq → Ñ, le_trans → μ, le_refl → Υ, lt_of_lt_of_le → Ξ, pow_le_pow_right → ϳ
open Option renaming some → I, none → J, getD_some → Ç
namespace Go.Proofs.YtilncahcpjlfnaaGreatDoor
open Go.RowKit Go.Shelf
theorem UJ (a E:Option Addr) (n c G H:Nat):Ι.built 40 [(0,U a n c),(2,U E G H)]=I #[U a n c,U J 0 0,U E G H]:=by kernel_rfl
def Rs (bx E m n:Nat) (L:List Cls) (A:List Bool) (vc T:Δ):Nat->Δ->Γ->Prop
 | 0,v,_=>v=η (I ⟨bx,0,J⟩)
 | 1,v,_=>v=vc
 | 2,v,W=>∃ g c,v=U (I ⟨g,0,J⟩) m c/\W.ownsRow E 91 4 v m (Ci L)
 | 3,v,_=>v=η (I ⟨bx,2,J⟩)
 | 4,v,_=>v=T
 | 5,v,W=>∃ g c,v=U (I ⟨g,0,J⟩) n c/\W.ownsRow E 4 1 v n (A.map ψ)
 | 6,v,W=>∃ G c1 H c2,v=.agg #[U (I ⟨G,0,J⟩) m c1,U J 0 0,U (I ⟨H,0,J⟩) n c2]/\W.ownsRow E 91 4 (U (I ⟨G,0,J⟩) m c1) m (Ci L)/\W.ownsRow E 4 1 (U (I ⟨H,0,J⟩) n c2) n (A.map ψ)
 | _,v,W=>∃ g,v=η (I ⟨g,0,J⟩)/\W.heap[g]? = I (Β #[U J 0 0,U J 0 0,U J 0 0] 40 (0,0))/\E<=g
theorem TD (bx T m n:Nat) (L:List Cls) (A:List Bool) (vc X:Δ):∀ (i:Nat) (v:Δ) (w w':Γ),Rs bx T m n L A vc X i v w->Ext w w'->Rs bx T m n L A vc X i v w'
 | 0,_,_,_,h,_=>h
 | 1,_,_,_,h,_=>h
 | 2,_,_,_,⟨g,c,h1,G⟩,E=>⟨g,c,h1,Aa G E⟩
 | 3,_,_,_,h,_=>h
 | 4,_,_,_,h,_=>h
 | 5,_,_,_,⟨g,c,h1,G⟩,E=>⟨g,c,h1,Aa G E⟩
 | 6,_,_,_,⟨g1,c1,g2,c2,h1,G,H⟩,E=>⟨g1,c1,g2,c2,h1,Aa G E,Aa H E⟩
 | _+7,_,_,_,⟨g,h1,G,H⟩,E=>⟨g,h1,E.heap G,H⟩
def OwnD (W:Γ) (Bo:Nat) (v:Δ) (d:Dfa):Prop:=∃ vc E G vs,v=.agg #[vc,E,G]/\W.ownsRow Bo 91 4 vc d.cls.length (Ci d.cls)/\W.ownsRow Bo 54 1 E vs.length vs/\RowsO W Bo vs d.n (λ_=>False)/\W.ownsRow Bo 4 1 G d.acc.length (d.acc.map ψ)
theorem OwnD.ext {W W':Γ} {Bo:Nat} {v:Δ} {d:Dfa} (h:OwnD W Bo v d) (E:Ext W W'):OwnD W' Bo v d:=by obtain⟨vc,G,H,vs,T,h1,X,h3,h4⟩:=h;exact⟨vc,G,H,vs,T,Aa h1 E,Aa X E,h3.kept (E.grownBy J) (λv l _ _=>by cases v.ownBlock<;>simp),Aa h4 E⟩
theorem OwnD.keptT {W W':Γ} {Bo:Nat} {v:Δ} {d:Dfa} (h:OwnD W Bo v d) {b' s' m:Nat} {E:ϫ} {u:Δ} {ys:List Δ} (G:W.ownsRow b' E s' u m ys) (he:91≠E/\54≠E/\3≠E/\4≠E) (hg:W.grownBy W' u.ownBlock):OwnD W' Bo v d:=by obtain⟨vc,X,va,vs,hv,h1,H,h3,T⟩:=h;exact⟨vc,X,va,vs,hv,h1.kept hg (Aj h1 G he.1),H.kept hg (Aj H G he.2.1),h3.kept hg (λv l hl _=>Aj hl G he.2.2.1),T.kept hg (Aj T G he.2.2.2)⟩
theorem OwnD.row {W:Γ} {Bo:Nat} {v:Δ} {d:Dfa} (h:OwnD W Bo v d) {g:Nat} {cs G:Array Δ} {t:ϫ} {fr:Nat × Nat} (hg:W.heap[g]? = I (Β cs t fr)) (he:t≠91/\t≠54/\t≠3/\t≠4):OwnD (W.setRow g G) Bo v d:=by obtain⟨vc,X,va,vs,hv,h1,H,h3,T⟩:=h;have E:=Ca W g G;exact⟨vc,X,va,vs,hv,h1.kept E (B2 h1 hg he.1),H.kept E (B2 H hg he.2.1),h3.kept E (λv l hl _=>B2 hl hg he.2.2.1),T.kept E (B2 T hg he.2.2.2)⟩
theorem OwnD.base {W:Γ} {Bo G:Nat} {v:Δ} {d:Dfa} (h:OwnD W Bo v d) (hb:G<=Bo):OwnD W G v d:=by obtain⟨vc,T,X,vs,hv,h1,h2,E,h4⟩:=h;exact⟨vc,T,X,vs,hv,E9 h1 hb,E9 h2 hb,⟨E.1,λj H=>⟨E9 (E.2 j H).1 hb,(E.2 j H).2⟩⟩,E9 h4 hb⟩
theorem OwnD.isD {W:Γ} {Bo:Nat} {v:Δ} {d:Dfa} (h:OwnD W Bo v d) (E:Val d) (hn:d.n.length<=64):IsD W v d:=by
 obtain⟨vc,H,G,vs,rfl,h1,T,X,h4⟩:=h;have hm:=E.parts.le;refine⟨vc,H,G,rfl,?_,X.rows T (by omega) (λj hj=>by rw[E.row j hj];omega),?_⟩
 ·have h:Row W Bo vc d.cls:=h1;exact h.toCs (by omega)
 have h:OwnB W Bo G d.acc:=h4;exact h.bools (by rw[E.accL];omega)
theorem OwnD.agg {W:Γ} {Bo:Nat} {v:Δ} {d:Dfa} (h:OwnD W Bo v d):∃ A:Array Δ,v=.agg A/\A.size=3/\A.all (·.oneCell')=Α:=by
 obtain⟨vc,T,X,vs,rfl,h1,G,h3,H⟩:=h;have one:∀ {base e s n:Nat} {v:Δ} {xs:List Δ},W.ownsRow base e s v n xs->v.oneCell'=Α:=λh=>by
  rcases h.2 with⟨E,_⟩|⟨g,ab,cur,E,_⟩
  ·rw[E];rfl
  rw[E];rfl
 exact⟨_,rfl,rfl,Aw _ _ _ (one h1) (one G) (one H)⟩
theorem Vl (d:Dfa) (hv:Val d) (hn:d.n.length<=64) (v:Δ) (w:Γ) (h:IsD w v d) :
  Ϟ Ι 61 #[v] w λe w'=>∃ v',e=Ω v'/\OwnD w' w.heap.size v' d/\Ext w w':=by
 have HV:=Z hv;obtain⟨bc,oc,cc,bn,on,cn,ba,oa,ca,rfl,hC,hR,eg⟩:=h.opened hv;have cm:=hv.parts.pos;have gm:=hv.parts.le;have eh:=hv.pos;have cp:=hv.accL;obtain⟨b1,o1,c1,a8,ei⟩:=Ü hC hv.parts.pos;injection a8 with a8 _ gn
 injection a8 with a8
 injection a8 with a8 gp _
 subst a8 gp gn;obtain⟨i0,hi,gu,gv,gw⟩:=ϑ Ds;obtain⟨j0,hj,gy,gz,ha⟩:=ϑ Fc;obtain⟨k0,hk,hp,hq,hr⟩:=ϑ Lf;obtain⟨l0,hl,hy,hz,h2⟩:=ϑ Qn;obtain⟨n,cq⟩:=Xq (d.n.length);obtain⟨m,b7⟩:=Xq (d.cls.length);have HN:=Z cq;have HM:=Z b7;have h4:=Z (λW (T:Ext w W)=>show ∀ j u,(Ci d.cls)[j]? = I u->W.cell? ((⟨bc,oc,J⟩:Addr).add j)=I u from λj u hu=>by
  have bu:j<d.cls.length*4:=by rw[<-Ih];exact (ν.1 hu).1
  rw[Fr _ _ bu] at hu;rw[<-hu,J4];exact T.cell (ei j bu))
 have h5:=Z (λW (T:Ext w W)=>show ∀ j u,(d.acc.map ψ)[j]? = I u->W.cell? ((⟨ba,oa,J⟩:Addr).add j)=I u from λj u hu=>by
  have bu:j<d.acc.length:=by rw[<-ι (f:=ψ)];exact (ν.1 hu).1
  rw[List.getElem?_map,Θ bu] at hu;rw[<-hu,J4];have h:=T.cell (eg j (by omega));rw[h];unfold Dfa.ok;rw[Ζ,Θ bu];rfl)
 have cv:=Z (λs (hs:s<d.n.length)=>hR s hs);rw[cq] at hn eh cp cv;rw[b7] at cm gm cv;rw[cq,b7];obtain⟨Va,cw⟩:=Xq (dA (U (I ⟨bc,oc,J⟩) m cc) (U (I ⟨bn,on,J⟩) n cn) (U (I ⟨ba,oa,J⟩) n ca));have cy:=Z cw;rw[cw];clear h hv hC hR eg ei b7 cw;have cz:=((Κ w).alloc (Β Va 40)).alloc (Β #[U J 0 0,U J 0 0,U J 0 0] 40);have H2:=Ag (Ad w (Β Va 40)) (Β #[U J 0 0,U J 0 0,U J 0 0] 40);have H3:=ύ w (Β Va 40) (Β #[U J 0 0,U J 0 0,U J 0 0] 40);go_enter Tryz.func61,Tryz.ntmps61;go_upto_region 1 with (fail)
 obtain⟨w1,c3⟩:=Xq ((w.alloc (Β Va 40)).alloc (Β #[U J 0 0,U J 0 0,U J 0 0] 40));rw[c3] at cz H2 H3;simp only[c3];clear c3;have bm:=Z cz;have H3:=Z H3;have h6:=Z (λV (hV:Ext w1 V)=>(Τ V w.heap.size 0 _ _ _ (hV.heap H2)).trans (show Va[0]? = I (U (I ⟨bc,oc,J⟩) m cc) by rw[<-cy.o];rfl));have h7:=Z (λV (hV:Ext w1 V)=>(Τ V w.heap.size 1 _ _ _ (hV.heap H2)).trans (show Va[1]? = I (U (I ⟨bn,on,J⟩) n cn) by rw[<-cy.o];rfl));have h9:=Z (λV (hV:Ext w1 V)=>(Τ V w.heap.size 2 _ _ _ (hV.heap H2)).trans (show Va[2]? = I (U (I ⟨ba,oa,J⟩) n ca) by rw[<-cy.o];rfl));have ej:(Ci d.cls).length=m*4:=by rw[Ih,HM.o]
 have ek:(d.acc.map ψ).length=n*1:=by rw[ι,cp];omega
 have en:∀ u∈Ci d.cls,u.oneCell'=Α:=λu hu=>by
  obtain⟨j,hj,rfl⟩:=List.mem_iff_getElem.1 hu;have h:=Fr d.cls j (by rw[<-Ih];exact hj);rw[Θ hj] at h;injection h with h
  rw[h];rfl
 have eo:∀ u∈d.acc.map ψ,u.oneCell'=Α:=λu hu=>by obtain⟨b',_,rfl⟩:=Ϫ.1 hu;rfl
 clear cz H2;refine Hk 8 29 (by kernel_rfl) (by kernel_rfl) rfl (Rs w.heap.size w1.heap.size m n d.cls d.acc (U (I ⟨bc,oc,J⟩) m cc) (U (I ⟨ba,oa,J⟩) n ca)) Hz Kv (TD _ _ _ _ _ _ _ _) (λi ia=>?_) (λvs w5 bo hF hN=>?_)
 ·have bd:=(Κ w1).drew
  match i,ia with
  | 0,_=>
   refine Av _ _ rfl rfl rfl λc W T ab ak=>?_
   have h3:c.tmps.getD 1 δ=η (I ⟨w.heap.size,0,J⟩):=ak 1 (by kernel_rfl);go_simp;exact⟨_,rfl,Κ W,rfl,λ_ _ _ _ _=>trivial⟩
  | 1,_=>
   refine Av _ _ rfl rfl rfl λc W T ab ak=>?_
   have h3:c.tmps.getD 6 δ=η (I ⟨w.heap.size,0,J⟩):=ab 0 6 (by kernel_rfl);have c0:=h6.o W (bd.t T);go_simp;exact⟨_,rfl,Κ W,rfl,λ_ _ _ _ _=>trivial⟩
  | 2,_=>
   refine Av _ _ rfl rfl rfl λc W T ab ak=>?_
   have h3:c.tmps.getD 7 δ=U (I ⟨bc,oc,J⟩) m cc:=ab 1 7 (by kernel_rfl);refine wp_append_lies W (.const (U J 0 0)) (ε 7) 36 rfl w1.heap.size 91 l0 (.agg zA) 4 32 Tryz.underlying36 hl hy hz h2 rfl (by decide) (U J 0 0) 0 [] rfl (ϰ W w1.heap.size 91 4) ⟨bc,oc,J⟩ m cc (Ci d.cls) h3 ej (h4.o W (bm.o.t (bd.t T))) en cm (by unfold ϐ;omega) (by omega) (bd.t T).size _ rfl ?_;intro g c W' bz c5 _ _;rw[Ϣ,Ú] at bz;rw[Ϣ];exact⟨_,rfl,(Κ W).grown c5 (λk e=>by cases e),⟨g,c,rfl,bz⟩,λ_ _ _ _ _=>trivial⟩
  | 3,_=>
   refine Av _ _ rfl rfl rfl λc W T ab ak=>?_
   have h3:c.tmps.getD 1 δ=η (I ⟨w.heap.size,0,J⟩):=ak 1 (by kernel_rfl);go_simp;exact⟨_,rfl,Κ W,rfl,λ_ _ _ _ _=>trivial⟩
  | 4,_=>
   refine Av _ _ rfl rfl rfl λc W T ab ak=>?_
   have h3:c.tmps.getD 9 δ=η (I ⟨w.heap.size,2,J⟩):=ab 3 9 (by kernel_rfl);have c0:=h9.o W (bd.t T);go_simp;exact⟨_,rfl,Κ W,rfl,λ_ _ _ _ _=>trivial⟩
  | 5,_=>
   refine Av _ _ rfl rfl rfl λc W T ab ak=>?_
   have h3:c.tmps.getD 10 δ=U (I ⟨ba,oa,J⟩) n ca:=ab 4 10 (by kernel_rfl);refine wp_append_lies W (.const (U J 0 0)) (ε 10) 38 rfl w1.heap.size 4 j0 (.bool Ε) 1 1 Tryz.underlying38 hj gy gz ha rfl (by decide) (U J 0 0) 0 [] rfl (ϰ W w1.heap.size 4 1) ⟨ba,oa,J⟩ n ca (d.acc.map ψ) h3 ek (h5.o W (bm.o.t (bd.t T))) eo eh (by unfold ϐ;omega) (by omega) (bd.t T).size _ rfl ?_;intro g c W' bz c5 _ _;rw[Ϣ,Ú] at bz;rw[Ϣ];exact⟨_,rfl,(Κ W).grown c5 (λk e=>by cases e),⟨g,c,rfl,bz⟩,λ_ _ _ _ _=>trivial⟩
  | 6,_=>
   refine Av _ _ rfl rfl rfl λc W T ab ak=>?_
   obtain⟨G,k1,h8,ad⟩:∃ g c',c.tmps.getD 8 δ=U (I ⟨g,0,J⟩) m c'/\W.ownsRow w1.heap.size 91 4 (c.tmps.getD 8 δ) m (Ci d.cls):=ab 2 8 (by kernel_rfl);obtain⟨H,X,er,ae⟩:∃ g c',c.tmps.getD 11 δ=U (I ⟨g,0,J⟩) n c'/\W.ownsRow w1.heap.size 4 1 (c.tmps.getD 11 δ) n (d.acc.map ψ):=ab 5 11 (by kernel_rfl);rw[h8] at ad;rw[er] at ae;refine Cy (Gi 40 _ rfl (A:=#[U (I ⟨G,0,J⟩) m k1,U J 0 0,U (I ⟨H,0,J⟩) n X]) ?_ W) ?_
   ·have e:(Array.map (λ(i,x)=>(i,c.eval x)) #[(0,á.tmp 8),(2,á.tmp 11)]).toList=[(0,c.eval (ε 8)),(2,c.eval (ε 11))]:=by simp
    rw[e,show c.eval (ε 8)=_ from h8,show c.eval (ε 11)=_ from er];exact UJ _ _ _ _ _ _
   exact⟨_,rfl,Κ W,⟨G,k1,H,X,rfl,ad,ae⟩,λ_ _ _ _ _=>trivial⟩
  | 7,_=>
   refine Av _ _ rfl rfl rfl λc W T ab ak=>?_
   go_simp;exact⟨_,rfl,(Κ W).alloc _,⟨_,rfl,Ad W _,(bd.t T).size⟩,λ_ _ _ _ _=>trivial⟩
 have et:vs 0=η (I ⟨w.heap.size,0,J⟩):=hF 0 (by omega);have eu:vs 1=U (I ⟨bc,oc,J⟩) m cc:=hF 1 (by omega);obtain⟨_,_,ev,-⟩:∃ g c',vs 2=U (I ⟨g,0,J⟩) m c'/\_:=hF 2 (by omega);have ew:vs 3=η (I ⟨w.heap.size,2,J⟩):=hF 3 (by omega);have ey:vs 4=U (I ⟨ba,oa,J⟩) n ca:=hF 4 (by omega);obtain⟨_,_,ez,-⟩:∃ g c',vs 5=U (I ⟨g,0,J⟩) n c'/\_:=hF 5 (by omega);obtain⟨G,k1,H,X,e0,ad,ae⟩:∃ G c1 H c2,vs 6=.agg #[U (I ⟨G,0,J⟩) m c1,U J 0 0,U (I ⟨H,0,J⟩) n c2]/\_/\_:=hF 6 (by omega);obtain⟨E,e1,H7,e2⟩:∃ g,vs 7=η (I ⟨g,0,J⟩)/\_/\_:=hF 7 (by omega);simp only[Bm,List.drop_succ_cons,List.drop_zero,et,eu,ev,ew,ey,ez,e0,e1,List.getElem?_toArray,Ϻ,ϻ,Option.bind_some,θ,Η,Μ,Λ];clear hF hN et eu ev ew ey ez e0 e1 ej ek en eo;go_upto_region 2 with (refine Sr 40 (ε 3) (ε 12) rfl H7 Ae rfl (by simp[ξ]) ?_)
 have b0:=((Κ w1).drew.t bo).setRow e2 #[U (I ⟨G,0,J⟩) m k1,U J 0 0,U (I ⟨H,0,J⟩) n X];have b4:=Φ w5 E _ #[U (I ⟨G,0,J⟩) m k1,U J 0 0,U (I ⟨H,0,J⟩) n X] _ _ H7;have c6:=Ca w5 E #[U (I ⟨G,0,J⟩) m k1,U J 0 0,U (I ⟨H,0,J⟩) n X];have cb:=ad.kept c6 (B2 ad H7 (by decide));have cd:=ae.kept c6 (B2 ae H7 (by decide));obtain⟨w6,c8⟩:=Xq (w5.setRow E #[U (I ⟨G,0,J⟩) m k1,U J 0 0,U (I ⟨H,0,J⟩) n X]);rw[c8] at b0 b4 cb cd;simp only[c8];clear c8 c6 ad ae H7 bo;have cf:=h7.o w6 b0;go_wp2_with (fail);clear cf;have da:=ϰ w6 w1.heap.size 54 1;have db:=b0.size;obtain⟨n0,cg⟩:=Xq (w1.heap.size);have iy:w1.heap.size<=n0:=Ñ cg;have iz:n0<=w1.heap.size:=Ñ cg.symm;rw[cg] at da db cb cd e2;clear cg;have b4:=Z b4;go_loopw [16] (λvi W=>∃ (j:Nat) (vnx:Δ) (vs:List Δ),j<=n/\vi=.int Χ j/\Ext w1 W/\n0<=W.heap.size/\ϟ (vs.length=j)/\ϟ (W.heap[E]? = I (Β #[U (I ⟨G,0,J⟩) m k1,vnx,U (I ⟨H,0,J⟩) n X] 40 (0,0)))/\W.ownsRow n0 91 4 (U (I ⟨G,0,J⟩) m k1) m (Ci d.cls)/\W.ownsRow n0 4 1 (U (I ⟨H,0,J⟩) n X) n (d.acc.map ψ)/\W.ownsRow n0 54 1 vnx vs.length vs/\ϟ (RowsO W n0 vs (d.n.take j) (λ_=>False)))
  (λvi _=>n-(intOf vi).toNat)
 case atStart=>exact⟨0,_,[],by omega,rfl,b0,db,Z rfl,b4,cb,cd,da,Z ⟨rfl,λj hj=>absurd hj (by simp)⟩⟩
 clear b0 db b4 cb cd da;obtain⟨j,vnx,vs,ja,rfl,hE,hs,dd,H7,ad,ae,hX,cj⟩:=hrel;by_cases de:j<n
 ·obtain⟨br,or',cr,e5,e6⟩:=cv.o j de;have ic:=(bm.o.t hE).cell e5;have jb:(j:Int)<(n:Int):=by omega
  have bq:(d.n.getD j []).length=m:=by rw[<-HM.o];exact HV.o.row j (by rw[HN.o];exact de)
  have e7:=Z (λV (hV:Ext w1 V)=>show ∀ q u,((d.n.getD j []).map iv)[q]? = I u->V.cell? ((⟨br,or',J⟩:Addr).add q)=I u from λq u hu=>by
   have e8:q<m:=by rw[<-bq,<-ι (f:=iv)];exact (ν.1 hu).1
   rw[Wq (by rw[bq];exact e8)] at hu;rw[<-hu,J4];exact (bm.o.t hV).cell (e6 q e8))
  have df:((d.n.getD j []).map iv).length=m*1:=by rw[ι,bq];omega
  have dg:∀ u∈(d.n.getD j []).map iv,u.oneCell'=Α:=λu hu=>by obtain⟨b',_,rfl⟩:=Ϫ.1 hu;rfl
  have e9:=Z (Hr d.n j [] (by rw[HN.o];exact de));obtain⟨rl,fb⟩:=Xq (d.n.getD j []);rw[fb] at bq e7 df dg e9;have ie:=Z bq;have ig:=Z df;have ih:=Z dg;clear e5 e6 bq df dg fb;go_upto_region 5 with (fail)
  clear ic;have cf:wr.drew.cell? ⟨E,1,J⟩=I vnx:=Τ wr.drew E 1 _ _ _ ((Κ wr).drew.heap H7.o);refine Bq 7 [(0,Α),(1,Α),(2,Α),(3,Ε),(4,Ε),(5,Ε),(6,Α),(7,Ε)] (by kernel_rfl) (by kernel_rfl) (λ_ _ _ _ h=>h) (λV=>V.cell? ⟨E,1,J⟩=I vnx) cf ?_;have ao:=(Κ wr).drew;obtain⟨wy,dk⟩:=Xq (wr.drew);rw[dk] at ao;rw[dk];have bo:=hE.t ao;have dm:=μ hs ao.size;have dn:=Z (ao.heap H7.o);have fc:=Aa ad ao;have fe:=Aa ae ao;have ff:=Aa hX ao;have fg:=Z (cj.o.kept (ao.grownBy J) (λv l _ _=>by cases v.ownBlock<;>simp));clear dk cf hE hs H7 ad ae hX cj ao;iterate 3
   refine Ai (v:=?_) rfl rfl (λV hV=>?_) ?_
   rotate_left
   ·go_simp;first|done|with_reducible rfl
   simp only[θ,Η,Μ,Λ]
  refine Ao rfl (λK hK=>?_);refine step_append_lies _ rfl (.const (U J 0 0)) (ε 22) 54 rfl n0 3 i0 (.int Χ 0) 1 8 Tryz.underlying54 hi gu gv gw rfl (by decide) (U J 0 0) 0 [] rfl (ϰ wy n0 3 1) ⟨br,or',J⟩ m cr (rl.map iv) rfl ig.o (e7.o wy bo) ih.o cm (by unfold ϐ;omega) (by omega) dm _ rfl ?_;intro gr c7 w7 ck fj ij _;rw[Ϣ,Ú] at ck;rw[Ϣ];have aq:=(Κ wy).grown fj (λk e=>by cases e);refine hK _ _ (λ_=>Τ w7 E 1 _ _ _ (aq.heap dn.o)) ?_;clear hK K;have fk:=bo.t aq;have b6:=Z (aq.heap dn.o);have dp:=Aa fc aq;have dq:=Aa fe aq;have ax:=Aa ff aq;have fl:=Z (fg.o.kept (aq.grownBy J) (λv l _ _=>by cases v.ownBlock<;>simp));have fm:=μ dm aq.size;have jc:vs.length<=64:=by rw[dd.o];omega
  clear bo dn fc fe ff fg dm aq fj ij;refine Ao rfl (λK hK=>?_);go_simp;refine hK _ _ (λ_=>Τ _ E 1 _ _ _ (Ag b6.o _)) ?_;clear hK K;refine Ao rfl (λK hK=>?_);refine step_append_lies _ rfl (ε 21) (ε 24) 37 rfl n0 54 k0 (U J 0 0) 1 24 Tryz.underlying37 hk hp hq hr rfl (by decide) vnx vs.length vs rfl (ax.alloc _) _ 1 1 [U (I ⟨gr,0,J⟩) m c7] rfl rfl (cell_one_new _ _ _) (by simp[ξ]) (by decide) (by unfold ϐ;omega) (by omega) (by rw[Ο];omega) _ rfl ?_;intro g9 c9 w9 dr ay _ _;have al:=(Κ w7).alloc (Β #[ό (I ⟨gr,0,J⟩) m c7] 54);have fo:∀ k,vnx.ownBlock=I k->n0<=k:=λk e=>(ax.lt k e).1
  have fp:=(fk.t al).grown ay (λk e=>by have:=fo k e;omega);have ai:=(ay.block E (Al (al.heap b6.o)) (Fb (Aa ax al) (al.heap b6.o) (by decide))).trans (al.heap b6.o);have dt:=(Aa dp al).kept ay (Aj dp ax (by decide));have du:=(Aa dq al).kept ay (Aj dq ax (by decide));have dv:=(Aa ck al).kept ay (Aj ck ax (by decide));have fq:=(fl.o.alloc (Β #[ό (I ⟨gr,0,J⟩) m c7] 54)).kept ay (λv l ho _=>Aj ho (Aa ax al) (by decide));have fs:=μ fm (μ al.size ay.size);have k9:w9.cell? ⟨E,1,J⟩=I vnx:=Τ w9 E 1 _ _ _ ai;refine hK _ _ (λ_=>k9) ?_;clear hK K al fo ay fk b6 dp dq ax fl fm ck;refine Ai (v:=?_) rfl rfl (λV hV=>?_) ?_
  rotate_left
  ·clear hV;go_simp;first|done|with_reducible rfl
  simp only[θ,Η,Μ,Λ];have f9:=Â w9 E 1 _ _ ai;have bh:=Ca w9 E #[U (I ⟨G,0,J⟩) m k1,U (I ⟨g9,0,J⟩) (vs.length+1) c9,U (I ⟨H,0,J⟩) n X];have fu:w9.setCell ⟨E,1,J⟩ (U (I ⟨g9,0,J⟩) (vs.length+1) c9)=w9.setRow E #[U (I ⟨G,0,J⟩) m k1,U (I ⟨g9,0,J⟩) (vs.length+1) c9,U (I ⟨H,0,J⟩) n X]:=by rw[ϧ w9 _ _ _ _ _ _ ai];rfl
  refine Ao rfl (λK hK=>?_);go_simp;refine hK _ _ (λh=>absurd h (by omega)) ?_;clear hK K;refine Bn ?_;have fv:=fp.setRow (show w1.heap.size<=E by omega) #[U (I ⟨G,0,J⟩) m k1,U (I ⟨g9,0,J⟩) (vs.length+1) c9,U (I ⟨H,0,J⟩) n X];have fw:=Z (Φ w9 E _ #[U (I ⟨G,0,J⟩) m k1,U (I ⟨g9,0,J⟩) (vs.length+1) c9,U (I ⟨H,0,J⟩) n X] _ _ ai);have fx:=dt.kept bh (B2 dt ai (by decide));have fy:=du.kept bh (B2 du ai (by decide));have fz:=dv.kept bh (B2 dv ai (by decide));have ga:=dr.kept bh (B2 dr ai (by decide));have gb:=fq.kept bh (λv l ho _=>B2 ho ai (by decide));have gd:=μ fs bh.size;have gf:ϟ ((w9.setRow E #[U (I ⟨G,0,J⟩) m k1,U (I ⟨g9,0,J⟩) (vs.length+1) c9,U (I ⟨H,0,J⟩) n X]).ownsRow n0 54 1 (U (I ⟨g9,0,J⟩) (vs.length+1) c9) (vs++[ό (I ⟨gr,0,J⟩) m c7]).length (vs++[ό (I ⟨gr,0,J⟩) m c7])):=Z (by rw[Ν];exact ga);have gg:ϟ (RowsO (w9.setRow E #[U (I ⟨G,0,J⟩) m k1,U (I ⟨g9,0,J⟩) (vs.length+1) c9,U (I ⟨H,0,J⟩) n X]) n0 (vs++[ό (I ⟨gr,0,J⟩) m c7]) (d.n.take (j+1)) (λ_=>False)):=Z (by rw[e9.o];refine gb.snoc ?_ (λh=>h);show ϣ _ _ _ _ _ rl.length _;rw[ie.o];exact fz)
  clear ga gb fz k9 f9 bh dt du dv dr fq fs ai fp;try rw[fu]
  clear fu;obtain⟨jd,dx⟩:=Xq (w9.setRow E #[U (I ⟨G,0,J⟩) m k1,U (I ⟨g9,0,J⟩) (vs.length+1) c9,U (I ⟨H,0,J⟩) n X]);rw[dx] at fv fw fx fy gd gf gg;rw[dx];clear dx;go_wp2_with (fail);go_roundw
  case rel=>exact⟨j+1,_,vs++[ό (I ⟨gr,0,J⟩) m c7],by omega,by go_num,fv,gd,Z (by rw[Ν,dd.o];rfl),fw,fx,fy,gf.o,gg⟩
  simp[intOf]<;>omega
 obtain rfl:n=j:=by omega
 have gi:ϟ (RowsO wr n0 vs d.n (λ_=>False)):=by have h:=cj;rw[Ø (by rw[HN.o];exact Υ _)] at h;exact h
 have hD:OwnD wr n0 (.agg #[U (I ⟨G,0,J⟩) m k1,vnx,U (I ⟨H,0,J⟩) n X]) d:=
  ⟨_,_,_,vs,rfl,by rw[HM.o];exact ad,hX,gi.o,by rw[cp];exact ae⟩
 have hD:=hD.base (show w.heap.size<=n0 by have:=bm.o.size;omega);obtain⟨an,il,rfl⟩:∃ a c,vnx=U a vs.length c:=by obtain⟨a,c,h⟩:=Sl.len (Sl.of_owns hX (by rw[dd.o];omega) δ);exact⟨a,c,h⟩
 have HD:=Z hD;have dy:=Z (hE.heap H3.o);have HE:=Z (bm.o.t hE);clear hD hX ad ae hE cj gi;obtain⟨A,hA⟩:=Xq (dA (U (I ⟨G,0,J⟩) m k1) (U an vs.length il) (U (I ⟨H,0,J⟩) n X));have ir:ϟ (wr.heap[E]? = I (Β A 40 (0,0))):=by rw[<-hA];exact H7
 have iu:ϟ (OwnD wr w.heap.size (.agg A) d):=by rw[<-hA];exact HD
 have dz:(Ι.info? 40).map (·.size)=I A.size:=by rw[<-hA];exact Ae
 have iw:A.all (·.oneCell')=Α:=by rw[<-hA];exact Aw _ _ _ rfl rfl rfl
 have ix:A.size=3:=by rw[<-hA];rfl
 clear H7 HD hA;go_wp2_with (first
  | (refine Lr 40 (ε 3) ir.o Ρ dz ?_)
  | (refine Sr 40 (ε 2) (ε 28) rfl dy.o dz ix.symm iw ?_))
 refine ω (v:=.agg A) (Æ rfl _ _ _ _ _ _ _ rfl (Φ wr _ _ A 40 (0,0) dy.o) Ρ rfl dz) rfl ?_;exact⟨_,rfl,iu.o.row dy.o (by decide),HE.o.setRow (by omega) A⟩
theorem Wz {a b:Dfa} (hb:Val b) (w:List UInt8):(Ap (lnx a b) (0,0) w).2<2 ^ b.n.length:=by
 have key:∀ r:List UInt8,(Ap (lnx a b) (0,0) r.reverse).2<2 ^ b.n.length:=by
  intro r;cases r with
  | nil=>exact Nat.two_pow_pos _
  | cons c r=>rw[List.reverse_cons,E1];exact M6 hb _ _ _ c.toNat_lt
 have:=key w.reverse
 rwa [List.reverse_reverse] at this
theorem W4 {a b:Dfa} (E:Val a) (hb:Val b) (w:List UInt8):(Ap (lnx a b) (0,0) w).1<a.n.length/\(Ap (lnx a b) (0,0) w).2<2 ^ b.n.length:=
 ⟨by rw[(K0 hb w).1];exact E.run_lt w E.pos,Wz hb w⟩
structure LTab (a b:Dfa) (C:List Cls) (bs:List Nat) (l:List (Nat × Nat)) (N:List (List Nat)):Prop where
 len:N.length=l.length
 wval:WVal C N (ζ N.length Ε)
 nodup:l.Nodup
 reach:∀ s,s<N.length->∃ u,(Ay C N []).run 0 u=s
 run:∀ u,l[(Ay C N []).run 0 u]? = I (Ap (lnx a b) (0,0) u)
 opts:∀ (ρ:Nat->Option Dfa),(∀ i s,l[i]? = I s->(a.ok s.1=Α->∃ d,ρ i=I d/\Cano d/\∀ v,d.has v=Α↔b.has v=Α/\¬ ∃ q,s.2.testBit q=Α/\b.ok (b.run q v)=Α)/\(a.ok s.1=Ε->ρ i=J))->∀ os,CollR (Ay C N []).stp ρ os->OptsOf Α (wd1 a) (wd1 b) os
theorem NG {a b:Dfa} (ha:Val a) (hb:Val b) {C:List Cls} {bs:List Nat} {l:List (Nat × Nat)} {f:Nat × Nat->Option Nat} {N:List (List Nat)} {r:List Nat} (h:EInv bs (0,0) (lnx a b) l.length 0 l f N r) (hP:Parts C) (hC:C.length=bs.length) (G:Joint (Am a.cls) (Am b.cls) (Am C) bs):LTab a b C bs l N:=by
 have H:Expl (Am C) bs (0,0) (lnx a b) (λ_=>Ε) l ⟨Am C,bs.length,N,ζ l.length Ε⟩:=Y5 h rfl (by simp) λj s E=>by have ah:j<l.length:=(ν.1 E).1;rw[Ζ,Θ (by simpa using ah),List.getElem_replicate];rfl
 have hn:∀ s x,x<256->lnx a b s (bs.getD (Am C x) 0)=lnx a b s x:=λs x hx=>by
  obtain⟨_,h1,T⟩:=G.rep x hx;have ea:∀ p,a.stp p (bs.getD (Am C x) 0)=a.stp p x:=λp=>by unfold Dfa.stp;rw[h1]
  have eb:∀ p,b.stp p (bs.getD (Am C x) 0)=b.stp p x:=λp=>by unfold Dfa.stp;rw[T]
  have ei:∀ S n,B8 b S (bs.getD (Am C x) 0) n=B8 b S x n:=λS n=>by
   induction n with
   | zero=>rfl
   | succ n X=>unfold B8;rw[X,eb]
  unfold lnx Et;rw[ea,ei,eb]
 have ad:∀ u,l[(Ay C N []).run 0 u]? = I (Ap (lnx a b) (0,0) u):=by
  have key:∀ (w:List UInt8) i s,l[i]? = I s->l[(Ay C N []).run i w]? = I (Ap (lnx a b) s w):=λw=>by
   induction w with
   | nil=>intro i s hi;exact hi
   | cons x w X=>intro i s hi;have h1:=(H.tgt i s hi _ (G.lt _ x.toNat_lt)).2;rw[hn s _ x.toNat_lt] at h1;exact X ((Ay C N []).stp i x.toNat) _ h1
  exact λw=>key w 0 _ h.zero
 refine⟨h.lenN,⟨by rw[h.lenN];exact h.pos,by simp,λs E=>?_,λs E k hk=>?_,hP⟩,h.nodup,λs E=>?_,ad,λρ hρ os hc=>?_⟩
 ·rw[h.rows s (by rw[<-h.lenN];exact E),hC]
 ·rw[h.lenN] at E ⊢;have h1:=(H.tgt s _ (Θ E) k (by rw[<-hC];exact hk)).1;exact h1
 ·rw[h.lenN] at E;obtain⟨u,hu⟩:=h.reach l[s] (ϯ E);refine⟨u,?_⟩;have h1:=ad u;rw[hu] at h1;have T:=(h.num l[s] _).2 h1;have h3:=(h.num l[s] s).2 (Θ E);rw[T] at h3;injection h3
 exact NH ha hb G H hρ hc
structure LRho (a b:Dfa) (l:List (Nat × Nat)) (i:Nat) (ρ:Nat->Option Dfa):Prop where
 yes:∀ x s,x<i->l[x]? = I s->a.ok s.1=Α->∃ d,ρ x=I d/\Cano d/\d.n.length<=64/\∀ v,d.has v=Α↔b.has v=Α/\¬ Ea b (λq=>s.2.testBit q=Α) v
 no:∀ x s,x<i->l[x]? = I s->a.ok s.1=Ε->ρ x=J
 o:∀ x,i<=x->ρ x=J
theorem NO (a b:Dfa) (l:List (Nat × Nat)):LRho a b l 0 (λ_=>J):=⟨λx s h=>by omega,λx s h=>by omega,λ_ _=>rfl⟩
theorem NP {a b:Dfa} {l:List (Nat × Nat)} {i:Nat} {ρ:Nat->Option Dfa} (h:LRho a b l i ρ) {s:Nat × Nat} (H:l[i]? = I s) (T:a.ok s.1=Ε):LRho a b l (i+1) ρ where
 yes:=λx t hx E G=>by
  refine h.yes x t ?_ E G;by_cases e:x=i
  ·subst e;rw[H] at E;injection E with E
   subst E;rw[T] at G;cases G
  omega
 no:=λx t hx E G=>by
  by_cases e:x=i
  ·subst e;exact h.o x (Υ _)
  exact h.no x t (by omega) E G
 o:=λx hx=>h.o x (by omega)
theorem NQ {a b:Dfa} {l:List (Nat × Nat)} {i:Nat} {ρ:Nat->Option Dfa} (h:LRho a b l i ρ) {s:Nat × Nat} (H:l[i]? = I s) (T:a.ok s.1=Α) {d:Dfa} (hd:BU b s.2 (I d)):LRho a b l (i+1) (λz=>if z=i then I d else ρ z) where
 yes:=λx t hx E G=>by
  by_cases e:x=i
  ·subst e;rw[H] at E;injection E with E
   subst E;exact⟨d,if_pos rfl,hd.1,hd.2.1,hd.2.2⟩
  obtain⟨X,h1,h2⟩:=h.yes x t (by omega) E G;exact⟨X,by rw[if_neg e];exact h1,h2⟩
 no:=λx t hx E G=>by
  by_cases e:x=i
  ·subst e;rw[H] at E;injection E with E
   subst E;rw[T] at G;cases G
  rw[if_neg e];exact h.no x t (by omega) E G
 o:=λx hx=>by rw[if_neg (by omega)];exact h.o x (by omega)
theorem NS {a b:Dfa} {l:List (Nat × Nat)} {ρ:Nat->Option Dfa} (h:LRho a b l l.length ρ) (s:Nat) (d:Dfa) (G:ρ s=I d):s<l.length/\Cano d/\d.n.length<=64:=by
 have E:s<l.length:=by
  rcases Nat.lt_or_ge s l.length with E|E
  ·exact E
  rw[h.o s E] at G;cases G
 refine⟨E,?_⟩;have he:=Θ E;cases H:a.ok l[s].1
 ·rw[h.no s _ E he H] at G;cases G
 obtain⟨e,h1,T,X,_⟩:=h.yes s _ E he H;rw[G] at h1;injection h1 with h1
 subst h1;exact⟨T,X⟩
theorem NR {a b:Dfa} (hb:Val b) {C:List Cls} {bs:List Nat} {l:List (Nat × Nat)} {N:List (List Nat)} (G:LTab a b C bs l N) {ρ:Nat->Option Dfa} (h:LRho a b l l.length ρ) {os:List Opt} (hc:CollR (Ay C N []).stp ρ os):OptsOf Α (wd1 a) (wd1 b) os:=by
 refine G.opts ρ (λi s H=>?_) os hc;have T:i<l.length:=(ν.1 H).1;refine⟨λX=>?_,λX=>h.no i s T H X⟩;obtain⟨d,h1,h2,_,h3⟩:=h.yes i s T H X;refine⟨d,h1,h2,λv=>(h3 v).trans (and_congr Iff.rfl (not_congr ?_))⟩;have af:s.2<2 ^ b.n.length:=by
  obtain⟨u,hu⟩:=G.reach i (by rw[G.len];exact T);have:=G.run u;rw[hu,H] at this;injection this with this
  rw[this];exact Wz hb u
 constructor
 ·rintro⟨q,_,E,h5⟩;exact⟨q,E,h5⟩
 rintro⟨q,E,h5⟩;refine⟨q,?_,E,h5⟩;rcases Nat.lt_or_ge q b.n.length with hq|hq
 ·exact hq
 rw[Nat.testBit_lt_two_pow (Ξ af (ϳ (by omega) hq))] at E;cases E
def Ir (a b:Dfa):Prop:=Cr (lnx a b) (0,0) 4096\/Su b\/∃ P:Nat × Nat->Prop,Big λw=>P (Ap (lnx a b) (0,0) w)
theorem NI {a b:Dfa} {C:List Cls} {bs:List Nat} {l:List (Nat × Nat)} {N:List (List Nat)} (E:LTab a b C bs l N) {ρ:Nat->Option Dfa} {d:Dfa} (h:Big λu=>ρ ((Ay C N []).run 0 u)=I d):Ir a b:=by
 refine .inr (.inr ⟨λs=>∃ i,l[i]? = I s/\ρ i=I d,?_⟩);have e:(λu=>ρ ((Ay C N []).run 0 u)=I d)=λw=>∃ i,l[i]? = I (Ap (lnx a b) (0,0) w)/\ρ i=I d:=funext λu=>propext (by
  constructor
  ·intro h;exact⟨_,E.run u,h⟩
  rintro⟨i,h1,G⟩;have H:=E.run u;obtain⟨k1,T⟩:=ν.1 h1;obtain⟨k2,X⟩:=ν.1 H;have:=(List.getElem_inj E.nodup).1 (T.trans X.symm);rw[<-this];exact G)
 rwa [e] at h
theorem Yd {a b:Dfa} (G:Cano a) (hb:Cano b) (h1:a.n.length<=2) (E:b.n.length<=2):¬ Is a b:=by
 rintro⟨s,H,_,h|⟨m,hm,_,T,h⟩⟩
 ·exact VG G.val H (by omega) h
 have aa:=VF G.val H hm T;have X:2 ^ b.n.length<=4:=μ (ϳ (by omega) E) (by decide);rcases h with h|⟨c,hc,_,h⟩
 ·obtain⟨d,e,_⟩:=Ju h (L:=wd1 m) (M:=wd1 b) ⟨hm,λ_=>Iff.rfl⟩ ⟨hb,λ_=>Iff.rfl⟩ (μ (Nat.mul_le_mul (show m.n.length<=4 by omega) X) (by decide)) λd hd=>by have:=Rt hm.val hb.val E hd;omega
  cases e
 have:=Rt hm.val hb.val E hc;exact LC hb.val hc.1.val (μ (Nat.mul_le_mul E (show c.n.length<=16 by omega)) (by decide)) h
theorem Xh {a b:Dfa} (G:Cano a) (hb:Cano b) (h1:a.n.length<=2) (E:b.n.length<=2):¬ Ir a b:=by
 have H:2 ^ b.n.length<=4:=μ (ϳ (by omega) E) (by decide);have hq:a.n.length*2 ^ b.n.length<=8:=μ (Nat.mul_le_mul h1 H) (by decide);rintro (⟨l,T,X,hl⟩|(⟨P,h⟩|⟨P,h⟩)|⟨P,h⟩)
 ·have:=NJ G.val hb.val l T X;omega
 ·exact FF hb.val E P h
 ·exact GK hb.val E P h
 exact NF G.val hb.val (by omega) P h
abbrev oN:Opt:=⟨⟨[],[],[]⟩,⟨[],[],[]⟩⟩
theorem Rf:∀ (c:List Opt) (E:List (List UInt8)),Eb c E↔c.length=E.length/\∀ j,j<E.length->(c.getD j oN).head.has (E.getD j [])=Α/\(c.getD j oN).rest.has (E.drop (j+1)).flatten=Α
 | [],E=>by
  constructor
  ·intro h;have T:E=[]:=h;subst T;exact⟨rfl,λj G=>absurd G (by simp)⟩
  rintro⟨h,_⟩;exact (ϵ.1 h.symm:E=[])
 | o::c,E=>by
  constructor
  ·rintro⟨w,t,rfl,h1,H,X⟩;obtain⟨k1,k2⟩:=(Rf c t).1 X;refine⟨by rw[ϒ,ϒ,k1],λj G=>?_⟩;cases j with
   | zero=>exact⟨h1,H⟩
   | succ j=>
    have:=k2 j (by simpa using G)
    simpa using this
  rintro⟨h1,H⟩;cases E with
  | nil=>cases h1
  | cons w t=>
   have h0:=H 0 (by simp);refine⟨w,t,rfl,h0.1,h0.2,(Rf c t).2 ⟨by simpa using h1,λj G=>?_⟩⟩;have:=H (j+1) (by simpa using G)
   simpa using this
noncomputable def C6 (cs:List (List Opt)) (ws:List (List UInt8)):Nat->Nat
 | 0=>0
 | m+1=>C6 cs ws m+(@ite _ (Eb (cs.getD m []) ws) (Classical.propDecidable _) 1 0)
theorem Rp {cs:List (List Opt)} {ws:List (List UInt8)}:∀ m,(∀ i,i<m->¬ Eb (cs.getD i []) ws)->C6 cs ws m=0
 | 0,_=>rfl
 | m+1,h=>by rw[C6,Rp m λi hi=>h i (by omega),if_neg (h m (by omega))]
theorem Zk {cs:List (List Opt)} {ws:List (List UInt8)} {i:Nat} (hi:Eb (cs.getD i []) ws):∀ m,i<m->(∀ j,j<m->Eb (cs.getD j []) ws->j=i)->C6 cs ws m=1
 | 0,h,_=>by omega
 | m+1,h,hu=>by
  rw[C6];by_cases e:i=m
  ·subst e;rw[if_pos hi,Rp i λj E hd=>by have:=hu j (by omega) hd;omega]
  rw[Zk hi m (by omega) λj E hd=>hu j (by omega) hd,if_neg λhd=>e (hu m (by omega) hd).symm]
theorem TO {ps:List Pt} {l:List (List Opt)} (h:Er ps l) {ws:List (List UInt8)} (T:InR ps ws):C6 (Ar l) ws (Ar l).length<=1/\(C6 (Ar l) ws (Ar l).length=1↔F5 ps ws):=by
 obtain⟨h1,X,h3⟩:=SE h T;have hg:∀ i (hi:i<(Ar l).length),(Ar l).getD i []=(Ar l)[i]:=λi hi=>by rw[Ζ,Θ hi];rfl
 by_cases hd:F5 ps ws
 ·obtain⟨i,hi,E⟩:=h1 hd;have:=Zk (cs:=Ar l) (ws:=ws) (i:=i) (by rw[hg i hi];exact E) (Ar l).length hi λj G H=>by rw[hg j G] at H;exact h3 j i G hi H E
  rw[this];exact⟨Υ _,λ_=>hd,λ_=>rfl⟩
 have:=Rp (cs:=Ar l) (ws:=ws) (Ar l).length λi hi E=>hd (X i hi (by rw[hg i hi] at E;exact E))
 rw[this];exact⟨by omega,⟨λe=>absurd e (by decide),λh=>absurd h hd⟩⟩
theorem Q8:∀ (E:List (List UInt8)) (i j:Nat),j<E.length->((Ex i E).getD j (0,0)).2=i+(E.take (j+1)).flatten.length
 | [],_,_,h=>absurd h (by simp)
 | w::t,i,0,_=>by simp[Ex]
 | w::t,i,j+1,h=>by rw[Ex,List.getD_cons_succ,Q8 t (i+w.length) j (by simpa using h),List.take_succ_cons,List.flatten_cons,Ν];omega
theorem Yz {x:List UInt8}:∀ (ps:List Pt) (E:List (List UInt8)) (i:Nat) (l:List (Nat × Nat)),Cw ps x i l->E.length=ps.length->(∀ j,j<ps.length->(l.getD j (0,0)).2=((Ex i E).getD j (0,0)).2)->l=Ex i E
 | [],E,i,l,h,G,_=>by have:E=[]:=ϵ.1 G;subst this;exact h.1
 | p::ps,E,i,l,⟨q,H,e,_,T⟩,G,he=>by
  cases E with
  | nil=>cases G
  | cons w t=>
   subst e;have h0:=he 0 (by simp);simp only[Ex,List.getD_cons_zero] at h0;subst h0;rw[Ex,Yz ps t (i+w.length) H T (by simpa using G) λj X=>by
    have:=he (j+1) (by simpa using X)
    simpa [Ex] using this]
theorem OT {ps:List Pt} {E:List (List UInt8)} (h:InR ps E):E.length=ps.length:=by
 induction ps generalizing E with
 | nil=>have:E=[]:=h;rw[this];rfl
 | cons p ps G=>obtain⟨w,t,rfl,_,H⟩:=h;rw[ϒ,ϒ,G H]
theorem GA {ps:List Pt} {ws:List (List UInt8)} (G:InR ps ws) {l:List (Nat × Nat)} (E:Cw ps ws.flatten 0 l):(∀ j,j<ps.length->(l.getD j (0,0)).2=(ws.take (j+1)).flatten.length)↔F5 ps ws:=by
 have hm:=P4 (ps:=ps) (ws:=ws) [] G;rw[Ú,à] at hm;have T:=OT G;constructor
 ·intro h;have:=Yz ps ws 0 l E T λj H=>by rw[Q8 ws 0 j (by omega),h j H,Ϣ]
  rw[this] at E;exact hm.1 E
 intro h j H;rw[P3 E (hm.2 h),Q8 ws 0 j (by omega),Ϣ]
theorem WC {ps:List Pt} {l:List (List Opt)} (h:Er ps l):l.length=ps.length:=by
 induction ps generalizing l with
 | nil=>have:l=[]:=h;rw[this];rfl
 | cons p ps E=>obtain⟨os,t,rfl,_,G⟩:=h;rw[ϒ,ϒ,E G]
theorem Nq:∀ (l:List (List Opt)) (c:List Opt),c∈Ar l->c.length=l.length/\∀ k,k<l.length->c.getD k oN∈l.getD k []
 | [],c,h=>by have:c=[]:=ϖ.1 h;subst this;exact⟨rfl,λk E=>absurd E (by simp)⟩
 | os::t,c,h=>by
  have G:c∈os.flatMap λo=>(Ar t).map (o::·):=h
  simp only[List.mem_flatMap,Ϫ] at G;obtain⟨o,H,T,X,rfl⟩:=G;obtain⟨k1,k2⟩:=Nq t T X;refine⟨by rw[ϒ,ϒ,k1],λk E=>?_⟩;cases k with
  | zero=>exact H
  | succ k=>rw[List.getD_cons_succ,List.getD_cons_succ];exact k2 k (by simpa using E)
theorem CQ (c:Cls) (b:Int) (E:0<=b) (hb:b<256) (w:Γ) :
  Ϟ Ι 78 #[.agg (Ab c),.int Χ b] w λe w'=>e=Ω (.agg (Ab (Ax c b)))/\Ext w w':=by
 have ⟨h1,h2⟩:=Gs c (b / 64).toNat;have hE:=((Κ w).alloc (Β (Ab c) 91)).alloc (Β #[.int γ 0,.int γ 0,.int γ 0,.int γ 0] 91);have G:=Ag (heap_alloc_new w (Β (Ab c) 91)) (Β #[.int γ 0,.int γ 0,.int γ 0,.int γ 0] 91);have hR:=ύ w (Β (Ab c) 91) (Β #[.int γ 0,.int γ 0,.int γ 0,.int γ 0] 91);go_enter Tryz.func78,Tryz.ntmps78;go_upto_region 1 with (fail)
 generalize (w.alloc (Β (Ab c) 91)).alloc (Β #[.int γ 0,.int γ 0,.int γ 0,.int γ 0] 91)=W at *;have H:W.drew.heap[w.heap.size]? = I (Β (Ab c) 91 (0,0)):=G;have hc:=(Τ W.drew _ (b / 64).toNat _ _ _ H).trans (Ij c _ (by omega));have hf:=Â W.drew _ (b / 64).toNat _ _ H;have aq:å.wrap (b.tdiv 64)=((b / 64).toNat:Int):=by rw[Int.tdiv_eq_ediv_of_nonneg E];simp[IntKind.wrap,IntKind.signed,IntKind.bits];omega
 have ar:b.tmod 64=b % 64:=Int.tmod_eq_emod_of_nonneg E;have au:0<=b % 64:=by omega
 have aw:b % 64<=64:=by omega
 have ax:((b / 64).toNat:Int)<4:=by omega
 have aj:=Z (N7 c b E hb);have ak:=Z (BK c b E hb);generalize (b / 64).toNat=q at *;refine Bq 11 [(0,Α),(1,Α),(2,Α),(3,Α),(4,Α),(5,Α),(6,Α),(7,Α),(8,Α),(9,Α),(10,Α),(11,Ε)] (by kernel_rfl) (by kernel_rfl) (λ_ _ _ _ h=>h)
  (λX=>X.cell? ⟨w.heap.size,q,J⟩=I (.int γ (wd c q))) hc ?_
 iterate 11
  refine Ai (v:=?_) rfl rfl (λX hX=>?_) ?_
  rotate_left
  ·go_simp;first|done|with_reducible rfl
  simp only[θ,Η,Μ,Λ]
 refine Ao rfl (λK hK=>?_);go_simp;refine hK _ _ (λh=>absurd h (by omega)) ?_;clear hK K hc hf;refine Bn ?_;rw[aj.o,ϧ W _ _ _ _ _ _ G,ak.o];have HB:=Z (Φ W w.heap.size _ (Ab (Ax c b)) _ _ G);have HR:=Z (Bk hR (show w.heap.size+1≠w.heap.size by omega) (Ab (Ax c b)));have af:=hE.setRow (Υ w.heap.size) (Ab (Ax c b));clear hE G hR H;obtain⟨T,ag⟩:=Xq (W.setRow w.heap.size (Ab (Ax c b)));rw[ag] at HB HR af;rw[ag];have an:ϟ (T.drew.heap[w.heap.size]? = I (Β (Ab (Ax c b)) 91 (0,0))):=Z HB.o;have ah:ϟ (T.drew.heap[w.heap.size+1]? = I (Β #[.int γ 0,.int γ 0,.int γ 0,.int γ 0] 91 (0,0))):=Z HR.o;go_wp2_with (first
  | (refine wpList_load_row rfl 91 _ rfl _ rfl _ _ _ _ an.o ϋ rfl Bg ?_)
  | (refine wpList_store_row rfl 91 _ _ rfl _ _ rfl rfl _ _ ah.o Bg rfl (Ej _) ?_))
 refine ω (v:=.agg (Ab (Ax c b))) (Æ rfl _ _ _ _ _ _ _ rfl (Φ T.drew _ _ (Ab (Ax c b)) 91 (0,0) ah.o) ϋ rfl Bg) rfl ?_;exact⟨rfl,af.drew.setRow (by omega) _⟩
def Bw (n:Nat):Cls:=if n=1 then Ax 0#256 97 else if n=2 then Ax 0#256 98 else Ax (Ax 0#256 97) 98
theorem Qb (n:Nat) (hn:n=1\/n=2\/n=3) (w:Γ) :
  Ϟ Ι 54 #[.int Χ (n:Int)] w λe w'=>e=Ω (.agg (Ab (Bw n)))/\Ext w w':=by
 have f:=λc b a6 hb W=>Z (CQ c b a6 hb W)
 obtain⟨E,hz⟩:=Xq (0#256:Cls);have HZ:=Z hz;have X:=((Κ w).alloc (Β zA 91)).alloc (Β zA 91);have H:=Ag (Ad w (Β zA 91)) (Β zA 91);have G:=ύ w (Β zA 91) (Β zA 91);go_enter Tryz.func54,Tryz.ntmps54;go_upto_region 1 with (fail)
 go_upto_region 2 with (fail)
 obtain⟨w1,aq⟩:=Xq ((w.alloc (Β zA 91)).alloc (Β zA 91));rw[aq] at X H G;simp only[aq];obtain⟨g0,au⟩:=Xq (w.heap.size);obtain⟨g1,aw⟩:=Xq (g0+1);have HG:ϟ (w.heap.size<=g1):=Z (by omega);have ax:ϟ (w.heap.size<=g0):=Z (by omega);have ak:ϟ (g0≠g1):=Z (by omega);rw[au] at H G;rw[aw] at G;simp only[au,aw];clear aq au aw;have e0:zA=Ab E:=by rw[<-hz];exact encA_zero.symm
 rw[e0] at G;have af:=Z H;have aa:=Z G;clear H G hz e0;rcases hn with rfl|rfl|rfl
 ·skip
  go_upto_region 4 with (first
   | (refine Lr 91 (ε 3) aa.o ϋ Bg ?_)
   | (go_at_call 78;(with_reducible refine (f (E) 97 (by decide) (by decide) w1).o.mono ?_);rintro e w2 ⟨rfl,T⟩;have ab:=Z (T.heap aa.o);have ag:=Z (T.heap af.o))
   | (refine Sr 91 (ε 3) (ε 9) rfl ab.o Bg rfl (Ej _) ?_))
  have X:=(X.t T).setRow (g:=g1) HG.o (Ab (Ax (E) 97));have G:=Φ w2 g1 _ (Ab (Ax (E) 97)) 91 (0,0) ab.o;have H:=Bk ag.o ak.o (Ab (Ax (E) 97));obtain⟨ai,hw⟩:=Xq (w2.setRow g1 (Ab (Ax (E) 97)));rw[hw] at X G H;simp only[hw];have aa:=Z G;have af:=Z H;clear H G hw ab ag T;go_wp2_with (first
   | (refine Lr 91 (ε 3) aa.o ϋ Bg ?_)
   | (refine Sr 91 (ε 2) (ε 16) rfl af.o Bg rfl (Ej _) ?_))
  refine ω (v:=.agg (Ab (Ax E 97))) (Æ rfl _ _ _ _ _ _ _ rfl (Φ ai _ _ (Ab (Ax E 97)) 91 (0,0) af.o) ϋ rfl Bg) rfl ?_;exact⟨by rw[<-HZ.o];rfl,X.setRow ax.o _⟩
 ·skip
  go_upto_region 6 with (first
   | (refine Lr 91 (ε 3) aa.o ϋ Bg ?_)
   | (go_at_call 78;(with_reducible refine (f (E) 98 (by decide) (by decide) w1).o.mono ?_);rintro e w2 ⟨rfl,T⟩;have ab:=Z (T.heap aa.o);have ag:=Z (T.heap af.o))
   | (refine Sr 91 (ε 3) (ε 15) rfl ab.o Bg rfl (Ej _) ?_))
  have X:=(X.t T).setRow (g:=g1) HG.o (Ab (Ax (E) 98));have G:=Φ w2 g1 _ (Ab (Ax (E) 98)) 91 (0,0) ab.o;have H:=Bk ag.o ak.o (Ab (Ax (E) 98));obtain⟨ai,hw⟩:=Xq (w2.setRow g1 (Ab (Ax (E) 98)));rw[hw] at X G H;simp only[hw];have aa:=Z G;have af:=Z H;clear H G hw ab ag T;go_wp2_with (first
   | (refine Lr 91 (ε 3) aa.o ϋ Bg ?_)
   | (refine Sr 91 (ε 2) (ε 16) rfl af.o Bg rfl (Ej _) ?_))
  refine ω (v:=.agg (Ab (Ax E 98))) (Æ rfl _ _ _ _ _ _ _ rfl (Φ ai _ _ (Ab (Ax E 98)) 91 (0,0) af.o) ϋ rfl Bg) rfl ?_;exact⟨by rw[<-HZ.o];rfl,X.setRow ax.o _⟩
 skip
 go_upto_region 4 with (first
  | (refine Lr 91 (ε 3) aa.o ϋ Bg ?_)
  | (go_at_call 78;(with_reducible refine (f (E) 97 (by decide) (by decide) w1).o.mono ?_);rintro e w2 ⟨rfl,T⟩;have ab:=Z (T.heap aa.o);have ag:=Z (T.heap af.o))
  | (refine Sr 91 (ε 3) (ε 9) rfl ab.o Bg rfl (Ej _) ?_))
 have X:=(X.t T).setRow (g:=g1) HG.o (Ab (Ax (E) 97));have G:=Φ w2 g1 _ (Ab (Ax (E) 97)) 91 (0,0) ab.o;have H:=Bk ag.o ak.o (Ab (Ax (E) 97));obtain⟨ai,hw⟩:=Xq (w2.setRow g1 (Ab (Ax (E) 97)));rw[hw] at X G H;simp only[hw];have aa:=Z G;have af:=Z H;clear H G hw ab ag T;go_upto_region 6 with (first
  | (refine Lr 91 (ε 3) aa.o ϋ Bg ?_)
  | (go_at_call 78;(with_reducible refine (f (Ax E 97) 98 (by decide) (by decide) ai).o.mono ?_);rintro e w3 ⟨rfl,T⟩;have ab:=Z (T.heap aa.o);have ag:=Z (T.heap af.o))
  | (refine Sr 91 (ε 3) (ε 15) rfl ab.o Bg rfl (Ej _) ?_))
 have X:=(X.t T).setRow (g:=g1) HG.o (Ab (Ax (Ax E 97) 98));have G:=Φ w3 g1 _ (Ab (Ax (Ax E 97) 98)) 91 (0,0) ab.o;have H:=Bk ag.o ak.o (Ab (Ax (Ax E 97) 98));obtain⟨a7,hw⟩:=Xq (w3.setRow g1 (Ab (Ax (Ax E 97) 98)));rw[hw] at X G H;simp only[hw];have aa:=Z G;have af:=Z H;clear H G hw ab ag T;go_wp2_with (first
  | (refine Lr 91 (ε 3) aa.o ϋ Bg ?_)
  | (refine Sr 91 (ε 2) (ε 16) rfl af.o Bg rfl (Ej _) ?_))
 refine ω (v:=.agg (Ab (Ax (Ax E 97) 98))) (Æ rfl _ _ _ _ _ _ _ rfl (Φ a7 _ _ (Ab (Ax (Ax E 97) 98)) 91 (0,0) af.o) ϋ rfl Bg) rfl ?_;exact⟨by rw[<-HZ.o];rfl,X.setRow ax.o _⟩
def C4 (p:UInt8->Prop) (E hi:Nat):Af:=λw=>E<=w.length/\w.length<=hi/\∀ x∈w,p x
section
open Classical
theorem len_le {d:Dfa} {p:UInt8->Prop} {E hi:Nat} (h:Fit d (C4 p E hi)):d.n.length<=hi+2:=by
 refine Gh h (λs x=>if s<hi/\p x then s+1 else hi+1) (λs=>E<=s/\s<=hi) (hi+2) (by omega) (λs x _=>by split<;>omega) λw=>?_
 have hd:∀ v:List UInt8,(List.foldl (λs x=>if s<hi/\p x then s+1 else hi+1) (hi+1) v:Nat)=hi+1:=Gg _ _ λx=>by rw[if_neg (by omega)]
 have key:∀ (v:List UInt8) s,s<=hi->((E<=List.foldl (λs x=>if s<hi/\p x then s+1 else hi+1) s v/\List.foldl (λs x=>if s<hi/\p x then s+1 else hi+1) s v<=hi)↔(E<=s+v.length/\s+v.length<=hi/\∀ x∈v,p x)):=λv=>by
  induction v with
  | nil=>intro s G;simp
  | cons x v H=>
   intro s G;rw[List.foldl_cons];by_cases hx:s<hi/\p x
   ·rw[if_pos hx,H (s+1) (by omega)];simp only[ϒ,ù,forall_eq_or_imp,hx.2,true_and];rw[show s+1+v.length=s+(v.length+1) by omega]
   rw[if_neg hx,hd];constructor
   ·rintro⟨_,h⟩;omega
   rintro⟨_,h1,T⟩;rw[ϒ] at h1;exact absurd ⟨by omega,T x É⟩ hx
 have:=key w 0 (by omega);rw[Ϣ] at this;exact this.symm
end
theorem Xc (p:UInt8->Prop) (a b c d:Nat) (T:a<=b) (X:c<=d) (w:List UInt8):Cat (C4 p a b) (C4 p c d) w↔C4 p (a+c) (b+d) w:=by
 constructor
 ·rintro⟨u,v,rfl,⟨h1,G,E⟩,⟨h4,h5,H⟩⟩;refine⟨by rw[Ν];omega,by rw[Ν];omega,λx hx=>?_⟩;rcases Ä.1 hx with h|h
  ·exact E x h
  exact H x h
 rintro⟨h1,G,E⟩;refine⟨w.take (min b (w.length-c)),w.drop (min b (w.length-c)),(List.take_append_drop _ _).symm,⟨?_,?_,λx hx=>E x (List.mem_of_mem_take hx)⟩,⟨?_,?_,λx hx=>E x (List.mem_of_mem_drop hx)⟩⟩
 ·rw[Ï];omega
 ·rw[Ï];omega
 ·rw[List.length_drop];omega
 rw[List.length_drop];omega
theorem Xb (p:UInt8->Prop) (w:List UInt8):Df p w↔C4 p 1 1 w:=by
 constructor
 ·rintro⟨x,rfl,hx⟩;exact⟨by simp,by simp,by simpa using hx⟩
 rintro⟨h1,E,G⟩
 match w,h1,E with
 | [x],_,_=>exact⟨x,rfl,G x É⟩
theorem Wf (p:UInt8->Prop) (w:List UInt8):w=[]↔C4 p 0 0 w:=by
 constructor
 ·rintro rfl;exact⟨by simp,by simp,by simp⟩
 rintro⟨_,E,_⟩;exact ϵ.1 (by omega)
theorem Vx (p:UInt8->Prop) (w:List UInt8):(C4 p 1 1 w\/C4 p 0 0 w)↔C4 p 0 1 w:=by
 constructor
 ·rintro (⟨h1,G,E⟩|⟨h1,G,E⟩)
  ·exact⟨by omega,by omega,E⟩
  exact⟨by omega,by omega,E⟩
 rintro⟨h1,G,E⟩;by_cases e:w.length=0
 ·exact .inr ⟨by omega,by omega,E⟩
 exact .inl ⟨by omega,by omega,E⟩
theorem W9 {L:Af} {r:Option Dfa} (h:Lim L r) {n:Nat} (H:n<=64) (E:∀ d,Fit d L->d.n.length<=n):∃ d,r=I d/\Fit d L:=by
 cases r with
 | some d=>exact⟨d,rfl,Qa h⟩
 | none=>obtain⟨d,h1,G,T⟩:=h;have:=E d ⟨h1,G⟩;omega
theorem Vi {p:UInt8->Prop} {x:Dfa} {a b:Nat} (hx:Fit x (C4 p a b)) (G:a<=b) (hb:b<=1):∀ (n:Nat) (y:Dfa) (c d:Nat) {r:Option Dfa},Fit y (C4 p c d)->c<=d->d+n*b<=6->Dn y x n r->∃ q,r=I q/\Fit q (C4 p (c+n*a) (d+n*b)):=by
 intro n;induction n with
 | zero=>intro y c d r E _ _ h;have T:r=I y:=h;exact⟨y,T,by rw[Nat.zero_mul,Nat.zero_mul];exact E⟩
 | succ n X=>intro y c d r E H aa h;obtain⟨q,hq,hr⟩:=h;have l1:=len_le hx;have l2:=len_le E;rw[Nat.succ_mul] at aa;have hp:2 ^ x.n.length<=8:=μ (ϳ (by omega) (show x.n.length<=3 by omega)) (by decide);obtain⟨e,rfl,he⟩:=Ju hq E hx (μ (Nat.mul_le_mul l2 hp) (by omega)) (λe he=>by have:=len_le (Ff he (Xc p c d a b H G));omega);obtain⟨q,rfl,hf⟩:=X e (c+a) (d+b) (Ff he (Xc p c d a b H G)) (by omega) (by omega) hr;refine⟨q,rfl,?_⟩;rw[Nat.succ_mul,Nat.succ_mul,show c+(n*a+a)=c+a+n*a by omega,show d+(n*b+b)=d+b+n*b by omega];exact hf
theorem Uw {p:UInt8->Prop} {x:Dfa} (hx:Fit x (Df p)) {E hi:Nat} (ah:E<hi) (hh:hi<=4) {r:Option Dfa} (h:E3 x E hi r):∃ q,r=I q/\Fit q (C4 p E hi):=by
 have H:=Ff hx (Xb p);obtain⟨e,he,q,hq,G⟩:=h;have T:Fit e (C4 p 0 0):=Ff he (Wf p);obtain⟨q1,rfl,X⟩:=Vi H (Υ _) (Υ _) E e 0 0 T (Υ _) (by omega) hq;rw[Ϣ,Nat.mul_one] at X;unfold Ek at G;simp only at G;rw[if_neg (by omega),if_neg (by omega)] at G;obtain⟨o,ho,h3⟩:=G;have ag:Lim (C4 p 0 1) o:=Gc ho λw=>by rw[H.2,T.2,Vx]
 obtain⟨d,rfl,hd⟩:=W9 ag (n:=3) (by omega) λd hd=>len_le hd
 have h4:Dn q1 d ((hi:Int)-E).toNat r:=h3;rw[show ((hi:Int)-E).toNat=hi-E by omega] at h4;obtain⟨q2,rfl,ab⟩:=Vi hd (by omega) (Υ _) (hi-E) q1 E E X (Υ _) (by omega) h4;refine⟨q2,rfl,?_⟩;rw[Nat.mul_zero,Nat.add_zero,Nat.mul_one,show E+(hi-E)=hi by omega] at ab;exact ab
theorem Uu {x:Dfa} {L:Af} (hx:Fit x L) (X:x.n.length<=6) (G:∀ d,Fit d (Star L)->d.n.length<=3) {r:Option Dfa} (h:E3 x 0 (-1) r):∃ q,r=I q/\Fit q (Star L):=by obtain⟨e,he,q,hq,E⟩:=h;have ab:q=I e:=hq;subst ab;unfold Ek at E;simp only at E;rw[if_neg (by decide),if_pos (by decide)] at E;obtain⟨s,ad,h5⟩:=E;have hp:2 ^ x.n.length<=64:=μ (ϳ (by omega) X) (by decide);obtain⟨sd,rfl,H⟩:=EK ad hx (by omega) (λd hd=>by have:=G d hd;omega);have T:Fit e (λw=>w=[]):=he;have l1:=Ia T;have ag:2 ^ sd.n.length<=8:=μ (ϳ (by omega) (G _ H)) (by decide);obtain⟨d,rfl,fd⟩:=Ju h5 T H (μ (Nat.mul_le_mul l1 ag) (by decide)) (λd hd=>by have:=G d (Ff hd (Nv _));omega);exact⟨d,rfl,Ff fd (Nv _)⟩
abbrev isA (x:UInt8):Prop:=x=97
abbrev isB (x:UInt8):Prop:=x=98
abbrev D6 (x:UInt8):Prop:=x=97\/x=98
def abL:Af:=Star (Cat (Df isA) (Df isB))
def Sh:Af:=λw=>∃ u,w=u++[98]/\∀ x∈u,isA x
theorem BN {d:Dfa} (h:Fit d (Cat (Df isA) (Df isB))):d.n.length<=4:=by
 refine Gh h (λs x=>if s=0/\x=97 then 1 else if s=1/\x=98 then 2 else 3) (λs=>s=2) 4 (by omega) (λs x _=>by split<;>(try split)<;>omega) λw=>?_
 have e:Cat (Df isA) (Df isB) w↔w=[97,98]:=by
  constructor
  ·rintro⟨_,_,rfl,⟨x,rfl,rfl⟩,⟨y,rfl,rfl⟩⟩;rfl
  rintro rfl;exact⟨[97],[98],rfl,⟨97,rfl,rfl⟩,⟨98,rfl,rfl⟩⟩
 rw[e];have G:∀ v:List UInt8,(List.foldl (λs x=>if s=0/\x=97 then 1 else if s=1/\x=98 then 2 else 3) 3 v:Nat)=3:=Gg _ _ λx=>by simp
 rcases w with _|⟨x,_|⟨y,_|⟨z,w⟩⟩⟩
 ·simp
 ·by_cases hx:x=97<;>simp[hx]
 ·by_cases hx:x=97<;>by_cases E:y=98<;>simp[hx,E]
 by_cases hx:x=97<;>by_cases E:y=98<;>simp[hx,E,G]
theorem BM {d:Dfa} (h:Fit d abL):d.n.length<=3:=by
 refine Gh h (λs x=>if s=0/\x=97 then 1 else if s=1/\x=98 then 0 else 2) (λs=>s=0) 3 (by omega) (λs x _=>by split<;>(try split)<;>omega) λw=>?_
 have X:abL w->(List.foldl (λs x=>if s=0/\x=97 then 1 else if s=1/\x=98 then 0 else 2) 0 w:Nat)=0:=by
  intro E;unfold abL at E;induction E with
  | nil=>rfl
  | app hu hv G=>obtain⟨_,_,rfl,⟨x,rfl,rfl⟩,⟨y,rfl,rfl⟩⟩:=hv;rw[List.foldl_append,G];rfl
 refine⟨X,λh=>?_⟩;have key:∀ (n:Nat) (w:List UInt8),w.length<=n->(List.foldl (λs x=>if s=0/\x=97 then 1 else if s=1/\x=98 then 0 else 2) 0 w:Nat)=0->∃ k,pw (Cat (Df isA) (Df isB)) k w:=by
  have H:∀ v:List UInt8,(List.foldl (λs x=>if s=0/\x=97 then 1 else if s=1/\x=98 then 0 else 2) 2 v:Nat)=2:=Gg _ _ λx=>by simp
  intro n;induction n with
  | zero=>intro w E _;obtain rfl:=ϵ.1 (show w.length=0 by omega);exact⟨0,rfl⟩
  | succ n G=>
   intro w E h;rcases w with _|⟨x,_|⟨y,w⟩⟩
   ·exact⟨0,rfl⟩
   ·by_cases hx:x=97<;>simp[hx] at h
   by_cases hx:x=97
   ·subst hx;by_cases T:y=98
    ·subst T;obtain⟨k,hk⟩:=G w (by simp at E;omega) h;exact⟨k+1,(Fz _ k _).2 ⟨[97,98],w,rfl,⟨[97],[98],rfl,⟨97,rfl,rfl⟩,⟨98,rfl,rfl⟩⟩,hk⟩⟩
    simp[T,H] at h
   simp[hx,H] at h
 exact (Ot _ w).2 (key w.length w (Υ _) h)
theorem Sg (w:List UInt8):Cat (λw=>∀ x∈w,isA x) (Df isB) w↔Sh w:=by
 constructor
 ·rintro⟨u,_,rfl,hu,⟨x,rfl,rfl⟩⟩;exact⟨u,rfl,hu⟩
 rintro⟨u,rfl,hu⟩;exact⟨u,[98],rfl,hu,⟨98,rfl,rfl⟩⟩
theorem AW {d:Dfa} (h:Fit d Sh):d.n.length<=3:=by
 refine Gh h (λs x=>if s=0/\x=97 then 0 else if s=0/\x=98 then 1 else 2) (λs=>s=1) 3 (by omega) (λs x _=>by split<;>(try split)<;>omega) λw=>?_
 have T:∀ v:List UInt8,(List.foldl (λs x=>if s=0/\x=97 then 0 else if s=0/\x=98 then 1 else 2) 2 v:Nat)=2:=Gg _ _ λx=>by simp
 have h1:∀ v:List UInt8,(List.foldl (λs x=>if s=0/\x=97 then 0 else if s=0/\x=98 then 1 else 2) 1 v:Nat)=1↔v=[]:=λv=>by
  cases v with
  | nil=>simp
  | cons x v=>simp[T]
 induction w with
 | nil=>
  constructor
  ·rintro⟨u,e,_⟩;simp at e
  intro h;simp at h
 | cons x w X=>
  rw[List.foldl_cons];by_cases hx:x=97
  ·subst hx;refine Iff.trans ?_ X;constructor
   ·rintro⟨u,e,hu⟩;cases u with
    | nil=>injection e with e _;exact absurd e (by decide)
    | cons y u=>
     injection e with G H
     exact⟨u,H,λz E=>hu z (ç _ E)⟩
   rintro⟨u,rfl,hu⟩;refine⟨97::u,rfl,λz E=>?_⟩;rcases ù.1 E with rfl|E
   ·rfl
   exact hu z E
  by_cases hb:x=98
  ·subst hb;have e:(if 0=0/\(98:UInt8)=97 then 0 else if 0=0/\(98:UInt8)=98 then 1 else 2:Nat)=1:=by decide
   rw[e,h1];constructor
   ·rintro⟨u,e,hu⟩;cases u with
    | nil=>injection e
    | cons y u=>
     injection e with G H
     have:=hu y É;rw[<-G] at this;exact absurd this (by decide)
   rintro rfl;exact⟨[],rfl,λz E=>absurd E (è)⟩
  simp only[hx,hb,and_false,if_false,T];constructor
  ·rintro⟨u,e,hu⟩;exfalso
   cases u with
   | nil=>injection e with e _;exact hb e
   | cons y u=>
    injection e with G H
    exact hx (G.trans (hu y É))
  intro h;omega
def exN (A B E:Cls):Nat->List RNode
 | 0=>[⟨3,0,0,A,0,0⟩,⟨8,0,0,0#256,0,-1⟩]
 | 1=>[⟨3,0,0,E,0,0⟩,⟨8,0,0,0#256,0,-1⟩]
 | 2=>[⟨3,0,0,B,0,0⟩]
 | 3=>[⟨3,0,0,A,0,0⟩,⟨3,0,0,B,0,0⟩,⟨4,0,1,0#256,0,0⟩,⟨8,2,0,0#256,0,-1⟩]
 | 4=>[⟨3,0,0,A,0,0⟩,⟨8,0,0,0#256,1,2⟩]
 | 5=>[⟨2,0,0,0#256,0,0⟩,⟨3,0,0,B,0,0⟩,⟨5,0,1,0#256,0,0⟩]
 | 6=>[⟨3,0,0,A,0,0⟩,⟨8,0,0,0#256,0,-1⟩,⟨3,0,0,B,0,0⟩,⟨4,1,2,0#256,0,0⟩]
 | 7=>[⟨2,0,0,0#256,0,0⟩]
 | 8=>[⟨3,0,0,E,0,0⟩,⟨8,0,0,0#256,2,3⟩]
 | _=>[⟨3,0,0,A,0,0⟩,⟨8,0,0,0#256,0,-1⟩,⟨7,1,0,0#256,0,0⟩]
def exL:Nat->Af
 | 0=>λw=>∀ x∈w,isA x
 | 1=>λw=>∀ x∈w,D6 x
 | 2=>Df isB
 | 3=>abL
 | 4=>C4 isA 1 2
 | 5=>C4 isB 0 1
 | 6=>Sh
 | 7=>λw=>w=[]
 | 8=>C4 D6 2 3
 | _=>λw=>¬ ∀ x∈w,isA x
theorem JW {d:Dfa} (h:Fit d (λw=>¬ ∀ x∈w,isA x)):d.n.length<=2:=by
 refine Gh h (λs x=>if s=0/\x=97 then 0 else 1) (λs=>s=1) 2 (by omega) (λs x _=>by split<;>omega) λw=>?_
 have h1:∀ v:List UInt8,(List.foldl (λs x=>if s=0/\x=97 then 0 else 1) 1 v:Nat)=1:=Gg _ _ λx=>by simp
 induction w with
 | nil=>simp
 | cons x w E=>
  rw[List.foldl_cons];by_cases hx:x=97
  ·subst hx;refine Iff.trans ?_ E;simp
  simp[hx,h1]
theorem UY {A B AB:Cls} (hA:∀ x:UInt8,A.getLsbD x.toNat=Α↔isA x) (hB:∀ x:UInt8,B.getLsbD x.toNat=Α↔isB x) (aj:∀ x:UInt8,AB.getLsbD x.toNat=Α↔D6 x) (k:Nat) {r:Option Dfa} (h:Dj (exN A B AB k) [] r) :
  ∃ d,r=I d/\Fit d (exL k)/\d.n.length<=5:=by
 have T:∀ {C:Cls} {p:UInt8->Prop} {x:Dfa} (_:∀ x:UInt8,C.getLsbD x.toNat=Α↔p x) (_:Cano x/\∀ w,x.has w=Α↔∃ y:UInt8,w=[y]/\C.getLsbD y.toNat=Α),Fit x (Df p):=λhC hx=>⟨hx.1,λw=>(hx.2 w).trans (by unfold Df;simp only[hC])⟩
 have ae:∀ {p:UInt8->Prop} {x:Dfa} {r:Option Dfa} (_:Fit x (Df p)) (_:E3 x 0 (-1) r),∃ d,r=I d/\Fit d (λw=>∀ x∈w,p x):=λhx h=>by obtain⟨d,e,hd⟩:=Uu hx (by have:=Je hx;omega) (λd hd=>by have:=Jy (Ff hd (Tq _));omega) h;exact⟨d,e,Ff hd (Tq _)⟩
 match k,h with
 | 0,h=>obtain⟨_,⟨H,rfl,E⟩,q,h1,h⟩:=h;obtain⟨d,rfl,hd⟩:=ae (T hA E) h1;have G:r=I d:=h;exact⟨d,G,hd,by have:=Jy hd;omega⟩
 | 1,h=>obtain⟨_,⟨H,rfl,E⟩,q,h1,h⟩:=h;obtain⟨d,rfl,hd⟩:=ae (T aj E) h1;have G:r=I d:=h;exact⟨d,G,hd,by have:=Jy hd;omega⟩
 | 2,h=>obtain⟨_,⟨H,rfl,E⟩,h⟩:=h;have G:r=I H:=h;exact⟨H,G,T hB E,by have:=Je (T hB E);omega⟩
 | 3,h=>obtain⟨_,⟨H,rfl,E⟩,_,⟨X,rfl,ag⟩,q,h1,h⟩:=h;have f1:=T hA E;have f2:=T hB ag;have aa:Cx H X q:=h1;have l1:=Je f1;have l2:=Je f2;have hp:2 ^ X.n.length<=8:=μ (ϳ (by omega) l2) (by decide);obtain⟨x3,rfl,f3⟩:=Ju aa f1 f2 (μ (Nat.mul_le_mul l1 hp) (by decide)) (λd hd=>by have:=BN hd;omega);obtain⟨q2,h2,h⟩:=h;have aq:E3 x3 0 (-1) q2:=h2;obtain⟨d,rfl,hd⟩:=Uu f3 (by have:=BN f3;omega) (λd hd=>BM hd) aq;have G:r=I d:=h;exact⟨d,G,hd,by have:=BM hd;omega⟩
 | 4,h=>obtain⟨_,⟨H,rfl,E⟩,q,h1,h⟩:=h;have aa:E3 H 1 ((2:Nat):Int) q:=h1;obtain⟨d,rfl,hd⟩:=Uw (T hA E) (by omega) (by omega) aa;have G:r=I d:=h;exact⟨d,G,hd,by have:=len_le hd;omega⟩
 | 5,h=>
  obtain⟨_,⟨H,rfl,E⟩,_,⟨X,rfl,ag⟩,q,h1,h⟩:=h;have f2:=Ff (T hB ag) (Xb _);have f1:Fit H (C4 isB 0 0):=⟨E.1,λw=>(E.2 w).trans (Wf _ w)⟩;have aa:Lim (λw=>H.has w=Α\/X.has w=Α) q:=h1;have ar:Lim (C4 isB 0 1) q:=Gc aa λw=>by rw[f1.2,f2.2,or_comm,Vx]
  obtain⟨d,rfl,hd⟩:=W9 ar (n:=3) (by omega) λd hd=>len_le hd
  have G:r=I d:=h;exact⟨d,G,hd,by have:=len_le hd;omega⟩
 | 6,h=>obtain⟨_,⟨H,rfl,E⟩,q,h1,h⟩:=h;obtain⟨X,rfl,f2⟩:=ae (T hA E) h1;obtain⟨_,⟨x3,rfl,au⟩,q3,h3,h⟩:=h;have f3:=T hB au;have ax:Cx X x3 q3:=h3;have hp:2 ^ x3.n.length<=8:=μ (ϳ (by omega) (Je f3)) (by decide);obtain⟨d,rfl,hd⟩:=Ju ax f2 f3 (μ (Nat.mul_le_mul (Jy f2) hp) (by decide)) (λd hd=>by have:=AW (Ff hd Sg);omega);have G:r=I d:=h;exact⟨d,G,Ff hd Sg,by have:=AW (Ff hd Sg);omega⟩
 | 7,h=>obtain⟨_,⟨H,rfl,E⟩,h⟩:=h;have G:r=I H:=h;exact⟨H,G,E,by have:=Ia E;omega⟩
 | 8,h=>obtain⟨_,⟨H,rfl,E⟩,q,h1,h⟩:=h;have aa:E3 H 2 ((3:Nat):Int) q:=h1;obtain⟨d,rfl,hd⟩:=Uw (T aj E) (by omega) (by omega) aa;have G:r=I d:=h;exact⟨d,G,hd,by have:=len_le hd;omega⟩
 | k+9,h=>obtain⟨_,⟨H,rfl,E⟩,q,h1,h⟩:=h;obtain⟨X,rfl,f2⟩:=ae (T hA E) h1;obtain⟨_,⟨d,rfl,hd⟩,h⟩:=h;have f:Fit d (λw=>¬ ∀ x∈w,isA x):=⟨hd.1,λw=>(hd.2 w).trans (not_congr (f2.2 w))⟩;have G:r=I d:=h;exact⟨d,G,f,by have:=JW f;omega⟩
def exQ (n:Nat):List RNode:=exN (Bw 1) (Bw 2) (Bw 3) (n % 10)
theorem UH (c:Cls):Ι.built 96 [(0,.int Χ 3),(1,.agg (Ab c))]=I (rnC ⟨3,0,0,c,0,0⟩):=by kernel_rfl
theorem VI:Ι.built 96 [(0,.int Χ 8),(5,.int Χ (-1))]=I (rnC ⟨8,0,0,0#256,0,-1⟩):=by kernel_rfl
theorem VN:Ι.built 96 [(0,.int Χ 4),(2,.int Χ 0),(3,.int Χ 1)]=I (rnC ⟨4,0,1,0#256,0,0⟩):=by kernel_rfl
theorem VH:Ι.built 96 [(0,.int Χ 8),(2,.int Χ 2),(5,.int Χ (-1))]=I (rnC ⟨8,2,0,0#256,0,-1⟩):=by kernel_rfl
theorem VK:Ι.built 96 [(0,.int Χ 8),(4,.int Χ 1),(5,.int Χ 2)]=I (rnC ⟨8,0,0,0#256,1,2⟩):=by kernel_rfl
theorem VQ:Ι.built 96 [(0,.int Χ 2)]=I (rnC ⟨2,0,0,0#256,0,0⟩):=by kernel_rfl
theorem VR:Ι.built 96 [(0,.int Χ 5),(2,.int Χ 0),(3,.int Χ 1)]=I (rnC ⟨5,0,1,0#256,0,0⟩):=by kernel_rfl
theorem VM:Ι.built 96 [(0,.int Χ 4),(2,.int Χ 1),(3,.int Χ 2)]=I (rnC ⟨4,1,2,0#256,0,0⟩):=by kernel_rfl
theorem VJ:Ι.built 96 [(0,.int Χ 8),(4,.int Χ 2),(5,.int Χ 3)]=I (rnC ⟨8,0,0,0#256,2,3⟩):=by kernel_rfl
theorem VL:Ι.built 96 [(0,.int Χ 7),(2,.int Χ 1)]=I (rnC ⟨7,1,0,0#256,0,0⟩):=by kernel_rfl
theorem Yt (n:Nat) (hn:n<=1000) (w:Γ) :
  Ϟ Ι 27 #[iv n] w λe w'=>∃ g,e=Ω (U (I ⟨g,0,J⟩) (exQ n).length (exQ n).length)/\w'.heap[g]? = I (Β (flR (exQ n)).toArray 96 (0,0))/\Ext w w':=by
 have f1:∀ W,ϟ (Ϟ Ι 54 #[.int Χ 1] W λe w'=>e=Ω (.agg (Ab (Bw 1)))/\Ext W w'):=λW=>Z (Qb 1 (by decide) W)
 have f2:∀ W,ϟ (Ϟ Ι 54 #[.int Χ 2] W λe w'=>e=Ω (.agg (Ab (Bw 2)))/\Ext W w'):=λW=>Z (Qb 2 (by decide) W)
 have f3:∀ W,ϟ (Ϟ Ι 54 #[.int Χ 3] W λe w'=>e=Ω (.agg (Ab (Bw 3)))/\Ext W w'):=λW=>Z (Qb 3 (by decide) W)
 obtain⟨k,hk⟩:=Xq (n % 10);have a6:k<10:=by omega
 have HK:ϟ ((n:Int) % 10=(k:Int)):=Z (by omega);have hQ:exQ n=exN (Bw 1) (Bw 2) (Bw 3) k:=by unfold exQ;rw[hk]
 rw[hQ];clear hQ hk;have af:=Z UH;have ab:=Z VI;have a7:=Z VN;have a8:=Z VH;have ba:=Z VK;have az:=Z VQ;have bb:=Z VR;have bc:=Z VM;have bd:=Z VJ;have be:=Z VL;go_enter Tryz.func27,Tryz.ntmps27;go_upto_region 1 with (fail)
 go_upto_region 2 with (first
  | (go_at_call 54;(with_reducible refine (f1 w).o.mono ?_);rintro e w1 ⟨rfl,ag⟩)
  | (refine Bj rfl 96 _ rfl (rnC ⟨3,0,0,Bw 1,0,0⟩) ?_ ?_;(simp[ß,θ];with_reducible exact af.o _))
  | (refine Sr 96 (ε 3) (ε 7) rfl (Ad w1 (Β Ck 96)) (Dd _) rfl (Kp _) ?_))
 have ah:=(ag.alloc (Β Ck 96)).setRow ag.size (rnC ⟨3,0,0,Bw 1,0,0⟩);have ai:=Φ (w1.alloc (Β Ck 96)) w1.heap.size _ (rnC ⟨3,0,0,Bw 1,0,0⟩) _ _ (Ad w1 (Β Ck 96));obtain⟨v3,aj⟩:=Xq ((w1.alloc (Β Ck 96)).setRow w1.heap.size (rnC ⟨3,0,0,Bw 1,0,0⟩));rw[aj] at ah ai;simp only[aj];generalize w1.heap.size=g3 at *;clear aj ag;go_upto_region 3 with (first
  | (go_at_call 54;(with_reducible refine (f2 v3).o.mono ?_);rintro e H ⟨rfl,ak⟩)
  | (refine Bj rfl 96 _ rfl (rnC ⟨3,0,0,Bw 2,0,0⟩) ?_ ?_;(simp[ß,θ];with_reducible exact af.o _))
  | (refine Sr 96 (ε 4) (ε 9) rfl (Ad H (Β Ck 96)) (Dd _) rfl (Kp _) ?_))
 have ad:=(ak.alloc (Β Ck 96)).setRow ak.size (rnC ⟨3,0,0,Bw 2,0,0⟩);have an:=Φ (H.alloc (Β Ck 96)) H.heap.size _ (rnC ⟨3,0,0,Bw 2,0,0⟩) _ _ (Ad H (Β Ck 96));obtain⟨v4,ao⟩:=Xq ((H.alloc (Β Ck 96)).setRow H.heap.size (rnC ⟨3,0,0,Bw 2,0,0⟩));rw[ao] at ad an;simp only[ao];generalize H.heap.size=g4 at *;clear ao ak;go_upto_region 4 with (first
  | (go_at_call 54;(with_reducible refine (f3 v4).o.mono ?_);rintro e T ⟨rfl,aq⟩)
  | (refine Bj rfl 96 _ rfl (rnC ⟨3,0,0,Bw 3,0,0⟩) ?_ ?_;(simp[ß,θ];with_reducible exact af.o _))
  | (refine Sr 96 (ε 5) (ε 11) rfl (Ad T (Β Ck 96)) (Dd _) rfl (Kp _) ?_))
 have X:=(aq.alloc (Β Ck 96)).setRow aq.size (rnC ⟨3,0,0,Bw 3,0,0⟩);have ar:=Φ (T.alloc (Β Ck 96)) T.heap.size _ (rnC ⟨3,0,0,Bw 3,0,0⟩) _ _ (Ad T (Β Ck 96));obtain⟨E,au⟩:=Xq ((T.alloc (Β Ck 96)).setRow T.heap.size (rnC ⟨3,0,0,Bw 3,0,0⟩));rw[au] at X ar;simp only[au];generalize T.heap.size=g5 at *;clear au aq;have G:=(ah.t ad).trans X;have H3:=Z (X.heap (ad.heap ai));have H4:=Z (X.heap an);have H5:=Z ar;clear ah ad X ai an ar f1 f2 f3;go_upto_region 5 with (fail)
 try simp only[HK.o]
 have bh:k=0\/k=1\/k=2\/k=3\/k=4\/k=5\/k=6\/k=7\/k=8\/k=9:=by omega
 clear a6 HK;rcases bh with rfl|rfl|rfl|rfl|rfl|rfl|rfl|rfl|rfl|rfl
 ·go_wp2_with (first
   | (refine Lr 96 (ε 3) H3.o Ò (Dd _) ?_)
   | (refine Bj rfl 96 _ rfl (rnC ⟨8,0,0,0#256,0,-1⟩) ?_ ?_;(simp[ß,θ];with_reducible exact ab.o))
   | (refine Fx rfl [⟨3,0,0,Bw 1,0,0⟩,⟨8,0,0,0#256,0,-1⟩] 2 rfl (by simp) (by simp) _ rfl (by go_simp) ?_))
  go_ret;exact⟨_,rfl,Ad E _,G.alloc _⟩
 ·go_wp2_with (first
   | (refine Lr 96 (ε 5) H5.o Ò (Dd _) ?_)
   | (refine Bj rfl 96 _ rfl (rnC ⟨8,0,0,0#256,0,-1⟩) ?_ ?_;(simp[ß,θ];with_reducible exact ab.o))
   | (refine Fx rfl [⟨3,0,0,Bw 3,0,0⟩,⟨8,0,0,0#256,0,-1⟩] 2 rfl (by simp) (by simp) _ rfl (by go_simp) ?_))
  go_ret;exact⟨_,rfl,Ad E _,G.alloc _⟩
 ·go_wp2_with (first
   | (refine Lr 96 (ε 4) H4.o Ò (Dd _) ?_)
   | (refine Fx rfl [⟨3,0,0,Bw 2,0,0⟩] 1 rfl (by simp) (by simp) _ rfl (by go_simp) ?_))
  go_ret;exact⟨_,rfl,Ad E _,G.alloc _⟩
 ·go_wp2_with (first
   | (refine Lr 96 (ε 3) H3.o Ò (Dd _) ?_)
   | (refine Lr 96 (ε 4) H4.o Ò (Dd _) ?_)
   | (refine Bj rfl 96 _ rfl (rnC ⟨4,0,1,0#256,0,0⟩) ?_ ?_;(simp[ß,θ];with_reducible exact a7.o))
   | (refine Bj rfl 96 _ rfl (rnC ⟨8,2,0,0#256,0,-1⟩) ?_ ?_;(simp[ß,θ];with_reducible exact a8.o))
   | (refine Fx rfl [⟨3,0,0,Bw 1,0,0⟩,⟨3,0,0,Bw 2,0,0⟩,⟨4,0,1,0#256,0,0⟩,⟨8,2,0,0#256,0,-1⟩] 4 rfl (by simp) (by simp) _ rfl (by go_simp) ?_))
  go_ret;exact⟨_,rfl,Ad E _,G.alloc _⟩
 ·go_wp2_with (first
   | (refine Lr 96 (ε 3) H3.o Ò (Dd _) ?_)
   | (refine Bj rfl 96 _ rfl (rnC ⟨8,0,0,0#256,1,2⟩) ?_ ?_;(simp[ß,θ];with_reducible exact ba.o))
   | (refine Fx rfl [⟨3,0,0,Bw 1,0,0⟩,⟨8,0,0,0#256,1,2⟩] 2 rfl (by simp) (by simp) _ rfl (by go_simp) ?_))
  go_ret;exact⟨_,rfl,Ad E _,G.alloc _⟩
 ·go_wp2_with (first
   | (refine Bj rfl 96 _ rfl (rnC ⟨2,0,0,0#256,0,0⟩) ?_ ?_;(simp[ß,θ];with_reducible exact az.o))
   | (refine Lr 96 (ε 4) H4.o Ò (Dd _) ?_)
   | (refine Bj rfl 96 _ rfl (rnC ⟨5,0,1,0#256,0,0⟩) ?_ ?_;(simp[ß,θ];with_reducible exact bb.o))
   | (refine Fx rfl [⟨2,0,0,0#256,0,0⟩,⟨3,0,0,Bw 2,0,0⟩,⟨5,0,1,0#256,0,0⟩] 3 rfl (by simp) (by simp) _ rfl (by go_simp) ?_))
  go_ret;exact⟨_,rfl,Ad E _,G.alloc _⟩
 ·go_wp2_with (first
   | (refine Lr 96 (ε 3) H3.o Ò (Dd _) ?_)
   | (refine Bj rfl 96 _ rfl (rnC ⟨8,0,0,0#256,0,-1⟩) ?_ ?_;(simp[ß,θ];with_reducible exact ab.o))
   | (refine Lr 96 (ε 4) H4.o Ò (Dd _) ?_)
   | (refine Bj rfl 96 _ rfl (rnC ⟨4,1,2,0#256,0,0⟩) ?_ ?_;(simp[ß,θ];with_reducible exact bc.o))
   | (refine Fx rfl [⟨3,0,0,Bw 1,0,0⟩,⟨8,0,0,0#256,0,-1⟩,⟨3,0,0,Bw 2,0,0⟩,⟨4,1,2,0#256,0,0⟩] 4 rfl (by simp) (by simp) _ rfl (by go_simp) ?_))
  go_ret;exact⟨_,rfl,Ad E _,G.alloc _⟩
 ·go_wp2_with (first
   | (refine Bj rfl 96 _ rfl (rnC ⟨2,0,0,0#256,0,0⟩) ?_ ?_;(simp[ß,θ];with_reducible exact az.o))
   | (refine Fx rfl [⟨2,0,0,0#256,0,0⟩] 1 rfl (by simp) (by simp) _ rfl (by go_simp) ?_))
  go_ret;exact⟨_,rfl,Ad E _,G.alloc _⟩
 ·go_wp2_with (first
   | (refine Lr 96 (ε 5) H5.o Ò (Dd _) ?_)
   | (refine Bj rfl 96 _ rfl (rnC ⟨8,0,0,0#256,2,3⟩) ?_ ?_;(simp[ß,θ];with_reducible exact bd.o))
   | (refine Fx rfl [⟨3,0,0,Bw 3,0,0⟩,⟨8,0,0,0#256,2,3⟩] 2 rfl (by simp) (by simp) _ rfl (by go_simp) ?_))
  go_ret;exact⟨_,rfl,Ad E _,G.alloc _⟩
 go_wp2_with (first
  | (refine Lr 96 (ε 3) H3.o Ò (Dd _) ?_)
  | (refine Bj rfl 96 _ rfl (rnC ⟨8,0,0,0#256,0,-1⟩) ?_ ?_;(simp[ß,θ];with_reducible exact ab.o))
  | (refine Bj rfl 96 _ rfl (rnC ⟨7,1,0,0#256,0,0⟩) ?_ ?_;(simp[ß,θ];with_reducible exact be.o))
  | (refine Fx rfl [⟨3,0,0,Bw 1,0,0⟩,⟨8,0,0,0#256,0,-1⟩,⟨7,1,0,0#256,0,0⟩] 3 rfl (by simp) (by simp) _ rfl (by go_simp) ?_))
 go_ret;exact⟨_,rfl,Ad E _,G.alloc _⟩
def ptQ (y:UInt8):PtN:=⟨exQ y.toNat,decide (y.toNat / 10 % 2=1)⟩
def Cc (l:List UInt8):List PtN:=if l.length=0 then [⟨exQ 1,Ε⟩] else (l.take 3).map ptQ
def PtRow (W:Γ) (xs:List Δ) (ps:List PtN):Prop:=∀ i,i<ps.length->∃ g,xs.getD (i*2) δ=U (I ⟨g,0,J⟩) (ps.getD i pN).xs.length (ps.getD i pN).xs.length/\xs.getD (i*2+1) δ=.bool (ps.getD i pN).lz/\W.heap[g]? = I (Β (flR (ps.getD i pN).xs).toArray 96 (0,0))
theorem PtRow.ext {W W':Γ} {xs:List Δ} {ps:List PtN} (h:PtRow W xs ps) (E:Ext W W'):PtRow W' xs ps:=λi hi=>by obtain⟨g,h1,G,H⟩:=h i hi;exact⟨g,h1,G,E.heap H⟩
theorem PtRow.kept {W W':Γ} {xs:List Δ} {ps:List PtN} (h:PtRow W xs ps) {base n s:Nat} {v:Δ} {ys:List Δ} (H:W.ownsRow base 48 s v n ys) (hg:W.grownBy W' v.ownBlock):PtRow W' xs ps:=λi hi=>by
 obtain⟨g,h1,T,G⟩:=h i hi;refine⟨g,h1,T,(hg.block g (Al G) λe=>?_).trans G⟩;rcases H.2 with⟨rfl,_⟩|⟨X,aa,cur,rfl,_,E,_⟩
 ·cases e
 injection e with e
 subst e;rw[G] at E;injection E with E
 injection E with _ E _
 exact absurd E (by decide)
theorem PtRow.snoc {W:Γ} {xs:List Δ} {ps:List PtN} (hx:xs.length=ps.length*2) (h:PtRow W xs ps) {p:PtN} {g:Nat} (hg:W.heap[g]? = I (Β (flR p.xs).toArray 96 (0,0))):PtRow W (xs++[U (I ⟨g,0,J⟩) p.xs.length p.xs.length,.bool p.lz]) (ps++[p]):=λi hi=>by
 rw[Ν,Ϥ] at hi;by_cases e:i<ps.length
 ·obtain⟨E,h1,G,H⟩:=h i e;refine⟨E,?_,?_,?_⟩
  ·rw[Ζ,ϊ (by omega),<-Ζ,h1,Ζ,Θ e];simp[ϊ e,Θ e]
  ·rw[Ζ,ϊ (by omega),<-Ζ,G,Ζ,Θ e];simp[ϊ e,Θ e]
  rw[H,Ζ,Θ e];simp[ϊ e,Θ e]
 obtain rfl:i=ps.length:=by omega
 refine⟨g,?_,?_,?_⟩
 ·rw[Ζ,χ (by omega),hx,Nat.sub_self];simp
 ·rw[Ζ,χ (by omega),hx,Nat.add_sub_cancel_left];simp
 rw[hg];simp
theorem PtRow.at_ {W:Γ} {xs:List Δ} {ps:List PtN} (h:PtRow W xs ps) (hx:xs.length=ps.length*2) {g:Nat} (hc:∀ j,j<xs.length->W.cell? ⟨g,j,J⟩=I (xs.getD j δ)):PatAt W g 0 ps:=λi hi=>by
 obtain⟨G,h1,H,T⟩:=h i hi;refine⟨G,0,(ps.getD i pN).xs.length,λj v E=>?_,GF T⟩;rw[Ϣ];rcases j with _|_|j
 ·have:=hc (i*2) (by omega);rw[h1] at this;have E:ό (I ⟨G,0,J⟩) (ps.getD i pN).xs.length (ps.getD i pN).xs.length=v:=by simpa only [Ϻ,Option.some.injEq] using E
  rw[<-E];exact this
 ·have:=hc (i*2+1) (by omega);rw[H] at this;have E:ψ (ps.getD i pN).lz=v:=by simpa only [Ϻ,ϻ,Option.some.injEq,Ϣ] using E
  rw[<-E];exact this
 simp at E
theorem MA (y:UInt8):((â.wrap ((y.toNat:Int) / 10)).tmod 2==1)=decide (y.toNat / 10 % 2=1):=by
 have h:=y.toNat_lt;have e:â.wrap ((y.toNat:Int) / 10)=((y.toNat / 10:Nat):Int):=by rw[IntKind.wrap_u8];omega
 rw[e,Int.tmod_eq_emod_of_nonneg (by omega),ϴ];simp
 omega
theorem UE (v:Δ) (a:Option Addr) (n c:Nat) (E:v=U a n c) (b:Bool):Ι.built 48 [(0,v),(1,.bool b)]=I #[v,.bool b]:=by subst E;kernel_rfl
theorem UD (a:Option Addr) (n c:Nat):Ι.built 48 [(0,U a n c)]=I #[U a n c,.bool Ε]:=by kernel_rfl
theorem Ws (l:List UInt8) (v:Δ) (w:Γ) (hl:ByW w v l) :
  Ϟ Ι 10 #[v] w λe w'=>∃ g c,e=Ω (U (I ⟨g,0,J⟩) (Cc l).length c)/\PatAt w' g 0 (Cc l)/\Ext w w':=by
 obtain⟨j0,hj,bk,bl,bm⟩:=ϑ (show (Ι.info? 48).map (λi=>(i.zero,i.size,i.bytes))=I (I (.agg #[U J 0 0,.bool Ε]),2,32) by kernel_rfl);obtain⟨a,b,o,ca,rfl,bn,_,bo⟩:=hl.split;have da:=hl.1;have HC:=Z (λ(W:Γ) (hW:Ext w W) i (hi:i<l.length)=>hW.cell (bo i hi));have HA:=Z bn;clear hl bn bo;have bp:=(Κ w).alloc (Β #[] 48);have bq:ϣ (w.alloc (Β #[] 48)) w.heap.size 48 2 (U (I ⟨w.heap.size,0,J⟩) 0 0) 0 []:=Γ.ownsRow_lit (base:=w.heap.size) (e:=48) (size:=2) w #[] 0 (Υ _) (by unfold ϐ;omega) rfl;go_enter Tryz.func10,Tryz.ntmps10;go_wp2_with (fail);go_loopw [3,4] (λvx vi W=>∃ (ps:List PtN) (xs:List Δ) (g c:Nat),ps.length<=3/\ps.length<=l.length/\vx=U (I ⟨g,0,J⟩) ps.length c/\vi=.int Χ ps.length/\Ext w W/\W.ownsRow w.heap.size 48 2 (U (I ⟨g,0,J⟩) ps.length c) ps.length xs/\ϟ (ps=(l.take ps.length).map ptQ/\PtRow W xs ps))
  (λ_ vi _=>3-(intOf vi).toNat)
 case atStart=>exact⟨[],[],_,_,by simp,by simp,rfl,rfl,bp,bq,Z ⟨by simp,λi hi=>absurd hi (by simp)⟩⟩
 clear bp bq;obtain⟨ps,xs,g,c,br,bt,rfl,rfl,hE,hO,HI⟩:=hrel;have db:=hE.size;obtain⟨i,hi⟩:=Xq (ps.length);rw[hi] at br bt hO;have G:=Z hi;simp only[hi];clear hi;by_cases bu:i<l.length/\i<3
 ·obtain⟨h1,h2⟩:=bu;have dc:(i:Int)<(l.length:Int):=by omega
  have dd:(i:Int)<3:=by omega
  obtain rfl:=HA.o (by omega);have bw:=Z (λV (hV:Ext w V)=>HC.o V hV i h1);obtain⟨y,X⟩:=Xq (l.getD i 0);rw[X] at bw;have de:=y.toNat_lt;have HY:=Z X;clear X;have f105:=λW=>Z (Yt y.toNat (by omega) W)
  have df:(0:Int)<=(i:Int):=by omega
  go_upto_region 5 with (fail)
  refine Bq 17 [(0,Α),(1,Α),(2,Α),(3,Α),(4,Α),(5,Α),(7,Α),(8,Α),(9,Α),(10,Α),(11,Α),(12,Α),(13,Α),(6,Ε),(14,Α),(15,Ε),(16,Ε),(17,Ε)] (by kernel_rfl) (by kernel_rfl) (λ_ _ _ _ h=>h) (λV=>Ext w V) (hE.t (Κ wr).drew) ?_;have bb:=hE.t (Κ wr).drew;have bc:=Aa hO (Κ wr).drew;have bz:=Z (HI.o.2.ext (Κ wr).drew);obtain⟨wy,bd⟩:=Xq (wr.drew);rw[bd] at bb bc bz;rw[bd];clear bd hE hO;iterate 13
   refine Ai (v:=?_) rfl rfl (λV hV=>?_) ?_
   rotate_left
   ·have k1:=bw.o V hV;clear hV;go_simp;first|done|with_reducible rfl
   simp only[θ,Η,Μ,Λ]
  rw[MA,show å.wrap (y.toNat:Int)=(y.toNat:Int) from IntKind.wrap_i64_id (by omega) (by omega)];refine Ao rfl (λKk hK=>?_);go_simp
  (with_reducible refine (f105 wy).o.mono ?_)
  rintro e w5 ⟨E,rfl,an,ae⟩;have af:=Z an;have aa:=bb.t ae;have T:=Aa bc ae;have cu:=Z (bz.o.ext ae);refine hK _ _ (λ_=>aa) ?_;clear hK Kk f105 an ae bc bb;obtain⟨nx,ag⟩:=Xq ((exQ y.toNat).length);have be:=Z ag;simp only[ag];clear ag;obtain⟨lz,bf⟩:=Xq (decide (y.toNat / 10 % 2=1));have cv:=Z bf;simp only[bf];clear bf;have au:=Z (UE (U (I ⟨E,0,J⟩) nx nx) _ _ _ rfl lz);refine Ai (v:=.agg #[U (I ⟨E,0,J⟩) nx nx,.bool lz]) rfl rfl (λV _=>?_) ?_
  ·exact Gi 48 _ rfl (by simpa [ß] using au.o) V
  simp only[θ,Η,Μ,Λ];refine Ao rfl (λKk hK=>?_);go_simp;refine hK _ _ (λ_=>aa.alloc _) ?_;clear hK Kk;refine Ao rfl (λKk hK=>?_);refine step_append_lies _ rfl _ _ 25 rfl w.heap.size 48 j0 (.agg #[U J 0 0,.bool Ε]) 2 32 Tryz.underlying25 hj bk bl bm rfl (by decide) (U (I ⟨g,0,J⟩) i c) _ _ rfl (T.alloc _) _ 1 1 [U (I ⟨E,0,J⟩) nx nx,.bool lz] rfl rfl (Js _ _ _ _) (by simp[ξ]) (by decide) (by unfold ϐ;omega) (by omega) (by have:=aa.size;simp;omega) _ rfl ?_;intro g7 c7 w7 bg ah b4 _;have ay:=(aa.alloc (Β #[U (I ⟨E,0,J⟩) nx nx,.bool lz] 48)).grown ah (λk e=>(T.lt k e).1);refine hK _ _ (λ_=>ay) ?_;clear hK Kk;refine Ao rfl (λKk hK=>?_);go_simp;refine hK _ _ (λh=>absurd h (by omega)) ?_;clear hK Kk;refine Bn ?_;have az:=cu.o.ext ((Κ w5).alloc (Β #[U (I ⟨E,0,J⟩) nx nx,.bool lz] 48));have az:=az.kept (T.alloc _) ah;have b5:xs.length=ps.length*2:=by rw[G.o];exact T.1
  have a1:w7.heap[E]? = I (Β (flR (ptQ y).xs).toArray 96 (0,0)):=by
   refine (ah.block E (Ξ (Al af.o) (by rw[Ο];omega)) λe=>?_).trans (Ag af.o _);rcases (T.alloc (Β #[U (I ⟨E,0,J⟩) nx nx,.bool lz] 48)).2 with⟨hv,_⟩|⟨g',cy,cur,hv,_,H,_⟩
   ·cases hv
   rw[hv] at e;injection e with e
   subst e;rw[Ag af.o] at H;injection H with H
   injection H with _ H _
   exact absurd H (by decide)
  have bh:=az.snoc b5 (p:=ptQ y) a1;have e1:(ptQ y).xs.length=nx:=be.o;have e2:(ptQ y).lz=lz:=cv.o;rw[e1,e2] at bh;have HF:ϟ (ps++[ptQ y]=(l.take (ps++[ptQ y]).length).map ptQ/\PtRow w7 (xs++[U (I ⟨E,0,J⟩) nx nx,.bool lz]) (ps++[ptQ y])):=Z ⟨by rw[Ν,Ϥ,G.o,List.take_succ_eq_append_getElem h1,List.map_append];have h0:=HI.o.1;rw[G.o] at h0;rw[<-h0];have X:=HY.o;rw[Ζ,Θ h1] at X;have X:l[i]=y:=X;rw[X];rfl,bh⟩
  clear b5 a1 bh e1 e2 az ah b4 T aa au;go_wp2_with (fail);go_roundw
  case rel=>exact⟨ps++[ptQ y],_,g7,c7,by rw[Ν,G.o];simp;omega,by rw[Ν,G.o];simp;omega,by rw[Ν,G.o];rfl,by rw[Ν,G.o];go_num,ay,by rw[Ν,G.o];exact bg,HF⟩
  case measure=>simp[intOf]<;>omega
 have b8:ϟ (0<i->Cc l=ps):=Z λh0=>by
  unfold Cc;have h3:=HI.o.1;rw[G.o] at h3;rw[if_neg (by omega),h3]
  congr 1
  by_cases e:i=3
  ·rw[e]
  rw[Ø (by omega),Ø (by omega)]
 have cb:∀ W (g c:Nat) (ps:List PtN) (xs:List Δ),W.ownsRow w.heap.size 48 2 (U (I ⟨g,0,J⟩) ps.length c) ps.length xs->PtRow W xs ps->PatAt W g 0 ps:=λW g c ps xs ho hp=>by
  have c4:xs.length=ps.length*2:=ho.1;refine hp.at_ c4 λj hj=>?_
  rw[ho.cellAt j (by omega),Ζ,Θ hj];rfl
 have cd:=Z cb;clear cb;by_cases h0:i=0
 ·subst h0;have cf:l.length=0:=by omega
  have cg:ϟ (Cc l=[⟨exQ 1,Ε⟩]):=Z (by unfold Cc;rw[if_pos cf]);have c5:ps=[]:=ϵ.1 G.o;have c6:xs=[]:=ϵ.1 (by have:xs.length=0*2:=hO.1;omega);subst c5 c6;have f105:∀ W,ϟ (Ϟ Ι 27 #[.int Χ 1] W λe w'=>∃ g,e=Ω (U (I ⟨g,0,J⟩) (exQ 1).length (exQ 1).length)/\w'.heap[g]? = I (Β (flR (exQ 1)).toArray 96 (0,0))/\Ext W w'):=λW=>Z (Yt 1 (by omega) W)
  obtain⟨nx,ag⟩:=Xq ((exQ 1).length);rw[ag] at f105;have be:=Z ag;clear ag br bt;rw[cf];go_upto_region 7 with (fail)
  go_wp2_with (first
   | (go_at_call 27;(with_reducible refine (f105 _).o.mono ?_);rintro e w5 ⟨E,rfl,an,ae⟩;have af:=Z an;have T:=Aa hO ae;have aa:=hE.t ae;clear an;have au:=Z (UD (I ⟨E,0,J⟩) nx nx))
   | (refine Bj rfl 48 _ rfl #[U (I ⟨E,0,J⟩) nx nx,.bool Ε] ?_ ?_;(simp[ß,θ];with_reducible exact au.o))
   | (at_builtin;refine wpList_append_lies _ rfl _ _ 25 rfl w.heap.size 48 j0 (.agg #[U J 0 0,.bool Ε]) 2 32 Tryz.underlying25 hj bk bl bm rfl (by decide) (U (I ⟨g,0,J⟩) 0 c) _ _ rfl (T.alloc _) _ 1 1 [U (I ⟨E,0,J⟩) nx nx,.bool Ε] rfl rfl (Js _ _ _ _) (by simp[ξ]) (by decide) (by unfold ϐ;omega) (by omega) (by have:=aa.size;simp;omega) _ rfl ?_;intro g7 c7 w7 bg ah b4 _))
  have ay:=(aa.alloc (Β #[U (I ⟨E,0,J⟩) nx nx,.bool Ε] 48)).grown ah (λk e=>(T.lt k e).1);have a1:w7.heap[E]? = I (Β (flR (exQ 1)).toArray 96 (0,0)):=by
   refine (ah.block E (Ξ (Al af.o) (by rw[Ο];omega)) λe=>?_).trans (Ag af.o _);rcases (T.alloc (Β #[U (I ⟨E,0,J⟩) nx nx,.bool Ε] 48)).2 with⟨hv,_⟩|⟨g',cy,cur,hv,_,H,_⟩
   ·cases hv
   rw[hv] at e;injection e with e
   subst e;rw[Ag af.o] at H;injection H with H
   injection H with _ H _
   exact absurd H (by decide)
  have c8:PtRow w7 ([]++[U (I ⟨E,0,J⟩) nx nx,.bool Ε]) ([]++[⟨exQ 1,Ε⟩]):=by rw[<-be.o];exact PtRow.snoc (xs:=[]) (ps:=[]) rfl (λi hi=>absurd hi (by simp)) (p:=⟨exQ 1,Ε⟩) a1
  have a6:=Z (cd.o w7 g7 c7 [⟨exQ 1,Ε⟩] _ bg c8);go_ret;exact⟨g7,c7,by rw[cg.o];rfl,by rw[cg.o];exact a6.o,ay⟩
 have hP:=b8.o (by omega);have a6:=Z (cd.o wr g c ps xs (by rw[G.o];exact hO) HI.o.2);have HP:=Z hP;clear b8 hP;by_cases h1:i<l.length
 ·have h2:¬ i<3:=λh=>bu ⟨h1,h⟩
  go_wp2_with (fail);go_ret;exact⟨g,c,by rw[HP.o,G.o];rfl,by rw[HP.o];exact a6.o,hE⟩
 go_wp2_with (fail);go_ret;exact⟨g,c,by rw[HP.o,G.o];rfl,by rw[HP.o];exact a6.o,hE⟩
theorem Pq {lz:Bool} {A B:Af} {os:List Opt} (h:OptsOf lz A B os) {w0:List UInt8} (h0:A w0) (h1:∃ v,Adm lz A B w0 v) (hu:∀ w,A w->(∃ v,Adm lz A B w v)->∀ v,Adm lz A B w v↔Adm lz A B w0 v) :
  ∃ o,os=[o]/\(∀ w,o.head.has w=Α↔A w/\∃ v,Adm lz A B w v)/\∀ v,o.rest.has v=Α↔Adm lz A B w0 v:=by
 have G:∀ o∈os,∀ v,o.rest.has v=Α↔Adm lz A B w0 v:=λo E v=>by obtain⟨⟨w,T⟩,X,aa⟩:=h.I o E;obtain⟨k1,H⟩:=(h.head o E w).1 T;rw[H v];exact hu w k1 ⟨X,(H X).1 aa⟩ v
 obtain⟨o,E,T⟩:=h.all w0 h0 h1;have hl:os=[o]:=by
  match os,E,h,G with
  | [a],E,_,_=>rw[ϖ.1 E]
  | a::b::t,_,h,G=>
   exfalso
   have hd:=h.dis;rw[List.pairwise_cons] at hd;refine hd.1 b (É) (Fu (h.hc a É).2 (h.hc b (ç _ É)).2 λv=>?_);rw[ϴ,G a É,G b (ç _ É)]
 refine⟨o,hl,λw=>?_,G o E⟩;constructor
 ·intro T;obtain⟨k1,H⟩:=(h.head o E w).1 T;obtain⟨v,hv⟩:=h1;exact⟨k1,v,(H v).1 ((G o E v).2 hv)⟩
 rintro⟨k1,H⟩;refine (h.head o E w).2 ⟨k1,λv=>?_⟩;rw[G o E v,hu w k1 H v]
theorem J3 (w v:List UInt8) (E:exL 1 w):Adm Ε (exL 1) (λu=>u=[]) w v↔v=[]:=by
 unfold Adm Of;simp only[Í,if_false];constructor
 ·exact λh=>h.1
 rintro rfl;refine⟨rfl,?_⟩;rintro⟨x,y,hx,e,_⟩;have:=congrArg List.length e;rw[Ν,à] at this;exact hx (ϵ.1 (by omega))
theorem L5 (w v:List UInt8) (G:exL 0 w):Adm Ε (exL 0) (exL 1) w v↔exL 1 v/\∀ u,v≠97::u:=by
 unfold Adm Of;simp only[Í,if_false];constructor
 ·rintro⟨h1,E⟩;refine⟨h1,λu e=>E ⟨[97],u,by simp,e,λx hx=>?_,λx hx=>h1 x (by rw[e];exact ç _ hx)⟩⟩;rcases Ä.1 hx with h|h
  ·exact G x h
  rw[ϖ.1 h]
 rintro⟨h1,E⟩;refine⟨h1,?_⟩;rintro⟨x,y,hx,e,H,_⟩;cases x with
 | nil=>exact hx rfl
 | cons c x=>have:c=97:=H c (List.mem_append_right _ É);subst this;exact E _ e
theorem J2 (w v:List UInt8) (E:exL 0 w):Adm Α (exL 0) (exL 1) w v↔w=[]/\exL 1 v:=by
 unfold Adm St;simp only[if_true];constructor
 ·rintro⟨h1,G⟩;refine⟨?_,h1⟩;by_cases e:w=[]
  ·exact e
  refine absurd ⟨[],w,e,rfl,λx hx=>absurd hx è,λx hx=>?_⟩ G;rcases Ä.1 hx with h|h
  ·exact .inl (E x h)
  exact h1 x h
 rintro⟨rfl,h1⟩;refine⟨h1,?_⟩;rintro⟨x,y,H,e,_⟩;have:=congrArg List.length e;rw[Ν,à] at this;exact H (ϵ.1 (by omega))
theorem JC {os:List Opt} (h:OptsOf Ε (exL 0) (exL 1) os):∃ o,os=[o]/\(∀ w,o.head.has w=Α↔exL 0 w)/\∀ v,o.rest.has v=Α↔exL 1 v/\∀ u,v≠97::u:=by
 have E:exL 0 []:=λx hx=>absurd hx è
 have H:∀ w,exL 0 w->∃ v,Adm Ε (exL 0) (exL 1) w v:=λw G=>⟨[],(L5 w [] G).2 ⟨λx hx=>absurd hx è,λu=>by simp⟩⟩
 obtain⟨o,h1,T,X⟩:=Pq h E (H [] E) λw G _ v=>by rw[L5 w v G,L5 [] v E]
 exact⟨o,h1,λw=>(T w).trans ⟨λh=>h.1,λh=>⟨h,H w h⟩⟩,λv=>(X v).trans (L5 [] v E)⟩
theorem Vw {os:List Opt} (h:OptsOf Ε (exL 1) (λu=>u=[]) os):∃ o,os=[o]/\(∀ w,o.head.has w=Α↔exL 1 w)/\∀ v,o.rest.has v=Α↔v=[]:=by
 have E:exL 1 []:=λx hx=>absurd hx è
 have H:∀ w,exL 1 w->∃ v,Adm Ε (exL 1) (λu=>u=[]) w v:=λw G=>⟨[],(J3 w [] G).2 rfl⟩
 obtain⟨o,h1,T,X⟩:=Pq h E (H [] E) λw G _ v=>by rw[J3 w v G,J3 [] v E]
 exact⟨o,h1,λw=>(T w).trans ⟨λh=>h.1,λh=>⟨h,H w h⟩⟩,λv=>(X v).trans (J3 [] v E)⟩
theorem JB {os:List Opt} (h:OptsOf Α (exL 0) (exL 1) os):∃ o,os=[o]/\(∀ w,o.head.has w=Α↔w=[])/\∀ v,o.rest.has v=Α↔exL 1 v:=by
 have E:exL 0 []:=λx hx=>absurd hx è
 have G:exL 1 []:=λx hx=>absurd hx è
 obtain⟨o,h1,H,T⟩:=Pq h E ⟨[],(J2 [] [] E).2 ⟨rfl,G⟩⟩ λw X ⟨v',ab⟩ v=>by obtain⟨rfl,_⟩:=(J2 w v' X).1 ab;exact Iff.rfl
 refine⟨o,h1,λw=>(H w).trans ⟨?_,?_⟩,λv=>(T v).trans ((J2 [] v E).trans ⟨λh=>h.2,λh=>⟨rfl,h⟩⟩)⟩
 ·rintro⟨k1,v,k2⟩;exact ((J2 w v k1).1 k2).1
 rintro rfl;exact⟨E,[],(J2 [] [] E).2 ⟨rfl,G⟩⟩
theorem D9 {d:Dfa} {L:Af} (h:Fit d L):wd1 d=L:=funext λw=>propext (h.2 w)
theorem Lx (d:Dfa):Bv [d]=wd1 d:=funext λw=>propext (Jt _ w)
section
variable {d0 d1:Dfa} (f0:Fit d0 (exL 0)) (f1:Fit d1 (exL 1))
include f0 f1
theorem FR:Cw [⟨d0,Ε⟩,⟨d1,Ε⟩] [97,97,98] 0 [(0,2),(2,3)]:=by
 have h0:∀ w,d0.has w=Α↔exL 0 w:=f0.2;have h1:∀ w,d1.has w=Α↔exL 1 w:=f1.2;have E:InR [⟨d0,Ε⟩,⟨d1,Ε⟩] [[97,97],[98]]:=⟨[97,97],[[98]],rfl,(h0 _).2 (by simp[exL,D6]),[98],[],rfl,(h1 _).2 (by simp[exL,D6]),rfl⟩;refine (P4 [] E).2 ⟨[97,97],[[98]],rfl,?_,[98],[],rfl,?_,rfl⟩
 ·show Adm Ε (wd1 d0) (Bv [d1]) [97,97] [98];rw[Lx,D9 f0,D9 f1];exact (L5 _ _ (by simp[exL,D6])).2 ⟨by simp[exL,D6],λu=>by simp⟩
 show Adm Ε (wd1 d1) (λw=>w=[]) [98] [];rw[D9 f1];exact (J3 _ _ (by simp[exL,D6])).2 rfl
theorem FQ:Cw [⟨d0,Α⟩,⟨d1,Ε⟩] [97,97,98] 0 [(0,0),(0,3)]:=by
 have h0:∀ w,d0.has w=Α↔exL 0 w:=f0.2;have h1:∀ w,d1.has w=Α↔exL 1 w:=f1.2;have E:InR [⟨d0,Α⟩,⟨d1,Ε⟩] [[],[97,97,98]]:=⟨[],[[97,97,98]],rfl,(h0 _).2 (by simp[exL,D6]),[97,97,98],[],rfl,(h1 _).2 (by simp[exL,D6]),rfl⟩;refine (P4 [] E).2 ⟨[],[[97,97,98]],rfl,?_,[97,97,98],[],rfl,?_,rfl⟩
 ·show Adm Α (wd1 d0) (Bv [d1]) [] [97,97,98];rw[Lx,D9 f0,D9 f1];exact (J2 _ _ (by simp[exL,D6])).2 ⟨rfl,by simp[exL,D6]⟩
 show Adm Ε (wd1 d1) (λw=>w=[]) [97,97,98] [];rw[D9 f1];exact (J3 _ _ (by simp[exL,D6])).2 rfl
theorem FS:¬ Bv [d0,d1] [99]:=by
 rintro⟨u,v,e,hu,H⟩;have E:Bv [d1] v:=H;rw[Lx,D9 f1] at E;have G:wd1 d0 u:=hu;rw[D9 f0] at G;have hm:(99:UInt8)∈u++v:=by rw[<-e];simp
 rcases Ä.1 hm with h|h
 ·have:=G _ h;exact absurd this (by decide)
 have:=E _ h;exact absurd this (by decide)
theorem Ui {l:List (List Opt)} (h:Er [⟨d0,Ε⟩,⟨d1,Ε⟩] l):∃ a b,Ar l=[[a,b]]/\a.rest.has []=Α/\a.rest.has [98,97]=Α/\a.rest.has [97,98]=Ε/\∀ v,b.rest.has v=Α↔v=[]:=by
 obtain⟨os,t,rfl,h0,T,X,rfl,h1,ht⟩:=h;have ab:X=[]:=ht;subst ab;have G:OptsOf Ε (wd1 d0) (Bv [d1]) os:=h0;rw[Lx,D9 f0,D9 f1] at G;have H:OptsOf Ε (wd1 d1) (λu=>u=[]) T:=h1;rw[D9 f1] at H;obtain⟨a,rfl,_,E⟩:=JC G;obtain⟨b,rfl,_,hb⟩:=Vw H;refine⟨a,b,rfl,(E _).2 ⟨by simp[exL,D6],λu=>by simp⟩,(E _).2 ⟨by simp[exL,D6],λu=>by simp⟩,?_,hb⟩;cases hh:a.rest.has [97,98]
 ·rfl
 exact absurd rfl (((E _).1 hh).2 [98])
theorem Uh {l:List (List Opt)} (h:Er [⟨d0,Α⟩,⟨d1,Ε⟩] l):∃ a b,Ar l=[[a,b]]/\∀ v,a.head.has v=Α↔v=[]:=by obtain⟨os,t,rfl,h0,H,T,rfl,h1,X⟩:=h;have aa:T=[]:=X;subst aa;have E:OptsOf Α (wd1 d0) (Bv [d1]) os:=h0;rw[Lx,D9 f0,D9 f1] at E;have G:OptsOf Ε (wd1 d1) (λu=>u=[]) H:=h1;rw[D9 f1] at G;obtain⟨a,rfl,ha,_⟩:=JB E;obtain⟨b,rfl,_,_⟩:=Vw G;exact⟨a,b,rfl,ha⟩
end
theorem MF (x:UInt8):(Bw 1).getLsbD x.toNat=Α↔isA x:=by
 have hx:=x.toNat_lt;show (Ax 0#256 ((97:Nat):Int)).getLsbD x.toNat=Α↔_;rw[Jk _ 97 x.toNat (by omega)];simp only[ï,Bool.false_or,decide_eq_true_eq];constructor
 ·intro h;exact UInt8.toNat_inj.1 h
 rintro rfl;rfl
theorem MD (x:UInt8):(Bw 2).getLsbD x.toNat=Α↔isB x:=by
 have hx:=x.toNat_lt;show (Ax 0#256 ((98:Nat):Int)).getLsbD x.toNat=Α↔_;rw[Jk _ 98 x.toNat (by omega)];simp only[ï,Bool.false_or,decide_eq_true_eq];constructor
 ·intro h;exact UInt8.toNat_inj.1 h
 rintro rfl;rfl
theorem ME (x:UInt8):(Bw 3).getLsbD x.toNat=Α↔D6 x:=by
 have hx:=x.toNat_lt;show (Ax (Ax 0#256 ((97:Nat):Int)) ((98:Nat):Int)).getLsbD x.toNat=Α↔_;rw[Jk _ 98 x.toNat (by omega),Jk _ 97 x.toNat (by omega)];simp only[ï,Bool.false_or,Bool.or_eq_true,decide_eq_true_eq];constructor
 ·rintro (h|h)
  ·exact .inl (UInt8.toNat_inj.1 h)
  exact .inr (UInt8.toNat_inj.1 h)
 rintro (rfl|rfl)
 ·exact .inl rfl
 exact .inr rfl
theorem R8 (n:Nat) {r:Option Dfa} (h:Dj (exQ n) [] r):∃ d,r=I d/\Fit d (exL (n % 10))/\d.n.length<=5:=UY MF MD ME (n % 10) h
theorem Jb {α:Type} {l:List α} {i:Nat} {d:α} (h:i<l.length):l.getD i d∈l:=by rw[Ζ,Θ h];exact ϯ h
theorem Fy {k l r:Nat} {c:Cls} {mn:Nat} {mx:Int} {i:Nat} (h1:1<=k/\k<=8) (E:(0<arK k->l<i)/\(arK k=0->l=0)/\(1<arK k->r<i)/\(arK k<2->r=0)) (G:k≠3->c=0#256) (H:k≠8->mn=0/\mx=0) (T:k=8->mn<=16/\mx<=16/\-1<=mx/\(mx≠-1->(mn:Int)<=mx)):VNode k l r c mn mx i:=
 ⟨h1.1,h1.2,E.1,E.2.1,E.2.2.1,E.2.2.2,G,H,T⟩
theorem CU (A B T:Cls) (k:Nat) (hk:k<10):VRx (exN A B T k):=by
 have X:k=0\/k=1\/k=2\/k=3\/k=4\/k=5\/k=6\/k=7\/k=8\/k=9:=by omega
 have one:∀ i,i<1->i=0:=λi h=>by omega
 have two:∀ i,i<2->i=0\/i=1:=λi h=>by omega
 have G:∀ i,i<3->i=0\/i=1\/i=2:=λi h=>by omega
 have H:∀ i,i<4->i=0\/i=1\/i=2\/i=3:=λi h=>by omega
 rcases X with rfl|rfl|rfl|rfl|rfl|rfl|rfl|rfl|rfl|rfl
 ·refine⟨by simp[exN],by simp[exN],λi hi=>?_,λj E=>?_⟩
  ·rcases two i hi with rfl|rfl<;>exact Fy (of_decide_eq_true rfl) (of_decide_eq_true rfl) (by intro h;first|rfl|exact absurd rfl h) (of_decide_eq_true rfl) (of_decide_eq_true rfl)
  have E:j+1<2:=E;rcases one j (by omega) with rfl<;>rfl
 ·refine⟨by simp[exN],by simp[exN],λi hi=>?_,λj E=>?_⟩
  ·rcases two i hi with rfl|rfl<;>exact Fy (of_decide_eq_true rfl) (of_decide_eq_true rfl) (by intro h;first|rfl|exact absurd rfl h) (of_decide_eq_true rfl) (of_decide_eq_true rfl)
  have E:j+1<2:=E;rcases one j (by omega) with rfl<;>rfl
 ·refine⟨by simp[exN],by simp[exN],λi hi=>?_,λj E=>?_⟩
  ·rcases one i hi with rfl<;>exact Fy (of_decide_eq_true rfl) (of_decide_eq_true rfl) (by intro h;first|rfl|exact absurd rfl h) (of_decide_eq_true rfl) (of_decide_eq_true rfl)
  have E:j+1<1:=E;omega
 ·refine⟨by simp[exN],by simp[exN],λi hi=>?_,λj E=>?_⟩
  ·rcases H i hi with rfl|rfl|rfl|rfl<;>exact Fy (of_decide_eq_true rfl) (of_decide_eq_true rfl) (by intro h;first|rfl|exact absurd rfl h) (of_decide_eq_true rfl) (of_decide_eq_true rfl)
  have E:j+1<4:=E;rcases G j (by omega) with rfl|rfl|rfl<;>rfl
 ·refine⟨by simp[exN],by simp[exN],λi hi=>?_,λj E=>?_⟩
  ·rcases two i hi with rfl|rfl<;>exact Fy (of_decide_eq_true rfl) (of_decide_eq_true rfl) (by intro h;first|rfl|exact absurd rfl h) (of_decide_eq_true rfl) (of_decide_eq_true rfl)
  have E:j+1<2:=E;rcases one j (by omega) with rfl<;>rfl
 ·refine⟨by simp[exN],by simp[exN],λi hi=>?_,λj E=>?_⟩
  ·rcases G i hi with rfl|rfl|rfl<;>exact Fy (of_decide_eq_true rfl) (of_decide_eq_true rfl) (by intro h;first|rfl|exact absurd rfl h) (of_decide_eq_true rfl) (of_decide_eq_true rfl)
  have E:j+1<3:=E;rcases two j (by omega) with rfl|rfl<;>rfl
 ·refine⟨by simp[exN],by simp[exN],λi hi=>?_,λj E=>?_⟩
  ·rcases H i hi with rfl|rfl|rfl|rfl<;>exact Fy (of_decide_eq_true rfl) (of_decide_eq_true rfl) (by intro h;first|rfl|exact absurd rfl h) (of_decide_eq_true rfl) (of_decide_eq_true rfl)
  have E:j+1<4:=E;rcases G j (by omega) with rfl|rfl|rfl<;>rfl
 ·refine⟨by simp[exN],by simp[exN],λi hi=>?_,λj E=>?_⟩
  ·rcases one i hi with rfl<;>exact Fy (of_decide_eq_true rfl) (of_decide_eq_true rfl) (by intro h;first|rfl|exact absurd rfl h) (of_decide_eq_true rfl) (of_decide_eq_true rfl)
  have E:j+1<1:=E;omega
 ·refine⟨by simp[exN],by simp[exN],λi hi=>?_,λj E=>?_⟩
  ·rcases two i hi with rfl|rfl<;>exact Fy (of_decide_eq_true rfl) (of_decide_eq_true rfl) (by intro h;first|rfl|exact absurd rfl h) (of_decide_eq_true rfl) (of_decide_eq_true rfl)
  have E:j+1<2:=E;rcases one j (by omega) with rfl<;>rfl
 refine⟨by simp[exN],by simp[exN],λi hi=>?_,λj E=>?_⟩
 ·rcases G i hi with rfl|rfl|rfl<;>exact Fy (of_decide_eq_true rfl) (of_decide_eq_true rfl) (by intro h;first|rfl|exact absurd rfl h) (of_decide_eq_true rfl) (of_decide_eq_true rfl)
 have E:j+1<3:=E;rcases two j (by omega) with rfl|rfl<;>rfl
theorem CT (n:Nat):VRx (exQ n):=CU _ _ _ _ (Nat.mod_lt _ (by omega))
theorem LU (l:List UInt8):∀ p∈Cc l,∃ n lz,p=⟨exQ n,lz⟩:=λp E=>by
 unfold Cc at E;split at E
 ·rw[ϖ] at E;exact⟨1,Ε,E⟩
 obtain⟨y,_,rfl⟩:=Ϫ.1 E;exact⟨_,_,rfl⟩
theorem Wu (l:List UInt8):0<(Cc l).length/\(Cc l).length<=3:=by
 unfold Cc;split
 ·simp
 rw[ι,Ï];omega
theorem M5 (l:List UInt8):PatOk (Cc l):=by obtain⟨h1,T⟩:=Wu l;refine⟨h1,by omega,λi hi=>?_⟩;obtain⟨n,lz,e⟩:=LU l _ (Jb (d:=pN) hi);rw[e];refine⟨CT n,λr E=>?_⟩;obtain⟨d,G,H,X⟩:=R8 n E;exact⟨d,G,H.1,by omega⟩
def Dv:List Dfa->Option Dfa->Prop
 | [],r=>E4 (λw=>w=[]) r
 | [d],r=>r=I d
 | d::e::ds,r=>∃ q,Dv (e::ds) q/\Ek q (λx r=>Cx d x r) r
theorem Kq:∀ (ds:List Dfa) (_:∀ d∈ds,Cano d) {r:Dfa},Dv ds (I r)->Fit r (Bv ds)
 | [],_,r,⟨d,e,h1,E⟩=>by
  injection e with e
  subst e;exact⟨h1,E⟩
 | [d],hc,r,h=>by
  injection h with h
  subst h;exact⟨hc _ É,λw=>(Jt (wd1 r) w).symm⟩
 | d::e::ds,hc,r,⟨q,h1,E⟩=>by
  cases q with
  | none=>cases E
  | some q=>have G:=Kq (e::ds) (λx hx=>hc x (ç _ hx)) h1;have H:Cx d q (I r):=E;obtain⟨T,_⟩:=Io H (L:=wd1 d) (λ_=>Iff.rfl) (λw=>G.2 w);exact T
theorem Ut:∀ (ds:List Dfa) (_:∀ d∈ds,d.n.length<=64) {r:Dfa},Dv ds (I r)->Cano r->r.n.length<=64
 | [],_,r,⟨d,e,h1,E⟩,hc=>by
  injection e with e
  subst e;have:=Ia (d:=r) ⟨h1,E⟩;omega
 | [d],G,r,h,_=>by
  injection h with h
  subst h;exact G _ É
 | d::e::ds,G,r,⟨q,h1,E⟩,_=>by
  cases q with
  | none=>cases E
  | some q=>have H:Cx d q (I r):=E;exact (Io H (L:=wd1 d) (M:=wd1 q) (λ_=>Iff.rfl) (λ_=>Iff.rfl)).2
theorem GL {a b:Dfa} (E:Cano a) (hb:Cano b) (h1:a.n.length<=2) (G:b.n.length<=2) {r:Option Dfa} (h:Dv [a,b] r):∃ d,r=I d/\Fit d (Cat (wd1 a) (wd1 b)):=by obtain⟨q,H,T⟩:=h;have X:q=I b:=H;subst X;have aa:Cx a b r:=T;have hp:2 ^ b.n.length<=4:=μ (ϳ (by omega) G) (by decide);exact Ju aa ⟨E,λ_=>Iff.rfl⟩ ⟨hb,λ_=>Iff.rfl⟩ (μ (Nat.mul_le_mul h1 hp) (by decide)) λd hd=>by have:=Rt E.val hb.val G hd;omega
theorem Za (os:List Opt):∀ l:List (List Opt),Ar (l++[os])=(Ar l).flatMap λc=>os.map λo=>c++[o]
 | []=>by
  show os.flatMap (λo=>[[o]])=[[]].flatMap λc=>os.map λo=>c++[o]
  rw[List.flatMap_cons,List.flatMap_nil,List.append_nil];induction os with
  | nil=>rfl
  | cons o os E=>rw[List.flatMap_cons,E];rfl
 | a::l=>by
  show a.flatMap (λo=>(Ar (l++[os])).map (o::·))=(a.flatMap λo=>(Ar l).map (o::·)).flatMap λc=>os.map λo=>c++[o]
  rw[List.flatMap_assoc];refine congrArg (λf=>List.flatMap f a) (funext λo=>?_);rw[Za os l,List.flatMap_map,List.map_flatMap];refine congrArg (λf=>List.flatMap f (Ar l)) (funext λc=>?_);rw[List.map_map];rfl
theorem Ri (os:List Opt) (t:List (List Opt)):(Ar (os::t)).length=os.length*(Ar t).length:=by
 show (os.flatMap λo=>(Ar t).map (o::·)).length=_;induction os with
 | nil=>simp
 | cons o os E=>rw[List.flatMap_cons,Ν,E,ι,ϒ,Nat.succ_mul,Nat.add_comm]
theorem Rh (l:List (List Opt)) (os:List Opt):(Ar (l++[os])).length=(Ar l).length*os.length:=by
 induction l with
 | nil=>rw[Ú,Ri];show os.length*1=1*os.length;omega
 | cons a l E=>rw[List.cons_append,Ri,Ri,E,Nat.mul_assoc]
theorem Zb:∀ (l:List (List Opt)) (k:Nat),k<l.length->l.getD k []=[]->Ar l=[]
 | [],_,h,_=>absurd h (by simp)
 | os::t,0,_,h=>by have:os=[]:=h;subst this;rfl
 | os::t,k+1,h,he=>by have:=Zb t k (by simpa using h) (by simpa using he);show os.flatMap (λo=>(Ar t).map (o::·))=[];rw[this];simp
theorem LG {P n:Nat} (E:0<n):min (min P 257*n) 257=min (P*n) 257:=by
 by_cases h:P<=257
 ·rw[Nat.min_eq_left h]
 rw[Nat.min_eq_right (by omega:257<=P)];have h1:257<=257*n:=Nat.le_mul_of_pos_right 257 E;have G:P<=P*n:=Nat.le_mul_of_pos_right P E;rw[Nat.min_eq_right h1,Nat.min_eq_right (by omega)]
theorem BC:∀ (ps:List Pt) (L:List (List Opt)),L.length=ps.length->(∀ i,i<ps.length->OptsOf (ps.getD i ⟨dN,Ε⟩).lz (wd1 (ps.getD i ⟨dN,Ε⟩).d) (Bv ((ps.drop (i+1)).map (·.d))) (L.getD i []))->Er ps L
 | [],L,E,_=>(ϵ.1 E:L=[])
 | p::ps,[],E,_=>by cases E
 | p::ps,os::t,E,h=>by
  refine⟨os,t,rfl,h 0 (by simp),BC ps t (by simpa using E) λi hi=>?_⟩;have:=h (i+1) (by simpa using hi)
  simpa using this
def Gp (ps:List PtN) (ds:List Dfa):Prop:=(∃ i,i<=ds.length/\Dv (ds.drop i) J)\/(∃ i,i<ds.length/\∃ b,Dv (ds.drop (i+1)) (I b)/\(if (ps.getD i pN).lz=Α then Ir (ds.getD i dN) b else Is (ds.getD i dN) b))\/∃ l,Er (pts ps ds) l/\256<(Ar l).length
theorem Lm {n m:Nat} {x y:Bool} {ds:List Dfa} (h:DsOf [⟨exQ n,x⟩,⟨exQ m,y⟩] ds):∃ d0 d1,ds=[d0,d1]/\Fit d0 (exL (n % 10))/\Fit d1 (exL (m % 10)):=by
 have H:ds.length=2:=h.len
 match ds,H,h with
 | [d0,d1],_,h=>
  obtain⟨a,E,f0,_⟩:=R8 n (h.at_ 0 (by simp)).1;obtain⟨b,G,f1,_⟩:=R8 m (h.at_ 1 (by simp)).1;injection E with E
  injection G with G
  refine⟨d0,d1,rfl,?_,?_⟩
  ·have:d0=a:=E;rw[this];exact f0
  have:d1=b:=G;rw[this];exact f1
theorem Ug {d0 d1:Dfa} (f0:Fit d0 (exL 0)) (f1:Fit d1 (exL 1)) {x:Bool} {n m:List RNode} (hc:∀ l,Er (pts [⟨n,x⟩,⟨m,Ε⟩] [d0,d1]) l->(Ar l).length=1):¬ Gp [⟨n,x⟩,⟨m,Ε⟩] [d0,d1]:=by
 have h0:d0.n.length<=2:=Jy f0;have h1:d1.n.length<=2:=Jy f1;rintro (⟨i,hi,h⟩|⟨i,hi,b,hb,h⟩|⟨l,T,h⟩)
 ·have hi:i<=2:=hi;have:i=0\/i=1\/i=2:=by omega
  rcases this with rfl|rfl|rfl
  ·obtain⟨d,e,_⟩:=GL f0.1 f1.1 h0 h1 h;cases e
  ·have X:(J:Option Dfa)=I d1:=h;cases X
  obtain⟨d,e,_⟩:=h;cases e
 ·have hi:i<2:=hi;have:i=0\/i=1:=by omega
  rcases this with rfl|rfl
  ·have E:I b=I d1:=hb;injection E with E
   subst E;split at h
   ·exact Xh f0.1 f1.1 h0 h1 h
   exact Yd f0.1 f1.1 h0 h1 h
  obtain⟨e,he,G,h3⟩:=hb;injection he with he
  subst he;have H:=Ia (d:=b) ⟨G,h3⟩;split at h
  ·exact Xh f1.1 G h1 H h
  exact Yd f1.1 G h1 H h
 rw[hc l T] at h;omega
theorem GG {P:Ö} (w:Γ) (H sT ty elem:ϫ) (k b o T ae:Nat) (E:Option Addr) (X af N:Nat) (cs:List Δ)
  (hu:P.underlying H=I (.slice elem)) (hs:(P.info? elem).map (·.size)=I k) (hN:Nat.min X T=N) (hn:cs.length=N*k)
  (ah:∀ a,E=I a->∀ j v,cs[j]? = I v->w.cell? (a.add j)=I v) (ai:E=J->cs=[]) (hc:∀ j,j<cs.length->(w.cell? ⟨b,o+j,J⟩).isSome=Α) (hf:∀ j,j<cs.length->w.frozen? ⟨b,o+j,J⟩=Ε) (h1:∀ v∈cs,v.oneCell'=Α) :
  (Builtin.copy_ #[H,sT] ty #[U (I ⟨b,o,J⟩) T ae,U E X af]).run P w=.ok (goInt N) (w.setCells b o cs):=by
 have ak:=run_storeCells_cells (P:=P) b o cs 0 w (by simpa using hc) (by simpa using hf) h1;cases G:P.info? elem with
 | none=>simp[G] at hs
 | some i=>
  have hi:i.size=k:=by simpa [G] using hs
  cases E with
  | none=>obtain rfl:=ai rfl;simp[Builtin.copy_,run_underlying hu,Builtin.lenOf,Builtin.firstCells,sizeOf,typeInfo,G,hi,hN,storeCells,Γ.setCells]
  | some a=>have hl:=run_loadCells_list (P:=P) w a cs (ah a rfl);simp[Builtin.copy_,run_underlying hu,Builtin.lenOf,Builtin.firstCells,sizeOf,typeInfo,G,hi,hN,<-hn,hl,ak]
theorem S3 {P:Ö} {w:Γ} {ops:Array Ϭ} {rest:List Ϭ} {o:Ϭ} {a:ë} {Q:Exit->ë->Γ->Prop} (ae:o.guard=J) (d s:á) (H sT:ϫ)
  (ho:o.op=.call { callee:=.builtin .copy,args:=#[d,s],argTypes:=#[H,sT] }) (elem:ϫ) (k:Nat) (hu:P.underlying H=I (.slice elem)) (ag:(P.info? elem).map (·.size)=I k)
  (g E T ab:Nat) (G:Option Addr) (X ad N:Nat) (hd:a.eval d=U (I ⟨g,E,J⟩) T ab) (hs:a.eval s=U G X ad) (hN:Nat.min X T=N) (cs:List Δ) (hn:cs.length=N*k)
  (ak:∀ a,G=I a->∀ j v,cs[j]? = I v->w.cell? (a.add j)=I v) (an:G=J->cs=[]) (hc:∀ j,j<cs.length->(w.cell? ⟨g,E+j,J⟩).isSome=Α) (hf:∀ j,j<cs.length->w.frozen? ⟨g,E+j,J⟩=Ε) (h1:∀ v∈cs,v.oneCell'=Α)
  (h:wpList P ops Q rest (a.put o.dst (goInt N)) (w.setCells g E cs)):wpList P ops Q (o::rest) a w:=by
 refine wpList_plain ae λK hK=>?_
 have aq:=GG (P:=P) w H sT o.type elem k g E T ab G X ad N cs hu ag hN hn ak an hc hf h1;unfold Ϭ.wp;simp[execOp,ho,resolve,invoke,builtin,hd,hs,aq,Result.andThen];exact hK _ _ h
def HdO (W:Γ) (Bo:Nat) (v:Δ) (ds:List Dfa):Prop:=∃ xs:List Δ,W.ownsRow Bo 40 3 v ds.length xs/\∀ i,i<ds.length->OwnD W Bo (.agg #[xs.getD (i*3) δ,xs.getD (i*3+1) δ,xs.getD (i*3+2) δ]) (ds.getD i dN)
theorem HdO.ext {W W':Γ} {Bo:Nat} {v:Δ} {ds:List Dfa} (h:HdO W Bo v ds) (E:Ext W W'):HdO W' Bo v ds:=by obtain⟨xs,h1,G⟩:=h;exact⟨xs,Aa h1 E,λi hi=>(G i hi).ext E⟩
theorem HdO.nil (W:Γ) (Bo:Nat):HdO W Bo (U J 0 0) []:=⟨[],ϰ _ _ _ _,λi hi=>absurd hi (by simp)⟩
theorem HdO.keptT {W W':Γ} {Bo:Nat} {v:Δ} {ds:List Dfa} (h:HdO W Bo v ds) {b' s' m:Nat} {u:Δ} {ys:List Δ} (E:W.ownsRow b' 33 s' u m ys) (hg:W.grownBy W' u.ownBlock):HdO W' Bo v ds:=by obtain⟨xs,h1,G⟩:=h;exact⟨xs,h1.kept hg (Aj h1 E (by decide)),λi hi=>(G i hi).keptT E (by decide) hg⟩
theorem HdO.mk' {W:Γ} {Bo k:Nat} {v:Δ} {ds:List Dfa} {d:Dfa} {E xs:List Δ} {A:Array Δ} (H:ds.length=k) (X:E.length=(k+1)*3) (hx:xs.length=k*3) (hA:A.size=3) (ho:W.ownsRow Bo 40 3 v (k+1) (Dq (Dq E 0 xs) (k*3) A.toList))
  (h1:∀ i,i<k->OwnD W Bo (.agg #[xs.getD (i*3) δ,xs.getD (i*3+1) δ,xs.getD (i*3+2) δ]) (ds.getD i dN)) (h2:OwnD W Bo (.agg A) d):HdO W Bo v (ds++[d]):=by
 have G:A.toList.length=3:=by simpa using hA
 have ab:(Dq E 0 xs).length=(k+1)*3:=by rw[I0,X]
 refine⟨_,by rw[Ν,H];exact ho,λi hi=>?_⟩;rw[Ν,Ϥ,H] at hi;have T:∀ j,j<k*3->(Dq (Dq E 0 xs) (k*3) A.toList).getD j δ=xs.getD j δ:=λj hj=>by rw[I1 _ _ _ _ (by rw[ab,G];omega),if_neg (by omega),I1 _ _ _ _ (by rw[X,hx];omega),if_pos (by omega),Nat.sub_zero]
 have new:∀ o,o<3->(Dq (Dq E 0 xs) (k*3) A.toList).getD (k*3+o) δ=A.toList.getD o δ:=λo ho=>by rw[I1 _ _ _ _ (by rw[ab,G];omega),if_pos (by rw[G];omega),Nat.add_sub_cancel_left]
 by_cases e:i<k
 ·rw[B9 _ _ _ _ (by omega),T _ (by omega),T _ (by omega),T _ (by omega)];exact h1 i e
 obtain rfl:i=ds.length:=by omega
 rw[Dt,<-Nat.add_zero (ds.length*3),H,new 0 (by omega),Nat.add_zero,new 1 (by omega),new 2 (by omega)];have e:(#[A.toList.getD 0 δ,A.toList.getD 1 δ,A.toList.getD 2 δ]:Array Δ)=A:=by
  obtain⟨l⟩:=A
  match l,G with
  | [a,b,c],_=>rfl
 rw[e];exact h2
def CaO (W:Γ) (E Bo:Nat) (v:Δ) (cs:List (List Opt)):Prop:=∃ xs:List Δ,W.ownsRow E 33 2 v cs.length xs/\∀ i,i<cs.length->HdO W Bo (xs.getD (i*2) δ) ((cs.getD i []).map (·.head))/\HdO W Bo (xs.getD (i*2+1) δ) ((cs.getD i []).map (·.rest))
theorem CaO.ext {W W':Γ} {G Bo:Nat} {v:Δ} {cs:List (List Opt)} (h:CaO W G Bo v cs) (E:Ext W W'):CaO W' G Bo v cs:=by obtain⟨xs,h1,H⟩:=h;exact⟨xs,Aa h1 E,λi hi=>⟨(H i hi).1.ext E,(H i hi).2.ext E⟩⟩
theorem CaO.nil (W:Γ) (E Bo:Nat):CaO W E Bo (U J 0 0) []:=⟨[],ϰ _ _ _ _,λi hi=>absurd hi (by simp)⟩
theorem CaO.base {W:Γ} {E G Bo:Nat} {v:Δ} {cs:List (List Opt)} (h:CaO W E Bo v cs) (hb:G<=E):CaO W G Bo v cs:=by obtain⟨xs,h1,H⟩:=h;exact⟨xs,E9 h1 hb,H⟩
theorem CaO.one {W:Γ} {H Bo g:Nat} {E G:Δ} {c:List Opt} (T:W.ownsRow H 33 2 (U (I ⟨g,0,J⟩) 1 1) 1 [E,G]) (h1:HdO W Bo E (c.map (·.head))) (X:HdO W Bo G (c.map (·.rest))):CaO W H Bo (U (I ⟨g,0,J⟩) 1 1) [c]:=
 ⟨[E,G],T,λi hi=>by
  obtain rfl:i=0:=by simpa using hi
  exact⟨h1,X⟩⟩
theorem CaO.snoc {W W':Γ} {H Bo k g c:Nat} {v E G:Δ} {cs:List (List Opt)} {xs:List Δ} {co:List Opt} (T:cs.length=k) (h0:W.ownsRow H 33 2 v k xs) (h:∀ i,i<k->HdO W Bo (xs.getD (i*2) δ) ((cs.getD i []).map (·.head))/\HdO W Bo (xs.getD (i*2+1) δ) ((cs.getD i []).map (·.rest)))
  (hg:W.grownBy W' v.ownBlock) (ho:W'.ownsRow H 33 2 (U (I ⟨g,0,J⟩) (k+1) c) (k+1) (xs++[E,G])) (h1:HdO W Bo E (co.map (·.head))) (h2:HdO W Bo G (co.map (·.rest))):CaO W' H Bo (U (I ⟨g,0,J⟩) (k+1) c) (cs++[co]):=by
 have X:xs.length=k*2:=h0.1;refine⟨xs++[E,G],by rw[Ν,T];exact ho,λi hi=>?_⟩;rw[Ν,Ϥ,T] at hi;by_cases e:i<k
 ·have ap:∀ j,j<k*2->(xs++[E,G]).getD j δ=xs.getD j δ:=λj hj=>by rw[Ζ,ϊ (by omega),<-Ζ]
  rw[B9 _ _ _ _ (by omega),ap _ (by omega),ap _ (by omega)];exact⟨(h i e).1.keptT h0 hg,(h i e).2.keptT h0 hg⟩
 obtain rfl:i=k:=by omega
 have e1:(xs++[E,G]).getD (i*2) δ=E:=by rw[Ζ,χ (by omega),X,Nat.sub_self];rfl
 have e2:(xs++[E,G]).getD (i*2+1) δ=G:=by rw[Ζ,χ (by omega),X,show i*2+1-i*2=1 by omega];rfl
 have e3:(cs++[co]).getD i []=co:=by rw[<-T];exact Dt _ _ _
 rw[e1,e2,e3];exact⟨h1.keptT h0 hg,h2.keptT h0 hg⟩
def BS (W:Γ) (b o:Nat) (L:List (List Opt)):Prop:=∀ i,i<L.length->∃ u,W.cell? ⟨b,o+i,J⟩=I u/\OpsV W u (L.getD i [])
def CasV (W:Γ) (v:Δ) (cs:List (List Opt)):Prop:=∃ E Bo,CaO W E Bo v cs
theorem I8 {W:Γ} {base e size g n c:Nat} {xs:List Δ} (h:W.ownsRow base e size (U (I ⟨g,0,J⟩) n c) n xs) (o j:Nat) (E:o+j<n*size):(W.cell? ⟨g,o+j,J⟩).isSome=Α/\W.frozen? ⟨g,o+j,J⟩=Ε:=by have G:xs.length=n*size:=h.1;refine⟨?_,h.frozenAt _⟩;rw[h.cellAt _ E,Θ (by omega)];rfl
open Go
section
variable {P:Program} {ops:Array Oper} {Q:Exit->Act->World->Prop} {n:Nat}
def L8 (P:Ö) (ops:Array Ϭ) (Q:Exit->ë->Γ->Prop) (n:Nat) (F:Nat->Δ->Γ->Prop) (Ne:Nat->Nat->Δ->Δ->Prop) (a0:ë) (w1:Γ) (i:Nat):Prop:=
 ∀ o d,ops[i]? = I o->o.dst=I d->∀ a w,Ext w1 w->a.defers=a0.defers->a.tmps.size=a0.tmps.size->(∀ j oj dj,j<n->ops[j]? = I oj->oj.dst=I dj->(∃ e∈o.after,Region.binds .any e=Α/\e.on=j)->F j (a.tmps.getD dj δ) w)->(∀ e,(∀ j oj,j<n->ops[j]? = I oj->oj.dst≠I e)->a.tmps.getD e δ=a0.tmps.getD e δ)->(∀ j k oj ok dj E,j<n->k<n->j≠k->ops[j]? = I oj->ops[k]? = I ok->oj.dst=I dj->ok.dst=I E->(∃ e∈o.after,Region.binds .any e=Α/\e.on=j)->(∃ e∈o.after,Region.binds .any e=Α/\e.on=k)->Ne j k (a.tmps.getD dj δ) (a.tmps.getD E δ))->Ϡ o (yielded ops a.tmps)=Α/\o.wp P a w (λG w'=>∃ v,G=a.put (I d) v/\Ext w w'/\F i v w'/\∀ j u,j<n->j≠i->F j u w->Ne i j v u) Q
theorem QS {F:Nat->Δ->Γ->Prop} {Ne:Nat->Nat->Δ->Δ->Prop} (bb:∀ i j v u,Ne i j v u->Ne j i u v) (hF:∀ i v w w',F i v w->Ext w w'->F i v w') {a0:ë} {w1:Γ} {sz:Nat} (bd:a0.tmps.size=sz) (hd:Ey ops n sz=Α) {listed:Array Bool} {a:ë} {w:Γ} (X:FInvR ops n F Ne a0 w1 listed a w)
  {i:Nat} (hi:i∈Ϯ .any ops listed) (ax:i<n) (H:L8 P ops Q n F Ne a0 w1 i):∃ o,ops[i]? = I o/\Ϡ o (yielded ops a.tmps)=Α/\o.wp P a w (λa' w'=>FInvR ops n F Ne a0 w1 (listed.setIfInBounds i Α) a' w') Q:=by
 obtain⟨o,d,ho,ak,be,az⟩:=Il hd i ax;obtain⟨bf,o',an,au⟩:=ý.1 hi;rw[ho] at an;injection an with an
 subst an;have a1:i<listed.size:=by
  rcases Nat.lt_or_ge i listed.size with h|h
  ·exact h
  simp[Array.getElem?_eq_none h] at bf
 have hg:∀ j,(listed.setIfInBounds i Α).getD j Ε=Α->j=i\/listed.getD j Ε=Α:=λj G=>by
  by_cases e:i=j
  ·exact .inl e.symm
  rw[getD_set_ne Ε e] at G;exact .inr G
 obtain⟨hw,bh⟩:=H o d ho ak a w X.ext X.defers X.size (λj oj dj G E T ⟨e,he,hb,aw⟩=>X.done j oj dj G E T (by rw[<-aw];exact au e he hb)) (λe he=>X.rest e λj oj G E _=>he j oj G E) (λj k oj ok dj dk G hk ao E ae T af ⟨e,he,hb,aw⟩ ⟨e',bj,bk,bl⟩=>X.ne j k oj ok dj dk G hk ao E ae T af (by rw[<-aw];exact au e he hb) (by rw[<-bl];exact au e' bj bk));refine⟨o,ho,hw,Ϭ.wp_mono (λa' w' h=>?_) bh⟩;obtain⟨v,rfl,hE,hv,a7⟩:=h;have ar:d<a.tmps.size:=by rw[X.size,bd];exact be
 refine⟨X.ext.trans hE,X.defers,by rw[Ms];exact X.size,λj oj dj G E T ai=>?_,λe he=>?_,λj k oj ok dj dk G hk ao E ae T af ai a8=>?_⟩
 ·rw[D0 _ _ _ _ ar];by_cases e:j=i
  ·subst e;rw[ho] at E;injection E with E
   subst E;rw[ak] at T;injection T with T
   rw[if_pos T.symm];exact hv
  rw[if_neg (λh=>az j oj G e E (by rw[T,h]))];rcases hg j ai with h|h
  ·exact absurd h e
  exact hF _ _ _ _ (X.done j oj dj G E T h) hE
 ·rw[D0 _ _ _ _ ar];have bn:e≠d:=λh=>he i o ax ho (by simp[a1]) (by rw[ak,h])
  rw[if_neg bn];refine X.rest e λj oj G E ai=>he j oj G E ?_
  by_cases e':i=j
  ·subst e';simp[a1]
  rw[getD_set_ne Ε e'];exact ai
 rw[D0 _ _ _ _ ar,D0 _ _ _ _ ar];have aj:∀ j oj dj,j<n->ops[j]? = I oj->oj.dst=I dj->(j=i->dj=d)/\(j≠i->dj≠d):=λj oj dj G E T=>by
  constructor
  ·rintro rfl;rw[ho] at E;injection E with E
   subst E;rw[ak] at T;injection T with T
   exact T.symm
  intro e h;exact az j oj G e E (by rw[T,h])
 by_cases e1:j=i
 ·have e2:k≠i:=λh=>ao (by rw[e1,h])
  rw[if_pos ((aj j oj dj G E T).1 e1),if_neg ((aj k ok dk hk ae af).2 e2)];rcases hg k a8 with h|h
  ·exact absurd h e2
  rw[e1];exact a7 k _ hk e2 (X.done k ok dk hk ae af h)
 rw[if_neg ((aj j oj dj G E T).2 e1)];rcases hg j ai with h|ba
 ·exact absurd h e1
 by_cases e2:k=i
 ·rw[if_pos ((aj k ok dk hk ae af).1 e2)];rw[e2];exact bb _ _ _ _ (a7 j _ G e1 (X.done j oj dj G E T ba))
 rw[if_neg ((aj k ok dk hk ae af).2 e2)];rcases hg k a8 with h|bo
 ·exact absurd h e2
 exact X.ne j k oj ok dj dk G hk ao E ae T af ba bo
theorem QT {F:Nat->Δ->Γ->Prop} {Ne:Nat->Nat->Δ->Δ->Prop} (E:∀ i j v u,Ne i j v u->Ne j i u v) (G:∀ i v w w',F i v w->Ext w w'->F i v w') {a0:ë} {w1:Γ} {sz:Nat} (T:a0.tmps.size=sz) (hd:Ey ops n sz=Α) {listed:Array Bool} {a:ë} {w:Γ} (X:FInvR ops n F Ne a0 w1 listed a w)
  {i:Nat} (hi:i∈Ϯ .any ops listed) (aa:i<n) (H:L8 P ops Q n F Ne a0 w1 i):wpOp P ops Q i (λa' w'=>FInvR ops n F Ne a0 w1 (listed.setIfInBounds i Α) a' w') a w:=by
 obtain⟨o,ho,hw,h⟩:=QS E G T hd X hi aa H;unfold wpOp;rw[ho];simp only[hw,if_true];exact .inl h
theorem Yj {F:Nat->Δ->Γ->Prop} {Ne:Nat->Nat->Δ->Δ->Prop} (X:∀ i j v u,Ne i j v u->Ne j i u v) (hF:∀ i v w w',F i v w->Ext w w'->F i v w') {a0:ë} {w1:Γ} {sz g:Nat} (ab:a0.tmps.size=sz) (hd:Ey ops n sz=Α) (hs:Region.sinkB .any ops n=Α) (hc:Region.chainB .any ops n=Α) (hn:n<ops.size) (hE:Fg ops n=Α)
  (ag:∀ i,i<n->L8 P ops Q n F Ne a0 w1 i) (ah:∀ listed a w,HeadInv .any ops n listed->(∀ i,i<n->listed.getD i Ε=Α)->FInvR ops n F Ne a0 w1 listed a w->wpAny P .any ops Q g listed a w) :
  ∀ (f:Nat) (listed:Array Bool) (a:ë) (w:Γ),HeadInv .any ops n listed->FInvR ops n F Ne a0 w1 listed a w->unl n listed=f->wpAny P .any ops Q (f+g) listed a w
 | 0,listed,a,w,E,H,hu=>by rw[Ϣ];exact ah listed a w E (Hl n listed hu) H
 | f+1,listed,a,w,E,H,hu=>by
  obtain⟨k,hk,an,ao⟩:=Jg n listed (by omega);have T:=La hE E.size (by omega) k hk ao an;have aq:=(ý.1 T).1;rw[show f+1+g=(f+g)+1 by omega];refine⟨λh0=>(by rw[h0] at T;cases T),λi hi=>?_⟩;have G:i<n:=Nat.lt_of_not_le λh=>tail_waits hs hc hn E _ k rfl hk aq i h hi
  have aj:=(ý.1 hi).1;have ak:i<listed.size:=by rw[E.size];omega
  have ar:listed.getD i Ε=Ε:=by rw[Ϗ,ϗ ak] at aj ⊢;exact aj
  refine wpOp_mono (λa' w' h=>Yj X hF ab hd hs hc hn hE ag ah f _ a' w' (E.set hi G) h ?_) (QT X hF ab hd H hi G (ag i G));have:=Iu n listed i G ak ar;omega
theorem CG {id:Nat} {l:List Ϭ} {a0:ë} {w:Γ} (n sz:Nat) (hm:P.follows .mixedOrders=Α) (T:Ni l.toArray n sz=Α) (X:a0.tmps.size=sz) (F:Nat->Δ->Γ->Prop) (Ne:Nat->Nat->Δ->Δ->Prop) (af:∀ i j v u,Ne i j v u->Ne j i u v) (hF:∀ i v w w',F i v w->Ext w w'->F i v w')
  (ah:∀ i,i<n->L8 P l.toArray Q n F Ne a0 w.drew i) (ai:∀ (vs:Nat->Δ) (w':Γ),Ext w.drew w'->(∀ i,i<n->F i (vs i) w')->(∀ i j,i<n->j<n->i≠j->Ne i j (vs i) (vs j))->wpList P l.toArray Q (l.drop n) (Bm l.toArray vs n a0) w'):(Code.region id l.toArray Α).wp P Q a0 w:=by
 simp only[Ni,ς,decide_eq_true_eq] at T;obtain⟨⟨⟨⟨⟨hd,hs⟩,hc⟩,hn⟩,hE⟩,ab⟩:=T;refine wp_region_any hm ?_;have an:HeadInv .any l.toArray n (ä l.toArray.size Ε):=
  ⟨by simp,λj oj _ E=>(by rw[ϛ] at E;cases E),λt _ ht=>getD_in (by simpa using ht) (ϛ _ _)⟩
 have aq:FInvR l.toArray n F Ne a0 w.drew (ä l.toArray.size Ε) a0 w.drew:=
  ⟨Κ _,rfl,rfl,λi o d _ _ _ E=>(by rw[ϛ] at E;cases E),λd _=>rfl,λi j _ _ _ _ _ _ _ _ _ _ _ E=>(by rw[ϛ] at E;cases E)⟩
 have hu:∀ m,unl m (ä l.toArray.size Ε)=m:=λm=>by
  induction m with
  | zero=>rfl
  | succ m ih=>rw[Fj,ih,ϛ];simp
 have H:=Yj (P:=P) (Q:=Q) (g:=(l.drop n).length) af hF X hd hs hc hn hE ah (λlisted a w' G ad hI=>by
  obtain⟨vs,rfl,hv,aw⟩:=Qz X hd hI ad;have hL:listed=Ep l.toArray.size n:=by
   apply Array.ext
   ·rw[G.size];simp[Ep]
   intro i h1 h2;have h3:(Ep l.toArray.size n)[i]=decide (i<n):=by simp[Ep]
   rw[h3];by_cases hi:i<n
   ·have:=ad i hi;rw[Ϗ,ϗ h1] at this;simp only[Ç] at this;rw[this];simp[hi]
   have:=G.tail i (by omega) (by rw[<-G.size];exact h1);rw[Ϗ,ϗ h1] at this;simp only[Ç] at this;rw[this];simp[hi]
  have az:l.toArray.size-n=(l.drop n).length:=by simp
  rw[az] at ab;exact wpAny_of_seq (l.drop n) n listed _ w' (λj=>by simp[List.getElem?_drop]) (by rw[hL];exact ab) (ai vs w' hI.ext hv aw)) n _ a0 w.drew an aq (hu n)
 have e:n+(l.drop n).length=l.toArray.size:=by
  have:n<l.length:=by simpa using hn
  simp;omega
 rw[e] at H;exact H
theorem He {F:Nat->Δ->Γ->Prop} {Ne:Nat->Nat->Δ->Δ->Prop} {a0:ë} {w1:Γ} {i:Nat} (o:Ϭ) (d:Tmp) (h0:ops.toList[i]? = I o) (hd:o.dst=I d) (hg:o.guard=J)
  (H:∀ a w,Ext w1 w->(∀ j dj,Gj ops n i j dj=Α->F j (a.tmps.getD dj δ) w)->(∀ e,M0 ops n e=Α->a.tmps.getD e δ=a0.tmps.getD e δ)->(∀ j k dj T,j≠k->Gj ops n i j dj=Α->Gj ops n i k T=Α->Ne j k (a.tmps.getD dj δ) (a.tmps.getD T δ))->
   o.wp P a w (λa' w'=>∃ v,a'=a.put (I d) v/\Ext w w'/\F i v w'/\∀ j u,j<n->j≠i->F j u w->Ne i j v u) Q):L8 P ops Q n F Ne a0 w1 i:=by
 intro o' d' X aa a w hE _ _ ah ai aj;rw[<-Ϲ,h0] at X;injection X with X
 subst X;rw[hd] at aa;injection aa with aa
 subst aa;have ad:∀ j dj,Gj ops n i j dj=Α->j<n/\∃ oj,ops[j]? = I oj/\oj.dst=I dj/\∃ e∈o.after,Region.binds .any e=Α/\e.on=j:=λj dj h=>by
  unfold Gj at h;simp only[ς,decide_eq_true_eq] at h;obtain⟨⟨G,h1⟩,h2⟩:=h;cases E:ops[j]? with
  | none=>rw[E] at h1;cases h1
  | some oj=>
   rw[E] at h1;obtain⟨oi,ab,e,he,hb,an⟩:=Region.waitsFor_spec h2;rw[<-Ϲ,h0] at ab;injection ab with ab
   subst ab;exact⟨G,oj,rfl,of_decide_eq_true h1,e,he,hb,an⟩
 refine⟨by simp[Ϡ,hg],H a w hE (λj dj h=>?_) (λe h=>ai e λj oj G E=>?_) (λj k dj T ao h h'=>?_)⟩
 ·obtain⟨G,oj,E,ae,he⟩:=ad j dj h;exact ah j oj dj G E ae he
 ·unfold M0 at h;rw[List.all_eq_true] at h;have:=h j (List.mem_range.2 G);rw[E] at this
  simpa using this
 obtain⟨G,oj,E,ae,he⟩:=ad j dj h;obtain⟨hk,ok,au,aw,ax⟩:=ad k T h';exact aj j k oj ok dj T G hk ao E au ae aw he ax
end
end Go.Proofs.YtilncahcpjlfnaaGreatDoor
