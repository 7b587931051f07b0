import Derived.Laws.CopyOwn
import Derived.Test.YtilncahcpjlfnaaGreatDoorM12
import Derived.Test.YtilncahcpjlfnaaGreatDoorM06
import Derived.Test.YtilncahcpjlfnaaGreatDoorM10
import Derived.Test.YtilncahcpjlfnaaGreatDoorM03
import Derived.Test.YtilncahcpjlfnaaGreatDoorM08
import Derived.Test.YtilncahcpjlfnaaGreatDoorM02
import Derived.Test.YtilncahcpjlfnaaGreatDoorM05
import Derived.Test.YtilncahcpjlfnaaGreatDoorM09
set_option linter.unusedVariables false
set_option linter.unusedSimpArgs false
set_option maxRecDepth 100000
set_option maxHeartbeats 8000000
open Bool renaming false → Ε, true → Α
open Go renaming World → Γ, TypeId → ϡ, Value → Δ, Operand → Ñ, maxLen → ϐ, undef → Ω, Calls → ϛ, info_parts → ϓ, heap_alloc2_new → ϒ, cell_of_row → Τ, wpList_make_full → Ϟ, wpList_store_row → ë, setRow_heap → Χ, wpList_append_lies → Ϙ, cell_one_new → Ý, frozen_of_row → È, setCell_eq_setRow → Ϭ, bodyPost_ret → ω, results_cell_row → Ì
open Go.Act renaming eval → á, put → η
open Go.Ending renaming returned → Ψ
open Go.IntKind renaming i64 → Φ, u64 → ζ
open Go.Lib renaming hid → Z
open Go.Obj renaming cells → Β
open Go.Operand renaming tmp → δ
open Go.Proofs.Tryz renaming prog → Η, underlying54 → Ϥ, underlying38 → ä, underlying40 → Ο, underlying91 → ϋ, underlying96 → Ù
open Go.RowKit renaming Hid → ϟ
open Go.Value renaming tuple → ϗ, slice → U, oneCell' → ξ, bool → ϊ, slice → Ϗ, pointer → ε
open Go.World renaming size_alloc → Ρ, ownsRow_lit → Á, ownsRow_nil → À
open List renaming getD_eq_getElem?_getD → Ζ, getElem?_eq_getElem → Ι, getElem?_map → ν, replicate → θ, map_append → ϩ, take_of_length_le → ß, length_map → ι, length_cons → ϑ, mem_map → ϴ, getElem?_eq_some_iff → ο, getElem?_toArray → Ã, nil_append → ã, setIfInBounds_toArray → Θ, set_cons_zero → Μ, set_cons_succ → Λ, length_append → Ν, length_eq_zero_iff → ϭ, mem_cons_self → Ð, length_take → Ö
open List.cons renaming injEq → ì
open Nat renaming le_refl → Υ, lt_of_lt_of_le → Ξ, zero_add → ϖ, le_of_eq → Ô, le_trans → μ, pow_le_pow_right → Ϲ
open Option renaming none → I, some → J
namespace Go.Proofs.YtilncahcpjlfnaaGreatDoor
open Go.RowKit Go.Shelf Go.WideMaps
open Go.Maps (Keyed)
theorem Ub {κ:Type} [DecidableEq κ] {W:Γ} {k:ϡ} {key:κ->Δ} {b n:Nat} {f:κ->Option Δ} {ops:Array Oper} {rest:List Oper} {o:Oper} {a:Act} {Q:Exit->Act->Γ->Prop} (hg:o.guard=I) (m x v:Ñ) (t:ϡ) (E:o.op=Op.mapUpdate t m x v) (G:Keyed Η k) {e:ϡ} (H:Η.underlying t=J (.map k e)) (hm:a.eval m=.map (J b)) (h:IsMv W k key b n f) (T:n<ϐ)
  (X:∀ y z,key y=key z->y=z) (y:κ) (hx:a.eval x=key y) (hl:∃ l,keyOf Η k (key y)=J l) (i:Δ) (hv:a.eval v=i)
  (hK:∀ W',IsMv W' k key b (n+1) (λz=>if z=y then J i else f z)->W.grownBy W' (J b)->wpList Η ops Q rest (a.put o.dst Ω) W'):wpList Η ops Q (o::rest) a W:=
 wpList_plain hg λ_ ad=>Xv E G H hm h T X y hx hl i hv λW' h1 h2=>ad _ _ (hK W' h1 h2)
theorem Fh {W:Γ} {base e size n:Nat} {v:Δ} {xs:List Δ} (h:W.ownsRow base e size v n xs) {g:Nat} {cs:Array Δ} {t:ϡ} {fr:Nat × Nat} (hg:W.heap[g]? = J (Β cs t fr)) (G:t≠e):J g≠v.ownBlock:=λE=>by
 rcases B3 h hg G with h1|h1
 ·rw[h1] at E;cases E
 exact h1 E.symm
theorem IM {a:Dfa} {q m:Nat} (E:(a.n.getD q []).length=m):(List.range m).map (λz=>a.ent2 q z+1)=shR (a.n.getD q []):=by
 unfold shR Dfa.ent2;generalize a.n.getD q []=r at *;refine List.ext_getElem (by simp[E]) λi h1 G=>?_
 have hi:i<r.length:=by simpa using G
 simp[Ζ,Ι hi]
theorem Ig {α:Type} (l:List α) (i:Nat) (d:α) (h:i<l.length):l.take (i+1)=l.take i++[l.getD i d]:=by rw[List.take_succ_eq_append_getElem h,Ζ,Ι h];rfl
theorem Zr {l:List (List Nat)} {q:Nat} (E:q<l.length):(l.map shR).getD q []=shR (l.getD q []):=by rw[Ζ,ν,Ι E,Ζ,Ι E];rfl
theorem SJ {a:Dfa} {s:Nat} (E:Val a) (G:s<a.n.length) {r:Option Dfa} (h:Dc (λu=>(Az a.cls (bhN a s) (Ε::a.acc)).has u=Α) r):Dc (Ds a s) r:=by
 have e:(λu=>(Az a.cls (bhN a s) (Ε::a.acc)).has u=Α)=Ds a s:=funext λu=>propext (XY E G u)
 rwa [e] at h
theorem X6 {l:List Nat} {j:Nat} (h:j<l.length):(l.map iv)[j]? = J (iv (l.getD j 0)):=by rw[ν,Ζ,Ι h];rfl
theorem Kq (b o j:Nat):(⟨b,o,I⟩:Addr).add j=⟨b,o+j,I⟩:=by
 unfold Addr.add;split
 ·rename_i h;rw[h];rfl
 rfl
theorem Y6 (y z:Nat) (e:iv y=iv z):y=z:=by
 injection e with _ e
 omega
theorem ColOut.form {W:Γ} {e:Ending} {L:List Cls} {E:List (List Nat)} {ρ:Nat->Option Dfa} (h:ColOut W e L E ρ):∃ v k,e=Ψ (ϗ #[v,.int Φ k]):=by
 rcases h with⟨_,v,h,_⟩|⟨h,_⟩
 ·exact⟨_,_,h⟩
 exact⟨_,_,h⟩
def GreOut (W:Γ) (e:Ending) (a b:Dfa):Prop:=
 (∃ os v,e=Ψ (ϗ #[v,.int Φ 0])/\OptsOf Ε (wd1 a) (wd1 b) os/\(os.length<=65536/\∀ o∈os,o.head.n.length<=64/\o.rest.n.length<=64)/\OpsV W v os)\/
 (e=Ψ (ϗ #[U I 0 0,.int Φ 2])/\I7 a b)
theorem SG (a b:Dfa) (ha:Cano a) (hb:Cano b) (kf:a.n.length<=64) (kg:b.n.length<=64) (va vb:Δ) (w:Γ) (hT:Tab w) (de:0<w.heap.size) (fm:IsD w va a) (fp:IsD w vb b) :
  ϛ Η 30 #[va,vb] w λe w'=>GreOut w' e a b/\Ext w w':=by
 have ef:=Z (λW (hW:Ext w W)=>hT.below hW.below de);have aa:=Z ha;have kj:=Z hb;have eg:=Z fm;have fq:=Z fp;have kk:=Z kg;obtain⟨G,H,T,bn,on,cn,ba,oa,ca,rfl,hC,hR,km⟩:=fm.opened ha.val;obtain⟨n2,n3,n4,n5,n9,ob,od,oe,rfl⟩:=fp.agg;have HC:=Z hC;have HR:=Z hR;have HA:=Z km;have og:=ha.val.pos;have fx:=ha.val.parts.pos;have oh:=ha.val.parts.le;obtain⟨i0,hi,kq,fy,kr⟩:=ϓ Dw;obtain⟨j0,hj,oo,oq,ot⟩:=ϓ Fi;obtain⟨k0,hk,oy,oz,o2⟩:=ϓ L6;obtain⟨n,eh⟩:=Xq (a.n.length);obtain⟨m,cp⟩:=Xq (a.cls.length);have HN:=Z eh;have HM:=Z cp;rw[eh] at kf og HR HA eg;rw[cp] at fx oh HR HC eg;rw[eh,cp];clear hT ha hb fm fp hC hR km eh cp kg;obtain⟨Va,df⟩:=Xq (dA (U (J ⟨G,H,I⟩) m T) (U (J ⟨bn,on,I⟩) n cn) (U (J ⟨ba,oa,I⟩) n ca));obtain⟨Vb,ej⟩:=Xq (dA (U n2 n3 n4) (U n5 b.n.length n9) (U ob od oe));have rj:(Η.info? 40).map (·.size)=J Va.size:=by rw[<-df];exact Ae
 have kt:(Η.info? 40).map (·.size)=J Vb.size:=by rw[<-ej];exact Ae
 have ek:=Z df;rw[df] at eg;rw[ej] at fq;rw[df,ej];clear df ej;have fz:=((Κ w).alloc (Β Va 40)).alloc (Β Vb 40);have H2:=Ah (Ad w (Β Va 40)) (Β Vb 40);have H3:=ϒ w (Β Va 40) (Β Vb 40);have cq:((w.alloc (Β Va 40)).alloc (Β Vb 40)).heap.size=w.heap.size+1+1:=by rw[Ρ,Ρ]
 have cp:=@run_makeMap Η;go_enter Tryz.func30,Tryz.ntmps30;go_upto_region 1 with (fail)
 obtain⟨w0,be⟩:=Xq ((w.alloc (Β Va 40)).alloc (Β Vb 40));rw[be] at fz H2 H3 cq;simp only[be];clear be;have ao:=Z fz;have gb:=Z (λV (hV:Ext w0 V)=>(Τ V w.heap.size 0 _ _ _ (hV.heap H2)).trans (show Va[0]? = J (U (J ⟨G,H,I⟩) m T) by rw[<-ek.o];rfl));have ku:=Z (λV (hV:Ext w0 V)=>(Τ V w.heap.size 1 _ _ _ (hV.heap H2)).trans (show Va[1]? = J (U (J ⟨bn,on,I⟩) n cn) by rw[<-ek.o];rfl));have kv:=Z (λV (hV:Ext w0 V)=>(Τ V w.heap.size 2 _ _ _ (hV.heap H2)).trans (show Va[2]? = J (U (J ⟨ba,oa,I⟩) n ca) by rw[<-ek.o];rfl));have kx:=Z (λV (hV:Ext w0 V)=>hV.heap H3);clear H2 H3 fz;have bf:=Rl w0 3 iv;rw[cq] at bf;have en:=(Κ w0).alloc (.map #[] 0);have eo:w0.heap.size<(w0.alloc (.map #[] 0)).heap.size:=by rw[Ρ];omega
 rw[cq] at eo;go_upto_region 2 with (fail)
 clear cp;obtain⟨w1,ep⟩:=Xq (w0.alloc (.map #[] 0));obtain⟨bm,gd⟩:=Xq (w.heap.size+1+1);have rl:w0.heap.size<=bm:=by rw[cq,gd];exact Υ _
 rw[ep,gd] at bf eo;rw[ep] at en;simp only[ep,cq,gd];clear ep cq;have k2:=kv.o w1 en;go_wp2_with (fail);clear k2;go_loopw [23] (λi W=>∃ (s cnt:Nat) (f:Nat->Option Δ) (ρ:Nat->Option Dfa),s<=n/\cnt<=s/\i=iv s/\Ext w0 W/\bm<W.heap.size/\IsMv W 3 iv bm cnt f/\ϟ (MpD W f ρ)/\ϟ (GRho a b s ρ))
  (λi _=>n-(intOf i).toNat)
 case atStart=>exact⟨0,0,_,_,by omega,Υ _,rfl,en,eo,bf,Z (Xw w1),Z (SR a b)⟩
 clear en eo bf;obtain⟨s,cnt,f,ρ,hs,rn,rfl,hE,ky,bf,gf,HG⟩:=hrel;by_cases kz:s<n
 ·have ks:=(ao.o.t hE).cell (HA.o s kz);have rp:(s:Int)<(n:Int):=by omega
  cases cv:a.ok s with
  | false=>
   have cw:=Z cv;rw[cv] at ks;clear cv;go_wp2_with (fail);go_roundw
   case rel=>exact⟨s+1,cnt,f,ρ,by omega,by omega,by go_num,hE,ky,bf,gf,Z (SS HG.o cw.o)⟩
   simp[intOf]<;>omega
  | true=>
   have cw:=Z cv;rw[cv] at ks;clear cv;have et:=gb.o wr hE;obtain⟨wS,o3⟩:∃ W,W=wr:=⟨_,rfl⟩;subst o3;go_upto_region 7 with (at_make;refine Ϟ _ rfl _ _ 54 rfl wS.heap.size 3 i0 (.int Φ 0) 1 Ϥ hi kq fy Φ Φ _ _ m rfl rfl rfl rfl (by rw[kr];omega) (by unfold ϐ;omega) (Υ _) ?_;intro E gj gk)
   clear ks et;have cy:=hE.grown gk (λk e=>by cases e);have gl:=(Κ wS).grown gk (λk e=>by cases e);have eu:E.ownsRow wS.heap.size 3 1 (U (J ⟨wS.heap.size,0,I⟩) m m) m ((θ m 0).map iv):=by rw[<-B8];exact gj
   have gm:wS.heap.size<E.heap.size:=(gj.lt _ rfl).2;clear gj gk;obtain⟨B,hB⟩:=Xq (wS.heap.size);have HB:=Z hB;rw[hB] at eu gm;simp only[hB];clear hB;have et:=gb.o E cy;have ew:=Z (Tn (J ⟨G,H,I⟩) (J ⟨E.heap.size,0,I⟩) m 1 T 1);go_upto_region 8 with (first
    | (refine Bk rfl 128 _ rfl #[U (J ⟨G,H,I⟩) m T,U (J ⟨E.heap.size,0,I⟩) 1 1] ?_ ?_;(simp[á];with_reducible exact ew.o))
    | (refine ë rfl 128 (δ 10) (δ 38) rfl _ _ rfl rfl _ _ (ϒ E (Β #[U (J ⟨B,0,I⟩) m m] 54) (Β #[U I 0 0,U I 0 0] 128)) Fv rfl (by simp[ξ]) ?_))
   clear et ew;have dg:=((Κ E).alloc (Β #[U (J ⟨B,0,I⟩) m m] 54)).alloc (Β #[U I 0 0,U I 0 0] 128);have gq:((E.alloc (Β #[U (J ⟨B,0,I⟩) m m] 54)).alloc (Β #[U I 0 0,U I 0 0] 128)).ownsRow B 54 1 (U (J ⟨E.heap.size,0,I⟩) 1 1) 1 [U (J ⟨B,0,I⟩) m m]:=
    Aa (Á (base:=B) (e:=54) (size:=1) E #[U (J ⟨B,0,I⟩) m m] 1 (by omega) (by unfold ϐ;omega) rfl) ((Κ _).alloc _)
   have ey:=ϒ E (Β #[U (J ⟨B,0,I⟩) m m] 54) (Β #[U I 0 0,U I 0 0] 128);have gu:=Cc ((E.alloc (Β #[U (J ⟨B,0,I⟩) m m] 54)).alloc (Β #[U I 0 0,U I 0 0] 128)) (E.heap.size+1) #[U (J ⟨G,H,I⟩) m T,U (J ⟨E.heap.size,0,I⟩) 1 1];have gv:=(Aa eu dg).kept gu (B3 (Aa eu dg) ey (by decide));have ez:=gq.kept gu (B3 gq ey (by decide));have gw:=(cy.t dg).setRow (show w0.heap.size<=E.heap.size+1 by have:=cy.size;omega) #[U (J ⟨G,H,I⟩) m T,U (J ⟨E.heap.size,0,I⟩) 1 1];have gx:=(gl.t dg).setRow (show wS.heap.size<=E.heap.size+1 by have:=gl.size;omega) #[U (J ⟨G,H,I⟩) m T,U (J ⟨E.heap.size,0,I⟩) 1 1];have cz:=Χ _ _ _ #[U (J ⟨G,H,I⟩) m T,U (J ⟨E.heap.size,0,I⟩) 1 1] _ _ ey;clear dg gq ey gu eu cy gl;obtain⟨w3,gy⟩:=Xq (((E.alloc (Β #[U (J ⟨B,0,I⟩) m m] 54)).alloc (Β #[U I 0 0,U I 0 0] 128)).setRow (E.heap.size+1) #[U (J ⟨G,H,I⟩) m T,U (J ⟨E.heap.size,0,I⟩) 1 1]);rw[gy] at gv ez gw gx cz;simp only[gy];clear gy;obtain⟨o4,gz⟩:=Xq (E.heap.size);rw[gz] at ez gm cz;simp only[gz];clear gz;obtain⟨X,hf⟩:=Xq (o4+1);have rq:B<X:=by omega
   rw[hf] at cz;simp only[hf];clear hf gm;go_upto_region 9 with (fail)
   have e0:(w3.alloc (Β #[.bool Ε] 4)).ownsRow B 4 1 (U (J ⟨w3.heap.size,0,I⟩) 1 1) 1 [.bool Ε]:=Á (base:=B) (e:=4) (size:=1) w3 #[.bool Ε] 1 (by have:=Al cz;omega) (by unfold ϐ;omega) rfl;have hh:=gw.alloc (Β #[.bool Ε] 4);have hn:=gx.alloc (Β #[.bool Ε] 4);have hp:=gv.alloc (Β #[.bool Ε] 4);have ht:=ez.alloc (Β #[.bool Ε] 4);have hy:=Z (Ah cz (Β #[.bool Ε] 4));obtain⟨w4,hz⟩:=Xq (w3.alloc (Β #[.bool Ε] 4));obtain⟨rr,h4⟩:=Xq (w3.heap.size);rw[hz] at e0 hh hn hp ht hy;rw[h4] at e0;simp only[hz,h4];clear hz h4 gw gx gv ez cz;have k1:=ku.o w4 hh;go_wp2_with (fail);clear k1;have aq:=Z hE;go_loopw [11,43] (λvA i W=>∃ (q aN cN aA cA:Nat) (vs:List Δ),q<=n/\vA=U (J ⟨aA,0,I⟩) (q+1) cA/\i=iv q/\Ext wS W/\ϟ (W.heap[X]? = J (Β #[U (J ⟨G,H,I⟩) m T,U (J ⟨aN,0,I⟩) (q+1) cN] 128 (0,0)))/\W.ownsRow B 54 1 (U (J ⟨aN,0,I⟩) (q+1) cN) (q+1) (U (J ⟨B,0,I⟩) m m::vs)/\W.ownsRow B 4 1 (U (J ⟨aA,0,I⟩) (q+1) cA) (q+1) ((Ε::a.acc.take q).map ϊ)/\W.ownsRow B 3 1 (U (J ⟨B,0,I⟩) m m) m ((θ m 0).map iv)/\ϟ (RowsO W B vs ((a.n.take q).map shR) (λo=>o=J B)))
    (λ_ i _=>n-(intOf i).toNat)
   case atStart=>exact⟨0,_,_,_,_,[],by omega,rfl,rfl,hn,hy,ht,e0,hp,Z ⟨rfl,λj hj=>absurd hj (by simp)⟩⟩
   clear hn hy ht e0 hp hh;obtain⟨q,aN,cN,aA,cA,vs,hq,rfl,rfl,c3,H2,hX,hA,hF,e1⟩:=hrel;have e2:=aq.o.t c3;by_cases dn:q<n
   ·have rv:(q:Int)<(n:Int):=by omega
    obtain⟨br,or',cr,k5,k9⟩:=HR.o q dn;have o8:=(ao.o.t e2).cell k5;have o9:=Z (λV (hV:Ext w0 V) k (h5:k<m)=>(ao.o.t hV).cell (k9 k h5));have pa:=Z (λk (h5:k<m)=>show a.ent2 q k<n by rw[<-HN.o];exact aa.o.val.tgt q (by rw[HN.o];exact dn) k (by rw[HM.o];exact h5));clear k5 k9;obtain⟨wq,pb⟩:∃ W,W=wr:=⟨_,rfl⟩;subst pb;have pc:B<=wq.heap.size:=by rw[<-HB.o];exact c3.size
    go_upto_region 13 with (at_make;refine Ϟ _ rfl _ _ 54 rfl wq.heap.size 3 i0 (.int Φ 0) 1 Ϥ hi kq fy Φ Φ _ _ m rfl rfl rfl rfl (by rw[kr];omega) (by unfold ϐ;omega) (Υ _) ?_;intro w5 lb bk)
    clear o8;have h6:=e2.grown bk (λk e=>by cases e);have lf:=c3.grown bk (λk e=>by cases e);have lg:=Bz hX bk;have lh:=Bz hA bk;have lj:=Bz hF bk;have e3:=(bk.block X (Al H2.o) (by simp)).trans H2.o;have e4:w5.ownsRow wq.heap.size 3 1 (U (J ⟨wq.heap.size,0,I⟩) m m) m ((Cv (λz=>a.ent2 q z+1) m 0).map iv):=by rw[Mc,<-B8];exact lb
    have h7:=((Κ wq).grown bk (λk e=>by cases e)).grownBy (J wq.heap.size);have pd:B<wq.heap.size:=(hF.lt _ rfl).2;have lk:wS.heap.size<=wq.heap.size:=c3.size;have h8:w0.heap.size<=wq.heap.size:=e2.size;have ia:=Z (λV (hV:wq.grownBy V (J wq.heap.size))=>e1.o.kept hV (λv l ho _=>by
     cases hb:v.ownBlock with
     | none=>exact .inl rfl
     | some k=>exact .inr (λe=>by
       injection e with e
       have:=(ho.lt k hb).2;omega)))
    obtain⟨gn,c4⟩:=Xq (wq.heap.size);rw[c4] at e4 h7 pd lk h8 ia;simp only[c4];clear c4 lb bk e1 hX hA hF H2 c3 e2 pc;have ib:=Z lg;have ic:=Z lh;have ie:=Z lj;have e5:=Z e4;clear lg lh lj;go_wp2_with (fail);go_loopw [53] (λi W=>∃ k:Nat,k<=m/\i=.int Φ k/\w5.grownBy W (J gn)/\W.ownsRow gn 3 1 (U (J ⟨gn,0,I⟩) m m) m ((Cv (λz=>a.ent2 q z+1) m k).map iv))
     (λi _=>m-(intOf i).toNat)
    case atStart=>exact⟨0,by omega,rfl,Γ.grownBy.refl _ _,e4⟩
    clear e4;obtain⟨k,ry,rfl,hg,hX⟩:=hrel;by_cases e6:k<m
    ·have ll:=h6.grown hg (λk e=>by cases e;exact h8);have ct:wr.cell? ⟨br,or'+k,I⟩=J (iv (a.ent2 q k)):=o9.o wr ll k e6;have r4:=pa.o k e6;have co:=Au 0 hX (E1 _ _ _).symm k (by rw[E1];exact e6);have fo:=hX.frozenAt k;obtain⟨ig,ln⟩:=Ba hX k (a.ent2 q k+1);rw[J6 (λz=>a.ent2 q z+1) _ _ e6] at ig;have c4:=hg.trans ln;have r6:(k:Int)<(m:Int):=by omega
     clear ln ll hg hX;generalize a.ent2 q k=x at *;have r7:(x:Int)<(n:Int):=by omega
     have pe:((x+1:Nat):Int)=(x:Int)+1:=by omega
     simp only[iv,pe] at c4 ig;go_wp2_with (fail);go_roundw
     case rel=>exact⟨k+1,by omega,by go_num,c4,ig⟩
     simp[intOf]<;>omega
    obtain rfl:m=k:=by omega
    have lo:=h7.trans hg;have b6:=h6.grown hg (λk e=>by cases e;exact h8);have ih:=lf.grown hg (λk e=>by cases e;exact lk);have ak:=ib.o.kept hg (Aj ib.o e5.o (by decide));have dp:=ic.o.kept hg (Aj ic.o e5.o (by decide));have dq:=ie.o.kept hg (Cd ie.o (by omega));have lp:=ia.o wr lo;have bo:=(hg.block X (Al e3) (Fh e5.o e3 (by decide))).trans e3;have lq:OwnI wr B (U (J ⟨gn,0,I⟩) m m) (shR (a.n.getD q [])):=by
     have hr:(a.n.getD q []).length=m:=by rw[<-HM.o];exact aa.o.val.row q (by rw[HN.o];exact dn)
     have h1:=Ff hX (show B<=gn by omega);rw[Ok,IM hr] at h1;show wr.ownsRow B 3 1 _ (shR (a.n.getD q [])).length _;rw[M7,hr];exact h1
    have e7:=HB.o;have r8:w0.heap.size<=B:=by rw[<-e7];exact aq.o.size
    clear lo h7 hg hX ib ic ie e5 ia e3 h6 lf;have k6:wr.cell? ⟨X,1,I⟩=J (U (J ⟨aN,0,I⟩) (q+1) cN):=Τ wr X 1 _ _ _ bo;have dr:=Z lp;have ij:=Z lq;have ik:=Z dp;have il:=Z dq;have c5:=Z b6;have lu:=Z ih;have pg:B<=wr.heap.size:=by rw[<-e7];exact ih.size
    clear lp lq dp dq b6 ih;go_upto_region 19 with (at_builtin;refine Ϙ _ rfl _ _ 37 rfl B 54 k0 (U I 0 0) 1 24 Tryz.underlying37 hk oy oz o2 rfl (by decide) (U (J ⟨aN,0,I⟩) (q+1) cN) _ _ rfl (ak.alloc _) _ 1 1 [U (J ⟨gn,0,I⟩) m m] rfl rfl (Ý _ _ _) (by simp[ξ]) (by decide) (by unfold ϐ;omega) (by omega) (by rw[Ρ];omega) _ rfl ?_;intro g7 c7 w7 im bp _ _;have au:=(bp.block X (Ξ (Al bo) (by rw[Ρ];omega)) (Fh ak bo (by decide))).trans (Ah bo _);have k7:w7.cell? ⟨X,1,I⟩=J (U (J ⟨aN,0,I⟩) (q+1) cN):=Τ w7 X 1 _ _ _ au;have f7:=È w7 X 1 _ _ au)
    rw[Ϭ w7 _ _ _ _ _ _ au];have c6:=Cc w7 X (#[U (J ⟨G,H,I⟩) m T,U (J ⟨g7,0,I⟩) (q+1+1) c7]);have al:=(Κ wr).alloc (Β #[Ϗ (J ⟨gn,0,I⟩) m m] 54);have c8:∀ k,(Ϗ (J ⟨aN,0,I⟩) (q+1) cN).ownBlock=J k->B<=k:=λk e=>(ak.lt k e).1
    have aw:=((c5.o.t al).grown bp (λk e=>by have:=c8 k e;omega)).setRow (show w0.heap.size<=X by omega) (#[U (J ⟨G,H,I⟩) m T,U (J ⟨g7,0,I⟩) (q+1+1) c7]);have e8:=((lu.o.t al).grown bp (λk e=>by have:=c8 k e;omega)).setRow (show wS.heap.size<=X by omega) (#[U (J ⟨G,H,I⟩) m T,U (J ⟨g7,0,I⟩) (q+1+1) c7]);have ir:=(Aa ik.o al).kept bp (Aj (Aa ik.o al) (Aa ak al) (by decide));have iu:=(Aa il.o al).kept bp (Aj (Aa il.o al) (Aa ak al) (by decide));have iw:=(Aa ij.o al).kept bp (Aj (Aa ij.o al) (Aa ak al) (by decide));have lv:=(dr.o.alloc (Β #[Ϗ (J ⟨gn,0,I⟩) m m] 54)).kept bp (λv l ho _=>Aj ho (Aa ak al) (by decide));have a8:=ir.kept c6 (B3 ir au (by decide));have ix:=iu.kept c6 (B3 iu au (by decide));have iy:=iw.kept c6 (B3 iw au (by decide));have iz:=im.kept c6 (B3 im au (by decide));have ja:=lv.kept c6 (λv l ho _=>B3 ho au (by decide));have b9:=Χ w7 X _ (#[U (J ⟨G,H,I⟩) m T,U (J ⟨g7,0,I⟩) (q+1+1) c7]) _ _ au;clear c8 al bp c6 k7 f7 au ir iu iw lv im ak ik il ij dr c5 lu k6 bo pg;obtain⟨w8,cb⟩:=Xq (w7.setRow X (#[U (J ⟨G,H,I⟩) m T,U (J ⟨g7,0,I⟩) (q+1+1) c7]));have lx:w7.setRow X ((#[U (J ⟨G,H,I⟩) m T,U (J ⟨aN,0,I⟩) (q+1) cN]:Array Δ).setIfInBounds 1 (U (J ⟨g7,0,I⟩) (q+1+1) c7))=w8:=cb;rw[lx];rw[cb] at aw e8 a8 ix iy iz ja b9;clear cb lx;have pj:=kv.o w8 aw;have pk:=(ao.o.t aw).cell (HA.o q dn);have pn:B<=w8.heap.size:=by rw[<-e7];exact e8.size
    generalize ly:a.ok q=e9 at *;have l2:=Z ly;clear ly;have l3:=Z ja;have jb:=Z iy;have jc:=Z ix;have jd:=Z iz;have l4:=Z e8;have b9:=Z b9;clear ja iy ix iz e8 aw;go_upto_region 20 with (at_builtin;refine Ϙ _ rfl _ _ 38 rfl B 4 j0 (.bool Ε) 1 1 ä hj oo oq ot rfl (by decide) (U (J ⟨aA,0,I⟩) (q+1) cA) _ _ rfl (a8.alloc _) _ 1 1 [.bool e9] rfl rfl (Ý _ _ _) (by simp[ξ]) (by decide) (by unfold ϐ;omega) (by omega) (by rw[Ρ];omega) _ rfl ?_;intro g9 c9 w9 l6 cd _ _)
    have al:=(Κ w8).alloc (Β #[ϊ e9] 4);have c8:∀ k,(Ϗ (J ⟨aA,0,I⟩) (q+1) cA).ownBlock=J k->B<=k:=λk e=>(a8.lt k e).1
    have po:=(l4.o.t al).grown cd (λk e=>by have:=c8 k e;omega);have pq:=(Aa jd.o al).kept cd (Aj (Aa jd.o al) (Aa a8 al) (by decide));have pr:=(Aa jc.o al).kept cd (Aj (Aa jc.o al) (Aa a8 al) (by decide));have l7:=(Aa jb.o al).kept cd (Aj (Aa jb.o al) (Aa a8 al) (by decide));have l8:=(l3.o.alloc (Β #[ϊ e9] 4)).kept cd (λv l ho _=>Aj ho (Aa a8 al) (by decide));have pt:=Z ((cd.block X (Al (al.heap b9.o)) (Fh (Aa a8 al) (al.heap b9.o) (by decide))).trans (al.heap b9.o));have l9:=Z (l8.snoc l7 (λe=>by have e':J gn=J B:=e;injection e' with e';omega));have je:q<a.n.length:=by rw[HN.o];exact dn
    rw[show[shR (a.n.getD q [])]=[a.n.getD q []].map shR from rfl,<-ϩ,<-Ig _ _ _ je] at l9;have px:w9.ownsRow B 4 1 (U (J ⟨g9,0,I⟩) (q+1+1) c9) (q+1+1) ((Ε::a.acc.take (q+1)).map ϊ):=by rw[Ig a.acc q Ε (by rw[aa.o.val.accL];exact je)];have e:a.acc.getD q Ε=e9:=l2.o;rw[e,<-List.cons_append,ϩ];exact l6
    clear al c8 cd l6 a8 jd jc jb l3 l4 b9 l8 l7 pj pk pn je l2;go_wp2_with (fail);go_roundw
    case rel=>exact⟨q+1,g7,c7,g9,c9,_,by omega,rfl,by go_num,po,pt,pq,px,pr,l9⟩
    simp[intOf]<;>omega
   obtain rfl:n=q:=by omega
   have fa:ϟ (RowsO wr B vs (a.n.map shR) (λo=>o=J B)):=by have h:=e1;rw[ß (by rw[HN.o];exact Υ _)] at h;exact h
   have jf:wr.ownsRow B 4 1 (U (J ⟨aA,0,I⟩) (n+1) cA) (n+1) ((Ε::a.acc).map ϊ):=by rw[ß (by rw[aa.o.val.accL,HN.o];exact Υ _)] at hA;exact hA
   have e7:=HB.o;have jg:vs.length=n:=by rw[fa.o.1,ι,HN.o]
   have bt:s<a.n.length:=by rw[HN.o];exact kz
   have mc:OwnI wr B (vs.getD s Ω) (shR (a.n.getD s [])):=by have h:=(fa.o.2 s (by rw[ι];exact bt)).1;rw[Zr bt] at h;exact h
   have cf:(shR (a.n.getD s [])).length=m:=by rw[M7,<-HM.o];exact aa.o.val.row s bt
   obtain⟨gs,os,cs,ji,jj⟩:=â (mc.ints (by rw[cf];omega)) (by rw[cf];exact fx);rw[cf] at ji jj;have k1:wr.cell? ⟨X,1,I⟩=J (U (J ⟨aN,0,I⟩) (n+1) cN):=Τ wr X 1 _ _ _ H2.o;have k2:wr.cell? ⟨aN,s+1,I⟩=J (U (J ⟨gs,os,I⟩) m cs):=by have h:=C7 hX (s+1) (by rw[ϑ,jg];omega);rw[List.getD_cons_succ,ji] at h;exact h
   obtain⟨C,dt,py⟩:=Ek hF;obtain⟨R,hR⟩:=Xq ((shR (a.n.getD s [])).map iv);have du:R.length=m:=by rw[<-hR,ι,cf]
   have me:∀ v∈R,v.oneCell'=Α:=λv hv=>by rw[<-hR] at hv;obtain⟨x,_,rfl⟩:=ϴ.1 hv;rfl
   have jk:∀ j,j<m->R[j]? = J (iv ((shR (a.n.getD s [])).getD j 0)):=λj hj=>by rw[<-hR];exact X6 (by rw[cf];exact hj)
   have mf:∀ j v,R[j]? = J v->wr.cell? ((⟨gs,os,I⟩:Addr).add j)=J v:=λj v hj=>by
    have pz:j<m:=by rw[<-du];exact (ο.1 hj).1
    rw[jk j pz] at hj;rw[<-hj];rw[Kq];exact jj j (by omega)
   obtain⟨w6,fb⟩:=Xq (wr.setRow B ((C.toList.take 0++(R++C.toList.drop (0+R.length))).toArray));have r9:(s:Int)+1<(n:Int)+1:=by omega
   have db:wr.grownBy w6 (J B):=by rw[<-fb];exact Cc _ _ _
   have jl:w6.heap[B]? = J (Β ((C.toList.take 0++(R++C.toList.drop (0+R.length))).toArray) 3 (0,0)):=by rw[<-fb];exact Χ wr B _ _ _ _ dt
   have dq:Ints w6 (U (J ⟨B,0,I⟩) m m) (shR (a.n.getD s [])):=by
    unfold Ints;rw[cf];refine⟨by omega,.inr ⟨fx,B,0,m,rfl,Al jl,λi hi=>?_⟩⟩;rw[Τ w6 B (0+i) _ _ _ jl];have mg:i<m:=by omega
    rw[show 0+i=i by omega,Ã,List.take_zero,ã,List.getElem?_append_left (by rw[du];exact mg)];exact jk i mg
   have b6:=c3.grown db (λk e=>by injection e;omega);have ak:=hX.kept db (B3 hX dt (by decide));have dp:=jf.kept db (B3 jf dt (by decide));have dr:=fa.o.kept db (λv l ho p0=>.inr p0);have bo:=Z ((db.block X (Al H2.o) (λe=>by injection e;omega)).trans H2.o);have dv:IsW w6 #[U (J ⟨G,H,I⟩) m T,U (J ⟨aN,0,I⟩) (n+1) cN] a.cls (bhN a s):=by
    refine⟨_,_,rfl,HC.o.ext (ao.o.t (aq.o.t b6)),⟨U (J ⟨B,0,I⟩) m m::vs,by rw[Hu,ϑ,jg,HN.o],?_,λi hi=>?_⟩⟩
    ·have h:=Sl.of_owns ak (by omega) Ω;rw[Hu,HN.o];exact h
    rw[Hu] at hi;cases i with
    | zero=>exact dq
    | succ i=>rw[Tv (by omega),List.getD_cons_succ];have h:=(dr.2 i (by rw[ι];omega)).1;rw[Zr (by omega)] at h;exact h.ints (by rw[M7,aa.o.val.row i (by omega),HM.o];omega)
   have mh:Bools w6 (U (J ⟨aA,0,I⟩) (n+1) cA) (Ε::a.acc):=by
    have hl:(Ε::a.acc).length=n+1:=by rw[ϑ,aa.o.val.accL,HN.o]
    have h9:OwnB w6 B (U (J ⟨aA,0,I⟩) (n+1) cA) (Ε::a.acc):=by show w6.ownsRow B 4 1 _ (Ε::a.acc).length _;rw[hl];exact dp
    exact h9.bools (by rw[hl];omega)
   have jm:=ao.o.t (aq.o.t b6);have mj:=Z (Qz a.cls (bhN a s) (Ε::a.acc) (XZ aa.o.val bt) (by rw[Hu,HN.o];omega) _ _ w6 (ef.o w6 jm) (Ξ de jm.size) dv mh);have c5:=Z b6;have ml:0+R.length<=C.size:=by rw[du];omega
   have mm:R.length=Nat.min m m:=by rw[du];exact (Nat.min_self m).symm
   have p2:(Η.info? 3).map (·.size)=J 1:=by rw[hi];exact congrArg J fy
   have mo:=Z me;have mq:=Z mf;clear dv mh dr dp ak dq jl db jk ji jj mc cf fa jf jg me mf du hR b6 jm py e1 hX hA hF;go_upto_region 22 with (with_reducible refine wpList_copy_own rfl (δ 79) (δ 85) 54 54 rfl 3 Ϥ p2 B 0 m m ⟨gs,os,I⟩ m cs rfl rfl C 3 dt R mm mq.o ml mo.o ?_;rw[fb])
   clear k1 k2 ml mm mo mq fb dt;go_upto_region 23 with (first
    | (refine Lr 128 (δ 10) bo.o Tryz.underlying128 Fv ?_)
    | (go_at_call 55;(with_reducible refine mj.o.mono ?_);rintro e w7 ⟨r1,an,dw,mr⟩;obtain⟨mu,mv,mw,my,mz,na,nb,nc,nd,k1,rfl⟩:=an.form;have bu:=Z an;have nf:=Z (SJ aa.o.val bt dw);have jn:=Z mr;clear an dw mr)
    | (refine Sr 40 (δ 17) (δ 91) rfl (Ad w7 (Β #[U I 0 0,U I 0 0,U I 0 0] 40)) Ae rfl (Av _ _ _ rfl rfl rfl) ?_))
   clear mj;obtain⟨jo,dx⟩:=Dv w7 (dA (U mu mv mw) (U my mz na) (U nb nc nd));have fc:=Z (bu.o.ext jo);have aw:=(c5.o.t jn.o).trans jo;obtain⟨D1,dz⟩:=Xq (dA (U mu mv mw) (U my mz na) (U nb nc nd));have p3:(Η.info? 40).map (·.size)=J D1.size:=by rw[<-dz];exact Ae
   have sa:D1.all (·.oneCell')=Α:=by rw[<-dz];exact Av _ _ _ rfl rfl rfl
   have p4:ϟ (D1.size=3):=Z (by rw[<-dz];rfl);simp only[dz] at dx aw fc ⊢;obtain⟨w8,cb⟩:=Xq ((w7.alloc (Β #[U I 0 0,U I 0 0,U I 0 0] 40)).setRow w7.heap.size D1);rw[cb] at dx aw fc;simp only[cb];have jq:B<=w7.heap.size:=by have:=(c5.o.t jn.o).size;omega
   obtain⟨g9,jr⟩:=Xq (w7.heap.size);rw[jr] at dx jq;simp only[jr];clear cb jr jo c5 jn bu bo;have js:=Z dx;have jt:=Z aw;have ea:=ao.o.t (aq.o.t aw);have ng:=Z jq;clear dx aw dz jq;cases r1 with
   | none=>obtain⟨rfl,-⟩:=fc.o.none_inv;have p5:Big (Ds a s):=nf.o;have HW:=Z (show I7 a b from⟨s,bt,cw.o,.inl p5⟩);go_wp2_with (fail);go_ret2;exact⟨.inr ⟨rfl,HW.o⟩,ea⟩
   | some m1=>
    obtain⟨rfl,bz⟩:=fc.o.some_inv;obtain⟨ju,nh,jv⟩:Cano m1/\(∀ u,m1.has u=Α↔Ds a s u)/\m1.n.length<=64:=nf.o;have jw:=Z ju;have jx:=Z nh;have ni:=Z jv;have f37:=Z (Ka m1 b ju.val kj.o.val jv kk.o (.agg D1) (.agg Vb) w8 (ef.o w8 ea) (Ξ de ea.size) bz (fq.o.ext ea));have nj:=kx.o w8 (aq.o.t jt.o);have p6:=Z bz;clear ju nh jv bz;go_upto_region 25 with (first
     | (refine Lr 40 (δ 17) js.o Ο p3 ?_)
     | (refine Lr 40 (δ 3) nj Ο kt ?_)
     | (go_at_call 18;(with_reducible refine f37.o.mono ?_);rintro e w9 ⟨r2,an,nl,jy⟩;obtain⟨p7,p8,p9,qa,qb,qc,qd,qe,qf,k2,rfl⟩:=an.form;have bu:=Z an;have nm:=Z nl;have jz:=Z jy;have fe:=Z (jy.heap js.o);clear an nl jy)
     | (refine Sr 40 (δ 17) (δ 99) rfl fe.o Ae p4.o (Av _ _ _ rfl rfl rfl) ?_))
    clear f37 nj;obtain⟨D2,dc⟩:=Xq (dA (U p7 p8 p9) (U qa qb qc) (U qd qe qf));have qg:(Η.info? 40).map (·.size)=J D2.size:=by rw[<-dc];exact Ae
    have sb:D2.all (·.oneCell')=Α:=by rw[<-dc];exact Av _ _ _ rfl rfl rfl
    have qh:ϟ (D2.size=3):=Z (by rw[<-dc];rfl);have nn:ϟ (ResOf w9 (Ψ (ϗ #[.agg D2,.int Φ k2])) r2):=by rw[<-dc];exact bu
    simp only[dc];have ff:=(jt.o.t jz.o).setRow (show wS.heap.size<=g9 by have:=ng.o;omega) D2;have dd:=Χ w9 g9 _ D2 _ _ fe.o;have cg:=Z (λ(d':Dfa) (j1:Val d') (h:IsD w9 (.agg D2) d')=>h.setBx j1 (.inr ⟨m1,jw.o.val,p6.o.ext jz.o⟩) fe.o D2);obtain⟨j2,j3⟩:=Xq (w9.setRow g9 D2);rw[j3] at ff dd cg;simp only[j3];clear j3 jz fe js jt bu dc;have j4:=Z ff;have dd:=Z dd;have ed:=ao.o.t (aq.o.t ff);clear ff ea;cases r2 with
    | none=>obtain⟨rfl,-⟩:=nn.o.none_inv;have HW:=Z (show I7 a b from⟨s,bt,cw.o,.inr ⟨m1,jw.o,ni.o,jx.o,.inl nm.o⟩⟩);go_wp2_with (fail);go_ret2;exact⟨.inr ⟨rfl,HW.o⟩,ed⟩
    | some c=>
     obtain⟨rfl,np⟩:=nn.o.some_inv;obtain⟨fg,j5⟩:=I3 nm.o (L:=wd1 m1) (M:=wd1 b) (λ_=>Iff.rfl) (λ_=>Iff.rfl);have j6:=cg.o c fg.1.val np;have j7:=Z fg;have qi:=Z j5;have f149:=Z (Xx b c kj.o.val fg.1.val kk.o j5 (.agg Vb) (.agg D2) j2 (ef.o j2 ed) (Ξ de ed.size) (fq.o.ext ed) j6);have nq:=kx.o j2 (aq.o.t j4.o);have qj:=Z j6;clear fg j5 np j6 cg;go_upto_region 27 with (first
      | (refine Lr 40 (δ 17) dd.o Ο qg ?_)
      | (refine Lr 40 (δ 3) nq Ο kt ?_)
      | (go_at_call 56;(with_reducible refine f149.o.mono ?_);rintro e fh ⟨r3,an,dw,j8⟩;obtain⟨qk,ql,qm,qo,qp,qq,qs,qt,qu,k3,rfl⟩:=an.form;have bu:=Z an;have ns:=Z dw;have j9:=Z j8;have fj:=Z (j8.heap dd.o);clear an dw j8)
      | (refine Sr 40 (δ 17) (δ 107) rfl fj.o Ae qh.o (Av _ _ _ rfl rfl rfl) ?_))
     clear f149 nq;obtain⟨D3,bz⟩:=Xq (dA (U qk ql qm) (U qo qp qq) (U qs qt qu));have qv:(Η.info? 40).map (·.size)=J D3.size:=by rw[<-bz];exact Ae
     have nt:ϟ (ResOf fh (Ψ (ϗ #[.agg D3,.int Φ k3])) r3):=by rw[<-bz];exact bu
     simp only[bz];have b4:=(j4.o.t j9.o).setRow (show wS.heap.size<=g9 by have:=ng.o;omega) D3;have fk:=Χ fh g9 _ D3 _ _ fj.o;have cg:=Z (λ(d':Dfa) (j1:Val d') (h:IsD fh (.agg D3) d')=>h.setBx j1 (.inr ⟨c,j7.o.1.val,qj.o.ext j9.o⟩) fj.o D3);obtain⟨sc,ka⟩:=Xq (fh.setRow g9 D3);rw[ka] at b4 fk cg;simp only[ka];clear ka j9 fj dd j4 bu bz;have fk:=Z fk;have qw:=ao.o.t (aq.o.t b4);clear ed;cases r3 with
     | none=>obtain⟨rfl,-⟩:=nt.o.none_inv;have HW:=Z (show I7 a b from⟨s,bt,cw.o,.inr ⟨m1,jw.o,ni.o,jx.o,.inr ⟨c,j7.o,qi.o,ns.o⟩⟩⟩);clear b4;go_wp2_with (fail);go_ret2;exact⟨.inr ⟨rfl,HW.o⟩,qw⟩
     | some d=>
      obtain⟨rfl,nu⟩:=nt.o.some_inv;obtain⟨kb,nv,nw⟩:Cano d/\(∀ u,d.has u=Α↔(b.has u=Α/\¬ c.has u=Α))/\d.n.length<=64:=ns.o;have ny:=cg.o d kb.val nu;have qx:=Z ny;have qy:=Z (ST HG.o cw.o kb nw (λv=>(nv v).trans (SI jx.o j7.o.2 v)));have fl:=bf.ext b4;have qz:=Z (gf.o.ext b4);have q4:=aq.o.t b4;have q5:=Ξ ky b4.size;have q6:=Rn s (by omega);clear kb nv nw nu ny b4 cg;go_wp2_with (first
       | (refine Lr 40 (δ 17) fk.o Ο qv ?_)
       | (refine Ub rfl (δ 112) (δ 113) (δ 114) 126 rfl N7 Tryz.underlying126 rfl fl (by unfold ϐ;omega) Y6 s rfl q6 (.agg D3) rfl ?_;intro sd q7 ee))
      have q8:=q4.grown ee (λk e=>by injection e with e;omega);have q9:=Z ((qz.o.keptm ee fl.block).put s (qx.o.keptm ee fl.block));have ra:=Ξ q5 ee.size;clear ee fl;go_roundw
      case rel=>exact⟨s+1,cnt+1,_,_,by omega,by omega,by go_num,q8,ra,q7,q9,qy⟩
      simp[intOf]<;>omega
 obtain rfl:n=s:=by omega
 have et:=gb.o wr hE;have se:=ku.o wr hE;have n0:WVal a.cls a.n (θ a.n.length Ε):=⟨aa.o.val.pos,by simp,aa.o.val.row,aa.o.val.tgt,aa.o.val.parts⟩;have kc:GRho a b a.n.length ρ:=by rw[HN.o];exact HG.o
 have be:=ao.o.t hE;have dv:IsW wr #[U (J ⟨G,H,I⟩) m T,U (J ⟨bn,on,I⟩) n cn] a.cls a.n:=by
  obtain⟨vc,vn,re,hv,h1,h2,-⟩:=eg.o.ext be;rw[<-ek.o] at hv;injection hv with hv
  have hv:(#[U (J ⟨G,H,I⟩) m T,U (J ⟨bn,on,I⟩) n cn,U (J ⟨ba,oa,I⟩) n ca]:Array Δ)=#[vc,vn,re]:=hv;simp only[Array.mk.injEq,ì,and_true] at hv;obtain⟨rfl,rfl,-⟩:=hv;exact⟨_,_,rfl,h1,h2⟩
 have f150:=Z (AS a.cls a.n n0 (by rw[HN.o];omega) _ bm cnt f ρ (SV kc) (λx hx=>aa.o.reach x hx) wr (ef.o wr be) (Ξ de be.size) dv bf (λx _=>gf.o x));have rf:=Z kc;have ew:=Z (Tn (J ⟨G,H,I⟩) (J ⟨bn,on,I⟩) m n T cn);clear n0 kc dv;go_wp2_with (first
  | (refine Bk rfl 128 _ rfl #[U (J ⟨G,H,I⟩) m T,U (J ⟨bn,on,I⟩) n cn] ?_ ?_;(simp[á];with_reducible exact ew.o))
  | (go_at_call 57;(with_reducible refine f150.o.mono ?_);rintro e E ⟨ke,cy⟩;obtain⟨v2,k2,rfl⟩:=ke.form;have rh:=Z ke;clear ke))
 go_ret2;refine⟨?_,be.trans cy⟩;rcases rh.o with⟨os,v,he,h1,h2,h3⟩|⟨he,d,hb⟩
 ·exact .inl ⟨os,v,he,SU aa.o.val rf.o h1,h2,h3⟩
 exact absurd hb (SF aa.o.val (by rw[HN.o];exact kf) ρ d)
open Go.RowKit Go.Shelf
theorem XE (a E:Option Addr) (n c G H:Nat):Η.built 40 [(0,U a n c),(2,U E G H)]=J #[U a n c,U I 0 0,U E G H]:=by kernel_rfl
def Ta (bx E m n:Nat) (L:List Cls) (A:List Bool) (vc T:Δ):Nat->Δ->Γ->Prop
 | 0,v,_=>v=ε (J ⟨bx,0,I⟩)
 | 1,v,_=>v=vc
 | 2,v,W=>∃ g c,v=U (J ⟨g,0,I⟩) m c/\W.ownsRow E 91 4 v m (Cm L)
 | 3,v,_=>v=ε (J ⟨bx,2,I⟩)
 | 4,v,_=>v=T
 | 5,v,W=>∃ g c,v=U (J ⟨g,0,I⟩) n c/\W.ownsRow E 4 1 v n (A.map ϊ)
 | 6,v,W=>∃ G c1 H c2,v=.agg #[U (J ⟨G,0,I⟩) m c1,U I 0 0,U (J ⟨H,0,I⟩) n c2]/\W.ownsRow E 91 4 (U (J ⟨G,0,I⟩) m c1) m (Cm L)/\W.ownsRow E 4 1 (U (J ⟨H,0,I⟩) n c2) n (A.map ϊ)
 | _,v,W=>∃ g,v=ε (J ⟨g,0,I⟩)/\W.heap[g]? = J (Β #[U I 0 0,U I 0 0,U I 0 0] 40 (0,0))/\E<=g
theorem WB (bx T m n:Nat) (L:List Cls) (A:List Bool) (vc X:Δ):∀ (i:Nat) (v:Δ) (w w':Γ),Ta bx T m n L A vc X i v w->Ext w w'->Ta bx T m n L A vc X i v w'
 | 0,_,_,_,h,_=>h
 | 1,_,_,_,h,_=>h
 | 2,_,_,_,⟨g,c,h1,G⟩,E=>⟨g,c,h1,Aa G E⟩
 | 3,_,_,_,h,_=>h
 | 4,_,_,_,h,_=>h
 | 5,_,_,_,⟨g,c,h1,G⟩,E=>⟨g,c,h1,Aa G E⟩
 | 6,_,_,_,⟨g1,c1,g2,c2,h1,G,H⟩,E=>⟨g1,c1,g2,c2,h1,Aa G E,Aa H E⟩
 | _+7,_,_,_,⟨g,h1,G,H⟩,E=>⟨g,h1,E.heap G,H⟩
def OwnD (W:Γ) (Bo:Nat) (v:Δ) (d:Dfa):Prop:=∃ vc E G vs,v=.agg #[vc,E,G]/\W.ownsRow Bo 91 4 vc d.cls.length (Cm d.cls)/\W.ownsRow Bo 54 1 E vs.length vs/\RowsO W Bo vs d.n (λ_=>False)/\W.ownsRow Bo 4 1 G d.acc.length (d.acc.map ϊ)
theorem OwnD.ext {W W':Γ} {Bo:Nat} {v:Δ} {d:Dfa} (h:OwnD W Bo v d) (E:Ext W W'):OwnD W' Bo v d:=by obtain⟨vc,G,H,vs,T,h1,X,h3,h4⟩:=h;exact⟨vc,G,H,vs,T,Aa h1 E,Aa X E,h3.kept (E.grownBy I) (λv l _ _=>by cases v.ownBlock<;>simp),Aa h4 E⟩
theorem OwnD.keptT {W W':Γ} {Bo:Nat} {v:Δ} {d:Dfa} (h:OwnD W Bo v d) {b' s' m:Nat} {E:ϡ} {u:Δ} {ys:List Δ} (G:W.ownsRow b' E s' u m ys) (he:91≠E/\54≠E/\3≠E/\4≠E) (hg:W.grownBy W' u.ownBlock):OwnD W' Bo v d:=by obtain⟨vc,X,va,vs,hv,h1,H,h3,T⟩:=h;exact⟨vc,X,va,vs,hv,h1.kept hg (Aj h1 G he.1),H.kept hg (Aj H G he.2.1),h3.kept hg (λv l hl _=>Aj hl G he.2.2.1),T.kept hg (Aj T G he.2.2.2)⟩
theorem OwnD.row {W:Γ} {Bo:Nat} {v:Δ} {d:Dfa} (h:OwnD W Bo v d) {g:Nat} {cs G:Array Δ} {t:ϡ} {fr:Nat × Nat} (hg:W.heap[g]? = J (Β cs t fr)) (he:t≠91/\t≠54/\t≠3/\t≠4):OwnD (W.setRow g G) Bo v d:=by obtain⟨vc,X,va,vs,hv,h1,H,h3,T⟩:=h;have E:=Cc W g G;exact⟨vc,X,va,vs,hv,h1.kept E (B3 h1 hg he.1),H.kept E (B3 H hg he.2.1),h3.kept E (λv l hl _=>B3 hl hg he.2.2.1),T.kept E (B3 T hg he.2.2.2)⟩
theorem OwnD.base {W:Γ} {Bo G:Nat} {v:Δ} {d:Dfa} (h:OwnD W Bo v d) (hb:G<=Bo):OwnD W G v d:=by obtain⟨vc,T,X,vs,hv,h1,h2,E,h4⟩:=h;exact⟨vc,T,X,vs,hv,Ff h1 hb,Ff h2 hb,⟨E.1,λj H=>⟨Ff (E.2 j H).1 hb,(E.2 j H).2⟩⟩,Ff h4 hb⟩
theorem OwnD.isD {W:Γ} {Bo:Nat} {v:Δ} {d:Dfa} (h:OwnD W Bo v d) (E:Val d) (hn:d.n.length<=64):IsD W v d:=by
 obtain⟨vc,H,G,vs,rfl,h1,T,X,h4⟩:=h;have hm:=E.parts.le;refine⟨vc,H,G,rfl,?_,X.rows T (by omega) (λj hj=>by rw[E.row j hj];omega),?_⟩
 ·have h:Row W Bo vc d.cls:=h1;exact h.toCs (by omega)
 have h:OwnB W Bo G d.acc:=h4;exact h.bools (by rw[E.accL];omega)
theorem OwnD.agg {W:Γ} {Bo:Nat} {v:Δ} {d:Dfa} (h:OwnD W Bo v d):∃ A:Array Δ,v=.agg A/\A.size=3/\A.all (·.oneCell')=Α:=by
 obtain⟨vc,T,X,vs,rfl,h1,G,h3,H⟩:=h;have one:∀ {base e s n:Nat} {v:Δ} {xs:List Δ},W.ownsRow base e s v n xs->v.oneCell'=Α:=λh=>by
  rcases h.2 with⟨E,_⟩|⟨g,ab,cur,E,_⟩
  ·rw[E];rfl
  rw[E];rfl
 exact⟨_,rfl,rfl,Av _ _ _ (one h1) (one G) (one H)⟩
theorem Wv (d:Dfa) (hv:Val d) (hn:d.n.length<=64) (v:Δ) (w:Γ) (h:IsD w v d) :
  ϛ Η 61 #[v] w λe w'=>∃ v',e=Ψ v'/\OwnD w' w.heap.size v' d/\Ext w w':=by
 have HV:=Z hv;obtain⟨bc,oc,cc,bn,on,cn,ba,oa,ca,rfl,hC,hR,eg⟩:=h.opened hv;have cm:=hv.parts.pos;have gm:=hv.parts.le;have eh:=hv.pos;have cp:=hv.accL;obtain⟨b1,o1,c1,a8,ei⟩:=â hC hv.parts.pos;injection a8 with a8 _ gn
 injection a8 with a8
 injection a8 with a8 gp _
 subst a8 gp gn;obtain⟨i0,hi,gu,gv,gw⟩:=ϓ Dw;obtain⟨j0,hj,gy,gz,ha⟩:=ϓ Fi;obtain⟨k0,hk,hp,hq,hr⟩:=ϓ L6;obtain⟨l0,hl,hy,hz,h2⟩:=ϓ Rq;obtain⟨n,cq⟩:=Xq (d.n.length);obtain⟨m,b7⟩:=Xq (d.cls.length);have HN:=Z cq;have HM:=Z b7;have h4:=Z (λW (T:Ext w W)=>show ∀ j u,(Cm d.cls)[j]? = J u->W.cell? ((⟨bc,oc,I⟩:Addr).add j)=J u from λj u hu=>by
  have bu:j<d.cls.length*4:=by rw[<-Iu];exact (ο.1 hu).1
  rw[Fx _ _ bu] at hu;rw[<-hu,Kq];exact T.cell (ei j bu))
 have h5:=Z (λW (T:Ext w W)=>show ∀ j u,(d.acc.map ϊ)[j]? = J u->W.cell? ((⟨ba,oa,I⟩:Addr).add j)=J u from λj u hu=>by
  have bu:j<d.acc.length:=by rw[<-ι (f:=ϊ)];exact (ο.1 hu).1
  rw[ν,Ι bu] at hu;rw[<-hu,Kq];have h:=T.cell (eg j (by omega));rw[h];unfold Dfa.ok;rw[Ζ,Ι bu];rfl)
 have cv:=Z (λs (hs:s<d.n.length)=>hR s hs);rw[cq] at hn eh cp cv;rw[b7] at cm gm cv;rw[cq,b7];obtain⟨Va,cw⟩:=Xq (dA (U (J ⟨bc,oc,I⟩) m cc) (U (J ⟨bn,on,I⟩) n cn) (U (J ⟨ba,oa,I⟩) n ca));have cy:=Z cw;rw[cw];clear h hv hC hR eg ei b7 cw;have cz:=((Κ w).alloc (Β Va 40)).alloc (Β #[U I 0 0,U I 0 0,U I 0 0] 40);have H2:=Ah (Ad w (Β Va 40)) (Β #[U I 0 0,U I 0 0,U I 0 0] 40);have H3:=ϒ w (Β Va 40) (Β #[U I 0 0,U I 0 0,U I 0 0] 40);go_enter Tryz.func61,Tryz.ntmps61;go_upto_region 1 with (fail)
 obtain⟨w1,c3⟩:=Xq ((w.alloc (Β Va 40)).alloc (Β #[U I 0 0,U I 0 0,U I 0 0] 40));rw[c3] at cz H2 H3;simp only[c3];clear c3;have bm:=Z cz;have H3:=Z H3;have h6:=Z (λV (hV:Ext w1 V)=>(Τ V w.heap.size 0 _ _ _ (hV.heap H2)).trans (show Va[0]? = J (U (J ⟨bc,oc,I⟩) m cc) by rw[<-cy.o];rfl));have h7:=Z (λV (hV:Ext w1 V)=>(Τ V w.heap.size 1 _ _ _ (hV.heap H2)).trans (show Va[1]? = J (U (J ⟨bn,on,I⟩) n cn) by rw[<-cy.o];rfl));have h9:=Z (λV (hV:Ext w1 V)=>(Τ V w.heap.size 2 _ _ _ (hV.heap H2)).trans (show Va[2]? = J (U (J ⟨ba,oa,I⟩) n ca) by rw[<-cy.o];rfl));have ej:(Cm d.cls).length=m*4:=by rw[Iu,HM.o]
 have ek:(d.acc.map ϊ).length=n*1:=by rw[ι,cp];omega
 have en:∀ u∈Cm d.cls,u.oneCell'=Α:=λu hu=>by
  obtain⟨j,hj,rfl⟩:=List.mem_iff_getElem.1 hu;have h:=Fx d.cls j (by rw[<-Iu];exact hj);rw[Ι hj] at h;injection h with h
  rw[h];rfl
 have eo:∀ u∈d.acc.map ϊ,u.oneCell'=Α:=λu hu=>by obtain⟨b',_,rfl⟩:=ϴ.1 hu;rfl
 clear cz H2;refine Ia 8 29 (by kernel_rfl) (by kernel_rfl) rfl (Ta w.heap.size w1.heap.size m n d.cls d.acc (U (J ⟨bc,oc,I⟩) m cc) (U (J ⟨ba,oa,I⟩) n ca)) Hk Jr (WB _ _ _ _ _ _ _ _) (λi ia=>?_) (λvs w5 bo hF hN=>?_)
 ·have bd:=(Κ w1).drew
  match i,ia with
  | 0,_=>
   refine Ap _ _ rfl rfl rfl λc W T ab ak=>?_
   have h3:c.tmps.getD 1 Ω=ε (J ⟨w.heap.size,0,I⟩):=ak 1 (by kernel_rfl);go_simp;exact⟨_,rfl,Κ W,rfl,λ_ _ _ _ _=>trivial⟩
  | 1,_=>
   refine Ap _ _ rfl rfl rfl λc W T ab ak=>?_
   have h3:c.tmps.getD 6 Ω=ε (J ⟨w.heap.size,0,I⟩):=ab 0 6 (by kernel_rfl);have c0:=h6.o W (bd.t T);go_simp;exact⟨_,rfl,Κ W,rfl,λ_ _ _ _ _=>trivial⟩
  | 2,_=>
   refine Ap _ _ rfl rfl rfl λc W T ab ak=>?_
   have h3:c.tmps.getD 7 Ω=U (J ⟨bc,oc,I⟩) m cc:=ab 1 7 (by kernel_rfl);refine wp_append_lies W (.const (U I 0 0)) (δ 7) 36 rfl w1.heap.size 91 l0 (.agg zA) 4 32 Tryz.underlying36 hl hy hz h2 rfl (by decide) (U I 0 0) 0 [] rfl (À W w1.heap.size 91 4) ⟨bc,oc,I⟩ m cc (Cm d.cls) h3 ej (h4.o W (bm.o.t (bd.t T))) en cm (by unfold ϐ;omega) (by omega) (bd.t T).size _ rfl ?_;intro g c W' bz c5 _ _;rw[ϖ,ã] at bz;rw[ϖ];exact⟨_,rfl,(Κ W).grown c5 (λk e=>by cases e),⟨g,c,rfl,bz⟩,λ_ _ _ _ _=>trivial⟩
  | 3,_=>
   refine Ap _ _ rfl rfl rfl λc W T ab ak=>?_
   have h3:c.tmps.getD 1 Ω=ε (J ⟨w.heap.size,0,I⟩):=ak 1 (by kernel_rfl);go_simp;exact⟨_,rfl,Κ W,rfl,λ_ _ _ _ _=>trivial⟩
  | 4,_=>
   refine Ap _ _ rfl rfl rfl λc W T ab ak=>?_
   have h3:c.tmps.getD 9 Ω=ε (J ⟨w.heap.size,2,I⟩):=ab 3 9 (by kernel_rfl);have c0:=h9.o W (bd.t T);go_simp;exact⟨_,rfl,Κ W,rfl,λ_ _ _ _ _=>trivial⟩
  | 5,_=>
   refine Ap _ _ rfl rfl rfl λc W T ab ak=>?_
   have h3:c.tmps.getD 10 Ω=U (J ⟨ba,oa,I⟩) n ca:=ab 4 10 (by kernel_rfl);refine wp_append_lies W (.const (U I 0 0)) (δ 10) 38 rfl w1.heap.size 4 j0 (.bool Ε) 1 1 ä hj gy gz ha rfl (by decide) (U I 0 0) 0 [] rfl (À W w1.heap.size 4 1) ⟨ba,oa,I⟩ n ca (d.acc.map ϊ) h3 ek (h5.o W (bm.o.t (bd.t T))) eo eh (by unfold ϐ;omega) (by omega) (bd.t T).size _ rfl ?_;intro g c W' bz c5 _ _;rw[ϖ,ã] at bz;rw[ϖ];exact⟨_,rfl,(Κ W).grown c5 (λk e=>by cases e),⟨g,c,rfl,bz⟩,λ_ _ _ _ _=>trivial⟩
  | 6,_=>
   refine Ap _ _ rfl rfl rfl λc W T ab ak=>?_
   obtain⟨G,k1,h8,ad⟩:∃ g c',c.tmps.getD 8 Ω=U (J ⟨g,0,I⟩) m c'/\W.ownsRow w1.heap.size 91 4 (c.tmps.getD 8 Ω) m (Cm d.cls):=ab 2 8 (by kernel_rfl);obtain⟨H,X,er,ae⟩:∃ g c',c.tmps.getD 11 Ω=U (J ⟨g,0,I⟩) n c'/\W.ownsRow w1.heap.size 4 1 (c.tmps.getD 11 Ω) n (d.acc.map ϊ):=ab 5 11 (by kernel_rfl);rw[h8] at ad;rw[er] at ae;refine Cr (Fy 40 _ rfl (A:=#[U (J ⟨G,0,I⟩) m k1,U I 0 0,U (J ⟨H,0,I⟩) n X]) ?_ W) ?_
   ·have e:(Array.map (λ(i,x)=>(i,c.eval x)) #[(0,Ñ.tmp 8),(2,Ñ.tmp 11)]).toList=[(0,c.eval (δ 8)),(2,c.eval (δ 11))]:=by simp
    rw[e,show c.eval (δ 8)=_ from h8,show c.eval (δ 11)=_ from er];exact XE _ _ _ _ _ _
   exact⟨_,rfl,Κ W,⟨G,k1,H,X,rfl,ad,ae⟩,λ_ _ _ _ _=>trivial⟩
  | 7,_=>
   refine Ap _ _ rfl rfl rfl λc W T ab ak=>?_
   go_simp;exact⟨_,rfl,(Κ W).alloc _,⟨_,rfl,Ad W _,(bd.t T).size⟩,λ_ _ _ _ _=>trivial⟩
 have et:vs 0=ε (J ⟨w.heap.size,0,I⟩):=hF 0 (by omega);have eu:vs 1=U (J ⟨bc,oc,I⟩) m cc:=hF 1 (by omega);obtain⟨_,_,ev,-⟩:∃ g c',vs 2=U (J ⟨g,0,I⟩) m c'/\_:=hF 2 (by omega);have ew:vs 3=ε (J ⟨w.heap.size,2,I⟩):=hF 3 (by omega);have ey:vs 4=U (J ⟨ba,oa,I⟩) n ca:=hF 4 (by omega);obtain⟨_,_,ez,-⟩:∃ g c',vs 5=U (J ⟨g,0,I⟩) n c'/\_:=hF 5 (by omega);obtain⟨G,k1,H,X,e0,ad,ae⟩:∃ G c1 H c2,vs 6=.agg #[U (J ⟨G,0,I⟩) m c1,U I 0 0,U (J ⟨H,0,I⟩) n c2]/\_/\_:=hF 6 (by omega);obtain⟨E,e1,H7,e2⟩:∃ g,vs 7=ε (J ⟨g,0,I⟩)/\_/\_:=hF 7 (by omega);simp only[Bq,List.drop_succ_cons,List.drop_zero,et,eu,ev,ew,ey,ez,e0,e1,Ã,List.getElem?_cons_zero,List.getElem?_cons_succ,Option.bind_some,η,Θ,Μ,Λ];clear hF hN et eu ev ew ey ez e0 e1 ej ek en eo;go_upto_region 2 with (refine Sr 40 (δ 3) (δ 12) rfl H7 Ae rfl (by simp[ξ]) ?_)
 have b0:=((Κ w1).drew.t bo).setRow e2 #[U (J ⟨G,0,I⟩) m k1,U I 0 0,U (J ⟨H,0,I⟩) n X];have b4:=Χ w5 E _ #[U (J ⟨G,0,I⟩) m k1,U I 0 0,U (J ⟨H,0,I⟩) n X] _ _ H7;have c6:=Cc w5 E #[U (J ⟨G,0,I⟩) m k1,U I 0 0,U (J ⟨H,0,I⟩) n X];have cb:=ad.kept c6 (B3 ad H7 (by decide));have cd:=ae.kept c6 (B3 ae H7 (by decide));obtain⟨w6,c8⟩:=Xq (w5.setRow E #[U (J ⟨G,0,I⟩) m k1,U I 0 0,U (J ⟨H,0,I⟩) n X]);rw[c8] at b0 b4 cb cd;simp only[c8];clear c8 c6 ad ae H7 bo;have cf:=h7.o w6 b0;go_wp2_with (fail);clear cf;have da:=À w6 w1.heap.size 54 1;have db:=b0.size;obtain⟨n0,cg⟩:=Xq (w1.heap.size);have iy:w1.heap.size<=n0:=Ô cg;have iz:n0<=w1.heap.size:=Ô cg.symm;rw[cg] at da db cb cd e2;clear cg;have b4:=Z b4;go_loopw [16] (λvi W=>∃ (j:Nat) (vnx:Δ) (vs:List Δ),j<=n/\vi=.int Φ j/\Ext w1 W/\n0<=W.heap.size/\ϟ (vs.length=j)/\ϟ (W.heap[E]? = J (Β #[U (J ⟨G,0,I⟩) m k1,vnx,U (J ⟨H,0,I⟩) n X] 40 (0,0)))/\W.ownsRow n0 91 4 (U (J ⟨G,0,I⟩) m k1) m (Cm d.cls)/\W.ownsRow n0 4 1 (U (J ⟨H,0,I⟩) n X) n (d.acc.map ϊ)/\W.ownsRow n0 54 1 vnx vs.length vs/\ϟ (RowsO W n0 vs (d.n.take j) (λ_=>False)))
  (λvi _=>n-(intOf vi).toNat)
 case atStart=>exact⟨0,_,[],by omega,rfl,b0,db,Z rfl,b4,cb,cd,da,Z ⟨rfl,λj hj=>absurd hj (by simp)⟩⟩
 clear b0 db b4 cb cd da;obtain⟨j,vnx,vs,ja,rfl,hE,hs,dd,H7,ad,ae,hX,cj⟩:=hrel;by_cases de:j<n
 ·obtain⟨br,or',cr,e5,e6⟩:=cv.o j de;have ic:=(bm.o.t hE).cell e5;have jb:(j:Int)<(n:Int):=by omega
  have bq:(d.n.getD j []).length=m:=by rw[<-HM.o];exact HV.o.row j (by rw[HN.o];exact de)
  have e7:=Z (λV (hV:Ext w1 V)=>show ∀ q u,((d.n.getD j []).map iv)[q]? = J u->V.cell? ((⟨br,or',I⟩:Addr).add q)=J u from λq u hu=>by
   have e8:q<m:=by rw[<-bq,<-ι (f:=iv)];exact (ο.1 hu).1
   rw[X6 (by rw[bq];exact e8)] at hu;rw[<-hu,Kq];exact (bm.o.t hV).cell (e6 q e8))
  have df:((d.n.getD j []).map iv).length=m*1:=by rw[ι,bq];omega
  have dg:∀ u∈(d.n.getD j []).map iv,u.oneCell'=Α:=λu hu=>by obtain⟨b',_,rfl⟩:=ϴ.1 hu;rfl
  have e9:=Z (Ig d.n j [] (by rw[HN.o];exact de));obtain⟨rl,fb⟩:=Xq (d.n.getD j []);rw[fb] at bq e7 df dg e9;have ie:=Z bq;have ig:=Z df;have ih:=Z dg;clear e5 e6 bq df dg fb;go_upto_region 5 with (fail)
  clear ic;have cf:wr.drew.cell? ⟨E,1,I⟩=J vnx:=Τ wr.drew E 1 _ _ _ ((Κ wr).drew.heap H7.o);refine Bl 7 [(0,Α),(1,Α),(2,Α),(3,Ε),(4,Ε),(5,Ε),(6,Α),(7,Ε)] (by kernel_rfl) (by kernel_rfl) (λ_ _ _ _ h=>h) (λV=>V.cell? ⟨E,1,I⟩=J vnx) cf ?_;have ao:=(Κ wr).drew;obtain⟨wy,dk⟩:=Xq (wr.drew);rw[dk] at ao;rw[dk];have bo:=hE.t ao;have dm:=μ hs ao.size;have dn:=Z (ao.heap H7.o);have fc:=Aa ad ao;have fe:=Aa ae ao;have ff:=Aa hX ao;have fg:=Z (cj.o.kept (ao.grownBy I) (λv l _ _=>by cases v.ownBlock<;>simp));clear dk cf hE hs H7 ad ae hX cj ao;iterate 3
   refine Af (v:=?_) rfl rfl (λV hV=>?_) ?_
   rotate_left
   ·go_simp;first|done|with_reducible rfl
   simp only[η,Θ,Μ,Λ]
  refine Ao rfl (λK hK=>?_);refine step_append_lies _ rfl (.const (U I 0 0)) (δ 22) 54 rfl n0 3 i0 (.int Φ 0) 1 8 Ϥ hi gu gv gw rfl (by decide) (U I 0 0) 0 [] rfl (À wy n0 3 1) ⟨br,or',I⟩ m cr (rl.map iv) rfl ig.o (e7.o wy bo) ih.o cm (by unfold ϐ;omega) (by omega) dm _ rfl ?_;intro gr c7 w7 ck fj ij _;rw[ϖ,ã] at ck;rw[ϖ];have aq:=(Κ wy).grown fj (λk e=>by cases e);refine hK _ _ (λ_=>Τ w7 E 1 _ _ _ (aq.heap dn.o)) ?_;clear hK K;have fk:=bo.t aq;have b6:=Z (aq.heap dn.o);have dp:=Aa fc aq;have dq:=Aa fe aq;have ax:=Aa ff aq;have fl:=Z (fg.o.kept (aq.grownBy I) (λv l _ _=>by cases v.ownBlock<;>simp));have fm:=μ dm aq.size;have jc:vs.length<=64:=by rw[dd.o];omega
  clear bo dn fc fe ff fg dm aq fj ij;refine Ao rfl (λK hK=>?_);go_simp;refine hK _ _ (λ_=>Τ _ E 1 _ _ _ (Ah b6.o _)) ?_;clear hK K;refine Ao rfl (λK hK=>?_);refine step_append_lies _ rfl (δ 21) (δ 24) 37 rfl n0 54 k0 (U I 0 0) 1 24 Tryz.underlying37 hk hp hq hr rfl (by decide) vnx vs.length vs rfl (ax.alloc _) _ 1 1 [U (J ⟨gr,0,I⟩) m c7] rfl rfl (Ý _ _ _) (by simp[ξ]) (by decide) (by unfold ϐ;omega) (by omega) (by rw[Ρ];omega) _ rfl ?_;intro g9 c9 w9 dr ay _ _;have al:=(Κ w7).alloc (Β #[Ϗ (J ⟨gr,0,I⟩) m c7] 54);have fo:∀ k,vnx.ownBlock=J k->n0<=k:=λk e=>(ax.lt k e).1
  have fp:=(fk.t al).grown ay (λk e=>by have:=fo k e;omega);have ai:=(ay.block E (Al (al.heap b6.o)) (Fh (Aa ax al) (al.heap b6.o) (by decide))).trans (al.heap b6.o);have dt:=(Aa dp al).kept ay (Aj dp ax (by decide));have du:=(Aa dq al).kept ay (Aj dq ax (by decide));have dv:=(Aa ck al).kept ay (Aj ck ax (by decide));have fq:=(fl.o.alloc (Β #[Ϗ (J ⟨gr,0,I⟩) m c7] 54)).kept ay (λv l ho _=>Aj ho (Aa ax al) (by decide));have fs:=μ fm (μ al.size ay.size);have k9:w9.cell? ⟨E,1,I⟩=J vnx:=Τ w9 E 1 _ _ _ ai;refine hK _ _ (λ_=>k9) ?_;clear hK K al fo ay fk b6 dp dq ax fl fm ck;refine Af (v:=?_) rfl rfl (λV hV=>?_) ?_
  rotate_left
  ·clear hV;go_simp;first|done|with_reducible rfl
  simp only[η,Θ,Μ,Λ];have f9:=È w9 E 1 _ _ ai;have bh:=Cc w9 E #[U (J ⟨G,0,I⟩) m k1,U (J ⟨g9,0,I⟩) (vs.length+1) c9,U (J ⟨H,0,I⟩) n X];have fu:w9.setCell ⟨E,1,I⟩ (U (J ⟨g9,0,I⟩) (vs.length+1) c9)=w9.setRow E #[U (J ⟨G,0,I⟩) m k1,U (J ⟨g9,0,I⟩) (vs.length+1) c9,U (J ⟨H,0,I⟩) n X]:=by rw[Ϭ w9 _ _ _ _ _ _ ai];rfl
  refine Ao rfl (λK hK=>?_);go_simp;refine hK _ _ (λh=>absurd h (by omega)) ?_;clear hK K;refine Bj ?_;have fv:=fp.setRow (show w1.heap.size<=E by omega) #[U (J ⟨G,0,I⟩) m k1,U (J ⟨g9,0,I⟩) (vs.length+1) c9,U (J ⟨H,0,I⟩) n X];have fw:=Z (Χ w9 E _ #[U (J ⟨G,0,I⟩) m k1,U (J ⟨g9,0,I⟩) (vs.length+1) c9,U (J ⟨H,0,I⟩) n X] _ _ ai);have fx:=dt.kept bh (B3 dt ai (by decide));have fy:=du.kept bh (B3 du ai (by decide));have fz:=dv.kept bh (B3 dv ai (by decide));have ga:=dr.kept bh (B3 dr ai (by decide));have gb:=fq.kept bh (λv l ho _=>B3 ho ai (by decide));have gd:=μ fs bh.size;have gf:ϟ ((w9.setRow E #[U (J ⟨G,0,I⟩) m k1,U (J ⟨g9,0,I⟩) (vs.length+1) c9,U (J ⟨H,0,I⟩) n X]).ownsRow n0 54 1 (U (J ⟨g9,0,I⟩) (vs.length+1) c9) (vs++[Ϗ (J ⟨gr,0,I⟩) m c7]).length (vs++[Ϗ (J ⟨gr,0,I⟩) m c7])):=Z (by rw[Ν];exact ga);have gg:ϟ (RowsO (w9.setRow E #[U (J ⟨G,0,I⟩) m k1,U (J ⟨g9,0,I⟩) (vs.length+1) c9,U (J ⟨H,0,I⟩) n X]) n0 (vs++[Ϗ (J ⟨gr,0,I⟩) m c7]) (d.n.take (j+1)) (λ_=>False)):=Z (by rw[e9.o];refine gb.snoc ?_ (λh=>h);show Γ.ownsRow _ _ _ _ _ rl.length _;rw[ie.o];exact fz)
  clear ga gb fz k9 f9 bh dt du dv dr fq fs ai fp;try rw[fu]
  clear fu;obtain⟨jd,dx⟩:=Xq (w9.setRow E #[U (J ⟨G,0,I⟩) m k1,U (J ⟨g9,0,I⟩) (vs.length+1) c9,U (J ⟨H,0,I⟩) n X]);rw[dx] at fv fw fx fy gd gf gg;rw[dx];clear dx;go_wp2_with (fail);go_roundw
  case rel=>exact⟨j+1,_,vs++[Ϗ (J ⟨gr,0,I⟩) m c7],by omega,by go_num,fv,gd,Z (by rw[Ν,dd.o];rfl),fw,fx,fy,gf.o,gg⟩
  simp[intOf]<;>omega
 obtain rfl:n=j:=by omega
 have gi:ϟ (RowsO wr n0 vs d.n (λ_=>False)):=by have h:=cj;rw[ß (by rw[HN.o];exact Υ _)] at h;exact h
 have hD:OwnD wr n0 (.agg #[U (J ⟨G,0,I⟩) m k1,vnx,U (J ⟨H,0,I⟩) n X]) d:=
  ⟨_,_,_,vs,rfl,by rw[HM.o];exact ad,hX,gi.o,by rw[cp];exact ae⟩
 have hD:=hD.base (show w.heap.size<=n0 by have:=bm.o.size;omega);obtain⟨an,il,rfl⟩:∃ a c,vnx=U a vs.length c:=by obtain⟨a,c,h⟩:=Sl.len (Sl.of_owns hX (by rw[dd.o];omega) Ω);exact⟨a,c,h⟩
 have HD:=Z hD;have dy:=Z (hE.heap H3.o);have HE:=Z (bm.o.t hE);clear hD hX ad ae hE cj gi;obtain⟨A,hA⟩:=Xq (dA (U (J ⟨G,0,I⟩) m k1) (U an vs.length il) (U (J ⟨H,0,I⟩) n X));have ir:ϟ (wr.heap[E]? = J (Β A 40 (0,0))):=by rw[<-hA];exact H7
 have iu:ϟ (OwnD wr w.heap.size (.agg A) d):=by rw[<-hA];exact HD
 have dz:(Η.info? 40).map (·.size)=J A.size:=by rw[<-hA];exact Ae
 have iw:A.all (·.oneCell')=Α:=by rw[<-hA];exact Av _ _ _ rfl rfl rfl
 have ix:A.size=3:=by rw[<-hA];rfl
 clear H7 HD hA;go_wp2_with (first
  | (refine Lr 40 (δ 3) ir.o Ο dz ?_)
  | (refine Sr 40 (δ 2) (δ 28) rfl dy.o dz ix.symm iw ?_))
 refine ω (v:=.agg A) (Ì rfl _ _ _ _ _ _ _ rfl (Χ wr _ _ A 40 (0,0) dy.o) Ο rfl dz) rfl ?_;exact⟨_,rfl,iu.o.row dy.o (by decide),HE.o.setRow (by omega) A⟩
theorem Yf {a b:Dfa} (hb:Val b) (w:List UInt8):(Aq (lnx a b) (0,0) w).2<2 ^ b.n.length:=by
 have key:∀ r:List UInt8,(Aq (lnx a b) (0,0) r.reverse).2<2 ^ b.n.length:=by
  intro r;cases r with
  | nil=>exact Nat.two_pow_pos _
  | cons c r=>rw[List.reverse_cons,E9];exact N5 hb _ _ _ c.toNat_lt
 have:=key w.reverse
 rwa [List.reverse_reverse] at this
theorem Yg {a b:Dfa} (E:Val a) (hb:Val b) (w:List UInt8):(Aq (lnx a b) (0,0) w).1<a.n.length/\(Aq (lnx a b) (0,0) w).2<2 ^ b.n.length:=
 ⟨by rw[(Lw hb w).1];exact E.run_lt w E.pos,Yf hb w⟩
structure LTab (a b:Dfa) (C:List Cls) (bs:List Nat) (l:List (Nat × Nat)) (N:List (List Nat)):Prop where
 len:N.length=l.length
 wval:WVal C N (θ N.length Ε)
 nodup:l.Nodup
 reach:∀ s,s<N.length->∃ u,(Az C N []).run 0 u=s
 run:∀ u,l[(Az C N []).run 0 u]? = J (Aq (lnx a b) (0,0) u)
 opts:∀ (ρ:Nat->Option Dfa),(∀ i s,l[i]? = J s->(a.ok s.1=Α->∃ d,ρ i=J d/\Cano d/\∀ v,d.has v=Α↔b.has v=Α/\¬ ∃ q,s.2.testBit q=Α/\b.ok (b.run q v)=Α)/\(a.ok s.1=Ε->ρ i=I))->∀ os,CollR (Az C N []).stp ρ os->OptsOf Α (wd1 a) (wd1 b) os
theorem PQ {a b:Dfa} (ha:Val a) (hb:Val b) {C:List Cls} {bs:List Nat} {l:List (Nat × Nat)} {f:Nat × Nat->Option Nat} {N:List (List Nat)} {r:List Nat} (h:EInv bs (0,0) (lnx a b) l.length 0 l f N r) (hP:Parts C) (hC:C.length=bs.length) (G:Joint (Am a.cls) (Am b.cls) (Am C) bs):LTab a b C bs l N:=by
 have H:Expl (Am C) bs (0,0) (lnx a b) (λ_=>Ε) l ⟨Am C,bs.length,N,θ l.length Ε⟩:=AG h rfl (by simp) λj s E=>by have ah:j<l.length:=(ο.1 E).1;rw[Ζ,Ι (by simpa using ah),List.getElem_replicate];rfl
 have hn:∀ s x,x<256->lnx a b s (bs.getD (Am C x) 0)=lnx a b s x:=λs x hx=>by
  obtain⟨_,h1,T⟩:=G.rep x hx;have ea:∀ p,a.stp p (bs.getD (Am C x) 0)=a.stp p x:=λp=>by unfold Dfa.stp;rw[h1]
  have eb:∀ p,b.stp p (bs.getD (Am C x) 0)=b.stp p x:=λp=>by unfold Dfa.stp;rw[T]
  have ei:∀ S n,B9 b S (bs.getD (Am C x) 0) n=B9 b S x n:=λS n=>by
   induction n with
   | zero=>rfl
   | succ n X=>unfold B9;rw[X,eb]
  unfold lnx Ey;rw[ea,ei,eb]
 have ad:∀ u,l[(Az C N []).run 0 u]? = J (Aq (lnx a b) (0,0) u):=by
  have key:∀ (w:List UInt8) i s,l[i]? = J s->l[(Az C N []).run i w]? = J (Aq (lnx a b) s w):=λw=>by
   induction w with
   | nil=>intro i s hi;exact hi
   | cons x w X=>intro i s hi;have h1:=(H.tgt i s hi _ (G.lt _ x.toNat_lt)).2;rw[hn s _ x.toNat_lt] at h1;exact X ((Az C N []).stp i x.toNat) _ h1
  exact λw=>key w 0 _ h.zero
 refine⟨h.lenN,⟨by rw[h.lenN];exact h.pos,by simp,λs E=>?_,λs E k hk=>?_,hP⟩,h.nodup,λs E=>?_,ad,λρ hρ os hc=>?_⟩
 ·rw[h.rows s (by rw[<-h.lenN];exact E),hC]
 ·rw[h.lenN] at E ⊢;have h1:=(H.tgt s _ (Ι E) k (by rw[<-hC];exact hk)).1;exact h1
 ·rw[h.lenN] at E;obtain⟨u,hu⟩:=h.reach l[s] (List.getElem_mem E);refine⟨u,?_⟩;have h1:=ad u;rw[hu] at h1;have T:=(h.num l[s] _).2 h1;have h3:=(h.num l[s] s).2 (Ι E);rw[T] at h3;injection h3
 exact PR ha hb G H hρ hc
structure LRho (a b:Dfa) (l:List (Nat × Nat)) (i:Nat) (ρ:Nat->Option Dfa):Prop where
 yes:∀ x s,x<i->l[x]? = J s->a.ok s.1=Α->∃ d,ρ x=J d/\Cano d/\d.n.length<=64/\∀ v,d.has v=Α↔b.has v=Α/\¬ Ed b (λq=>s.2.testBit q=Α) v
 no:∀ x s,x<i->l[x]? = J s->a.ok s.1=Ε->ρ x=I
 o:∀ x,i<=x->ρ x=I
theorem QB (a b:Dfa) (l:List (Nat × Nat)):LRho a b l 0 (λ_=>I):=⟨λx s h=>by omega,λx s h=>by omega,λ_ _=>rfl⟩
theorem QC {a b:Dfa} {l:List (Nat × Nat)} {i:Nat} {ρ:Nat->Option Dfa} (h:LRho a b l i ρ) {s:Nat × Nat} (H:l[i]? = J s) (T:a.ok s.1=Ε):LRho a b l (i+1) ρ where
 yes:=λx t hx E G=>by
  refine h.yes x t ?_ E G;by_cases e:x=i
  ·subst e;rw[H] at E;injection E with E
   subst E;rw[T] at G;cases G
  omega
 no:=λx t hx E G=>by
  by_cases e:x=i
  ·subst e;exact h.o x (Υ _)
  exact h.no x t (by omega) E G
 o:=λx hx=>h.o x (by omega)
theorem QD {a b:Dfa} {l:List (Nat × Nat)} {i:Nat} {ρ:Nat->Option Dfa} (h:LRho a b l i ρ) {s:Nat × Nat} (H:l[i]? = J s) (T:a.ok s.1=Α) {d:Dfa} (hd:DV b s.2 (J d)):LRho a b l (i+1) (λz=>if z=i then J d else ρ z) where
 yes:=λx t hx E G=>by
  by_cases e:x=i
  ·subst e;rw[H] at E;injection E with E
   subst E;exact⟨d,if_pos rfl,hd.1,hd.2.1,hd.2.2⟩
  obtain⟨X,h1,h2⟩:=h.yes x t (by omega) E G;exact⟨X,by rw[if_neg e];exact h1,h2⟩
 no:=λx t hx E G=>by
  by_cases e:x=i
  ·subst e;rw[H] at E;injection E with E
   subst E;rw[T] at G;cases G
  rw[if_neg e];exact h.no x t (by omega) E G
 o:=λx hx=>by rw[if_neg (by omega)];exact h.o x (by omega)
theorem QF {a b:Dfa} {l:List (Nat × Nat)} {ρ:Nat->Option Dfa} (h:LRho a b l l.length ρ) (s:Nat) (d:Dfa) (G:ρ s=J d):s<l.length/\Cano d/\d.n.length<=64:=by
 have E:s<l.length:=by
  rcases Nat.lt_or_ge s l.length with E|E
  ·exact E
  rw[h.o s E] at G;cases G
 refine⟨E,?_⟩;have he:=Ι E;cases H:a.ok l[s].1
 ·rw[h.no s _ E he H] at G;cases G
 obtain⟨e,h1,T,X,_⟩:=h.yes s _ E he H;rw[G] at h1;injection h1 with h1
 subst h1;exact⟨T,X⟩
theorem QE {a b:Dfa} (hb:Val b) {C:List Cls} {bs:List Nat} {l:List (Nat × Nat)} {N:List (List Nat)} (G:LTab a b C bs l N) {ρ:Nat->Option Dfa} (h:LRho a b l l.length ρ) {os:List Opt} (hc:CollR (Az C N []).stp ρ os):OptsOf Α (wd1 a) (wd1 b) os:=by
 refine G.opts ρ (λi s H=>?_) os hc;have T:i<l.length:=(ο.1 H).1;refine⟨λX=>?_,λX=>h.no i s T H X⟩;obtain⟨d,h1,h2,_,h3⟩:=h.yes i s T H X;refine⟨d,h1,h2,λv=>(h3 v).trans (and_congr Iff.rfl (not_congr ?_))⟩;have af:s.2<2 ^ b.n.length:=by
  obtain⟨u,hu⟩:=G.reach i (by rw[G.len];exact T);have:=G.run u;rw[hu,H] at this;injection this with this
  rw[this];exact Yf hb u
 constructor
 ·rintro⟨q,_,E,h5⟩;exact⟨q,E,h5⟩
 rintro⟨q,E,h5⟩;refine⟨q,?_,E,h5⟩;rcases Nat.lt_or_ge q b.n.length with hq|hq
 ·exact hq
 rw[Nat.testBit_lt_two_pow (Ξ af (Ϲ (by omega) hq))] at E;cases E
def I6 (a b:Dfa):Prop:=Cx (lnx a b) (0,0) 4096\/T7 b\/∃ P:Nat × Nat->Prop,Big λw=>P (Aq (lnx a b) (0,0) w)
theorem PS {a b:Dfa} {C:List Cls} {bs:List Nat} {l:List (Nat × Nat)} {N:List (List Nat)} (E:LTab a b C bs l N) {ρ:Nat->Option Dfa} {d:Dfa} (h:Big λu=>ρ ((Az C N []).run 0 u)=J d):I6 a b:=by
 refine .inr (.inr ⟨λs=>∃ i,l[i]? = J s/\ρ i=J d,?_⟩);have e:(λu=>ρ ((Az C N []).run 0 u)=J d)=λw=>∃ i,l[i]? = J (Aq (lnx a b) (0,0) w)/\ρ i=J d:=funext λu=>propext (by
  constructor
  ·intro h;exact⟨_,E.run u,h⟩
  rintro⟨i,h1,G⟩;have H:=E.run u;obtain⟨k1,T⟩:=ο.1 h1;obtain⟨k2,X⟩:=ο.1 H;have:=(List.getElem_inj E.nodup).1 (T.trans X.symm);rw[<-this];exact G)
 rwa [e] at h
theorem Zo {a b:Dfa} (G:Cano a) (hb:Cano b) (h1:a.n.length<=2) (E:b.n.length<=2):¬ I7 a b:=by
 rintro⟨s,H,_,h|⟨m,hm,_,T,h⟩⟩
 ·exact YB G.val H (by omega) h
 have aa:=YA G.val H hm T;have X:2 ^ b.n.length<=4:=μ (Ϲ (by omega) E) (by decide);rcases h with h|⟨c,hc,_,h⟩
 ·obtain⟨d,e,_⟩:=I1 h (L:=wd1 m) (M:=wd1 b) ⟨hm,λ_=>Iff.rfl⟩ ⟨hb,λ_=>Iff.rfl⟩ (μ (Nat.mul_le_mul (show m.n.length<=4 by omega) X) (by decide)) λd hd=>by have:=Tb hm.val hb.val E hd;omega
  cases e
 have:=Tb hm.val hb.val E hc;exact NL hb.val hc.1.val (μ (Nat.mul_le_mul E (show c.n.length<=16 by omega)) (by decide)) h
theorem Yr {a b:Dfa} (G:Cano a) (hb:Cano b) (h1:a.n.length<=2) (E:b.n.length<=2):¬ I6 a b:=by
 have H:2 ^ b.n.length<=4:=μ (Ϲ (by omega) E) (by decide);have hq:a.n.length*2 ^ b.n.length<=8:=μ (Nat.mul_le_mul h1 H) (by decide);rintro (⟨l,T,X,hl⟩|(⟨P,h⟩|⟨P,h⟩)|⟨P,h⟩)
 ·have:=PT G.val hb.val l T X;omega
 ·exact IE hb.val E P h
 ·exact JI hb.val E P h
 exact PP G.val hb.val (by omega) P h
abbrev oN:Opt:=⟨⟨[],[],[]⟩,⟨[],[],[]⟩⟩
theorem Sx:∀ (c:List Opt) (E:List (List UInt8)),Ee c E↔c.length=E.length/\∀ j,j<E.length->(c.getD j oN).head.has (E.getD j [])=Α/\(c.getD j oN).rest.has (E.drop (j+1)).flatten=Α
 | [],E=>by
  constructor
  ·intro h;have T:E=[]:=h;subst T;exact⟨rfl,λj G=>absurd G (by simp)⟩
  rintro⟨h,_⟩;exact (ϭ.1 h.symm:E=[])
 | o::c,E=>by
  constructor
  ·rintro⟨w,t,rfl,h1,H,X⟩;obtain⟨k1,k2⟩:=(Sx c t).1 X;refine⟨by rw[ϑ,ϑ,k1],λj G=>?_⟩;cases j with
   | zero=>exact⟨h1,H⟩
   | succ j=>
    have:=k2 j (by simpa using G)
    simpa using this
  rintro⟨h1,H⟩;cases E with
  | nil=>cases h1
  | cons w t=>
   have h0:=H 0 (by simp);refine⟨w,t,rfl,h0.1,h0.2,(Sx c t).2 ⟨by simpa using h1,λj G=>?_⟩⟩;have:=H (j+1) (by simpa using G)
   simpa using this
noncomputable def Db (cs:List (List Opt)) (ws:List (List UInt8)):Nat->Nat
 | 0=>0
 | m+1=>Db cs ws m+(@ite _ (Ee (cs.getD m []) ws) (Classical.propDecidable _) 1 0)
theorem S7 {cs:List (List Opt)} {ws:List (List UInt8)}:∀ m,(∀ i,i<m->¬ Ee (cs.getD i []) ws)->Db cs ws m=0
 | 0,_=>rfl
 | m+1,h=>by rw[Db,S7 m λi hi=>h i (by omega),if_neg (h m (by omega))]
theorem BD {cs:List (List Opt)} {ws:List (List UInt8)} {i:Nat} (hi:Ee (cs.getD i []) ws):∀ m,i<m->(∀ j,j<m->Ee (cs.getD j []) ws->j=i)->Db cs ws m=1
 | 0,h,_=>by omega
 | m+1,h,hu=>by
  rw[Db];by_cases e:i=m
  ·subst e;rw[if_pos hi,S7 i λj E hd=>by have:=hu j (by omega) hd;omega]
  rw[BD hi m (by omega) λj E hd=>hu j (by omega) hd,if_neg λhd=>e (hu m (by omega) hd).symm]
theorem WM {ps:List Pt} {l:List (List Opt)} (h:Ef ps l) {ws:List (List UInt8)} (T:InR ps ws):Db (Ar l) ws (Ar l).length<=1/\(Db (Ar l) ws (Ar l).length=1↔Ge ps ws):=by
 obtain⟨h1,X,h3⟩:=UY h T;have hg:∀ i (hi:i<(Ar l).length),(Ar l).getD i []=(Ar l)[i]:=λi hi=>by rw[Ζ,Ι hi];rfl
 by_cases hd:Ge ps ws
 ·obtain⟨i,hi,E⟩:=h1 hd;have:=BD (cs:=Ar l) (ws:=ws) (i:=i) (by rw[hg i hi];exact E) (Ar l).length hi λj G H=>by rw[hg j G] at H;exact h3 j i G hi H E
  rw[this];exact⟨Υ _,λ_=>hd,λ_=>rfl⟩
 have:=S7 (cs:=Ar l) (ws:=ws) (Ar l).length λi hi E=>hd (X i hi (by rw[hg i hi] at E;exact E))
 rw[this];exact⟨by omega,⟨λe=>absurd e (by decide),λh=>absurd h hd⟩⟩
theorem Si:∀ (E:List (List UInt8)) (i j:Nat),j<E.length->((E4 i E).getD j (0,0)).2=i+(E.take (j+1)).flatten.length
 | [],_,_,h=>absurd h (by simp)
 | w::t,i,0,_=>by simp[E4]
 | w::t,i,j+1,h=>by rw[E4,List.getD_cons_succ,Si t (i+w.length) j (by simpa using h),List.take_succ_cons,List.flatten_cons,Ν];omega
theorem AA {x:List UInt8}:∀ (ps:List Pt) (E:List (List UInt8)) (i:Nat) (l:List (Nat × Nat)),Cb ps x i l->E.length=ps.length->(∀ j,j<ps.length->(l.getD j (0,0)).2=((E4 i E).getD j (0,0)).2)->l=E4 i E
 | [],E,i,l,h,G,_=>by have:E=[]:=ϭ.1 G;subst this;exact h.1
 | p::ps,E,i,l,⟨q,H,e,_,T⟩,G,he=>by
  cases E with
  | nil=>cases G
  | cons w t=>
   subst e;have h0:=he 0 (by simp);simp only[E4,List.getD_cons_zero] at h0;subst h0;rw[E4,AA ps t (i+w.length) H T (by simpa using G) λj X=>by
    have:=he (j+1) (by simpa using X)
    simpa [E4] using this]
theorem RJ {ps:List Pt} {E:List (List UInt8)} (h:InR ps E):E.length=ps.length:=by
 induction ps generalizing E with
 | nil=>have:E=[]:=h;rw[this];rfl
 | cons p ps G=>obtain⟨w,t,rfl,_,H⟩:=h;rw[ϑ,ϑ,G H]
theorem IY {ps:List Pt} {ws:List (List UInt8)} (G:InR ps ws) {l:List (Nat × Nat)} (E:Cb ps ws.flatten 0 l):(∀ j,j<ps.length->(l.getD j (0,0)).2=(ws.take (j+1)).flatten.length)↔Ge ps ws:=by
 have hm:=Q4 (ps:=ps) (ws:=ws) [] G;rw[ã,List.length_nil] at hm;have T:=RJ G;constructor
 ·intro h;have:=AA ps ws 0 l E T λj H=>by rw[Si ws 0 j (by omega),h j H,ϖ]
  rw[this] at E;exact hm.1 E
 intro h j H;rw[Q3 E (hm.2 h),Si ws 0 j (by omega),ϖ]
theorem DD {ps:List Pt} {l:List (List Opt)} (h:Ef ps l):l.length=ps.length:=by
 induction ps generalizing l with
 | nil=>have:l=[]:=h;rw[this];rfl
 | cons p ps E=>obtain⟨os,t,rfl,_,G⟩:=h;rw[ϑ,ϑ,E G]
theorem YW {ps:List Pt} {l:List (List Opt)} (h:Ef ps l):∀ k,k<l.length->∃ lz A B,OptsOf lz A B (l.getD k []):=by
 induction ps generalizing l with
 | nil=>have:l=[]:=h;subst this;intro k E;exact absurd E (by simp)
 | cons p ps G=>
  obtain⟨os,t,rfl,h0,H⟩:=h;intro k E;cases k with
  | zero=>exact⟨_,_,_,h0⟩
  | succ k=>rw[List.getD_cons_succ];exact G H k (by simpa using E)
theorem Kb:∀ (l:List (List Opt)) (c:List Opt),c∈Ar l->c.length=l.length/\∀ k,k<l.length->c.getD k oN∈l.getD k []
 | [],c,h=>by have:c=[]:=List.mem_singleton.1 h;subst this;exact⟨rfl,λk E=>absurd E (by simp)⟩
 | os::t,c,h=>by
  have G:c∈os.flatMap λo=>(Ar t).map (o::·):=h
  simp only[List.mem_flatMap,ϴ] at G;obtain⟨o,H,T,X,rfl⟩:=G;obtain⟨k1,k2⟩:=Kb t T X;refine⟨by rw[ϑ,ϑ,k1],λk E=>?_⟩;cases k with
  | zero=>exact H
  | succ k=>rw[List.getD_cons_succ,List.getD_cons_succ];exact k2 k (by simpa using E)
theorem AM {ps:List Pt} {l:List (List Opt)} (h:Ef ps l) {c E:List Opt} (hc:c∈Ar l) (H:E∈Ar l) {k:Nat} (X:k<ps.length) :
  (Cano (c.getD k oN).head/\Cano (c.getD k oN).rest)/\((∃ w,(c.getD k oN).head.has w=Α)/\∃ v,(c.getD k oN).rest.has v=Α)/\((c.getD k oN).head=(E.getD k oN).head\/∀ w,¬ ((c.getD k oN).head.has w=Α/\(E.getD k oN).head.has w=Α)):=by
 have aa:=DD h;obtain⟨lz,A,B,G⟩:=YW h k (by omega);have h1:=(Kb l c hc).2 k (by omega);have T:=(Kb l E H).2 k (by omega);exact⟨G.hc _ h1,G.J _ h1,G.disj h1 T⟩
theorem YT {a b:Dfa} (G:Cano a) (hn:a.n.length<=64) (h:a=b\/∀ w,¬ (a.has w=Α/\b.has w=Α)) {r:Option Dfa} (E:Lim (λw=>a.has w=Α/\b.has w=Α) r):∃ d,r=J d/\Cano d/\d.n.length<=64/\((∃ v,d.has v=Α)->a=b):=by
 cases r with
 | some d=>
  refine⟨d,rfl,E.1,E.2.2,?_⟩;rintro⟨v,H⟩;rcases h with h|h
  ·exact h
  exact absurd ((E.2.1 v).1 H) (h v)
 | none=>
  exfalso
  rcases h with h|h
  ·subst h;obtain⟨d,h1,T,X⟩:=E;have:=E8 h1 G λw=>by rw[Bool.eq_iff_iff,T];exact⟨λh=>h.1,λh=>⟨h,h⟩⟩
   rw[this] at X;omega
  exact Ol E (λ_=>()) (λw w' _ u=>⟨λg=>absurd g (h _),λg=>absurd g (h _)⟩) [()] (λ_=>by simp) (by simp)
theorem EQ (c:Cls) (b:Int) (E:0<=b) (hb:b<256) (w:Γ) :
  ϛ Η 78 #[.agg (Ab c),.int Φ b] w λe w'=>e=Ψ (.agg (Ab (Ay c b)))/\Ext w w':=by
 have ⟨h1,h2⟩:=G1 c (b / 64).toNat;have hE:=((Κ w).alloc (Β (Ab c) 91)).alloc (Β #[.int ζ 0,.int ζ 0,.int ζ 0,.int ζ 0] 91);have G:=Ah (heap_alloc_new w (Β (Ab c) 91)) (Β #[.int ζ 0,.int ζ 0,.int ζ 0,.int ζ 0] 91);have hR:=ϒ w (Β (Ab c) 91) (Β #[.int ζ 0,.int ζ 0,.int ζ 0,.int ζ 0] 91);go_enter Tryz.func78,Tryz.ntmps78;go_upto_region 1 with (fail)
 generalize (w.alloc (Β (Ab c) 91)).alloc (Β #[.int ζ 0,.int ζ 0,.int ζ 0,.int ζ 0] 91)=W at *;have H:W.drew.heap[w.heap.size]? = J (Β (Ab c) 91 (0,0)):=G;have hc:=(Τ W.drew _ (b / 64).toNat _ _ _ H).trans (Iw c _ (by omega));have hf:=È W.drew _ (b / 64).toNat _ _ H;have aq:IntKind.i64.wrap (b.tdiv 64)=((b / 64).toNat:Int):=by rw[Int.tdiv_eq_ediv_of_nonneg E];simp[IntKind.wrap,IntKind.signed,IntKind.bits];omega
 have ar:b.tmod 64=b % 64:=Int.tmod_eq_emod_of_nonneg E;have au:0<=b % 64:=by omega
 have aw:b % 64<=64:=by omega
 have ax:((b / 64).toNat:Int)<4:=by omega
 have aj:=Z (O8 c b E hb);have ak:=Z (DL c b E hb);generalize (b / 64).toNat=q at *;refine Bl 11 [(0,Α),(1,Α),(2,Α),(3,Α),(4,Α),(5,Α),(6,Α),(7,Α),(8,Α),(9,Α),(10,Α),(11,Ε)] (by kernel_rfl) (by kernel_rfl) (λ_ _ _ _ h=>h)
  (λX=>X.cell? ⟨w.heap.size,q,I⟩=J (.int ζ (wd c q))) hc ?_
 iterate 11
  refine Af (v:=?_) rfl rfl (λX hX=>?_) ?_
  rotate_left
  ·go_simp;first|done|with_reducible rfl
  simp only[η,Θ,Μ,Λ]
 refine Ao rfl (λK hK=>?_);go_simp;refine hK _ _ (λh=>absurd h (by omega)) ?_;clear hK K hc hf;refine Bj ?_;rw[aj.o,Ϭ W _ _ _ _ _ _ G,ak.o];have HB:=Z (Χ W w.heap.size _ (Ab (Ay c b)) _ _ G);have HR:=Z (Bm hR (show w.heap.size+1≠w.heap.size by omega) (Ab (Ay c b)));have af:=hE.setRow (Υ w.heap.size) (Ab (Ay c b));clear hE G hR H;obtain⟨T,ag⟩:=Xq (W.setRow w.heap.size (Ab (Ay c b)));rw[ag] at HB HR af;rw[ag];have an:ϟ (T.drew.heap[w.heap.size]? = J (Β (Ab (Ay c b)) 91 (0,0))):=Z HB.o;have ah:ϟ (T.drew.heap[w.heap.size+1]? = J (Β #[.int ζ 0,.int ζ 0,.int ζ 0,.int ζ 0] 91 (0,0))):=Z HR.o;go_wp2_with (first
  | (refine wpList_load_row rfl 91 _ rfl _ rfl _ _ _ _ an.o ϋ rfl Bg ?_)
  | (refine ë rfl 91 _ _ rfl _ _ rfl rfl _ _ ah.o Bg rfl (En _) ?_))
 refine ω (v:=.agg (Ab (Ay c b))) (Ì rfl _ _ _ _ _ _ _ rfl (Χ T.drew _ _ (Ab (Ay c b)) 91 (0,0) ah.o) ϋ rfl Bg) rfl ?_;exact⟨rfl,af.drew.setRow (by omega) _⟩
def Bw (n:Nat):Cls:=if n=1 then Ay 0#256 97 else if n=2 then Ay 0#256 98 else Ay (Ay 0#256 97) 98
theorem Ra (n:Nat) (hn:n=1\/n=2\/n=3) (w:Γ) :
  ϛ Η 54 #[.int Φ (n:Int)] w λe w'=>e=Ψ (.agg (Ab (Bw n)))/\Ext w w':=by
 have f:=λc b a6 hb W=>Z (EQ c b a6 hb W)
 obtain⟨E,hz⟩:=Xq (0#256:Cls);have HZ:=Z hz;have X:=((Κ w).alloc (Β zA 91)).alloc (Β zA 91);have H:=Ah (Ad w (Β zA 91)) (Β zA 91);have G:=ϒ w (Β zA 91) (Β zA 91);go_enter Tryz.func54,Tryz.ntmps54;go_upto_region 1 with (fail)
 go_upto_region 2 with (fail)
 obtain⟨w1,aq⟩:=Xq ((w.alloc (Β zA 91)).alloc (Β zA 91));rw[aq] at X H G;simp only[aq];obtain⟨g0,au⟩:=Xq (w.heap.size);obtain⟨g1,aw⟩:=Xq (g0+1);have HG:ϟ (w.heap.size<=g1):=Z (by omega);have ax:ϟ (w.heap.size<=g0):=Z (by omega);have ak:ϟ (g0≠g1):=Z (by omega);rw[au] at H G;rw[aw] at G;simp only[au,aw];clear aq au aw;have e0:zA=Ab E:=by rw[<-hz];exact encA_zero.symm
 rw[e0] at G;have af:=Z H;have aa:=Z G;clear H G hz e0;rcases hn with rfl|rfl|rfl
 ·skip
  go_upto_region 4 with (first
   | (refine Lr 91 (δ 3) aa.o ϋ Bg ?_)
   | (go_at_call 78;(with_reducible refine (f (E) 97 (by decide) (by decide) w1).o.mono ?_);rintro e w2 ⟨rfl,T⟩;have ab:=Z (T.heap aa.o);have ag:=Z (T.heap af.o))
   | (refine Sr 91 (δ 3) (δ 9) rfl ab.o Bg rfl (En _) ?_))
  have X:=(X.t T).setRow (g:=g1) HG.o (Ab (Ay (E) 97));have G:=Χ w2 g1 _ (Ab (Ay (E) 97)) 91 (0,0) ab.o;have H:=Bm ag.o ak.o (Ab (Ay (E) 97));obtain⟨ai,hw⟩:=Xq (w2.setRow g1 (Ab (Ay (E) 97)));rw[hw] at X G H;simp only[hw];have aa:=Z G;have af:=Z H;clear H G hw ab ag T;go_wp2_with (first
   | (refine Lr 91 (δ 3) aa.o ϋ Bg ?_)
   | (refine Sr 91 (δ 2) (δ 16) rfl af.o Bg rfl (En _) ?_))
  refine ω (v:=.agg (Ab (Ay E 97))) (Ì rfl _ _ _ _ _ _ _ rfl (Χ ai _ _ (Ab (Ay E 97)) 91 (0,0) af.o) ϋ rfl Bg) rfl ?_;exact⟨by rw[<-HZ.o];rfl,X.setRow ax.o _⟩
 ·skip
  go_upto_region 6 with (first
   | (refine Lr 91 (δ 3) aa.o ϋ Bg ?_)
   | (go_at_call 78;(with_reducible refine (f (E) 98 (by decide) (by decide) w1).o.mono ?_);rintro e w2 ⟨rfl,T⟩;have ab:=Z (T.heap aa.o);have ag:=Z (T.heap af.o))
   | (refine Sr 91 (δ 3) (δ 15) rfl ab.o Bg rfl (En _) ?_))
  have X:=(X.t T).setRow (g:=g1) HG.o (Ab (Ay (E) 98));have G:=Χ w2 g1 _ (Ab (Ay (E) 98)) 91 (0,0) ab.o;have H:=Bm ag.o ak.o (Ab (Ay (E) 98));obtain⟨ai,hw⟩:=Xq (w2.setRow g1 (Ab (Ay (E) 98)));rw[hw] at X G H;simp only[hw];have aa:=Z G;have af:=Z H;clear H G hw ab ag T;go_wp2_with (first
   | (refine Lr 91 (δ 3) aa.o ϋ Bg ?_)
   | (refine Sr 91 (δ 2) (δ 16) rfl af.o Bg rfl (En _) ?_))
  refine ω (v:=.agg (Ab (Ay E 98))) (Ì rfl _ _ _ _ _ _ _ rfl (Χ ai _ _ (Ab (Ay E 98)) 91 (0,0) af.o) ϋ rfl Bg) rfl ?_;exact⟨by rw[<-HZ.o];rfl,X.setRow ax.o _⟩
 skip
 go_upto_region 4 with (first
  | (refine Lr 91 (δ 3) aa.o ϋ Bg ?_)
  | (go_at_call 78;(with_reducible refine (f (E) 97 (by decide) (by decide) w1).o.mono ?_);rintro e w2 ⟨rfl,T⟩;have ab:=Z (T.heap aa.o);have ag:=Z (T.heap af.o))
  | (refine Sr 91 (δ 3) (δ 9) rfl ab.o Bg rfl (En _) ?_))
 have X:=(X.t T).setRow (g:=g1) HG.o (Ab (Ay (E) 97));have G:=Χ w2 g1 _ (Ab (Ay (E) 97)) 91 (0,0) ab.o;have H:=Bm ag.o ak.o (Ab (Ay (E) 97));obtain⟨ai,hw⟩:=Xq (w2.setRow g1 (Ab (Ay (E) 97)));rw[hw] at X G H;simp only[hw];have aa:=Z G;have af:=Z H;clear H G hw ab ag T;go_upto_region 6 with (first
  | (refine Lr 91 (δ 3) aa.o ϋ Bg ?_)
  | (go_at_call 78;(with_reducible refine (f (Ay E 97) 98 (by decide) (by decide) ai).o.mono ?_);rintro e w3 ⟨rfl,T⟩;have ab:=Z (T.heap aa.o);have ag:=Z (T.heap af.o))
  | (refine Sr 91 (δ 3) (δ 15) rfl ab.o Bg rfl (En _) ?_))
 have X:=(X.t T).setRow (g:=g1) HG.o (Ab (Ay (Ay E 97) 98));have G:=Χ w3 g1 _ (Ab (Ay (Ay E 97) 98)) 91 (0,0) ab.o;have H:=Bm ag.o ak.o (Ab (Ay (Ay E 97) 98));obtain⟨a7,hw⟩:=Xq (w3.setRow g1 (Ab (Ay (Ay E 97) 98)));rw[hw] at X G H;simp only[hw];have aa:=Z G;have af:=Z H;clear H G hw ab ag T;go_wp2_with (first
  | (refine Lr 91 (δ 3) aa.o ϋ Bg ?_)
  | (refine Sr 91 (δ 2) (δ 16) rfl af.o Bg rfl (En _) ?_))
 refine ω (v:=.agg (Ab (Ay (Ay E 97) 98))) (Ì rfl _ _ _ _ _ _ _ rfl (Χ a7 _ _ (Ab (Ay (Ay E 97) 98)) 91 (0,0) af.o) ϋ rfl Bg) rfl ?_;exact⟨by rw[<-HZ.o];rfl,X.setRow ax.o _⟩
def C8 (p:UInt8->Prop) (E hi:Nat):Ag:=λw=>E<=w.length/\w.length<=hi/\∀ x∈w,p x
section
open Classical
theorem len_le {d:Dfa} {p:UInt8->Prop} {E hi:Nat} (h:Fit d (C8 p E hi)):d.n.length<=hi+2:=by
 refine Gs h (λs x=>if s<hi/\p x then s+1 else hi+1) (λs=>E<=s/\s<=hi) (hi+2) (by omega) (λs x _=>by split<;>omega) λw=>?_
 have hd:∀ v:List UInt8,(List.foldl (λs x=>if s<hi/\p x then s+1 else hi+1) (hi+1) v:Nat)=hi+1:=Gr _ _ λx=>by rw[if_neg (by omega)]
 have key:∀ (v:List UInt8) s,s<=hi->((E<=List.foldl (λs x=>if s<hi/\p x then s+1 else hi+1) s v/\List.foldl (λs x=>if s<hi/\p x then s+1 else hi+1) s v<=hi)↔(E<=s+v.length/\s+v.length<=hi/\∀ x∈v,p x)):=λv=>by
  induction v with
  | nil=>intro s G;simp
  | cons x v H=>
   intro s G;rw[List.foldl_cons];by_cases hx:s<hi/\p x
   ·rw[if_pos hx,H (s+1) (by omega)];simp only[ϑ,List.mem_cons,forall_eq_or_imp,hx.2,true_and];rw[show s+1+v.length=s+(v.length+1) by omega]
   rw[if_neg hx,hd];constructor
   ·rintro⟨_,h⟩;omega
   rintro⟨_,h1,T⟩;rw[ϑ] at h1;exact absurd ⟨by omega,T x Ð⟩ hx
 have:=key w 0 (by omega);rw[ϖ] at this;exact this.symm
end
theorem Yo (p:UInt8->Prop) (a b c d:Nat) (T:a<=b) (X:c<=d) (w:List UInt8):Cat (C8 p a b) (C8 p c d) w↔C8 p (a+c) (b+d) w:=by
 constructor
 ·rintro⟨u,v,rfl,⟨h1,G,E⟩,⟨h4,h5,H⟩⟩;refine⟨by rw[Ν];omega,by rw[Ν];omega,λx hx=>?_⟩;rcases List.mem_append.1 hx with h|h
  ·exact E x h
  exact H x h
 rintro⟨h1,G,E⟩;refine⟨w.take (min b (w.length-c)),w.drop (min b (w.length-c)),(List.take_append_drop _ _).symm,⟨?_,?_,λx hx=>E x (List.mem_of_mem_take hx)⟩,⟨?_,?_,λx hx=>E x (List.mem_of_mem_drop hx)⟩⟩
 ·rw[Ö];omega
 ·rw[Ö];omega
 ·rw[List.length_drop];omega
 rw[List.length_drop];omega
theorem Yn (p:UInt8->Prop) (w:List UInt8):Dj p w↔C8 p 1 1 w:=by
 constructor
 ·rintro⟨x,rfl,hx⟩;exact⟨by simp,by simp,by simpa using hx⟩
 rintro⟨h1,E,G⟩
 match w,h1,E with
 | [x],_,_=>exact⟨x,rfl,G x Ð⟩
theorem Xt (p:UInt8->Prop) (w:List UInt8):w=[]↔C8 p 0 0 w:=by
 constructor
 ·rintro rfl;exact⟨by simp,by simp,by simp⟩
 rintro⟨_,E,_⟩;exact ϭ.1 (by omega)
theorem Xa (p:UInt8->Prop) (w:List UInt8):(C8 p 1 1 w\/C8 p 0 0 w)↔C8 p 0 1 w:=by
 constructor
 ·rintro (⟨h1,G,E⟩|⟨h1,G,E⟩)
  ·exact⟨by omega,by omega,E⟩
  exact⟨by omega,by omega,E⟩
 rintro⟨h1,G,E⟩;by_cases e:w.length=0
 ·exact .inr ⟨by omega,by omega,E⟩
 exact .inl ⟨by omega,by omega,E⟩
theorem Yl {L:Ag} {r:Option Dfa} (h:Lim L r) {n:Nat} (H:n<=64) (E:∀ d,Fit d L->d.n.length<=n):∃ d,r=J d/\Fit d L:=by
 cases r with
 | some d=>exact⟨d,rfl,Q9 h⟩
 | none=>obtain⟨d,h1,G,T⟩:=h;have:=E d ⟨h1,G⟩;omega
theorem Ws {p:UInt8->Prop} {x:Dfa} {a b:Nat} (hx:Fit x (C8 p a b)) (G:a<=b) (hb:b<=1):∀ (n:Nat) (y:Dfa) (c d:Nat) {r:Option Dfa},Fit y (C8 p c d)->c<=d->d+n*b<=6->Dr y x n r->∃ q,r=J q/\Fit q (C8 p (c+n*a) (d+n*b)):=by
 intro n;induction n with
 | zero=>intro y c d r E _ _ h;have T:r=J y:=h;exact⟨y,T,by rw[Nat.zero_mul,Nat.zero_mul];exact E⟩
 | succ n X=>intro y c d r E H aa h;obtain⟨q,hq,hr⟩:=h;have l1:=len_le hx;have l2:=len_le E;rw[Nat.succ_mul] at aa;have hp:2 ^ x.n.length<=8:=μ (Ϲ (by omega) (show x.n.length<=3 by omega)) (by decide);obtain⟨e,rfl,he⟩:=I1 hq E hx (μ (Nat.mul_le_mul l2 hp) (by omega)) (λe he=>by have:=len_le (Fm he (Yo p c d a b H G));omega);obtain⟨q,rfl,hf⟩:=X e (c+a) (d+b) (Fm he (Yo p c d a b H G)) (by omega) (by omega) hr;refine⟨q,rfl,?_⟩;rw[Nat.succ_mul,Nat.succ_mul,show c+(n*a+a)=c+a+n*a by omega,show d+(n*b+b)=d+b+n*b by omega];exact hf
theorem V8 {p:UInt8->Prop} {x:Dfa} (hx:Fit x (Dj p)) {E hi:Nat} (ah:E<hi) (hh:hi<=4) {r:Option Dfa} (h:Fa x E hi r):∃ q,r=J q/\Fit q (C8 p E hi):=by
 have H:=Fm hx (Yn p);obtain⟨e,he,q,hq,G⟩:=h;have T:Fit e (C8 p 0 0):=Fm he (Xt p);obtain⟨q1,rfl,X⟩:=Ws H (Υ _) (Υ _) E e 0 0 T (Υ _) (by omega) hq;rw[ϖ,Nat.mul_one] at X;unfold Eo at G;simp only at G;rw[if_neg (by omega),if_neg (by omega)] at G;obtain⟨o,ho,h3⟩:=G;have ag:Lim (C8 p 0 1) o:=Gm ho λw=>by rw[H.2,T.2,Xa]
 obtain⟨d,rfl,hd⟩:=Yl ag (n:=3) (by omega) λd hd=>len_le hd
 have h4:Dr q1 d ((hi:Int)-E).toNat r:=h3;rw[show ((hi:Int)-E).toNat=hi-E by omega] at h4;obtain⟨q2,rfl,ab⟩:=Ws hd (by omega) (Υ _) (hi-E) q1 E E X (Υ _) (by omega) h4;refine⟨q2,rfl,?_⟩;rw[Nat.mul_zero,Nat.add_zero,Nat.mul_one,show E+(hi-E)=hi by omega] at ab;exact ab
theorem V6 {x:Dfa} {L:Ag} (hx:Fit x L) (X:x.n.length<=6) (G:∀ d,Fit d (Star L)->d.n.length<=3) {r:Option Dfa} (h:Fa x 0 (-1) r):∃ q,r=J q/\Fit q (Star L):=by obtain⟨e,he,q,hq,E⟩:=h;have ab:q=J e:=hq;subst ab;unfold Eo at E;simp only at E;rw[if_neg (by decide),if_pos (by decide)] at E;obtain⟨s,ad,h5⟩:=E;have hp:2 ^ x.n.length<=64:=μ (Ϲ (by omega) X) (by decide);obtain⟨sd,rfl,H⟩:=GL ad hx (by omega) (λd hd=>by have:=G d hd;omega);have T:Fit e (λw=>w=[]):=he;have l1:=Gl T;have ag:2 ^ sd.n.length<=8:=μ (Ϲ (by omega) (G _ H)) (by decide);obtain⟨d,rfl,fd⟩:=I1 h5 T H (μ (Nat.mul_le_mul l1 ag) (by decide)) (λd hd=>by have:=G d (Fm hd (Oz _));omega);exact⟨d,rfl,Fm fd (Oz _)⟩
abbrev isA (x:UInt8):Prop:=x=97
abbrev isB (x:UInt8):Prop:=x=98
abbrev D9 (x:UInt8):Prop:=x=97\/x=98
def abL:Ag:=Star (Cat (Dj isA) (Dj isB))
def Tx:Ag:=λw=>∃ u,w=u++[98]/\∀ x∈u,isA x
theorem DO {d:Dfa} (h:Fit d (Cat (Dj isA) (Dj isB))):d.n.length<=4:=by
 refine Gs h (λs x=>if s=0/\x=97 then 1 else if s=1/\x=98 then 2 else 3) (λs=>s=2) 4 (by omega) (λs x _=>by split<;>(try split)<;>omega) λw=>?_
 have e:Cat (Dj isA) (Dj isB) w↔w=[97,98]:=by
  constructor
  ·rintro⟨_,_,rfl,⟨x,rfl,rfl⟩,⟨y,rfl,rfl⟩⟩;rfl
  rintro rfl;exact⟨[97],[98],rfl,⟨97,rfl,rfl⟩,⟨98,rfl,rfl⟩⟩
 rw[e];have G:∀ v:List UInt8,(List.foldl (λs x=>if s=0/\x=97 then 1 else if s=1/\x=98 then 2 else 3) 3 v:Nat)=3:=Gr _ _ λx=>by simp
 rcases w with _|⟨x,_|⟨y,_|⟨z,w⟩⟩⟩
 ·simp
 ·by_cases hx:x=97<;>simp[hx]
 ·by_cases hx:x=97<;>by_cases E:y=98<;>simp[hx,E]
 by_cases hx:x=97<;>by_cases E:y=98<;>simp[hx,E,G]
theorem DN {d:Dfa} (h:Fit d abL):d.n.length<=3:=by
 refine Gs h (λs x=>if s=0/\x=97 then 1 else if s=1/\x=98 then 0 else 2) (λs=>s=0) 3 (by omega) (λs x _=>by split<;>(try split)<;>omega) λw=>?_
 have X:abL w->(List.foldl (λs x=>if s=0/\x=97 then 1 else if s=1/\x=98 then 0 else 2) 0 w:Nat)=0:=by
  intro E;unfold abL at E;induction E with
  | nil=>rfl
  | app hu hv G=>obtain⟨_,_,rfl,⟨x,rfl,rfl⟩,⟨y,rfl,rfl⟩⟩:=hv;rw[List.foldl_append,G];rfl
 refine⟨X,λh=>?_⟩;have key:∀ (n:Nat) (w:List UInt8),w.length<=n->(List.foldl (λs x=>if s=0/\x=97 then 1 else if s=1/\x=98 then 0 else 2) 0 w:Nat)=0->∃ k,pw (Cat (Dj isA) (Dj isB)) k w:=by
  have H:∀ v:List UInt8,(List.foldl (λs x=>if s=0/\x=97 then 1 else if s=1/\x=98 then 0 else 2) 2 v:Nat)=2:=Gr _ _ λx=>by simp
  intro n;induction n with
  | zero=>intro w E _;obtain rfl:=ϭ.1 (show w.length=0 by omega);exact⟨0,rfl⟩
  | succ n G=>
   intro w E h;rcases w with _|⟨x,_|⟨y,w⟩⟩
   ·exact⟨0,rfl⟩
   ·by_cases hx:x=97<;>simp[hx] at h
   by_cases hx:x=97
   ·subst hx;by_cases T:y=98
    ·subst T;obtain⟨k,hk⟩:=G w (by simp at E;omega) h;exact⟨k+1,(F6 _ k _).2 ⟨[97,98],w,rfl,⟨[97],[98],rfl,⟨97,rfl,rfl⟩,⟨98,rfl,rfl⟩⟩,hk⟩⟩
    simp[T,H] at h
   simp[hx,H] at h
 exact (Pv _ w).2 (key w.length w (Υ _) h)
theorem Tw (w:List UInt8):Cat (λw=>∀ x∈w,isA x) (Dj isB) w↔Tx w:=by
 constructor
 ·rintro⟨u,_,rfl,hu,⟨x,rfl,rfl⟩⟩;exact⟨u,rfl,hu⟩
 rintro⟨u,rfl,hu⟩;exact⟨u,[98],rfl,hu,⟨98,rfl,rfl⟩⟩
theorem CW {d:Dfa} (h:Fit d Tx):d.n.length<=3:=by
 refine Gs h (λs x=>if s=0/\x=97 then 0 else if s=0/\x=98 then 1 else 2) (λs=>s=1) 3 (by omega) (λs x _=>by split<;>(try split)<;>omega) λw=>?_
 have T:∀ v:List UInt8,(List.foldl (λs x=>if s=0/\x=97 then 0 else if s=0/\x=98 then 1 else 2) 2 v:Nat)=2:=Gr _ _ λx=>by simp
 have h1:∀ v:List UInt8,(List.foldl (λs x=>if s=0/\x=97 then 0 else if s=0/\x=98 then 1 else 2) 1 v:Nat)=1↔v=[]:=λv=>by
  cases v with
  | nil=>simp
  | cons x v=>simp[T]
 induction w with
 | nil=>
  constructor
  ·rintro⟨u,e,_⟩;simp at e
  intro h;simp at h
 | cons x w X=>
  rw[List.foldl_cons];by_cases hx:x=97
  ·subst hx;refine Iff.trans ?_ X;constructor
   ·rintro⟨u,e,hu⟩;cases u with
    | nil=>injection e with e _;exact absurd e (by decide)
    | cons y u=>
     injection e with G H
     exact⟨u,H,λz E=>hu z (List.mem_cons_of_mem _ E)⟩
   rintro⟨u,rfl,hu⟩;refine⟨97::u,rfl,λz E=>?_⟩;rcases List.mem_cons.1 E with rfl|E
   ·rfl
   exact hu z E
  by_cases hb:x=98
  ·subst hb;have e:(if 0=0/\(98:UInt8)=97 then 0 else if 0=0/\(98:UInt8)=98 then 1 else 2:Nat)=1:=by decide
   rw[e,h1];constructor
   ·rintro⟨u,e,hu⟩;cases u with
    | nil=>injection e
    | cons y u=>
     injection e with G H
     have:=hu y Ð;rw[<-G] at this;exact absurd this (by decide)
   rintro rfl;exact⟨[],rfl,λz E=>absurd E (List.not_mem_nil)⟩
  simp only[hx,hb,and_false,if_false,T];constructor
  ·rintro⟨u,e,hu⟩;exfalso
   cases u with
   | nil=>injection e with e _;exact hb e
   | cons y u=>
    injection e with G H
    exact hx (G.trans (hu y Ð))
  intro h;omega
def exN (A B E:Cls):Nat->List RNode
 | 0=>[⟨3,0,0,A,0,0⟩,⟨8,0,0,0#256,0,-1⟩]
 | 1=>[⟨3,0,0,E,0,0⟩,⟨8,0,0,0#256,0,-1⟩]
 | 2=>[⟨3,0,0,B,0,0⟩]
 | 3=>[⟨3,0,0,A,0,0⟩,⟨3,0,0,B,0,0⟩,⟨4,0,1,0#256,0,0⟩,⟨8,2,0,0#256,0,-1⟩]
 | 4=>[⟨3,0,0,A,0,0⟩,⟨8,0,0,0#256,1,2⟩]
 | 5=>[⟨2,0,0,0#256,0,0⟩,⟨3,0,0,B,0,0⟩,⟨5,0,1,0#256,0,0⟩]
 | 6=>[⟨3,0,0,A,0,0⟩,⟨8,0,0,0#256,0,-1⟩,⟨3,0,0,B,0,0⟩,⟨4,1,2,0#256,0,0⟩]
 | 7=>[⟨2,0,0,0#256,0,0⟩]
 | 8=>[⟨3,0,0,E,0,0⟩,⟨8,0,0,0#256,2,3⟩]
 | _=>[⟨3,0,0,A,0,0⟩,⟨8,0,0,0#256,0,-1⟩,⟨7,1,0,0#256,0,0⟩]
def exL:Nat->Ag
 | 0=>λw=>∀ x∈w,isA x
 | 1=>λw=>∀ x∈w,D9 x
 | 2=>Dj isB
 | 3=>abL
 | 4=>C8 isA 1 2
 | 5=>C8 isB 0 1
 | 6=>Tx
 | 7=>λw=>w=[]
 | 8=>C8 D9 2 3
 | _=>λw=>¬ ∀ x∈w,isA x
theorem ME {d:Dfa} (h:Fit d (λw=>¬ ∀ x∈w,isA x)):d.n.length<=2:=by
 refine Gs h (λs x=>if s=0/\x=97 then 0 else 1) (λs=>s=1) 2 (by omega) (λs x _=>by split<;>omega) λw=>?_
 have h1:∀ v:List UInt8,(List.foldl (λs x=>if s=0/\x=97 then 0 else 1) 1 v:Nat)=1:=Gr _ _ λx=>by simp
 induction w with
 | nil=>simp
 | cons x w E=>
  rw[List.foldl_cons];by_cases hx:x=97
  ·subst hx;refine Iff.trans ?_ E;simp
  simp[hx,h1]
theorem XT {A B AB:Cls} (hA:∀ x:UInt8,A.getLsbD x.toNat=Α↔isA x) (hB:∀ x:UInt8,B.getLsbD x.toNat=Α↔isB x) (aj:∀ x:UInt8,AB.getLsbD x.toNat=Α↔D9 x) (k:Nat) {r:Option Dfa} (h:Dn (exN A B AB k) [] r) :
  ∃ d,r=J d/\Fit d (exL k)/\d.n.length<=5:=by
 have T:∀ {C:Cls} {p:UInt8->Prop} {x:Dfa} (_:∀ x:UInt8,C.getLsbD x.toNat=Α↔p x) (_:Cano x/\∀ w,x.has w=Α↔∃ y:UInt8,w=[y]/\C.getLsbD y.toNat=Α),Fit x (Dj p):=λhC hx=>⟨hx.1,λw=>(hx.2 w).trans (by unfold Dj;simp only[hC])⟩
 have ae:∀ {p:UInt8->Prop} {x:Dfa} {r:Option Dfa} (_:Fit x (Dj p)) (_:Fa x 0 (-1) r),∃ d,r=J d/\Fit d (λw=>∀ x∈w,p x):=λhx h=>by obtain⟨d,e,hd⟩:=V6 hx (by have:=Jy hx;omega) (λd hd=>by have:=Kj (Fm hd (U1 _));omega) h;exact⟨d,e,Fm hd (U1 _)⟩
 match k,h with
 | 0,h=>obtain⟨_,⟨H,rfl,E⟩,q,h1,h⟩:=h;obtain⟨d,rfl,hd⟩:=ae (T hA E) h1;have G:r=J d:=h;exact⟨d,G,hd,by have:=Kj hd;omega⟩
 | 1,h=>obtain⟨_,⟨H,rfl,E⟩,q,h1,h⟩:=h;obtain⟨d,rfl,hd⟩:=ae (T aj E) h1;have G:r=J d:=h;exact⟨d,G,hd,by have:=Kj hd;omega⟩
 | 2,h=>obtain⟨_,⟨H,rfl,E⟩,h⟩:=h;have G:r=J H:=h;exact⟨H,G,T hB E,by have:=Jy (T hB E);omega⟩
 | 3,h=>obtain⟨_,⟨H,rfl,E⟩,_,⟨X,rfl,ag⟩,q,h1,h⟩:=h;have f1:=T hA E;have f2:=T hB ag;have aa:Cp H X q:=h1;have l1:=Jy f1;have l2:=Jy f2;have hp:2 ^ X.n.length<=8:=μ (Ϲ (by omega) l2) (by decide);obtain⟨x3,rfl,f3⟩:=I1 aa f1 f2 (μ (Nat.mul_le_mul l1 hp) (by decide)) (λd hd=>by have:=DO hd;omega);obtain⟨q2,h2,h⟩:=h;have aq:Fa x3 0 (-1) q2:=h2;obtain⟨d,rfl,hd⟩:=V6 f3 (by have:=DO f3;omega) (λd hd=>DN hd) aq;have G:r=J d:=h;exact⟨d,G,hd,by have:=DN hd;omega⟩
 | 4,h=>obtain⟨_,⟨H,rfl,E⟩,q,h1,h⟩:=h;have aa:Fa H 1 ((2:Nat):Int) q:=h1;obtain⟨d,rfl,hd⟩:=V8 (T hA E) (by omega) (by omega) aa;have G:r=J d:=h;exact⟨d,G,hd,by have:=len_le hd;omega⟩
 | 5,h=>
  obtain⟨_,⟨H,rfl,E⟩,_,⟨X,rfl,ag⟩,q,h1,h⟩:=h;have f2:=Fm (T hB ag) (Yn _);have f1:Fit H (C8 isB 0 0):=⟨E.1,λw=>(E.2 w).trans (Xt _ w)⟩;have aa:Lim (λw=>H.has w=Α\/X.has w=Α) q:=h1;have ar:Lim (C8 isB 0 1) q:=Gm aa λw=>by rw[f1.2,f2.2,or_comm,Xa]
  obtain⟨d,rfl,hd⟩:=Yl ar (n:=3) (by omega) λd hd=>len_le hd
  have G:r=J d:=h;exact⟨d,G,hd,by have:=len_le hd;omega⟩
 | 6,h=>obtain⟨_,⟨H,rfl,E⟩,q,h1,h⟩:=h;obtain⟨X,rfl,f2⟩:=ae (T hA E) h1;obtain⟨_,⟨x3,rfl,au⟩,q3,h3,h⟩:=h;have f3:=T hB au;have ax:Cp X x3 q3:=h3;have hp:2 ^ x3.n.length<=8:=μ (Ϲ (by omega) (Jy f3)) (by decide);obtain⟨d,rfl,hd⟩:=I1 ax f2 f3 (μ (Nat.mul_le_mul (Kj f2) hp) (by decide)) (λd hd=>by have:=CW (Fm hd Tw);omega);have G:r=J d:=h;exact⟨d,G,Fm hd Tw,by have:=CW (Fm hd Tw);omega⟩
 | 7,h=>obtain⟨_,⟨H,rfl,E⟩,h⟩:=h;have G:r=J H:=h;exact⟨H,G,E,by have:=Gl E;omega⟩
 | 8,h=>obtain⟨_,⟨H,rfl,E⟩,q,h1,h⟩:=h;have aa:Fa H 2 ((3:Nat):Int) q:=h1;obtain⟨d,rfl,hd⟩:=V8 (T aj E) (by omega) (by omega) aa;have G:r=J d:=h;exact⟨d,G,hd,by have:=len_le hd;omega⟩
 | k+9,h=>obtain⟨_,⟨H,rfl,E⟩,q,h1,h⟩:=h;obtain⟨X,rfl,f2⟩:=ae (T hA E) h1;obtain⟨_,⟨d,rfl,hd⟩,h⟩:=h;have f:Fit d (λw=>¬ ∀ x∈w,isA x):=⟨hd.1,λw=>(hd.2 w).trans (not_congr (f2.2 w))⟩;have G:r=J d:=h;exact⟨d,G,f,by have:=ME f;omega⟩
def exQ (n:Nat):List RNode:=exN (Bw 1) (Bw 2) (Bw 3) (n % 10)
theorem XC (c:Cls):Η.built 96 [(0,.int Φ 3),(1,.agg (Ab c))]=J (rnC ⟨3,0,0,c,0,0⟩):=by kernel_rfl
theorem YD:Η.built 96 [(0,.int Φ 8),(5,.int Φ (-1))]=J (rnC ⟨8,0,0,0#256,0,-1⟩):=by kernel_rfl
theorem YI:Η.built 96 [(0,.int Φ 4),(2,.int Φ 0),(3,.int Φ 1)]=J (rnC ⟨4,0,1,0#256,0,0⟩):=by kernel_rfl
theorem YC:Η.built 96 [(0,.int Φ 8),(2,.int Φ 2),(5,.int Φ (-1))]=J (rnC ⟨8,2,0,0#256,0,-1⟩):=by kernel_rfl
theorem YF:Η.built 96 [(0,.int Φ 8),(4,.int Φ 1),(5,.int Φ 2)]=J (rnC ⟨8,0,0,0#256,1,2⟩):=by kernel_rfl
theorem YJ:Η.built 96 [(0,.int Φ 2)]=J (rnC ⟨2,0,0,0#256,0,0⟩):=by kernel_rfl
theorem YK:Η.built 96 [(0,.int Φ 5),(2,.int Φ 0),(3,.int Φ 1)]=J (rnC ⟨5,0,1,0#256,0,0⟩):=by kernel_rfl
theorem YH:Η.built 96 [(0,.int Φ 4),(2,.int Φ 1),(3,.int Φ 2)]=J (rnC ⟨4,1,2,0#256,0,0⟩):=by kernel_rfl
theorem YE:Η.built 96 [(0,.int Φ 8),(4,.int Φ 2),(5,.int Φ 3)]=J (rnC ⟨8,0,0,0#256,2,3⟩):=by kernel_rfl
theorem YG:Η.built 96 [(0,.int Φ 7),(2,.int Φ 1)]=J (rnC ⟨7,1,0,0#256,0,0⟩):=by kernel_rfl
theorem Z5 (n:Nat) (hn:n<=1000) (w:Γ) :
  ϛ Η 27 #[iv n] w λe w'=>∃ g,e=Ψ (U (J ⟨g,0,I⟩) (exQ n).length (exQ n).length)/\w'.heap[g]? = J (Β (flR (exQ n)).toArray 96 (0,0))/\Ext w w':=by
 have f1:∀ W,ϟ (ϛ Η 54 #[.int Φ 1] W λe w'=>e=Ψ (.agg (Ab (Bw 1)))/\Ext W w'):=λW=>Z (Ra 1 (by decide) W)
 have f2:∀ W,ϟ (ϛ Η 54 #[.int Φ 2] W λe w'=>e=Ψ (.agg (Ab (Bw 2)))/\Ext W w'):=λW=>Z (Ra 2 (by decide) W)
 have f3:∀ W,ϟ (ϛ Η 54 #[.int Φ 3] W λe w'=>e=Ψ (.agg (Ab (Bw 3)))/\Ext W w'):=λW=>Z (Ra 3 (by decide) W)
 obtain⟨k,hk⟩:=Xq (n % 10);have a6:k<10:=by omega
 have HK:ϟ ((n:Int) % 10=(k:Int)):=Z (by omega);have hQ:exQ n=exN (Bw 1) (Bw 2) (Bw 3) k:=by unfold exQ;rw[hk]
 rw[hQ];clear hQ hk;have af:=Z XC;have ab:=Z YD;have a7:=Z YI;have a8:=Z YC;have ba:=Z YF;have az:=Z YJ;have bb:=Z YK;have bc:=Z YH;have bd:=Z YE;have be:=Z YG;go_enter Tryz.func27,Tryz.ntmps27;go_upto_region 1 with (fail)
 go_upto_region 2 with (first
  | (go_at_call 54;(with_reducible refine (f1 w).o.mono ?_);rintro e w1 ⟨rfl,ag⟩)
  | (refine Bk rfl 96 _ rfl (rnC ⟨3,0,0,Bw 1,0,0⟩) ?_ ?_;(simp[á,η];with_reducible exact af.o _))
  | (refine Sr 96 (δ 3) (δ 7) rfl (Ad w1 (Β Cn 96)) (Dh _) rfl (Li _) ?_))
 have ah:=(ag.alloc (Β Cn 96)).setRow ag.size (rnC ⟨3,0,0,Bw 1,0,0⟩);have ai:=Χ (w1.alloc (Β Cn 96)) w1.heap.size _ (rnC ⟨3,0,0,Bw 1,0,0⟩) _ _ (Ad w1 (Β Cn 96));obtain⟨v3,aj⟩:=Xq ((w1.alloc (Β Cn 96)).setRow w1.heap.size (rnC ⟨3,0,0,Bw 1,0,0⟩));rw[aj] at ah ai;simp only[aj];generalize w1.heap.size=g3 at *;clear aj ag;go_upto_region 3 with (first
  | (go_at_call 54;(with_reducible refine (f2 v3).o.mono ?_);rintro e H ⟨rfl,ak⟩)
  | (refine Bk rfl 96 _ rfl (rnC ⟨3,0,0,Bw 2,0,0⟩) ?_ ?_;(simp[á,η];with_reducible exact af.o _))
  | (refine Sr 96 (δ 4) (δ 9) rfl (Ad H (Β Cn 96)) (Dh _) rfl (Li _) ?_))
 have ad:=(ak.alloc (Β Cn 96)).setRow ak.size (rnC ⟨3,0,0,Bw 2,0,0⟩);have an:=Χ (H.alloc (Β Cn 96)) H.heap.size _ (rnC ⟨3,0,0,Bw 2,0,0⟩) _ _ (Ad H (Β Cn 96));obtain⟨v4,ao⟩:=Xq ((H.alloc (Β Cn 96)).setRow H.heap.size (rnC ⟨3,0,0,Bw 2,0,0⟩));rw[ao] at ad an;simp only[ao];generalize H.heap.size=g4 at *;clear ao ak;go_upto_region 4 with (first
  | (go_at_call 54;(with_reducible refine (f3 v4).o.mono ?_);rintro e T ⟨rfl,aq⟩)
  | (refine Bk rfl 96 _ rfl (rnC ⟨3,0,0,Bw 3,0,0⟩) ?_ ?_;(simp[á,η];with_reducible exact af.o _))
  | (refine Sr 96 (δ 5) (δ 11) rfl (Ad T (Β Cn 96)) (Dh _) rfl (Li _) ?_))
 have X:=(aq.alloc (Β Cn 96)).setRow aq.size (rnC ⟨3,0,0,Bw 3,0,0⟩);have ar:=Χ (T.alloc (Β Cn 96)) T.heap.size _ (rnC ⟨3,0,0,Bw 3,0,0⟩) _ _ (Ad T (Β Cn 96));obtain⟨E,au⟩:=Xq ((T.alloc (Β Cn 96)).setRow T.heap.size (rnC ⟨3,0,0,Bw 3,0,0⟩));rw[au] at X ar;simp only[au];generalize T.heap.size=g5 at *;clear au aq;have G:=(ah.t ad).trans X;have H3:=Z (X.heap (ad.heap ai));have H4:=Z (X.heap an);have H5:=Z ar;clear ah ad X ai an ar f1 f2 f3;go_upto_region 5 with (fail)
 try simp only[HK.o]
 have bh:k=0\/k=1\/k=2\/k=3\/k=4\/k=5\/k=6\/k=7\/k=8\/k=9:=by omega
 clear a6 HK;rcases bh with rfl|rfl|rfl|rfl|rfl|rfl|rfl|rfl|rfl|rfl
 ·go_wp2_with (first
   | (refine Lr 96 (δ 3) H3.o Ù (Dh _) ?_)
   | (refine Bk rfl 96 _ rfl (rnC ⟨8,0,0,0#256,0,-1⟩) ?_ ?_;(simp[á,η];with_reducible exact ab.o))
   | (refine F3 rfl [⟨3,0,0,Bw 1,0,0⟩,⟨8,0,0,0#256,0,-1⟩] 2 rfl (by simp) (by simp) _ rfl (by go_simp) ?_))
  go_ret;exact⟨_,rfl,Ad E _,G.alloc _⟩
 ·go_wp2_with (first
   | (refine Lr 96 (δ 5) H5.o Ù (Dh _) ?_)
   | (refine Bk rfl 96 _ rfl (rnC ⟨8,0,0,0#256,0,-1⟩) ?_ ?_;(simp[á,η];with_reducible exact ab.o))
   | (refine F3 rfl [⟨3,0,0,Bw 3,0,0⟩,⟨8,0,0,0#256,0,-1⟩] 2 rfl (by simp) (by simp) _ rfl (by go_simp) ?_))
  go_ret;exact⟨_,rfl,Ad E _,G.alloc _⟩
 ·go_wp2_with (first
   | (refine Lr 96 (δ 4) H4.o Ù (Dh _) ?_)
   | (refine F3 rfl [⟨3,0,0,Bw 2,0,0⟩] 1 rfl (by simp) (by simp) _ rfl (by go_simp) ?_))
  go_ret;exact⟨_,rfl,Ad E _,G.alloc _⟩
 ·go_wp2_with (first
   | (refine Lr 96 (δ 3) H3.o Ù (Dh _) ?_)
   | (refine Lr 96 (δ 4) H4.o Ù (Dh _) ?_)
   | (refine Bk rfl 96 _ rfl (rnC ⟨4,0,1,0#256,0,0⟩) ?_ ?_;(simp[á,η];with_reducible exact a7.o))
   | (refine Bk rfl 96 _ rfl (rnC ⟨8,2,0,0#256,0,-1⟩) ?_ ?_;(simp[á,η];with_reducible exact a8.o))
   | (refine F3 rfl [⟨3,0,0,Bw 1,0,0⟩,⟨3,0,0,Bw 2,0,0⟩,⟨4,0,1,0#256,0,0⟩,⟨8,2,0,0#256,0,-1⟩] 4 rfl (by simp) (by simp) _ rfl (by go_simp) ?_))
  go_ret;exact⟨_,rfl,Ad E _,G.alloc _⟩
 ·go_wp2_with (first
   | (refine Lr 96 (δ 3) H3.o Ù (Dh _) ?_)
   | (refine Bk rfl 96 _ rfl (rnC ⟨8,0,0,0#256,1,2⟩) ?_ ?_;(simp[á,η];with_reducible exact ba.o))
   | (refine F3 rfl [⟨3,0,0,Bw 1,0,0⟩,⟨8,0,0,0#256,1,2⟩] 2 rfl (by simp) (by simp) _ rfl (by go_simp) ?_))
  go_ret;exact⟨_,rfl,Ad E _,G.alloc _⟩
 ·go_wp2_with (first
   | (refine Bk rfl 96 _ rfl (rnC ⟨2,0,0,0#256,0,0⟩) ?_ ?_;(simp[á,η];with_reducible exact az.o))
   | (refine Lr 96 (δ 4) H4.o Ù (Dh _) ?_)
   | (refine Bk rfl 96 _ rfl (rnC ⟨5,0,1,0#256,0,0⟩) ?_ ?_;(simp[á,η];with_reducible exact bb.o))
   | (refine F3 rfl [⟨2,0,0,0#256,0,0⟩,⟨3,0,0,Bw 2,0,0⟩,⟨5,0,1,0#256,0,0⟩] 3 rfl (by simp) (by simp) _ rfl (by go_simp) ?_))
  go_ret;exact⟨_,rfl,Ad E _,G.alloc _⟩
 ·go_wp2_with (first
   | (refine Lr 96 (δ 3) H3.o Ù (Dh _) ?_)
   | (refine Bk rfl 96 _ rfl (rnC ⟨8,0,0,0#256,0,-1⟩) ?_ ?_;(simp[á,η];with_reducible exact ab.o))
   | (refine Lr 96 (δ 4) H4.o Ù (Dh _) ?_)
   | (refine Bk rfl 96 _ rfl (rnC ⟨4,1,2,0#256,0,0⟩) ?_ ?_;(simp[á,η];with_reducible exact bc.o))
   | (refine F3 rfl [⟨3,0,0,Bw 1,0,0⟩,⟨8,0,0,0#256,0,-1⟩,⟨3,0,0,Bw 2,0,0⟩,⟨4,1,2,0#256,0,0⟩] 4 rfl (by simp) (by simp) _ rfl (by go_simp) ?_))
  go_ret;exact⟨_,rfl,Ad E _,G.alloc _⟩
 ·go_wp2_with (first
   | (refine Bk rfl 96 _ rfl (rnC ⟨2,0,0,0#256,0,0⟩) ?_ ?_;(simp[á,η];with_reducible exact az.o))
   | (refine F3 rfl [⟨2,0,0,0#256,0,0⟩] 1 rfl (by simp) (by simp) _ rfl (by go_simp) ?_))
  go_ret;exact⟨_,rfl,Ad E _,G.alloc _⟩
 ·go_wp2_with (first
   | (refine Lr 96 (δ 5) H5.o Ù (Dh _) ?_)
   | (refine Bk rfl 96 _ rfl (rnC ⟨8,0,0,0#256,2,3⟩) ?_ ?_;(simp[á,η];with_reducible exact bd.o))
   | (refine F3 rfl [⟨3,0,0,Bw 3,0,0⟩,⟨8,0,0,0#256,2,3⟩] 2 rfl (by simp) (by simp) _ rfl (by go_simp) ?_))
  go_ret;exact⟨_,rfl,Ad E _,G.alloc _⟩
 go_wp2_with (first
  | (refine Lr 96 (δ 3) H3.o Ù (Dh _) ?_)
  | (refine Bk rfl 96 _ rfl (rnC ⟨8,0,0,0#256,0,-1⟩) ?_ ?_;(simp[á,η];with_reducible exact ab.o))
  | (refine Bk rfl 96 _ rfl (rnC ⟨7,1,0,0#256,0,0⟩) ?_ ?_;(simp[á,η];with_reducible exact be.o))
  | (refine F3 rfl [⟨3,0,0,Bw 1,0,0⟩,⟨8,0,0,0#256,0,-1⟩,⟨7,1,0,0#256,0,0⟩] 3 rfl (by simp) (by simp) _ rfl (by go_simp) ?_))
 go_ret;exact⟨_,rfl,Ad E _,G.alloc _⟩
end Go.Proofs.YtilncahcpjlfnaaGreatDoor
