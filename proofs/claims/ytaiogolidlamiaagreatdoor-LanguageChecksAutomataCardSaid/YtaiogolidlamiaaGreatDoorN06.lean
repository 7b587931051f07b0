import Derived.Test.YtaiogolidlamiaaGreatDoorN04
import Derived.Test.YtaiogolidlamiaaGreatDoorN05
import Derived.Test.YtaiogolidlamiaaGreatDoorN03
set_option linter.unusedVariables false
set_option linter.unusedSimpArgs false
open Array renaming getElem?_eq_none → ÿ
open Bool renaming true → Ξ, false → Τ
open Go renaming World → Λ, Value → Ν, TypeId → Á, cell_of_row → γ, size_setRow → ò, Calls → ϓ, info_parts → Ϟ, heap_alloc2_new → Ϗ, wpList_load_row → Ο, wpList_store_row → Φ, setRow_heap → μ, wpList_make_full → ϩ, maxLen → ϛ, wpList_append_lies → Ϙ, cell_one_new → ϭ, frozen_of_row → Ϸ, setCell_eq_setRow → Ϧ, bodyPost_ret → ω, wpQuiet_step → è
open Go.Act renaming put → Ϛ
open Go.Ending renaming returned → θ
open Go.IntKind renaming i64 → ε
open Go.Lib renaming hid → Α
open Go.Obj renaming cells → Ε
open Go.Operand renaming tmp → η
open Go.Proofs.Tryz renaming prog → Ζ, underlying108 → Ϫ, underlying68 → ϔ, underlying28 → Ã, underlying30 → Κ, zeroCells108 → ξ
open Go.RowKit renaming Hid → À
open Go.Value renaming slice → Β, oneCell' → ό, slice → Ϥ, bool → ο, tuple → ϙ
open Go.World renaming size_alloc → Ρ, ownsRow_nil → Ô, ownsRow → Ϡ
open Int renaming toNat_natCast → å
open List renaming length_append → Υ, setIfInBounds_toArray → Ι, set_cons_zero → Χ, set_cons_succ → Ψ, range → ι, replicate → ζ, map_append → ϝ, length_set → ϒ, ext_getElem? → ϥ, getElem?_map → ϕ, getD_eq_getElem?_getD → Η, getElem?_set → Ï, getElem?_append_left → Ϣ, getElem?_append_right → ϗ, length_map → ϋ
open Nat renaming le_trans → ψ, lt_of_lt_of_le → δ, le_refl → ν, le_of_eq → à
open Option renaming some → Δ, none → Γ
open Option.some renaming inj → ύ
namespace Go.Proofs.YtaiogolidlamiaaGreatDoor
set_option maxRecDepth 100000
set_option maxHeartbeats 4000000
open Go.RowKit Go.Shelf
theorem Sl.setRow {W:Λ} {v:Ν} {k n:Nat} {f:Nat->Ν} {g:Nat} {cs:Array Ν} {e:Á} {fr:Nat × Nat} (h:Sl W v k n f) (hg:W.heap[g]? = Δ (Ε cs e fr)) (J:∀ i,i<n*k->∀ o:Nat,cs[o]?≠Δ (f i)) (D:0<k) (E:Array Ν):Sl (W.setRow g E) v k n f:=by
 obtain⟨G,h|⟨hn,b,M,T,hv,U,I⟩⟩:=h
 ·exact⟨G,.inl h⟩
 ·have aa:b≠g:=λe=>by
   subst e;have:=I 0 (Nat.mul_pos hn D);rw[γ W b _ cs _ fr hg] at this;exact J 0 (Nat.mul_pos hn D) _ this
  exact⟨G,.inr ⟨hn,b,M,T,hv,by rw[ò];exact U,λi hi=>(Yi W g E _ aa).trans (I i hi)⟩⟩
theorem D2 {P:Program} {o:Oper} {a:Act} {w:Λ} (ty:Á) (x:Operand) (D:o.op=.load ty x) (g:Nat) (E:a.eval x=.pointer (Δ ⟨g,0,Γ⟩)) (t:Á) (cs:Array Ν) (fr:Nat × Nat) (d:TypeDesc) (hg:w.heap[g]? = Δ (Ε cs t fr))
  (hu:P.underlying ty=Δ d) (hd:(match d with|.struct _|.array _ _=>Ξ|_=>Τ)=Ξ) (hi:(P.info? ty).map (·.size)=Δ cs.size):(execOp a.eval o).run P w=.ok (.value (.agg cs)) w:=by
 unfold execOp;simp only[D,E,Instr.loadAt,Instr.sureAddr,Sem.run_bind,Sem.run_pure,Result.andThen_ok,run_loadVar_row w g t ty cs fr d hg hu hd hi]
theorem Ad:(Ζ.info? 30).map (·.size)=Δ 3:=by kernel_rfl
def dA (D vn va:Ν):Array Ν:=#[D,vn,va]
theorem Aq (D vn va:Ν) (E:D.oneCell'=Ξ) (G:vn.oneCell'=Ξ) (I:va.oneCell'=Ξ):(dA D vn va).all (·.oneCell')=Ξ:=by simp[dA,E,G,I]
theorem Yw (a:Option Addr) (n c:Nat):Ζ.built 30 [(0,Β a n c)]=Δ (dA (Β a n c) (Β Γ 0 0) (Β Γ 0 0)):=by kernel_rfl
def RowsO (W:Λ) (base:Nat) (vs:List Ν) (N:List (List Nat)) (av:Option Nat->Prop):Prop:=
 vs.length=N.length/\∀ j,j<N.length->OwnI W base (vs.getD j undef) (N.getD j [])/\¬ av (vs.getD j undef).ownBlock
theorem RowsO.kept {W W':Λ} {base:Nat} {vs:List Ν} {N:List (List Nat)} {av:Option Nat->Prop} {row:Option Nat} (h:RowsO W base vs N av) (hg:W.grownBy W' row)
  (E:∀ v l,OwnI W base v l->¬ av v.ownBlock->v.ownBlock=Γ\/v.ownBlock≠row):RowsO W' base vs N av:=
 ⟨h.1,λj D=>⟨(h.2 j D).1.kept hg (E _ _ (h.2 j D).1 (h.2 j D).2),(h.2 j D).2⟩⟩
theorem RowsO.alloc {W:Λ} {base:Nat} {vs:List Ν} {N:List (List Nat)} {av:Option Nat->Prop} (h:RowsO W base vs N av) (o:Obj):RowsO (W.alloc o) base vs N av:=
 ⟨h.1,λj D=>⟨(h.2 j D).1.alloc o,(h.2 j D).2⟩⟩
theorem RowsO.av {W:Λ} {base:Nat} {vs:List Ν} {N:List (List Nat)} {av av':Option Nat->Prop} (h:RowsO W base vs N av) (ha:∀ v l,OwnI W base v l->¬ av v.ownBlock->¬ av' v.ownBlock):RowsO W base vs N av':=
 ⟨h.1,λj D=>⟨(h.2 j D).1,ha _ _ (h.2 j D).1 (h.2 j D).2⟩⟩
theorem RowsO.snoc {W:Λ} {base:Nat} {vs:List Ν} {N:List (List Nat)} {av:Option Nat->Prop} (h:RowsO W base vs N av) {v:Ν} {r:List Nat} (D:OwnI W base v r) (ha:¬ av v.ownBlock):RowsO W base (vs++[v]) (N++[r]) av:=by
 refine⟨by simp[h.1],λj E=>?_⟩;rw[Υ,List.length_singleton] at E;by_cases e:j<N.length
 ·rw[Bt _ _ _ _ (by rw[h.1];exact e),Bt _ _ _ _ e];exact h.2 j e
 ·obtain rfl:j=N.length:=by omega
  have:(vs++[v]).getD N.length undef=v:=by rw[<-h.1];exact Cm _ _ _
  rw[this,Cm];exact⟨D,ha⟩
theorem RowsO.rows {W:Λ} {base b':Nat} {vs:List Ν} {N:List (List Nat)} {av:Option Nat->Prop} (h:RowsO W base vs N av) {v:Ν} (hv:W.ownsRow b' 68 1 v vs.length vs) (hn:N.length<=4611686018427387904) (D:∀ j,j<N.length->(N.getD j []).length<=4611686018427387904):Rows W v N:=by
 refine⟨vs,h.1,?_,λi hi=>(h.2 i hi).1.ints (D i hi)⟩;have:=Sl.of_owns hv (by rw[h.1];exact hn) undef;rw[h.1] at this;exact this
def Near (W W':Λ):Prop:=W.heap.size<=W'.heap.size/\∀ k,k<W.heap.size->W'.heap[k]? = W.heap[k]?\/∃ cs fr,W.heap[k]? = Δ (Ε cs 108 fr)/\∀ (o:Nat) x,cs[o]?≠Δ (.int .u64 x)
theorem Near.of_ext {W W':Λ} (h:Ext W W'):Near W W':=⟨h.size,λ_ D=>.inl (h.block D)⟩
theorem Near.pre {W D E:Λ} (h:Ext W D) (G:Near D E):Near W E:=⟨ψ h.size G.1,λk I=>by
 have:=G.2 k (δ I h.size)
 rwa [h.block I] at this⟩
theorem Near.setRow {W W':Λ} (h:Near W W') {g:Nat} {old:Array Ν} {fr:Nat × Nat} (hg:W'.heap[g]? = Δ (Ε old 108 fr)) (G:∀ (o:Nat) x,old[o]?≠Δ (.int .u64 x)) (cs:Array Ν):Near W (W'.setRow g cs):=by
 refine⟨by rw[ò];exact h.1,λk E=>?_⟩;by_cases e:k=g
 ·subst e;rcases h.2 k E with D|D
  ·exact .inr ⟨old,fr,by rw[<-D,hg],G⟩
  ·exact .inr D
 ·rw[setRow_other _ _ _ _ e];exact h.2 k E
theorem Near.owns {W W':Λ} (h:Near W W') {base e size:Nat} {v:Ν} {n:Nat} {xs:List Ν} (G:W.ownsRow base e size v n xs) (he:e≠108):W'.ownsRow base e size v n xs:=by
 obtain⟨E,I|⟨g,J,cur,hv,M,hg,rest⟩⟩:=G
 ·exact⟨E,.inl I⟩
 ·refine⟨E,.inr ⟨g,J,cur,hv,M,?_,rest⟩⟩;rcases h.2 g (An hg) with D|⟨cs,fr,D,_⟩
  ·rw[D,hg]
  ·rw[hg] at D;injection D with D
   injection D with _ D
   exact absurd D he
theorem Near.rows {W W':Λ} (h:Near W W') {base:Nat} {vs:List Ν} {N:List (List Nat)} {av:Option Nat->Prop} (D:RowsO W base vs N av):RowsO W' base vs N av:=
 ⟨D.1,λj E=>⟨h.owns (D.2 j E).1 (by decide),(D.2 j E).2⟩⟩
theorem Near.cls {W W':Λ} (h:Near W W') {v:Ν} {C:List Cls} (I:Cs W v C):Cs W' v C:=by
 obtain⟨G,J|⟨hn,b,M,T,hv,U,D⟩⟩:=I
 ·exact⟨G,.inl J⟩
 ·have aa:W'.heap[b]? = W.heap[b]? := by
   have ab:b<W.heap.size:=by
    have:=D 0 (by omega);rcases Nat.lt_or_ge b W.heap.size with h|h
    ·exact h
    ·simp[Λ.cell?,ÿ h] at this
   rcases h.2 b ab with E|⟨cs,fr,E,h4⟩
   ·exact E
   ·have:=D 0 (by omega);rw[γ W b _ cs _ fr E] at this;exact absurd this (h4 _ _)
  exact⟨G,.inr ⟨hn,b,M,T,hv,ψ U h.1,λi hi=>(Λ.cell?_of_block aa).trans (D i hi)⟩⟩
theorem Ra (t:Tbl) (hv:TVal t) (hn:t.n.length<=65536) (A:Array Ν) (w:Λ) (h:IsT w A t) :
  ϓ Ζ 69 #[.agg A] w λe w'=>∃ v d,e=θ v/\(∀ W,Near w' W->IsD W v d)/\Cano d/\(∀ u,d.has u=t.has u)/\Ext w w':=by
 obtain⟨bn,on,cn,ba,oa,ca,h8,ee,lf,ff,bg,b4,hR,ib⟩:=h.opened hv;have fg:=hv.pos;have n9:=hv.cpos;have ob:=hv.cle;have HR:=Α hR;have HV:=Α hv;have lh:=Α ib;have fh:=Α h;have HS:=Α h8;obtain⟨i0,hi,fk,fl,fm⟩:=Ϟ Cp;obtain⟨i4,ll,ln,lo,lp⟩:=Ϟ D8;obtain⟨i6,lr,ls,lu,lv⟩:=Ϟ (show (Ζ.info? 68).map (λi=>(i.zero,i.size,i.bytes))=Δ (Δ (Β Γ 0 0),1,24) by kernel_rfl);have dd:=((Θ w).alloc (Ε A 108)).alloc (Ε #[Β Γ 0 0,Β Γ 0 0,Β Γ 0 0] 30);have H0:=Ag (Aa w (Ε A 108)) (Ε #[Β Γ 0 0,Β Γ 0 0,Β Γ 0 0] 30);have H1:=Ϗ w (Ε A 108) (Ε #[Β Γ 0 0,Β Γ 0 0,Β Γ 0 0] 30);have lx:=Α bg;have ly:=Α b4;clear hR hv h ff bg b4 lf ee h8 ib;go_enter Tryz.func69,Tryz.ntmps69;go_upto_region 1 with (fail)
 obtain⟨w1,ef⟩:∃ W,(w.alloc (Ε A 108)).alloc (Ε #[Β Γ 0 0,Β Γ 0 0,Β Γ 0 0] 30)=W:=⟨_,rfl⟩;have oc:w1.heap.size=w.heap.size+1+1:=by rw[<-ef,Ρ,Ρ]
 rw[ef] at dd H0 H1;simp only[ef];clear ef;have eg:=Α H0;have lz:=Α H1;clear H0 H1;have ic:(Ζ.info? 108).map (·.size)=Δ A.size:=by rw[HS.out];exact Cc
 refine B2 8 [(0,Ξ),(1,Ξ),(2,Τ),(3,Τ),(4,Ξ),(5,Ξ),(6,Ξ),(7,Ξ),(8,Τ)] (by kernel_rfl) (by kernel_rfl) (λ_ _ _ _ h=>h)
  (λW=>Ext w1 W) (Θ w1).drew ?_
 have eh:=(Θ w1).drew;obtain⟨w2,fu⟩:∃ W,w1.drew=W:=⟨_,rfl⟩;rw[fu] at eh;rw[fu];clear fu;iterate 2
  refine Ff (v:=.agg A) rfl rfl (λW M=>D2 108 (η 1) rfl _ rfl _ _ _ _ (M.heap eg.out) Ϫ rfl ic) ?_;simp only[Ϛ,Ι,Χ,Ψ]
 refine Dc rfl (λK hK=>?_);go_simp;with_reducible refine (Ad8 t HV.out hn A w2 (fh.out.ext (dd.trans eh))).mono ?_
 rintro e w3 ⟨vl,l,rfl,hl,ig,ih⟩;have ei:=eh.trans ih;have HL:=Α hl;clear hl;refine hK _ _ (λ_=>ei) ?_;clear hK K;refine Dc rfl (λK hK=>?_);go_simp;with_reducible refine (Ad6 t HV.out hn l HL.out A vl w3 (fh.out.ext (dd.trans ei)) ig).mono ?_
 rintro e w4 ⟨vN,vR,N,R,rfl,il,hB,fv,fw,iq⟩;have cr:=ei.trans iq;have ir:=Α il;have HB:=Α hB;clear hB il ig;refine hK _ _ (λ_=>cr) ?_;clear hK K;iterate 4
  refine Ff (v:=?_) rfl rfl (λW M=>?_) ?_
  rotate_left
  ·go_simp;first|done|with_reducible rfl
  simp only[Ϛ,Ι,Χ,Ψ]
 refine Dc rfl (λK hK=>?_);go_simp;refine hK _ _ (λ_=>cr) ?_;clear hK K;refine B3 ?_;have iu:0<R.length:=by
  have:=HB.out.blk.lt 0 HL.out.zero;omega
 have od:l.length<=t.n.length:=by
  have:=Dy l (ι t.n.length) HL.out.nodup λs hs=>List.mem_range.2 (HL.out.lt s hs)
  simpa using this
 have iw:R.length<=65536:=by
  have:=Jq HB.out.blk;omega
 have ix:=Α (λi (hi:i<R.length)=>HL.out.lt _ (HB.out.blk.mem i hi));have iy:=Α (λi (hi:i<R.length) k (hk:k<t.cells)=>HB.out.blk.lt _ (HL.out.closed _ (HB.out.blk.mem i hi) k hk));have l7:=Α (λi (hi:i<R.length) k (hk:k<t.cells)=>δ (iy.out i hi k hk) iw);have fx:=HB.out.blk.lt 0 HL.out.zero;have fy:=dd.trans cr;clear eh ih iq;go_upto_region 2 with (fail)
 have iz:=Α (Ag6 t HV.out hn N R ir.out iu iw ix.out l7.out A vN vR w4 (fh.out.ext fy) fv fw);have ja:=Α (cr.heap eg.out);go_upto_region 3 with (first
  | (refine Ο rfl 108 (η 1) rfl _ rfl _ _ _ _ ja.out Ϫ rfl ic ?_)
  | (go_at_call 112;with_reducible refine iz.out.mono ?_;rintro e D ⟨vK,vC,E,C,rfl,hM,jb,fz,ej⟩))
 have jc:Sl w4 vN 1 t.n.length (λi=>iv (N.getD i 0)):=by rw[<-ir.out];exact fv
 obtain⟨bN,oN,cN,rfl,jd⟩:=Û jc fg;obtain⟨bR,oR,cR,rfl,je⟩:=Û fw iu;have jf:=hM.parts.pos;have l8:=hM.parts.le;have jg:0<E.length:=by rw[hM.len];exact jf
 have ou:E.length<=256:=by rw[hM.len];exact l8
 obtain⟨bK,oK,cK,rfl,jh⟩:=Û jb jg;have ek:=fz;obtain⟨G,I,J,rfl,-⟩:=Û ek jf;have HM:=Α hM;have gf:=fy.trans ej;have en:=cr.trans ej;have oy:w.heap.size+1<D.heap.size:=by have:=en.size;omega
 have gg:=Α (λ(W:Λ) (M:Ext D W) k (hk:k<t.n.length)=>(ej.trans M).cell (jd k (by omega)));have l9:=Α (λ(W:Λ) (M:Ext D W) k (hk:k<R.length)=>(ej.trans M).cell (je k (by omega)));have ma:=Α (λ(W:Λ) (M:Ext D W) k (hk:k<E.length)=>M.cell (jh k (by omega)));have mb:=Α (λ(W:Λ) (M:Ext D W)=>(γ W w.heap.size 257 _ _ _ ((en.trans M).heap eg.out)).trans lx.out);have mc:=Α (λ(W:Λ) (M:Ext D W)=>(γ W w.heap.size 258 _ _ _ ((en.trans M).heap eg.out)).trans ly.out);have me:=Α (λ(W:Λ) (M:Ext D W)=>HR.out.ext (gf.trans M));have mf:=Α (λ(W:Λ) (M:Ext D W) s (hs:s<t.n.length)=>(gf.trans M).cell (lh.out s hs));have mg:=Α (en.heap lz.out);have mh:=Α (Yw (Δ ⟨G,I,Γ⟩) C.length J);have mi:=Α fz;clear fv jc fw jb fz ek hM jd je jh iz ja fy cr ei dd;have ji:=Aa D (Ε #[Β Γ 0 0,Β Γ 0 0,Β Γ 0 0] 30);go_upto_region 4 with (first
  | (refine Bw rfl 30 _ rfl (dA (Β (Δ ⟨G,I,Γ⟩) C.length J) (Β Γ 0 0) (Β Γ 0 0)) ?_ ?_;(simp[Act.eval];with_reducible exact mh.out))
  | (refine Φ rfl 30 (η 7) (η 32) rfl _ _ rfl rfl _ _ ji Ad rfl (Aq _ _ _ rfl rfl rfl) ?_))
 clear ji;have cd:=((Θ D).alloc (Ε #[Β Γ 0 0,Β Γ 0 0,Β Γ 0 0] 30)).setRow (ν _) (dA (Β (Δ ⟨G,I,Γ⟩) C.length J) (Β Γ 0 0) (Β Γ 0 0));have eo:=μ (D.alloc (Ε #[Β Γ 0 0,Β Γ 0 0,Β Γ 0 0] 30)) D.heap.size _ (dA (Β (Δ ⟨G,I,Γ⟩) C.length J) (Β Γ 0 0) (Β Γ 0 0)) _ _ (Aa D _);have gh:((D.alloc (Ε #[Β Γ 0 0,Β Γ 0 0,Β Γ 0 0] 30)).setRow D.heap.size (dA (Β (Δ ⟨G,I,Γ⟩) C.length J) (Β Γ 0 0) (Β Γ 0 0))).heap.size=D.heap.size+1:=by rw[ò,Ρ]
 obtain⟨wa,cf⟩:∃ W,(D.alloc (Ε #[Β Γ 0 0,Β Γ 0 0,Β Γ 0 0] 30)).setRow D.heap.size (dA (Β (Δ ⟨G,I,Γ⟩) C.length J) (Β Γ 0 0) (Β Γ 0 0))=W:=⟨_,rfl⟩;rw[cf] at cd eo gh;simp only[cf];clear cf;go_upto_region 5 with (at_make;refine ϩ _ rfl _ _ 68 rfl wa.heap.size 3 i0 (.int ε 0) 1 ϔ hi fk fl ε ε _ _ R.length rfl rfl rfl rfl (by rw[fm];omega) (by unfold ϛ;omega) (ν _) ?_;intro wb jj gi)
 have jk:=cd.grown gi (λk e=>by cases e);have ep:wb.ownsRow wa.heap.size 3 1 (Β (Δ ⟨wa.heap.size,0,Γ⟩) R.length R.length) R.length ((Ea R.length 0).map ov):=by rw[Qn,<-B6];exact jj
 have jl:=(gi.block D.heap.size (An eo) (by simp)).trans eo;have oz:D.heap.size+1<wb.heap.size:=by have:wa.heap.size<wb.heap.size:=(ep.lt _ rfl).2;omega
 rw[gh] at ep;clear jj gi;generalize mj:wa.heap.size=gn at *;obtain rfl:gn=D.heap.size+1:=gh;clear mj eo cd;have de:=gg.out wb jk 0 fg;obtain⟨x0,er⟩:∃ x,N.getD 0 0=x:=⟨_,rfl⟩;rw[er,Nat.add_zero] at de;rw[er] at fx;have gj:=Α er;clear er;go_upto_region 6 with (fail)
 have bp:=jk.alloc (Ε #[iv x0] 3);have ay:=ep.alloc (Ε #[iv x0] 3);have cu:=Ag jl (Ε #[iv x0] 3);have bj:OwnI (wb.alloc (Ε #[iv x0] 3)) (D.heap.size+1+1) (Β (Δ ⟨wb.heap.size,0,Γ⟩) 1 1) [x0]:=Λ.ownsRow_lit (base:=D.heap.size+1+1) (e:=3) (size:=1) wb #[iv x0] 1 (by omega) (by unfold ϛ;omega) rfl;have cv:D.heap.size+1+1<=(wb.alloc (Ε #[iv x0] 3)).heap.size:=by rw[Ρ];omega
 obtain⟨wc,gk⟩:∃ W,wb.alloc (Ε #[iv x0] 3)=W:=⟨_,rfl⟩;rw[gk] at bp ay cu bj cv;rw[gk];clear gk de ep jl;generalize wb.heap.size=gl at *;go_wp2_with (fail);go_loopw [42] (λi W=>∃ k:Nat,k<=R.length/\i=.int ε k/\Ext D W/\D.heap.size+1+1<=W.heap.size/\
   W.ownsRow (D.heap.size+1) 3 1 (Β (Δ ⟨D.heap.size+1,0,Γ⟩) R.length R.length) R.length ((Ea R.length k).map ov)/\OwnI W (D.heap.size+1+1) (Β (Δ ⟨gl,0,Γ⟩) 1 1) [x0]/\
   W.heap[D.heap.size]? = Δ (Ε (dA (Β (Δ ⟨G,I,Γ⟩) C.length J) (Β Γ 0 0) (Β Γ 0 0)) 30 (0,0)))
  (λi _=>R.length-(intOf i).toNat)
 case atStart=>exact⟨0,by omega,rfl,bp,cv,ay,bj,cu⟩
 case round=>
  clear bp cv ay bj cu;obtain⟨k,hk,rfl,bp,cv,ay,bj,cu⟩:=hrel;have df:=Α cu;clear cu;by_cases cw:k<R.length
  ·have co:=Am Γ ay (Hk _ _).symm k (by rw[Hk];exact cw);have fo:=ay.frozenAt k;obtain⟨cx,bb⟩:=Bk ay k Γ;rw[Qo _ _ cw] at cx;have dg:=bp.grown bb (λk e=>by cases e;omega);have dh:=bj.kept bb (Ay bj (by omega));have dk:=Α ((bb.block D.heap.size (An df.out) (by simp)).trans df.out);have dm:=ψ cv bb.size;clear bb ay bp bj;go_wp2_with (fail);go_roundw
   case rel=>exact⟨k+1,by omega,by go_num,dg,dm,cx,dh,dk.out⟩
   case measure=>simp[intOf];omega
  ·obtain rfl:k=R.length:=by omega
   rw[Qp] at ay;have de:=gg.out wr bp 0 fg;rw[gj.out,Nat.add_zero] at de;have co:=Am Γ ay (by simp) x0 (by simpa using fx);have fo:=ay.frozenAt x0;obtain⟨cx,bb⟩:=Bk ay x0 (Δ 0);have dg:=bp.grown bb (λk e=>by cases e;omega);have dh:=bj.kept bb (Ay bj (by omega));have dk:=Α ((bb.block D.heap.size (An df.out) (by simp)).trans df.out);have dm:=ψ cv bb.size;clear bb ay bp bj df;have gm:=Α (Vy (t:=t) (B:=λs=>N.getD s 0) (R:=R) (K:=E) (show N.getD 0 0<R.length by rw[gj.out];exact fx) R.length rfl (ζ E.length 0) (by simp));rw[gj.out] at gm;go_wp2_with (fail);clear co fo de;obtain⟨et,gp⟩:∃ W,wr.setCell ⟨D.heap.size+1,x0,Γ⟩ (ov (Δ 0))=W:=⟨_,rfl⟩;rw[gp] at cx dg dh dk dm;have jn:wr.setCell ⟨D.heap.size+1,x0,Γ⟩ (.int ε 0)=et:=gp;rw[jn];clear gp jn;have jo:=Ô et (D.heap.size+1+1) 68 1;have ee:=Ô et (D.heap.size+1+1) 4 1;have jq:RowsO et (D.heap.size+1+1) [] [] (λo=>o=Δ gl):=⟨rfl,λj hj=>by simp at hj⟩;go_wp2_with (fail);go_loopw [9,11] (λvo vi W=>∃ (i:Nat) (O:List Nat) (P:List (Option Nat)) (N':List (List Nat)) (Ac:List Bool) (vs:List Ν) (go co:Nat) (bk af:Ν),i<=O.length/\vi=.int ε i/\vo=Β (Δ ⟨go,0,Γ⟩) O.length co/\Ext D W/\D.heap.size+1+1<=W.heap.size/\
     W.ownsRow (D.heap.size+1) 3 1 (Β (Δ ⟨D.heap.size+1,0,Γ⟩) R.length R.length) R.length (P.map ov)/\OwnI W (D.heap.size+1+1) vo O/\
     À (W.heap[D.heap.size]? = Δ (Ε (dA (Β (Δ ⟨G,I,Γ⟩) C.length J) bk af) 30 (0,0)))/\W.ownsRow (D.heap.size+1+1) 68 1 bk vs.length vs/\OwnB W (D.heap.size+1+1) af Ac/\
     RowsO W (D.heap.size+1+1) vs N' (λo=>o=Δ go)/\À (LInv t (λs=>N.getD s 0) R E i 0 O P N' (ζ E.length 0)/\Ac.length=i/\∀ j,j<i->Ac.getD j Τ=t.ok (R.getD (O.getD j 0) 0)))
    (λ_ vi _=>R.length-(intOf vi).toNat)
   case atStart=>exact⟨0,[x0],_,[],[],[],gl,1,_,_,by omega,rfl,rfl,dg,dm,cx,dh,dk,jo,ee,jq,Α ⟨gm.out,rfl,λj hj=>by omega⟩⟩
   case round=>
    clear dg dm cx dh dk jo ee jq gm;obtain⟨i,O,P,N',Ac,vs,go,co,bk,af,o0,rfl,rfl,hE,dp,hP,hI,HD,hN,hA,hV,HI⟩:=hrel;have o1:=HI.out.1.len_le;by_cases cw:i<O.length
    ·obtain⟨wo,mm⟩:∃ W,W=wr:=⟨_,rfl⟩;subst mm;have cO:=Am 0 hI rfl i cw;have eu:=HI.out.1.lt i cw;obtain⟨x,gq⟩:∃ x,O.getD i 0=x:=⟨_,rfl⟩;rw[gq] at cO eu;have js:=Α gq;clear gq;have cR:=l9.out wo hE x eu;have ev:=ix.out x eu;have jt:=Α (iy.out x eu);obtain⟨s,gu⟩:∃ s,R.getD x 0=s:=⟨_,rfl⟩;rw[gu] at cR ev jt;have ju:=Α gu;clear gu;go_upto_region 17 with (at_make;refine ϩ _ rfl _ _ 68 rfl (D.heap.size+1+1) 3 i0 (.int ε 0) 1 ϔ hi fk fl ε ε _ _ E.length rfl rfl rfl rfl (by rw[fm];omega) (by unfold ϛ;omega) (by omega) ?_;intro w5 jv bq)
     have jw:=hE.grown bq (λk e=>by cases e);have gv:w5.ownsRow (D.heap.size+1+1) 3 1 (Β (Δ ⟨wo.heap.size,0,Γ⟩) E.length E.length) E.length ((ζ E.length 0).map iv):=by rw[<-B6];exact jv
     have jx:=Cb hP bq;have jy:=Cb hI bq;have jz:=Α ((bq.block D.heap.size (An HD.out) (by simp)).trans HD.out);have j0:=Cb hN bq;have j1:=Cb hA bq;have mo:=(hI.lt go rfl).2;have j2:=(hV.av (av':=λo=>o=Δ go\/o=Δ wo.heap.size) (λv l T ai=>by
      rintro (e|e)
      ·exact ai e
      ·have:=(T.lt _ e).2;omega)).kept bq (λv l T ai=>by cases v.ownBlock<;>simp)
     have j3:=ψ dp bq.size;have a6:go≠wo.heap.size:=by omega
     have o2:=(gv.lt wo.heap.size rfl).1;generalize wo.heap.size=gr at *;clear jv bq hP hI HD hN hA hV hE dp cO cR mo;go_wp2_with (fail);go_loopw [9,72] (λvo vi W=>∃ (k:Nat) (U:List Nat) (P2:List (Option Nat)) (r:List Nat) (ax ew:Nat),k<=E.length/\vi=.int ε k/\vo=Β (Δ ⟨ax,0,Γ⟩) U.length ew/\ax≠gr/\Ext D W/\D.heap.size+1+1<=W.heap.size/\
       W.ownsRow (D.heap.size+1) 3 1 (Β (Δ ⟨D.heap.size+1,0,Γ⟩) R.length R.length) R.length (P2.map ov)/\OwnI W (D.heap.size+1+1) vo U/\W.ownsRow (D.heap.size+1+1) 3 1 (Β (Δ ⟨gr,0,Γ⟩) E.length E.length) E.length (r.map iv)/\
       À (W.heap[D.heap.size]? = Δ (Ε (dA (Β (Δ ⟨G,I,Γ⟩) C.length J) bk af) 30 (0,0)))/\W.ownsRow (D.heap.size+1+1) 68 1 bk vs.length vs/\OwnB W (D.heap.size+1+1) af Ac/\
       RowsO W (D.heap.size+1+1) vs N' (λo=>o=Δ ax\/o=Δ gr)/\À (LInv t (λs=>N.getD s 0) R E i k U P2 N' r/\i<U.length/\∀ j,j<=i->U.getD j 0=O.getD j 0))
      (λ_ vi _=>E.length-(intOf vi).toNat)
     case atStart=>exact⟨0,O,P,_,go,co,by omega,rfl,rfl,a6,jw,j3,jx,jy,gv,jz,j0,j1,j2,Α ⟨HI.out.1,cw,λ_ _=>rfl⟩⟩
     case round=>
      clear jw j3 jx jy gv jz j0 j1 j2 a6;obtain⟨k,U,P2,r,ax,ew,hk,rfl,rfl,a6,hE,dp,hP,hI,hQ,HD,hN,hA,hV,HJ⟩:=hrel;have dq:=Α HJ.out.1.lenP;have dr:=Α HJ.out.1.lenr;have o3:=HJ.out.1.len_le;obtain⟨w5,mq⟩:∃ W,W=wr:=⟨_,rfl⟩;subst mq;by_cases c4:k<E.length
      ·have cK:=ma.out w5 hE k c4;have ey:=HM.out.lt k c4;obtain⟨c,gx⟩:∃ c,E.getD k 0=c:=⟨_,rfl⟩;have c5:À (N.getD (t.ent2 (R.getD (U.getD i 0) 0) (E.getD k 0)) 0=N.getD (t.ent2 s c) 0):=Α (by rw[HJ.out.2.2 i (ν _),js.out,ju.out,gx]);rw[gx] at cK ey;clear gx;have j4:=HV.out.tgt s ev c ey;have b8:=jt.out c ey;obtain⟨br,or',o5,mr,j5⟩:=(me.out w5 hE) s ev;have cy:=j5 c ey;have k7:=mb.out w5 hE;obtain⟨y,j7⟩:∃ y,t.ent2 s c=y:=⟨_,rfl⟩;have b8:N.getD (t.ent2 s c) 0<R.length:=b8;rw[j7] at cy j4 b8 c5;clear j7 j5;have cz:=gg.out w5 hE y j4;obtain⟨z,j9⟩:∃ z,N.getD y 0=z:=⟨_,rfl⟩;rw[j9] at cz b8 c5;clear j9;have cp:=Am Γ hP dq.out.symm z (by rw[dq.out];exact b8);obtain⟨o,T⟩:∃ o,P2.getD z Γ=o:=⟨_,rfl⟩;rw[T] at cp;have HO:=Α T;clear T;have kc:Δ (D.heap.size+1)≠Δ gr:=λe=>by have:=ύ e;omega
       go_upto_region 21 with (fail)
       clear cK cy cz k7 mr;cases o with
       | some v=>
        replace cp:w5.cell? ⟨D.heap.size+1,z,Γ⟩=Δ (iv v):=cp;have gy:=Α (V0 HJ.out.1 c4 v (by
         show P2.getD (N.getD (t.ent2 (R.getD (U.getD i 0) 0) (E.getD k 0)) 0) Γ=Δ v;rw[c5.out];exact HO.out))
        have cq:=Am 0 hQ dr.out.symm k (by rw[dr.out];exact c4);have fq:=hQ.frozenAt k;obtain⟨my,bu⟩:=Bk hQ k v;have mz:=hE.grown bu (λk e=>by cases e;omega);have na:=hP.kept bu (.inr kc);have nb:=hI.kept bu (.inr (λe=>a6 (ύ e)));have nc:=Α ((bu.block D.heap.size (An HD.out) (λe=>by have:=ύ e;omega)).trans HD.out);have nd:=hN.kept bu (Aj hN hQ (by decide));have ff:=hA.kept bu (Aj hA hQ (by decide));have nf:=hV.kept bu (λv l T ai=>.inr (λe=>ai (.inr e)));have ng:=ψ dp bu.size;clear bu hE hP hI hQ HD hN hA hV;go_wp2_with (fail);go_roundw
        case rel=>exact⟨k+1,U,P2,r.set k v,ax,ew,by omega,by go_num,rfl,a6,mz,ng,na,nb,my,nc,nd,ff,nf,Α ⟨gy.out,HJ.out.2⟩⟩
        case measure=>simp[intOf];omega
       | none=>
        replace cp:w5.cell? ⟨D.heap.size+1,z,Γ⟩=Δ (.int ε (-1)):=cp;have gz:=V1 HJ.out.1 c4 HJ.out.2.1 (by
         show N.getD (t.ent2 (R.getD (U.getD i 0) 0) (E.getD k 0)) 0<R.length;rw[c5.out];exact b8) (by
         show P2.getD (N.getD (t.ent2 (R.getD (U.getD i 0) 0) (E.getD k 0)) 0) Γ=Γ;rw[c5.out];exact HO.out)
        rw[c5.out] at gz;have gy:=Α gz;clear gz;have fp:=hP.frozenAt z;obtain⟨hb,bw⟩:=Bk hP z (Δ U.length);have cd:=hE.grown bw (λk e=>by cases e;omega);have ck:=hI.kept bw (Ay hI (by omega));have ez:=hQ.kept bw (Ay hQ (by omega));have e0:=Α ((bw.block D.heap.size (An HD.out) (by simp)).trans HD.out);have e1:=hN.kept bw (Ay hN (by omega));have e2:=hA.kept bw (Ay hA (by omega));have hc:=hV.kept bw (λv l T ai=>Ay T (by omega));have ni:=ψ dp bw.size;clear bw hE hP hI hQ HD hN hA hV;go_upto_region 23 with (fail)
        obtain⟨wa,cf⟩:∃ W,w5.setCell ⟨D.heap.size+1,z,Γ⟩ (ov (Δ U.length))=W:=⟨_,rfl⟩;rw[cf] at hb cd ck ez e0 e1 e2 hc ni;have kd:w5.setCell ⟨D.heap.size+1,z,Γ⟩ (.int ε (U.length:Int))=wa:=cf;rw[kd];clear cf kd cp fp;go_upto_region 24 with (at_builtin;refine Ϙ _ rfl _ _ 68 rfl (D.heap.size+1+1) 3 i0 (.int ε 0) 1 8 ϔ hi fk fl fm rfl (by decide) _ _ _ rfl (ck.alloc _) _ 1 1 [iv z] rfl rfl (ϭ _ _ _) (by simp[ό]) (by decide) (by unfold ϛ;omega) (by omega) (by simp;omega) _ rfl ?_;intro g7 c7 w7 c6 ae ke _)
        have hf:ax=g7\/g7=wa.heap.size+1:=by
         rcases ke with e|e
         ·exact .inl (ύ e)
         ·rw[Ρ] at e;exact .inr e
        have o6:=(ez.lt gr rfl).2;have kf:g7≠gr:=by
         rcases hf with e|e
         ·rw[<-e];exact a6
         ·omega
        have kg:=(ck.lt ax rfl).1;have cl:=(hb.alloc (Ε #[iv z] 3)).kept ae (.inr (λe=>by have:D.heap.size+1=ax:=ύ e;have:D.heap.size+1+1<=ax:=kg;omega));have bd:=(ez.alloc (Ε #[iv z] 3)).kept ae (.inr (λe=>a6 (ύ e).symm));have bx:=Α ((ae.block D.heap.size (δ (An e0.out) (by rw[Ρ];omega)) (λe=>by have:D.heap.size=ax:=ύ e;have:D.heap.size+1+1<=ax:=kg;omega)).trans (Ag e0.out _));have be:=(e1.alloc (Ε #[iv z] 3)).kept ae (Aj e1 ck (by decide));have bg:=(e2.alloc (Ε #[iv z] 3)).kept ae (Aj e2 ck (by decide));have du:=(cd.alloc (Ε #[iv z] 3)).grown ae (λk e=>by have:=(ck.lt k e).1;omega);have dv:=(((hc.alloc (Ε #[iv z] 3)).av (av':=λo=>(o=Δ ax\/o=Δ gr)\/o=Δ g7) (λv l T ai=>by
         rintro (e|e)
         ·exact ai e
         ·rcases hf with e7|e7
          ·exact ai (.inl (by rw[e,e7]))
          ·have:=(T.lt _ e).2;rw[Ρ] at this;omega)).kept ae (λv l T ai=>.inr (λe=>ai (.inl (.inl e))))).av (av':=λo=>o=Δ g7\/o=Δ gr) (λv l T ai=>by
         rintro (e|e)
         ·exact ai (.inr e)
         ·exact ai (.inl (.inr e)))
        have e3:D.heap.size+1+1<=w7.heap.size:=by
         have:=ae.size;rw[Ρ] at this;omega
        have ki:À (OwnI w7 (D.heap.size+1+1) (Β (Δ ⟨g7,0,Γ⟩) (U++[z]).length c7) (U++[z])):=Α (by
         show Ϡ _ _ _ _ _ _ _;rw[Υ,ϝ];exact c6)
        clear ae ke cd hb ck ez e0 e1 e2 hc c6 hf;have cp:=Am Γ cl (by rw[ϒ];exact dq.out.symm) z (by rw[ϒ,dq.out];exact b8);rw[Bb _ _ _ _ _ (by rw[dq.out];exact b8),if_pos rfl] at cp;replace cp:w7.cell? ⟨D.heap.size+1,z,Γ⟩=Δ (iv U.length):=cp;have cq:=Am 0 bd dr.out.symm k (by rw[dr.out];exact c4);have fq:=bd.frozenAt k;obtain⟨dw,aj⟩:=Bk bd k U.length;have c8:=du.grown aj (λk e=>by cases e;omega);have dx:=cl.kept aj (.inr kc);have nj:=Α (ki.out.kept aj (.inr (λe=>kf (ύ e))));have c9:=Α ((aj.block D.heap.size (An bx.out) (λe=>by have:=ύ e;omega)).trans bx.out);have dy:=be.kept aj (Aj be bd (by decide));have b4:=bg.kept aj (Aj bg bd (by decide));have ea:=dv.kept aj (λv l T ai=>.inr (λe=>ai (.inr e)));have eb:=ψ e3 aj.size;clear aj du cl ki bd bx be bg dv;go_wp2_with (fail);go_roundw
        case rel=>
         refine⟨k+1,U++[z],P2.set z (Δ U.length),r.set k U.length,g7,c7,by omega,by go_num,?_,kf,c8,eb,dx,?_,dw,c9,dy,b4,ea,Α ⟨gy.out,?_,λj hj=>?_⟩⟩
         ·rw[Υ];rfl
         ·have h9:Ϡ _ _ _ _ _ _ _:=nj.out;show Ϡ _ _ _ _ _ _ _;rw[show (U++[z]).length=U.length+1 by simp] at h9 ⊢;exact h9
         ·rw[Υ];have:=HJ.out.2.1;omega
         ·rw[Bt _ _ _ _ (by have:=HJ.out.2.1;omega)];exact HJ.out.2.2 j hj
        case measure=>simp[intOf];omega
      ·obtain rfl:k=E.length:=by omega
       have c1:=(γ w5 D.heap.size 1 _ _ _ HD.out).trans (show (dA (Β (Δ ⟨G,I,Γ⟩) C.length J) bk af)[1]? = Δ bk from rfl);have o7:=(hQ.lt gr rfl).1;have o8:vs.length<=65536:=by rw[hV.1,HJ.out.1.lenN];omega
       go_upto_region 27 with (at_builtin;refine Ϙ _ rfl _ _ 27 rfl (D.heap.size+1+1) 68 i6 (Β Γ 0 0) 1 24 Tryz.underlying27 lr ls lu lv rfl (by decide) bk vs.length vs rfl (hN.alloc _) _ 1 1 [Β (Δ ⟨gr,0,Γ⟩) E.length E.length] rfl rfl (ϭ _ _ _) (by simp[ό]) (by decide) (by unfold ϛ;omega) (by omega) (by simp;omega) _ rfl ?_;intro g7 c7 w7 be ae _ _;have bx:À (w7.heap[D.heap.size]? = _):=Α ((ae.block D.heap.size (δ (An HD.out) (by rw[Ρ];omega)) (λe=>by have:=(hN.lt _ e.symm).1;omega)).trans (Ag HD.out _));have nl:=(γ w7 D.heap.size 1 _ _ _ bx.out).trans (show (dA (Β (Δ ⟨G,I,Γ⟩) C.length J) bk af)[1]? = Δ bk from rfl);have f17:=Ϸ w7 D.heap.size 1 _ _ bx.out)
       clear c1 nl f17;have o9:∀ (o:Obj),(w5.alloc o).heap.size=w5.heap.size+1:=λo=>Ρ _ _
       have cl:=(hP.alloc (Ε #[Β (Δ ⟨gr,0,Γ⟩) E.length E.length] 68)).kept ae (Aj hP hN (by decide));have c6:=(hI.alloc (Ε #[Β (Δ ⟨gr,0,Γ⟩) E.length E.length] 68)).kept ae (Aj hI hN (by decide));have bd:=(hQ.alloc (Ε #[Β (Δ ⟨gr,0,Γ⟩) E.length E.length] 68)).kept ae (Aj hQ hN (by decide));have bg:=(hA.alloc (Ε #[Β (Δ ⟨gr,0,Γ⟩) E.length E.length] 68)).kept ae (Aj hA hN (by decide));have dv:=(hV.alloc (Ε #[Β (Δ ⟨gr,0,Γ⟩) E.length E.length] 68)).kept ae (λv l T _=>Aj T (hN.alloc (Ε #[Β (Δ ⟨gr,0,Γ⟩) E.length E.length] 68)) (by decide));have du:=(hE.alloc (Ε #[Β (Δ ⟨gr,0,Γ⟩) E.length E.length] 68)).grown ae (λk e=>by have:=(hN.lt k e).1;omega);have e3:D.heap.size+1+1<=w7.heap.size:=by
        have:=ae.size;rw[Ρ] at this;omega
       clear ae hP hI hQ hA hV hE hN HD;have be:w7.ownsRow (D.heap.size+1+1) 68 1 (Β (Δ ⟨g7,0,Γ⟩) (vs.length+1) c7) (vs++[Ϥ (Δ ⟨gr,0,Γ⟩) E.length E.length]).length (vs++[Ϥ (Δ ⟨gr,0,Γ⟩) E.length E.length]):=by
        rw[Υ];exact be
       obtain⟨row,hh⟩:∃ v,Ϥ (Δ ⟨gr,0,Γ⟩) E.length E.length=v:=⟨_,rfl⟩;have nm:row.ownBlock=Δ gr:=by rw[<-hh];rfl
       rw[hh] at be bd;clear hh;obtain⟨ak,kk⟩:∃ v,Ϥ (Δ ⟨g7,0,Γ⟩) (vs.length+1) c7=v:=⟨_,rfl⟩;rw[kk] at be;have aj:=Cd w7 D.heap.size (dA (Β (Δ ⟨G,I,Γ⟩) C.length J) ak af);have ec:w7.setCell ⟨D.heap.size,1,Γ⟩ ak=w7.setRow D.heap.size (dA (Β (Δ ⟨G,I,Γ⟩) C.length J) ak af):=Ϧ w7 _ _ _ _ _ _ bx.out;have c8:=du.setRow (ν _) (dA (Β (Δ ⟨G,I,Γ⟩) C.length J) ak af);have dx:=cl.kept aj (Ay cl (by omega));have hp:=c6.kept aj (Ay c6 (by omega));have dw:=bd.kept aj (Ay bd (by omega));have dy:=be.kept aj (Ay be (by omega));have b4:=bg.kept aj (Ay bg (by omega));have ea:=dv.kept aj (λv l T _=>Ay T (by omega));have c9:=Α (μ w7 D.heap.size _ (dA (Β (Δ ⟨G,I,Γ⟩) C.length J) ak af) _ _ bx.out);have eb:D.heap.size+1+1<=(w7.setRow D.heap.size (dA (Β (Δ ⟨G,I,Γ⟩) C.length J) ak af)).heap.size:=by rw[ò];exact e3
       rw[kk,ec];clear aj cl c6 bd be bg dv du e3 bx ec;obtain⟨w8,hq⟩:∃ W,w7.setRow D.heap.size (dA (Β (Δ ⟨G,I,Γ⟩) C.length J) ak af)=W:=⟨_,rfl⟩;rw[hq] at dx hp dw dy b4 ea c9 c8 eb;rw[hq];clear hq;have c2:∀ W:Λ,W.heap[D.heap.size]? = Δ (Ε (dA (Β (Δ ⟨G,I,Γ⟩) C.length J) ak af) 30 (0,0))->W.cell? ⟨D.heap.size,2,Γ⟩=Δ af:=λW M=>(γ W D.heap.size 2 _ _ _ M).trans rfl
       refine B2 10 [(0,Ξ),(1,Ξ),(2,Ξ),(3,Ξ),(4,Ξ),(5,Ξ),(6,Ξ),(7,Τ),(8,Τ),(9,Ξ),(10,Τ)] (by kernel_rfl) (by kernel_rfl) (λ_ _ _ _ h=>h)
        (λW=>Ext D W/\W.heap[D.heap.size]? = Δ (Ε (dA (Β (Δ ⟨G,I,Γ⟩) C.length J) ak af) 30 (0,0))) ⟨c8.drew,c9.out⟩ ?_
       iterate 7
        refine Ff (v:=?_) rfl rfl (λW M=>?_) ?_
        rotate_left
        ·obtain⟨kl,km⟩:=M;have k2:=c2 W km;have k8:=mc.out W kl;have ka:=mf.out W kl s ev;clear km;go_simp;first|done|with_reducible rfl
        simp only[Ϛ,Ι,Χ,Ψ]
       have e4:=Ah dx (Θ w8).drew;have e5:=Ah hp (Θ w8).drew;have e6:=Ah dw (Θ w8).drew;have e8:=Ah dy (Θ w8).drew;have bo:=Ah b4 (Θ w8).drew;have ht:=ea.kept ((Θ w8).drew.grownBy Γ) (λv l _ _=>by cases v.ownBlock<;>simp);have ed:À (w8.drew.heap[D.heap.size]? = Δ (Ε (dA (Β (Δ ⟨G,I,Γ⟩) C.length J) ak af) 30 (0,0))):=Α c9.out;have e9:=c8.drew;have ko:D.heap.size+1+1<=w8.drew.heap.size:=eb;obtain⟨w9,hx⟩:∃ W,w8.drew=W:=⟨_,rfl⟩;rw[hx] at e4 e5 e6 e8 bo ht ed e9 ko;rw[hx];clear hx dx hp dw dy b4 ea c9 c8 eb;have pc:Ac.length<=65536:=by rw[HI.out.2.1];omega
       refine Dc rfl (λK hK=>?_);go_simp;refine hK _ _ (λ_=>⟨e9.alloc _,Ag ed.out _⟩) ?_;clear hK K;refine Dc rfl (λK hK=>?_);refine step_append_lies _ rfl _ _ 28 rfl (D.heap.size+1+1) 4 i4 (.bool Τ) 1 1 Ã ll ln lo lp rfl (by decide) af Ac.length (Ac.map ο) rfl (bo.alloc _) _ 1 1 [.bool (t.ok s)] rfl rfl (ϭ _ _ _) (by simp[ό]) (by decide) (by unfold ϛ;omega) (by omega) (by simp;omega) _ rfl ?_;intro kq kr bf da b0 _ _;have hy:=(e9.alloc (Ε #[.bool (t.ok s)] 4)).grown b0 (λk e=>by have:=(bo.lt k e).1;omega);have db:=Α ((b0.block D.heap.size (δ (An ed.out) (by rw[Ρ];omega)) (λe=>by have:=(bo.lt _ e.symm).1;omega)).trans (Ag ed.out _));have hz:=(e4.alloc (Ε #[.bool (t.ok s)] 4)).kept b0 (Aj e4 bo (by decide));have h0:=(e5.alloc (Ε #[.bool (t.ok s)] 4)).kept b0 (Aj e5 bo (by decide));have h2:=(e6.alloc (Ε #[.bool (t.ok s)] 4)).kept b0 (Aj e6 bo (by decide));have h3:=(e8.alloc (Ε #[.bool (t.ok s)] 4)).kept b0 (Aj e8 bo (by decide));have ks:=(ht.alloc (Ε #[.bool (t.ok s)] 4)).kept b0 (λv l T _=>Aj T (bo.alloc (Ε #[.bool (t.ok s)] 4)) (by decide));have kt:D.heap.size+1+1<=bf.heap.size:=by
        have:=b0.size;rw[Ρ] at this;omega
       have da:OwnB bf (D.heap.size+1+1) (Β (Δ ⟨kq,0,Γ⟩) (Ac.length+1) kr) (Ac++[t.ok s]):=by
        show Ϡ _ _ _ _ _ _ _;rw[Υ,ϝ];exact da
       clear b0 e4 e5 e6 e8 bo ht ed e9 ko;refine hK _ _ (λ_=>⟨hy,db.out⟩) ?_;clear hK K;refine Ff (v:=?_) rfl rfl (λW M=>?_) ?_
       rotate_left
       ·clear M;go_simp;first|done|with_reducible rfl
       simp only[Ϛ,Ι,Χ,Ψ];have k2:=c2 bf db.out;have f2:=Ϸ bf D.heap.size 2 _ _ db.out;refine Dc rfl (λK hK=>?_);go_simp;refine hK _ _ (λh=>absurd h (by omega)) ?_;clear hK K k2 f2 c2;refine B3 ?_;obtain⟨b9,ku⟩:∃ v,Ϥ (Δ ⟨kq,0,Γ⟩) (Ac.length+1) kr=v:=⟨_,rfl⟩;rw[ku] at da;have cm:=Cd bf D.heap.size (dA (Β (Δ ⟨G,I,Γ⟩) C.length J) ak b9);have ec:bf.setCell ⟨D.heap.size,2,Γ⟩ b9=bf.setRow D.heap.size (dA (Β (Δ ⟨G,I,Γ⟩) C.length J) ak b9):=Ϧ bf _ _ _ _ _ _ db.out;have kv:=hy.setRow (ν _) (dA (Β (Δ ⟨G,I,Γ⟩) C.length J) ak b9);have kx:=hz.kept cm (Ay hz (by omega));have ky:=h0.kept cm (Ay h0 (by omega));have h4:=h2.kept cm (Ay h2 (by omega));have kz:=h3.kept cm (Ay h3 (by omega));have k0:=da.kept cm (Ay da (by omega));have h5:=ks.kept cm (λv l T _=>Ay T (by omega));have k5:=Α (μ bf D.heap.size _ (dA (Β (Δ ⟨G,I,Γ⟩) C.length J) ak b9) _ _ db.out);have k6:D.heap.size+1+1<=(bf.setRow D.heap.size (dA (Β (Δ ⟨G,I,Γ⟩) C.length J) ak b9)).heap.size:=by rw[ò];exact kt
       rw[ku,ec];clear cm hz h0 h2 h3 da ks hy kt db ec;obtain⟨nn,h6⟩:∃ W,bf.setRow D.heap.size (dA (Β (Δ ⟨G,I,Γ⟩) C.length J) ak b9)=W:=⟨_,rfl⟩;rw[h6] at kx ky h4 kz k0 h5 k5 kv k6;rw[h6];clear h6;have k9:OwnI nn (D.heap.size+1+1) row r:=by
        show Ϡ _ _ _ _ _ _ _;rw[dr.out];exact h4
       have np:=(h5.av (av':=λo=>o=Δ ax) (λv l _ ai e=>ai (.inl e))).snoc k9 (by rw[nm];exact λe=>a6 (ύ e).symm);have nq:=Α (Vz HJ.out.1 HJ.out.2.1 (ζ E.length 0) (by simp));have nr:À ((Ac++[t.ok s]).length=i+1/\∀ j,j<i+1->(Ac++[t.ok s]).getD j Τ=t.ok (R.getD (U.getD j 0) 0)):=Α ⟨by rw[Υ,HI.out.2.1];rfl,λj hj=>by
        rw[HJ.out.2.2 j (by omega),I7,HI.out.2.1];by_cases la:j<i
        ·rw[if_pos la];exact HI.out.2.2 j la
        ·obtain rfl:j=i:=by omega
         rw[if_neg (by omega),if_pos rfl,js.out,ju.out]⟩
       have pd:=HJ.out.2.1;clear h4 h5 k9 a6;go_wp2;go_roundw
       case rel=>exact⟨i+1,U,P2,N'++[r],Ac++[t.ok s],vs++[row],ax,ew,ak,b9,by omega,by go_num,rfl,kv,k6,kx,ky,k5,kz,k0,np,Α ⟨nq.out,nr.out⟩⟩
       case measure=>simp[intOf];omega
    ·obtain rfl:i=O.length:=by omega
     have ns:=Α (V3 (L:=C) HM.out.len jg HI.out.1 rfl HI.out.2.1 HI.out.2.2);have lb:=Α (Wc HV.out HL.out HB.out HM.out ns.out);have h7:=Α (hE.heap mg.out);obtain⟨an,fb,rfl⟩:=Eo hN;obtain⟨aa,fe,rfl⟩:=Eo hA;go_wp2_with (first
      | (refine Ο rfl 30 (η 7) rfl _ rfl _ _ _ _ HD.out Κ rfl Ad ?_)
      | (refine Φ rfl 30 (η 2) (η 126) rfl _ _ rfl rfl _ _ h7.out Ad rfl (Aq _ _ _ rfl rfl rfl) ?_))
     refine ω (v:=.agg (dA (Β (Δ ⟨G,I,Γ⟩) C.length J) (Β an vs.length fb) (Β aa Ac.length fe))) (results_cell_row rfl _ _ _ _ _ _ _ rfl (μ wr _ _ (dA (Β (Δ ⟨G,I,Γ⟩) C.length J) (Β an vs.length fb) (Β aa Ac.length fe)) 30 (0,0) h7.out) Κ rfl Ad) rfl ?_;have a6:=Cd wr (w.heap.size+1) (dA (Β (Δ ⟨G,I,Γ⟩) C.length J) (Β an vs.length fb) (Β aa Ac.length fe));have nt:=hN.kept a6 (Ay hN (by omega));have nu:=hA.kept a6 (Ay hA (by omega));have nv:=hV.kept a6 (λv l T _=>Ay T (by omega));have ek:=Sl.setRow (mi.out.ext hE) h7.out (λi _ o=>by
      intro h;have:o=0\/o=1\/o=2\/3<=o:=by omega
      rcases this with rfl|rfl|rfl|T
      ·simp at h
      ·simp at h
      ·simp at h
      ·rw[ÿ (by simpa using T)] at h;cases h) (by omega) (dA (Β (Δ ⟨G,I,Γ⟩) C.length J) (Β an vs.length fb) (Β aa Ac.length fe))
     refine⟨_,⟨C,N',Ac⟩,rfl,λW M=>⟨_,_,_,rfl,M.cls ek,(M.rows nv).rows (M.owns nt (by decide)) (by rw[HI.out.1.lenN];omega) (λj hj=>by rw[HI.out.1.rows j (by rw[<-HI.out.1.lenN];exact hj)];omega),OwnB.bools (M.owns nu (by decide)) (by rw[HI.out.2.1];omega)⟩,lb.out.1,lb.out.2,?_⟩;exact (gf.trans hE).setRow (by omega) _
theorem K7 (t:Tbl) (hv:TVal t) (hn:t.n.length<=65536) (A:Array Ν) (w:Λ) (h:IsT w A t) :
  ϓ Ζ 69 #[.agg A] w λe w'=>∃ v d,e=θ v/\IsD w' v d/\Cano d/\(∀ u,d.has u=t.has u)/\Ext w w':=
 (Ra t hv hn A w h).mono λ_ _ ⟨v,d,he,D,E,G,I⟩=>⟨v,d,he,D _ (Near.of_ext (Θ _)),E,G,I⟩
def zD:Ν:=.agg #[Β Γ 0 0,Β Γ 0 0,Β Γ 0 0]
def ResOf (W:Λ) (e:Ending):Option Dfa->Prop
 | some d=>∃ v,e=θ (ϙ #[v,.int ε 0])/\IsD W v d
 | none=>e=θ (ϙ #[zD,.int ε 2])
theorem Mp {o:Nat} {x:Ν} (h:(#[Ϥ Γ 0 0,Ϥ Γ 0 0,Ϥ Γ 0 0])[o]? = Δ x):x=Β Γ 0 0:=by
 have:o=0\/o=1\/o=2\/3<=o:=by omega
 rcases this with rfl|rfl|rfl|D
 ·simpa using h.symm
 ·simpa using h.symm
 ·simpa using h.symm
 ·rw[ÿ (by simpa using D)] at h;cases h
theorem IsD.setRow {W:Λ} {v:Ν} {d:Dfa} (hv:Val d) (h:IsD W v d) {g:Nat} {e:Á} {fr:Nat × Nat} (hg:W.heap[g]? = Δ (Ε #[Β Γ 0 0,Β Γ 0 0,Β Γ 0 0] e fr)) (cs:Array Ν):IsD (W.setRow g cs) v d:=by
 obtain⟨G,vn,va,rfl,I,⟨vs,J,M,E⟩,T⟩:=h;refine⟨G,vn,va,rfl,Sl.setRow I hg (λi _ o D=>by cases Mp D) (by omega) cs,⟨vs,J,Sl.setRow M hg (λi hi o D=>?_) (by omega) cs,λi hi=>Sl.setRow (E i hi) hg (λi _ o D=>by cases Mp D) (by omega) cs⟩,Sl.setRow T hg (λi _ o D=>by cases Mp D) (by omega) cs⟩;have hi:i<d.n.length:=by simpa using hi
 obtain⟨b,aa,ab,U,_⟩:=Û (E i hi) (by rw[hv.row i hi];exact hv.parts.pos);have:=Mp D;rw[U] at this;cases this
theorem IsD.agg {W:Λ} {v:Ν} {d:Dfa} (h:IsD W v d):∃ ac J cc D E G M I,v=.agg (dA (Β ac J cc) (Β D d.n.length E) (Β G M I)):=by
 obtain⟨vc,vn,va,rfl,T,⟨vs,ae,U,hr⟩,h3⟩:=h;obtain⟨ac,cc,rfl⟩:=Sl.len T;obtain⟨D,E,rfl⟩:=Sl.len U;obtain⟨G,I,rfl⟩:=Sl.len h3;exact⟨_,_,_,_,_,_,_,_,rfl⟩
theorem Dn:Ζ.built 30 []=Δ #[Β Γ 0 0,Β Γ 0 0,Β Γ 0 0]:=by kernel_rfl
theorem C8:(#[Ϥ Γ 0 0,Ϥ Γ 0 0,Ϥ Γ 0 0]).all (·.oneCell')=Ξ:=by simp[ό]
theorem Pt (t:Tbl) (hv:TVal t) (hn:t.n.length<=65536) (A:Array Ν) (w:Λ) (h:IsT w A t) :
  ϓ Ζ 77 #[.agg A] w λe w'=>∃ r,ResOf w' e r/\Lim (λu=>t.has u=Ξ) r/\Ext w w':=by
 obtain⟨_,_,_,_,_,_,aq,az,_⟩:=h.opened hv;have a1:(Ζ.info? 108).map (·.size)=Δ A.size:=by rw[aq];exact Cc
 have a6:=Α h;have HV:=Α hv;have ab:=((Θ w).alloc (Ε A 108)).alloc (Ε #[Β Γ 0 0,Β Γ 0 0,Β Γ 0 0] 30);have H0:=Ag (Aa w (Ε A 108)) (Ε #[Β Γ 0 0,Β Γ 0 0,Β Γ 0 0] 30);have H1:=Ϗ w (Ε A 108) (Ε #[Β Γ 0 0,Β Γ 0 0,Β Γ 0 0] 30);clear h hv aq az;go_enter Tryz.func77,Tryz.ntmps77;go_upto_region 1 with (fail)
 obtain⟨w1,ad⟩:∃ W,(w.alloc (Ε A 108)).alloc (Ε #[Β Γ 0 0,Β Γ 0 0,Β Γ 0 0] 30)=W:=⟨_,rfl⟩;have bf:w1.heap.size=w.heap.size+1+1:=by rw[<-ad,Ρ,Ρ]
 rw[ad] at ab H0 H1;simp only[ad];clear ad;have a8:=Α H0;have ba:=Α H1;clear H0 H1;have hC:=Α (K7 t HV.out hn A w1 (a6.out.ext ab));go_upto_region 2 with (first
  | (refine Ο rfl 108 (η 1) rfl _ rfl _ _ _ _ a8.out Ϫ rfl a1 ?_)
  | (go_at_call 69;with_reducible refine hC.out.mono ?_;rintro e D ⟨v,d,rfl,hD,au,aw,ax⟩;obtain⟨ac,I,cc,E,G,J,M,T,rfl⟩:=hD.agg)
  | (refine Φ rfl 30 (η 4) (η 6) rfl _ _ rfl rfl _ _ (Aa D _) Ad rfl (Aq _ _ _ rfl rfl rfl) ?_))
 have ae:=ax.trans (((Θ D).alloc (Ε #[Β Γ 0 0,Β Γ 0 0,Β Γ 0 0] 30)).setRow (ν _) (dA (Β ac I cc) (Β E d.n.length G) (Β J M T)));have aj:=hD.ext (((Θ D).alloc (Ε #[Β Γ 0 0,Β Γ 0 0,Β Γ 0 0] 30)).setRow (ν _) (dA (Β ac I cc) (Β E d.n.length G) (Β J M T)));have af:=μ (D.alloc (Ε #[Β Γ 0 0,Β Γ 0 0,Β Γ 0 0] 30)) D.heap.size _ (dA (Β ac I cc) (Β E d.n.length G) (Β J M T)) _ _ (Aa D _);obtain⟨w3,al⟩:∃ W,(D.alloc (Ε #[Β Γ 0 0,Β Γ 0 0,Β Γ 0 0] 30)).setRow D.heap.size (dA (Β ac I cc) (Β E d.n.length G) (Β J M T))=W:=⟨_,rfl⟩;rw[al] at ae aj af;simp only[al];clear al hD ax;have U:=Α (ae.heap ba.out);have bb:=Α aj;have ao:=Α au;have HH:=Α aw;have c1:=(γ w3 D.heap.size 1 _ _ _ af).trans (show (dA (Β ac I cc) (Β E d.n.length G) (Β J M T))[1]? = Δ (Β E d.n.length G) from rfl);have bc:=Α af;clear aj au aw af hC;by_cases bd:64<d.n.length
 ·have be:=Α Dn;go_wp2_with (first
   | (refine Bw rfl 30 _ rfl #[Β Γ 0 0,Β Γ 0 0,Β Γ 0 0] ?_ ?_;(simp;with_reducible exact be.out))
   | (refine Φ rfl 30 (η 2) (η 11) rfl _ _ rfl rfl _ _ U.out Ad rfl C8 ?_))
  refine ω (v:=ϙ #[zD,.int ε 2]) (A3 rfl _ _ _ _ _ _ _ rfl _ rfl (μ w3 _ _ #[Β Γ 0 0,Β Γ 0 0,Β Γ 0 0] 30 (0,0) U.out) Κ rfl Ad) rfl ?_;exact⟨Γ,rfl,⟨d,ao.out,λu=>by rw[HH.out],bd⟩,(ab.trans ae).setRow (by omega) _⟩
 ·go_wp2_with (first
   | (refine Ο rfl 30 (η 4) rfl _ rfl _ _ _ _ bc.out Κ rfl Ad ?_)
   | (refine Φ rfl 30 (η 2) (η 12) rfl _ _ rfl rfl _ _ U.out Ad rfl (Aq _ _ _ rfl rfl rfl) ?_))
  refine ω (v:=ϙ #[.agg (dA (Β ac I cc) (Β E d.n.length G) (Β J M T)),.int ε 0]) (A3 rfl _ _ _ _ _ _ _ rfl _ rfl (μ w3 _ _ (dA (Β ac I cc) (Β E d.n.length G) (Β J M T)) 30 (0,0) U.out) Κ rfl Ad) rfl ?_;exact⟨Δ d,⟨_,rfl,bb.out.setRow ao.out.val U.out _⟩,⟨ao.out,λu=>by rw[HH.out],by omega⟩,(ab.trans ae).setRow (by omega) _⟩
theorem Jn (d:Dfa) (hv:Val d) (hn:d.n.length<=64) (v:Ν) (w:Λ) (hT:Tab w) (ak:0<w.heap.size) (h:IsD w v d) :
  ϓ Ζ 28 #[v] w λe w'=>∃ r,ResOf w' e (Δ r)/\Cano r/\(∀ u,r.has u=d.has u)/\Ext w w':=by
 have HD:=Α h;have HV:=Α hv;obtain⟨ac,E,cc,G,I,J,M,T,rfl⟩:=h.agg;have ae:=((Θ w).alloc (Ε (dA (Β ac E cc) (Β G d.n.length I) (Β J M T)) 30)).alloc (Ε #[Β Γ 0 0,Β Γ 0 0,Β Γ 0 0] 30);have H0:=Ag (Aa w (Ε (dA (Β ac E cc) (Β G d.n.length I) (Β J M T)) 30)) (Ε #[Β Γ 0 0,Β Γ 0 0,Β Γ 0 0] 30);have H1:=Ϗ w (Ε (dA (Β ac E cc) (Β G d.n.length I) (Β J M T)) 30) (Ε #[Β Γ 0 0,Β Γ 0 0,Β Γ 0 0] 30);have f47:=λW (U:Ext w W)=>Α (Ef d hv hn _ W (HD.out.ext U))
 have f68:=λW (U:Ext w W)=>Α (J6 d hv _ W (hT.below U.below ak) (δ ak U.size) (HD.out.ext U))
 clear h hv hT;go_enter Tryz.func28,Tryz.ntmps28;go_upto_region 1 with (fail)
 obtain⟨w1,ab⟩:∃ W,(w.alloc (Ε (dA (Β ac E cc) (Β G d.n.length I) (Β J M T)) 30)).alloc (Ε #[Β Γ 0 0,Β Γ 0 0,Β Γ 0 0] 30)=W:=⟨_,rfl⟩;have bd:(w.alloc (Ε #[Β ac E cc,Β G d.n.length I,Β J M T] 30)).alloc (Ε #[Β Γ 0 0,Β Γ 0 0,Β Γ 0 0] 30)=w1:=ab;rw[ab] at ae H0 H1;simp only[ab];have bn:w1.heap.size=w.heap.size+1+1:=by rw[<-ab,Ρ,Ρ]
 clear ab bd;have af:=Α H0;have D:=Α H1;clear H0 H1;go_upto_region 3 with (first
  | (refine Ο rfl 30 (η 1) rfl _ rfl _ _ _ _ af.out Κ rfl Ad ?_)
  | (go_at_call 47;with_reducible refine (f47 _ ae).out.mono ?_;rintro e w2 ⟨rfl,ad⟩))
 have af:=Α (ad.heap af.out);have D:=Α (ad.heap D.out);have ao:=ae.trans ad;have bp:=ad.size;clear f47 ae ad;go_wp2_with (first
  | (refine Ο rfl 30 (η 1) rfl _ rfl _ _ _ _ af.out Κ rfl Ad ?_)
  | (go_at_call 68;(with_reducible refine (f68 _ ao).out.mono ?_);rintro e w3 ⟨A,rfl,hA,aq⟩;have bg:=ao.trans aq;have D:=Α (aq.heap D.out);have hC:=Α (K7 (Ae d) (Bj HV.out) (show d.n.length<=65536 by omega) A w3 hA))
  | (go_at_call 69;with_reducible refine hC.out.mono ?_;rintro e w4 ⟨v,r,rfl,hr,ar,au,aw⟩;have HR:=Α hr;have ax:=Α ar;have HH:=Α au;clear ar au;obtain⟨ay,az,a1,a6,a7,a8,ba,bb,rfl⟩:=hr.agg;clear hr;have bm:=bg.trans aw;have D:=Α (aw.heap D.out))
  | (refine Φ rfl 30 (η 2) (η 10) rfl _ _ rfl rfl _ _ D.out Ad rfl (Aq _ _ _ rfl rfl rfl) ?_))
 refine ω (v:=ϙ #[.agg (dA (Β ay az a1) (Β a6 r.n.length a7) (Β a8 ba bb)),.int ε 0]) (A3 rfl _ _ _ _ _ _ _ rfl _ rfl (μ w4 _ _ (dA (Β ay az a1) (Β a6 r.n.length a7) (Β a8 ba bb)) 30 (0,0) D.out) Κ rfl Ad) rfl ?_;exact⟨r,⟨_,rfl,HR.out.setRow ax.out.val D.out _⟩,ax.out,λu=>by rw[HH.out,Dp],bm.setRow (by omega) _⟩
def E3 (n:Nat) (A:List Bool) (k:Nat):List Bool:=(ι n).map λj=>if j<k then !A.getD j Τ else Τ
theorem Pl (n:Nat) (A:List Bool) (k:Nat):(E3 n A k).length=n:=by simp[E3]
theorem Agj (n:Nat) (A:List Bool):E3 n A 0=ζ n Τ:=by
 apply ϥ;intro i;simp only[E3,ϕ,List.getElem?_replicate,Nat.not_lt_zero,if_false];by_cases h:i<n
 ·simp[h]
 ·simp[h]
theorem Agl (n:Nat) (A:List Bool) (D:A.length=n):E3 n A n=A.map (!·):=by
 subst D;apply ϥ;intro i;simp only[E3,ϕ];by_cases h:i<A.length
 ·simp[h,Η]
 ·simp[h]
theorem Agk (n:Nat) (A:List Bool) (k:Nat) (E:k<n):(E3 n A k).set k (!A.getD k Τ)=E3 n A (k+1):=by
 apply ϥ;intro i;rw[Ï,Pl];simp only[E3,ϕ];by_cases h:i<n
 ·rw[List.getElem?_range h];by_cases e:k=i
  ·subst e;simp[E]
  ·simp only[e,if_false,Option.map_some];by_cases D:i<k
   ·rw[if_pos D,if_pos (by omega)]
   ·rw[if_neg D,if_neg (by omega)]
 ·rw[if_neg (by omega)];simp[h]
theorem Oa (c:Nat->Nat) (n:Nat) (vn va v:Ν):(Ai c n vn va).setIfInBounds 258 v=Ai c n vn v:=by
 apply Array.ext';rw[Array.toList_setIfInBounds];unfold Ai;simp only;apply ϥ;intro i;unfold Eh;rw[Ï];by_cases hi:i<256
 ·have:258≠i:=by omega
  rw[if_neg this,Ϣ (by simpa using hi),Ϣ (by simpa using hi)]
 ·by_cases e:258=i
  ·subst e;simp[ϗ]
  ·rw[if_neg e,ϗ (by simp;omega),ϗ (by simp;omega)];obtain⟨j,rfl⟩:∃ j,i=256+j:=⟨i-256,by omega⟩;have D:j≠2:=by omega
   simp only[ϋ,List.length_range,Nat.add_sub_cancel_left]
   match j,D with
   | 0,_=>rfl
   | 1,_=>rfl
   | j+3,_=>rfl
theorem Vf (d:Dfa) (hv:Val d) (hn:d.n.length<=64) (v:Ν) (w:Λ) (hT:Tab w) (bp:0<w.heap.size) (h:IsD w v d) :
  ϓ Ζ 32 #[v] w λe w'=>∃ r,ResOf w' e (Δ r)/\Cano r/\(∀ u,r.has u=!d.has u)/\Ext w w':=by
 have HD:=Α h;have HV:=Α hv;obtain⟨ac,lc,cc,an,cn,aa,la,ca,rfl⟩:=h.agg;have a6:=((Θ w).alloc (Ε (dA (Β ac lc cc) (Β an d.n.length cn) (Β aa la ca)) 30)).alloc (Ε #[Β Γ 0 0,Β Γ 0 0,Β Γ 0 0] 30);have H0:=Ag (Aa w (Ε (dA (Β ac lc cc) (Β an d.n.length cn) (Β aa la ca)) 30)) (Ε #[Β Γ 0 0,Β Γ 0 0,Β Γ 0 0] 30);have H1:=Ϗ w (Ε (dA (Β ac lc cc) (Β an d.n.length cn) (Β aa la ca)) 30) (Ε #[Β Γ 0 0,Β Γ 0 0,Β Γ 0 0] 30);have f47:=λW (hW:Ext w W)=>Α (Ef d hv hn _ W (HD.out.ext hW))
 have f68:=λW (hW:Ext w W)=>Α (J6 d hv _ W (hT.below hW.below bp) (δ bp hW.size) (HD.out.ext hW))
 obtain⟨j0,hj,c2,c3,c4⟩:=Ϟ D8;have c5:=hv.pos;clear h hv hT;go_enter Tryz.func32,Tryz.ntmps32;go_upto_region 1 with (fail)
 obtain⟨w1,a7⟩:∃ W,(w.alloc (Ε (dA (Β ac lc cc) (Β an d.n.length cn) (Β aa la ca)) 30)).alloc (Ε #[Β Γ 0 0,Β Γ 0 0,Β Γ 0 0] 30)=W:=⟨_,rfl⟩;rw[a7] at a6 H0 H1;simp only[a7];have dm:w1.heap.size=w.heap.size+1+1:=by rw[<-a7,Ρ,Ρ]
 clear a7;have a8:=Α H0;have J:=Α H1;clear H0 H1;go_upto_region 3 with (first
  | (refine Ο rfl 30 (η 1) rfl _ rfl _ _ _ _ a8.out Κ rfl Ad ?_)
  | (go_at_call 47;with_reducible refine (f47 _ a6).out.mono ?_;rintro e w2 ⟨rfl,ao⟩))
 have a8:=Α (ao.heap a8.out);have J:=Α (ao.heap J.out);have br:=a6.trans ao;have dp:=ao.size;clear f47 a6 ao;go_upto_region 4 with (first
  | (refine Ο rfl 30 (η 1) rfl _ rfl _ _ _ _ a8.out Κ rfl Ad ?_)
  | (go_at_call 68;((with_reducible refine (f68 _ br).out.mono ?_);rintro e w3 ⟨A,rfl,hA,bb⟩;have bt:=br.trans bb;have dq:=bb.size;have J:=Α (bb.heap J.out);obtain⟨vn,va,rfl,bg,bu⟩:=hA;obtain⟨ba,oa,ai,rfl,bw⟩:=Le bu (show 0<d.acc.length by rw[HV.out.accL];exact c5);obtain⟨E,G,I,rfl⟩:∃ a n c,vn=Β a n c:=(by obtain⟨vs,_,hs,_⟩:=bg;obtain⟨a,c,rfl⟩:=hs.len;exact⟨_,_,_,rfl⟩);have bz:ξ.size=(Ai (Ae d).cell (Ae d).cells (Β E G I) (Β (Δ ⟨ba,oa,Γ⟩) (Ae d).acc.length ai)).size:=(by rw[Da,Em]);have b0:(Ζ.info? 108).map (·.size)=Δ (Ai (Ae d).cell (Ae d).cells (Β E G I) (Β (Δ ⟨ba,oa,Γ⟩) (Ae d).acc.length ai)).size:=(by rw[Em];exact Cc);have b4:=G5 (Ae d).cell (Ae d).cells (Β E G I) (Β (Δ ⟨ba,oa,Γ⟩) (Ae d).acc.length ai) rfl rfl))
  | (refine Φ rfl 108 (η 4) (η 13) rfl _ _ rfl rfl _ _ (Aa w3 (Ε ξ 108)) b0 bz b4 ?_))
 have hm:(Ae d).acc.length=d.n.length:=HV.out.accL;have aj:=((Θ w3).alloc (Ε ξ 108)).setRow (ν w3.heap.size) (Ai (Ae d).cell (Ae d).cells (Β E G I) (Β (Δ ⟨ba,oa,Γ⟩) (Ae d).acc.length ai));have H5:=μ (w3.alloc (Ε ξ 108)) _ _ (Ai (Ae d).cell (Ae d).cells (Β E G I) (Β (Δ ⟨ba,oa,Γ⟩) (Ae d).acc.length ai)) 108 (0,0) (Aa w3 (Ε ξ 108));obtain⟨T,bc⟩:∃ W,(w3.alloc (Ε ξ 108)).setRow w3.heap.size (Ai (Ae d).cell (Ae d).cells (Β E G I) (Β (Δ ⟨ba,oa,Γ⟩) (Ae d).acc.length ai))=W:=⟨_,rfl⟩;have dr:w3.heap.size<T.heap.size:=by rw[<-bc,ò,Ρ];omega
 rw[bc] at aj H5;simp only[bc];clear bc;rw[hm] at H5 b0 b4;simp only[hm];have c7:=Α (λ(W:Λ) (hW:Ext T W) j (hj:j<d.n.length)=>(aj.trans hW).cell (bw j (by rw[hm];exact hj)));have c8:=Α bg;have b5:=Α H5;have J:=Α (aj.heap J.out);have dt:=bt.size;have k8:=(γ T w3.heap.size 258 _ _ _ H5).trans (Ha _ _ _ _);clear bw bg bu H5 bb bz f68 hm;generalize b6:w3.heap.size=M at *;have c9:=à b6;clear b6;go_upto_region 5 with (at_make;refine ϩ _ rfl _ _ 28 rfl T.heap.size 4 j0 (.bool Τ) 1 Ã hj c2 c3 ε ε _ _ d.n.length rfl rfl rfl rfl (by rw[c4];omega) (by unfold ϛ;omega) (ν _) ?_;intro w5 b7 b8)
 have U:Ext T w5:=(Θ T).grown b8 (λk e=>by cases e);have ad:w5.ownsRow T.heap.size 4 1 (Β (Δ ⟨T.heap.size,0,Γ⟩) d.n.length d.n.length) d.n.length ((E3 d.n.length d.acc 0).map ο):=by rw[Agj,<-B6];exact b7
 clear b7 b8 k8;have k8:=(γ w5 M 258 _ _ _ (U.heap b5.out)).trans (Ha _ _ _ _);generalize b9:T.heap.size=D at *;have da:=Α b9;clear b9;go_wp2_with (fail);clear k8;go_loopw [21] (λi W=>∃ k:Nat,k<=d.n.length/\i=.int ε k/\Ext T W/\W.ownsRow D 4 1 (Β (Δ ⟨D,0,Γ⟩) d.n.length d.n.length) d.n.length ((E3 d.n.length d.acc k).map ο)) (λi _=>d.n.length-(intOf i).toNat)
 case atStart=>exact⟨0,by omega,rfl,U,ad⟩
 case round=>
  clear U ad;obtain⟨k,hk,rfl,U,ad⟩:=hrel;have db:T.heap.size<=D:=à da.out;by_cases bj:k<d.n.length
  ·have ca:wr.cell? ⟨ba,oa+k,Γ⟩=Δ (.bool (d.acc.getD k Τ)):=c7.out wr U k bj;have cv:=Am Τ ad (Pl _ _ _).symm k (by rw[Pl];exact bj);have fv:=ad.frozenAt k;obtain⟨ak,cb⟩:=Bk ad k (!d.acc.getD k Τ);rw[Agk _ _ _ bj] at ak;have ar:=U.grown cb (λk e=>by cases e;exact db);clear cb ad U;generalize d.acc.getD k Τ=bx at *;cases bx
   ·go_wp2_with (fail);go_roundw
    case rel=>exact⟨k+1,by omega,by go_num,ar,ak⟩
    case measure=>simp[intOf];omega
   ·go_wp2_with (fail);go_roundw
    case rel=>exact⟨k+1,by omega,by go_num,ar,ak⟩
    case measure=>simp[intOf];omega
  ·obtain rfl:k=d.n.length:=by omega
   rw[Agl _ _ HV.out.accL] at ad;have au:=U.heap b5.out;have k8:=(γ wr M 258 _ _ _ au).trans (Ha _ _ _ _);have f8:=Ϸ wr M 258 _ _ au;have cd:=Cd wr M (Ai (Ae d).cell (Ae d).cells (Β E G I) (Β (Δ ⟨D,0,Γ⟩) d.n.length d.n.length));have dd:wr.setCell ⟨M,258,Γ⟩ (Β (Δ ⟨D,0,Γ⟩) d.n.length d.n.length)=wr.setRow M (Ai (Ae d).cell (Ae d).cells (Β E G I) (Β (Δ ⟨D,0,Γ⟩) d.n.length d.n.length)):=by
    rw[Ϧ wr _ _ _ _ _ _ au,Oa]
   have dx:M<D:=by omega
   have ak:=ad.kept cd (.inr (λe=>by have:D=M:=ύ e;omega));have bk:=μ wr M _ (Ai (Ae d).cell (Ae d).cells (Β E G I) (Β (Δ ⟨D,0,Γ⟩) d.n.length d.n.length)) _ _ au;have ar:=((bt.trans aj).trans U);have cf:=ar.setRow (by omega) (Ai (Ae d).cell (Ae d).cells (Β E G I) (Β (Δ ⟨D,0,Γ⟩) d.n.length d.n.length));have bl:IsT (wr.setRow M (Ai (Ae d).cell (Ae d).cells (Β E G I) (Β (Δ ⟨D,0,Γ⟩) d.n.length d.n.length))) (Ai (Ae d).cell (Ae d).cells (Β E G I) (Β (Δ ⟨D,0,Γ⟩) d.n.length d.n.length)) (Hf (Ae d)):=by
    refine⟨_,_,rfl,?_,OwnB.bools (base:=D) (l:=d.acc.map (!·)) (by
     show Ϡ _ _ _ _ _ _ _;rw[ϋ,HV.out.accL];exact ak) (by rw[ϋ,HV.out.accL];omega)⟩
    exact c8.out.ext ((aj.trans U).setRow c9 _)
   have J:=Α (B7 (U.heap J.out) (show w.heap.size+1≠M by omega) (Ai (Ae d).cell (Ae d).cells (Β E G I) (Β (Δ ⟨D,0,Γ⟩) d.n.length d.n.length)));clear au ad ak aj ar cd;go_upto_region 11 with (fail)
   clear k8 f8 dd;obtain⟨w6,bm⟩:∃ W,wr.setRow M (Ai (Ae d).cell (Ae d).cells (Β E G I) (Β (Δ ⟨D,0,Γ⟩) d.n.length d.n.length))=W:=⟨_,rfl⟩;rw[bm] at bl bk cf J;rw[bm];clear bm;have cg:=Α bk;have hiB:(Ζ.info? 108).map (·.size)=Δ (Ai (Ae d).cell (Ae d).cells (Β E G I) (Β (Δ ⟨D,0,Γ⟩) d.n.length d.n.length)).size:=by rw[Em];exact Cc
   have hC:=Α (K7 (Hf (Ae d)) (Vc (Bj HV.out)) (show d.n.length<=65536 by omega) _ w6 bl);clear bk bl;obtain⟨A6,cj⟩:∃ X,Ai (Ae d).cell (Ae d).cells (Β E G I) (Β (Δ ⟨D,0,Γ⟩) d.n.length d.n.length)=X:=⟨_,rfl⟩;rw[cj] at cg hiB hC;clear cj;go_wp2_with (first
    | (refine Ο rfl 108 (η 4) rfl _ rfl _ _ _ _ cg.out Ϫ rfl hiB ?_)
    | (go_at_call 69;(with_reducible refine hC.out.mono ?_);rintro e w7 ⟨v,r,rfl,hr,ck,cl,cm⟩;have HR:=Α hr;have cp:=Α ck;have HH:=Α cl;clear ck cl;obtain⟨cq,cr,ct,cu,cw,cx,cy,cz,rfl⟩:=hr.agg;clear hr;have dk:=cf.trans cm;have J:=Α (cm.heap J.out))
    | (refine Φ rfl 30 (η 2) (η 35) rfl _ _ rfl rfl _ _ J.out Ad rfl (Aq _ _ _ rfl rfl rfl) ?_))
   refine ω (v:=ϙ #[.agg (dA (Β cq cr ct) (Β cu r.n.length cw) (Β cx cy cz)),.int ε 0]) (A3 rfl _ _ _ _ _ _ _ rfl _ rfl (μ w7 _ _ (dA (Β cq cr ct) (Β cu r.n.length cw) (Β cx cy cz)) 30 (0,0) J.out) Κ rfl Ad) rfl ?_;exact⟨r,⟨_,rfl,HR.out.setRow cp.out.val J.out _⟩,cp.out,λu=>by rw[HH.out,Ve (Bj HV.out),Dp],dk.setRow (by omega) _⟩
theorem Xv (d:Dfa) (l:List UInt8) (j:Nat) (h:j<l.length):d.run 0 (l.take (j+1))=d.stp (d.run 0 (l.take j)) (l.getD j 0).toNat:=by
 rw[List.take_succ_eq_append_getElem h,B9];simp[Dfa.run,Η,h]
theorem Zr (d:Dfa) (hv:Val d) (hn:d.n.length<=64) (v:Ν) (l:List UInt8) (u:Ν) (w:Λ) (hT:Tab w) (ag:0<w.heap.size) (h:IsD w v d) (I:By w u l) :
  ϓ Ζ 29 #[v,u] w λe w'=>e=θ (.bool (d.has l))/\Ext w w':=by
 have HD:=Α h;obtain⟨vc,vn,va,rfl,_,_,_⟩:=h;have au:=(Θ w).alloc (Ε #[vc,vn,va] 30);have J:=Α (Aa w (Ε #[vc,vn,va] 30));have f47:=λW (D:Ext w W)=>Α (Ef d hv hn _ W (HD.out.ext D))
 have f68:=λW (D:Ext w W)=>Α (J6 d hv _ W (hT.below D.below ag) (δ ag D.size) (HD.out.ext D))
 obtain⟨ab,bb,ob,cb,rfl,aw,ax⟩:=I.split;have cw:l.length<=4611686018427387904:=I.1;have b4:=Α aw;have b5:=Α ax;have hV:=Bj hv;have U:=Α hv;clear aw ax I HD hT ag;go_enter Tryz.func29,Tryz.ntmps29;go_upto_region 1 with (fail)
 generalize w.alloc (Ε #[vc,vn,va] 30)=w1 at *;have aj:(Ζ.info? 30).map (·.size)=Δ 3:=by kernel_rfl
 go_upto_region 3 with (first
  | (refine Ο rfl 30 (η 2) rfl _ rfl _ _ _ _ J.out Κ rfl aj ?_)
  | (go_at_call 47;with_reducible refine (f47 _ au).out.mono ?_;rintro e w2 ⟨rfl,ak⟩))
 have J:=Α (ak.heap J.out);have al:=au.trans ak;go_upto_region 4 with (first
  | (refine Ο rfl 30 (η 2) rfl _ rfl _ _ _ _ J.out Κ rfl aj ?_)
  | (go_at_call 68;with_reducible refine (f68 _ al).out.mono ?_;rintro e E ⟨A,rfl,hA,ay⟩;obtain⟨bn,on,cn,ba,oa,ca,an,az,a1,_,a6,a7,hR,bc⟩:=hA.opened hV;have bd:ξ.size=A.size:=(by rw[Da,an]);have be:(Ζ.info? 108).map (·.size)=Δ A.size:=(by rw[an];exact Cc))
  | (refine Φ rfl 108 (η 5) (η 13) rfl _ A rfl rfl _ _ (Aa E (Ε ξ 108)) be bd az ?_))
 have aa:=((Θ E).alloc (Ε ξ 108)).setRow (ν E.heap.size) A;have H5:=μ (E.alloc (Ε ξ 108)) _ _ A 108 (0,0) (Aa E (Ε ξ 108));obtain⟨M,bf⟩:∃ W,(E.alloc (Ε ξ 108)).setRow E.heap.size A=W:=⟨_,rfl⟩;simp only[bf] at *;clear bf;have bg:=(al.trans ay).trans aa;have b8:=Α (λ(W:Λ) (D:Ext M W)=>(γ W E.heap.size 257 _ _ _ (D.heap H5)).trans a6);have b9:=Α (λ(W:Λ) (D:Ext M W)=>(γ W E.heap.size 258 _ _ _ (D.heap H5)).trans a7);have cd:=Α (λ(W:Λ) (D:Ext M W) (b:Nat) (I:b<256)=>(γ W E.heap.size b _ _ _ (D.heap H5)).trans (a1 b I));have HR:=Α (hR.ext aa);have cg:=Α (λs hs=>aa.cell (bc s hs));generalize E.heap.size=B5 at *;clear hR bc a6 a7 a1 bd be az an H5 J f47 f68 aa ay al ak aj;go_wp2_with (fail);go_loopw [6,16] (λs i W=>∃ j:Nat,j<=l.length/\i=.int ε j/\s=iv (d.run 0 (l.take j))/\Ext M W) (λ_ i _=>l.length-(intOf i).toNat)
 case atStart=>exact⟨0,by omega,rfl,rfl,Θ M⟩
 case round=>
  obtain⟨j,hj,rfl,rfl,G⟩:=hrel;have ae:=U.out.run_lt (l.take j) U.out.pos;by_cases bh:j<l.length
  ·have e:=b4.out (by omega);subst e;have af:=Xv d l j bh;have cx:=(bg.trans G).cell (b5.out j bh);obtain⟨x,bk⟩:∃ x,l.getD j 0=x:=⟨_,rfl⟩;rw[bk] at cx af;clear bk;have hx:=x.toNat_lt;obtain⟨s,hs⟩:∃ s,d.run 0 (l.take j)=s:=⟨_,rfl⟩;rw[hs] at ae af ⊢;clear hs;have bm:=Α af;clear af;obtain⟨br,or',cr,bo,bp⟩:=HR.out s ae;have k7:=Be (b8.out wr G);have kc:=Be (cd.out wr G x.toNat hx);have r1:=Be (G.cell bo);have hk:=cell_lt U.out.parts hx;have r2:=Be (G.cell (bp _ hk));have bu:(Ae d).cell x.toNat=Ak d.cls x.toNat:=rfl;rw[bu] at kc;have bw:À ((Ae d).ent2 s (Ak d.cls x.toNat)=d.stp s x.toNat):=Α rfl;rw[bw.out,<-bm.out] at r2;clear bu bo bp;have T:(Ae d).n.length=d.n.length:=rfl;have bx:(Ae d).cells=d.cls.length:=rfl;rw[T] at k7;rw[bx] at r1;have da:=U.out.parts.le;obtain⟨s2,aq⟩:∃ s2,d.run 0 (l.take (j+1))=s2:=⟨_,rfl⟩;rw[aq] at r2;have cj:=Α aq;clear aq;generalize Ak d.cls x.toNat=k at *;clear bw bm T bx;have db:(x.toNat:Int)<256:=by omega
   go_upto_region 8 with (fail)
   refine Dx (by kernel_rfl) (by kernel_rfl) ?_;iterate 12 (with_reducible refine è (λK hK=>?_);go_simp;(refine hK _ ?_;clear hK K))
   refine wpQuiet_nil ?_;rintro _ ⟨e,rfl⟩;have ck:=G.trans e.ext;clear k7 kc r1 r2 cx;generalize e.W=w5 at *;go_wp2;go_roundw
   case rel=>exact⟨j+1,by omega,by go_num,by rw[cj.out],ck⟩
   case measure=>simp[intOf];omega
  ·obtain rfl:j=l.length:=by omega
   rw[List.take_length] at ae ⊢;have HF:À (d.has l=d.ok (d.run 0 l)):=Α rfl;generalize d.run 0 l=s at *;have k8:=b9.out wr G;have ka:=G.cell (cg.out s ae);have HT:À ((Ae d).ok s=d.has l):=Α (by rw[HF.out];rfl);rw[HT.out] at ka;have T:(Ae d).n.length=d.n.length:=rfl;rw[T] at k8;clear T;go_wp2;go_ret;exact⟨rfl,bg.trans G⟩
theorem Wo {L:List Cls} (D:Parts L) {b:Nat} (E:b<256):Gq L (b:Int)=(Ak L b:Nat):=by
 refine Wp L b (Ak L b) (cell_lt D E) ?_ λj G=>?_
 ·unfold Aw;rw[å];exact E7 D E
 ·unfold Aw;rw[å];have I:j<L.length:=Nat.lt_trans G (cell_lt D E);have:=List.not_of_lt_findIdx G;rw[Η,List.getElem?_eq_getElem I]
  simpa using this
theorem IsD.opened {W:Λ} {v:Ν} {d:Dfa} (h:IsD W v d) (hv:Val d):∃ D E cc G I T J M U,v=.agg (dA (Β (Δ ⟨D,E,Γ⟩) d.cls.length cc) (Β (Δ ⟨G,I,Γ⟩) d.n.length T) (Β (Δ ⟨J,M,Γ⟩) d.n.length U))/\
  Cs W (Β (Δ ⟨D,E,Γ⟩) d.cls.length cc) d.cls/\RowsAt W G I d.n.length d.cls.length d.ent2/\∀ s,s<d.n.length->W.cell? ⟨J,M+s,Γ⟩=Δ (.bool (d.ok s)):=by
 obtain⟨vc,vn,va,rfl,hC,hN,hA⟩:=h;obtain⟨G,I,T,rfl,hr⟩:=L5 hN d.cls.length hv.pos hv.parts.pos hv.row;obtain⟨J,M,U,rfl,ha⟩:=Le hA (by rw[hv.accL];exact hv.pos);obtain⟨D,E,cc,rfl,-⟩:=Û hC hv.parts.pos;refine⟨D,E,cc,G,I,T,J,M,U,by rw[hv.accL];rfl,hC,hr,λs hs=>ha s (by rw[hv.accL];exact hs)⟩
theorem An5 (d:Dfa) (hv:Val d) (v:Ν) (l:List UInt8) (u:Ν) (w:Λ) (h:IsD w v d) (hb:By w u l) :
  ϓ Ζ 48 #[v,u] w λe w'=>e=θ (iv (d.run 0 l))/\Ext w w':=by
 obtain⟨D,E,cc,G,I,J,T,U,ca,rfl,hC,hR,-⟩:=h.opened hv;obtain⟨ab,bb,ob,cb,rfl,aq,ar⟩:=hb.split;have b0:l.length<=4611686018427387904:=hb.1;have bg:=Α aq;have bh:=Α ar;have HV:=Α hv;have HC:=Α hC;have HR:=Α hR;have ae:=(Θ w).alloc (Ε (dA (Β (Δ ⟨D,E,Γ⟩) d.cls.length cc) (Β (Δ ⟨G,I,Γ⟩) d.n.length J) (Β (Δ ⟨T,U,Γ⟩) d.n.length ca)) 30);have H0:=Aa w (Ε (dA (Β (Δ ⟨D,E,Γ⟩) d.cls.length cc) (Β (Δ ⟨G,I,Γ⟩) d.n.length J) (Β (Δ ⟨T,U,Γ⟩) d.n.length ca)) 30);have au:=(γ (w.alloc (Ε (dA (Β (Δ ⟨D,E,Γ⟩) d.cls.length cc) (Β (Δ ⟨G,I,Γ⟩) d.n.length J) (Β (Δ ⟨T,U,Γ⟩) d.n.length ca)) 30)) w.heap.size 0 _ _ _ H0).trans (show (dA (Β (Δ ⟨D,E,Γ⟩) d.cls.length cc) (Β (Δ ⟨G,I,Γ⟩) d.n.length J) (Β (Δ ⟨T,U,Γ⟩) d.n.length ca))[0]? = Δ (Β (Δ ⟨D,E,Γ⟩) d.cls.length cc) from rfl);have aw:=(γ (w.alloc (Ε (dA (Β (Δ ⟨D,E,Γ⟩) d.cls.length cc) (Β (Δ ⟨G,I,Γ⟩) d.n.length J) (Β (Δ ⟨T,U,Γ⟩) d.n.length ca)) 30)) w.heap.size 1 _ _ _ H0).trans (show (dA (Β (Δ ⟨D,E,Γ⟩) d.cls.length cc) (Β (Δ ⟨G,I,Γ⟩) d.n.length J) (Β (Δ ⟨T,U,Γ⟩) d.n.length ca))[1]? = Δ (Β (Δ ⟨G,I,Γ⟩) d.n.length J) from rfl);have bl:=Α (λ(W:Λ) (hW:Ext _ W)=>hW.cell au);have bm:=Α (λ(W:Λ) (hW:Ext _ W)=>hW.cell aw);clear aq ar hb hC hR hv au aw H0 h;go_enter Tryz.func48,Tryz.ntmps48;go_upto_region 1 with (fail)
 generalize w.alloc (Ε (dA (Β (Δ ⟨D,E,Γ⟩) d.cls.length cc) (Β (Δ ⟨G,I,Γ⟩) d.n.length J) (Β (Δ ⟨T,U,Γ⟩) d.n.length ca)) 30)=w1 at *;go_wp2_with (fail);go_loopw [5,10] (λs i W=>∃ j:Nat,j<=l.length/\i=.int ε j/\s=iv (d.run 0 (l.take j))/\Ext w1 W) (λ_ i _=>l.length-(intOf i).toNat)
 case atStart=>exact⟨0,by omega,rfl,rfl,Θ w1⟩
 case round=>
  obtain⟨j,hj,rfl,rfl,M⟩:=hrel;have ax:=HV.out.run_lt (l.take j) HV.out.pos;by_cases ay:j<l.length
  ·have e:=bg.out (by omega);subst e;have af:=Xv d l j ay;have cx:=(ae.trans M).cell (bh.out j ay);obtain⟨x,a1⟩:∃ x,l.getD j 0=x:=⟨_,rfl⟩;rw[a1] at cx af;clear a1;have hx:=x.toNat_lt;obtain⟨s,hs⟩:∃ s,d.run 0 (l.take j)=s:=⟨_,rfl⟩;rw[hs] at ax af ⊢;clear hs;have a7:=Α af;clear af;obtain⟨br,or',cr,a8,bd⟩:=HR.out s ax;have k0:=Be (bl.out wr M);have k1:=Be (bm.out wr M);have r1:=Be ((ae.trans M).cell a8);have hk:=cell_lt HV.out.parts hx;have r2:=Be ((ae.trans M).cell (bd _ hk));have f95:=λ(e:EW wr)=>Α (Wl d.cls _ (x.toNat:Int) (by omega) (by omega) e.W (HC.out.ext ((ae.trans M).trans e.ext)))
   rw[Wo HV.out.parts hx] at f95;have be:À (d.ent2 s (Ak d.cls x.toNat)=d.stp s x.toNat):=Α rfl;rw[be.out,<-a7.out] at r2;clear a8 bd;have b7:=HV.out.parts.le;obtain⟨s2,al⟩:∃ s2,d.run 0 (l.take (j+1))=s2:=⟨_,rfl⟩;rw[al] at r2;have bq:=Α al;clear al;generalize Ak d.cls x.toNat=k at *;clear be a7;have b8:(x.toNat:Int)<256:=by omega
   go_upto_region 5 with (fail)
   refine Dx (by kernel_rfl) (by kernel_rfl) ?_;iterate 12 (with_reducible refine è (λK hK=>?_);go_simp;first|(refine hK _ ?_;clear hK K)|(apply Exists.intro;refine⟨λ_=>?_,hK _ ?_⟩;(with_reducible exact F7 (f95 _).out);clear hK K))
   refine wpQuiet_nil ?_;rintro _ ⟨e,rfl⟩;have bt:=M.trans e.ext;clear k0 k1 r1 r2 cx f95;generalize e.W=w5 at *;go_wp2;go_roundw
   case rel=>exact⟨j+1,by omega,by go_num,by rw[bq.out],bt⟩
   case measure=>simp[intOf];omega
  ·obtain rfl:j=l.length:=by omega
   rw[List.take_length];go_wp2;go_ret;exact⟨rfl,ae.trans M⟩
theorem Wu (c:Cls) (b:Int) (D:0<=b) (E:b<256) (w:Λ) :
  ϓ Ζ 133 #[.agg (Ab c),.int ε b] w λe w'=>e=θ (.bool (Aw c b))/\Ext w w':=by
 have G:=Ng w (Ab c) 62 (b / 64).toNat _ (F3 c _ (by omega));have ⟨I,J⟩:=Gb c (b / 64).toNat;go_enter Tryz.func133,Tryz.ntmps133;go_wp2;go_ret;exact⟨Hc (Ud c b D E),(Θ w).alloc _⟩
theorem Ajh (l:List Cls) (T:Parts l) (hn:l.length<=256) (b:Nat) (G:b<256) (v:Ν) (w:Λ) (h:Cs w v l) :
  ϓ Ζ 97 #[v,.int ε b] w λe w'=>e=θ (iv (Ak l b))/\Ext w w':=by
 have ai:=cell_lt T G;obtain⟨B,aj,ba,rfl,hc⟩:=Û h (by omega);have HC:=Α (λ(W:Λ) (hW:Ext w W) k (U:k<l.length)=>Ji (W:=W) (b:=B) (off:=aj) (l:=l) (λi hi=>hW.cell (hc i hi)) k U);have I:=Α (λk (U:k<l.length) (a1:Ak l b≠k)=>(show Aw (l.getD k 0#256) b=Τ by
  cases hm:Aw (l.getD k 0#256) b with
  | false=>rfl
  | true=>exact absurd (E6 T G U (by unfold Aw at hm;simpa using hm)) a1))
 have aa:=Α (show Aw (l.getD (Ak l b) 0#256) b=Ξ by
  have:=E7 T G;unfold Aw
  simpa using this)
 clear h hc;obtain⟨q,hq⟩:∃ q,Ak l b=q:=⟨_,rfl⟩;rw[hq] at I aa ai;rw[hq];clear hq;obtain⟨n,ad⟩:∃ n,l.length=n:=⟨_,rfl⟩;rw[ad] at HC I ai hn;rw[ad];clear ad;obtain⟨x,hx⟩:∃ x:Int,(b:Int)=x:=⟨_,rfl⟩;have a6:0<=x:=by omega
 have a7:x<256:=by omega
 rw[hx] at I aa;rw[hx];clear hx G;have D:=Θ w;go_enter Tryz.func97,Tryz.ntmps97;go_wp2_with (fail);go_loopw [5] (λvi W=>∃ i:Nat,i<=q/\vi=.int ε i/\Ext w W)
  (λvi _=>n-(intOf vi).toNat)
 case atStart=>exact⟨0,by omega,rfl,D⟩
 case round=>
  clear D;obtain⟨i,hi,rfl,D⟩:=hrel;have bb:(i:Int)<(n:Int):=by omega
  obtain⟨c0,c1,c2,c3⟩:=HC.out wr D i (by omega);have k0:=c0 ⟨wr,Θ wr⟩;have k1:=c1 ⟨wr,Θ wr⟩;have k2:=c2 ⟨wr,Θ wr⟩;have k3:=c3 ⟨wr,Θ wr⟩;simp only at k0 k1 k2 k3;clear c0 c1 c2 c3;have J:=I.out i (by omega);have M:q=i->Aw (l.getD i 0#256) x=Ξ:=λe=>by rw[<-e];exact aa.out
  obtain⟨ci,ax⟩:∃ c,l.getD i 0#256=c:=⟨_,rfl⟩;rw[ax] at k0 k1 k2 k3 J M;clear ax;have J:=Α J;have M:=Α M;have f:=Α (Wu ci x a6 a7 wr);obtain⟨mb,E⟩:∃ m,Aw ci x=m:=⟨_,rfl⟩;rw[E] at f;by_cases bc:i<q
  ·obtain rfl:mb=Τ:=by rw[<-E];exact J.out (by omega)
   clear E;go_wp2_with (first
    | (go_at_call 133;(with_reducible refine f.out.mono ?_);rintro e wy ⟨rfl,ag⟩))
   have ah:=D.trans ag;go_roundw
   case rel=>exact⟨i+1,by omega,by go_num,ah⟩
   case measure=>simp[intOf];omega
  ·obtain rfl:i=q:=by omega
   obtain rfl:mb=Ξ:=by rw[<-E];exact M.out rfl
   clear E;go_wp2_with (first
    | (go_at_call 133;(with_reducible refine f.out.mono ?_);rintro e wy ⟨rfl,ag⟩))
   have ah:=D.trans ag;go_ret;exact⟨rfl,ah⟩
end Go.Proofs.YtaiogolidlamiaaGreatDoor
