import Derived.Test.YtaiogolidlamiaaGreatDoorM04
import Derived.Test.YtaiogolidlamiaaGreatDoorM05
import Derived.Test.YtaiogolidlamiaaGreatDoorM03
set_option linter.unusedVariables false
set_option linter.unusedSimpArgs false
open Array renaming getElem?_eq_none → ü
open Bool renaming true → Ξ, false → Τ
open Go renaming World → Κ, Value → Ρ, TypeId → Á, cell_of_row → Ω, size_setRow → Õ, Calls → Ϝ, info_parts → ϕ, heap_alloc2_new → Ϙ, wpList_load_row → Υ, wpList_store_row → Φ, setRow_heap → μ, wpList_make_full → ϫ, maxLen → ϙ, wpList_append_lies → ϐ, cell_one_new → Ϫ, frozen_of_row → Ϯ, setCell_eq_setRow → Ϥ, bodyPost_ret → ϋ, wpQuiet_step → í
open Go.Act renaming put → Ϛ
open Go.Ending renaming returned → ν
open Go.IntKind renaming i64 → ζ
open Go.Lib renaming hid → Α
open Go.Obj renaming cells → Ε
open Go.Operand renaming tmp → η
open Go.Proofs.Tryz renaming prog → Η, underlying108 → Ϭ, underlying68 → ϓ, underlying28 → Ã, underlying30 → Ν, zeroCells108 → ξ
open Go.RowKit renaming Hid → Ϻ
open Go.Value renaming slice → Β, oneCell' → ϊ, slice → ϟ, bool → ο, tuple → ϥ
open Go.World renaming size_alloc → Λ, ownsRow_nil → Í, ownsRow → ϛ
open Int renaming toNat_natCast → ß
open List renaming length_append → Ο, setIfInBounds_toArray → Θ, set_cons_zero → Χ, set_cons_succ → Ψ, range → ι, replicate → δ, map_append → ϔ, length_set → ύ, ext_getElem? → ϡ, getElem?_map → Ϟ, getD_eq_getElem?_getD → Ζ, getElem?_set → ϲ, getElem?_append_left → Ϣ, getElem?_append_right → ϑ, length_map → Ϗ
open Nat renaming le_trans → ψ, lt_of_lt_of_le → ε, le_refl → θ, le_of_eq → å
open Option renaming some → Δ, none → Γ
open Option.some renaming inj → ω
namespace Go.Proofs.YtaiogolidlamiaaGreatDoor
set_option maxRecDepth 100000
set_option maxHeartbeats 4000000
open Go.RowKit Go.Shelf
theorem Sl.setRow {W:Κ} {v:Ρ} {k n:Nat} {f:Nat->Ρ} {g:Nat} {cs:Array Ρ} {e:Á} {fr:Nat × Nat} (h:Sl W v k n f) (hg:W.heap[g]? = Δ (Ε cs e fr)) (I:∀ i,i<n*k->∀ o:Nat,cs[o]?≠Δ (f i)) (D:0<k) (E:Array Ρ):Sl (W.setRow g E) v k n f:=by
 obtain⟨G,h|⟨hn,b,J,M,hv,T,H⟩⟩:=h
 ·exact⟨G,.inl h⟩
 ·have U:b≠g:=λe=>by
   subst e;have:=H 0 (Nat.mul_pos hn D);rw[Ω W b _ cs _ fr hg] at this;exact I 0 (Nat.mul_pos hn D) _ this
  exact⟨G,.inr ⟨hn,b,J,M,hv,by rw[Õ];exact T,λi hi=>(Yc W g E _ U).trans (H i hi)⟩⟩
theorem D2 {P:Program} {o:Oper} {a:Act} {w:Κ} (ty:Á) (x:Operand) (D:o.op=.load ty x) (g:Nat) (E:a.eval x=.pointer (Δ ⟨g,0,Γ⟩)) (t:Á) (cs:Array Ρ) (fr:Nat × Nat) (d:TypeDesc) (hg:w.heap[g]? = Δ (Ε cs t fr))
  (hu:P.underlying ty=Δ d) (hd:(match d with|.struct _|.array _ _=>Ξ|_=>Τ)=Ξ) (hi:(P.info? ty).map (·.size)=Δ cs.size):(execOp a.eval o).run P w=.ok (.value (.agg cs)) w:=by
 unfold execOp;simp only[D,E,Instr.loadAt,Instr.sureAddr,Sem.run_bind,Sem.run_pure,Result.andThen_ok,run_loadVar_row w g t ty cs fr d hg hu hd hi]
theorem Ad:(Η.info? 30).map (·.size)=Δ 3:=by kernel_rfl
def dA (D vn va:Ρ):Array Ρ:=#[D,vn,va]
theorem Ap (D vn va:Ρ) (E:D.oneCell'=Ξ) (G:vn.oneCell'=Ξ) (H:va.oneCell'=Ξ):(dA D vn va).all (·.oneCell')=Ξ:=by simp[dA,E,G,H]
theorem Qz (a:Option Addr) (n c:Nat):Η.built 30 [(0,Β a n c)]=Δ (dA (Β a n c) (Β Γ 0 0) (Β Γ 0 0)):=by kernel_rfl
def RowsO (W:Κ) (base:Nat) (vs:List Ρ) (N:List (List Nat)) (av:Option Nat->Prop):Prop:=
 vs.length=N.length/\∀ j,j<N.length->OwnI W base (vs.getD j undef) (N.getD j [])/\¬ av (vs.getD j undef).ownBlock
theorem RowsO.kept {W W':Κ} {base:Nat} {vs:List Ρ} {N:List (List Nat)} {av:Option Nat->Prop} {row:Option Nat} (h:RowsO W base vs N av) (hg:W.grownBy W' row)
  (E:∀ v l,OwnI W base v l->¬ av v.ownBlock->v.ownBlock=Γ\/v.ownBlock≠row):RowsO W' base vs N av:=
 ⟨h.1,λj D=>⟨(h.2 j D).1.kept hg (E _ _ (h.2 j D).1 (h.2 j D).2),(h.2 j D).2⟩⟩
theorem RowsO.alloc {W:Κ} {base:Nat} {vs:List Ρ} {N:List (List Nat)} {av:Option Nat->Prop} (h:RowsO W base vs N av) (o:Obj):RowsO (W.alloc o) base vs N av:=
 ⟨h.1,λj D=>⟨(h.2 j D).1.alloc o,(h.2 j D).2⟩⟩
theorem RowsO.av {W:Κ} {base:Nat} {vs:List Ρ} {N:List (List Nat)} {av av':Option Nat->Prop} (h:RowsO W base vs N av) (ha:∀ v l,OwnI W base v l->¬ av v.ownBlock->¬ av' v.ownBlock):RowsO W base vs N av':=
 ⟨h.1,λj D=>⟨(h.2 j D).1,ha _ _ (h.2 j D).1 (h.2 j D).2⟩⟩
theorem RowsO.snoc {W:Κ} {base:Nat} {vs:List Ρ} {N:List (List Nat)} {av:Option Nat->Prop} (h:RowsO W base vs N av) {v:Ρ} {r:List Nat} (D:OwnI W base v r) (ha:¬ av v.ownBlock):RowsO W base (vs++[v]) (N++[r]) av:=by
 refine⟨by simp[h.1],λj E=>?_⟩;rw[Ο,List.length_singleton] at E;by_cases e:j<N.length
 ·rw[Bt _ _ _ _ (by rw[h.1];exact e),Bt _ _ _ _ e];exact h.2 j e
 ·obtain rfl:j=N.length:=by omega
  have:(vs++[v]).getD N.length undef=v:=by rw[<-h.1];exact Cm _ _ _
  rw[this,Cm];exact⟨D,ha⟩
theorem RowsO.rows {W:Κ} {base b':Nat} {vs:List Ρ} {N:List (List Nat)} {av:Option Nat->Prop} (h:RowsO W base vs N av) {v:Ρ} (hv:W.ownsRow b' 68 1 v vs.length vs) (hn:N.length<=4611686018427387904) (D:∀ j,j<N.length->(N.getD j []).length<=4611686018427387904):Rows W v N:=by
 refine⟨vs,h.1,?_,λi hi=>(h.2 i hi).1.ints (D i hi)⟩;have:=Sl.of_owns hv (by rw[h.1];exact hn) undef;rw[h.1] at this;exact this
def Near (W W':Κ):Prop:=W.heap.size<=W'.heap.size/\∀ k,k<W.heap.size->W'.heap[k]? = W.heap[k]?\/∃ cs fr,W.heap[k]? = Δ (Ε cs 108 fr)/\∀ (o:Nat) x,cs[o]?≠Δ (.int .u64 x)
theorem Near.of_ext {W W':Κ} (h:Ext W W'):Near W W':=⟨h.size,λ_ D=>.inl (h.block D)⟩
theorem Near.pre {W D E:Κ} (h:Ext W D) (G:Near D E):Near W E:=⟨ψ h.size G.1,λk H=>by
 have:=G.2 k (ε H h.size)
 rwa [h.block H] at this⟩
theorem Near.setRow {W W':Κ} (h:Near W W') {g:Nat} {old:Array Ρ} {fr:Nat × Nat} (hg:W'.heap[g]? = Δ (Ε old 108 fr)) (G:∀ (o:Nat) x,old[o]?≠Δ (.int .u64 x)) (cs:Array Ρ):Near W (W'.setRow g cs):=by
 refine⟨by rw[Õ];exact h.1,λk E=>?_⟩;by_cases e:k=g
 ·subst e;rcases h.2 k E with D|D
  ·exact .inr ⟨old,fr,by rw[<-D,hg],G⟩
  ·exact .inr D
 ·rw[setRow_other _ _ _ _ e];exact h.2 k E
theorem Near.owns {W W':Κ} (h:Near W W') {base e size:Nat} {v:Ρ} {n:Nat} {xs:List Ρ} (G:W.ownsRow base e size v n xs) (he:e≠108):W'.ownsRow base e size v n xs:=by
 obtain⟨E,H|⟨g,I,cur,hv,J,hg,rest⟩⟩:=G
 ·exact⟨E,.inl H⟩
 ·refine⟨E,.inr ⟨g,I,cur,hv,J,?_,rest⟩⟩;rcases h.2 g (An hg) with D|⟨cs,fr,D,_⟩
  ·rw[D,hg]
  ·rw[hg] at D;injection D with D
   injection D with _ D
   exact absurd D he
theorem Near.rows {W W':Κ} (h:Near W W') {base:Nat} {vs:List Ρ} {N:List (List Nat)} {av:Option Nat->Prop} (D:RowsO W base vs N av):RowsO W' base vs N av:=
 ⟨D.1,λj E=>⟨h.owns (D.2 j E).1 (by decide),(D.2 j E).2⟩⟩
theorem Near.cls {W W':Κ} (h:Near W W') {v:Ρ} {C:List Cls} (H:Cs W v C):Cs W' v C:=by
 obtain⟨G,I|⟨hn,b,J,M,hv,T,D⟩⟩:=H
 ·exact⟨G,.inl I⟩
 ·have U:W'.heap[b]? = W.heap[b]? := by
   have aa:b<W.heap.size:=by
    have:=D 0 (by omega);rcases Nat.lt_or_ge b W.heap.size with h|h
    ·exact h
    ·simp[Κ.cell?,ü h] at this
   rcases h.2 b aa with E|⟨cs,fr,E,h4⟩
   ·exact E
   ·have:=D 0 (by omega);rw[Ω W b _ cs _ fr E] at this;exact absurd this (h4 _ _)
  exact⟨G,.inr ⟨hn,b,J,M,hv,ψ T h.1,λi hi=>(Κ.cell?_of_block U).trans (D i hi)⟩⟩
theorem Qw (t:Tbl) (hv:TVal t) (hn:t.n.length<=65536) (A:Array Ρ) (w:Κ) (h:IsT w A t) :
  Ϝ Η 69 #[.agg A] w λe w'=>∃ v d,e=ν v/\(∀ W,Near w' W->IsD W v d)/\Cano d/\(∀ u,d.has u=t.has u)/\Ext w w':=by
 obtain⟨bn,on,cn,ba,oa,ca,h7,ed,lb,fe,bf,b0,hR,ia⟩:=h.opened hv;have ff:=hv.pos;have n4:=hv.cpos;have n9:=hv.cle;have HR:=Α hR;have HV:=Α hv;have lg:=Α ia;have fg:=Α h;have HS:=Α h7;obtain⟨i0,hi,fj,fk,fl⟩:=ϕ Cg;obtain⟨i4,lk,ll,ln,lo⟩:=ϕ Dt;obtain⟨i6,lq,lr,ls,lu⟩:=ϕ (show (Η.info? 68).map (λi=>(i.zero,i.size,i.bytes))=Δ (Δ (Β Γ 0 0),1,24) by kernel_rfl);have dc:=((Ι w).alloc (Ε A 108)).alloc (Ε #[Β Γ 0 0,Β Γ 0 0,Β Γ 0 0] 30);have H0:=Ag (Ab w (Ε A 108)) (Ε #[Β Γ 0 0,Β Γ 0 0,Β Γ 0 0] 30);have H1:=Ϙ w (Ε A 108) (Ε #[Β Γ 0 0,Β Γ 0 0,Β Γ 0 0] 30);have lv:=Α bf;have lx:=Α b0;clear hR hv h fe bf b0 lb ed h7 ia;go_enter Tryz.func69,Tryz.ntmps69;go_upto_region 1 with (fail)
 obtain⟨w1,ee⟩:∃ W,(w.alloc (Ε A 108)).alloc (Ε #[Β Γ 0 0,Β Γ 0 0,Β Γ 0 0] 30)=W:=⟨_,rfl⟩;have ob:w1.heap.size=w.heap.size+1+1:=by rw[<-ee,Λ,Λ]
 rw[ee] at dc H0 H1;simp only[ee];clear ee;have ef:=Α H0;have ly:=Α H1;clear H0 H1;have ib:(Η.info? 108).map (·.size)=Δ A.size:=by rw[HS.out];exact Cd
 refine B0 8 [(0,Ξ),(1,Ξ),(2,Τ),(3,Τ),(4,Ξ),(5,Ξ),(6,Ξ),(7,Ξ),(8,Τ)] (by kernel_rfl) (by kernel_rfl) (λ_ _ _ _ h=>h)
  (λW=>Ext w1 W) (Ι w1).drew ?_
 have eg:=(Ι w1).drew;obtain⟨w2,ft⟩:∃ W,w1.drew=W:=⟨_,rfl⟩;rw[ft] at eg;rw[ft];clear ft;iterate 2
  refine En (v:=.agg A) rfl rfl (λW J=>D2 108 (η 1) rfl _ rfl _ _ _ _ (J.heap ef.out) Ϭ rfl ib) ?_;simp only[Ϛ,Θ,Χ,Ψ]
 refine Co rfl (λK hK=>?_);go_simp;with_reducible refine (Ad3 t HV.out hn A w2 (fg.out.ext (dc.trans eg))).mono ?_
 rintro e w3 ⟨vl,l,rfl,hl,ie,ig⟩;have eh:=eg.trans ig;have HL:=Α hl;clear hl;refine hK _ _ (λ_=>eh) ?_;clear hK K;refine Co rfl (λK hK=>?_);go_simp;with_reducible refine (Ad1 t HV.out hn l HL.out A vl w3 (fg.out.ext (dc.trans eh)) ie).mono ?_
 rintro e w4 ⟨vN,vR,N,R,rfl,ik,hB,fu,fv,im⟩;have cm:=eh.trans im;have iq:=Α ik;have HB:=Α hB;clear hB ik ie;refine hK _ _ (λ_=>cm) ?_;clear hK K;iterate 4
  refine En (v:=?_) rfl rfl (λW J=>?_) ?_
  rotate_left
  ·go_simp;first|done|with_reducible rfl
  simp only[Ϛ,Θ,Χ,Ψ]
 refine Co rfl (λK hK=>?_);go_simp;refine hK _ _ (λ_=>cm) ?_;clear hK K;refine B2 ?_;have ir:0<R.length:=by
  have:=HB.out.blk.lt 0 HL.out.zero;omega
 have oc:l.length<=t.n.length:=by
  have:=Dy l (ι t.n.length) HL.out.nodup λs hs=>List.mem_range.2 (HL.out.lt s hs)
  simpa using this
 have iu:R.length<=65536:=by
  have:=Jh HB.out.blk;omega
 have iw:=Α (λi (hi:i<R.length)=>HL.out.lt _ (HB.out.blk.mem i hi));have ix:=Α (λi (hi:i<R.length) k (hk:k<t.cells)=>HB.out.blk.lt _ (HL.out.closed _ (HB.out.blk.mem i hi) k hk));have l6:=Α (λi (hi:i<R.length) k (hk:k<t.cells)=>ε (ix.out i hi k hk) iu);have fw:=HB.out.blk.lt 0 HL.out.zero;have fx:=dc.trans cm;clear eg ig im;go_upto_region 2 with (fail)
 have iy:=Α (Agt t HV.out hn N R iq.out ir iu iw.out l6.out A vN vR w4 (fg.out.ext fx) fu fv);have iz:=Α (cm.heap ef.out);go_upto_region 3 with (first
  | (refine Υ rfl 108 (η 1) rfl _ rfl _ _ _ _ iz.out Ϭ rfl ib ?_)
  | (go_at_call 112;with_reducible refine iy.out.mono ?_;rintro e D ⟨vK,vC,E,C,rfl,hM,ja,fy,ei⟩))
 have jb:Sl w4 vN 1 t.n.length (λi=>iv (N.getD i 0)):=by rw[<-iq.out];exact fu
 obtain⟨bN,oN,cN,rfl,jc⟩:=ä jb ff;obtain⟨bR,oR,cR,rfl,jd⟩:=ä fv ir;have je:=hM.parts.pos;have l7:=hM.parts.le;have jf:0<E.length:=by rw[hM.len];exact je
 have ot:E.length<=256:=by rw[hM.len];exact l7
 obtain⟨bK,oK,cK,rfl,jg⟩:=ä ja jf;have ej:=fy;obtain⟨G,H,I,rfl,-⟩:=ä ej je;have HM:=Α hM;have gd:=fx.trans ei;have ek:=cm.trans ei;have ox:w.heap.size+1<D.heap.size:=by have:=ek.size;omega
 have gf:=Α (λ(W:Κ) (J:Ext D W) k (hk:k<t.n.length)=>(ei.trans J).cell (jc k (by omega)));have l8:=Α (λ(W:Κ) (J:Ext D W) k (hk:k<R.length)=>(ei.trans J).cell (jd k (by omega)));have l9:=Α (λ(W:Κ) (J:Ext D W) k (hk:k<E.length)=>J.cell (jg k (by omega)));have ma:=Α (λ(W:Κ) (J:Ext D W)=>(Ω W w.heap.size 257 _ _ _ ((ek.trans J).heap ef.out)).trans lv.out);have mb:=Α (λ(W:Κ) (J:Ext D W)=>(Ω W w.heap.size 258 _ _ _ ((ek.trans J).heap ef.out)).trans lx.out);have mc:=Α (λ(W:Κ) (J:Ext D W)=>HR.out.ext (gd.trans J));have me:=Α (λ(W:Κ) (J:Ext D W) s (hs:s<t.n.length)=>(gd.trans J).cell (lg.out s hs));have mf:=Α (ek.heap ly.out);have mg:=Α (Qz (Δ ⟨G,H,Γ⟩) C.length I);have mh:=Α fy;clear fu jb fv ja fy ej hM jc jd jg iy iz fx cm eh dc;have jh:=Ab D (Ε #[Β Γ 0 0,Β Γ 0 0,Β Γ 0 0] 30);go_upto_region 4 with (first
  | (refine B3 rfl 30 _ rfl (dA (Β (Δ ⟨G,H,Γ⟩) C.length I) (Β Γ 0 0) (Β Γ 0 0)) ?_ ?_;(simp[Act.eval];with_reducible exact mg.out))
  | (refine Φ rfl 30 (η 7) (η 32) rfl _ _ rfl rfl _ _ jh Ad rfl (Ap _ _ _ rfl rfl rfl) ?_))
 clear jh;have cb:=((Ι D).alloc (Ε #[Β Γ 0 0,Β Γ 0 0,Β Γ 0 0] 30)).setRow (θ _) (dA (Β (Δ ⟨G,H,Γ⟩) C.length I) (Β Γ 0 0) (Β Γ 0 0));have en:=μ (D.alloc (Ε #[Β Γ 0 0,Β Γ 0 0,Β Γ 0 0] 30)) D.heap.size _ (dA (Β (Δ ⟨G,H,Γ⟩) C.length I) (Β Γ 0 0) (Β Γ 0 0)) _ _ (Ab D _);have gg:((D.alloc (Ε #[Β Γ 0 0,Β Γ 0 0,Β Γ 0 0] 30)).setRow D.heap.size (dA (Β (Δ ⟨G,H,Γ⟩) C.length I) (Β Γ 0 0) (Β Γ 0 0))).heap.size=D.heap.size+1:=by rw[Õ,Λ]
 obtain⟨wa,cd⟩:∃ W,(D.alloc (Ε #[Β Γ 0 0,Β Γ 0 0,Β Γ 0 0] 30)).setRow D.heap.size (dA (Β (Δ ⟨G,H,Γ⟩) C.length I) (Β Γ 0 0) (Β Γ 0 0))=W:=⟨_,rfl⟩;rw[cd] at cb en gg;simp only[cd];clear cd;go_upto_region 5 with (at_make;refine ϫ _ rfl _ _ 68 rfl wa.heap.size 3 i0 (.int ζ 0) 1 ϓ hi fj fk ζ ζ _ _ R.length rfl rfl rfl rfl (by rw[fl];omega) (by unfold ϙ;omega) (θ _) ?_;intro wb ji gh)
 have jj:=cb.grown gh (λk e=>by cases e);have eo:wb.ownsRow wa.heap.size 3 1 (Β (Δ ⟨wa.heap.size,0,Γ⟩) R.length R.length) R.length ((Ea R.length 0).map ov):=by rw[P7,<-B7];exact ji
 have jk:=(gh.block D.heap.size (An en) (by simp)).trans en;have oy:D.heap.size+1<wb.heap.size:=by have:wa.heap.size<wb.heap.size:=(eo.lt _ rfl).2;omega
 rw[gg] at eo;clear ji gh;generalize mi:wa.heap.size=gn at *;obtain rfl:gn=D.heap.size+1:=gg;clear mi en cb;have dd:=gf.out wb jj 0 ff;obtain⟨x0,ep⟩:∃ x,N.getD 0 0=x:=⟨_,rfl⟩;rw[ep,Nat.add_zero] at dd;rw[ep] at fw;have gi:=Α ep;clear ep;go_upto_region 6 with (fail)
 have bo:=jj.alloc (Ε #[iv x0] 3);have ax:=eo.alloc (Ε #[iv x0] 3);have ct:=Ag jk (Ε #[iv x0] 3);have bh:OwnI (wb.alloc (Ε #[iv x0] 3)) (D.heap.size+1+1) (Β (Δ ⟨wb.heap.size,0,Γ⟩) 1 1) [x0]:=Κ.ownsRow_lit (base:=D.heap.size+1+1) (e:=3) (size:=1) wb #[iv x0] 1 (by omega) (by unfold ϙ;omega) rfl;have cu:D.heap.size+1+1<=(wb.alloc (Ε #[iv x0] 3)).heap.size:=by rw[Λ];omega
 obtain⟨wc,gj⟩:∃ W,wb.alloc (Ε #[iv x0] 3)=W:=⟨_,rfl⟩;rw[gj] at bo ax ct bh cu;rw[gj];clear gj dd eo jk;generalize wb.heap.size=gk at *;go_wp2_with (fail);go_loopw [42] (λi W=>∃ k:Nat,k<=R.length/\i=.int ζ k/\Ext D W/\D.heap.size+1+1<=W.heap.size/\
   W.ownsRow (D.heap.size+1) 3 1 (Β (Δ ⟨D.heap.size+1,0,Γ⟩) R.length R.length) R.length ((Ea R.length k).map ov)/\OwnI W (D.heap.size+1+1) (Β (Δ ⟨gk,0,Γ⟩) 1 1) [x0]/\
   W.heap[D.heap.size]? = Δ (Ε (dA (Β (Δ ⟨G,H,Γ⟩) C.length I) (Β Γ 0 0) (Β Γ 0 0)) 30 (0,0)))
  (λi _=>R.length-(intOf i).toNat)
 case atStart=>exact⟨0,by omega,rfl,bo,cu,ax,bh,ct⟩
 case round=>
  clear bo cu ax bh ct;obtain⟨k,hk,rfl,bo,cu,ax,bh,ct⟩:=hrel;have de:=Α ct;clear ct;by_cases cv:k<R.length
  ·have co:=Am Γ ax (Hf _ _).symm k (by rw[Hf];exact cv);have fo:=ax.frozenAt k;obtain⟨cw,a8⟩:=Bj ax k Γ;rw[P8 _ _ cv] at cw;have df:=bo.grown a8 (λk e=>by cases e;omega);have dg:=bh.kept a8 (Aq bh (by omega));have dh:=Α ((a8.block D.heap.size (An de.out) (by simp)).trans de.out);have dk:=ψ cu a8.size;clear a8 ax bo bh;go_wp2_with (fail);go_roundw
   case rel=>exact⟨k+1,by omega,by go_num,df,dk,cw,dg,dh.out⟩
   case measure=>simp[intOf];omega
  ·obtain rfl:k=R.length:=by omega
   rw[P9] at ax;have dd:=gf.out wr bo 0 ff;rw[gi.out,Nat.add_zero] at dd;have co:=Am Γ ax (by simp) x0 (by simpa using fw);have fo:=ax.frozenAt x0;obtain⟨cw,a8⟩:=Bj ax x0 (Δ 0);have df:=bo.grown a8 (λk e=>by cases e;omega);have dg:=bh.kept a8 (Aq bh (by omega));have dh:=Α ((a8.block D.heap.size (An de.out) (by simp)).trans de.out);have dk:=ψ cu a8.size;clear a8 ax bo bh de;have gl:=Α (Vo (t:=t) (B:=λs=>N.getD s 0) (R:=R) (K:=E) (show N.getD 0 0<R.length by rw[gi.out];exact fw) R.length rfl (δ E.length 0) (by simp));rw[gi.out] at gl;go_wp2_with (fail);clear co fo dd;obtain⟨er,gm⟩:∃ W,wr.setCell ⟨D.heap.size+1,x0,Γ⟩ (ov (Δ 0))=W:=⟨_,rfl⟩;rw[gm] at cw df dg dh dk;have jm:wr.setCell ⟨D.heap.size+1,x0,Γ⟩ (.int ζ 0)=er:=gm;rw[jm];clear gm jm;have jn:=Í er (D.heap.size+1+1) 68 1;have ed:=Í er (D.heap.size+1+1) 4 1;have jo:RowsO er (D.heap.size+1+1) [] [] (λo=>o=Δ gk):=⟨rfl,λj hj=>by simp at hj⟩;go_wp2_with (fail);go_loopw [9,11] (λvo vi W=>∃ (i:Nat) (O:List Nat) (P:List (Option Nat)) (N':List (List Nat)) (Ac:List Bool) (vs:List Ρ) (go co:Nat) (bj ae:Ρ),i<=O.length/\vi=.int ζ i/\vo=Β (Δ ⟨go,0,Γ⟩) O.length co/\Ext D W/\D.heap.size+1+1<=W.heap.size/\
     W.ownsRow (D.heap.size+1) 3 1 (Β (Δ ⟨D.heap.size+1,0,Γ⟩) R.length R.length) R.length (P.map ov)/\OwnI W (D.heap.size+1+1) vo O/\
     Ϻ (W.heap[D.heap.size]? = Δ (Ε (dA (Β (Δ ⟨G,H,Γ⟩) C.length I) bj ae) 30 (0,0)))/\W.ownsRow (D.heap.size+1+1) 68 1 bj vs.length vs/\OwnB W (D.heap.size+1+1) ae Ac/\
     RowsO W (D.heap.size+1+1) vs N' (λo=>o=Δ go)/\Ϻ (LInv t (λs=>N.getD s 0) R E i 0 O P N' (δ E.length 0)/\Ac.length=i/\∀ j,j<i->Ac.getD j Τ=t.ok (R.getD (O.getD j 0) 0)))
    (λ_ vi _=>R.length-(intOf vi).toNat)
   case atStart=>exact⟨0,[x0],_,[],[],[],gk,1,_,_,by omega,rfl,rfl,df,dk,cw,dg,dh,jn,ed,jo,Α ⟨gl.out,rfl,λj hj=>by omega⟩⟩
   case round=>
    clear df dk cw dg dh jn ed jo gl;obtain⟨i,O,P,N',Ac,vs,go,co,bj,ae,oz,rfl,rfl,hE,dn,hP,hI,HD,U,hA,hV,HI⟩:=hrel;have o0:=HI.out.1.len_le;by_cases cv:i<O.length
    ·obtain⟨wo,ml⟩:∃ W,W=wr:=⟨_,rfl⟩;subst ml;have cO:=Am 0 hI rfl i cv;have et:=HI.out.1.lt i cv;obtain⟨x,gp⟩:∃ x,O.getD i 0=x:=⟨_,rfl⟩;rw[gp] at cO et;have jr:=Α gp;clear gp;have cR:=l8.out wo hE x et;have eu:=iw.out x et;have js:=Α (ix.out x et);obtain⟨s,gq⟩:∃ s,R.getD x 0=s:=⟨_,rfl⟩;rw[gq] at cR eu js;have jt:=Α gq;clear gq;go_upto_region 17 with (at_make;refine ϫ _ rfl _ _ 68 rfl (D.heap.size+1+1) 3 i0 (.int ζ 0) 1 ϓ hi fj fk ζ ζ _ _ E.length rfl rfl rfl rfl (by rw[fl];omega) (by unfold ϙ;omega) (by omega) ?_;intro w5 ju bp)
     have jv:=hE.grown bp (λk e=>by cases e);have gu:w5.ownsRow (D.heap.size+1+1) 3 1 (Β (Δ ⟨wo.heap.size,0,Γ⟩) E.length E.length) E.length ((δ E.length 0).map iv):=by rw[<-B7];exact ju
     have jw:=Cb hP bp;have jx:=Cb hI bp;have jy:=Α ((bp.block D.heap.size (An HD.out) (by simp)).trans HD.out);have jz:=Cb U bp;have j0:=Cb hA bp;have mm:=(hI.lt go rfl).2;have j1:=(hV.av (av':=λo=>o=Δ go\/o=Δ wo.heap.size) (λv l M ah=>by
      rintro (e|e)
      ·exact ah e
      ·have:=(M.lt _ e).2;omega)).kept bp (λv l M ah=>by cases v.ownBlock<;>simp)
     have j2:=ψ dn bp.size;have a1:go≠wo.heap.size:=by omega
     have o1:=(gu.lt wo.heap.size rfl).1;generalize wo.heap.size=gr at *;clear ju bp hP hI HD U hA hV hE dn cO cR mm;go_wp2_with (fail);go_loopw [9,72] (λvo vi W=>∃ (k:Nat) (T:List Nat) (P2:List (Option Nat)) (r:List Nat) (aw ev:Nat),k<=E.length/\vi=.int ζ k/\vo=Β (Δ ⟨aw,0,Γ⟩) T.length ev/\aw≠gr/\Ext D W/\D.heap.size+1+1<=W.heap.size/\
       W.ownsRow (D.heap.size+1) 3 1 (Β (Δ ⟨D.heap.size+1,0,Γ⟩) R.length R.length) R.length (P2.map ov)/\OwnI W (D.heap.size+1+1) vo T/\W.ownsRow (D.heap.size+1+1) 3 1 (Β (Δ ⟨gr,0,Γ⟩) E.length E.length) E.length (r.map iv)/\
       Ϻ (W.heap[D.heap.size]? = Δ (Ε (dA (Β (Δ ⟨G,H,Γ⟩) C.length I) bj ae) 30 (0,0)))/\W.ownsRow (D.heap.size+1+1) 68 1 bj vs.length vs/\OwnB W (D.heap.size+1+1) ae Ac/\
       RowsO W (D.heap.size+1+1) vs N' (λo=>o=Δ aw\/o=Δ gr)/\Ϻ (LInv t (λs=>N.getD s 0) R E i k T P2 N' r/\i<T.length/\∀ j,j<=i->T.getD j 0=O.getD j 0))
      (λ_ vi _=>E.length-(intOf vi).toNat)
     case atStart=>exact⟨0,O,P,_,go,co,by omega,rfl,rfl,a1,jv,j2,jw,jx,gu,jy,jz,j0,j1,Α ⟨HI.out.1,cv,λ_ _=>rfl⟩⟩
     case round=>
      clear jv j2 jw jx gu jy jz j0 j1 a1;obtain⟨k,T,P2,r,aw,ev,hk,rfl,rfl,a1,hE,dn,hP,hI,hQ,HD,U,hA,hV,HJ⟩:=hrel;have dp:=Α HJ.out.1.lenP;have dq:=Α HJ.out.1.lenr;have o2:=HJ.out.1.len_le;obtain⟨w5,mo⟩:∃ W,W=wr:=⟨_,rfl⟩;subst mo;by_cases c3:k<E.length
      ·have cK:=l9.out w5 hE k c3;have ew:=HM.out.lt k c3;obtain⟨c,gw⟩:∃ c,E.getD k 0=c:=⟨_,rfl⟩;have c4:Ϻ (N.getD (t.ent2 (R.getD (T.getD i 0) 0) (E.getD k 0)) 0=N.getD (t.ent2 s c) 0):=Α (by rw[HJ.out.2.2 i (θ _),jr.out,jt.out,gw]);rw[gw] at cK ew;clear gw;have j3:=HV.out.tgt s eu c ew;have b7:=js.out c ew;obtain⟨br,or',o4,mq,j4⟩:=(mc.out w5 hE) s eu;have cy:=j4 c ew;have k7:=ma.out w5 hE;obtain⟨y,j6⟩:∃ y,t.ent2 s c=y:=⟨_,rfl⟩;have b7:N.getD (t.ent2 s c) 0<R.length:=b7;rw[j6] at cy j3 b7 c4;clear j6 j4;have cz:=gf.out w5 hE y j3;obtain⟨z,j8⟩:∃ z,N.getD y 0=z:=⟨_,rfl⟩;rw[j8] at cz b7 c4;clear j8;have cp:=Am Γ hP dp.out.symm z (by rw[dp.out];exact b7);obtain⟨o,M⟩:∃ o,P2.getD z Γ=o:=⟨_,rfl⟩;rw[M] at cp;have HO:=Α M;clear M;have kb:Δ (D.heap.size+1)≠Δ gr:=λe=>by have:=ω e;omega
       go_upto_region 21 with (fail)
       clear cK cy cz k7 mq;cases o with
       | some v=>
        replace cp:w5.cell? ⟨D.heap.size+1,z,Γ⟩=Δ (iv v):=cp;have gx:=Α (Vr HJ.out.1 c3 v (by
         show P2.getD (N.getD (t.ent2 (R.getD (T.getD i 0) 0) (E.getD k 0)) 0) Γ=Δ v;rw[c4.out];exact HO.out))
        have cq:=Am 0 hQ dq.out.symm k (by rw[dq.out];exact c3);have fq:=hQ.frozenAt k;obtain⟨mw,bt⟩:=Bj hQ k v;have my:=hE.grown bt (λk e=>by cases e;omega);have mz:=hP.kept bt (.inr kb);have na:=hI.kept bt (.inr (λe=>a1 (ω e)));have nb:=Α ((bt.block D.heap.size (An HD.out) (λe=>by have:=ω e;omega)).trans HD.out);have nc:=U.kept bt (Ai U hQ (by decide));have fe:=hA.kept bt (Ai hA hQ (by decide));have nd:=hV.kept bt (λv l M ah=>.inr (λe=>ah (.inr e)));have nf:=ψ dn bt.size;clear bt hE hP hI hQ HD U hA hV;go_wp2_with (fail);go_roundw
        case rel=>exact⟨k+1,T,P2,r.set k v,aw,ev,by omega,by go_num,rfl,a1,my,nf,mz,na,mw,nb,nc,fe,nd,Α ⟨gx.out,HJ.out.2⟩⟩
        case measure=>simp[intOf];omega
       | none=>
        replace cp:w5.cell? ⟨D.heap.size+1,z,Γ⟩=Δ (.int ζ (-1)):=cp;have gy:=Vs HJ.out.1 c3 HJ.out.2.1 (by
         show N.getD (t.ent2 (R.getD (T.getD i 0) 0) (E.getD k 0)) 0<R.length;rw[c4.out];exact b7) (by
         show P2.getD (N.getD (t.ent2 (R.getD (T.getD i 0) 0) (E.getD k 0)) 0) Γ=Γ;rw[c4.out];exact HO.out)
        rw[c4.out] at gy;have gx:=Α gy;clear gy;have fp:=hP.frozenAt z;obtain⟨gz,bu⟩:=Bj hP z (Δ T.length);have cb:=hE.grown bu (λk e=>by cases e;omega);have cj:=hI.kept bu (Aq hI (by omega));have ey:=hQ.kept bu (Aq hQ (by omega));have ez:=Α ((bu.block D.heap.size (An HD.out) (by simp)).trans HD.out);have e0:=U.kept bu (Aq U (by omega));have e1:=hA.kept bu (Aq hA (by omega));have hb:=hV.kept bu (λv l M ah=>Aq M (by omega));have nh:=ψ dn bu.size;clear bu hE hP hI hQ HD U hA hV;go_upto_region 23 with (fail)
        obtain⟨wa,cd⟩:∃ W,w5.setCell ⟨D.heap.size+1,z,Γ⟩ (ov (Δ T.length))=W:=⟨_,rfl⟩;rw[cd] at gz cb cj ey ez e0 e1 hb nh;have kc:w5.setCell ⟨D.heap.size+1,z,Γ⟩ (.int ζ (T.length:Int))=wa:=cd;rw[kc];clear cd kc cp fp;go_upto_region 24 with (at_builtin;refine ϐ _ rfl _ _ 68 rfl (D.heap.size+1+1) 3 i0 (.int ζ 0) 1 8 ϓ hi fj fk fl rfl (by decide) _ _ _ rfl (cj.alloc _) _ 1 1 [iv z] rfl rfl (Ϫ _ _ _) (by simp[ϊ]) (by decide) (by unfold ϙ;omega) (by omega) (by simp;omega) _ rfl ?_;intro g7 c7 w7 c5 ad kd _)
        have hc:aw=g7\/g7=wa.heap.size+1:=by
         rcases kd with e|e
         ·exact .inl (ω e)
         ·rw[Λ] at e;exact .inr e
        have o5:=(ey.lt gr rfl).2;have ke:g7≠gr:=by
         rcases hc with e|e
         ·rw[<-e];exact a1
         ·omega
        have kf:=(cj.lt aw rfl).1;have ck:=(gz.alloc (Ε #[iv z] 3)).kept ad (.inr (λe=>by have:D.heap.size+1=aw:=ω e;have:D.heap.size+1+1<=aw:=kf;omega));have bc:=(ey.alloc (Ε #[iv z] 3)).kept ad (.inr (λe=>a1 (ω e).symm));have bw:=Α ((ad.block D.heap.size (ε (An ez.out) (by rw[Λ];omega)) (λe=>by have:D.heap.size=aw:=ω e;have:D.heap.size+1+1<=aw:=kf;omega)).trans (Ag ez.out _));have bd:=(e0.alloc (Ε #[iv z] 3)).kept ad (Ai e0 cj (by decide));have bf:=(e1.alloc (Ε #[iv z] 3)).kept ad (Ai e1 cj (by decide));have dt:=(cb.alloc (Ε #[iv z] 3)).grown ad (λk e=>by have:=(cj.lt k e).1;omega);have du:=(((hb.alloc (Ε #[iv z] 3)).av (av':=λo=>(o=Δ aw\/o=Δ gr)\/o=Δ g7) (λv l M ah=>by
         rintro (e|e)
         ·exact ah e
         ·rcases hc with e7|e7
          ·exact ah (.inl (by rw[e,e7]))
          ·have:=(M.lt _ e).2;rw[Λ] at this;omega)).kept ad (λv l M ah=>.inr (λe=>ah (.inl (.inl e))))).av (av':=λo=>o=Δ g7\/o=Δ gr) (λv l M ah=>by
         rintro (e|e)
         ·exact ah (.inr e)
         ·exact ah (.inl (.inr e)))
        have e2:D.heap.size+1+1<=w7.heap.size:=by
         have:=ad.size;rw[Λ] at this;omega
        have kh:Ϻ (OwnI w7 (D.heap.size+1+1) (Β (Δ ⟨g7,0,Γ⟩) (T++[z]).length c7) (T++[z])):=Α (by
         show ϛ _ _ _ _ _ _ _;rw[Ο,ϔ];exact c5)
        clear ad kd cb gz cj ey ez e0 e1 hb c5 hc;have cp:=Am Γ ck (by rw[ύ];exact dp.out.symm) z (by rw[ύ,dp.out];exact b7);rw[Bb _ _ _ _ _ (by rw[dp.out];exact b7),if_pos rfl] at cp;replace cp:w7.cell? ⟨D.heap.size+1,z,Γ⟩=Δ (iv T.length):=cp;have cq:=Am 0 bc dq.out.symm k (by rw[dq.out];exact c3);have fq:=bc.frozenAt k;obtain⟨dv,ai⟩:=Bj bc k T.length;have c6:=dt.grown ai (λk e=>by cases e;omega);have dw:=ck.kept ai (.inr kb);have ni:=Α (kh.out.kept ai (.inr (λe=>ke (ω e))));have c8:=Α ((ai.block D.heap.size (An bw.out) (λe=>by have:=ω e;omega)).trans bw.out);have dx:=bd.kept ai (Ai bd bc (by decide));have b0:=bf.kept ai (Ai bf bc (by decide));have dy:=du.kept ai (λv l M ah=>.inr (λe=>ah (.inr e)));have ea:=ψ e2 ai.size;clear ai dt ck kh bc bw bd bf du;go_wp2_with (fail);go_roundw
        case rel=>
         refine⟨k+1,T++[z],P2.set z (Δ T.length),r.set k T.length,g7,c7,by omega,by go_num,?_,ke,c6,ea,dw,?_,dv,c8,dx,b0,dy,Α ⟨gx.out,?_,λj hj=>?_⟩⟩
         ·rw[Ο];rfl
         ·have h9:ϛ _ _ _ _ _ _ _:=ni.out;show ϛ _ _ _ _ _ _ _;rw[show (T++[z]).length=T.length+1 by simp] at h9 ⊢;exact h9
         ·rw[Ο];have:=HJ.out.2.1;omega
         ·rw[Bt _ _ _ _ (by have:=HJ.out.2.1;omega)];exact HJ.out.2.2 j hj
        case measure=>simp[intOf];omega
      ·obtain rfl:k=E.length:=by omega
       have c1:=(Ω w5 D.heap.size 1 _ _ _ HD.out).trans (show (dA (Β (Δ ⟨G,H,Γ⟩) C.length I) bj ae)[1]? = Δ bj from rfl);have o6:=(hQ.lt gr rfl).1;have o7:vs.length<=65536:=by rw[hV.1,HJ.out.1.lenN];omega
       go_upto_region 27 with (at_builtin;refine ϐ _ rfl _ _ 27 rfl (D.heap.size+1+1) 68 i6 (Β Γ 0 0) 1 24 Tryz.underlying27 lq lr ls lu rfl (by decide) bj vs.length vs rfl (U.alloc _) _ 1 1 [Β (Δ ⟨gr,0,Γ⟩) E.length E.length] rfl rfl (Ϫ _ _ _) (by simp[ϊ]) (by decide) (by unfold ϙ;omega) (by omega) (by simp;omega) _ rfl ?_;intro g7 c7 w7 bd ad _ _;have bw:Ϻ (w7.heap[D.heap.size]? = _):=Α ((ad.block D.heap.size (ε (An HD.out) (by rw[Λ];omega)) (λe=>by have:=(U.lt _ e.symm).1;omega)).trans (Ag HD.out _));have nk:=(Ω w7 D.heap.size 1 _ _ _ bw.out).trans (show (dA (Β (Δ ⟨G,H,Γ⟩) C.length I) bj ae)[1]? = Δ bj from rfl);have f17:=Ϯ w7 D.heap.size 1 _ _ bw.out)
       clear c1 nk f17;have o8:∀ (o:Obj),(w5.alloc o).heap.size=w5.heap.size+1:=λo=>Λ _ _
       have ck:=(hP.alloc (Ε #[Β (Δ ⟨gr,0,Γ⟩) E.length E.length] 68)).kept ad (Ai hP U (by decide));have c5:=(hI.alloc (Ε #[Β (Δ ⟨gr,0,Γ⟩) E.length E.length] 68)).kept ad (Ai hI U (by decide));have bc:=(hQ.alloc (Ε #[Β (Δ ⟨gr,0,Γ⟩) E.length E.length] 68)).kept ad (Ai hQ U (by decide));have bf:=(hA.alloc (Ε #[Β (Δ ⟨gr,0,Γ⟩) E.length E.length] 68)).kept ad (Ai hA U (by decide));have du:=(hV.alloc (Ε #[Β (Δ ⟨gr,0,Γ⟩) E.length E.length] 68)).kept ad (λv l M _=>Ai M (U.alloc (Ε #[Β (Δ ⟨gr,0,Γ⟩) E.length E.length] 68)) (by decide));have dt:=(hE.alloc (Ε #[Β (Δ ⟨gr,0,Γ⟩) E.length E.length] 68)).grown ad (λk e=>by have:=(U.lt k e).1;omega);have e2:D.heap.size+1+1<=w7.heap.size:=by
        have:=ad.size;rw[Λ] at this;omega
       clear ad hP hI hQ hA hV hE U HD;have bd:w7.ownsRow (D.heap.size+1+1) 68 1 (Β (Δ ⟨g7,0,Γ⟩) (vs.length+1) c7) (vs++[ϟ (Δ ⟨gr,0,Γ⟩) E.length E.length]).length (vs++[ϟ (Δ ⟨gr,0,Γ⟩) E.length E.length]):=by
        rw[Ο];exact bd
       obtain⟨row,hf⟩:∃ v,ϟ (Δ ⟨gr,0,Γ⟩) E.length E.length=v:=⟨_,rfl⟩;have nl:row.ownBlock=Δ gr:=by rw[<-hf];rfl
       rw[hf] at bd bc;clear hf;obtain⟨aj,kj⟩:∃ v,ϟ (Δ ⟨g7,0,Γ⟩) (vs.length+1) c7=v:=⟨_,rfl⟩;rw[kj] at bd;have ai:=Bx w7 D.heap.size (dA (Β (Δ ⟨G,H,Γ⟩) C.length I) aj ae);have eb:w7.setCell ⟨D.heap.size,1,Γ⟩ aj=w7.setRow D.heap.size (dA (Β (Δ ⟨G,H,Γ⟩) C.length I) aj ae):=Ϥ w7 _ _ _ _ _ _ bw.out;have c6:=dt.setRow (θ _) (dA (Β (Δ ⟨G,H,Γ⟩) C.length I) aj ae);have dw:=ck.kept ai (Aq ck (by omega));have hh:=c5.kept ai (Aq c5 (by omega));have dv:=bc.kept ai (Aq bc (by omega));have dx:=bd.kept ai (Aq bd (by omega));have b0:=bf.kept ai (Aq bf (by omega));have dy:=du.kept ai (λv l M _=>Aq M (by omega));have c8:=Α (μ w7 D.heap.size _ (dA (Β (Δ ⟨G,H,Γ⟩) C.length I) aj ae) _ _ bw.out);have ea:D.heap.size+1+1<=(w7.setRow D.heap.size (dA (Β (Δ ⟨G,H,Γ⟩) C.length I) aj ae)).heap.size:=by rw[Õ];exact e2
       rw[kj,eb];clear ai ck c5 bc bd bf du dt e2 bw eb;obtain⟨w8,hp⟩:∃ W,w7.setRow D.heap.size (dA (Β (Δ ⟨G,H,Γ⟩) C.length I) aj ae)=W:=⟨_,rfl⟩;rw[hp] at dw hh dv dx b0 dy c8 c6 ea;rw[hp];clear hp;have c2:∀ W:Κ,W.heap[D.heap.size]? = Δ (Ε (dA (Β (Δ ⟨G,H,Γ⟩) C.length I) aj ae) 30 (0,0))->W.cell? ⟨D.heap.size,2,Γ⟩=Δ ae:=λW J=>(Ω W D.heap.size 2 _ _ _ J).trans rfl
       refine B0 10 [(0,Ξ),(1,Ξ),(2,Ξ),(3,Ξ),(4,Ξ),(5,Ξ),(6,Ξ),(7,Τ),(8,Τ),(9,Ξ),(10,Τ)] (by kernel_rfl) (by kernel_rfl) (λ_ _ _ _ h=>h)
        (λW=>Ext D W/\W.heap[D.heap.size]? = Δ (Ε (dA (Β (Δ ⟨G,H,Γ⟩) C.length I) aj ae) 30 (0,0))) ⟨c6.drew,c8.out⟩ ?_
       iterate 7
        refine En (v:=?_) rfl rfl (λW J=>?_) ?_
        rotate_left
        ·obtain⟨kk,kl⟩:=J;have k2:=c2 W kl;have k8:=mb.out W kk;have ka:=me.out W kk s eu;clear kl;go_simp;first|done|with_reducible rfl
        simp only[Ϛ,Θ,Χ,Ψ]
       have e3:=Ah dw (Ι w8).drew;have e4:=Ah hh (Ι w8).drew;have e5:=Ah dv (Ι w8).drew;have e6:=Ah dx (Ι w8).drew;have bm:=Ah b0 (Ι w8).drew;have hr:=dy.kept ((Ι w8).drew.grownBy Γ) (λv l _ _=>by cases v.ownBlock<;>simp);have ec:Ϻ (w8.drew.heap[D.heap.size]? = Δ (Ε (dA (Β (Δ ⟨G,H,Γ⟩) C.length I) aj ae) 30 (0,0))):=Α c8.out;have e8:=c6.drew;have kn:D.heap.size+1+1<=w8.drew.heap.size:=ea;obtain⟨w9,ht⟩:∃ W,w8.drew=W:=⟨_,rfl⟩;rw[ht] at e3 e4 e5 e6 bm hr ec e8 kn;rw[ht];clear ht dw hh dv dx b0 dy c8 c6 ea;have pb:Ac.length<=65536:=by rw[HI.out.2.1];omega
       refine Co rfl (λK hK=>?_);go_simp;refine hK _ _ (λ_=>⟨e8.alloc _,Ag ec.out _⟩) ?_;clear hK K;refine Co rfl (λK hK=>?_);refine step_append_lies _ rfl _ _ 28 rfl (D.heap.size+1+1) 4 i4 (.bool Τ) 1 1 Ã lk ll ln lo rfl (by decide) ae Ac.length (Ac.map ο) rfl (bm.alloc _) _ 1 1 [.bool (t.ok s)] rfl rfl (Ϫ _ _ _) (by simp[ϊ]) (by decide) (by unfold ϙ;omega) (by omega) (by simp;omega) _ rfl ?_;intro ko kq be c9 bz _ _;have hx:=(e8.alloc (Ε #[.bool (t.ok s)] 4)).grown bz (λk e=>by have:=(bm.lt k e).1;omega);have da:=Α ((bz.block D.heap.size (ε (An ec.out) (by rw[Λ];omega)) (λe=>by have:=(bm.lt _ e.symm).1;omega)).trans (Ag ec.out _));have hy:=(e3.alloc (Ε #[.bool (t.ok s)] 4)).kept bz (Ai e3 bm (by decide));have hz:=(e4.alloc (Ε #[.bool (t.ok s)] 4)).kept bz (Ai e4 bm (by decide));have h0:=(e5.alloc (Ε #[.bool (t.ok s)] 4)).kept bz (Ai e5 bm (by decide));have h2:=(e6.alloc (Ε #[.bool (t.ok s)] 4)).kept bz (Ai e6 bm (by decide));have kr:=(hr.alloc (Ε #[.bool (t.ok s)] 4)).kept bz (λv l M _=>Ai M (bm.alloc (Ε #[.bool (t.ok s)] 4)) (by decide));have ks:D.heap.size+1+1<=be.heap.size:=by
        have:=bz.size;rw[Λ] at this;omega
       have c9:OwnB be (D.heap.size+1+1) (Β (Δ ⟨ko,0,Γ⟩) (Ac.length+1) kq) (Ac++[t.ok s]):=by
        show ϛ _ _ _ _ _ _ _;rw[Ο,ϔ];exact c9
       clear bz e3 e4 e5 e6 bm hr ec e8 kn;refine hK _ _ (λ_=>⟨hx,da.out⟩) ?_;clear hK K;refine En (v:=?_) rfl rfl (λW J=>?_) ?_
       rotate_left
       ·clear J;go_simp;first|done|with_reducible rfl
       simp only[Ϛ,Θ,Χ,Ψ];have k2:=c2 be da.out;have f2:=Ϯ be D.heap.size 2 _ _ da.out;refine Co rfl (λK hK=>?_);go_simp;refine hK _ _ (λh=>absurd h (by omega)) ?_;clear hK K k2 f2 c2;refine B2 ?_;obtain⟨b8,kt⟩:∃ v,ϟ (Δ ⟨ko,0,Γ⟩) (Ac.length+1) kq=v:=⟨_,rfl⟩;rw[kt] at c9;have cl:=Bx be D.heap.size (dA (Β (Δ ⟨G,H,Γ⟩) C.length I) aj b8);have eb:be.setCell ⟨D.heap.size,2,Γ⟩ b8=be.setRow D.heap.size (dA (Β (Δ ⟨G,H,Γ⟩) C.length I) aj b8):=Ϥ be _ _ _ _ _ _ da.out;have ku:=hx.setRow (θ _) (dA (Β (Δ ⟨G,H,Γ⟩) C.length I) aj b8);have kv:=hy.kept cl (Aq hy (by omega));have kx:=hz.kept cl (Aq hz (by omega));have h3:=h0.kept cl (Aq h0 (by omega));have ky:=h2.kept cl (Aq h2 (by omega));have kz:=c9.kept cl (Aq c9 (by omega));have h4:=kr.kept cl (λv l M _=>Aq M (by omega));have k0:=Α (μ be D.heap.size _ (dA (Β (Δ ⟨G,H,Γ⟩) C.length I) aj b8) _ _ da.out);have k5:D.heap.size+1+1<=(be.setRow D.heap.size (dA (Β (Δ ⟨G,H,Γ⟩) C.length I) aj b8)).heap.size:=by rw[Õ];exact ks
       rw[kt,eb];clear cl hy hz h0 h2 c9 kr hx ks da eb;obtain⟨nm,h5⟩:∃ W,be.setRow D.heap.size (dA (Β (Δ ⟨G,H,Γ⟩) C.length I) aj b8)=W:=⟨_,rfl⟩;rw[h5] at kv kx h3 ky kz h4 k0 ku k5;rw[h5];clear h5;have k6:OwnI nm (D.heap.size+1+1) row r:=by
        show ϛ _ _ _ _ _ _ _;rw[dq.out];exact h3
       have nn:=(h4.av (av':=λo=>o=Δ aw) (λv l _ ah e=>ah (.inl e))).snoc k6 (by rw[nl];exact λe=>a1 (ω e).symm);have np:=Α (Vq HJ.out.1 HJ.out.2.1 (δ E.length 0) (by simp));have nq:Ϻ ((Ac++[t.ok s]).length=i+1/\∀ j,j<i+1->(Ac++[t.ok s]).getD j Τ=t.ok (R.getD (T.getD j 0) 0)):=Α ⟨by rw[Ο,HI.out.2.1];rfl,λj hj=>by
        rw[HJ.out.2.2 j (by omega),He,HI.out.2.1];by_cases k9:j<i
        ·rw[if_pos k9];exact HI.out.2.2 j k9
        ·obtain rfl:j=i:=by omega
         rw[if_neg (by omega),if_pos rfl,jr.out,jt.out]⟩
       have pc:=HJ.out.2.1;clear h3 h4 k6 a1;go_wp2;go_roundw
       case rel=>exact⟨i+1,T,P2,N'++[r],Ac++[t.ok s],vs++[row],aw,ev,aj,b8,by omega,by go_num,rfl,ku,k5,kv,kx,k0,ky,kz,nn,Α ⟨np.out,nq.out⟩⟩
       case measure=>simp[intOf];omega
    ·obtain rfl:i=O.length:=by omega
     have nr:=Α (Vt (L:=C) HM.out.len jf HI.out.1 rfl HI.out.2.1 HI.out.2.2);have la:=Α (V0 HV.out HL.out HB.out HM.out nr.out);have h6:=Α (hE.heap mf.out);obtain⟨an,fa,rfl⟩:=Dr U;obtain⟨aa,fc,rfl⟩:=Dr hA;go_wp2_with (first
      | (refine Υ rfl 30 (η 7) rfl _ rfl _ _ _ _ HD.out Ν rfl Ad ?_)
      | (refine Φ rfl 30 (η 2) (η 126) rfl _ _ rfl rfl _ _ h6.out Ad rfl (Ap _ _ _ rfl rfl rfl) ?_))
     refine ϋ (v:=.agg (dA (Β (Δ ⟨G,H,Γ⟩) C.length I) (Β an vs.length fa) (Β aa Ac.length fc))) (results_cell_row rfl _ _ _ _ _ _ _ rfl (μ wr _ _ (dA (Β (Δ ⟨G,H,Γ⟩) C.length I) (Β an vs.length fa) (Β aa Ac.length fc)) 30 (0,0) h6.out) Ν rfl Ad) rfl ?_;have a1:=Bx wr (w.heap.size+1) (dA (Β (Δ ⟨G,H,Γ⟩) C.length I) (Β an vs.length fa) (Β aa Ac.length fc));have ns:=U.kept a1 (Aq U (by omega));have nt:=hA.kept a1 (Aq hA (by omega));have nu:=hV.kept a1 (λv l M _=>Aq M (by omega));have ej:=Sl.setRow (mh.out.ext hE) h6.out (λi _ o=>by
      intro h;have:o=0\/o=1\/o=2\/3<=o:=by omega
      rcases this with rfl|rfl|rfl|M
      ·simp at h
      ·simp at h
      ·simp at h
      ·rw[ü (by simpa using M)] at h;cases h) (by omega) (dA (Β (Δ ⟨G,H,Γ⟩) C.length I) (Β an vs.length fa) (Β aa Ac.length fc))
     refine⟨_,⟨C,N',Ac⟩,rfl,λW J=>⟨_,_,_,rfl,J.cls ej,(J.rows nu).rows (J.owns ns (by decide)) (by rw[HI.out.1.lenN];omega) (λj hj=>by rw[HI.out.1.rows j (by rw[<-HI.out.1.lenN];exact hj)];omega),OwnB.bools (J.owns nt (by decide)) (by rw[HI.out.2.1];omega)⟩,la.out.1,la.out.2,?_⟩;exact (gd.trans hE).setRow (by omega) _
theorem Kw (t:Tbl) (hv:TVal t) (hn:t.n.length<=65536) (A:Array Ρ) (w:Κ) (h:IsT w A t) :
  Ϝ Η 69 #[.agg A] w λe w'=>∃ v d,e=ν v/\IsD w' v d/\Cano d/\(∀ u,d.has u=t.has u)/\Ext w w':=
 (Qw t hv hn A w h).mono λ_ _ ⟨v,d,he,D,E,G,H⟩=>⟨v,d,he,D _ (Near.of_ext (Ι _)),E,G,H⟩
def zD:Ρ:=.agg #[Β Γ 0 0,Β Γ 0 0,Β Γ 0 0]
def ResOf (W:Κ) (e:Ending):Option Dfa->Prop
 | some d=>∃ v,e=ν (ϥ #[v,.int ζ 0])/\IsD W v d
 | none=>e=ν (ϥ #[zD,.int ζ 2])
theorem J7 {o:Nat} {x:Ρ} (h:(#[ϟ Γ 0 0,ϟ Γ 0 0,ϟ Γ 0 0])[o]? = Δ x):x=Β Γ 0 0:=by
 have:o=0\/o=1\/o=2\/3<=o:=by omega
 rcases this with rfl|rfl|rfl|D
 ·simpa using h.symm
 ·simpa using h.symm
 ·simpa using h.symm
 ·rw[ü (by simpa using D)] at h;cases h
theorem IsD.setRow {W:Κ} {v:Ρ} {d:Dfa} (hv:Val d) (h:IsD W v d) {g:Nat} {e:Á} {fr:Nat × Nat} (hg:W.heap[g]? = Δ (Ε #[Β Γ 0 0,Β Γ 0 0,Β Γ 0 0] e fr)) (cs:Array Ρ):IsD (W.setRow g cs) v d:=by
 obtain⟨G,vn,va,rfl,H,⟨vs,I,J,E⟩,M⟩:=h;refine⟨G,vn,va,rfl,Sl.setRow H hg (λi _ o D=>by cases J7 D) (by omega) cs,⟨vs,I,Sl.setRow J hg (λi hi o D=>?_) (by omega) cs,λi hi=>Sl.setRow (E i hi) hg (λi _ o D=>by cases J7 D) (by omega) cs⟩,Sl.setRow M hg (λi _ o D=>by cases J7 D) (by omega) cs⟩;have hi:i<d.n.length:=by simpa using hi
 obtain⟨b,U,aa,T,_⟩:=ä (E i hi) (by rw[hv.row i hi];exact hv.parts.pos);have:=J7 D;rw[T] at this;cases this
theorem IsD.agg {W:Κ} {v:Ρ} {d:Dfa} (h:IsD W v d):∃ ac I cc D E G J H,v=.agg (dA (Β ac I cc) (Β D d.n.length E) (Β G J H)):=by
 obtain⟨vc,vn,va,rfl,M,⟨vs,ad,T,hr⟩,U⟩:=h;obtain⟨ac,cc,rfl⟩:=Sl.len M;obtain⟨D,E,rfl⟩:=Sl.len T;obtain⟨G,H,rfl⟩:=Sl.len U;exact⟨_,_,_,_,_,_,_,_,rfl⟩
theorem Fa:Η.built 30 []=Δ #[Β Γ 0 0,Β Γ 0 0,Β Γ 0 0]:=by kernel_rfl
theorem Ew:(#[ϟ Γ 0 0,ϟ Γ 0 0,ϟ Γ 0 0]).all (·.oneCell')=Ξ:=by simp[ϊ]
theorem Pb (t:Tbl) (hv:TVal t) (hn:t.n.length<=65536) (A:Array Ρ) (w:Κ) (h:IsT w A t) :
  Ϝ Η 77 #[.agg A] w λe w'=>∃ r,ResOf w' e r/\Lim (λu=>t.has u=Ξ) r/\Ext w w':=by
 obtain⟨_,_,_,_,_,_,ao,ay,_⟩:=h.opened hv;have az:(Η.info? 108).map (·.size)=Δ A.size:=by rw[ao];exact Cd
 have a1:=Α h;have HV:=Α hv;have U:=((Ι w).alloc (Ε A 108)).alloc (Ε #[Β Γ 0 0,Β Γ 0 0,Β Γ 0 0] 30);have H0:=Ag (Ab w (Ε A 108)) (Ε #[Β Γ 0 0,Β Γ 0 0,Β Γ 0 0] 30);have H1:=Ϙ w (Ε A 108) (Ε #[Β Γ 0 0,Β Γ 0 0,Β Γ 0 0] 30);clear h hv ao ay;go_enter Tryz.func77,Tryz.ntmps77;go_upto_region 1 with (fail)
 obtain⟨w1,ab⟩:∃ W,(w.alloc (Ε A 108)).alloc (Ε #[Β Γ 0 0,Β Γ 0 0,Β Γ 0 0] 30)=W:=⟨_,rfl⟩;have be:w1.heap.size=w.heap.size+1+1:=by rw[<-ab,Λ,Λ]
 rw[ab] at U H0 H1;simp only[ab];clear ab;have a7:=Α H0;have a8:=Α H1;clear H0 H1;have hC:=Α (Kw t HV.out hn A w1 (a1.out.ext U));go_upto_region 2 with (first
  | (refine Υ rfl 108 (η 1) rfl _ rfl _ _ _ _ a7.out Ϭ rfl az ?_)
  | (go_at_call 69;with_reducible refine hC.out.mono ?_;rintro e D ⟨v,d,rfl,hD,ar,au,aw⟩;obtain⟨ac,H,cc,E,G,I,J,M,rfl⟩:=hD.agg)
  | (refine Φ rfl 30 (η 4) (η 6) rfl _ _ rfl rfl _ _ (Ab D _) Ad rfl (Ap _ _ _ rfl rfl rfl) ?_))
 have ad:=aw.trans (((Ι D).alloc (Ε #[Β Γ 0 0,Β Γ 0 0,Β Γ 0 0] 30)).setRow (θ _) (dA (Β ac H cc) (Β E d.n.length G) (Β I J M)));have ai:=hD.ext (((Ι D).alloc (Ε #[Β Γ 0 0,Β Γ 0 0,Β Γ 0 0] 30)).setRow (θ _) (dA (Β ac H cc) (Β E d.n.length G) (Β I J M)));have ae:=μ (D.alloc (Ε #[Β Γ 0 0,Β Γ 0 0,Β Γ 0 0] 30)) D.heap.size _ (dA (Β ac H cc) (Β E d.n.length G) (Β I J M)) _ _ (Ab D _);obtain⟨w3,ak⟩:∃ W,(D.alloc (Ε #[Β Γ 0 0,Β Γ 0 0,Β Γ 0 0] 30)).setRow D.heap.size (dA (Β ac H cc) (Β E d.n.length G) (Β I J M))=W:=⟨_,rfl⟩;rw[ak] at ad ai ae;simp only[ak];clear ak hD aw;have T:=Α (ad.heap a8.out);have ba:=Α ai;have al:=Α ar;have HH:=Α au;have c1:=(Ω w3 D.heap.size 1 _ _ _ ae).trans (show (dA (Β ac H cc) (Β E d.n.length G) (Β I J M))[1]? = Δ (Β E d.n.length G) from rfl);have bb:=Α ae;clear ai ar au ae hC;by_cases bc:64<d.n.length
 ·have bd:=Α Fa;go_wp2_with (first
   | (refine B3 rfl 30 _ rfl #[Β Γ 0 0,Β Γ 0 0,Β Γ 0 0] ?_ ?_;(simp;with_reducible exact bd.out))
   | (refine Φ rfl 30 (η 2) (η 11) rfl _ _ rfl rfl _ _ T.out Ad rfl Ew ?_))
  refine ϋ (v:=ϥ #[zD,.int ζ 2]) (Ba rfl _ _ _ _ _ _ _ rfl _ rfl (μ w3 _ _ #[Β Γ 0 0,Β Γ 0 0,Β Γ 0 0] 30 (0,0) T.out) Ν rfl Ad) rfl ?_;exact⟨Γ,rfl,⟨d,al.out,λu=>by rw[HH.out],bc⟩,(U.trans ad).setRow (by omega) _⟩
 ·go_wp2_with (first
   | (refine Υ rfl 30 (η 4) rfl _ rfl _ _ _ _ bb.out Ν rfl Ad ?_)
   | (refine Φ rfl 30 (η 2) (η 12) rfl _ _ rfl rfl _ _ T.out Ad rfl (Ap _ _ _ rfl rfl rfl) ?_))
  refine ϋ (v:=ϥ #[.agg (dA (Β ac H cc) (Β E d.n.length G) (Β I J M)),.int ζ 0]) (Ba rfl _ _ _ _ _ _ _ rfl _ rfl (μ w3 _ _ (dA (Β ac H cc) (Β E d.n.length G) (Β I J M)) 30 (0,0) T.out) Ν rfl Ad) rfl ?_;exact⟨Δ d,⟨_,rfl,ba.out.setRow al.out.val T.out _⟩,⟨al.out,λu=>by rw[HH.out],by omega⟩,(U.trans ad).setRow (by omega) _⟩
theorem Jf (d:Dfa) (hv:Val d) (hn:d.n.length<=64) (v:Ρ) (w:Κ) (hT:Tab w) (aj:0<w.heap.size) (h:IsD w v d) :
  Ϝ Η 28 #[v] w λe w'=>∃ r,ResOf w' e (Δ r)/\Cano r/\(∀ u,r.has u=d.has u)/\Ext w w':=by
 have HD:=Α h;have HV:=Α hv;obtain⟨ac,E,cc,G,H,I,J,M,rfl⟩:=h.agg;have ad:=((Ι w).alloc (Ε (dA (Β ac E cc) (Β G d.n.length H) (Β I J M)) 30)).alloc (Ε #[Β Γ 0 0,Β Γ 0 0,Β Γ 0 0] 30);have H0:=Ag (Ab w (Ε (dA (Β ac E cc) (Β G d.n.length H) (Β I J M)) 30)) (Ε #[Β Γ 0 0,Β Γ 0 0,Β Γ 0 0] 30);have H1:=Ϙ w (Ε (dA (Β ac E cc) (Β G d.n.length H) (Β I J M)) 30) (Ε #[Β Γ 0 0,Β Γ 0 0,Β Γ 0 0] 30);have f47:=λW (T:Ext w W)=>Α (Eg d hv hn _ W (HD.out.ext T))
 have f68:=λW (T:Ext w W)=>Α (Ju d hv _ W (hT.below T.below aj) (ε aj T.size) (HD.out.ext T))
 clear h hv hT;go_enter Tryz.func28,Tryz.ntmps28;go_upto_region 1 with (fail)
 obtain⟨w1,U⟩:∃ W,(w.alloc (Ε (dA (Β ac E cc) (Β G d.n.length H) (Β I J M)) 30)).alloc (Ε #[Β Γ 0 0,Β Γ 0 0,Β Γ 0 0] 30)=W:=⟨_,rfl⟩;have bc:(w.alloc (Ε #[Β ac E cc,Β G d.n.length H,Β I J M] 30)).alloc (Ε #[Β Γ 0 0,Β Γ 0 0,Β Γ 0 0] 30)=w1:=U;rw[U] at ad H0 H1;simp only[U];have bm:w1.heap.size=w.heap.size+1+1:=by rw[<-U,Λ,Λ]
 clear U bc;have ae:=Α H0;have D:=Α H1;clear H0 H1;go_upto_region 3 with (first
  | (refine Υ rfl 30 (η 1) rfl _ rfl _ _ _ _ ae.out Ν rfl Ad ?_)
  | (go_at_call 47;with_reducible refine (f47 _ ad).out.mono ?_;rintro e w2 ⟨rfl,ab⟩))
 have ae:=Α (ab.heap ae.out);have D:=Α (ab.heap D.out);have al:=ad.trans ab;have bo:=ab.size;clear f47 ad ab;go_wp2_with (first
  | (refine Υ rfl 30 (η 1) rfl _ rfl _ _ _ _ ae.out Ν rfl Ad ?_)
  | (go_at_call 68;(with_reducible refine (f68 _ al).out.mono ?_);rintro e w3 ⟨A,rfl,hA,ao⟩;have bf:=al.trans ao;have D:=Α (ao.heap D.out);have hC:=Α (Kw (Ae d) (Bm HV.out) (show d.n.length<=65536 by omega) A w3 hA))
  | (go_at_call 69;with_reducible refine hC.out.mono ?_;rintro e w4 ⟨v,r,rfl,hr,aq,ar,au⟩;have HR:=Α hr;have aw:=Α aq;have HH:=Α ar;clear aq ar;obtain⟨ax,ay,az,a1,a6,a7,a8,ba,rfl⟩:=hr.agg;clear hr;have bl:=bf.trans au;have D:=Α (au.heap D.out))
  | (refine Φ rfl 30 (η 2) (η 10) rfl _ _ rfl rfl _ _ D.out Ad rfl (Ap _ _ _ rfl rfl rfl) ?_))
 refine ϋ (v:=ϥ #[.agg (dA (Β ax ay az) (Β a1 r.n.length a6) (Β a7 a8 ba)),.int ζ 0]) (Ba rfl _ _ _ _ _ _ _ rfl _ rfl (μ w4 _ _ (dA (Β ax ay az) (Β a1 r.n.length a6) (Β a7 a8 ba)) 30 (0,0) D.out) Ν rfl Ad) rfl ?_;exact⟨r,⟨_,rfl,HR.out.setRow aw.out.val D.out _⟩,aw.out,λu=>by rw[HH.out,Dn],bl.setRow (by omega) _⟩
def E6 (n:Nat) (A:List Bool) (k:Nat):List Bool:=(ι n).map λj=>if j<k then !A.getD j Τ else Τ
theorem O3 (n:Nat) (A:List Bool) (k:Nat):(E6 n A k).length=n:=by simp[E6]
theorem Af6 (n:Nat) (A:List Bool):E6 n A 0=δ n Τ:=by
 apply ϡ;intro i;simp only[E6,Ϟ,List.getElem?_replicate,Nat.not_lt_zero,if_false];by_cases h:i<n
 ·simp[h]
 ·simp[h]
theorem Af8 (n:Nat) (A:List Bool) (D:A.length=n):E6 n A n=A.map (!·):=by
 subst D;apply ϡ;intro i;simp only[E6,Ϟ];by_cases h:i<A.length
 ·simp[h,Ζ]
 ·simp[h]
theorem Af7 (n:Nat) (A:List Bool) (k:Nat) (E:k<n):(E6 n A k).set k (!A.getD k Τ)=E6 n A (k+1):=by
 apply ϡ;intro i;rw[ϲ,O3];simp only[E6,Ϟ];by_cases h:i<n
 ·rw[List.getElem?_range h];by_cases e:k=i
  ·subst e;simp[E]
  ·simp only[e,if_false,Option.map_some];by_cases D:i<k
   ·rw[if_pos D,if_pos (by omega)]
   ·rw[if_neg D,if_neg (by omega)]
 ·rw[if_neg (by omega)];simp[h]
theorem Np (c:Nat->Nat) (n:Nat) (vn va v:Ρ):(Aj c n vn va).setIfInBounds 258 v=Aj c n vn v:=by
 apply Array.ext';rw[Array.toList_setIfInBounds];unfold Aj;simp only;apply ϡ;intro i;unfold Ei;rw[ϲ];by_cases hi:i<256
 ·have:258≠i:=by omega
  rw[if_neg this,Ϣ (by simpa using hi),Ϣ (by simpa using hi)]
 ·by_cases e:258=i
  ·subst e;simp[ϑ]
  ·rw[if_neg e,ϑ (by simp;omega),ϑ (by simp;omega)];obtain⟨j,rfl⟩:∃ j,i=256+j:=⟨i-256,by omega⟩;have D:j≠2:=by omega
   simp only[Ϗ,List.length_range,Nat.add_sub_cancel_left]
   match j,D with
   | 0,_=>rfl
   | 1,_=>rfl
   | j+3,_=>rfl
theorem U2 (d:Dfa) (hv:Val d) (hn:d.n.length<=64) (v:Ρ) (w:Κ) (hT:Tab w) (bo:0<w.heap.size) (h:IsD w v d) :
  Ϝ Η 32 #[v] w λe w'=>∃ r,ResOf w' e (Δ r)/\Cano r/\(∀ u,r.has u=!d.has u)/\Ext w w':=by
 have HD:=Α h;have HV:=Α hv;obtain⟨ac,lc,cc,an,cn,aa,la,ca,rfl⟩:=h.agg;have a1:=((Ι w).alloc (Ε (dA (Β ac lc cc) (Β an d.n.length cn) (Β aa la ca)) 30)).alloc (Ε #[Β Γ 0 0,Β Γ 0 0,Β Γ 0 0] 30);have H0:=Ag (Ab w (Ε (dA (Β ac lc cc) (Β an d.n.length cn) (Β aa la ca)) 30)) (Ε #[Β Γ 0 0,Β Γ 0 0,Β Γ 0 0] 30);have H1:=Ϙ w (Ε (dA (Β ac lc cc) (Β an d.n.length cn) (Β aa la ca)) 30) (Ε #[Β Γ 0 0,Β Γ 0 0,Β Γ 0 0] 30);have f47:=λW (hW:Ext w W)=>Α (Eg d hv hn _ W (HD.out.ext hW))
 have f68:=λW (hW:Ext w W)=>Α (Ju d hv _ W (hT.below hW.below bo) (ε bo hW.size) (HD.out.ext hW))
 obtain⟨j0,hj,c1,c2,c3⟩:=ϕ Dt;have c4:=hv.pos;clear h hv hT;go_enter Tryz.func32,Tryz.ntmps32;go_upto_region 1 with (fail)
 obtain⟨w1,a6⟩:∃ W,(w.alloc (Ε (dA (Β ac lc cc) (Β an d.n.length cn) (Β aa la ca)) 30)).alloc (Ε #[Β Γ 0 0,Β Γ 0 0,Β Γ 0 0] 30)=W:=⟨_,rfl⟩;rw[a6] at a1 H0 H1;simp only[a6];have dk:w1.heap.size=w.heap.size+1+1:=by rw[<-a6,Λ,Λ]
 clear a6;have a7:=Α H0;have I:=Α H1;clear H0 H1;go_upto_region 3 with (first
  | (refine Υ rfl 30 (η 1) rfl _ rfl _ _ _ _ a7.out Ν rfl Ad ?_)
  | (go_at_call 47;with_reducible refine (f47 _ a1).out.mono ?_;rintro e w2 ⟨rfl,al⟩))
 have a7:=Α (al.heap a7.out);have I:=Α (al.heap I.out);have bq:=a1.trans al;have dn:=al.size;clear f47 a1 al;go_upto_region 4 with (first
  | (refine Υ rfl 30 (η 1) rfl _ rfl _ _ _ _ a7.out Ν rfl Ad ?_)
  | (go_at_call 68;((with_reducible refine (f68 _ bq).out.mono ?_);rintro e U ⟨A,rfl,hA,a8⟩;have br:=bq.trans a8;have dp:=a8.size;have I:=Α (a8.heap I.out);obtain⟨vn,va,rfl,bf,bt⟩:=hA;obtain⟨ba,oa,ah,rfl,bu⟩:=K2 bt (show 0<d.acc.length by rw[HV.out.accL];exact c4);obtain⟨E,G,H,rfl⟩:∃ a n c,vn=Β a n c:=(by obtain⟨vs,_,hs,_⟩:=bf;obtain⟨a,c,rfl⟩:=hs.len;exact⟨_,_,_,rfl⟩);have bw:ξ.size=(Aj (Ae d).cell (Ae d).cells (Β E G H) (Β (Δ ⟨ba,oa,Γ⟩) (Ae d).acc.length ah)).size:=(by rw[Db,Em]);have bz:(Η.info? 108).map (·.size)=Δ (Aj (Ae d).cell (Ae d).cells (Β E G H) (Β (Δ ⟨ba,oa,Γ⟩) (Ae d).acc.length ah)).size:=(by rw[Em];exact Cd);have b0:=Gz (Ae d).cell (Ae d).cells (Β E G H) (Β (Δ ⟨ba,oa,Γ⟩) (Ae d).acc.length ah) rfl rfl))
  | (refine Φ rfl 108 (η 4) (η 13) rfl _ _ rfl rfl _ _ (Ab U (Ε ξ 108)) bz bw b0 ?_))
 have hm:(Ae d).acc.length=d.n.length:=HV.out.accL;have ai:=((Ι U).alloc (Ε ξ 108)).setRow (θ U.heap.size) (Aj (Ae d).cell (Ae d).cells (Β E G H) (Β (Δ ⟨ba,oa,Γ⟩) (Ae d).acc.length ah));have H5:=μ (U.alloc (Ε ξ 108)) _ _ (Aj (Ae d).cell (Ae d).cells (Β E G H) (Β (Δ ⟨ba,oa,Γ⟩) (Ae d).acc.length ah)) 108 (0,0) (Ab U (Ε ξ 108));obtain⟨M,bb⟩:∃ W,(U.alloc (Ε ξ 108)).setRow U.heap.size (Aj (Ae d).cell (Ae d).cells (Β E G H) (Β (Δ ⟨ba,oa,Γ⟩) (Ae d).acc.length ah))=W:=⟨_,rfl⟩;have dq:U.heap.size<M.heap.size:=by rw[<-bb,Õ,Λ];omega
 rw[bb] at ai H5;simp only[bb];clear bb;rw[hm] at H5 bz b0;simp only[hm];have c6:=Α (λ(W:Κ) (hW:Ext M W) j (hj:j<d.n.length)=>(ai.trans hW).cell (bu j (by rw[hm];exact hj)));have c7:=Α bf;have b4:=Α H5;have I:=Α (ai.heap I.out);have dr:=br.size;have k8:=(Ω M U.heap.size 258 _ _ _ H5).trans (G1 _ _ _ _);clear bu bf bt H5 a8 bw f68 hm;generalize b5:U.heap.size=J at *;have c8:=å b5;clear b5;go_upto_region 5 with (at_make;refine ϫ _ rfl _ _ 28 rfl M.heap.size 4 j0 (.bool Τ) 1 Ã hj c1 c2 ζ ζ _ _ d.n.length rfl rfl rfl rfl (by rw[c3];omega) (by unfold ϙ;omega) (θ _) ?_;intro w5 b6 b7)
 have T:Ext M w5:=(Ι M).grown b7 (λk e=>by cases e);have ab:w5.ownsRow M.heap.size 4 1 (Β (Δ ⟨M.heap.size,0,Γ⟩) d.n.length d.n.length) d.n.length ((E6 d.n.length d.acc 0).map ο):=by rw[Af6,<-B7];exact b6
 clear b6 b7 k8;have k8:=(Ω w5 J 258 _ _ _ (T.heap b4.out)).trans (G1 _ _ _ _);generalize b8:M.heap.size=D at *;have c9:=Α b8;clear b8;go_wp2_with (fail);clear k8;go_loopw [21] (λi W=>∃ k:Nat,k<=d.n.length/\i=.int ζ k/\Ext M W/\W.ownsRow D 4 1 (Β (Δ ⟨D,0,Γ⟩) d.n.length d.n.length) d.n.length ((E6 d.n.length d.acc k).map ο)) (λi _=>d.n.length-(intOf i).toNat)
 case atStart=>exact⟨0,by omega,rfl,T,ab⟩
 case round=>
  clear T ab;obtain⟨k,hk,rfl,T,ab⟩:=hrel;have da:M.heap.size<=D:=å c9.out;by_cases bh:k<d.n.length
  ·have ca:wr.cell? ⟨ba,oa+k,Γ⟩=Δ (.bool (d.acc.getD k Τ)):=c6.out wr T k bh;have cv:=Am Τ ab (O3 _ _ _).symm k (by rw[O3];exact bh);have fv:=ab.frozenAt k;obtain⟨aj,b9⟩:=Bj ab k (!d.acc.getD k Τ);rw[Af7 _ _ _ bh] at aj;have aq:=T.grown b9 (λk e=>by cases e;exact da);clear b9 ab T;generalize d.acc.getD k Τ=bx at *;cases bx
   ·go_wp2_with (fail);go_roundw
    case rel=>exact⟨k+1,by omega,by go_num,aq,aj⟩
    case measure=>simp[intOf];omega
   ·go_wp2_with (fail);go_roundw
    case rel=>exact⟨k+1,by omega,by go_num,aq,aj⟩
    case measure=>simp[intOf];omega
  ·obtain rfl:k=d.n.length:=by omega
   rw[Af8 _ _ HV.out.accL] at ab;have ar:=T.heap b4.out;have k8:=(Ω wr J 258 _ _ _ ar).trans (G1 _ _ _ _);have f8:=Ϯ wr J 258 _ _ ar;have cb:=Bx wr J (Aj (Ae d).cell (Ae d).cells (Β E G H) (Β (Δ ⟨D,0,Γ⟩) d.n.length d.n.length));have dc:wr.setCell ⟨J,258,Γ⟩ (Β (Δ ⟨D,0,Γ⟩) d.n.length d.n.length)=wr.setRow J (Aj (Ae d).cell (Ae d).cells (Β E G H) (Β (Δ ⟨D,0,Γ⟩) d.n.length d.n.length)):=by
    rw[Ϥ wr _ _ _ _ _ _ ar,Np]
   have dw:J<D:=by omega
   have aj:=ab.kept cb (.inr (λe=>by have:D=J:=ω e;omega));have bj:=μ wr J _ (Aj (Ae d).cell (Ae d).cells (Β E G H) (Β (Δ ⟨D,0,Γ⟩) d.n.length d.n.length)) _ _ ar;have aq:=((br.trans ai).trans T);have cd:=aq.setRow (by omega) (Aj (Ae d).cell (Ae d).cells (Β E G H) (Β (Δ ⟨D,0,Γ⟩) d.n.length d.n.length));have bk:IsT (wr.setRow J (Aj (Ae d).cell (Ae d).cells (Β E G H) (Β (Δ ⟨D,0,Γ⟩) d.n.length d.n.length))) (Aj (Ae d).cell (Ae d).cells (Β E G H) (Β (Δ ⟨D,0,Γ⟩) d.n.length d.n.length)) (Hb (Ae d)):=by
    refine⟨_,_,rfl,?_,OwnB.bools (base:=D) (l:=d.acc.map (!·)) (by
     show ϛ _ _ _ _ _ _ _;rw[Ϗ,HV.out.accL];exact aj) (by rw[Ϗ,HV.out.accL];omega)⟩
    exact c7.out.ext ((ai.trans T).setRow c8 _)
   have I:=Α (B8 (T.heap I.out) (show w.heap.size+1≠J by omega) (Aj (Ae d).cell (Ae d).cells (Β E G H) (Β (Δ ⟨D,0,Γ⟩) d.n.length d.n.length)));clear ar ab aj ai aq cb;go_upto_region 11 with (fail)
   clear k8 f8 dc;obtain⟨w6,bl⟩:∃ W,wr.setRow J (Aj (Ae d).cell (Ae d).cells (Β E G H) (Β (Δ ⟨D,0,Γ⟩) d.n.length d.n.length))=W:=⟨_,rfl⟩;rw[bl] at bk bj cd I;rw[bl];clear bl;have cf:=Α bj;have hiB:(Η.info? 108).map (·.size)=Δ (Aj (Ae d).cell (Ae d).cells (Β E G H) (Β (Δ ⟨D,0,Γ⟩) d.n.length d.n.length)).size:=by rw[Em];exact Cd
   have hC:=Α (Kw (Hb (Ae d)) (U0 (Bm HV.out)) (show d.n.length<=65536 by omega) _ w6 bk);clear bj bk;obtain⟨A6,ch⟩:∃ X,Aj (Ae d).cell (Ae d).cells (Β E G H) (Β (Δ ⟨D,0,Γ⟩) d.n.length d.n.length)=X:=⟨_,rfl⟩;rw[ch] at cf hiB hC;clear ch;go_wp2_with (first
    | (refine Υ rfl 108 (η 4) rfl _ rfl _ _ _ _ cf.out Ϭ rfl hiB ?_)
    | (go_at_call 69;(with_reducible refine hC.out.mono ?_);rintro e w7 ⟨v,r,rfl,hr,cj,ck,cl⟩;have HR:=Α hr;have cm:=Α cj;have HH:=Α ck;clear cj ck;obtain⟨cp,cq,cr,ct,cu,cw,cx,cy,rfl⟩:=hr.agg;clear hr;have dh:=cd.trans cl;have I:=Α (cl.heap I.out))
    | (refine Φ rfl 30 (η 2) (η 35) rfl _ _ rfl rfl _ _ I.out Ad rfl (Ap _ _ _ rfl rfl rfl) ?_))
   refine ϋ (v:=ϥ #[.agg (dA (Β cp cq cr) (Β ct r.n.length cu) (Β cw cx cy)),.int ζ 0]) (Ba rfl _ _ _ _ _ _ _ rfl _ rfl (μ w7 _ _ (dA (Β cp cq cr) (Β ct r.n.length cu) (Β cw cx cy)) 30 (0,0) I.out) Ν rfl Ad) rfl ?_;exact⟨r,⟨_,rfl,HR.out.setRow cm.out.val I.out _⟩,cm.out,λu=>by rw[HH.out,U1 (Bm HV.out),Dn],dh.setRow (by omega) _⟩
theorem Xo (d:Dfa) (l:List UInt8) (j:Nat) (h:j<l.length):d.run 0 (l.take (j+1))=d.stp (d.run 0 (l.take j)) (l.getD j 0).toNat:=by
 rw[List.take_succ_eq_append_getElem h,B6];simp[Dfa.run,Ζ,h]
theorem Zl (d:Dfa) (hv:Val d) (hn:d.n.length<=64) (v:Ρ) (l:List UInt8) (u:Ρ) (w:Κ) (hT:Tab w) (af:0<w.heap.size) (h:IsD w v d) (H:By w u l) :
  Ϝ Η 29 #[v,u] w λe w'=>e=ν (.bool (d.has l))/\Ext w w':=by
 have HD:=Α h;obtain⟨vc,vn,va,rfl,_,_,_⟩:=h;have ar:=(Ι w).alloc (Ε #[vc,vn,va] 30);have I:=Α (Ab w (Ε #[vc,vn,va] 30));have f47:=λW (D:Ext w W)=>Α (Eg d hv hn _ W (HD.out.ext D))
 have f68:=λW (D:Ext w W)=>Α (Ju d hv _ W (hT.below D.below af) (ε af D.size) (HD.out.ext D))
 obtain⟨ab,bb,ob,cb,rfl,au,aw⟩:=H.split;have cv:l.length<=4611686018427387904:=H.1;have b0:=Α au;have b4:=Α aw;have hV:=Bm hv;have T:=Α hv;clear au aw H HD hT af;go_enter Tryz.func29,Tryz.ntmps29;go_upto_region 1 with (fail)
 generalize w.alloc (Ε #[vc,vn,va] 30)=w1 at *;have ai:(Η.info? 30).map (·.size)=Δ 3:=by kernel_rfl
 go_upto_region 3 with (first
  | (refine Υ rfl 30 (η 2) rfl _ rfl _ _ _ _ I.out Ν rfl ai ?_)
  | (go_at_call 47;with_reducible refine (f47 _ ar).out.mono ?_;rintro e w2 ⟨rfl,aj⟩))
 have I:=Α (aj.heap I.out);have ak:=ar.trans aj;go_upto_region 4 with (first
  | (refine Υ rfl 30 (η 2) rfl _ rfl _ _ _ _ I.out Ν rfl ai ?_)
  | (go_at_call 68;with_reducible refine (f68 _ ak).out.mono ?_;rintro e E ⟨A,rfl,hA,ax⟩;obtain⟨bn,on,cn,ba,oa,ca,al,ay,az,_,a1,a6,hR,a8⟩:=hA.opened hV;have bc:ξ.size=A.size:=(by rw[Db,al]);have bd:(Η.info? 108).map (·.size)=Δ A.size:=(by rw[al];exact Cd))
  | (refine Φ rfl 108 (η 5) (η 13) rfl _ A rfl rfl _ _ (Ab E (Ε ξ 108)) bd bc ay ?_))
 have U:=((Ι E).alloc (Ε ξ 108)).setRow (θ E.heap.size) A;have H5:=μ (E.alloc (Ε ξ 108)) _ _ A 108 (0,0) (Ab E (Ε ξ 108));obtain⟨J,be⟩:∃ W,(E.alloc (Ε ξ 108)).setRow E.heap.size A=W:=⟨_,rfl⟩;simp only[be] at *;clear be;have bf:=(ak.trans ax).trans U;have b7:=Α (λ(W:Κ) (D:Ext J W)=>(Ω W E.heap.size 257 _ _ _ (D.heap H5)).trans a1);have b8:=Α (λ(W:Κ) (D:Ext J W)=>(Ω W E.heap.size 258 _ _ _ (D.heap H5)).trans a6);have b9:=Α (λ(W:Κ) (D:Ext J W) (b:Nat) (H:b<256)=>(Ω W E.heap.size b _ _ _ (D.heap H5)).trans (az b H));have HR:=Α (hR.ext U);have cf:=Α (λs hs=>U.cell (a8 s hs));generalize E.heap.size=B5 at *;clear hR a8 a1 a6 az bc bd ay al H5 I f47 f68 U ax ak aj ai;go_wp2_with (fail);go_loopw [6,16] (λs i W=>∃ j:Nat,j<=l.length/\i=.int ζ j/\s=iv (d.run 0 (l.take j))/\Ext J W) (λ_ i _=>l.length-(intOf i).toNat)
 case atStart=>exact⟨0,by omega,rfl,rfl,Ι J⟩
 case round=>
  obtain⟨j,hj,rfl,rfl,G⟩:=hrel;have ad:=T.out.run_lt (l.take j) T.out.pos;by_cases bg:j<l.length
  ·have e:=b0.out (by omega);subst e;have ae:=Xo d l j bg;have cx:=(bf.trans G).cell (b4.out j bg);obtain⟨x,bj⟩:∃ x,l.getD j 0=x:=⟨_,rfl⟩;rw[bj] at cx ae;clear bj;have hx:=x.toNat_lt;obtain⟨s,hs⟩:∃ s,d.run 0 (l.take j)=s:=⟨_,rfl⟩;rw[hs] at ad ae ⊢;clear hs;have bl:=Α ae;clear ae;obtain⟨br,or',cr,bm,bo⟩:=HR.out s ad;have k7:=Be (b7.out wr G);have kc:=Be (b9.out wr G x.toNat hx);have r1:=Be (G.cell bm);have hk:=cell_lt T.out.parts hx;have r2:=Be (G.cell (bo _ hk));have bt:(Ae d).cell x.toNat=Ak d.cls x.toNat:=rfl;rw[bt] at kc;have bu:Ϻ ((Ae d).ent2 s (Ak d.cls x.toNat)=d.stp s x.toNat):=Α rfl;rw[bu.out,<-bl.out] at r2;clear bt bm bo;have M:(Ae d).n.length=d.n.length:=rfl;have bw:(Ae d).cells=d.cls.length:=rfl;rw[M] at k7;rw[bw] at r1;have c9:=T.out.parts.le;obtain⟨s2,ao⟩:∃ s2,d.run 0 (l.take (j+1))=s2:=⟨_,rfl⟩;rw[ao] at r2;have ch:=Α ao;clear ao;generalize Ak d.cls x.toNat=k at *;clear bu bl M bw;have da:(x.toNat:Int)<256:=by omega
   go_upto_region 8 with (fail)
   refine Dx (by kernel_rfl) (by kernel_rfl) ?_;iterate 12 (with_reducible refine í (λK hK=>?_);go_simp;(refine hK _ ?_;clear hK K))
   refine wpQuiet_nil ?_;rintro _ ⟨e,rfl⟩;have cj:=G.trans e.ext;clear k7 kc r1 r2 cx;generalize e.W=w5 at *;go_wp2;go_roundw
   case rel=>exact⟨j+1,by omega,by go_num,by rw[ch.out],cj⟩
   case measure=>simp[intOf];omega
  ·obtain rfl:j=l.length:=by omega
   rw[List.take_length] at ad ⊢;have HF:Ϻ (d.has l=d.ok (d.run 0 l)):=Α rfl;generalize d.run 0 l=s at *;have k8:=b8.out wr G;have ka:=G.cell (cf.out s ad);have HT:Ϻ ((Ae d).ok s=d.has l):=Α (by rw[HF.out];rfl);rw[HT.out] at ka;have M:(Ae d).n.length=d.n.length:=rfl;rw[M] at k8;clear M;go_wp2;go_ret;exact⟨rfl,bf.trans G⟩
theorem Wi {L:List Cls} (D:Parts L) {b:Nat} (E:b<256):Gm L (b:Int)=(Ak L b:Nat):=by
 refine Wj L b (Ak L b) (cell_lt D E) ?_ λj G=>?_
 ·unfold Az;rw[ß];exact E9 D E
 ·unfold Az;rw[ß];have H:j<L.length:=Nat.lt_trans G (cell_lt D E);have:=List.not_of_lt_findIdx G;rw[Ζ,List.getElem?_eq_getElem H]
  simpa using this
theorem IsD.opened {W:Κ} {v:Ρ} {d:Dfa} (h:IsD W v d) (hv:Val d):∃ D E cc G H M I J T,v=.agg (dA (Β (Δ ⟨D,E,Γ⟩) d.cls.length cc) (Β (Δ ⟨G,H,Γ⟩) d.n.length M) (Β (Δ ⟨I,J,Γ⟩) d.n.length T))/\
  Cs W (Β (Δ ⟨D,E,Γ⟩) d.cls.length cc) d.cls/\RowsAt W G H d.n.length d.cls.length d.ent2/\∀ s,s<d.n.length->W.cell? ⟨I,J+s,Γ⟩=Δ (.bool (d.ok s)):=by
 obtain⟨vc,vn,va,rfl,U,hN,hA⟩:=h;obtain⟨G,H,M,rfl,hr⟩:=Lu hN d.cls.length hv.pos hv.parts.pos hv.row;obtain⟨I,J,T,rfl,ha⟩:=K2 hA (by rw[hv.accL];exact hv.pos);obtain⟨D,E,cc,rfl,-⟩:=ä U hv.parts.pos;refine⟨D,E,cc,G,H,M,I,J,T,by rw[hv.accL];rfl,U,hr,λs hs=>ha s (by rw[hv.accL];exact hs)⟩
theorem Anc (d:Dfa) (hv:Val d) (v:Ρ) (l:List UInt8) (u:Ρ) (w:Κ) (h:IsD w v d) (hb:By w u l) :
  Ϝ Η 48 #[v,u] w λe w'=>e=ν (iv (d.run 0 l))/\Ext w w':=by
 obtain⟨D,E,cc,G,H,I,M,T,U,rfl,hC,hR,-⟩:=h.opened hv;obtain⟨ab,bb,ob,cb,rfl,ao,aq⟩:=hb.split;have bz:l.length<=4611686018427387904:=hb.1;have bf:=Α ao;have bg:=Α aq;have HV:=Α hv;have HC:=Α hC;have HR:=Α hR;have ad:=(Ι w).alloc (Ε (dA (Β (Δ ⟨D,E,Γ⟩) d.cls.length cc) (Β (Δ ⟨G,H,Γ⟩) d.n.length I) (Β (Δ ⟨M,T,Γ⟩) d.n.length U)) 30);have H0:=Ab w (Ε (dA (Β (Δ ⟨D,E,Γ⟩) d.cls.length cc) (Β (Δ ⟨G,H,Γ⟩) d.n.length I) (Β (Δ ⟨M,T,Γ⟩) d.n.length U)) 30);have ar:=(Ω (w.alloc (Ε (dA (Β (Δ ⟨D,E,Γ⟩) d.cls.length cc) (Β (Δ ⟨G,H,Γ⟩) d.n.length I) (Β (Δ ⟨M,T,Γ⟩) d.n.length U)) 30)) w.heap.size 0 _ _ _ H0).trans (show (dA (Β (Δ ⟨D,E,Γ⟩) d.cls.length cc) (Β (Δ ⟨G,H,Γ⟩) d.n.length I) (Β (Δ ⟨M,T,Γ⟩) d.n.length U))[0]? = Δ (Β (Δ ⟨D,E,Γ⟩) d.cls.length cc) from rfl);have au:=(Ω (w.alloc (Ε (dA (Β (Δ ⟨D,E,Γ⟩) d.cls.length cc) (Β (Δ ⟨G,H,Γ⟩) d.n.length I) (Β (Δ ⟨M,T,Γ⟩) d.n.length U)) 30)) w.heap.size 1 _ _ _ H0).trans (show (dA (Β (Δ ⟨D,E,Γ⟩) d.cls.length cc) (Β (Δ ⟨G,H,Γ⟩) d.n.length I) (Β (Δ ⟨M,T,Γ⟩) d.n.length U))[1]? = Δ (Β (Δ ⟨G,H,Γ⟩) d.n.length I) from rfl);have bk:=Α (λ(W:Κ) (hW:Ext _ W)=>hW.cell ar);have bl:=Α (λ(W:Κ) (hW:Ext _ W)=>hW.cell au);clear ao aq hb hC hR hv ar au H0 h;go_enter Tryz.func48,Tryz.ntmps48;go_upto_region 1 with (fail)
 generalize w.alloc (Ε (dA (Β (Δ ⟨D,E,Γ⟩) d.cls.length cc) (Β (Δ ⟨G,H,Γ⟩) d.n.length I) (Β (Δ ⟨M,T,Γ⟩) d.n.length U)) 30)=w1 at *;go_wp2_with (fail);go_loopw [5,10] (λs i W=>∃ j:Nat,j<=l.length/\i=.int ζ j/\s=iv (d.run 0 (l.take j))/\Ext w1 W) (λ_ i _=>l.length-(intOf i).toNat)
 case atStart=>exact⟨0,by omega,rfl,rfl,Ι w1⟩
 case round=>
  obtain⟨j,hj,rfl,rfl,J⟩:=hrel;have aw:=HV.out.run_lt (l.take j) HV.out.pos;by_cases ax:j<l.length
  ·have e:=bf.out (by omega);subst e;have ae:=Xo d l j ax;have cx:=(ad.trans J).cell (bg.out j ax);obtain⟨x,az⟩:∃ x,l.getD j 0=x:=⟨_,rfl⟩;rw[az] at cx ae;clear az;have hx:=x.toNat_lt;obtain⟨s,hs⟩:∃ s,d.run 0 (l.take j)=s:=⟨_,rfl⟩;rw[hs] at aw ae ⊢;clear hs;have a6:=Α ae;clear ae;obtain⟨br,or',cr,a7,a8⟩:=HR.out s aw;have k0:=Be (bk.out wr J);have k1:=Be (bl.out wr J);have r1:=Be ((ad.trans J).cell a7);have hk:=cell_lt HV.out.parts hx;have r2:=Be ((ad.trans J).cell (a8 _ hk));have f95:=λ(e:EW wr)=>Α (Wf d.cls _ (x.toNat:Int) (by omega) (by omega) e.W (HC.out.ext ((ad.trans J).trans e.ext)))
   rw[Wi HV.out.parts hx] at f95;have bd:Ϻ (d.ent2 s (Ak d.cls x.toNat)=d.stp s x.toNat):=Α rfl;rw[bd.out,<-a6.out] at r2;clear a7 a8;have b6:=HV.out.parts.le;obtain⟨s2,ak⟩:∃ s2,d.run 0 (l.take (j+1))=s2:=⟨_,rfl⟩;rw[ak] at r2;have bp:=Α ak;clear ak;generalize Ak d.cls x.toNat=k at *;clear bd a6;have b7:(x.toNat:Int)<256:=by omega
   go_upto_region 5 with (fail)
   refine Dx (by kernel_rfl) (by kernel_rfl) ?_;iterate 12 (with_reducible refine í (λK hK=>?_);go_simp;first|(refine hK _ ?_;clear hK K)|(apply Exists.intro;refine⟨λ_=>?_,hK _ ?_⟩;(with_reducible exact F4 (f95 _).out);clear hK K))
   refine wpQuiet_nil ?_;rintro _ ⟨e,rfl⟩;have bq:=J.trans e.ext;clear k0 k1 r1 r2 cx f95;generalize e.W=w5 at *;go_wp2;go_roundw
   case rel=>exact⟨j+1,by omega,by go_num,by rw[bp.out],bq⟩
   case measure=>simp[intOf];omega
  ·obtain rfl:j=l.length:=by omega
   rw[List.take_length];go_wp2;go_ret;exact⟨rfl,ad.trans J⟩
theorem Wo (c:Cls) (b:Int) (D:0<=b) (E:b<256) (w:Κ) :
  Ϝ Η 133 #[.agg (Aa c),.int ζ b] w λe w'=>e=ν (.bool (Az c b))/\Ext w w':=by
 have G:=M1 w (Aa c) 62 (b / 64).toNat _ (F1 c _ (by omega));have ⟨H,I⟩:=F8 c (b / 64).toNat;go_enter Tryz.func133,Tryz.ntmps133;go_wp2;go_ret;exact⟨G5 (Tx c b D E),(Ι w).alloc _⟩
theorem Ai3 (l:List Cls) (M:Parts l) (hn:l.length<=256) (b:Nat) (G:b<256) (v:Ρ) (w:Κ) (h:Cs w v l) :
  Ϝ Η 97 #[v,.int ζ b] w λe w'=>e=ν (iv (Ak l b))/\Ext w w':=by
 have ah:=cell_lt M G;obtain⟨B,ai,a8,rfl,hc⟩:=ä h (by omega);have HC:=Α (λ(W:Κ) (hW:Ext w W) k (T:k<l.length)=>Ja (W:=W) (b:=B) (off:=ai) (l:=l) (λi hi=>hW.cell (hc i hi)) k T);have H:=Α (λk (T:k<l.length) (az:Ak l b≠k)=>(show Az (l.getD k 0#256) b=Τ by
  cases hm:Az (l.getD k 0#256) b with
  | false=>rfl
  | true=>exact absurd (E1 M G T (by unfold Az at hm;simpa using hm)) az))
 have U:=Α (show Az (l.getD (Ak l b) 0#256) b=Ξ by
  have:=E9 M G;unfold Az
  simpa using this)
 clear h hc;obtain⟨q,hq⟩:∃ q,Ak l b=q:=⟨_,rfl⟩;rw[hq] at H U ah;rw[hq];clear hq;obtain⟨n,ab⟩:∃ n,l.length=n:=⟨_,rfl⟩;rw[ab] at HC H ah hn;rw[ab];clear ab;obtain⟨x,hx⟩:∃ x:Int,(b:Int)=x:=⟨_,rfl⟩;have a1:0<=x:=by omega
 have a6:x<256:=by omega
 rw[hx] at H U;rw[hx];clear hx G;have D:=Ι w;go_enter Tryz.func97,Tryz.ntmps97;go_wp2_with (fail);go_loopw [5] (λvi W=>∃ i:Nat,i<=q/\vi=.int ζ i/\Ext w W)
  (λvi _=>n-(intOf vi).toNat)
 case atStart=>exact⟨0,by omega,rfl,D⟩
 case round=>
  clear D;obtain⟨i,hi,rfl,D⟩:=hrel;have ba:(i:Int)<(n:Int):=by omega
  obtain⟨c0,c1,c2,c3⟩:=HC.out wr D i (by omega);have k0:=c0 ⟨wr,Ι wr⟩;have k1:=c1 ⟨wr,Ι wr⟩;have k2:=c2 ⟨wr,Ι wr⟩;have k3:=c3 ⟨wr,Ι wr⟩;simp only at k0 k1 k2 k3;clear c0 c1 c2 c3;have I:=H.out i (by omega);have J:q=i->Az (l.getD i 0#256) x=Ξ:=λe=>by rw[<-e];exact U.out
  obtain⟨ci,aw⟩:∃ c,l.getD i 0#256=c:=⟨_,rfl⟩;rw[aw] at k0 k1 k2 k3 I J;clear aw;have I:=Α I;have J:=Α J;have f:=Α (Wo ci x a1 a6 wr);obtain⟨mb,E⟩:∃ m,Az ci x=m:=⟨_,rfl⟩;rw[E] at f;by_cases bb:i<q
  ·obtain rfl:mb=Τ:=by rw[<-E];exact I.out (by omega)
   clear E;go_wp2_with (first
    | (go_at_call 133;(with_reducible refine f.out.mono ?_);rintro e wy ⟨rfl,af⟩))
   have ag:=D.trans af;go_roundw
   case rel=>exact⟨i+1,by omega,by go_num,ag⟩
   case measure=>simp[intOf];omega
  ·obtain rfl:i=q:=by omega
   obtain rfl:mb=Ξ:=by rw[<-E];exact J.out rfl
   clear E;go_wp2_with (first
    | (go_at_call 133;(with_reducible refine f.out.mono ?_);rintro e wy ⟨rfl,af⟩))
   have ag:=D.trans af;go_ret;exact⟨rfl,ag⟩
end Go.Proofs.YtaiogolidlamiaaGreatDoor
