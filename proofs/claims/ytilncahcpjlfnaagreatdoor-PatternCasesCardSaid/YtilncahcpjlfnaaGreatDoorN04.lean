import Derived.Test.YtilncahcpjlfnaaGreatDoorN03
set_option linter.unusedVariables false
set_option linter.unusedSimpArgs false
set_option maxRecDepth 100000
set_option maxHeartbeats 4000000
open Array renaming getElem?_eq_none → õ, getElem?_toList → Ϲ
open Bool renaming true → Α, false → Ε
open Go renaming World → Γ, Value → Δ, TypeId → ϫ, cell_of_row → Τ, size_setRow → ì, Program → Ö, Oper → Ϭ, Act → ë, Operand → á, execOp → ö, undef → δ, Calls → Ϟ, info_parts → ϑ, heap_alloc2_new → ύ, setRow_heap → Φ, wpList_make_full → Ϛ, maxLen → ϐ, wpList_append_lies → ϕ, cell_one_new → Õ, frozen_of_row → Â, setCell_eq_setRow → ϧ, bodyPost_ret → ω, results_cell_row → Æ, yielded → ð
open Go.Act renaming put → θ, eval → ß
open Go.Ending renaming returned → Ω
open Go.IntKind renaming u64 → γ, i64 → Χ, u64 → ϩ
open Go.Lib renaming hid → Z
open Go.Obj renaming cells → Β
open Go.Operand renaming tmp → ε
open Go.Proofs.Tryz renaming prog → Ι, underlying84 → ϭ, underlying54 → ϝ, underlying38 → Ý, underlying40 → Ρ, zeroCells84 → Ψ, underlying103 → È
open Go.Region renaming wanted → Ϡ
open Go.RowKit renaming Hid → ϟ
open Go.Value renaming pointer → η, slice → U, oneCell' → ξ, slice → ό, bool → ψ, tuple → ϙ
open Go.World renaming size_alloc → Ο, ownsRow_lit → Ê, ownsRow_nil → ϰ, ownsRow → ϣ
open List renaming length_append → Ν, setIfInBounds_toArray → Η, set_cons_zero → Μ, set_cons_succ → Λ, range → π, replicate → ζ, map_append → ϥ, length_set → ο, ext_getElem? → Ϩ, getElem?_map → υ, getElem?_set → Ó, getElem?_append_left → ϊ, getElem?_append_right → χ, length_map → ι, drop_zero → À, take_succ_cons → î, getElem?_eq_some_iff → ν
open Nat renaming le_trans → μ, lt_of_lt_of_le → Ξ, le_refl → Υ, le_of_eq → Ñ
open Option renaming some → I, none → J, isSome → æ
open Option.some renaming inj → ϓ
namespace Go.Proofs.YtilncahcpjlfnaaGreatDoor
open Go.RowKit Go.Shelf
theorem Sl.setRow {W:Γ} {v:Δ} {k n:Nat} {f:Nat->Δ} {g:Nat} {cs:Array Δ} {e:ϫ} {fr:Nat × Nat} (h:Sl W v k n f) (hg:W.heap[g]? = I (Β cs e fr)) (H:∀ i,i<n*k->∀ o:Nat,cs[o]?≠I (f i)) (h0:0<k) (G:Array Δ):Sl (W.setRow g G) v k n f:=by
 obtain⟨h1,h|⟨E,b,T,X,hv,hb,hc⟩⟩:=h
 ·exact⟨h1,.inl h⟩
 have ab:b≠g:=λe=>by subst e;have:=hc 0 (Nat.mul_pos E h0);rw[Τ W b _ cs _ fr hg] at this;exact H 0 (Nat.mul_pos E h0) _ this
 exact⟨h1,.inr ⟨E,b,T,X,hv,by rw[ì];exact hb,λi hi=>(Zr W g G _ ab).trans (hc i hi)⟩⟩
theorem Ei {P:Ö} {o:Ϭ} {a:ë} {w:Γ} (ty:ϫ) (x:á) (E:o.op=.load ty x) (g:Nat) (hx:a.eval x=η (I ⟨g,0,J⟩)) (t:ϫ) (cs:Array Δ) (fr:Nat × Nat) (d:TypeDesc) (hg:w.heap[g]? = I (Β cs t fr))
  (hu:P.underlying ty=I d) (hd:(match d with|.struct _|.array _ _=>Α|_=>Ε)=Α) (hi:(P.info? ty).map (·.size)=I cs.size):(ö a.eval o).run P w=.ok (.value (.agg cs)) w:=by
 unfold ö;simp only[E,hx,Instr.loadAt,Instr.sureAddr,Sem.run_bind,Sem.run_pure,Result.andThen_ok,run_loadVar_row w g t ty cs fr d hg hu hd hi]
theorem Ae:(Ι.info? 40).map (·.size)=I 3:=by kernel_rfl
def dA (vc E G:Δ):Array Δ:=#[vc,E,G]
theorem Aw (vc E G:Δ) (h1:vc.oneCell'=Α) (H:E.oneCell'=Α) (T:G.oneCell'=Α):(dA vc E G).all (·.oneCell')=Α:=by simp[dA,h1,H,T]
theorem UK (a:Option Addr) (n c:Nat):Ι.built 40 [(0,U a n c)]=I (dA (U a n c) (U J 0 0) (U J 0 0)):=by kernel_rfl
def RowsO (W:Γ) (base:Nat) (vs:List Δ) (N:List (List Nat)) (av:Option Nat->Prop):Prop:=
 vs.length=N.length/\∀ j,j<N.length->OwnI W base (vs.getD j δ) (N.getD j [])/\¬ av (vs.getD j δ).ownBlock
theorem RowsO.kept {W W':Γ} {base:Nat} {vs:List Δ} {N:List (List Nat)} {av:Option Nat->Prop} {row:Option Nat} (h:RowsO W base vs N av) (hg:W.grownBy W' row)
  (G:∀ v l,OwnI W base v l->¬ av v.ownBlock->v.ownBlock=J\/v.ownBlock≠row):RowsO W' base vs N av:=
 ⟨h.1,λj E=>⟨(h.2 j E).1.kept hg (G _ _ (h.2 j E).1 (h.2 j E).2),(h.2 j E).2⟩⟩
theorem RowsO.alloc {W:Γ} {base:Nat} {vs:List Δ} {N:List (List Nat)} {av:Option Nat->Prop} (h:RowsO W base vs N av) (o:Obj):RowsO (W.alloc o) base vs N av:=
 ⟨h.1,λj E=>⟨(h.2 j E).1.alloc o,(h.2 j E).2⟩⟩
theorem RowsO.av {W:Γ} {base:Nat} {vs:List Δ} {N:List (List Nat)} {av av':Option Nat->Prop} (h:RowsO W base vs N av) (G:∀ v l,OwnI W base v l->¬ av v.ownBlock->¬ av' v.ownBlock):RowsO W base vs N av':=
 ⟨h.1,λj E=>⟨(h.2 j E).1,G _ _ (h.2 j E).1 (h.2 j E).2⟩⟩
theorem RowsO.snoc {W:Γ} {base:Nat} {vs:List Δ} {N:List (List Nat)} {av:Option Nat->Prop} (h:RowsO W base vs N av) {v:Δ} {r:List Nat} (E:OwnI W base v r) (G:¬ av v.ownBlock):RowsO W base (vs++[v]) (N++[r]) av:=by
 refine⟨by simp[h.1],λj H=>?_⟩;rw[Ν,List.length_singleton] at H;by_cases e:j<N.length
 ·rw[B9 _ _ _ _ (by rw[h.1];exact e),B9 _ _ _ _ e];exact h.2 j e
 obtain rfl:j=N.length:=by omega
 have:(vs++[v]).getD N.length δ=v:=by rw[<-h.1];exact Dt _ _ _
 rw[this,Dt];exact⟨E,G⟩
theorem RowsO.rows {W:Γ} {base b':Nat} {vs:List Δ} {N:List (List Nat)} {av:Option Nat->Prop} (h:RowsO W base vs N av) {v:Δ} (E:W.ownsRow b' 54 1 v vs.length vs) (G:N.length<=4611686018427387904) (H:∀ j,j<N.length->(N.getD j []).length<=4611686018427387904):Rows W v N:=by refine⟨vs,h.1,?_,λi hi=>(h.2 i hi).1.ints (H i hi)⟩;have:=Sl.of_owns E (by rw[h.1];exact G) δ;rw[h.1] at this;exact this
def Near (W W':Γ):Prop:=W.heap.size<=W'.heap.size/\∀ k,k<W.heap.size->W'.heap[k]? = W.heap[k]?\/∃ cs fr,W.heap[k]? = I (Β cs 84 fr)/\∀ (o:Nat) x,cs[o]?≠I (.int γ x)
theorem Near.of_ext {W W':Γ} (h:Ext W W'):Near W W':=⟨h.size,λ_ E=>.inl (h.block E)⟩
theorem Near.pre {W E G:Γ} (h:Ext W E) (h1:Near E G):Near W G:=⟨μ h.size h1.1,λk H=>by
 have:=h1.2 k (Ξ H h.size)
 rwa [h.block H] at this⟩
theorem Near.setRow {W W':Γ} (h:Near W W') {g:Nat} {E:Array Δ} {fr:Nat × Nat} (hg:W'.heap[g]? = I (Β E 84 fr)) (H:∀ (o:Nat) x,E[o]?≠I (.int γ x)) (cs:Array Δ):Near W (W'.setRow g cs):=by
 refine⟨by rw[ì];exact h.1,λk G=>?_⟩;by_cases e:k=g
 ·subst e;rcases h.2 k G with h1|h1
  ·exact .inr ⟨E,fr,by rw[<-h1,hg],H⟩
  exact .inr h1
 rw[setRow_other _ _ _ _ e];exact h.2 k G
theorem Near.owns {W W':Γ} (h:Near W W') {base e size:Nat} {v:Δ} {n:Nat} {xs:List Δ} (G:W.ownsRow base e size v n xs) (he:e≠84):W'.ownsRow base e size v n xs:=by
 obtain⟨h1,H|⟨g,T,cur,X,hb,hg,rest⟩⟩:=G
 ·exact⟨h1,.inl H⟩
 refine⟨h1,.inr ⟨g,T,cur,X,hb,?_,rest⟩⟩;rcases h.2 g (Al hg) with E|⟨cs,fr,E,_⟩
 ·rw[E,hg]
 rw[hg] at E;injection E with E
 injection E with _ E
 exact absurd E he
theorem Near.rows {W W':Γ} (h:Near W W') {base:Nat} {vs:List Δ} {N:List (List Nat)} {av:Option Nat->Prop} (E:RowsO W base vs N av):RowsO W' base vs N av:=
 ⟨E.1,λj G=>⟨h.owns (E.2 j G).1 (by decide),(E.2 j G).2⟩⟩
theorem Near.cls {W W':Γ} (h:Near W W') {v:Δ} {C:List Cls} (hc:Cs W v C):Cs W' v C:=by
 obtain⟨h1,H|⟨T,b,X,aa,hv,hb,E⟩⟩:=hc
 ·exact⟨h1,.inl H⟩
 have ad:W'.heap[b]? = W.heap[b]? := by
  have ae:b<W.heap.size:=by
   have:=E 0 (by omega);rcases Nat.lt_or_ge b W.heap.size with h|h
   ·exact h
   simp[Γ.cell?,õ h] at this
  rcases h.2 b ae with G|⟨cs,fr,G,h4⟩
  ·exact G
  have:=E 0 (by omega);rw[Τ W b _ cs _ fr G] at this;exact absurd this (h4 _ _)
 exact⟨h1,.inr ⟨T,b,X,aa,hv,μ hb h.1,λi hi=>(Γ.cell?_of_block ad).trans (E i hi)⟩⟩
theorem Rx (t:Tbl) (hv:TVal t) (hn:t.n.length<=65536) (A:Array Δ) (w:Γ) (h:IsT w A t) :
  Ϟ Ι 39 #[.agg A] w λe w'=>∃ v d,e=Ω v/\(∀ W,Near w' W->IsD W v d)/\Cano d/\(∀ u,d.has u=t.has u)/\Ext w w':=by
 obtain⟨bn,on,cn,ba,oa,ca,il,ei,lr,fl,bk,b7,hR,ir⟩:=h.opened hv;have fm:=hv.pos;have oq:=hv.cpos;have ot:=hv.cle;have HR:=Z hR;have HV:=Z hv;have lv:=Z ir;have fs:=Z h;have HS:=Z il;obtain⟨i0,hi,fu,fv,fw⟩:=ϑ Ds;obtain⟨i4,l2,l3,l4,l5⟩:=ϑ Fc;obtain⟨i6,l7,l8,l9,ma⟩:=ϑ (show (Ι.info? 54).map (λi=>(i.zero,i.size,i.bytes))=I (I (U J 0 0),1,24) by kernel_rfl);have dk:=((Κ w).alloc (Β A 84)).alloc (Β #[U J 0 0,U J 0 0,U J 0 0] 40);have H0:=Ag (Ad w (Β A 84)) (Β #[U J 0 0,U J 0 0,U J 0 0] 40);have H1:=ύ w (Β A 84) (Β #[U J 0 0,U J 0 0,U J 0 0] 40);have mc:=Z bk;have me:=Z b7;clear hR hv h fl bk b7 lr ei il ir;go_enter Tryz.func39,Tryz.ntmps39;go_upto_region 1 with (fail)
 obtain⟨w1,ej⟩:=Xq ((w.alloc (Β A 84)).alloc (Β #[U J 0 0,U J 0 0,U J 0 0] 40));have ou:w1.heap.size=w.heap.size+1+1:=by rw[<-ej,Ο,Ο]
 rw[ej] at dk H0 H1;simp only[ej];clear ej;have ek:=Z H0;have mf:=Z H1;clear H0 H1;have iu:(Ι.info? 84).map (·.size)=I A.size:=by rw[HS.o];exact Ce
 refine Bq 8 [(0,Α),(1,Α),(2,Ε),(3,Ε),(4,Α),(5,Α),(6,Α),(7,Α),(8,Ε)] (by kernel_rfl) (by kernel_rfl) (λ_ _ _ _ h=>h)
  (λW=>Ext w1 W) (Κ w1).drew ?_
 have en:=(Κ w1).drew;obtain⟨w2,fz⟩:=Xq (w1.drew);rw[fz] at en;rw[fz];clear fz;iterate 2
  refine Gt (v:=.agg A) rfl rfl (λW hW=>Ei 84 (ε 1) rfl _ rfl _ _ _ _ (hW.heap ek.o) ϭ rfl iu) ?_;simp only[θ,Η,Μ,Λ]
 refine Dz rfl (λK hK=>?_);go_simp;with_reducible refine (GW t HV.o hn A w2 (fs.o.ext (dk.t en))).mono ?_
 rintro e w3 ⟨vl,l,rfl,hl,ix,iy⟩;have eo:=en.t iy;have HL:=Z hl;clear hl;refine hK _ _ (λ_=>eo) ?_;clear hK K;refine Dz rfl (λK hK=>?_);go_simp;with_reducible refine (GU t HV.o hn l HL.o A vl w3 (fs.o.ext (dk.t eo)) ix).mono ?_
 rintro e w4 ⟨vN,vR,N,R,rfl,jb,hB,ga,gb,jd⟩;have c3:=eo.t jd;have je:=Z jb;have HB:=Z hB;clear hB jb ix;refine hK _ _ (λ_=>c3) ?_;clear hK K;iterate 4
  refine Gt (v:=?_) rfl rfl (λW hW=>?_) ?_
  rotate_left
  ·go_simp;first|done|with_reducible rfl
  simp only[θ,Η,Μ,Λ]
 refine Dz rfl (λK hK=>?_);go_simp;refine hK _ _ (λ_=>c3) ?_;clear hK K;refine Bn ?_;have jf:0<R.length:=by have:=HB.o.blk.lt 0 HL.o.zero;omega
 have ow:l.length<=t.n.length:=by
  have:=D5 l (π t.n.length) HL.o.nodup λs hs=>List.mem_range.2 (HL.o.lt s hs)
  simpa using this
 have jg:R.length<=65536:=by have:=AI HB.o.blk;omega
 have jh:=Z (λi (hi:i<R.length)=>HL.o.lt _ (HB.o.blk.mem i hi));have ji:=Z (λi (hi:i<R.length) k (hk:k<t.cells)=>HB.o.blk.lt _ (HL.o.closed _ (HB.o.blk.mem i hi) k hk));have ml:=Z (λi (hi:i<R.length) k (hk:k<t.cells)=>Ξ (ji.o i hi k hk) jg);have gf:=HB.o.blk.lt 0 HL.o.zero;have gg:=dk.t c3;clear en iy jd;go_upto_region 2 with (fail)
 have jj:=Z (LI t HV.o hn N R je.o jf jg jh.o ml.o A vN vR w4 (fs.o.ext gg) ga gb);have jk:=Z (c3.heap ek.o);go_upto_region 3 with (first
  | (refine Lr 84 (ε 1) jk.o ϭ iu ?_)
  | (go_at_call 69;with_reducible refine jj.o.mono ?_;rintro e E ⟨vK,vC,G,C,rfl,hM,jl,gi,ep⟩))
 have jm:Sl w4 vN 1 t.n.length (λi=>iv (N.getD i 0)):=by rw[<-je.o];exact ga
 obtain⟨bN,oN,cN,rfl,jn⟩:=Ü jm fm;obtain⟨bR,oR,cR,rfl,jo⟩:=Ü gb jf;have jq:=hM.parts.pos;have mm:=hM.parts.le;have jr:0<G.length:=by rw[hM.len];exact jq
 have o5:G.length<=256:=by rw[hM.len];exact mm
 obtain⟨bK,oK,cK,rfl,js⟩:=Ü jl jr;have er:=gi;obtain⟨H,T,X,rfl,-⟩:=Ü er jq;have HM:=Z hM;have gm:=gg.t ep;have et:=c3.t ep;have o8:w.heap.size+1<E.heap.size:=by have:=et.size;omega
 have gp:=Z (λ(W:Γ) (hW:Ext E W) k (hk:k<t.n.length)=>(ep.t hW).cell (jn k (by omega)));have mo:=Z (λ(W:Γ) (hW:Ext E W) k (hk:k<R.length)=>(ep.t hW).cell (jo k (by omega)));have mq:=Z (λ(W:Γ) (hW:Ext E W) k (hk:k<G.length)=>hW.cell (js k (by omega)));have mr:=Z (λ(W:Γ) (hW:Ext E W)=>(Τ W w.heap.size 257 _ _ _ ((et.t hW).heap ek.o)).trans mc.o);have mu:=Z (λ(W:Γ) (hW:Ext E W)=>(Τ W w.heap.size 258 _ _ _ ((et.t hW).heap ek.o)).trans me.o);have mv:=Z (λ(W:Γ) (hW:Ext E W)=>HR.o.ext (gm.t hW));have mw:=Z (λ(W:Γ) (hW:Ext E W) s (hs:s<t.n.length)=>(gm.t hW).cell (lv.o s hs));have my:=Z (et.heap mf.o);have mz:=Z (UK (I ⟨H,T,J⟩) C.length X);have na:=Z gi;clear ga jm gb jl gi er hM jn jo js jj jk gg c3 eo dk;have jt:=Ad E (Β #[U J 0 0,U J 0 0,U J 0 0] 40);go_upto_region 4 with (first
  | (refine Bj rfl 40 _ rfl (dA (U (I ⟨H,T,J⟩) C.length X) (U J 0 0) (U J 0 0)) ?_ ?_;(simp[ß];with_reducible exact mz.o))
  | (refine Sr 40 (ε 7) (ε 32) rfl jt Ae rfl (Aw _ _ _ rfl rfl rfl) ?_))
 clear jt;have cg:=((Κ E).alloc (Β #[U J 0 0,U J 0 0,U J 0 0] 40)).setRow (Υ _) (dA (U (I ⟨H,T,J⟩) C.length X) (U J 0 0) (U J 0 0));have eu:=Φ (E.alloc (Β #[U J 0 0,U J 0 0,U J 0 0] 40)) E.heap.size _ (dA (U (I ⟨H,T,J⟩) C.length X) (U J 0 0) (U J 0 0)) _ _ (Ad E _);have gq:((E.alloc (Β #[U J 0 0,U J 0 0,U J 0 0] 40)).setRow E.heap.size (dA (U (I ⟨H,T,J⟩) C.length X) (U J 0 0) (U J 0 0))).heap.size=E.heap.size+1:=by rw[ì,Ο]
 obtain⟨wa,cj⟩:=Xq ((E.alloc (Β #[U J 0 0,U J 0 0,U J 0 0] 40)).setRow E.heap.size (dA (U (I ⟨H,T,J⟩) C.length X) (U J 0 0) (U J 0 0)));rw[cj] at cg eu gq;simp only[cj];clear cj;go_upto_region 5 with (at_make;refine Ϛ _ rfl _ _ 54 rfl wa.heap.size 3 i0 (.int Χ 0) 1 ϝ hi fu fv Χ Χ _ _ R.length rfl rfl rfl rfl (by rw[fw];omega) (by unfold ϐ;omega) (Υ _) ?_;intro wb ju gu)
 have jv:=cg.grown gu (λk e=>by cases e);have ev:wb.ownsRow wa.heap.size 3 1 (U (I ⟨wa.heap.size,0,J⟩) R.length R.length) R.length ((Eh R.length 0).map ov):=by rw[Q0,<-B7];exact ju
 have jw:=(gu.block E.heap.size (Al eu) (by simp)).trans eu;have o9:E.heap.size+1<wb.heap.size:=by have:wa.heap.size<wb.heap.size:=(ev.lt _ rfl).2;omega
 rw[gq] at ev;clear ju gu;generalize nb:wa.heap.size=gn at *;obtain rfl:gn=E.heap.size+1:=gq;clear nb eu cg;have dm:=gp.o wb jv 0 fm;obtain⟨x0,ew⟩:=Xq (N.getD 0 0);rw[ew,Nat.add_zero] at dm;rw[ew] at gf;have gv:=Z ew;clear ew;go_upto_region 6 with (fail)
 have bt:=jv.alloc (Β #[iv x0] 3);have a6:=ev.alloc (Β #[iv x0] 3);have c4:=Ag jw (Β #[iv x0] 3);have bm:OwnI (wb.alloc (Β #[iv x0] 3)) (E.heap.size+1+1) (U (I ⟨wb.heap.size,0,J⟩) 1 1) [x0]:=Ê (base:=E.heap.size+1+1) (e:=3) (size:=1) wb #[iv x0] 1 (by omega) (by unfold ϐ;omega) rfl;have c5:E.heap.size+1+1<=(wb.alloc (Β #[iv x0] 3)).heap.size:=by rw[Ο];omega
 obtain⟨wc,gw⟩:=Xq (wb.alloc (Β #[iv x0] 3));rw[gw] at bt a6 c4 bm c5;rw[gw];clear gw dm ev jw;generalize wb.heap.size=gx at *;go_wp2_with (fail);go_loopw [42] (λi W=>∃ k:Nat,k<=R.length/\i=.int Χ k/\Ext E W/\E.heap.size+1+1<=W.heap.size/\W.ownsRow (E.heap.size+1) 3 1 (U (I ⟨E.heap.size+1,0,J⟩) R.length R.length) R.length ((Eh R.length k).map ov)/\OwnI W (E.heap.size+1+1) (U (I ⟨gx,0,J⟩) 1 1) [x0]/\W.heap[E.heap.size]? = I (Β (dA (U (I ⟨H,T,J⟩) C.length X) (U J 0 0) (U J 0 0)) 40 (0,0)))
  (λi _=>R.length-(intOf i).toNat)
 case atStart=>exact⟨0,by omega,rfl,bt,c5,a6,bm,c4⟩
 clear bt c5 a6 bm c4;obtain⟨k,hk,rfl,bt,c5,a6,bm,c4⟩:=hrel;have dn:=Z c4;clear c4;by_cases c6:k<R.length
 ·have co:=Aq J a6 (Ii _ _).symm k (by rw[Ii];exact c6);have fo:=a6.frozenAt k;obtain⟨c8,be⟩:=Ba a6 k J;rw[Q1 _ _ c6] at c8;have dp:=bt.grown be (λk e=>by cases e;omega);have dq:=bm.kept be (Az bm (by omega));have dr:=Z ((be.block E.heap.size (Al dn.o) (by simp)).trans dn.o);have dt:=μ c5 be.size;clear be a6 bt bm;go_wp2_with (fail);go_roundw
  case rel=>exact⟨k+1,by omega,by go_num,dp,dt,c8,dq,dr.o⟩
  simp[intOf];omega
 obtain rfl:k=R.length:=by omega
 rw[Q2] at a6;have dm:=gp.o wr bt 0 fm;rw[gv.o,Nat.add_zero] at dm;have co:=Aq J a6 (by simp) x0 (by simpa using gf);have fo:=a6.frozenAt x0;obtain⟨c8,be⟩:=Ba a6 x0 (I 0);have dp:=bt.grown be (λk e=>by cases e;omega);have dq:=bm.kept be (Az bm (by omega));have dr:=Z ((be.block E.heap.size (Al dn.o) (by simp)).trans dn.o);have dt:=μ c5 be.size;clear be a6 bt bm dn;have gy:=Z (MN (t:=t) (B:=λs=>N.getD s 0) (R:=R) (K:=G) (show N.getD 0 0<R.length by rw[gv.o];exact gf) R.length rfl (ζ G.length 0) (by simp));rw[gv.o] at gy;go_wp2_with (fail);clear co fo dm;obtain⟨ey,gz⟩:=Xq (wr.setCell ⟨E.heap.size+1,x0,J⟩ (ov (I 0)));rw[gz] at c8 dp dq dr dt;have jy:wr.setCell ⟨E.heap.size+1,x0,J⟩ (.int Χ 0)=ey:=gz;rw[jy];clear gz jy;have jz:=ϰ ey (E.heap.size+1+1) 54 1;have ei:=ϰ ey (E.heap.size+1+1) 4 1;have j0:RowsO ey (E.heap.size+1+1) [] [] (λo=>o=I gx):=⟨rfl,λj hj=>by simp at hj⟩;go_wp2_with (fail);go_loopw [9,11] (λvo vi W=>∃ (i:Nat) (O:List Nat) (P:List (Option Nat)) (N':List (List Nat)) (Ac:List Bool) (vs:List Δ) (go co:Nat) (vnx ai:Δ),i<=O.length/\vi=.int Χ i/\vo=U (I ⟨go,0,J⟩) O.length co/\Ext E W/\E.heap.size+1+1<=W.heap.size/\W.ownsRow (E.heap.size+1) 3 1 (U (I ⟨E.heap.size+1,0,J⟩) R.length R.length) R.length (P.map ov)/\OwnI W (E.heap.size+1+1) vo O/\ϟ (W.heap[E.heap.size]? = I (Β (dA (U (I ⟨H,T,J⟩) C.length X) vnx ai) 40 (0,0)))/\W.ownsRow (E.heap.size+1+1) 54 1 vnx vs.length vs/\OwnB W (E.heap.size+1+1) ai Ac/\RowsO W (E.heap.size+1+1) vs N' (λo=>o=I go)/\ϟ (LInv t (λs=>N.getD s 0) R G i 0 O P N' (ζ G.length 0)/\Ac.length=i/\∀ j,j<i->Ac.getD j Ε=t.ok (R.getD (O.getD j 0) 0)))
  (λ_ vi _=>R.length-(intOf vi).toNat)
 case atStart=>exact⟨0,[x0],_,[],[],[],gx,1,_,_,by omega,rfl,rfl,dp,dt,c8,dq,dr,jz,ei,j0,Z ⟨gy.o,rfl,λj hj=>by omega⟩⟩
 clear dp dt c8 dq dr jz ei j0 gy;obtain⟨i,O,P,N',Ac,vs,go,co,vnx,ai,pa,rfl,rfl,hE,dv,hP,hI,HD,hN,hA,hV,HI⟩:=hrel;have pb:=HI.o.1.len_le;by_cases c6:i<O.length
 ·obtain⟨wo,nd⟩:∃ W,W=wr:=⟨_,rfl⟩;subst nd;have cO:=Aq 0 hI rfl i c6;have ez:=HI.o.1.lt i c6;obtain⟨x,ha⟩:=Xq (O.getD i 0);rw[ha] at cO ez;have j2:=Z ha;clear ha;have cR:=mo.o wo hE x ez;have e0:=jh.o x ez;have j3:=Z (ji.o x ez);obtain⟨s,hf⟩:=Xq (R.getD x 0);rw[hf] at cR e0 j3;have j4:=Z hf;clear hf;go_upto_region 17 with (at_make;refine Ϛ _ rfl _ _ 54 rfl (E.heap.size+1+1) 3 i0 (.int Χ 0) 1 ϝ hi fu fv Χ Χ _ _ G.length rfl rfl rfl rfl (by rw[fw];omega) (by unfold ϐ;omega) (by omega) ?_;intro w5 j5 bu)
  have j6:=hE.grown bu (λk e=>by cases e);have hh:w5.ownsRow (E.heap.size+1+1) 3 1 (U (I ⟨wo.heap.size,0,J⟩) G.length G.length) G.length ((ζ G.length 0).map iv):=by rw[<-B7];exact j5
  have j7:=Bz hP bu;have j8:=Bz hI bu;have j9:=Z ((bu.block E.heap.size (Al HD.o) (by simp)).trans HD.o);have kb:=Bz hN bu;have kc:=Bz hA bu;have nf:=(hI.lt go rfl).2;have kd:=(hV.av (av':=λo=>o=I go\/o=I wo.heap.size) (λv l ho ak=>by
   rintro (e|e)
   ·exact ak e
   have:=(ho.lt _ e).2;omega)).kept bu (λv l ho ak=>by cases v.ownBlock<;>simp)
  have ke:=μ dv bu.size;have bb:go≠wo.heap.size:=by omega
  have pc:=(hh.lt wo.heap.size rfl).1;generalize wo.heap.size=gr at *;clear j5 bu hP hI HD hN hA hV hE dv cO cR nf;go_wp2_with (fail);go_loopw [9,72] (λvo vi W=>∃ (k:Nat) (O2:List Nat) (P2:List (Option Nat)) (r:List Nat) (a1 e1:Nat),k<=G.length/\vi=.int Χ k/\vo=U (I ⟨a1,0,J⟩) O2.length e1/\a1≠gr/\Ext E W/\E.heap.size+1+1<=W.heap.size/\W.ownsRow (E.heap.size+1) 3 1 (U (I ⟨E.heap.size+1,0,J⟩) R.length R.length) R.length (P2.map ov)/\OwnI W (E.heap.size+1+1) vo O2/\W.ownsRow (E.heap.size+1+1) 3 1 (U (I ⟨gr,0,J⟩) G.length G.length) G.length (r.map iv)/\ϟ (W.heap[E.heap.size]? = I (Β (dA (U (I ⟨H,T,J⟩) C.length X) vnx ai) 40 (0,0)))/\W.ownsRow (E.heap.size+1+1) 54 1 vnx vs.length vs/\OwnB W (E.heap.size+1+1) ai Ac/\RowsO W (E.heap.size+1+1) vs N' (λo=>o=I a1\/o=I gr)/\ϟ (LInv t (λs=>N.getD s 0) R G i k O2 P2 N' r/\i<O2.length/\∀ j,j<=i->O2.getD j 0=O.getD j 0))
   (λ_ vi _=>G.length-(intOf vi).toNat)
  case atStart=>exact⟨0,O,P,_,go,co,by omega,rfl,rfl,bb,j6,ke,j7,j8,hh,j9,kb,kc,kd,Z ⟨HI.o.1,c6,λ_ _=>rfl⟩⟩
  clear j6 ke j7 j8 hh j9 kb kc kd bb;obtain⟨k,O2,P2,r,a1,e1,hk,rfl,rfl,bb,hE,dv,hP,hI,hQ,HD,hN,hA,hV,HJ⟩:=hrel;have dw:=Z HJ.o.1.lenP;have dx:=Z HJ.o.1.lenr;have pd:=HJ.o.1.len_le;obtain⟨w5,ng⟩:∃ W,W=wr:=⟨_,rfl⟩;subst ng;by_cases da:k<G.length
  ·have cK:=mq.o w5 hE k da;have e2:=HM.o.lt k da;obtain⟨c,hq⟩:=Xq (G.getD k 0);have db:ϟ (N.getD (t.ent2 (R.getD (O2.getD i 0) 0) (G.getD k 0)) 0=N.getD (t.ent2 s c) 0):=Z (by rw[HJ.o.2.2 i (Υ _),j2.o,j4.o,hq]);rw[hq] at cK e2;clear hq;have kf:=HV.o.tgt s e0 c e2;have cc:=j3.o c e2;obtain⟨br,or',pf,nh,kg⟩:=(mv.o w5 hE) s e0;have cy:=kg c e2;have k7:=mr.o w5 hE;obtain⟨y,ki⟩:=Xq (t.ent2 s c);have cc:N.getD (t.ent2 s c) 0<R.length:=cc;rw[ki] at cy kf cc db;clear ki kg;have cz:=gp.o w5 hE y kf;obtain⟨z,kk⟩:=Xq (N.getD y 0);rw[kk] at cz cc db;clear kk;have cp:=Aq J hP dw.o.symm z (by rw[dw.o];exact cc);obtain⟨o,ho⟩:=Xq (P2.getD z J);rw[ho] at cp;have HO:=Z ho;clear ho;have km:I (E.heap.size+1)≠I gr:=λe=>by have:=ϓ e;omega
   go_upto_region 21 with (fail)
   clear cK cy cz k7 nh;cases o with
   | some v=>
    replace cp:w5.cell? ⟨E.heap.size+1,z,J⟩=I (iv v):=cp;have hr:=Z (MP HJ.o.1 da v (by show P2.getD (N.getD (t.ent2 (R.getD (O2.getD i 0) 0) (G.getD k 0)) 0) J=I v;rw[db.o];exact HO.o))
    have cq:=Aq 0 hQ dx.o.symm k (by rw[dx.o];exact da);have fq:=hQ.frozenAt k;obtain⟨nl,bz⟩:=Ba hQ k v;have nm:=hE.grown bz (λk e=>by cases e;omega);have nn:=hP.kept bz (.inr km);have np:=hI.kept bz (.inr (λe=>bb (ϓ e)));have nq:=Z ((bz.block E.heap.size (Al HD.o) (λe=>by have:=ϓ e;omega)).trans HD.o);have nr:=hN.kept bz (Aj hN hQ (by decide));have fl:=hA.kept bz (Aj hA hQ (by decide));have ns:=hV.kept bz (λv l ho ak=>.inr (λe=>ak (.inr e)));have nt:=μ dv bz.size;clear bz hE hP hI hQ HD hN hA hV;go_wp2_with (fail);go_roundw
    case rel=>exact⟨k+1,O2,P2,r.set k v,a1,e1,by omega,by go_num,rfl,bb,nm,nt,nn,np,nl,nq,nr,fl,ns,Z ⟨hr.o,HJ.o.2⟩⟩
    simp[intOf];omega
   | none=>
    replace cp:w5.cell? ⟨E.heap.size+1,z,J⟩=I (.int Χ (-1)):=cp;have ht:=MQ HJ.o.1 da HJ.o.2.1 (by
     show N.getD (t.ent2 (R.getD (O2.getD i 0) 0) (G.getD k 0)) 0<R.length;rw[db.o];exact cc) (by
     show P2.getD (N.getD (t.ent2 (R.getD (O2.getD i 0) 0) (G.getD k 0)) 0) J=J;rw[db.o];exact HO.o)
    rw[db.o] at ht;have hr:=Z ht;clear ht;have fp:=hP.frozenAt z;obtain⟨hy,b0⟩:=Ba hP z (I O2.length);have cg:=hE.grown b0 (λk e=>by cases e;omega);have ct:=hI.kept b0 (Az hI (by omega));have e3:=hQ.kept b0 (Az hQ (by omega));have e4:=Z ((b0.block E.heap.size (Al HD.o) (by simp)).trans HD.o);have e5:=hN.kept b0 (Az hN (by omega));have e6:=hA.kept b0 (Az hA (by omega));have hz:=hV.kept b0 (λv l ho ak=>Az ho (by omega));have nv:=μ dv b0.size;clear b0 hE hP hI hQ HD hN hA hV;go_upto_region 23 with (fail)
    obtain⟨wa,cj⟩:=Xq (w5.setCell ⟨E.heap.size+1,z,J⟩ (ov (I O2.length)));rw[cj] at hy cg ct e3 e4 e5 e6 hz nv;have kn:w5.setCell ⟨E.heap.size+1,z,J⟩ (.int Χ (O2.length:Int))=wa:=cj;rw[kn];clear cj kn cp fp;go_upto_region 24 with (at_builtin;refine ϕ _ rfl _ _ 54 rfl (E.heap.size+1+1) 3 i0 (.int Χ 0) 1 8 ϝ hi fu fv fw rfl (by decide) _ _ _ rfl (ct.alloc _) _ 1 1 [iv z] rfl rfl (Õ _ _ _) (by simp[ξ]) (by decide) (by unfold ϐ;omega) (by omega) (by simp;omega) _ rfl ?_;intro g7 c7 w7 dc ah ko _)
    have h2:a1=g7\/g7=wa.heap.size+1:=by
     rcases ko with e|e
     ·exact .inl (ϓ e)
     rw[Ο] at e;exact .inr e
    have pg:=(e3.lt gr rfl).2;have kq:g7≠gr:=by
     rcases h2 with e|e
     ·rw[<-e];exact bb
     omega
    have kr:=(ct.lt a1 rfl).1;have cu:=(hy.alloc (Β #[iv z] 3)).kept ah (.inr (λe=>by have:E.heap.size+1=a1:=ϓ e;have:E.heap.size+1+1<=a1:=kr;omega));have bg:=(e3.alloc (Β #[iv z] 3)).kept ah (.inr (λe=>bb (ϓ e).symm));have b4:=Z ((ah.block E.heap.size (Ξ (Al e4.o) (by rw[Ο];omega)) (λe=>by have:E.heap.size=a1:=ϓ e;have:E.heap.size+1+1<=a1:=kr;omega)).trans (Ag e4.o _));have bh:=(e5.alloc (Β #[iv z] 3)).kept ah (Aj e5 ct (by decide));have bk:=(e6.alloc (Β #[iv z] 3)).kept ah (Aj e6 ct (by decide));have dz:=(cg.alloc (Β #[iv z] 3)).grown ah (λk e=>by have:=(ct.lt k e).1;omega);have ea:=(((hz.alloc (Β #[iv z] 3)).av (av':=λo=>(o=I a1\/o=I gr)\/o=I g7) (λv l ho ak=>by
     rintro (e|e)
     ·exact ak e
     ·rcases h2 with e7|e7
      ·exact ak (.inl (by rw[e,e7]))
      have:=(ho.lt _ e).2;rw[Ο] at this;omega)).kept ah (λv l ho ak=>.inr (λe=>ak (.inl (.inl e))))).av (av':=λo=>o=I g7\/o=I gr) (λv l ho ak=>by
     rintro (e|e)
     ·exact ak (.inr e)
     exact ak (.inl (.inr e)))
    have e8:E.heap.size+1+1<=w7.heap.size:=by have:=ah.size;rw[Ο] at this;omega
    have kt:ϟ (OwnI w7 (E.heap.size+1+1) (U (I ⟨g7,0,J⟩) (O2++[z]).length c7) (O2++[z])):=Z (by show ϣ _ _ _ _ _ _ _;rw[Ν,ϥ];exact dc)
    clear ah ko cg hy ct e3 e4 e5 e6 hz dc h2;have cp:=Aq J cu (by rw[ο];exact dw.o.symm) z (by rw[ο,dw.o];exact cc);rw[Cd _ _ _ _ _ (by rw[dw.o];exact cc),if_pos rfl] at cp;replace cp:w7.cell? ⟨E.heap.size+1,z,J⟩=I (iv O2.length):=cp;have cq:=Aq 0 bg dx.o.symm k (by rw[dx.o];exact da);have fq:=bg.frozenAt k;obtain⟨eb,ao⟩:=Ba bg k O2.length;have dd:=dz.grown ao (λk e=>by cases e;omega);have ec:=cu.kept ao (.inr km);have nw:=Z (kt.o.kept ao (.inr (λe=>kq (ϓ e))));have de:=Z ((ao.block E.heap.size (Al b4.o) (λe=>by have:=ϓ e;omega)).trans b4.o);have ed:=bh.kept ao (Aj bh bg (by decide));have b7:=bk.kept ao (Aj bk bg (by decide));have ee:=ea.kept ao (λv l ho ak=>.inr (λe=>ak (.inr e)));have ef:=μ e8 ao.size;clear ao dz cu kt bg b4 bh bk ea;go_wp2_with (fail);go_roundw
    case rel=>
     refine⟨k+1,O2++[z],P2.set z (I O2.length),r.set k O2.length,g7,c7,by omega,by go_num,?_,kq,dd,ef,ec,?_,eb,de,ed,b7,ee,Z ⟨hr.o,?_,λj hj=>?_⟩⟩
     ·rw[Ν];rfl
     ·have h9:ϣ _ _ _ _ _ _ _:=nw.o;show ϣ _ _ _ _ _ _ _;rw[show (O2++[z]).length=O2.length+1 by simp] at h9 ⊢;exact h9
     ·rw[Ν];have:=HJ.o.2.1;omega
     rw[B9 _ _ _ _ (by have:=HJ.o.2.1;omega)];exact HJ.o.2.2 j hj
    case measure=>simp[intOf];omega
  obtain rfl:k=G.length:=by omega
  have c1:=(Τ w5 E.heap.size 1 _ _ _ HD.o).trans (show (dA (U (I ⟨H,T,J⟩) C.length X) vnx ai)[1]? = I vnx from rfl);have ph:=(hQ.lt gr rfl).1;have pj:vs.length<=65536:=by rw[hV.1,HJ.o.1.lenN];omega
  go_upto_region 27 with (at_builtin;refine ϕ _ rfl _ _ 37 rfl (E.heap.size+1+1) 54 i6 (U J 0 0) 1 24 Tryz.underlying37 l7 l8 l9 ma rfl (by decide) vnx vs.length vs rfl (hN.alloc _) _ 1 1 [U (I ⟨gr,0,J⟩) G.length G.length] rfl rfl (Õ _ _ _) (by simp[ξ]) (by decide) (by unfold ϐ;omega) (by omega) (by simp;omega) _ rfl ?_;intro g7 c7 w7 bh ah _ _;have b4:ϟ (w7.heap[E.heap.size]? = _):=Z ((ah.block E.heap.size (Ξ (Al HD.o) (by rw[Ο];omega)) (λe=>by have:=(hN.lt _ e.symm).1;omega)).trans (Ag HD.o _));have ny:=(Τ w7 E.heap.size 1 _ _ _ b4.o).trans (show (dA (U (I ⟨H,T,J⟩) C.length X) vnx ai)[1]? = I vnx from rfl);have f17:=Â w7 E.heap.size 1 _ _ b4.o)
  clear c1 ny f17;have pk:∀ (o:Obj),(w5.alloc o).heap.size=w5.heap.size+1:=λo=>Ο _ _
  have cu:=(hP.alloc (Β #[U (I ⟨gr,0,J⟩) G.length G.length] 54)).kept ah (Aj hP hN (by decide));have dc:=(hI.alloc (Β #[U (I ⟨gr,0,J⟩) G.length G.length] 54)).kept ah (Aj hI hN (by decide));have bg:=(hQ.alloc (Β #[U (I ⟨gr,0,J⟩) G.length G.length] 54)).kept ah (Aj hQ hN (by decide));have bk:=(hA.alloc (Β #[U (I ⟨gr,0,J⟩) G.length G.length] 54)).kept ah (Aj hA hN (by decide));have ea:=(hV.alloc (Β #[U (I ⟨gr,0,J⟩) G.length G.length] 54)).kept ah (λv l ho _=>Aj ho (hN.alloc (Β #[U (I ⟨gr,0,J⟩) G.length G.length] 54)) (by decide));have dz:=(hE.alloc (Β #[U (I ⟨gr,0,J⟩) G.length G.length] 54)).grown ah (λk e=>by have:=(hN.lt k e).1;omega);have e8:E.heap.size+1+1<=w7.heap.size:=by have:=ah.size;rw[Ο] at this;omega
  clear ah hP hI hQ hA hV hE hN HD;have bh:w7.ownsRow (E.heap.size+1+1) 54 1 (U (I ⟨g7,0,J⟩) (vs.length+1) c7) (vs++[ό (I ⟨gr,0,J⟩) G.length G.length]).length (vs++[ό (I ⟨gr,0,J⟩) G.length G.length]):=by rw[Ν];exact bh
  obtain⟨row,h3⟩:=Xq (ό (I ⟨gr,0,J⟩) G.length G.length);have n0:row.ownBlock=I gr:=by rw[<-h3];rfl
  rw[h3] at bh bg;clear h3;obtain⟨aq,kv⟩:=Xq (ό (I ⟨g7,0,J⟩) (vs.length+1) c7);rw[kv] at bh;have ao:=Ca w7 E.heap.size (dA (U (I ⟨H,T,J⟩) C.length X) aq ai);have eg:w7.setCell ⟨E.heap.size,1,J⟩ aq=w7.setRow E.heap.size (dA (U (I ⟨H,T,J⟩) C.length X) aq ai):=ϧ w7 _ _ _ _ _ _ b4.o;have dd:=dz.setRow (Υ _) (dA (U (I ⟨H,T,J⟩) C.length X) aq ai);have ec:=cu.kept ao (Az cu (by omega));have h4:=dc.kept ao (Az dc (by omega));have eb:=bg.kept ao (Az bg (by omega));have ed:=bh.kept ao (Az bh (by omega));have b7:=bk.kept ao (Az bk (by omega));have ee:=ea.kept ao (λv l ho _=>Az ho (by omega));have de:=Z (Φ w7 E.heap.size _ (dA (U (I ⟨H,T,J⟩) C.length X) aq ai) _ _ b4.o);have ef:E.heap.size+1+1<=(w7.setRow E.heap.size (dA (U (I ⟨H,T,J⟩) C.length X) aq ai)).heap.size:=by rw[ì];exact e8
  rw[kv,eg];clear ao cu dc bg bh bk ea dz e8 b4 eg;obtain⟨w8,h5⟩:=Xq (w7.setRow E.heap.size (dA (U (I ⟨H,T,J⟩) C.length X) aq ai));rw[h5] at ec h4 eb ed b7 ee de dd ef;rw[h5];clear h5;have c2:∀ W:Γ,W.heap[E.heap.size]? = I (Β (dA (U (I ⟨H,T,J⟩) C.length X) aq ai) 40 (0,0))->W.cell? ⟨E.heap.size,2,J⟩=I ai:=λW hW=>(Τ W E.heap.size 2 _ _ _ hW).trans rfl
  refine Bq 10 [(0,Α),(1,Α),(2,Α),(3,Α),(4,Α),(5,Α),(6,Α),(7,Ε),(8,Ε),(9,Α),(10,Ε)] (by kernel_rfl) (by kernel_rfl) (λ_ _ _ _ h=>h)
   (λW=>Ext E W/\W.heap[E.heap.size]? = I (Β (dA (U (I ⟨H,T,J⟩) C.length X) aq ai) 40 (0,0))) ⟨dd.drew,de.o⟩ ?_
  iterate 7
   refine Gt (v:=?_) rfl rfl (λW hW=>?_) ?_
   rotate_left
   ·obtain⟨kx,ky⟩:=hW;have k2:=c2 W ky;have k8:=mu.o W kx;have ka:=mw.o W kx s e0;clear ky;go_simp;first|done|with_reducible rfl
   simp only[θ,Η,Μ,Λ]
  have e9:=Aa ec (Κ w8).drew;have fa:=Aa h4 (Κ w8).drew;have fb:=Aa eb (Κ w8).drew;have fc:=Aa ed (Κ w8).drew;have bq:=Aa b7 (Κ w8).drew;have h6:=ee.kept ((Κ w8).drew.grownBy J) (λv l _ _=>by cases v.ownBlock<;>simp);have eh:ϟ (w8.drew.heap[E.heap.size]? = I (Β (dA (U (I ⟨H,T,J⟩) C.length X) aq ai) 40 (0,0))):=Z de.o;have fe:=dd.drew;have k0:E.heap.size+1+1<=w8.drew.heap.size:=ef;obtain⟨w9,h7⟩:=Xq (w8.drew);rw[h7] at e9 fa fb fc bq h6 eh fe k0;rw[h7];clear h7 ec h4 eb ed b7 ee de dd ef;have pq:Ac.length<=65536:=by rw[HI.o.2.1];omega
  refine Dz rfl (λK hK=>?_);go_simp;refine hK _ _ (λ_=>⟨fe.alloc _,Ag eh.o _⟩) ?_;clear hK K;refine Dz rfl (λK hK=>?_);refine step_append_lies _ rfl _ _ 38 rfl (E.heap.size+1+1) 4 i4 (.bool Ε) 1 1 Ý l2 l3 l4 l5 rfl (by decide) ai Ac.length (Ac.map ψ) rfl (bq.alloc _) _ 1 1 [.bool (t.ok s)] rfl rfl (Õ _ _ _) (by simp[ξ]) (by decide) (by unfold ϐ;omega) (by omega) (by simp;omega) _ rfl ?_;intro k5 k6 bj df b6 _ _;have h8:=(fe.alloc (Β #[.bool (t.ok s)] 4)).grown b6 (λk e=>by have:=(bq.lt k e).1;omega);have dg:=Z ((b6.block E.heap.size (Ξ (Al eh.o) (by rw[Ο];omega)) (λe=>by have:=(bq.lt _ e.symm).1;omega)).trans (Ag eh.o _));have ia:=(e9.alloc (Β #[.bool (t.ok s)] 4)).kept b6 (Aj e9 bq (by decide));have ib:=(fa.alloc (Β #[.bool (t.ok s)] 4)).kept b6 (Aj fa bq (by decide));have ic:=(fb.alloc (Β #[.bool (t.ok s)] 4)).kept b6 (Aj fb bq (by decide));have ie:=(fc.alloc (Β #[.bool (t.ok s)] 4)).kept b6 (Aj fc bq (by decide));have k9:=(h6.alloc (Β #[.bool (t.ok s)] 4)).kept b6 (λv l ho _=>Aj ho (bq.alloc (Β #[.bool (t.ok s)] 4)) (by decide));have la:E.heap.size+1+1<=bj.heap.size:=by have:=b6.size;rw[Ο] at this;omega
  have df:OwnB bj (E.heap.size+1+1) (U (I ⟨k5,0,J⟩) (Ac.length+1) k6) (Ac++[t.ok s]):=by show ϣ _ _ _ _ _ _ _;rw[Ν,ϥ];exact df
  clear b6 e9 fa fb fc bq h6 eh fe k0;refine hK _ _ (λ_=>⟨h8,dg.o⟩) ?_;clear hK K;refine Gt (v:=?_) rfl rfl (λW hW=>?_) ?_
  rotate_left
  ·clear hW;go_simp;first|done|with_reducible rfl
  simp only[θ,Η,Μ,Λ];have k2:=c2 bj dg.o;have f2:=Â bj E.heap.size 2 _ _ dg.o;refine Dz rfl (λK hK=>?_);go_simp;refine hK _ _ (λh=>absurd h (by omega)) ?_;clear hK K k2 f2 c2;refine Bn ?_;obtain⟨cd,lb⟩:=Xq (ό (I ⟨k5,0,J⟩) (Ac.length+1) k6);rw[lb] at df;have cv:=Ca bj E.heap.size (dA (U (I ⟨H,T,J⟩) C.length X) aq cd);have eg:bj.setCell ⟨E.heap.size,2,J⟩ cd=bj.setRow E.heap.size (dA (U (I ⟨H,T,J⟩) C.length X) aq cd):=ϧ bj _ _ _ _ _ _ dg.o;have lf:=h8.setRow (Υ _) (dA (U (I ⟨H,T,J⟩) C.length X) aq cd);have lg:=ia.kept cv (Az ia (by omega));have lh:=ib.kept cv (Az ib (by omega));have ig:=ic.kept cv (Az ic (by omega));have lj:=ie.kept cv (Az ie (by omega));have lk:=df.kept cv (Az df (by omega));have ih:=k9.kept cv (λv l ho _=>Az ho (by omega));have ll:=Z (Φ bj E.heap.size _ (dA (U (I ⟨H,T,J⟩) C.length X) aq cd) _ _ dg.o);have ln:E.heap.size+1+1<=(bj.setRow E.heap.size (dA (U (I ⟨H,T,J⟩) C.length X) aq cd)).heap.size:=by rw[ì];exact la
  rw[lb,eg];clear cv ia ib ic ie df k9 h8 la dg eg;obtain⟨n1,ij⟩:=Xq (bj.setRow E.heap.size (dA (U (I ⟨H,T,J⟩) C.length X) aq cd));rw[ij] at lg lh ig lj lk ih ll lf ln;rw[ij];clear ij;have lo:OwnI n1 (E.heap.size+1+1) row r:=by show ϣ _ _ _ _ _ _ _;rw[dx.o];exact ig
  have n2:=(ih.av (av':=λo=>o=I a1) (λv l _ ak e=>ak (.inl e))).snoc lo (by rw[n0];exact λe=>bb (ϓ e).symm);have n3:=Z (MO HJ.o.1 HJ.o.2.1 (ζ G.length 0) (by simp));have n4:ϟ ((Ac++[t.ok s]).length=i+1/\∀ j,j<i+1->(Ac++[t.ok s]).getD j Ε=t.ok (R.getD (O2.getD j 0) 0)):=Z ⟨by rw[Ν,HI.o.2.1];rfl,λj hj=>by
   rw[HJ.o.2.2 j (by omega),Nh,HI.o.2.1];by_cases lp:j<i
   ·rw[if_pos lp];exact HI.o.2.2 j lp
   obtain rfl:j=i:=by omega
   rw[if_neg (by omega),if_pos rfl,j2.o,j4.o]⟩
  have pr:=HJ.o.2.1;clear ig ih lo bb;go_wp2;go_roundw
  case rel=>exact⟨i+1,O2,P2,N'++[r],Ac++[t.ok s],vs++[row],a1,e1,aq,cd,by omega,by go_num,rfl,lf,ln,lg,lh,ll,lj,lk,n2,Z ⟨n3.o,n4.o⟩⟩
  simp[intOf];omega
 obtain rfl:i=O.length:=by omega
 have n5:=Z (MS (L:=C) HM.o.len jr HI.o.1 rfl HI.o.2.1 HI.o.2.2);have lq:=Z (NN HV.o HL.o HB.o HM.o n5.o);have ik:=Z (hE.heap my.o);obtain⟨an,fg,rfl⟩:=Mx hN;obtain⟨aa,fj,rfl⟩:=Mx hA;go_wp2_with (first
  | (refine Lr 40 (ε 7) HD.o Ρ Ae ?_)
  | (refine Sr 40 (ε 2) (ε 126) rfl ik.o Ae rfl (Aw _ _ _ rfl rfl rfl) ?_))
 refine ω (v:=.agg (dA (U (I ⟨H,T,J⟩) C.length X) (U an vs.length fg) (U aa Ac.length fj))) (Æ rfl _ _ _ _ _ _ _ rfl (Φ wr _ _ (dA (U (I ⟨H,T,J⟩) C.length X) (U an vs.length fg) (U aa Ac.length fj)) 40 (0,0) ik.o) Ρ rfl Ae) rfl ?_;have bb:=Ca wr (w.heap.size+1) (dA (U (I ⟨H,T,J⟩) C.length X) (U an vs.length fg) (U aa Ac.length fj));have n9:=hN.kept bb (Az hN (by omega));have ob:=hA.kept bb (Az hA (by omega));have oc:=hV.kept bb (λv l ho _=>Az ho (by omega));have er:=Sl.setRow (na.o.ext hE) ik.o (λi _ o=>by
  intro h;have:o=0\/o=1\/o=2\/3<=o:=by omega
  rcases this with rfl|rfl|rfl|ho
  ·simp at h
  ·simp at h
  ·simp at h
  rw[õ (by simpa using ho)] at h;cases h) (by omega) (dA (U (I ⟨H,T,J⟩) C.length X) (U an vs.length fg) (U aa Ac.length fj))
 refine⟨_,⟨C,N',Ac⟩,rfl,λW hW=>⟨_,_,_,rfl,hW.cls er,(hW.rows oc).rows (hW.owns n9 (by decide)) (by rw[HI.o.1.lenN];omega) (λj hj=>by rw[HI.o.1.rows j (by rw[<-HI.o.1.lenN];exact hj)];omega),OwnB.bools (hW.owns ob (by decide)) (by rw[HI.o.2.1];omega)⟩,lq.o.1,lq.o.2,?_⟩;exact (gm.t hE).setRow (by omega) _
theorem Ly (t:Tbl) (E:TVal t) (G:t.n.length<=65536) (A:Array Δ) (w:Γ) (h:IsT w A t):Ϟ Ι 39 #[.agg A] w λe w'=>∃ v d,e=Ω v/\IsD w' v d/\Cano d/\(∀ u,d.has u=t.has u)/\Ext w w':=
 (Rx t E G A w h).mono λ_ _ ⟨v,d,he,H,h1,T,X⟩=>⟨v,d,he,H _ (Near.of_ext (Κ _)),h1,T,X⟩
def zD:Δ:=.agg #[U J 0 0,U J 0 0,U J 0 0]
def ResOf (W:Γ) (e:Ending):Option Dfa->Prop
 | some d=>∃ v,e=Ω (ϙ #[v,.int Χ 0])/\IsD W v d
 | none=>e=Ω (ϙ #[zD,.int Χ 2])
theorem M1 {o:Nat} {x:Δ} (h:(#[ό J 0 0,ό J 0 0,ό J 0 0])[o]? = I x):x=U J 0 0:=by
 have:o=0\/o=1\/o=2\/3<=o:=by omega
 rcases this with rfl|rfl|rfl|E
 ·simpa using h.symm
 ·simpa using h.symm
 ·simpa using h.symm
 rw[õ (by simpa using E)] at h;cases h
theorem IsD.setRow {W:Γ} {v:Δ} {d:Dfa} (G:Val d) (h:IsD W v d) {g:Nat} {e:ϫ} {fr:Nat × Nat} (hg:W.heap[g]? = I (Β #[U J 0 0,U J 0 0,U J 0 0] e fr)) (cs:Array Δ):IsD (W.setRow g cs) v d:=by
 obtain⟨vc,T,X,rfl,h1,⟨vs,aa,hN,H⟩,h3⟩:=h;refine⟨vc,T,X,rfl,Sl.setRow h1 hg (λi _ o E=>by cases M1 E) (by omega) cs,⟨vs,aa,Sl.setRow hN hg (λi hi o E=>?_) (by omega) cs,λi hi=>Sl.setRow (H i hi) hg (λi _ o E=>by cases M1 E) (by omega) cs⟩,Sl.setRow h3 hg (λi _ o E=>by cases M1 E) (by omega) cs⟩;have hi:i<d.n.length:=by simpa using hi
 obtain⟨b,af,ag,ae,_⟩:=Ü (H i hi) (by rw[G.row i hi];exact G.parts.pos);have:=M1 E;rw[ae] at this;cases this
theorem IsD.agg {W:Γ} {v:Δ} {d:Dfa} (h:IsD W v d):∃ ac lc E G H T la X,v=.agg (dA (U ac lc E) (U G d.n.length H) (U T la X)):=by obtain⟨vc,vn,va,rfl,h1,⟨vs,ai,hN,hr⟩,h3⟩:=h;obtain⟨ac,E,rfl⟩:=Sl.len h1;obtain⟨G,H,rfl⟩:=Sl.len hN;obtain⟨T,X,rfl⟩:=Sl.len h3;exact⟨_,_,_,_,_,_,_,_,rfl⟩
theorem F1:Ι.built 40 []=I #[U J 0 0,U J 0 0,U J 0 0]:=by kernel_rfl
theorem Fa:(#[ό J 0 0,ό J 0 0,ό J 0 0]).all (·.oneCell')=Α:=by simp[ξ]
theorem P9 (t:Tbl) (hv:TVal t) (hn:t.n.length<=65536) (A:Array Δ) (w:Γ) (h:IsT w A t) :
  Ϟ Ι 49 #[.agg A] w λe w'=>∃ r,ResOf w' e r/\Lim (λu=>t.has u=Α) r/\Ext w w':=by
 obtain⟨_,_,_,_,_,_,az,bc,_⟩:=h.opened hv;have bd:(Ι.info? 84).map (·.size)=I A.size:=by rw[az];exact Ce
 have be:=Z h;have HV:=Z hv;have ag:=((Κ w).alloc (Β A 84)).alloc (Β #[U J 0 0,U J 0 0,U J 0 0] 40);have H0:=Ag (Ad w (Β A 84)) (Β #[U J 0 0,U J 0 0,U J 0 0] 40);have H1:=ύ w (Β A 84) (Β #[U J 0 0,U J 0 0,U J 0 0] 40);clear h hv az bc;go_enter Tryz.func49,Tryz.ntmps49;go_upto_region 1 with (fail)
 obtain⟨w1,ah⟩:=Xq ((w.alloc (Β A 84)).alloc (Β #[U J 0 0,U J 0 0,U J 0 0] 40));have bn:w1.heap.size=w.heap.size+1+1:=by rw[<-ah,Ο,Ο]
 rw[ah] at ag H0 H1;simp only[ah];clear ah;have bg:=Z H0;have bh:=Z H1;clear H0 H1;have hC:=Z (Ly t HV.o hn A w1 (be.o.ext ag));go_upto_region 2 with (first
  | (refine Lr 84 (ε 1) bg.o ϭ bd ?_)
  | (go_at_call 39;with_reducible refine hC.o.mono ?_;rintro e E ⟨v,d,rfl,hD,a6,a7,a8⟩;obtain⟨ac,T,X,G,H,aa,la,ca,rfl⟩:=hD.agg)
  | (refine Sr 40 (ε 4) (ε 6) rfl (Ad E _) Ae rfl (Aw _ _ _ rfl rfl rfl) ?_))
 have ai:=a8.t (((Κ E).alloc (Β #[U J 0 0,U J 0 0,U J 0 0] 40)).setRow (Υ _) (dA (U ac T X) (U G d.n.length H) (U aa la ca)));have au:=hD.ext (((Κ E).alloc (Β #[U J 0 0,U J 0 0,U J 0 0] 40)).setRow (Υ _) (dA (U ac T X) (U G d.n.length H) (U aa la ca)));have aj:=Φ (E.alloc (Β #[U J 0 0,U J 0 0,U J 0 0] 40)) E.heap.size _ (dA (U ac T X) (U G d.n.length H) (U aa la ca)) _ _ (Ad E _);obtain⟨w3,ax⟩:=Xq ((E.alloc (Β #[U J 0 0,U J 0 0,U J 0 0] 40)).setRow E.heap.size (dA (U ac T X) (U G d.n.length H) (U aa la ca)));rw[ax] at ai au aj;simp only[ax];clear ax hD a8;have af:=Z (ai.heap bh.o);have bj:=Z au;have ay:=Z a6;have HH:=Z a7;have c1:=(Τ w3 E.heap.size 1 _ _ _ aj).trans (show (dA (U ac T X) (U G d.n.length H) (U aa la ca))[1]? = I (U G d.n.length H) from rfl);have bk:=Z aj;clear au a6 a7 aj hC;by_cases bl:64<d.n.length
 ·have bm:=Z F1;go_wp2_with (first
   | (refine Bj rfl 40 _ rfl #[U J 0 0,U J 0 0,U J 0 0] ?_ ?_;(simp;with_reducible exact bm.o))
   | (refine Sr 40 (ε 2) (ε 11) rfl af.o Ae rfl Fa ?_))
  refine ω (v:=ϙ #[zD,.int Χ 2]) (Bi rfl _ _ _ _ _ _ _ rfl _ rfl (Φ w3 _ _ #[U J 0 0,U J 0 0,U J 0 0] 40 (0,0) af.o) Ρ rfl Ae) rfl ?_;exact⟨J,rfl,⟨d,ay.o,λu=>by rw[HH.o],bl⟩,(ag.t ai).setRow (by omega) _⟩
 go_wp2_with (first
  | (refine Lr 40 (ε 4) bk.o Ρ Ae ?_)
  | (refine Sr 40 (ε 2) (ε 12) rfl af.o Ae rfl (Aw _ _ _ rfl rfl rfl) ?_))
 refine ω (v:=ϙ #[.agg (dA (U ac T X) (U G d.n.length H) (U aa la ca)),.int Χ 0]) (Bi rfl _ _ _ _ _ _ _ rfl _ rfl (Φ w3 _ _ (dA (U ac T X) (U G d.n.length H) (U aa la ca)) 40 (0,0) af.o) Ρ rfl Ae) rfl ?_;exact⟨I d,⟨_,rfl,bj.o.setRow ay.o.val af.o _⟩,⟨ay.o,λu=>by rw[HH.o],by omega⟩,(ag.t ai).setRow (by omega) _⟩
theorem Ry (d:Dfa) (hv:Val d) (hn:d.n.length<=64) (v:Δ) (w:Γ) (hT:Tab w) (aw:0<w.heap.size) (h:IsD w v d) :
  Ϟ Ι 80 #[v] w λe w'=>∃ r,ResOf w' e (I r)/\Cano r/\(∀ u,r.has u=d.has u)/\Ext w w':=by
 have HD:=Z h;have HV:=Z hv;obtain⟨ac,G,H,T,X,aa,la,ca,rfl⟩:=h.agg;have aj:=((Κ w).alloc (Β (dA (U ac G H) (U T d.n.length X) (U aa la ca)) 40)).alloc (Β #[U J 0 0,U J 0 0,U J 0 0] 40);have H0:=Ag (Ad w (Β (dA (U ac G H) (U T d.n.length X) (U aa la ca)) 40)) (Β #[U J 0 0,U J 0 0,U J 0 0] 40);have H1:=ύ w (Β (dA (U ac G H) (U T d.n.length X) (U aa la ca)) 40) (Β #[U J 0 0,U J 0 0,U J 0 0] 40);have f47:=λW (hW:Ext w W)=>Z (Fi d hv hn _ W (HD.o.ext hW))
 have f68:=λW (hW:Ext w W)=>Z (Iw d hv _ W (hT.below hW.below aw) (Ξ aw hW.size) (HD.o.ext hW))
 clear h hv hT;go_enter Tryz.func80,Tryz.ntmps80;go_upto_region 1 with (fail)
 obtain⟨w1,ag⟩:=Xq ((w.alloc (Β (dA (U ac G H) (U T d.n.length X) (U aa la ca)) 40)).alloc (Β #[U J 0 0,U J 0 0,U J 0 0] 40));have bl:(w.alloc (Β #[U ac G H,U T d.n.length X,U aa la ca] 40)).alloc (Β #[U J 0 0,U J 0 0,U J 0 0] 40)=w1:=ag;rw[ag] at aj H0 H1;simp only[ag];have bw:w1.heap.size=w.heap.size+1+1:=by rw[<-ag,Ο,Ο]
 clear ag bl;have ak:=Z H0;have E:=Z H1;clear H0 H1;go_upto_region 3 with (first
  | (refine Lr 40 (ε 1) ak.o Ρ Ae ?_)
  | (go_at_call 33;with_reducible refine (f47 _ aj).o.mono ?_;rintro e w2 ⟨rfl,ah⟩))
 have ak:=Z (ah.heap ak.o);have E:=Z (ah.heap E.o);have ay:=aj.t ah;have b0:=ah.size;clear f47 aj ah;go_wp2_with (first
  | (refine Lr 40 (ε 1) ak.o Ρ Ae ?_)
  | (go_at_call 34;(with_reducible refine (f68 _ ay).o.mono ?_);rintro e w3 ⟨A,rfl,hA,az⟩;have bo:=ay.t az;have E:=Z (az.heap E.o);have hC:=Z (Ly (Ah d) (Bt HV.o) (show d.n.length<=65536 by omega) A w3 hA))
  | (go_at_call 39;with_reducible refine hC.o.mono ?_;rintro e w4 ⟨v,r,rfl,hr,a1,a6,a7⟩;have HR:=Z hr;have a8:=Z a1;have HH:=Z a6;clear a1 a6;obtain⟨ba,bb,bc,bd,be,bf,bg,bh,rfl⟩:=hr.agg;clear hr;have bu:=bo.t a7;have E:=Z (a7.heap E.o))
  | (refine Sr 40 (ε 2) (ε 10) rfl E.o Ae rfl (Aw _ _ _ rfl rfl rfl) ?_))
 refine ω (v:=ϙ #[.agg (dA (U ba bb bc) (U bd r.n.length be) (U bf bg bh)),.int Χ 0]) (Bi rfl _ _ _ _ _ _ _ rfl _ rfl (Φ w4 _ _ (dA (U ba bb bc) (U bd r.n.length be) (U bf bg bh)) 40 (0,0) E.o) Ρ rfl Ae) rfl ?_;exact⟨r,⟨_,rfl,HR.o.setRow a8.o.val E.o _⟩,a8.o,λu=>by rw[HH.o,Ec],bu.setRow (by omega) _⟩
def Fl (n:Nat) (A:List Bool) (k:Nat):List Bool:=(π n).map λj=>if j<k then !A.getD j Ε else Ε
theorem Pw (n:Nat) (A:List Bool) (k:Nat):(Fl n A k).length=n:=by simp[Fl]
theorem JY (n:Nat) (A:List Bool):Fl n A 0=ζ n Ε:=by
 apply Ϩ;intro i;simp only[Fl,υ,List.getElem?_replicate,Nat.not_lt_zero,if_false];by_cases h:i<n
 ·simp[h]
 simp[h]
theorem KA (n:Nat) (A:List Bool) (E:A.length=n):Fl n A n=A.map (!·):=by
 subst E;apply Ϩ;intro i;simp only[Fl,υ];by_cases h:i<A.length
 ·simp[h,List.getD_eq_getElem?_getD]
 simp[h]
theorem JZ (n:Nat) (A:List Bool) (k:Nat) (E:k<n):(Fl n A k).set k (!A.getD k Ε)=Fl n A (k+1):=by
 apply Ϩ;intro i;rw[Ó,Pw];simp only[Fl,υ];by_cases h:i<n
 ·rw[List.getElem?_range h];by_cases e:k=i
  ·subst e;simp[E]
  simp only[e,if_false,Option.map_some];by_cases h1:i<k
  ·rw[if_pos h1,if_pos (by omega)]
  rw[if_neg h1,if_neg (by omega)]
 rw[if_neg (by omega)];simp[h]
theorem Ok (c:Nat->Nat) (n:Nat) (E G v:Δ):(Ak c n E G).setIfInBounds 258 v=Ak c n E v:=by
 apply Array.ext';rw[Array.toList_setIfInBounds];unfold Ak;simp only;apply Ϩ;intro i;unfold En;rw[Ó];by_cases hi:i<256
 ·have:258≠i:=by omega
  rw[if_neg this,ϊ (by simpa using hi),ϊ (by simpa using hi)]
 by_cases e:258=i
 ·subst e;simp[χ]
 rw[if_neg e,χ (by simp;omega),χ (by simp;omega)];obtain⟨j,rfl⟩:∃ j,i=256+j:=⟨i-256,by omega⟩;have H:j≠2:=by omega
 simp only[ι,List.length_range,Nat.add_sub_cancel_left]
 match j,H with
 | 0,_=>rfl
 | 1,_=>rfl
 | j+3,_=>rfl
theorem KB (d:Dfa) (hv:Val d) (hn:d.n.length<=64) (v:Δ) (w:Γ) (hT:Tab w) (bz:0<w.heap.size) (h:IsD w v d) :
  Ϟ Ι 75 #[v] w λe w'=>∃ r,ResOf w' e (I r)/\Cano r/\(∀ u,r.has u=!d.has u)/\Ext w w':=by
 have HD:=Z h;have HV:=Z hv;obtain⟨ac,lc,cc,an,cn,aa,la,ca,rfl⟩:=h.agg;have be:=((Κ w).alloc (Β (dA (U ac lc cc) (U an d.n.length cn) (U aa la ca)) 40)).alloc (Β #[U J 0 0,U J 0 0,U J 0 0] 40);have H0:=Ag (Ad w (Β (dA (U ac lc cc) (U an d.n.length cn) (U aa la ca)) 40)) (Β #[U J 0 0,U J 0 0,U J 0 0] 40);have H1:=ύ w (Β (dA (U ac lc cc) (U an d.n.length cn) (U aa la ca)) 40) (Β #[U J 0 0,U J 0 0,U J 0 0] 40);have f47:=λW (hW:Ext w W)=>Z (Fi d hv hn _ W (HD.o.ext hW))
 have f68:=λW (hW:Ext w W)=>Z (Iw d hv _ W (hT.below hW.below bz) (Ξ bz hW.size) (HD.o.ext hW))
 obtain⟨j0,hj,de,df,dg⟩:=ϑ Fc;have dh:=hv.pos;clear h hv hT;go_enter Tryz.func75,Tryz.ntmps75;go_upto_region 1 with (fail)
 obtain⟨w1,bf⟩:=Xq ((w.alloc (Β (dA (U ac lc cc) (U an d.n.length cn) (U aa la ca)) 40)).alloc (Β #[U J 0 0,U J 0 0,U J 0 0] 40));rw[bf] at be H0 H1;simp only[bf];have eb:w1.heap.size=w.heap.size+1+1:=by rw[<-bf,Ο,Ο]
 clear bf;have bg:=Z H0;have X:=Z H1;clear H0 H1;go_upto_region 3 with (first
  | (refine Lr 40 (ε 1) bg.o Ρ Ae ?_)
  | (go_at_call 33;with_reducible refine (f47 _ be).o.mono ?_;rintro e w2 ⟨rfl,ax⟩))
 have bg:=Z (ax.heap bg.o);have X:=Z (ax.heap X.o);have b4:=be.t ax;have ed:=ax.size;clear f47 be ax;go_upto_region 4 with (first
  | (refine Lr 40 (ε 1) bg.o Ρ Ae ?_)
  | (go_at_call 34;((with_reducible refine (f68 _ b4).o.mono ?_);rintro e w3 ⟨A,rfl,hA,bh⟩;have b5:=b4.t bh;have ee:=bh.size;have X:=Z (bh.heap X.o);obtain⟨vn,va,rfl,bn,b6⟩:=hA;obtain⟨ba,oa,ao,rfl,b7⟩:=N4 b6 (show 0<d.acc.length by rw[HV.o.accL];exact dh);obtain⟨G,H,T,rfl⟩:∃ a n c,vn=U a n c:=(by obtain⟨vs,_,hs,_⟩:=bn;obtain⟨a,c,rfl⟩:=hs.len;exact⟨_,_,_,rfl⟩);have b8:Ψ.size=(Ak (Ah d).cell (Ah d).cells (U G H T) (U (I ⟨ba,oa,J⟩) (Ah d).acc.length ao)).size:=(by rw[C8,Es]);have b9:(Ι.info? 84).map (·.size)=I (Ak (Ah d).cell (Ah d).cells (U G H T) (U (I ⟨ba,oa,J⟩) (Ah d).acc.length ao)).size:=(by rw[Es];exact Ce);have cb:=Hm (Ah d).cell (Ah d).cells (U G H T) (U (I ⟨ba,oa,J⟩) (Ah d).acc.length ao) rfl rfl))
  | (refine Sr 84 (ε 4) (ε 13) rfl (Ad w3 (Β Ψ 84)) b9 b8 cb ?_))
 have hm:(Ah d).acc.length=d.n.length:=HV.o.accL;have aq:=((Κ w3).alloc (Β Ψ 84)).setRow (Υ w3.heap.size) (Ak (Ah d).cell (Ah d).cells (U G H T) (U (I ⟨ba,oa,J⟩) (Ah d).acc.length ao));have H5:=Φ (w3.alloc (Β Ψ 84)) _ _ (Ak (Ah d).cell (Ah d).cells (U G H T) (U (I ⟨ba,oa,J⟩) (Ah d).acc.length ao)) 84 (0,0) (Ad w3 (Β Ψ 84));obtain⟨w4,bj⟩:=Xq ((w3.alloc (Β Ψ 84)).setRow w3.heap.size (Ak (Ah d).cell (Ah d).cells (U G H T) (U (I ⟨ba,oa,J⟩) (Ah d).acc.length ao)));have eg:w3.heap.size<w4.heap.size:=by rw[<-bj,ì,Ο];omega
 rw[bj] at aq H5;simp only[bj];clear bj;rw[hm] at H5 b9 cb;simp only[hm];have dp:=Z (λ(W:Γ) (hW:Ext w4 W) j (hj:j<d.n.length)=>(aq.t hW).cell (b7 j (by rw[hm];exact hj)));have dq:=Z bn;have cd:=Z H5;have X:=Z (aq.heap X.o);have eh:=b5.size;have k8:=(Τ w4 w3.heap.size 258 _ _ _ H5).trans (Hq _ _ _ _);clear b7 bn b6 H5 bh b8 f68 hm;generalize cf:w3.heap.size=B4 at *;have dr:=Ñ cf;clear cf;go_upto_region 5 with (at_make;refine Ϛ _ rfl _ _ 38 rfl w4.heap.size 4 j0 (.bool Ε) 1 Ý hj de df Χ Χ _ _ d.n.length rfl rfl rfl rfl (by rw[dg];omega) (by unfold ϐ;omega) (Υ _) ?_;intro w5 cg cj)
 have ae:Ext w4 w5:=(Κ w4).grown cj (λk e=>by cases e);have ag:w5.ownsRow w4.heap.size 4 1 (U (I ⟨w4.heap.size,0,J⟩) d.n.length d.n.length) d.n.length ((Fl d.n.length d.acc 0).map ψ):=by rw[JY,<-B7];exact cg
 clear cg cj k8;have k8:=(Τ w5 B4 258 _ _ _ (ae.heap cd.o)).trans (Hq _ _ _ _);generalize ck:w4.heap.size=E at *;have dt:=Z ck;clear ck;go_wp2_with (fail);clear k8;go_loopw [21] (λi W=>∃ k:Nat,k<=d.n.length/\i=.int Χ k/\Ext w4 W/\W.ownsRow E 4 1 (U (I ⟨E,0,J⟩) d.n.length d.n.length) d.n.length ((Fl d.n.length d.acc k).map ψ)) (λi _=>d.n.length-(intOf i).toNat)
 case atStart=>exact⟨0,by omega,rfl,ae,ag⟩
 clear ae ag;obtain⟨k,hk,rfl,ae,ag⟩:=hrel;have du:w4.heap.size<=E:=Ñ dt.o;by_cases bp:k<d.n.length
 ·have ca:wr.cell? ⟨ba,oa+k,J⟩=I (.bool (d.acc.getD k Ε)):=dp.o wr ae k bp;have cv:=Aq Ε ag (Pw _ _ _).symm k (by rw[Pw];exact bp);have fv:=ag.frozenAt k;obtain⟨ar,cl⟩:=Ba ag k (!d.acc.getD k Ε);rw[JZ _ _ _ bp] at ar;have az:=ae.grown cl (λk e=>by cases e;exact du);clear cl ag ae;generalize d.acc.getD k Ε=bx at *;cases bx
  ·go_wp2_with (fail);go_roundw
   case rel=>exact⟨k+1,by omega,by go_num,az,ar⟩
   simp[intOf];omega
  go_wp2_with (fail);go_roundw
  case rel=>exact⟨k+1,by omega,by go_num,az,ar⟩
  simp[intOf];omega
 obtain rfl:k=d.n.length:=by omega
 rw[KA _ _ HV.o.accL] at ag;have a1:=ae.heap cd.o;have k8:=(Τ wr B4 258 _ _ _ a1).trans (Hq _ _ _ _);have f8:=Â wr B4 258 _ _ a1;have cm:=Ca wr B4 (Ak (Ah d).cell (Ah d).cells (U G H T) (U (I ⟨E,0,J⟩) d.n.length d.n.length));have dv:wr.setCell ⟨B4,258,J⟩ (U (I ⟨E,0,J⟩) d.n.length d.n.length)=wr.setRow B4 (Ak (Ah d).cell (Ah d).cells (U G H T) (U (I ⟨E,0,J⟩) d.n.length d.n.length)):=by rw[ϧ wr _ _ _ _ _ _ a1,Ok]
 have en:B4<E:=by omega
 have ar:=ag.kept cm (.inr (λe=>by have:E=B4:=ϓ e;omega));have bq:=Φ wr B4 _ (Ak (Ah d).cell (Ah d).cells (U G H T) (U (I ⟨E,0,J⟩) d.n.length d.n.length)) _ _ a1;have az:=((b5.t aq).trans ae);have cp:=az.setRow (by omega) (Ak (Ah d).cell (Ah d).cells (U G H T) (U (I ⟨E,0,J⟩) d.n.length d.n.length));have br:IsT (wr.setRow B4 (Ak (Ah d).cell (Ah d).cells (U G H T) (U (I ⟨E,0,J⟩) d.n.length d.n.length))) (Ak (Ah d).cell (Ah d).cells (U G H T) (U (I ⟨E,0,J⟩) d.n.length d.n.length)) (Hw (Ah d)):=by
  refine⟨_,_,rfl,?_,OwnB.bools (base:=E) (l:=d.acc.map (!·)) (by show ϣ _ _ _ _ _ _ _;rw[ι,HV.o.accL];exact ar) (by rw[ι,HV.o.accL];omega)⟩
  exact dq.o.ext ((aq.t ae).setRow dr _)
 have X:=Z (Bk (ae.heap X.o) (show w.heap.size+1≠B4 by omega) (Ak (Ah d).cell (Ah d).cells (U G H T) (U (I ⟨E,0,J⟩) d.n.length d.n.length)));clear a1 ag ar aq az cm;go_upto_region 11 with (fail)
 clear k8 f8 dv;obtain⟨w6,bt⟩:=Xq (wr.setRow B4 (Ak (Ah d).cell (Ah d).cells (U G H T) (U (I ⟨E,0,J⟩) d.n.length d.n.length)));rw[bt] at br bq cp X;rw[bt];clear bt;have cq:=Z bq;have hiB:(Ι.info? 84).map (·.size)=I (Ak (Ah d).cell (Ah d).cells (U G H T) (U (I ⟨E,0,J⟩) d.n.length d.n.length)).size:=by rw[Es];exact Ce
 have hC:=Z (Ly (Hw (Ah d)) (V5 (Bt HV.o)) (show d.n.length<=65536 by omega) _ w6 br);clear bq br;obtain⟨A6,cu⟩:=Xq (Ak (Ah d).cell (Ah d).cells (U G H T) (U (I ⟨E,0,J⟩) d.n.length d.n.length));rw[cu] at cq hiB hC;clear cu;go_wp2_with (first
  | (refine Lr 84 (ε 4) cq.o ϭ hiB ?_)
  | (go_at_call 39;(with_reducible refine hC.o.mono ?_);rintro e w7 ⟨v,r,rfl,hr,cw,cy,cz⟩;have HR:=Z hr;have c3:=Z cw;have HH:=Z cy;clear cw cy;obtain⟨c4,c5,c6,c7,c8,c9,da,db,rfl⟩:=hr.agg;clear hr;have ea:=cp.t cz;have X:=Z (cz.heap X.o))
  | (refine Sr 40 (ε 2) (ε 35) rfl X.o Ae rfl (Aw _ _ _ rfl rfl rfl) ?_))
 refine ω (v:=ϙ #[.agg (dA (U c4 c5 c6) (U c7 r.n.length c8) (U c9 da db)),.int Χ 0]) (Bi rfl _ _ _ _ _ _ _ rfl _ rfl (Φ w7 _ _ (dA (U c4 c5 c6) (U c7 r.n.length c8) (U c9 da db)) 40 (0,0) X.o) Ρ rfl Ae) rfl ?_;exact⟨r,⟨_,rfl,HR.o.setRow c3.o.val X.o _⟩,c3.o,λu=>by rw[HH.o,V6 (Bt HV.o),Ec],ea.setRow (by omega) _⟩
open Go.RowKit Go.Shelf Go.WideMaps
open Go.Maps (Keyed)
structure Sta where
 p:Nat
 q:Nat
 s:Nat
deriving DecidableEq
def stL (x:Sta):List Δ:=[iv x.p,iv x.q,.int γ (x.s:Int)]
def stA (x:Sta):Array Δ:=#[iv x.p,iv x.q,.int γ (x.s:Int)]
def stV (x:Sta):Δ:=.agg (stA x)
theorem Tx (x y:Sta) (h:stV x=stV y):x=y:=by
 cases x;cases y
 simp[stV,stA] at h;simp;omega
def Sta.ok (x:Sta):Prop:=x.p<9223372036854775808/\x.q<9223372036854775808/\x.s<18446744073709551616
theorem CR (i:Nat) (hi:i<18446744073709551616):(Lit.int γ (i:Int)).wf=Α:=by have E:ϩ.min=0:=rfl;have G:ϩ.max=18446744073709551615:=rfl;simp[Lit.wf,IntKind.wrap,IntKind.signed,IntKind.bits,E,G];omega
theorem M8:Keyed Ι 103:=Keyed.of_law (deep_law_laid M9 (m:=3) (by omega) (of_decide_eq_true (by kernel_rfl)) (by kernel_rfl) (by rw[È]))
theorem O1:∃ m,Ι.types.size=m+3:=⟨Ι.types.size-3,by have:3<=Ι.types.size:=of_decide_eq_true (by kernel_rfl);omega⟩
theorem NV:Ι.keyType 103=Α:=by kernel_rfl
theorem Zh:Ι.cellsOf 103=3:=by kernel_rfl
theorem Zi:Ι.cellsOf 101=1:=by kernel_rfl
theorem co3:Ι.cellsOf 3=1:=by kernel_rfl
theorem Ze:Ι.cellsOf 89=1:=by kernel_rfl
theorem kl3 (d i:Nat) (h:i<9223372036854775808):Ι.keyLits (d+1) 3 [iv i]=I [.int Χ i]:=by unfold Ö.keyLits;simp only[Tryz.underlying3];rw[if_pos ⟨trivial,Mb _ h⟩]
theorem Xn (d i:Nat) (h:i<18446744073709551616):Ι.keyLits (d+1) 89 [.int γ (i:Int)]=I [.int γ i]:=by unfold Ö.keyLits;simp only[Tryz.underlying89];rw[if_pos ⟨trivial,CR _ h⟩]
theorem NW (d i:Nat) (h:i<18446744073709551616):Ι.keyLits (d+2) 101 [.int γ (i:Int)]=I [.int γ i]:=by show Ö.keyLits Ι ((d+1)+1) 101 _=_;unfold Ö.keyLits;simp only[Tryz.underlying101];rw[if_pos (by rw[Zi];rfl),show π 1=[0] from rfl,List.mapM_cons,List.mapM_nil,Ze];simp only[Nat.zero_mul,À,î,List.take_zero];rw[Xn _ _ h];rfl
theorem Tw (x:Sta) (h:x.ok):∃ l,keyOf Ι 103 (stV x)=I l:=by
 obtain⟨h1,E,G⟩:=h;obtain⟨m,hm⟩:=O1;refine⟨.string (keyBytes [.int Χ x.p,.int Χ x.q,.int γ x.s]),?_⟩;unfold keyOf;simp only[È];rw[if_pos (by simp[NV,Δ.formed,stV,stA,È,Zh]),hm];have e:(stV x).cells.toList=[iv x.p,iv x.q,.int γ (x.s:Int)]:=rfl;rw[e];have:Ι.keyLits (m+3+1) 103 [iv x.p,iv x.q,.int γ (x.s:Int)]=I [.int Χ x.p,.int Χ x.q,.int γ x.s]:=by show Ö.keyLits Ι ((m+3)+1) 103 _=_;unfold Ö.keyLits;simp only[È];rw[if_pos (by rw[Zh];exact⟨rfl,by kernel_rfl⟩)];rw[List.mapM_cons,List.mapM_cons,List.mapM_cons,List.mapM_nil];simp only[co3,Zi,À,List.drop_succ_cons,î,List.take_zero];rw[show m+3=(m+2)+1 by omega,kl3 _ _ h1,kl3 _ _ E,show m+2+1=(m+1)+2 by omega,NW _ _ G];rfl
 rw[this];rfl
theorem D7:(Ι.info? 103).map (·.size)=I 3:=by kernel_rfl
theorem OS:(Ι.info? 103).map (λi=>(i.zero,i.size,i.bytes))=I (I (.agg #[.int Χ 0,.int Χ 0,.int γ 0]),3,24):=by kernel_rfl
theorem Tz (x:Sta):(stA x).all (·.oneCell')=Α:=by simp[stA,ξ]
def flS (l:List Sta):List Δ:=l.flatMap stL
theorem QL (l m:List Sta):flS (l++m)=flS l++flS m:=by simp[flS]
theorem QJ (x:Sta):flS [x]=stL x:=by simp[flS]
theorem QK (l:List Sta) (k:Nat) (x:Sta) (h:l[k]? = I x):(flS l)[k*3]? = I (iv x.p)/\(flS l)[k*3+1]? = I (iv x.q)/\(flS l)[k*3+2]? = I (.int γ (x.s:Int)):=by
 induction l generalizing k with
 | nil=>simp at h
 | cons y l G=>
  have e:flS (y::l)=stL y++flS l:=rfl;cases k with
  | zero=>
   have:y=x:=by simpa using h
   subst this;rw[e];exact⟨rfl,rfl,rfl⟩
  | succ k=>
   have H:l[k]? = I x:=by simpa using h
   obtain⟨h1,T,X⟩:=G k H;have E:(stL y).length=3:=rfl;rw[e];refine⟨?_,?_,?_⟩
   ·rw[χ (by rw[E];omega),E,show (k+1)*3-3=k*3 by omega];exact h1
   ·rw[χ (by rw[E];omega),E,show (k+1)*3+1-3=k*3+1 by omega];exact T
   rw[χ (by rw[E];omega),E,show (k+1)*3+2-3=k*3+2 by omega];exact X
abbrev L7 (W:Γ) (base:Nat) (v:Δ) (l:List Sta):Prop:=W.ownsRow base 103 3 v l.length (flS l)
theorem Kl {W:Γ} {base g E:Nat} {l:List Sta} (h:L7 W base (U (I ⟨g,0,J⟩) l.length E) l) (k:Nat) (x:Sta) (hx:l[k]? = I x) :
  W.cell? ⟨g,k*3,J⟩=I (iv x.p)/\W.cell? ⟨g,k*3+1,J⟩=I (iv x.q)/\W.cell? ⟨g,k*3+2,J⟩=I (.int γ (x.s:Int)):=by
 have T:k<l.length:=(ν.1 hx).1;obtain⟨h1,G,H⟩:=QK l k x hx;rw[h.cellAt _ (by omega),h.cellAt _ (by omega),h.cellAt _ (by omega)];exact⟨h1,G,H⟩
theorem S2 {κ:Type} {W:Γ} {k:ϫ} {key:κ->Δ} {b n:Nat} {f:κ->Option Nat} {ops:Array Ϭ} {rest:List Ϭ} {o:Ϭ} {a:ë} {Q:Exit->ë->Γ->Prop} [DecidableEq κ] (hg:o.guard=J) (m x v:á) (t:ϫ) (T:o.op=Op.insert t m x v) (K:Keyed Ι k) (X:Ι.underlying t=I (.map k 3)) (hm:a.eval m=.map (I b)) (h:IsMp W k key b n f) (hn:n<ϐ)
  (ab:∀ y z,key y=key z->y=z) (y:κ) (hx:a.eval x=key y) (E:∃ l,keyOf Ι k (key y)=I l) (i:Nat) (hv:a.eval v=iv i) (hi:i<9223372036854775808)
  (hK:∀ W',IsMp W' k key b (n+1) (λz=>if z=y then I i else f z)->W.grownBy W' (I b)->wpList Ι ops Q rest (a.put o.dst δ) W'):wpList Ι ops Q (o::rest) a W:=by
 obtain⟨D,h1,h2⟩:=h;obtain⟨l,E⟩:=E;refine wpList_plain hg λK' af=>?_
 obtain⟨W',ag,r1,r2⟩:=h1.update K X hn E (plainElem_int Tryz.underlying3 (Mb i hi));unfold Ϭ.wp;simp[ö,T,hm,hx,hv,ag,Result.andThen];refine af _ _ (hK W' ⟨_,r1,λz lz G=>?_⟩ r2);by_cases e:z=y
 ·subst e;rw[E] at G;cases G
  simp only[if_true];exact⟨Maps.has_put_same h1.isMap (K.key E) _,Maps.atKey_put_same h1.isMap (K.key E) _ _⟩
 have H:lz≠l:=λe'=>e (ab _ _ (K.inj G (e'▸E)))
 simp only[e,if_false];rw[Maps.has_put_other H,Maps.atKey_put_other H];exact h2 z lz G
theorem UU (c:Nat->Nat) (n:Nat):Ι.built 84 [(0,.agg (B0 c)),(1,iv n)]=I (Ak c n (U J 0 0) (U J 0 0)):=by kernel_rfl
theorem US:Ι.built 84 []=I Ψ:=by kernel_rfl
theorem Th (c:Nat->Nat) (n:Nat) (G E v:Δ):(Ak c n G E).setIfInBounds 257 v=Ak c n v E:=by
 apply Array.ext';rw[Array.toList_setIfInBounds];unfold Ak;simp only;apply Ϩ;intro i;unfold En;rw[Ó];by_cases hi:i<256
 ·have:257≠i:=by omega
  rw[if_neg this,ϊ (by simpa using hi),ϊ (by simpa using hi)]
 by_cases e:257=i
 ·subst e;simp[χ]
 rw[if_neg e,χ (by simp;omega),χ (by simp;omega)];obtain⟨j,rfl⟩:∃ j,i=256+j:=⟨i-256,by omega⟩;have H:j≠1:=by omega
 simp only[ι,List.length_range,Nat.add_sub_cancel_left]
 match j,H with
 | 0,_=>rfl
 | 2,_=>rfl
 | j+3,_=>rfl
def Ob (w:Γ) (g:Nat) (E:Array Δ) (nx:Sta->Nat->Sta) (Good:Sta->Prop):Prop:=
 ∀ W,Ext w W->∀ x,Good x->∀ b,b<256->Ϟ Ι g (#[.agg #[iv x.p,iv x.q,.int γ (x.s:Int)],iv b]++E) W λe w'=>e=Ω (stV (nx x b))/\Ext W w'
def N9 (w:Γ) (g:Nat) (E:Array Δ) (ac:Sta->Bool) (Good:Sta->Prop):Prop:=
 ∀ W,Ext w W->∀ x,Good x->Ϟ Ι g (#[.agg #[iv x.p,iv x.q,.int γ (x.s:Int)]]++E) W λe w'=>e=Ω (.bool (ac x))/\Ext W w'
theorem PU {nx:Sta->Nat->Sta} {st:Sta} {Good:Sta->Prop} (h0:Good st) (E:∀ x,Good x->∀ b,b<256->Good (nx x b)) (w:List UInt8):Good (Ap nx st w):=by
 induction w using Gv with
 | h0=>exact h0
 | h1 w x G=>rw[E1];exact E _ G _ x.toNat_lt
theorem Q5 (c:Nat->Nat) (bs:List Nat) (kd:0<bs.length) (mh:bs.length<=256) (hb:∀ k,k<bs.length->bs.getD k 0<256) (st:Sta) (nx:Sta->Nat->Sta) (ac:Sta->Bool) (Good:Sta->Prop) (gv:∀ x,Good x->x.ok) (h0:Good st) (gw:∀ x,Good x->∀ b,b<256->Good (nx x b))
  (a8:Nat) (mi:0<a8) (mj:a8<=1073741824) (gn ga:Nat) (gx gz:Array Δ) (en:∀ args w,(callFunc gn args).run Ι w=.ok (.enter gn args) w) (ea:∀ args w,(callFunc ga args).run Ι w=.ok (.enter ga args) w)
  (vb:Δ) (w:Γ) (hiB:Ints w vb bs) (hN:Ob w gn gx nx Good) (hA:N9 w ga gz ac Good) :
  Ϟ Ι 46 #[.agg (B0 c),vb,.agg #[iv st.p,iv st.q,.int γ (st.s:Int)],.func (.func gn) #[] gx,.func (.func ga) #[] gz,.int Χ (a8:Int)] w λe w'=>Ext w w'/\
   ((∃ A l t,e=Ω (ϙ #[.agg A,.bool Α])/\IsT w' A t/\Expl c bs st nx ac l t/\l.length<=a8/\(∀ g cs,g<w.heap.size->IsT (w'.setRow g cs) A t)/\∀ W,Near w' W->IsT W A t)\/(Cr nx st a8/\e=Ω (ϙ #[.agg Ψ,.bool Ε]))):=by
 obtain⟨bB,oB,cB,rfl,hl⟩:=Ü hiB kd;obtain⟨i0,hi,kf,kg,kh⟩:=ϑ Ds;obtain⟨i4,kj,kk,kl,km⟩:=ϑ Fc;obtain⟨i6,ko,kq,kr,ks⟩:=ϑ (show (Ι.info? 54).map (λi=>(i.zero,i.size,i.bytes))=I (I (U J 0 0),1,24) by kernel_rfl);obtain⟨i7,ku,kv,kx,ky⟩:=ϑ OS;have cj:=(((Κ w).alloc (Β (B0 c) 82)).alloc (Β #[iv st.p,iv st.q,.int γ (st.s:Int)] 103)).alloc (Β Ψ 84);have H6:=Ag (Ag (Ad w (Β (B0 c) 82)) (Β #[iv st.p,iv st.q,.int γ (st.s:Int)] 103)) (Β Ψ 84);have H8:=Ag (ύ w (Β (B0 c) 82) (Β #[iv st.p,iv st.q,.int γ (st.s:Int)] 103)) (Β Ψ 84);have dc:=Ad ((w.alloc (Β (B0 c) 82)).alloc (Β #[iv st.p,iv st.q,.int γ (st.s:Int)] 103)) (Β Ψ 84);rw[Ο,Ο] at dc;have kz:=Z (λ(W:Γ) (hW:Ext w W) k (hk:k<bs.length)=>hW.cell (hl k (by omega)));have HN:=Z hN;have HA:=Z hA;have hn:(Ι.info? 82).map (·.size)=I (B0 c).size:=by rw[Ez];exact Le
 have e1:=Z (UU c bs.length);clear hiB hl hN hA;obtain⟨T0,cw⟩:=Xq (Ak c bs.length (U J 0 0) (U J 0 0));rw[cw] at e1;have hp:Ψ.size=T0.size:=by rw[<-cw,C8,Es]
 have hq:(Ι.info? 84).map (·.size)=I T0.size:=by rw[<-cw,Es];exact Ce
 have hr:T0.all (·.oneCell')=Α:=by rw[<-cw];exact Hm c bs.length (U J 0 0) (U J 0 0) rfl rfl
 have k7:=Z cw;clear cw;obtain⟨A0,e2⟩:=Xq (B0 c);rw[e2] at cj H6 H8 dc hn e1;rw[e2];clear e2;go_enter Tryz.func46,Tryz.ntmps46;go_upto_region 1 with (fail)
 obtain⟨w1,dz⟩:=Xq (((w.alloc (Β A0 82)).alloc (Β #[iv st.p,iv st.q,.int γ (st.s:Int)] 103)).alloc (Β Ψ 84));have mu:w.heap.size+1+1<w1.heap.size:=by rw[<-dz,Ο,Ο,Ο];omega
 rw[dz] at cj H6 H8 dc;simp only[dz];clear dz;have la:=Z H6;have ht:=Z H8;have hy:=Z dc;clear H6 H8 dc;have lb:=@run_makeMap Ι;go_upto_region 2 with (first
  | (refine Lr 82 (ε 6) la.o Tryz.underlying82 hn ?_)
  | (refine Bj rfl 84 _ rfl T0 ?_ ?_;(simp[ß];with_reducible exact e1.o))
  | (refine Sr 84 (ε 14) (ε 27) rfl (Ad w1 (Β Ψ 84)) hq hp hr ?_))
 have e3:=((Κ w1).alloc (Β Ψ 84)).setRow (Υ _) T0;have eb:=Φ (w1.alloc (Β Ψ 84)) w1.heap.size _ T0 _ _ (Ad w1 _);have ec:((w1.alloc (Β Ψ 84)).setRow w1.heap.size T0).heap.size=w1.heap.size+1:=by rw[ì,Ο]
 obtain⟨wa,e5⟩:=Xq ((w1.alloc (Β Ψ 84)).setRow w1.heap.size T0);rw[e5] at e3 eb ec;simp only[e5];clear e5 hp hq hr;rw[<-k7.o] at eb;have ed:=Ig wa 103 stV;have ee:=e3.alloc (.map #[] 0);have ef:=Ag eb (.map #[] 0);have e6:(wa.alloc (.map #[] 0)).heap.size=w1.heap.size+1+1:=by rw[Ο,ec]
 rw[ec] at ed;have e7:=Z (ee.heap ht.o);have lf:=Tw st (gv st h0);obtain⟨wb,h2⟩:=Xq (wa.alloc (.map #[] 0));rw[h2] at ed ee ef e6 e7;go_upto_region 3 with (first
  | (refine Lr 103 (ε 8) e7.o È D7 ?_)
  | (refine S2 rfl _ _ _ 159 rfl M8 Tryz.underlying159 rfl ed (by unfold ϐ;omega) Tx st rfl lf 0 rfl (by omega) ?_;intro wc h3 eg))
 clear lb h2 ed e3 eb e7 ec;have e8:=ee.grown eg (λk e=>by cases e;omega);have h4:=(eg.block w1.heap.size (Al ef) (by simp)).trans ef;have h5:w1.heap.size+1+1<=wc.heap.size:=μ (Ñ e6.symm) eg.size;have h6:=Z (e8.heap ht.o);clear e6 eg ee ef;go_upto_region 4 with (refine Lr 103 (ε 8) h6.o È D7 ?_)
 have e9:=e8.alloc (Β #[iv st.p,iv st.q,.int γ (st.s:Int)] 103);have fa:=Ag h4 (Β #[iv st.p,iv st.q,.int γ (st.s:Int)] 103);have fb:=h3.alloc (Β #[iv st.p,iv st.q,.int γ (st.s:Int)] 103);have fc:L7 (wc.alloc (Β #[iv st.p,iv st.q,.int γ (st.s:Int)] 103)) (w1.heap.size+1+1) (U (I ⟨wc.heap.size,0,J⟩) 1 1) [st]:=Ê (base:=w1.heap.size+1+1) (e:=103) (size:=3) wc #[iv st.p,iv st.q,.int γ (st.s:Int)] 1 h5 (by unfold ϐ;omega) rfl;have fe:w1.heap.size+1+1<=(wc.alloc (Β #[iv st.p,iv st.q,.int γ (st.s:Int)] 103)).heap.size:=by rw[Ο];omega
 obtain⟨ff,fg⟩:=Xq (wc.alloc (Β #[iv st.p,iv st.q,.int γ (st.s:Int)] 103));rw[fg] at e9 fa fb fc fe;simp only[fg];clear fg;clear h3 e8 h4 h5 h6;have h7:=ϰ ff (w1.heap.size+1+1) 54 1;have h8:=ϰ ff (w1.heap.size+1+1) 4 1;have ia:RowsO ff (w1.heap.size+1+1) [] [] (λ_=>False):=⟨rfl,λj hj=>by simp at hj⟩;have ib:=Z fa;generalize wc.heap.size=lg at *;clear fa;go_wp2_with (fail);go_loopw [16,17] (λvo vi W=>∃ (i:Nat) (l:List Sta) (f:Sta->Option Nat) (N':List (List Nat)) (E:List Bool) (vs:List Δ) (go co:Nat) (vnx ag:Δ),i<=l.length/\l.length<=a8/\vi=.int Χ i/\vo=U (I ⟨go,0,J⟩) l.length co/\Ext w1 W/\w1.heap.size+1+1<=W.heap.size/\IsMp W 103 stV (w1.heap.size+1) l.length f/\L7 W (w1.heap.size+1+1) vo l/\ϟ (W.heap[w1.heap.size]? = I (Β (Ak c bs.length vnx ag) 84 (0,0)))/\W.ownsRow (w1.heap.size+1+1) 54 1 vnx vs.length vs/\OwnB W (w1.heap.size+1+1) ag E/\RowsO W (w1.heap.size+1+1) vs N' (λ_=>False)/\ϟ (EInv bs st nx i 0 l f N' (ζ bs.length 0)/\E.length=i/\∀ j s,j<i->l[j]? = I s->E.getD j Ε=ac s))
  (λ_ vi _=>a8-(intOf vi).toNat)
 case atStart=>exact⟨0,[st],_,[],[],[],lg,1,_,_,by omega,by simp;omega,rfl,rfl,e9,fe,fb,fc,ib,h7,h8,ia,Z ⟨Y3 bs st nx _ (by simp),rfl,λj s hj=>by omega⟩⟩
 clear e9 fe fb fc ib h7 h8 ia;obtain⟨i,l,f,N',E,vs,go,co,vnx,ag,mw,ic,rfl,rfl,hE,de,ca,hL,HD,ab,bd,hV,H⟩:=hrel;by_cases ie:i<l.length
 ·obtain⟨wo,lh⟩:∃ W,W=wr:=⟨_,rfl⟩;subst lh;obtain⟨s,fh⟩:∃ s,l[i]? = I s:=⟨l[i],by simp[ie]⟩;have lj:=Z fh;have ig:Good s:=by obtain⟨u,hu⟩:=H.o.1.reach s (List.mem_of_getElem? fh);rw[<-hu];exact PU h0 gw u
  have fj:=Z ig;clear fh ig;go_upto_region 8 with (at_make;refine Ϛ _ rfl _ _ 54 rfl (w1.heap.size+1+1) 3 i0 (.int Χ 0) 1 ϝ hi kf kg Χ Χ _ _ bs.length rfl rfl rfl rfl (by rw[kh];omega) (by unfold ϐ;omega) (by omega) ?_;intro w5 ih bp)
  have ij:=hE.grown bp (λk e=>by cases e);have fk:w5.ownsRow (w1.heap.size+1+1) 3 1 (U (I ⟨wo.heap.size,0,J⟩) bs.length bs.length) bs.length ((ζ bs.length 0).map iv):=by rw[<-B7];exact ih
  have ik:=ca.kept bp (by simp);have il:=Bz hL bp;have im:=Z ((bp.block w1.heap.size (Al HD.o) (by simp)).trans HD.o);have ir:=Bz ab bp;have iu:=Bz bd bp;have iw:=(hV.av (av':=λo=>o=I wo.heap.size) (λv l X cy e=>by have:=(X.lt _ e).2;omega)).kept bp (λv l X cy=>by cases v.ownBlock<;>simp)
  have ix:=μ de bp.size;have my:=(fk.lt wo.heap.size rfl).1;generalize wo.heap.size=gr at *;clear ih bp ca hL HD ab bd hV hE de;go_wp2_with (fail);go_loopw [16,44] (λvo vi W=>∃ (k:Nat) (T:List Sta) (f2:Sta->Option Nat) (r:List Nat) (cl ei:Nat),k<=bs.length/\T.length<=a8/\vi=.int Χ k/\vo=U (I ⟨cl,0,J⟩) T.length ei/\Ext w1 W/\w1.heap.size+1+1<=W.heap.size/\IsMp W 103 stV (w1.heap.size+1) T.length f2/\L7 W (w1.heap.size+1+1) vo T/\W.ownsRow (w1.heap.size+1+1) 3 1 (U (I ⟨gr,0,J⟩) bs.length bs.length) bs.length (r.map iv)/\ϟ (W.heap[w1.heap.size]? = I (Β (Ak c bs.length vnx ag) 84 (0,0)))/\W.ownsRow (w1.heap.size+1+1) 54 1 vnx vs.length vs/\OwnB W (w1.heap.size+1+1) ag E/\RowsO W (w1.heap.size+1+1) vs N' (λo=>o=I gr)/\ϟ (EInv bs st nx i k T f2 N' r/\i<T.length/\∀ j,j<=i->T[j]? = l[j]?))
   (λ_ vi _=>bs.length-(intOf vi).toNat)
  case atStart=>exact⟨0,l,f,_,go,co,by omega,ic,rfl,rfl,ij,ix,ik,il,fk,im,ir,iu,iw,Z ⟨H.o.1,ie,λ_ _=>rfl⟩⟩
  clear ij ix ik il fk im ir iu iw;obtain⟨k,T,f2,r,cl,ei,hk,iy,rfl,rfl,hE,de,ca,hL,hQ,HD,ab,bd,hV,HJ⟩:=hrel;have dh:=Z HJ.o.1.lenr;have mz:=HJ.o.2.1;have bq:ϟ (T[i]? = I s):=Z (by rw[HJ.o.2.2 i (Υ _)];exact lj.o);obtain⟨w5,ll⟩:∃ W,W=wr:=⟨_,rfl⟩;subst ll;by_cases cz:k<bs.length
  ·have cb:=kz.o w5 (cj.t hE) k cz;have ej:=hb k cz;obtain⟨b,fl⟩:=Xq (bs.getD k 0);rw[fl] at cb ej;have ja:=Z fl;clear fl;obtain⟨s0,s1,s2⟩:=Kl hL i s bq.o;obtain⟨y,ek⟩:=Xq (nx s b);have fm:=Z (HN.o w5 (cj.t hE) s fj.o b ej);rw[ek] at fm;have eo:Good y:=by rw[<-ek];exact gw s fj.o b ej
   have fo:=Tw y (gv y eo);have ep:ϟ (nx s (bs.getD k 0)=y):=Z (by rw[ja.o];exact ek);clear ek;go_upto_region 12 with (first
    | ((with_reducible refine fm.o.mono ?_);rintro e w6 ⟨rfl,jb⟩)
    | (refine wpList_store_row rfl 103 (ε 21) (ε 55) rfl _ #[iv y.p,iv y.q,.int γ (y.s:Int)] rfl rfl _ _ (Ad w6 (Β #[.int Χ 0,.int Χ 0,.int γ 0] 103)) D7 rfl (Tz y) ?_))
   have ar:=jb.t (((Κ w6).alloc (Β #[.int Χ 0,.int Χ 0,.int γ 0] 103)).setRow (Υ _) #[iv y.p,iv y.q,.int γ (y.s:Int)]);have fp:=Φ (w6.alloc (Β #[.int Χ 0,.int Χ 0,.int γ 0] 103)) w6.heap.size _ #[iv y.p,iv y.q,.int γ (y.s:Int)] _ _ (Ad w6 _);obtain⟨w7,fs⟩:=Xq ((w6.alloc (Β #[.int Χ 0,.int Χ 0,.int γ 0] 103)).setRow w6.heap.size #[iv y.p,iv y.q,.int γ (y.s:Int)]);rw[fs] at ar fp;simp only[fs];clear fs jb fm cb s0 s1 s2;have c3:=Z fp;clear fp;generalize w6.heap.size=gy at *;have bk:=Aa hL ar;have ai:=Aa hQ ar;have au:=Aa ab ar;have bl:=Aa bd ar;have cm:=hV.kept (ar.grownBy J) (λv l _ _=>by cases v.ownBlock<;>simp);have bb:=Z (ar.heap HD.o);have aw:=ca.ext ar;have bm:=hE.t ar;have cn:=μ de ar.size;clear hL hQ ab bd hV HD ca hE ar de;cases hf:f2 y with
   | some v=>
    have fu:=Z (Rc HJ.o.1 cz bq.o v (by rw[ep.o];exact hf));have cq:=Aq 0 ai dh.o.symm k (by rw[dh.o];exact cz);have fq:=ai.frozenAt k;obtain⟨br,G⟩:=Ba ai k v;have bt:=bm.grown G (λk e=>by cases e;omega);have aj:=bk.kept G (Aj bk ai (by decide));have bu:=au.kept G (Aj au ai (by decide));have bw:=bl.kept G (Aj bl ai (by decide));have cd:=cm.kept G (λv l X cy=>.inr (λe=>cy e));have bz:=Z ((G.block w1.heap.size (Al bb.o) (λe=>by have:=ϓ e;omega)).trans bb.o);have b0:=aw.kept G (λe=>by have:=ϓ e;omega);have cp:=μ cn G.size;clear G bk ai au bl cm bb bm cn;go_wp2_with (first
     | (refine Lr 103 (ε 21) c3.o È D7 ?_)
     | (at_lookup;refine Dx rfl _ _ 159 rfl M8 Tryz.underlying159 rfl aw y rfl fo ?_;rw[hf];dsimp only [æ,Option.getD]))
    go_roundw
    case rel=>exact⟨k+1,T,f2,r.set k v,cl,ei,by omega,iy,by go_num,rfl,bt,cp,b0,aj,br,bz,bu,bw,cd,Z ⟨fu.o,HJ.o.2⟩⟩
    simp[intOf];omega
   | none=>
    go_upto_region 15 with (first
     | (refine Lr 103 (ε 21) c3.o È D7 ?_)
     | (at_lookup;refine Dx rfl _ _ 159 rfl M8 Tryz.underlying159 rfl aw y rfl fo ?_;rw[hf];dsimp only [æ,Option.getD]))
    by_cases fv:T.length=a8
    ·have lp:((T.length:Int)==(a8:Int))=Α:=by simp[fv]
     have lq:=Z US;have dm:=Z (bm.heap hy.o);have fw:Cr nx st a8:=by
      refine⟨T++[y],?_,λx hx=>?_,by rw[Ν,fv];simp⟩
      ·rw[List.nodup_append];refine⟨HJ.o.1.nodup,by simp,λx hx z hz=>?_⟩;have hz:z=y:=by simpa using hz
       subst hz;rintro rfl;obtain⟨v,hv⟩:=List.getElem?_of_mem hx;have:=(HJ.o.1.num x v).2 hv;rw[hf] at this;cases this
      rcases List.mem_append.1 hx with hx|hx
      ·exact HJ.o.1.reach x hx
      have hx:x=y:=by simpa using hx
      subst hx;obtain⟨u,hu⟩:=HJ.o.1.reach s (List.mem_of_getElem? bq.o);refine⟨u++[UInt8.ofNat b],?_⟩;rw[E1,hu,u8n b ej,<-ja.o];exact ep.o
     have fw:=Z fw;have zo:Ψ.all (·.oneCell')=Α:=by kernel_rfl
     clear fv;go_wp2_with (first
      | (refine Bj rfl 84 _ rfl Ψ ?_ ?_;(simp;with_reducible exact lq.o))
      | (refine Sr 84 (ε 12) (ε 69) rfl dm.o (by rw[C8];exact Ce) rfl zo ?_))
     refine ω (v:=ϙ #[.agg Ψ,.bool Ε]) (Bi rfl _ _ _ _ _ _ _ rfl _ rfl (Φ w7 _ _ Ψ 84 (0,0) dm.o) ϭ rfl (by rw[C8];exact Ce)) rfl ?_;exact⟨(cj.t bm).setRow (by omega) _,.inr ⟨fw.o,rfl⟩⟩
    have lp:((T.length:Int)==(a8:Int))=Ε:=by simp;omega
    have fy:=Rd HJ.o.1 cz hb bq.o (by rw[ep.o];exact hf);rw[ep.o] at fy;have fu:=Z fy;clear fy;go_upto_region 18 with (first
     | (refine Lr 103 (ε 21) c3.o È D7 ?_)
     | (at_mapUpdate;refine Gr rfl _ _ _ 159 rfl M8 Tryz.underlying159 rfl aw (by unfold ϐ;omega) Tx y rfl fo T.length rfl (by omega) ?_;intro w8 b0 G))
    have aj:=bk.kept G (aw.far bk);have br:=ai.kept G (aw.far ai);have bu:=au.kept G (aw.far au);have bw:=bl.kept G (aw.far bl);have cd:=cm.kept G (λv l X cy=>aw.far X);have bz:=Z ((G.block w1.heap.size (Al bb.o) (by simp)).trans bb.o);have bt:=bm.grown G (λk e=>by cases e;omega);have cp:=μ cn G.size;have eo:gy<w7.heap.size:=Al c3.o;have jc:gy≠w1.heap.size+1:=λe=>by obtain⟨_,⟨es,na,lv,_⟩,_⟩:=aw;have:=c3.o;rw[e,lv] at this;cases this
    have jd:=Z ((G.block gy eo (λe=>jc (ϓ e))).trans c3.o);clear G bk ai au bl cm bb bm cn aw jc eo;go_upto_region 19 with (first
     | (refine Lr 103 (ε 21) jd.o È D7 ?_)
     | (at_builtin;refine ϕ _ rfl _ _ 160 rfl (w1.heap.size+1+1) 103 i7 (.agg #[.int Χ 0,.int Χ 0,.int γ 0]) 3 24 Tryz.underlying160 ku kv kx ky rfl (by decide) _ _ _ rfl (aj.alloc _) _ 1 1 (stL y) rfl rfl (Γ.news_of_block (Ad w8 _)) (by simp[stL,ξ]) (by decide) (by unfold ϐ;omega) (by omega) (by simp;omega) _ rfl ?_;intro g9 c9 w9 cf b4 _ _))
    have ae:=(bt.alloc (Β #[iv y.p,iv y.q,.int γ (y.s:Int)] 103)).grown b4 (λk e=>by have:=(aj.lt k e).1;omega);have bf:=(br.alloc (Β #[iv y.p,iv y.q,.int γ (y.s:Int)] 103)).kept b4 (Aj br aj (by decide));have ct:=(bu.alloc (Β #[iv y.p,iv y.q,.int γ (y.s:Int)] 103)).kept b4 (Aj bu aj (by decide));have cu:=(bw.alloc (Β #[iv y.p,iv y.q,.int γ (y.s:Int)] 103)).kept b4 (Aj bw aj (by decide));have c4:=(cd.alloc (Β #[iv y.p,iv y.q,.int γ (y.s:Int)] 103)).kept b4 (λv l X _=>Aj X (aj.alloc (Β #[iv y.p,iv y.q,.int γ (y.s:Int)] 103)) (by decide));have b5:=Z ((b4.block w1.heap.size (Ξ (Al bz.o) (by rw[Ο];omega)) (λe=>by have:=(aj.lt _ e.symm).1;omega)).trans (Ag bz.o _));have c5:=(b0.alloc (Β #[iv y.p,iv y.q,.int γ (y.s:Int)] 103)).kept b4 (b0.ne_row aj);have c6:w1.heap.size+1+1<=w9.heap.size:=by have:=b4.size;rw[Ο] at this;omega
    have fz:ϟ (L7 w9 (w1.heap.size+1+1) (U (I ⟨g9,0,J⟩) (T++[y]).length c9) (T++[y])):=Z (by show ϣ _ _ _ _ _ _ _;rw[Ν,QL,QJ];exact cf)
    clear b4 aj br bu bw cd bz bt cp b0 cf jd;have cq:=Aq 0 bf dh.o.symm k (by rw[dh.o];exact cz);have fq:=bf.frozenAt k;obtain⟨dn,b6⟩:=Ba bf k T.length;have et:=ae.grown b6 (λk e=>by cases e;omega);have lx:=Z (fz.o.kept b6 (Aj fz.o bf (by decide)));have dp:=ct.kept b6 (Aj ct bf (by decide));have bg:=cu.kept b6 (Aj cu bf (by decide));have eu:=c4.kept b6 (λv l X cy=>.inr (λe=>cy e));have c8:=Z ((b6.block w1.heap.size (Al b5.o) (λe=>by have:=ϓ e;omega)).trans b5.o);have dq:=c5.kept b6 (λe=>by have:=ϓ e;omega);have gb:=μ c6 b6.size;clear b6 fz bf ct cu c4 b5 ae c6 c5;go_wp2_with (fail);go_roundw
    case rel=>
     refine⟨k+1,T++[y],_,r.set k T.length,g9,c9,by omega,by rw[Ν];simp;omega,by go_num,?_,et,gb,?_,?_,dn,c8,dp,bg,eu,Z ⟨fu.o,?_,λj hj=>?_⟩⟩
     ·rw[Ν];rfl
     ·rw[Ν];exact dq
     ·have h9:ϣ _ _ _ _ _ _ _:=lx.o;show ϣ _ _ _ _ _ _ _;rw[show (T++[y]).length=T.length+1 by simp] at h9 ⊢;exact h9
     ·rw[Ν];have:=HJ.o.2.1;omega
     rw[ϊ (by have:=HJ.o.2.1;omega)];exact HJ.o.2.2 j hj
    case measure=>simp[intOf];omega
  obtain rfl:k=bs.length:=by omega
  have c1:=(Τ w5 w1.heap.size 257 _ _ _ HD.o).trans (Kf _ _ _ _);have nb:vs.length<=1073741824:=by rw[hV.1,HJ.o.1.lenN];omega
  go_upto_region 22 with (at_builtin;refine ϕ _ rfl _ _ 37 rfl (w1.heap.size+1+1) 54 i6 (U J 0 0) 1 24 Tryz.underlying37 ko kq kr ks rfl (by decide) vnx vs.length vs rfl (ab.alloc _) _ 1 1 [U (I ⟨gr,0,J⟩) bs.length bs.length] rfl rfl (Õ _ _ _) (by simp[ξ]) (by decide) (by unfold ϐ;omega) (by omega) (by simp;omega) _ rfl ?_;intro g7 c7 w7 au b7 _ _;have bb:ϟ (w7.heap[w1.heap.size]? = _):=Z ((b7.block w1.heap.size (Ξ (Al HD.o) (by rw[Ο];omega)) (λe=>by have:=(ab.lt _ e.symm).1;omega)).trans (Ag HD.o _));have ly:=(Τ w7 w1.heap.size 257 _ _ _ bb.o).trans (Kf _ _ _ _);have f17:=Â w7 w1.heap.size 257 _ _ bb.o)
  clear c1 ly f17;have aw:=(ca.alloc (Β #[U (I ⟨gr,0,J⟩) bs.length bs.length] 54)).kept b7 (ca.ne_row ab);have bk:=(hL.alloc (Β #[U (I ⟨gr,0,J⟩) bs.length bs.length] 54)).kept b7 (Aj hL ab (by decide));have ai:=(hQ.alloc (Β #[U (I ⟨gr,0,J⟩) bs.length bs.length] 54)).kept b7 (Aj hQ ab (by decide));have bl:=(bd.alloc (Β #[U (I ⟨gr,0,J⟩) bs.length bs.length] 54)).kept b7 (Aj bd ab (by decide));have cm:=(hV.alloc (Β #[U (I ⟨gr,0,J⟩) bs.length bs.length] 54)).kept b7 (λv l X _=>Aj X (ab.alloc (Β #[U (I ⟨gr,0,J⟩) bs.length bs.length] 54)) (by decide));have ar:=(hE.alloc (Β #[U (I ⟨gr,0,J⟩) bs.length bs.length] 54)).grown b7 (λk e=>by have:=(ab.lt k e).1;omega);have cn:w1.heap.size+1+1<=w7.heap.size:=by have:=b7.size;rw[Ο] at this;omega
  clear b7 ca hL hQ bd hV hE ab HD;have au:w7.ownsRow (w1.heap.size+1+1) 54 1 (U (I ⟨g7,0,J⟩) (vs.length+1) c7) (vs++[ό (I ⟨gr,0,J⟩) bs.length bs.length]).length (vs++[ό (I ⟨gr,0,J⟩) bs.length bs.length]):=by rw[Ν];exact au
  obtain⟨row,gd⟩:=Xq (ό (I ⟨gr,0,J⟩) bs.length bs.length);have nc:row.ownBlock=I gr:=by rw[<-gd];rfl
  rw[gd] at au ai;clear gd;obtain⟨af,jj⟩:=Xq (ό (I ⟨g7,0,J⟩) (vs.length+1) c7);rw[jj] at au;have G:=Ca w7 w1.heap.size (Ak c bs.length af ag);have dr:w7.setCell ⟨w1.heap.size,257,J⟩ af=w7.setRow w1.heap.size (Ak c bs.length af ag):=by rw[ϧ w7 _ _ _ _ _ _ bb.o,Th]
  have bm:=ar.setRow (Υ _) (Ak c bs.length af ag);have b0:=aw.kept G (by simp);have aj:=bk.kept G (Az bk (by omega));have br:=ai.kept G (Az ai (by omega));have bu:=au.kept G (Az au (by omega));have bw:=bl.kept G (Az bl (by omega));have cd:=cm.kept G (λv l X _=>Az X (by omega));have bz:=Z (Φ w7 w1.heap.size _ (Ak c bs.length af ag) _ _ bb.o);have cp:w1.heap.size+1+1<=(w7.setRow w1.heap.size (Ak c bs.length af ag)).heap.size:=by rw[ì];exact cn
  rw[jj,dr];clear G aw bk ai au bl cm ar cn bb dr;obtain⟨w8,gf⟩:=Xq (w7.setRow w1.heap.size (Ak c bs.length af ag));rw[gf] at b0 aj br bu bw cd bz bm cp;rw[gf];clear gf;have c5:=b0.ext (Κ w8).drew;have cf:=Aa aj (Κ w8).drew;have bf:=Aa br (Κ w8).drew;have ct:=Aa bu (Κ w8).drew;have cu:=Aa bw (Κ w8).drew;have c4:=cd.kept ((Κ w8).drew.grownBy J) (λv l _ _=>by cases v.ownBlock<;>simp);have b5:ϟ (w8.drew.heap[w1.heap.size]? = I (Β (Ak c bs.length af ag) 84 (0,0))):=Z bz.o;have bt:=bm.drew;have c6:w1.heap.size+1+1<=w8.drew.heap.size:=cp;obtain⟨s0,s1,s2⟩:=Kl cf i s bq.o;have c2:∀ W:Γ,W.heap[w1.heap.size]? = I (Β (Ak c bs.length af ag) 84 (0,0))->W.cell? ⟨w1.heap.size,258,J⟩=I ag:=λW hW=>(Τ W w1.heap.size 258 _ _ _ hW).trans (Hq _ _ _ _)
  have nd:E.length<=1073741824:=by rw[H.o.2.1];omega
  have l3:=Z (λ(W:Γ) (hW:Ext w W)=>HA.o W hW s fj.o);refine Bq 11 [(0,Α),(1,Α),(2,Α),(3,Α),(4,Α),(5,Α),(6,Α),(7,Ε),(8,Ε),(9,Ε),(10,Α),(11,Ε)] (by kernel_rfl) (by kernel_rfl) (λ_ _ _ _ h=>h)
   (λW=>W.heap[w1.heap.size]? = I (Β (Ak c bs.length af ag) 84 (0,0))/\W.cell? ⟨cl,i*3,J⟩=I (iv s.p)/\W.cell? ⟨cl,i*3+1,J⟩=I (iv s.q)/\W.cell? ⟨cl,i*3+2,J⟩=I (.int γ (s.s:Int))) ⟨b5.o,s0,s1,s2⟩ ?_
  obtain⟨w9,gg⟩:=Xq (w8.drew);rw[gg] at c5 cf bf ct cu c4 b5 bt c6 s0 s1 s2;rw[gg];clear gg b0 aj br bu bw cd bz bm cp;clear s0 s1 s2;iterate 7
   refine Gt (v:=?_) rfl rfl (λW hW=>?_) ?_
   rotate_left
   ·obtain⟨jk,t0,t1,t2⟩:=hW;have k2:=c2 W jk;clear jk;go_simp;first|done|with_reducible rfl
   simp only[θ,Η,Μ,Λ]
  refine Dz rfl (λK hK=>?_);go_simp
  (with_reducible refine (l3.o w9 (cj.t bt)).mono ?_)
  rintro e gi ⟨rfl,ae⟩;obtain⟨s0,s1,s2⟩:=Kl cf i s bq.o;refine hK _ _ (λ_=>⟨ae.heap b5.o,ae.cell s0,ae.cell s1,ae.cell s2⟩) ?_;clear hK K s0 s1 s2;have dq:=c5.ext ae;have ev:=Aa cf ae;have dn:=Aa bf ae;have dp:=Aa ct ae;have bg:=Aa cu ae;have eu:=c4.kept (ae.grownBy J) (λv l _ _=>by cases v.ownBlock<;>simp);have c8:=Z (ae.heap b5.o);have et:=bt.t ae;have gb:=μ c6 ae.size;clear c5 cf bf ct cu c4 b5 bt c6 ae;obtain⟨s0,s1,s2⟩:=Kl ev i s bq.o;have l4:ϟ (∀ j x,j<i+1->T[j]? = I x->(E++[ac s]).getD j Ε=ac x):=Z λj x hj hx=>by
   rw[Nh,H.o.2.1];by_cases jm:j<i
   ·rw[if_pos jm];rw[HJ.o.2.2 j (by omega)] at hx;exact H.o.2.2 j x jm hx
   obtain rfl:j=i:=by omega
   rw[if_neg (by omega),if_pos rfl];rw[bq.o] at hx;injection hx with hx
   rw[hx]
  generalize ac s=bx at *;refine Dz rfl (λK hK=>?_);go_simp;refine hK _ _ (λ_=>⟨Ag c8.o _,((Κ gi).alloc _).cell s0,((Κ gi).alloc _).cell s1,((Κ gi).alloc _).cell s2⟩) ?_;clear hK K s0 s1 s2;refine Dz rfl (λK hK=>?_);refine step_append_lies _ rfl _ _ 38 rfl (w1.heap.size+1+1) 4 i4 (.bool Ε) 1 1 Ý kj kk kl km rfl (by decide) ag E.length (E.map ψ) rfl (bg.alloc _) _ 1 1 [.bool bx] rfl rfl (Õ _ _ _) (by simp[ξ]) (by decide) (by unfold ϐ;omega) (by omega) (by simp;omega) _ rfl ?_;intro jn jo bh da b8 _ _;have jq:=(et.alloc (Β #[.bool bx] 4)).grown b8 (λk e=>by have:=(bg.lt k e).1;omega);have db:=Z ((b8.block w1.heap.size (Ξ (Al c8.o) (by rw[Ο];omega)) (λe=>by have:=(bg.lt _ e.symm).1;omega)).trans (Ag c8.o _));have jr:=(dq.alloc (Β #[.bool bx] 4)).kept b8 (dq.ne_row bg);have ew:=(ev.alloc (Β #[.bool bx] 4)).kept b8 (Aj ev bg (by decide));have gj:=(dn.alloc (Β #[.bool bx] 4)).kept b8 (Aj dn bg (by decide));have gk:=(dp.alloc (Β #[.bool bx] 4)).kept b8 (Aj dp bg (by decide));have js:=(eu.alloc (Β #[.bool bx] 4)).kept b8 (λv l X _=>Aj X (bg.alloc (Β #[.bool bx] 4)) (by decide));have jt:w1.heap.size+1+1<=bh.heap.size:=by have:=b8.size;rw[Ο] at this;omega
  have da:OwnB bh (w1.heap.size+1+1) (U (I ⟨jn,0,J⟩) (E.length+1) jo) (E++[bx]):=by show ϣ _ _ _ _ _ _ _;rw[Ν,ϥ];exact da
  clear b8 dq ev dn dp bg eu c8 et gb;obtain⟨s0,s1,s2⟩:=Kl ew i s bq.o;refine hK _ _ (λ_=>⟨db.o,s0,s1,s2⟩) ?_;clear hK K s0 s1 s2;refine Gt (v:=?_) rfl rfl (λW hW=>?_) ?_
  rotate_left
  ·clear hW;go_simp;first|done|with_reducible rfl
  simp only[θ,Η,Μ,Λ];have k2:=c2 bh db.o;have l5:=Â bh w1.heap.size 258 _ _ db.o;refine Dz rfl (λK hK=>?_);go_simp;refine hK _ _ (λh=>absurd h (by omega)) ?_;clear hK K k2 l5 c2;refine Bn ?_;obtain⟨cg,ju⟩:=Xq (ό (I ⟨jn,0,J⟩) (E.length+1) jo);rw[ju] at da;have cv:=Ca bh w1.heap.size (Ak c bs.length af cg);have dr:bh.setCell ⟨w1.heap.size,258,J⟩ cg=bh.setRow w1.heap.size (Ak c bs.length af cg):=by rw[ϧ bh _ _ _ _ _ _ db.o,Ok]
  have jv:=jq.setRow (Υ _) (Ak c bs.length af cg);have jw:=jr.kept cv (by simp);have jx:=ew.kept cv (Az ew (by omega));have gl:=gj.kept cv (Az gj (by omega));have jy:=gk.kept cv (Az gk (by omega));have jz:=da.kept cv (Az da (by omega));have gm:=js.kept cv (λv l X _=>Az X (by omega));have j0:=Z (Φ bh w1.heap.size _ (Ak c bs.length af cg) _ _ db.o);have j1:w1.heap.size+1+1<=(bh.setRow w1.heap.size (Ak c bs.length af cg)).heap.size:=by rw[ì];exact jt
  rw[ju,dr];clear cv jr ew gj gk da js jq jt db dr;obtain⟨l6,gp⟩:=Xq (bh.setRow w1.heap.size (Ak c bs.length af cg));rw[gp] at jw jx gl jy jz gm j0 jv j1;rw[gp];clear gp;have j2:OwnI l6 (w1.heap.size+1+1) row r:=by show ϣ _ _ _ _ _ _ _;rw[dh.o];exact gl
  have l7:=(gm.av (av':=λ_=>False) (λv l _ _ e=>e)).snoc j2 (λe=>e);have l8:=Z (Y4 HJ.o.1 HJ.o.2.1 (ζ bs.length 0) (by simp));have l9:ϟ ((E++[bx]).length=i+1):=Z (by rw[Ν,H.o.2.1];rfl);clear gl gm j2;go_wp2;go_roundw
  case rel=>exact⟨i+1,T,f2,N'++[r],E++[bx],vs++[row],cl,ei,af,cg,by omega,iy,by go_num,rfl,jv,j1,jw,jx,j0,jy,jz,l7,Z ⟨l8.o,l9.o,l4.o⟩⟩
  simp[intOf];omega
 obtain rfl:i=l.length:=by omega
 have ma:=Z (Y5 (c:=c) (ac:=ac) H.o.1 rfl H.o.2.1 (λj s hs=>H.o.2.2 j s (ν.1 hs).1 hs));have dm:=Z (hE.heap hy.o);have mc:=hV.rows ab (by rw[H.o.1.lenN];omega) (λj hj=>by rw[H.o.1.rows j (by rw[<-H.o.1.lenN];exact hj)];omega);obtain⟨an,a1,rfl⟩:=Mx ab;obtain⟨aa,a7,rfl⟩:=Mx bd;have ey:(Ι.info? 84).map (·.size)=I (Ak c bs.length (U an vs.length a1) (U aa E.length a7)).size:=by rw[Es];exact Ce
 have j4:Ψ.size=(Ak c bs.length (U an vs.length a1) (U aa E.length a7)).size:=by rw[Es,C8]
 have j5:=Hm c bs.length (U an vs.length a1) (U aa E.length a7) rfl rfl;have ez:=Ca wr (w.heap.size+1+1) (Ak c bs.length (U an vs.length a1) (U aa E.length a7));have dt:=ab.kept ez (Az ab (by omega));have du:=bd.kept ez (Az bd (by omega));have e0:=hV.kept ez (λv l X _=>Az X (by omega));have j6:=(cj.t hE).setRow (show w.heap.size<=w.heap.size+1+1 by omega) (Ak c bs.length (U an vs.length a1) (U aa E.length a7));have j7:IsT (wr.setRow (w.heap.size+1+1) (Ak c bs.length (U an vs.length a1) (U aa E.length a7))) (Ak c bs.length (U an vs.length a1) (U aa E.length a7)) ⟨c,bs.length,N',E⟩:=
  ⟨_,_,rfl,e0.rows dt (by rw[H.o.1.lenN];omega) (λj hj=>by rw[H.o.1.rows j (by rw[<-H.o.1.lenN];exact hj)];omega),OwnB.bools (l:=E) du (by rw[H.o.2.1];omega)⟩
 have j8:∀ g cs,g<w.heap.size->IsT ((wr.setRow (w.heap.size+1+1) (Ak c bs.length (U an vs.length a1) (U aa E.length a7))).setRow g cs) (Ak c bs.length (U an vs.length a1) (U aa E.length a7)) ⟨c,bs.length,N',E⟩:=λg cs hg=>by have gq:=Ca (wr.setRow (w.heap.size+1+1) (Ak c bs.length (U an vs.length a1) (U aa E.length a7))) g cs;have me:=dt.kept gq (Az dt (by omega));have mf:=du.kept gq (Az du (by omega));have mg:=e0.kept gq (λv l X _=>Az X (by omega));exact⟨_,_,rfl,mg.rows me (by rw[H.o.1.lenN];omega) (λj hj=>by rw[H.o.1.rows j (by rw[<-H.o.1.lenN];exact hj)];omega),OwnB.bools (l:=E) mf (by rw[H.o.2.1];omega)⟩
 have j9:=Z j8;have ka:∀ W,Near (wr.setRow (w.heap.size+1+1) (Ak c bs.length (U an vs.length a1) (U aa E.length a7))) W->IsT W (Ak c bs.length (U an vs.length a1) (U aa E.length a7)) ⟨c,bs.length,N',E⟩:=λW hW=>⟨_,_,rfl,(hW.rows e0).rows (hW.owns dt (by decide)) (by rw[H.o.1.lenN];omega) (λj hj=>by rw[H.o.1.rows j (by rw[<-H.o.1.lenN];exact hj)];omega),OwnB.bools (l:=E) (hW.owns du (by decide)) (by rw[H.o.2.1];omega)⟩
 have kb:=Z ka;clear ez dt du e0 mc j8 ka;obtain⟨TT,kc⟩:=Xq (Ak c bs.length (U an vs.length a1) (U aa E.length a7));rw[kc] at HD ey j4 j5 j6 j7 j9 kb;clear kc;go_wp2_with (first
  | (refine Lr 84 (ε 14) HD.o ϭ ey ?_)
  | (refine Sr 84 (ε 12) (ε 99) rfl dm.o ey j4 j5 ?_))
 refine ω (v:=ϙ #[.agg TT,.bool Α]) (Bi rfl _ _ _ _ _ _ _ rfl _ rfl (Φ wr _ _ TT 84 (0,0) dm.o) ϭ rfl ey) rfl ?_;exact⟨j6,.inl ⟨TT,l,_,rfl,j7,ma.o,ic,j9.o,kb.o⟩⟩
theorem Ai {P:Ö} {ops:Array Ϭ} {Q:Exit->ë->Γ->Prop} {C:Γ->Prop} {n i:Nat} {is:List (Nat × Bool)} {o:Ϭ} {v:Δ} {a:ë} {w:Γ} (h0:ops.toList[i]? = I o) (E:Ϡ o (ð ops a.tmps)=Α) (G:∀ W,C W->(ö a.eval o).run P W=.ok (.value v) W)
  (h:Db P ops Q C n is (a.put o.dst v) w):Db P ops Q C n ((i,Α)::is) a w:=Gt (by rw[<-Ϲ];exact h0) E G h
theorem Ao {P:Ö} {ops:Array Ϭ} {Q:Exit->ë->Γ->Prop} {C:Γ->Prop} {n i:Nat} {is:List (Nat × Bool)} {o:Ϭ} {a:ë} {w:Γ} (h0:ops.toList[i]? = I o)
  (h:∀ K:ë->Γ->Prop,(∀ E w',(i<n->C w')->Db P ops Q C n is E w'->K E w')->if Ϡ o (ð ops a.tmps)=Α then Ϭ.wp P o a w K Q else K (a.put o.dst δ) w):Db P ops Q C n ((i,Ε)::is) a w:=Dz (by rw[<-Ϲ];exact h0) h
theorem Gi {P:Ö} {o:Ϭ} {a:ë} (t:ϫ) (parts:Array (Nat × á)) (E:o.op=.build t parts) {A:Array Δ} (hb:P.built t (parts.map λ(i,x)=>(i,a.eval x)).toList=I A) (w:Γ):(ö a.eval o).run P w=.ok (.value (.agg A)) w:=by unfold ö;simp only[E,Sem.run_bind,run_build w t _ A hb,Result.andThen_ok];rfl
theorem Hu {P:Ö} {ops:Array Ϭ} {o:Ϭ} {a:ë} {w:Γ} {K:ë->Γ->Prop} {Q:Exit->ë->Γ->Prop} {E:Prop} (ty:ϫ) (x y:á) (H:o.op=.store ty x y) (T:o.guard=J)
  (g:Nat) (cells:Array Δ) (hx:a.eval x=η (I ⟨g,0,J⟩)) (X:a.eval y=.agg cells) (t:ϫ) (G:Array Δ) (hg:w.heap[g]? = I (Β G t (0,0))) (hi:(P.info? ty).map (·.size)=I cells.size)
  (aa:G.size=cells.size) (h1:cells.all (·.oneCell')=Α) (h:K (a.put o.dst δ) (w.setRow g cells)):if Ϡ o (ð ops a.tmps)=Α then Ϭ.wp P o a w K Q else E:=by
 have hw:Ϡ o (ð ops a.tmps)=Α:=by simp[Ϡ,T]
 rw[if_pos hw];exact wp_store_row ty x y H g cells hx X t G hg hi aa h1 h
theorem UQ (p q:Int):Ι.built 103 [(0,.int Χ p),(1,.int Χ q)]=I #[.int Χ p,.int Χ q,.int γ 0]:=by kernel_rfl
def pNx (x y:Tbl) (s:Sta) (b:Nat):Sta:=⟨x.stp s.p b,y.stp s.q b,0⟩
def pAc (x y:Tbl) (g:Bool->Bool->Bool) (s:Sta):Bool:=g (x.ok s.p) (y.ok s.q)
def Pl (x y:Tbl) (s:Sta):Prop:=s.p<x.n.length/\s.q<y.n.length/\s.s=0
theorem IF (x y:Tbl) (hx:TVal x) (hy:TVal y) (A B:Array Δ) (H T:Nat) (w:Γ) (hA:IsT w A x) (hB:IsT w B y) (aa:w.heap[H]? = I (Β A 84 (0,0))) (ab:w.heap[T]? = I (Β B 84 (0,0))) :
  Ob w 91 #[η (I ⟨H,0,J⟩),η (I ⟨T,0,J⟩)] (pNx x y) (Pl x y):=by
 intro W hW s hs b hb;obtain⟨hp,hq,-⟩:=hs;obtain⟨bn,on,cn,_,_,_,_,_,a8,_,ba,_,bb,_⟩:=(hA.ext hW).opened hx;obtain⟨bd,be,b4,_,_,_,_,_,bf,_,bg,_,bh,_⟩:=(hB.ext hW).opened hy;have aa:=hW.heap aa;have ab:=hW.heap ab;have a7:=(Τ W H 257 _ _ _ aa).trans ba;have ac:=(Τ W H b _ _ _ aa).trans (a8 b hb);have b7:=(Τ W T 257 _ _ _ ab).trans bg;have bc:=(Τ W T b _ _ _ ab).trans (bf b hb);obtain⟨br,or',cr,ak,bk⟩:=bb s.p hp;obtain⟨bl,bm,b5,an,bo⟩:=bh s.q hq;have ad:=bk _ (hx.cell_lt b hb);have ae:=bo _ (hy.cell_lt b hb);have cf:=hx.cell_lt b hb;have cg:=hy.cell_lt b hb;have bp:x.ent2 s.p (x.cell b)=x.stp s.p b:=rfl;have bq:y.ent2 s.q (y.cell b)=y.stp s.q b:=rfl;rw[bp] at ad;rw[bq] at ae;show Ϟ _ _ _ _ λe w'=>e=Ω (.agg #[iv (x.stp s.p b),iv (y.stp s.q b),.int γ ((0:Nat):Int)])/\Ext W w'
 have G:=((Κ W).alloc (Β #[iv s.p,iv s.q,.int γ (s.s:Int)] 103)).alloc (Β #[.int Χ 0,.int Χ 0,.int γ 0] 103);have H4:=Ag (Ad W (Β #[iv s.p,iv s.q,.int γ (s.s:Int)] 103)) (Β #[.int Χ 0,.int Χ 0,.int γ 0] 103);have H6:=ύ W (Β #[iv s.p,iv s.q,.int γ (s.s:Int)] 103) (Β #[.int Χ 0,.int Χ 0,.int γ 0] 103);clear hA hB hx hy a8 bf ba bg bb bh bp bq bk bo aa ab;generalize x.stp s.p b=X at *;generalize y.stp s.q b=q2 at *;generalize x.cell b=cx at *;generalize y.cell b=cy at *;have cj:(b:Int)<256:=by omega
 generalize x.cells=mx at *;generalize y.cells=my at *;generalize x.n.length=nx at *;generalize y.n.length=ny at *;go_enter Tryz.func91,Tryz.ntmps91;go_upto_region 1 with (fail)
 obtain⟨w1,ar⟩:=Xq ((W.alloc (Β #[iv s.p,iv s.q,.int γ (s.s:Int)] 103)).alloc (Β #[.int Χ 0,.int Χ 0,.int γ 0] 103));rw[ar] at G H4 H6;simp only[ar];clear ar;have a7:=G.cell a7;have ac:=G.cell ac;have b7:=G.cell b7;have bc:=G.cell bc;have ak:=G.cell ak;have ad:=G.cell ad;have an:=G.cell an;have ae:=G.cell ae;have c0:=(Τ w1 W.heap.size 0 _ _ _ H4).trans (show (#[iv s.p,iv s.q,.int γ (s.s:Int)]:Array Δ)[0]? = I (iv s.p) from rfl);have c1:=(Τ w1 W.heap.size 1 _ _ _ H4).trans (show (#[iv s.p,iv s.q,.int γ (s.s:Int)]:Array Δ)[1]? = I (iv s.q) from rfl);have b9:∀ V,Ext w1 V->V.cell? ⟨H,257,J⟩=I (U (I ⟨bn,on,J⟩) nx cn)/\V.cell? ⟨H,b,J⟩=I (iv cx)/\V.cell? ⟨T,257,J⟩=I (U (I ⟨bd,be,J⟩) ny b4)/\V.cell? ⟨T,b,J⟩=I (iv cy)/\V.cell? ⟨bn,on+s.p,J⟩=I (U (I ⟨br,or',J⟩) mx cr)/\V.cell? ⟨br,or'+cx,J⟩=I (iv X)/\V.cell? ⟨bd,be+s.q,J⟩=I (U (I ⟨bl,bm,J⟩) my b5)/\V.cell? ⟨bl,bm+cy,J⟩=I (iv q2)/\V.cell? ⟨W.heap.size,0,J⟩=I (iv s.p)/\V.cell? ⟨W.heap.size,1,J⟩=I (iv s.q):=
  λV E=>⟨E.cell a7,E.cell ac,E.cell b7,E.cell bc,E.cell ak,E.cell ad,E.cell an,E.cell ae,E.cell c0,E.cell c1⟩
 clear a7 ac b7 bc ak ad an ae c0 c1;have ca:=Z (UQ (X:Int) (q2:Int));refine Bq 25 [(0,Α),(1,Α),(2,Α),(3,Α),(4,Α),(5,Α),(6,Α),(7,Α),(8,Α),(9,Α),(10,Α),(11,Α),(12,Α),(13,Α),(14,Α),(15,Α),(16,Α),(17,Α),(18,Α),(19,Α),(20,Α),(21,Α),(22,Α),(23,Α),(24,Α),(25,Ε)] (by kernel_rfl) (by kernel_rfl) (λ_ _ _ _ h=>h)
  (λV=>Ext w1 V) (Κ w1).drew ?_
 have au:=(Κ w1).drew;have aw:=au.heap H6;obtain⟨w2,ax⟩:=Xq (w1.drew);rw[ax] at au aw;rw[ax];clear ax H4 H6;iterate 24
  refine Ai (v:=?_) rfl rfl (λV E=>?_) ?_
  rotate_left
  ·obtain⟨k0,k1,k2,k3,k4,k5,k6,k7,k8,k9⟩:=b9 V E;clear E;go_simp;first|done|with_reducible rfl
  simp only[θ,Η,Μ,Λ]
 refine Ai (v:=.agg #[iv X,iv q2,.int γ 0]) rfl rfl (λV _=>?_) ?_
 ·exact Gi 103 _ rfl (by simpa [ß] using ca.o) V
 simp only[θ,Η,Μ,Λ];refine Ao rfl (λK hK=>?_);refine Hu 103 (ε 6) (ε 31) rfl rfl _ _ rfl rfl _ _ aw D7 rfl (by simp[ξ]) ?_;refine hK _ _ (λh=>absurd h (by omega)) ?_;clear hK K;refine Bn ?_;have cc:=(G.t au).setRow (show W.heap.size<=W.heap.size+1 by omega) #[iv X,iv q2,.int γ 0];have H7:=Φ w2 _ _ #[iv X,iv q2,.int γ 0] 103 (0,0) aw;go_wp2;refine ω (v:=.agg #[iv X,iv q2,.int γ 0]) (Æ rfl _ _ _ _ _ _ _ rfl H7 È rfl D7) rfl ?_;exact⟨rfl,cc⟩
def It (gh:Nat) (g:Bool->Bool->Bool):Prop:=∀ (W:Γ) (x y:Bool),Ϟ Ι gh #[.bool x,.bool y] W λe w'=>e=Ω (.bool (g x y))/\Ext W w'
theorem GY (x y:Tbl) (hx:TVal x) (hy:TVal y) (A B:Array Δ) (T X g5:Nat) (gh:Nat) (g:Bool->Bool->Bool) (hg:It gh g) (eh:∀ args w,(callFunc gh args).run Ι w=.ok (.enter gh args) w) (w:Γ) (hA:IsT w A x) (hB:IsT w B y)
  (ad:w.heap[T]? = I (Β A 84 (0,0))) (ae:w.heap[X]? = I (Β B 84 (0,0))) (aw:w.heap[g5]? = I (Β #[.func (.func gh) #[] #[]] 88 (0,0))) :
  N9 w 92 #[η (I ⟨g5,0,J⟩),η (I ⟨T,0,J⟩),η (I ⟨X,0,J⟩)] (pAc x y g) (Pl x y):=by
 intro W H s hs;obtain⟨hp,hq,-⟩:=hs;obtain⟨_,_,_,ba,oa,ca,_,_,_,_,_,az,_,a1⟩:=(hA.ext H).opened hx;obtain⟨_,_,_,a6,a7,bl,_,_,_,_,_,bc,_,bd⟩:=(hB.ext H).opened hy;have ad:=H.heap ad;have ae:=H.heap ae;have a8:=(Τ W T 258 _ _ _ ad).trans az;have b8:=(Τ W X 258 _ _ _ ae).trans bc;have f5:=(Τ W g5 0 _ _ _ (H.heap aw)).trans (show (#[.func (.func gh) #[] #[]]:Array Δ)[0]? = I (.func (.func gh) #[] #[]) from rfl);have aa:=a1 s.p hp;have bb:=bd s.q hq;show Ϟ _ _ _ _ λe w'=>e=Ω (.bool (g (x.ok s.p) (y.ok s.q)))/\Ext W w'
 have G:=(Κ W).alloc (Β #[iv s.p,iv s.q,.int γ (s.s:Int)] 103);have H4:=Ad W (Β #[iv s.p,iv s.q,.int γ (s.s:Int)] 103);clear hA hB hx hy az bc a1 bd ad ae aw;generalize x.ok s.p=p2 at *;generalize y.ok s.q=q2 at *;generalize x.n.length=nx at *;generalize y.n.length=ny at *;have HG:=Z (λV x y=>hg V x y);clear hg;go_enter Tryz.func92,Tryz.ntmps92;go_upto_region 1 with (fail)
 obtain⟨w1,ak⟩:=Xq (W.alloc (Β #[iv s.p,iv s.q,.int γ (s.s:Int)] 103));rw[ak] at G H4;simp only[ak];clear ak;have a8:=G.cell a8;have b8:=G.cell b8;have f5:=G.cell f5;have aa:=G.cell aa;have bb:=G.cell bb;have c0:=(Τ w1 W.heap.size 0 _ _ _ H4).trans (show (#[iv s.p,iv s.q,.int γ (s.s:Int)]:Array Δ)[0]? = I (iv s.p) from rfl);have c1:=(Τ w1 W.heap.size 1 _ _ _ H4).trans (show (#[iv s.p,iv s.q,.int γ (s.s:Int)]:Array Δ)[1]? = I (iv s.q) from rfl);have bo:∀ V,Ext w1 V->V.cell? ⟨T,258,J⟩=I (U (I ⟨ba,oa,J⟩) nx ca)/\V.cell? ⟨X,258,J⟩=I (U (I ⟨a6,a7,J⟩) ny bl)/\V.cell? ⟨g5,0,J⟩=I (.func (.func gh) #[] #[])/\V.cell? ⟨ba,oa+s.p,J⟩=I (.bool p2)/\V.cell? ⟨a6,a7+s.q,J⟩=I (.bool q2)/\V.cell? ⟨W.heap.size,0,J⟩=I (iv s.p)/\V.cell? ⟨W.heap.size,1,J⟩=I (iv s.q):=
  λV E=>⟨E.cell a8,E.cell b8,E.cell f5,E.cell aa,E.cell bb,E.cell c0,E.cell c1⟩
 clear a8 b8 f5 aa bb c0 c1;refine Bq 14 [(0,Α),(1,Α),(2,Α),(3,Α),(4,Α),(5,Α),(6,Α),(7,Α),(8,Α),(9,Α),(10,Α),(11,Α),(12,Α),(13,Ε),(14,Ε)] (by kernel_rfl) (by kernel_rfl) (λ_ _ _ _ h=>h)
  (λV=>Ext w1 V) (Κ w1).drew ?_
 have an:=(Κ w1).drew;obtain⟨w2,ao⟩:=Xq (w1.drew);rw[ao] at an;rw[ao];clear ao H4;iterate 13
  refine Ai (v:=?_) rfl rfl (λV E=>?_) ?_
  rotate_left
  ·obtain⟨k0,k1,k2,k3,k4,k5,k6⟩:=bo V E;clear E;go_simp;first|done|with_reducible rfl
  simp only[θ,Η,Μ,Λ]
 refine Ao rfl (λK hK=>?_);go_simp
 (with_reducible refine (HG.o w2 p2 q2).mono ?_)
 rintro e w3 ⟨rfl,bf⟩;refine hK _ _ (λ_=>an.t bf) ?_;clear hK K;refine Ao rfl (λK hK=>?_);go_simp;refine hK _ _ (λh=>absurd h (by omega)) ?_;clear hK K;refine Bn ?_;have bq:=(G.t an).trans bf;go_wp2;go_ret;exact⟨rfl,bq⟩
theorem IY:It 100 (λx y=>x||y):=by
 intro W x y;go_enter Tryz.func100,Tryz.ntmps100;cases x<;>cases y
 all_goals
  go_wp2;go_ret;exact⟨rfl,Κ W⟩
theorem VY:It 37 (λx y=>x&&y):=by
 intro W x y;go_enter Tryz.func37,Tryz.ntmps37;cases x<;>cases y
 all_goals
  go_wp2;go_ret;exact⟨rfl,Κ W⟩
end Go.Proofs.YtilncahcpjlfnaaGreatDoor
