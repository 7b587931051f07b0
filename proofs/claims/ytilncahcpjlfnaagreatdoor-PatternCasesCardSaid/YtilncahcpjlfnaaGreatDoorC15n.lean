/-
  The row and the tied card of PatternCases.
-/
import Derived.Test.YtilncahcpjlfnaaGreatDoorRows
import Derived.ProofKit
import Derived.LaidMore
import Derived.OpenShut
import Derived.Stop.Joined
import Derived.Lib.LaidTab
import Derived.Test.YtilncahcpjlfnaaGreatDoorN07
import Derived.Test.YtilncahcpjlfnaaGreatDoorCards
import Derived.Test.YtilncahcpjlfnaaGreatDoorTie
import Derived.SevenTiedAt
import Derived.Test.YtilncahcpjlfnaaGreatDoorE15n
set_option linter.unusedVariables false
set_option linter.unusedSimpArgs false
set_option maxRecDepth 100000
set_option maxHeartbeats 8000000
open Bool renaming true → Α, false → Ε
open Go renaming Value → Δ, World → Γ, TypeId → ϫ
open Go.Proofs.Tryz renaming prog → Ι, underlying22 → ϡ
open Go.Value renaming slice → U
open List renaming getD_eq_getElem?_getD → Ζ
open Option renaming none → J, some → I
open Option.some renaming inj → ϓ
open UInt8 renaming ofNat → ϔ
namespace Go.Proofs.YtilncahcpjlfnaaGreatDoor
open Go.ChangeShapes Go.WideShapes Go.ChangeAt Go.WideMaps Go.WideElems Go.RowKit
def Ld : List (String × DataW Unit) := [("math/bits.deBruijn64tab", Rows.laid_math_bits_deBruijn64tab)]
theorem IV:ownKnob Ι.godebug=J:=by kernel_rfl
theorem Yh : Ι.globalNamed "math/bits.deBruijn64tab" = I 0 := by kernel_rfl
theorem DR:(Ι.globals[0]?).map (·.type)=I 197:=by kernel_rfl
theorem Xm:laidOutB Ι=Α:=by kernel_rfl
theorem RZ (os:Os) (args:Array Δ):laidMetH Ι Ld ((Γ.doorLaid Ι 400 os).forCall (λ_ _=>0) ⟨#[],args,[]⟩).memory:=
 laidMetH_of_parts3 (fuel:=8) (laidMet_of_run' 8 (by kernel_rfl) (by kernel_rfl)) (by kernel_rfl) (by kernel_rfl)
theorem DQ {W:Γ} (h:laidMetH Ι Ld W):Tab W/\0<W.heap.size:=by
 rw [MakeChecks.laidMetH_plain _ _ _ (by kernel_rfl)] at h;have h1 : Lib.TabIs Ι W "math/bits.deBruijn64tab" .u8 (Lib.deBruijn64tab.map Int.ofNat) :=
  Lib.tabIs_of_head Yh DR Tryz.underlying197 Tryz.underlying5 (by kernel_rfl) (by kernel_rfl) h
 have E:Tab W:=λj G=>by
  rw[h1.cell Yh j (by simpa [Lib.deBruijn64tab] using G)];have H:j<Lib.deBruijn64tab.length:=by simpa [Lib.deBruijn64tab] using G
  simp[Ζ,H]
 exact⟨E,Γ.block_lt_of_cell? W _ (E 0 (by decide))⟩
theorem TY {k:Int} (h:(Lit.int .u8 k).wf=Α):∃ n:Nat,k=n/\n<256:=by simp[Lit.wf,IntKind.min,IntKind.max,IntKind.bits,IntKind.signed] at h;exact⟨k.toNat,by omega,by omega⟩
theorem Z8 {H:Type} {ae:ϫ × Δ->H} {W:Γ} {af:Nat} {x:DataW H × List MemPlace} {a:Option Addr} {len G:Nat} (hf:DataW.trod ae Ι W 0 (λ_=>Α) Α af 22 [U a len G]=I x) :
  ∃ l:List UInt8,l.length=len/\ByW W (U a len G) l:=by
 rcases open_ints ϡ Tryz.underlying5 (by kernel_rfl) hf with⟨E,_⟩|⟨x,l,c,T,E,_,hl,hm,hz,_,ab,ai⟩
 ·simp at E;obtain⟨rfl,rfl,rfl⟩:=E;exact⟨[],rfl,by simp,.inl ⟨rfl,_,_,rfl⟩⟩
 simp at E;obtain⟨rfl,rfl,rfl⟩:=E;have hz:T.length=G:=by simpa using hz
 have X:((T.take len).map λz=>ϔ z.toNat).length=len:=by simp;omega
 refine⟨(T.take len).map λz=>ϔ z.toNat,X,by rw[X];exact Nat.le_trans hl hm,?_⟩;rw[X];by_cases h0:len=0
 ·subst h0;exact .inl ⟨rfl,_,_,rfl⟩
 obtain⟨b,aj,ak⟩:=x;have hc:=ab 0 (by omega);have an:ak=J:=by simpa [Addr.add] using Γ.cell?_spot hc
 subst an;refine .inr ⟨by omega,b,aj,G,rfl,Γ.block_lt_of_cell? W _ hc,λi hi=>?_⟩;have h1:=ab i (by omega);have h2:i<T.length:=by omega
 have hw:=ai _ (List.getElem_mem h2);obtain⟨n,hn,ar⟩:=TY hw;rw[Addr.add_lit] at h1;rw[h1];simp only[Ζ,List.getElem?_map,List.getElem?_take,List.getElem?_eq_getElem h2,Option.getD_some,Option.map_some,if_pos hi,hn,bv,Int.toNat_natCast]
 congr 2
 rw[u8n n ar]
theorem JD {H:Type} {E:ϫ × Δ->H} {W:Γ} {G:Nat} {v:Δ} {d:DataW H} {p:List MemPlace} (T:Δ.okWide Ι W .any G 22 v) (h:DataW.Trod E Ι W 0 (λ_=>Α) Α 22 v d p) :
  ∃ l:List UInt8,ByW W v l:=by
 obtain⟨a,len,ab,rfl⟩:=okWide_slice ϡ T;obtain⟨ad,X⟩:=h;obtain⟨l,_,hl⟩:=Z8 X;exact⟨l,hl⟩
theorem FJ {H:Type} {G:ϫ × Δ->H} {W:Γ} {T:Nat} {cs:List Δ} {x:DataW H × List MemPlace} (X:DataW.trod G Ι W 0 (λ_=>Α) Α T 22 cs=I x):∃ a len aa,cs=[U a len aa]:=by
 rcases open_ints ϡ Tryz.underlying5 (by kernel_rfl) X with⟨E,_⟩|⟨x,l,c,zs,E,_⟩
 ·exact⟨_,_,_,E⟩
 exact⟨_,_,_,E⟩
theorem R5 {H:Type} {G:ϫ × Δ->H} {W:Γ} {T:Nat} {u:Δ} {x:DataW H × List MemPlace} (E:DataW.trod G Ι W 0 (λ_=>Α) Α T 22 [u]=I x):∃ l,ByW W u l:=by
 obtain⟨a,len,X,e⟩:=FJ E;obtain rfl:u=U a len X:=by injection e
 obtain⟨l,_,h⟩:=Z8 E;exact⟨l,h⟩
theorem JE {H:Type} {T:ϫ × Δ->H} {W:Γ} {X:Nat} {v:Δ} {d:DataW H} {p:List MemPlace} (G:Δ.okWide Ι W .any X 62 v) (h:DataW.Trod T Ι W 0 (λ_=>Α) Α 62 v d p) :
  ∃ l,A3V W v l:=by
 obtain⟨cs,rfl,aa⟩:∃ cs,v=.agg cs/\cs.size=3:=by simp only[Δ.okWide,Tryz.underlying62] at G;obtain⟨cs,h1,h2,_⟩:=G;exact⟨cs,h1,by rw[h2];kernel_rfl⟩
 obtain⟨ao,hf⟩:=h;obtain⟨xs,m,_,_,aq,ae,E⟩:=DataW.trod_array Tryz.underlying62 hf;have af:Ι.cellsOf 22=1:=by kernel_rfl
 rw[af] at E;obtain⟨L⟩:=cs
 match L,aa with
 | [u,s,t],_=>
  match xs,ae with
  | [x0,x1,x2],_=>obtain⟨l0,k0⟩:=R5 (x:=x0) (E 0 (by decide));obtain⟨l1,k1⟩:=R5 (x:=x1) (E 1 (by decide));obtain⟨l2,k2⟩:=R5 (x:=x2) (E 2 (by decide));exact⟨[l0,l1,l2],u,s,t,rfl,k0,k1,k2⟩
set_option maxRecDepth 100000 in
theorem II (os:Os) (ai:os.Started) (H:Type) (E:ϫ × Δ->H) :
  ReturnsInHanded {} Tryz.checked os 6 .any (λw args=>(Rows.patternCasesSpec.pre E Ι Tryz.f6 [] Ε w args/\laidMetH Ι Ld w)/\sizedMet E Ι Tryz.f6 (OpenSpec.ofChange Rows.patternCasesSpec) Ε w args)
   (Rows.patternCasesSpec.post E Ι Tryz.f6 Ε Α Ε Ε):=by
 refine returnsInHanded_of_change_and (C:=Tryz.checked) (X:=λw _=>laidMetH Ι Ld w) (λ_ _ _ hh h=>h.of_heap hh) IV ai (by kernel_rfl) Tryz.func6
  (ChangeSpec.witness_shaped (enc:=E) (C:=Tryz.checked) (os:=os) (X:=λw _=>laidMetH Ι Ld w) Ε (Γ.doorLaid Ι 400 os) #[U J 0 0,.agg #[U J 0 0,U J 0 0,U J 0 0]] 8 rfl (Γ.shaped_of_RefB (by kernel_rfl) (by kernel_rfl)) (by kernel_rfl) (by kernel_rfl) (by kernel_rfl) (RZ os _)) ?_
 intro W base args ds gs a7 ab hW _ _ hL _;have G:∀ (j:Nat) t v,Tryz.f6.params[j]? = I t->args[j]? = I v->Δ.okWide Ι W .any base t v:=ab;have ae:=hW;obtain⟨p,q,af,hV,rfl,a8,ba⟩:=hW;have hA:DataW.TrodAll E Ι W 0 (λ_=>Α) Α Tryz.f6.params.toList args.toList ds p:=af;rw[Tryz.params6] at hA G;obtain⟨v0,bb,d0,bc,p0,q0,bd,rfl,rfl,h0,r0⟩:=trodAll_cons hA;obtain⟨T,be,d1,bf,p1,q1,rfl,rfl,rfl,h1,r1⟩:=trodAll_cons r0;obtain⟨rfl,rfl,rfl⟩:=trodAll_nil r1;obtain rfl:args=#[v0,T]:=by cases args;simp_all
 obtain⟨rfl,rfl⟩:=trodVars_none hV;have k0:=h0;have ar:∀ x∈p0,x.block<W.heap.size:=by obtain⟨m,hm⟩:=k0;exact DataW.trod_lt m _ _ _ hm
 obtain⟨l0,s0⟩:=JD (G 0 22 v0 rfl rfl) h0;have k1:=h1;have aw:∀ x∈p1,x.block<W.heap.size:=by obtain⟨m,hm⟩:=k1;exact DataW.trod_lt m _ _ _ hm
 obtain⟨l1,s1⟩:=JE (G 1 62 T rfl rfl) h1;obtain⟨hT,az⟩:=DQ hL;clear af ab;simp only[List.append_nil] at ae;refine (TP l0 v0 l1 T W hT az s0 s1).mono λe W' ⟨he,hE⟩=>?_
 subst he;have aa:=hE.below;exact⟨_,rfl,_,_,_,[],_,[],ae,trodAll_mk1 (shut_bool Tryz.underlying4 _),(trodAll_cons_mk (Below.trod Xm (by kernel_rfl) (of_decide_eq_true (by kernel_rfl)) k0 aa ar) (trodAll_cons_mk (Below.trod Xm (by kernel_rfl) (of_decide_eq_true (by kernel_rfl)) k1 aa aw) trodAll_mk0)),rfl,aa.frame _,λh=>by cases h⟩
theorem IJ:Rows.PatternCasesSaid:=
 OpenClaim.holds_of_wide 6 Tryz.f6 rfl rfl rfl rfl rfl rfl rfl ⟨rfl,rfl,rfl,rfl,rfl⟩ rfl rfl rfl rfl rfl (by as_aux_lemma=>kernel_rfl) Tryz.func6 (by
   unfold joinedFacts;repeat' (with_reducible refine Bool.and_eq_true_iff.2 ⟨?_,?_⟩)
   all_goals (as_aux_lemma=>kernel_rfl))
  (of_decide_eq_true (by kernel_rfl)) (by unfold Func.isWrapper;first|(rw[if_pos (by decide +kernel)];kernel_rfl)|(rw[if_neg (by decide +kernel)];exact⟨rfl,rfl⟩))
  (λos E H G _=>II os E H G)
theorem patternCases_card_holds:Rows.PatternCasesCardSaid:=
 Claim7.holds_tied_plain_at .later [] [.data] Α (Α, "365fd237c2811a4511fd47f3bce851aa4974e8bb9b5e8ae9cfbfdb1c0044d573") Ε
  IJ (λ_ h=>by cases h) (by as_aux_lemma=>kernel_rfl) (λ_ h=>by cases h) patternCases_row_tie rfl ⟨rfl,rfl⟩ (by as_aux_lemma=>kernel_rfl) rfl
  (λf fn G H=>by
   obtain rfl : f = 6 := ϓ ((show Ι.funcNamed "univocal/univocallaw06.PatternCases" = I 6 by as_aux_lemma => kernel_rfl).symm.trans G) |>.symm
   obtain rfl:fn=Tryz.f6:=(ϓ (Tryz.func6.symm.trans H)).symm;exact⟨by as_aux_lemma=>kernel_rfl,λj t E=>by
    rw[Tryz.params6] at E;have hm:t∈[22,62]:=by simpa using Array.mem_of_getElem? E
    have T:([22,62].all λu=>!Tryz.prog.wantsStandIn u)=Α:=by as_aux_lemma=>kernel_rfl
    exact (show Ι.wantsStandIn t=Ε by simpa using List.all_eq_true.1 T t hm)⟩)
  (by as_aux_lemma=>kernel_rfl)
#print axioms patternCases_card_holds
end Go.Proofs.YtilncahcpjlfnaaGreatDoor
