/-
  The row and the tied card of LanguageMatchesReference.
-/
import Derived.Test.YtaiogolidlamiaaGreatDoorCards
import Derived.Test.YtaiogolidlamiaaGreatDoorTie
import Derived.SevenTiedAt
import Derived.Test.YtaiogolidlamiaaGreatDoorM21
import Derived.Test.YtaiogolidlamiaaGreatDoorL3x
set_option linter.unusedVariables false
set_option linter.unusedSimpArgs false
open Bool renaming false → Τ, true → Ξ
open Go.Proofs.Tryz renaming prog → Η
open Option.some renaming inj → ω
namespace Go.Proofs.YtaiogolidlamiaaGreatDoor

open Go.ChangeShapes Go.WideShapes Go.ChangeAt Go.WideMaps Go.WideElems Go.RowKit
set_option maxRecDepth 100000 in
theorem Aif (os:Os) (aj:os.Started) (H:Type) (D:TypeId × Value->H) :
  ReturnsInHanded {} Tryz.checked os 3 .any (λw args=>(Rows.languageMatchesReferenceSpec.pre D Η Tryz.f3 [] Τ w args/\laidMetH Η Kd w)/\sizedMet D Η Tryz.f3 (OpenSpec.ofChange Rows.languageMatchesReferenceSpec) Τ w args)
   (Rows.languageMatchesReferenceSpec.post D Η Tryz.f3 Τ Ξ Τ Τ):=by
 refine returnsInHanded_of_change_and (C:=Tryz.checked) (X:=λw _=>laidMetH Η Kd w) (λ_ _ _ hh h=>h.of_heap hh) Afg aj (by kernel_rfl) Tryz.func3
  (ChangeSpec.witness_shaped (enc:=D) (C:=Tryz.checked) (os:=os) (X:=λw _=>laidMetH Η Kd w) Τ (World.doorLaid Η 400 os) #[.agg (Fv 0 none 0 0 0),.slice none 0 0,.int .i64 0] 8 rfl (World.shaped_of_RefB (by kernel_rfl) (by kernel_rfl)) (by kernel_rfl) (by kernel_rfl) (by kernel_rfl) (Akv os _)) ?_
 intro W base args ds gs bf J M _ _ hL _;have E:∀ (j:Nat) t v,Tryz.f3.params[j]? = some t->args[j]? = some v->Value.okWide Η W .any base t v:=J;have T:=M;obtain⟨p,q,U,hV,rfl,bg,bh⟩:=M;have hA:DataW.TrodAll D Η W 0 (λ_=>Ξ) Ξ Tryz.f3.params.toList args.toList ds p:=U;rw[Tryz.params3] at hA E;obtain⟨v0,bj,d0,bk,p0,q0,bl,rfl,rfl,h0,r0⟩:=trodAll_cons hA;obtain⟨I,bm,d1,bn,p1,q1,rfl,rfl,rfl,h1,r1⟩:=trodAll_cons r0;obtain⟨v2,bo,d2,bp,p2,q2,rfl,rfl,rfl,h2,r2⟩:=trodAll_cons r1;obtain⟨rfl,rfl,rfl⟩:=trodAll_nil r2;obtain rfl:args=#[v0,I,v2]:=by cases args;simp_all
 obtain⟨rfl,rfl⟩:=trodVars_none hV;have k0:=h0;have aw:∀ x∈p0,x.block<W.heap.size:=by obtain⟨m,hm⟩:=k0;exact DataW.trod_lt m _ _ _ hm
 obtain⟨S0,a0,n0,c0,A0,rfl,s0⟩:=Afr (E 0 24 v0 rfl rfl) h0;have k1:=h1;have a6:∀ x∈p1,x.block<W.heap.size:=by obtain⟨m,hm⟩:=k1;exact DataW.trod_lt m _ _ _ hm
 obtain⟨l1,s1⟩:=Afs (E 1 22 I rfl rfl) h1;have k2:=h2;have a8:∀ x∈p2,x.block<W.heap.size:=by obtain⟨m,hm⟩:=k2;exact DataW.trod_lt m _ _ _ hm
 obtain⟨n2,rfl,_,_,_⟩:=open_int Tryz.underlying3 (E 2 3 v2 rfl rfl) h2;obtain⟨hT,bc⟩:=Aa9 hL;clear U J;simp only[List.append_nil] at T;refine (Agz S0 A0 n0 c0 a0 l1 I n2 W hT bc s0 s1).mono λe W' ⟨he,hE⟩=>?_
 subst he;have G:=hE.below;exact⟨_,rfl,_,_,_,[],_,[],T,trodAll_mk1 (shut_bool Tryz.underlying4 _),(trodAll_cons_mk (Below.trod Pm (by kernel_rfl) (of_decide_eq_true (by kernel_rfl)) k0 G aw) (trodAll_cons_mk (Below.trod Pm (by kernel_rfl) (of_decide_eq_true (by kernel_rfl)) k1 G a6) (trodAll_cons_mk (Below.trod Pm (by kernel_rfl) (of_decide_eq_true (by kernel_rfl)) k2 G a8) trodAll_mk0))),rfl,G.frame _,λh=>by cases h⟩
theorem Aig:Rows.LanguageMatchesReferenceSaid:=
 OpenClaim.holds_of_wide 3 Tryz.f3 rfl rfl rfl rfl rfl rfl rfl ⟨rfl,rfl,rfl,rfl,rfl⟩ rfl rfl rfl rfl rfl (by kernel_rfl) Tryz.func3 (by kernel_rfl)
  (of_decide_eq_true (by kernel_rfl)) (by unfold Func.isWrapper;first|(rw[if_pos (by decide +kernel)];kernel_rfl)|(rw[if_neg (by decide +kernel)];exact⟨rfl,rfl⟩))
  (λos D H E _=>Aif os D H E)
theorem languageMatchesReference_card_holds:Rows.LanguageMatchesReferenceCardSaid:=
 Claim7.holds_tied_plain_at .later [] [.data] Ξ (Ξ, "a9f3c784514f067f926e840f5a96c85fb2d64baf465e3d84c2f06422f2855f3c") Τ
  Aig (λ_ h=>by cases h) (by kernel_rfl) (λ_ h=>by cases h) languageMatchesReference_row_tie rfl ⟨rfl,rfl⟩ (by kernel_rfl) rfl
  (λf fn E G=>by
   obtain rfl : f = 3 := ω ((show Η.funcNamed "univocal/univocallaw04.LanguageMatchesReference" = some 3 by kernel_rfl).symm.trans E) |>.symm
   obtain rfl:fn=Tryz.f3:=(ω (Tryz.func3.symm.trans G)).symm;exact⟨by kernel_rfl,λj t D=>by
    rw[Tryz.params3] at D;have hm:t∈[24,22,3]:=by simpa using Array.mem_of_getElem? D
    have H:([24,22,3].all λu=>!Tryz.prog.wantsStandIn u)=Ξ:=by kernel_rfl
    exact (show Η.wantsStandIn t=Τ by simpa using List.all_eq_true.1 H t hm)⟩)
  (by kernel_rfl)
#print axioms languageMatchesReference_card_holds
end Go.Proofs.YtaiogolidlamiaaGreatDoor
