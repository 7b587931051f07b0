/-
  The row and the tied card of LanguageChecksAutomata.
-/
import Derived.Test.YtaiogolidlamiaaGreatDoorCards
import Derived.Test.YtaiogolidlamiaaGreatDoorTie
import Derived.SevenTiedAt
import Derived.Test.YtaiogolidlamiaaGreatDoorN21
import Derived.Test.YtaiogolidlamiaaGreatDoorL4x
set_option linter.unusedVariables false
set_option linter.unusedSimpArgs false
open Bool renaming false → Τ, true → Ξ
open Go.Proofs.Tryz renaming prog → Ζ
open Option.some renaming inj → ύ
namespace Go.Proofs.YtaiogolidlamiaaGreatDoor

open Go.ChangeShapes Go.WideShapes Go.ChangeAt Go.WideMaps Go.WideElems Go.RowKit
set_option maxRecDepth 100000 in
theorem Aiu (os:Os) (af:os.Started) (H:Type) (enc:TypeId × Value->H) :
  ReturnsInHanded {} Tryz.checked os 4 .any (λw args=>(Rows.languageChecksAutomataSpec.pre enc Ζ Tryz.f4 [] Τ w args/\laidMetH Ζ Ks w)/\sizedMet enc Ζ Tryz.f4 (OpenSpec.ofChange Rows.languageChecksAutomataSpec) Τ w args)
   (Rows.languageChecksAutomataSpec.post enc Ζ Tryz.f4 Τ Ξ Τ Τ):=by
 refine returnsInHanded_of_change_and (C:=Tryz.checked) (X:=λw _=>laidMetH Ζ Ks w) (λ_ _ _ hh h=>h.of_heap hh) Afy af (by kernel_rfl) Tryz.func4
  (ChangeSpec.witness_shaped (enc:=enc) (C:=Tryz.checked) (os:=os) (X:=λw _=>laidMetH Ζ Ks w) Τ (World.doorLaid Ζ 400 os) #[.agg #[.slice none 0 0,.slice none 0 0,.slice none 0 0],.int .i64 0] 8 rfl (World.shaped_of_RefB (by kernel_rfl) (by kernel_rfl)) (by kernel_rfl) (by kernel_rfl) (by kernel_rfl) (Alb os _)) ?_
 intro W base args ds gs ay I J _ _ hL _;have D:∀ (j:Nat) t v,Tryz.f4.params[j]? = some t->args[j]? = some v->Value.okWide Ζ W .any base t v:=I;have M:=J;obtain⟨p,q,T,hV,rfl,az,a1⟩:=J;have U:DataW.TrodAll enc Ζ W 0 (λ_=>Ξ) Ξ Tryz.f4.params.toList args.toList ds p:=T;rw[Tryz.params4] at U D;obtain⟨E,a6,d0,a7,p0,q0,a8,rfl,rfl,h0,r0⟩:=trodAll_cons U;obtain⟨v1,ba,d1,bb,p1,q1,rfl,rfl,rfl,h1,r1⟩:=trodAll_cons r0;obtain⟨rfl,rfl,rfl⟩:=trodAll_nil r1;obtain rfl:args=#[E,v1]:=by cases args;simp_all
 obtain⟨rfl,rfl⟩:=trodVars_none hV;have k0:=h0;have al:∀ x∈p0,x.block<W.heap.size:=by obtain⟨m,hm⟩:=k0;exact DataW.trod_lt m _ _ _ hm
 obtain⟨z0,s0⟩:=Af4 (D 0 30 E rfl rfl) h0;have k1:=h1;have aq:∀ x∈p1,x.block<W.heap.size:=by obtain⟨m,hm⟩:=k1;exact DataW.trod_lt m _ _ _ hm
 obtain⟨n1,rfl,_,_,_⟩:=open_int Tryz.underlying3 (D 1 3 v1 rfl rfl) h1;obtain⟨hT,au⟩:=Aba hL;clear T I;simp only[List.append_nil] at M;refine (Amb z0 E n1 W hT au s0).mono λe W' ⟨he,hE⟩=>?_
 subst he;have G:=hE.below;exact⟨_,rfl,_,_,_,[],_,[],M,trodAll_mk1 (shut_bool Tryz.underlying4 _),(trodAll_cons_mk (Below.trod Wd (by kernel_rfl) (of_decide_eq_true (by kernel_rfl)) k0 G al) (trodAll_cons_mk (Below.trod Wd (by kernel_rfl) (of_decide_eq_true (by kernel_rfl)) k1 G aq) trodAll_mk0)),rfl,G.frame _,λh=>by cases h⟩
theorem Aiv:Rows.LanguageChecksAutomataSaid:=
 OpenClaim.holds_of_wide 4 Tryz.f4 rfl rfl rfl rfl rfl rfl rfl ⟨rfl,rfl,rfl,rfl,rfl⟩ rfl rfl rfl rfl rfl (by kernel_rfl) Tryz.func4 (by kernel_rfl)
  (of_decide_eq_true (by kernel_rfl)) (by unfold Func.isWrapper;first|(rw[if_pos (by decide +kernel)];kernel_rfl)|(rw[if_neg (by decide +kernel)];exact⟨rfl,rfl⟩))
  (λos D H enc _=>Aiu os D H enc)
theorem languageChecksAutomata_card_holds:Rows.LanguageChecksAutomataCardSaid:=
 Claim7.holds_tied_plain_at .later [] [.data] Ξ (Ξ, "a9f3c784514f067f926e840f5a96c85fb2d64baf465e3d84c2f06422f2855f3c") Τ
  Aiv (λ_ h=>by cases h) (by kernel_rfl) (λ_ h=>by cases h) languageChecksAutomata_row_tie rfl ⟨rfl,rfl⟩ (by kernel_rfl) rfl
  (λf fn E G=>by
   obtain rfl : f = 4 := ύ ((show Ζ.funcNamed "univocal/univocallaw04.LanguageChecksAutomata" = some 4 by kernel_rfl).symm.trans E) |>.symm
   obtain rfl:fn=Tryz.f4:=(ύ (Tryz.func4.symm.trans G)).symm;exact⟨by kernel_rfl,λj t D=>by
    rw[Tryz.params4] at D;have hm:t∈[30,3]:=by simpa using Array.mem_of_getElem? D
    have I:([30,3].all λu=>!Tryz.prog.wantsStandIn u)=Ξ:=by kernel_rfl
    exact (show Ζ.wantsStandIn t=Τ by simpa using List.all_eq_true.1 I t hm)⟩)
  (by kernel_rfl)
#print axioms languageChecksAutomata_card_holds
end Go.Proofs.YtaiogolidlamiaaGreatDoor
