/-
  The row and the tied card of LanguageLists.
-/
import Derived.Test.YtaiogolidlamiaaGreatDoorCards
import Derived.Test.YtaiogolidlamiaaGreatDoorTie
import Derived.SevenTiedAt
import Derived.Test.YtaiogolidlamiaaGreatDoorM40
import Derived.Test.YtaiogolidlamiaaGreatDoorL10x
set_option linter.unusedVariables false
set_option linter.unusedSimpArgs false
namespace Go.Proofs.YtaiogolidlamiaaGreatDoor

open Go.ChangeShapes Go.WideShapes Go.ChangeAt Go.WideMaps Go.WideElems Go.RowKit
set_option maxRecDepth 100000 in
theorem Adi (os:Os) (started:os.Started) (H:Type) (enc:TypeId × Value→H) :
  ReturnsInHanded {} Tryz.checked os 10 .any (fun w args=>(Rows.languageListsSpec.pre enc Tryz.prog Tryz.f10 [] false w args∧laidMetH Tryz.prog Ip w)∧sizedMet enc Tryz.prog Tryz.f10 (OpenSpec.ofChange Rows.languageListsSpec) false w args)
   (Rows.languageListsSpec.post enc Tryz.prog Tryz.f10 false true false false):=by
 refine returnsInHanded_of_change_and (C:=Tryz.checked) (X:=fun w _=>laidMetH Tryz.prog Ip w) (fun _ _ _ hh h=>h.of_heap hh) Aao started (by kernel_rfl) Tryz.func10
  (ChangeSpec.witness_shaped (enc:=enc) (C:=Tryz.checked) (os:=os) (X:=fun w _=>laidMetH Tryz.prog Ip w) false (World.doorLaid Tryz.prog 400 os) #[.agg (Ex 0 none 0 0 0),.int .u8 0,.slice none 0 0] 8 rfl (World.shaped_of_RefB (by kernel_rfl) (by kernel_rfl)) (by kernel_rfl) (by kernel_rfl) (by kernel_rfl) (Afr os _)) ?_
 intro W base args ds gs before hval0 hW _ _ hL _;have hval:∀ (j:Nat) t v,Tryz.f10.params[j]? = some t→args[j]? = some v→Value.okWide Tryz.prog W .any base t v:=hval0;have hW':=hW;obtain ⟨p,q,hA0,hV,rfl,hfz,hnd⟩:=hW;have hA:DataW.TrodAll enc Tryz.prog W 0 (fun _=>true) true Tryz.f10.params.toList args.toList ds p:=hA0;rw [Tryz.params10] at hA hval;obtain ⟨v0,vs0,d0,ds0,p0,q0,hargs,rfl,rfl,h0,r0⟩:=trodAll_cons hA;obtain ⟨v1,vs1,d1,ds1,p1,q1,rfl,rfl,rfl,h1,r1⟩:=trodAll_cons r0;obtain ⟨v2,vs2,d2,ds2,p2,q2,rfl,rfl,rfl,h2,r2⟩:=trodAll_cons r1;obtain ⟨rfl,rfl,rfl⟩:=trodAll_nil r2;obtain rfl:args=#[v0,v1,v2]:=by cases args;simp_all
 obtain ⟨rfl,rfl⟩:=trodVars_none hV;have k0:=h0;have lt0:∀ x∈p0,x.block<W.heap.size:=by obtain ⟨m,hm⟩:=k0;exact DataW.trod_lt m _ _ _ hm
 obtain ⟨S0,a0,n0,c0,A0,rfl,s0⟩:=Aa1 (hval 0 24 v0 rfl rfl) h0;have k1:=h1;have lt1:∀ x∈p1,x.block<W.heap.size:=by obtain ⟨m,hm⟩:=k1;exact DataW.trod_lt m _ _ _ hm
 obtain ⟨n1,b1,rfl⟩:=Aa0 (hval 1 5 v1 rfl rfl) h1;have k2:=h2;have lt2:∀ x∈p2,x.block<W.heap.size:=by obtain ⟨m,hm⟩:=k2;exact DataW.trod_lt m _ _ _ hm
 obtain ⟨l2,s2⟩:=Aa2 (hval 2 22 v2 rfl rfl) h2;obtain ⟨hT,hsz⟩:=W6 hL;clear hA0 hval0;simp only [List.append_nil] at hW';refine (Acp S0 A0 n0 c0 a0 n1 b1 l2 v2 W hT hsz s0 s2).mono fun e W' ⟨he,hE⟩=>?_
 subst he;have bel:=hE.below;exact ⟨_,rfl,_,_,_,[],_,[],hW',trodAll_mk1 (shut_bool Tryz.underlying4 _),(trodAll_cons_mk (Below.trod Nr (by kernel_rfl) (of_decide_eq_true (by kernel_rfl)) k0 bel lt0) (trodAll_cons_mk (Below.trod Nr (by kernel_rfl) (of_decide_eq_true (by kernel_rfl)) k1 bel lt1) (trodAll_cons_mk (Below.trod Nr (by kernel_rfl) (of_decide_eq_true (by kernel_rfl)) k2 bel lt2) trodAll_mk0))),rfl,bel.frame _,fun h=>by cases h⟩
theorem Adj:Rows.LanguageListsSaid:=
 OpenClaim.holds_of_wide 10 Tryz.f10 rfl rfl rfl rfl rfl rfl rfl ⟨rfl,rfl,rfl,rfl,rfl⟩ rfl rfl rfl rfl rfl (by kernel_rfl) Tryz.func10 (by kernel_rfl)
  (of_decide_eq_true (by kernel_rfl)) (by unfold Func.isWrapper;first|(rw [if_pos (by decide +kernel)];kernel_rfl)|(rw [if_neg (by decide +kernel)];exact ⟨rfl,rfl⟩))
  (fun os started H enc _=>Adi os started H enc)
theorem languageLists_card_holds:Rows.LanguageListsCardSaid:=
 Claim7.holds_tied_plain_at .later [] [.data] true (true, "a9f3c784514f067f926e840f5a96c85fb2d64baf465e3d84c2f06422f2855f3c") false
  Adj (fun _ h=>by cases h) (by kernel_rfl) (fun _ h=>by cases h) languageLists_row_tie rfl ⟨rfl,rfl⟩ (by kernel_rfl) rfl
  (fun f fn hf hfn=>by
   obtain rfl : f = 10 := Option.some.inj ((show Tryz.prog.funcNamed "univocal/univocallaw04.LanguageLists" = some 10 by kernel_rfl).symm.trans hf) |>.symm
   obtain rfl:fn=Tryz.f10:=(Option.some.inj (Tryz.func10.symm.trans hfn)).symm;exact ⟨by kernel_rfl,fun j t ht=>by
    rw [Tryz.params10] at ht;have hm:t∈[24,5,22]:=by simpa using Array.mem_of_getElem? ht
    have hall:([24,5,22].all fun u=>!Tryz.prog.wantsStandIn u)=true:=by kernel_rfl
    exact (show Tryz.prog.wantsStandIn t=false by simpa using List.all_eq_true.1 hall t hm)⟩)
  (by kernel_rfl)
#print axioms languageLists_card_holds
end Go.Proofs.YtaiogolidlamiaaGreatDoor
