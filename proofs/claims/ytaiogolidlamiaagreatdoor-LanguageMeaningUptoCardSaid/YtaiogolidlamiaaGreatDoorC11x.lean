/-
  The row and the tied card of LanguageMeaning, where what it reads is of bulk at most 1048576.
-/
import Derived.Test.YtaiogolidlamiaaGreatDoorCards
import Derived.Test.YtaiogolidlamiaaGreatDoorTie
import Derived.SevenTiedAt
import Derived.Deep.DeepHandedRow
import Derived.Test.YtaiogolidlamiaaGreatDoorL11x
import Derived.Test.YtaiogolidlamiaaGreatDoorE07
import Derived.Test.YtaiogolidlamiaaGreatDoorE03
import Derived.Test.YtaiogolidlamiaaGreatDoorE02
import Derived.Test.YtaiogolidlamiaaGreatDoorE01
import Derived.Test.YtaiogolidlamiaaGreatDoorE06
import Derived.Test.YtaiogolidlamiaaGreatDoorE05
import Derived.Test.YtaiogolidlamiaaGreatDoorE04
set_option linter.unusedVariables false
set_option linter.unusedSimpArgs false
namespace Go.Proofs.YtaiogolidlamiaaGreatDoor

open Go.ChangeShapes Go.WideShapes Go.ChangeAt Go.WideMaps Go.WideElems Go.RowKit
set_option maxRecDepth 100000 in
theorem Amh (H:Type) (enc:TypeId × Value→H) (W:World) (base:Nat) (args:Array Value) (ds gs:List (DataW H)) (before:List MemPlace)
  (hval0:∀ (j:Nat) t v,Tryz.f11.params[j]? = some t→args[j]? = some v→Value.okWide Tryz.prog W .any base t v)
  (hW:DataW.Whole enc Tryz.prog Tryz.f11.params.toList Rows.languageMeaningSpec.vars false W args.toList ds gs before) (hcond:Rows.uptoSmall H (ds++gs)=true) (hL:laidMetH Tryz.prog O4 W) :
  Calls Tryz.prog 11 args W fun e W'=>∃ v,e=.returned v∧Rows.languageMeaningSpec.post enc Tryz.prog Tryz.f11 false true false false W args v W':=by
 have hval:∀ (j:Nat) t v,Tryz.f11.params[j]? = some t→args[j]? = some v→Value.okWide Tryz.prog W .any base t v:=hval0;have hW':=hW;obtain ⟨p,q,hA0,hV,rfl,hfz,hnd⟩:=hW;have hA:DataW.TrodAll enc Tryz.prog W 0 (fun _=>true) true Tryz.f11.params.toList args.toList ds p:=hA0;rw [Tryz.params11] at hA hval;obtain ⟨v0,vs0,d0,ds0,p0,q0,hargs,rfl,rfl,h0,r0⟩:=trodAll_cons hA;obtain ⟨v1,vs1,d1,ds1,p1,q1,rfl,rfl,rfl,h1,r1⟩:=trodAll_cons r0;obtain ⟨rfl,rfl,rfl⟩:=trodAll_nil r1;obtain rfl:args=#[v0,v1]:=by cases args;simp_all
 obtain ⟨rfl,rfl⟩:=trodVars_none hV;have k0:=h0;have lt0:∀ x∈p0,x.block<W.heap.size:=by obtain ⟨m,hm⟩:=k0;exact DataW.trod_lt m _ _ _ hm
 obtain ⟨l0,s0,b0⟩:=S7 (hval 0 22 v0 rfl rfl) h0;have k1:=h1;have lt1:∀ x∈p1,x.block<W.heap.size:=by obtain ⟨m,hm⟩:=k1;exact DataW.trod_lt m _ _ _ hm
 obtain ⟨l1,s1,b1⟩:=S7 (hval 1 22 v1 rfl rfl) h1;obtain ⟨hT,hsz⟩:=Yr hL;have hbk:=Ail hcond;simp only [List.append_nil,Rows.uptoBulkAll] at hbk;clear hA0 hval0;simp only [List.append_nil] at hW';refine (Amc l0 l1 v0 v1 W hT hsz s0 s1 (by omega) (by omega)).mono fun e W' ⟨he,hE⟩=>?_
 subst he;have bel:=hE.below;exact ⟨_,rfl,_,_,_,[],_,[],hW',trodAll_mk1 (shut_bool Tryz.underlying4 _),(trodAll_cons_mk (Below.trod T6 (by kernel_rfl) (of_decide_eq_true (by kernel_rfl)) k0 bel lt0) (trodAll_cons_mk (Below.trod T6 (by kernel_rfl) (of_decide_eq_true (by kernel_rfl)) k1 bel lt1) trodAll_mk0)),rfl,bel.frame _,fun h=>by cases h⟩
set_option maxRecDepth 100000 in
theorem Amf (os:Os) (started:os.Started) (H:Type) (enc:TypeId × Value→H) (F:Stop.Interp) :
  ReturnsInHanded {} Tryz.checked os 11 .any ((Rows.OpenSpec.upto Rows.languageMeaningSpec).preRow enc Tryz.prog Tryz.f11 Rows.languageMeaningUptoRow.domain false Rows.languageMeaningUptoRow.laid) (((Rows.OpenSpec.upto Rows.languageMeaningSpec).at F).post enc Tryz.prog Tryz.f11 false true false false):=by
 have hx:DataW.whole enc Tryz.prog ((World.doorLaid Tryz.prog 400 os).forCall (fun _ _=>0) ⟨#[],#[.slice none 0 0,.slice none 0 0],[]⟩).memory Tryz.f11.params.toList Rows.languageMeaningSpec.vars false (#[.slice none 0 0,.slice none 0 0]:Array Value).toList 8=some ([.nil,.nil],[],[]):=by kernel_rfl
 refine returnsInHanded_of_row (C:=Tryz.checked) (s:=Rows.OpenSpec.upto Rows.languageMeaningSpec) Acr started (by kernel_rfl) Tryz.func11
  (witness_row_at (enc:=enc) (C:=Tryz.checked) false (World.doorLaid Tryz.prog 400 os) #[.slice none 0 0,.slice none 0 0] rfl (by kernel_rfl) (by kernel_rfl) (by kernel_rfl)
   (OpenSpec.preRow_of_cond 8 hx (by kernel_rfl) (fun k hk=>by cases hk;kernel_rfl) (by kernel_rfl) (Ahe os _))) ?_
 intro W base args ds gs before hval hW _ hcond _ hL _ _;exact Amh H enc W base args ds gs before hval hW (hcond _ rfl) hL
theorem Amg:Rows.LanguageMeaningUptoSaid:=
 OpenClaim.holds_of_cond 11 Tryz.f11 rfl rfl rfl rfl rfl rfl rfl ⟨rfl,rfl,rfl,rfl,rfl⟩ rfl rfl rfl rfl rfl (by kernel_rfl) Tryz.func11 (by kernel_rfl)
  (of_decide_eq_true (by kernel_rfl)) (by unfold Func.isWrapper;first|(rw [if_pos (by decide +kernel)];kernel_rfl)|(rw [if_neg (by decide +kernel)];exact ⟨rfl,rfl⟩))
  (fun os started H enc _ F=>by rw [OpenClaim.pre_eq_preRow];exact Amf os started H enc F)
theorem languageMeaningUpto_card_holds:Rows.LanguageMeaningUptoCardSaid:=
 Claim7.holds_tied_plain_at .later [] [.data] true (true, "a9f3c784514f067f926e840f5a96c85fb2d64baf465e3d84c2f06422f2855f3c") false
  Amg (fun _ h=>by cases h) (by kernel_rfl) (fun _ h=>by cases h) languageMeaningUpto_row_tie rfl ⟨rfl,rfl⟩ (by kernel_rfl) rfl
  (fun f fn hf hfn=>by
   obtain rfl : f = 11 := Option.some.inj ((show Tryz.prog.funcNamed "univocal/univocallaw04.LanguageMeaning" = some 11 by kernel_rfl).symm.trans hf) |>.symm
   obtain rfl:fn=Tryz.f11:=(Option.some.inj (Tryz.func11.symm.trans hfn)).symm;exact ⟨by kernel_rfl,fun j t ht=>by
    rw [Tryz.params11] at ht;have hm:t∈[22,22]:=by simpa using Array.mem_of_getElem? ht
    have hall:([22,22].all fun u=>!Tryz.prog.wantsStandIn u)=true:=by kernel_rfl
    exact (show Tryz.prog.wantsStandIn t=false by simpa using List.all_eq_true.1 hall t hm)⟩)
  (by kernel_rfl)
#print axioms languageMeaningUpto_card_holds
end Go.Proofs.YtaiogolidlamiaaGreatDoor
