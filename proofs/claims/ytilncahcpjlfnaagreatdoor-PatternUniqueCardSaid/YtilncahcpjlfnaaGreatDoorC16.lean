/-
  The row and the tied card of PatternUnique.
-/
import Derived.Test.YtilncahcpjlfnaaGreatDoorRows
import Derived.ProofKit
import Derived.LaidMore
import Derived.OpenShut
import Derived.Stop.Joined
import Derived.Lib.LaidTab
import Derived.Test.YtilncahcpjlfnaaGreatDoorM09
import Derived.Test.YtilncahcpjlfnaaGreatDoorCards
import Derived.Test.YtilncahcpjlfnaaGreatDoorTie
import Derived.SevenTiedAt
import Derived.Test.YtilncahcpjlfnaaGreatDoorE16
set_option linter.unusedVariables false
set_option linter.unusedSimpArgs false
set_option maxRecDepth 100000
set_option maxHeartbeats 8000000
open Bool renaming true → Α, false → Ε
open Go renaming Value → Δ, laidMetH → þ, World → Γ, TypeId → ϡ
open Go.Lib renaming deBruijn64tab → ϲ
open Go.Proofs.Tryz renaming prog → Η, underlying5 → ϫ, underlying22 → ύ
open Go.Value renaming okWide → ð, slice → U
open Go.World renaming block_lt_of_cell? → Ϻ
open List renaming getD_eq_getElem?_getD → Ζ
open Option renaming some → J
open Option.some renaming inj → ό
open UInt8 renaming ofNat → ώ
namespace Go.Proofs.YtilncahcpjlfnaaGreatDoor
open Go.ChangeShapes Go.WideShapes Go.ChangeAt Go.WideMaps Go.WideElems Go.RowKit
def Da : List (String × DataW Unit) := [("math/bits.deBruijn64tab", Rows.laid_math_bits_deBruijn64tab)]
theorem Jp:ownKnob Η.godebug=none:=by kernel_rfl
theorem Zs : Η.globalNamed "math/bits.deBruijn64tab" = J 0 := by kernel_rfl
theorem FT:(Η.globals[0]?).map (·.type)=J 197:=by kernel_rfl
theorem Ez:laidOutB Η=Α:=by kernel_rfl
theorem J9 (os:Os) (args:Array Δ):þ Η Da ((Γ.doorLaid Η 400 os).forCall (λ_ _=>0) ⟨#[],args,[]⟩).memory:=
 laidMetH_of_parts3 (fuel:=8) (laidMet_of_run' 8 (by kernel_rfl) (by kernel_rfl)) (by kernel_rfl) (by kernel_rfl)
theorem Jd {W:Γ} (h:þ Η Da W):Tab W/\0<W.heap.size:=by
 rw [MakeChecks.laidMetH_plain _ _ _ (by kernel_rfl)] at h;have h1 : Lib.TabIs Η W "math/bits.deBruijn64tab" .u8 (ϲ.map Int.ofNat) :=
  Lib.tabIs_of_head Zs FT Tryz.underlying197 ϫ (by kernel_rfl) (by kernel_rfl) h
 have E:Tab W:=λj G=>by
  rw[h1.cell Zs j (by simpa [ϲ] using G)];have H:j<ϲ.length:=by simpa [ϲ] using G
  simp[Ζ,H]
 exact⟨E,Ϻ W _ (E 0 (by decide))⟩
theorem CA {k:Int} (h:(Lit.int .u8 k).wf=Α):∃ n:Nat,k=n/\n<256:=by simp[Lit.wf,IntKind.min,IntKind.max,IntKind.bits,IntKind.signed] at h;exact⟨k.toNat,by omega,by omega⟩
theorem Xb {H:Type} {E:ϡ × Δ->H} {W:Γ} {G:Nat} {v:Δ} {d:DataW H} {p:List MemPlace} (T:ð Η W .any G 5 v) (h:DataW.Trod E Η W 0 (λ_=>Α) Α 5 v d p) :
  ∃ n:Nat,n<256/\v=.int .u8 (n:Int):=by
 obtain⟨a,rfl,_,_,X⟩:=open_int ϫ T h;obtain⟨n,rfl,hn⟩:=CA X;exact⟨n,hn,rfl⟩
theorem CB {H:Type} {ae:ϡ × Δ->H} {W:Γ} {af:Nat} {x:DataW H × List MemPlace} {a:Option Addr} {len G:Nat} (hf:DataW.trod ae Η W 0 (λ_=>Α) Α af 22 [U a len G]=J x) :
  ∃ l:List UInt8,l.length=len/\ByW W (U a len G) l:=by
 rcases open_ints ύ ϫ (by kernel_rfl) hf with⟨E,_⟩|⟨x,l,c,T,E,_,hl,hm,hz,_,ab,ai⟩
 ·simp at E;obtain⟨rfl,rfl,rfl⟩:=E;exact⟨[],rfl,by simp,.inl ⟨rfl,_,_,rfl⟩⟩
 simp at E;obtain⟨rfl,rfl,rfl⟩:=E;have hz:T.length=G:=by simpa using hz
 have X:((T.take len).map λz=>ώ z.toNat).length=len:=by simp;omega
 refine⟨(T.take len).map λz=>ώ z.toNat,X,by rw[X];exact Nat.le_trans hl hm,?_⟩;rw[X];by_cases h0:len=0
 ·subst h0;exact .inl ⟨rfl,_,_,rfl⟩
 obtain⟨b,aj,ak⟩:=x;have hc:=ab 0 (by omega);have an:ak=none:=by simpa [Addr.add] using Γ.cell?_spot hc
 subst an;refine .inr ⟨by omega,b,aj,G,rfl,Ϻ W _ hc,λi hi=>?_⟩;have h1:=ab i (by omega);have h2:i<T.length:=by omega
 have hw:=ai _ (List.getElem_mem h2);obtain⟨n,hn,ar⟩:=CA hw;rw[Addr.add_lit] at h1;rw[h1];simp only[Ζ,List.getElem?_map,List.getElem?_take,List.getElem?_eq_getElem h2,Option.getD_some,Option.map_some,if_pos hi,hn,bv,Int.toNat_natCast]
 congr 2
 rw[u8n n ar]
theorem F7 {H:Type} {E:ϡ × Δ->H} {W:Γ} {G:Nat} {v:Δ} {d:DataW H} {p:List MemPlace} (T:ð Η W .any G 22 v) (h:DataW.Trod E Η W 0 (λ_=>Α) Α 22 v d p) :
  ∃ l:List UInt8,ByW W v l:=by
 obtain⟨a,len,ab,rfl⟩:=okWide_slice ύ T;obtain⟨ad,X⟩:=h;obtain⟨l,_,hl⟩:=CB X;exact⟨l,hl⟩
theorem II {H:Type} {G:ϡ × Δ->H} {W:Γ} {T:Nat} {cs:List Δ} {x:DataW H × List MemPlace} (X:DataW.trod G Η W 0 (λ_=>Α) Α T 22 cs=J x):∃ a len aa,cs=[U a len aa]:=by
 rcases open_ints ύ ϫ (by kernel_rfl) X with⟨E,_⟩|⟨x,l,c,zs,E,_⟩
 ·exact⟨_,_,_,E⟩
 exact⟨_,_,_,E⟩
set_option maxRecDepth 100000 in
theorem KH (os:Os) (an:os.Started) (H:Type) (E:ϡ × Δ->H) :
  ReturnsInHanded {} Tryz.checked os 7 .any (λw args=>(Rows.patternUniqueSpec.pre E Η Tryz.f7 [] Ε w args/\þ Η Da w)/\sizedMet E Η Tryz.f7 (OpenSpec.ofChange Rows.patternUniqueSpec) Ε w args)
   (Rows.patternUniqueSpec.post E Η Tryz.f7 Ε Α Ε Ε):=by
 refine returnsInHanded_of_change_and (C:=Tryz.checked) (X:=λw _=>þ Η Da w) (λ_ _ _ hh h=>h.of_heap hh) Jp an (by kernel_rfl) Tryz.func7
  (ChangeSpec.witness_shaped (enc:=E) (C:=Tryz.checked) (os:=os) (X:=λw _=>þ Η Da w) Ε (Γ.doorLaid Η 400 os) #[U none 0 0,U none 0 0,.int .u8 0] 8 rfl (Γ.shaped_of_RefB (by kernel_rfl) (by kernel_rfl)) (by kernel_rfl) (by kernel_rfl) (by kernel_rfl) (J9 os _)) ?_
 intro W base args ds gs bf ab hW _ _ hL _;have G:∀ (j:Nat) t v,Tryz.f7.params[j]? = J t->args[j]? = J v->ð Η W .any base t v:=ab;have ae:=hW;obtain⟨p,q,af,hV,rfl,bg,bh⟩:=hW;have hA:DataW.TrodAll E Η W 0 (λ_=>Α) Α Tryz.f7.params.toList args.toList ds p:=af;rw[Tryz.params7] at hA G;obtain⟨v0,bj,d0,bk,p0,q0,bl,rfl,rfl,h0,r0⟩:=trodAll_cons hA;obtain⟨v1,bm,d1,bn,p1,q1,rfl,rfl,rfl,h1,r1⟩:=trodAll_cons r0;obtain⟨v2,bo,d2,bp,p2,q2,rfl,rfl,rfl,h2,r2⟩:=trodAll_cons r1;obtain⟨rfl,rfl,rfl⟩:=trodAll_nil r2;obtain rfl:args=#[v0,v1,v2]:=by cases args;simp_all
 obtain⟨rfl,rfl⟩:=trodVars_none hV;have k0:=h0;have az:∀ x∈p0,x.block<W.heap.size:=by obtain⟨m,hm⟩:=k0;exact DataW.trod_lt m _ _ _ hm
 obtain⟨l0,s0⟩:=F7 (G 0 22 v0 rfl rfl) h0;have k1:=h1;have a6:∀ x∈p1,x.block<W.heap.size:=by obtain⟨m,hm⟩:=k1;exact DataW.trod_lt m _ _ _ hm
 obtain⟨l1,s1⟩:=F7 (G 1 22 v1 rfl rfl) h1;have k2:=h2;have a8:∀ x∈p2,x.block<W.heap.size:=by obtain⟨m,hm⟩:=k2;exact DataW.trod_lt m _ _ _ hm
 obtain⟨n2,b2,rfl⟩:=Xb (G 2 5 v2 rfl rfl) h2;obtain⟨hT,bc⟩:=Jd hL;clear af ab;simp only[List.append_nil] at ae;refine (FA l0 v0 l1 v1 n2 b2 W hT bc s0 s1).mono λe W' ⟨he,hE⟩=>?_
 subst he;have T:=hE.below;exact⟨_,rfl,_,_,_,[],_,[],ae,trodAll_mk1 (shut_bool Tryz.underlying4 _),(trodAll_cons_mk (Below.trod Ez (by kernel_rfl) (of_decide_eq_true (by kernel_rfl)) k0 T az) (trodAll_cons_mk (Below.trod Ez (by kernel_rfl) (of_decide_eq_true (by kernel_rfl)) k1 T a6) (trodAll_cons_mk (Below.trod Ez (by kernel_rfl) (of_decide_eq_true (by kernel_rfl)) k2 T a8) trodAll_mk0))),rfl,T.frame _,λh=>by cases h⟩
theorem KI:Rows.PatternUniqueSaid:=
 OpenClaim.holds_of_wide 7 Tryz.f7 rfl rfl rfl rfl rfl rfl rfl ⟨rfl,rfl,rfl,rfl,rfl⟩ rfl rfl rfl rfl rfl (by as_aux_lemma=>kernel_rfl) Tryz.func7 (by
   unfold joinedFacts;repeat' (with_reducible refine Bool.and_eq_true_iff.2 ⟨?_,?_⟩)
   all_goals (as_aux_lemma=>kernel_rfl))
  (of_decide_eq_true (by kernel_rfl)) (by unfold Func.isWrapper;first|(rw[if_pos (by decide +kernel)];kernel_rfl)|(rw[if_neg (by decide +kernel)];exact⟨rfl,rfl⟩))
  (λos E H G _=>KH os E H G)
theorem patternUnique_card_holds:Rows.PatternUniqueCardSaid:=
 Claim7.holds_tied_plain_at .later [] [.data] Α (Α, "365fd237c2811a4511fd47f3bce851aa4974e8bb9b5e8ae9cfbfdb1c0044d573") Ε
  KI (λ_ h=>by cases h) (by as_aux_lemma=>kernel_rfl) (λ_ h=>by cases h) patternUnique_row_tie rfl ⟨rfl,rfl⟩ (by as_aux_lemma=>kernel_rfl) rfl
  (λf fn G H=>by
   obtain rfl : f = 7 := ό ((show Η.funcNamed "univocal/univocallaw06.PatternUnique" = J 7 by as_aux_lemma => kernel_rfl).symm.trans G) |>.symm
   obtain rfl:fn=Tryz.f7:=(ό (Tryz.func7.symm.trans H)).symm;exact⟨by as_aux_lemma=>kernel_rfl,λj t E=>by
    rw[Tryz.params7] at E;have hm:t∈[22,22,5]:=by simpa using Array.mem_of_getElem? E
    have T:([22,22,5].all λu=>!Tryz.prog.wantsStandIn u)=Α:=by as_aux_lemma=>kernel_rfl
    exact (show Η.wantsStandIn t=Ε by simpa using List.all_eq_true.1 T t hm)⟩)
  (by as_aux_lemma=>kernel_rfl)
#print axioms patternUnique_card_holds
end Go.Proofs.YtilncahcpjlfnaaGreatDoor
