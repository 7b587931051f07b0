import Derived.Test.YtaiogolidlamiaaGreatDoorM17
import Derived.Test.YtaiogolidlamiaaGreatDoorM06
set_option linter.unusedVariables false
set_option linter.unusedSimpArgs false
open Bool renaming true → Ξ, false → Τ
open Go renaming Value → Ρ, undef → ς, World → Κ, info_parts → ϕ, wpList_store_row → Φ, maxLen → ϙ, wpList_append_lies → ϐ, cell_one_new → Ϫ, wpList_load_row → Υ, bodyPost_ret → ϋ, results_cell_row → ϵ, heap_alloc2_new → Ϙ, setRow_heap → μ, wpList_make_full → ϫ
open Go.Act renaming put → Ϛ
open Go.IntKind renaming i64 → ζ
open Go.Lib renaming hid → Α
open Go.Obj renaming cells → Ε
open Go.Operand renaming tmp → η
open Go.Proofs.Tryz renaming prog → Η, zeroCells79 → ϖ, underlying68 → ϓ, underlying27 → ê, underlying79 → Â, underlying30 → Ν, zeroCells77 → ώ
open Go.Region renaming wanted → Ì
open Go.RowKit renaming Hid → Ϻ
open Go.Value renaming slice → Β, pointer → γ, oneCell' → ϊ, slice → ϟ, bool → ο
open Go.World renaming size_alloc → Λ, ownsRow → ϛ
open List renaming getElem?_eq_getElem → Μ, getD_eq_getElem?_getD → Ζ, replicate → δ, getElem?_replicate → ϧ, length_map → Ϗ, setIfInBounds_toArray → Θ, set_cons_zero → Χ, set_cons_succ → Ψ, length_append → Ο, map_append → ϔ, range → ι, length_set → ύ, mem_of_getElem? → Ä
open Nat renaming le_refl → θ, lt_of_lt_of_le → ε
open Option renaming some → Δ, none → Γ
open Option.some renaming inj → ω
namespace Go.Proofs.YtaiogolidlamiaaGreatDoor
set_option maxRecDepth 100000
set_option maxHeartbeats 8000000
open Go.RowKit Go.Shelf
def C1 (vs:List Ρ) (N:List (List Nat)):List Ch:=List.zipWith (λv l=>Ch.row 3 1 v l.length (l.map iv)) vs N
theorem Lt {vs:List Ρ} {N:List (List Nat)} (h:vs.length=N.length) (v:Ρ) (l:List Nat):C1 (vs++[v]) (N++[l])=C1 vs N++[.row 3 1 v l.length (l.map iv)]:=by
 unfold C1;rw[List.zipWith_append h];rfl
theorem Tf {vs:List Ρ} {N:List (List Nat)} (h:vs.length=N.length) (j:Nat) (D:j<N.length):(C1 vs N)[j]? = Δ (.row 3 1 (vs.getD j ς) (N.getD j []).length ((N.getD j []).map iv)):=by
 unfold C1;rw[List.getElem?_zipWith,Μ (by omega),Μ D];simp[Ζ,D,h]
theorem Hp.rows {w0 W:Κ} {L:List Ch} (h:Hp w0 W L) (i k:Nat) {v:Ρ} {vs:List Ρ} {N:List (List Nat)} (G:L[i]? = Δ (.row 68 1 v vs.length vs)) (H:∀ j,L[j+k]? = (C1 vs N)[j]?) (D:vs.length=N.length) (hn:N.length<=4611686018427387904) (hm:∀ j,j<N.length->(N.getD j []).length<=4611686018427387904):Rows W v N:=by
 refine⟨vs,D,?_,λj E=>OwnI.ints (h.row (j+k) ((H j).trans (Tf D j E))) (hm j E)⟩;have:=Sl.of_owns (h.row i G) (by rw[D];exact hn) ς;rw[D] at this;exact this
theorem R7 (C:List Nat) (E:C.length=256) (b v:Nat) (D:b<256) (vn va:Ρ):(trA (λx=>C.getD x 0) vn va).setIfInBounds b (iv v)=trA (λx=>(C.set b v).getD x 0) vn va:=by
 rw[R8 _ _ _ _ _ D];exact Jq (λy _=>(Bb _ _ _ _ _ (by rw[E];exact D)).symm) _ _
theorem Nl (c:Nat->Nat) (vn va v:Ρ):(trA c vn va).setIfInBounds 256 v=trA c v va:=by
 apply Array.ext';rw[Array.toList_setIfInBounds];unfold trA trL;simp only;rw[List.set_append_right _ _ (by simp)];simp
theorem Amc (a:Option Addr) (l c:Nat):Η.built 79 [(2,Β a l c)]=Δ (trA (λ_=>0) (Β Γ 0 0) (Β a l c)):=by
 rw[R6]
 kernel_rfl
theorem Aib (t:Tbl) (hv:TVal t) (hn:t.n.length<=65536) (A:Array Ρ) (w:Κ) (h:IsR w A t) :
  Calls Η 99 #[.agg A] w λe w'=>∃ A' C P f,e=.returned (.agg A')/\CInv t.cell 256 C P f/\IsR w' A' (Cw t C P)/\Ext w w':=by
 obtain⟨bn,on,cn,ba,oa,ca,ei,ej,c5,c6,c8,c9,-⟩:=h.opened hv;obtain⟨i0,hi,db,dc,dd⟩:=ϕ Cg;obtain⟨i6,en,eo,ep,er⟩:=ϕ (show (Η.info? 68).map (λi=>(i.zero,i.size,i.bytes))=Δ (Δ (Β Γ 0 0),1,24) by kernel_rfl);have gd:(Η.info? 79).map (·.size)=Δ A.size:=by rw[ei];exact Cp
 have gf:=hv.cle;have de:=Α (λW (H:Ext w W)=>c9.ext H);have et:=Α h;have eu:=Α c5;have b4:=Α c6;have b5:=Α c8;have HV:=Α hv;clear h c9 c5 c6 c8 ej hv;obtain⟨I,b6⟩:∃ n,t.n.length=n:=⟨_,rfl⟩;have ew:=Α b6;rw[b6] at b4 b5 de hn;clear b6;have a1:=((Hp.nil w).new (Ε A 79)).new (Ε ϖ 79);rw[Λ] at a1;go_enter Tryz.func99,Tryz.ntmps99;go_upto_region 1 with (fail)
 obtain⟨w1,b7⟩:∃ X,(w.alloc (Ε A 79)).alloc (Ε ϖ 79)=X:=⟨_,rfl⟩;obtain⟨G,b8⟩:∃ y,w.heap.size=y:=⟨_,rfl⟩;obtain⟨g7,b9⟩:∃ y,G+1=y:=⟨_,rfl⟩;rw[b7,b8,b9] at a1;simp only[b7,b8,b9];clear b7 b8 b9;have cA:=Ay (a1.obj 1 rfl) b5.out;obtain⟨A9,aw⟩:∃ A9,trA (λ_=>0) (Β Γ 0 0) (Β (Δ ⟨ba,oa,Γ⟩) I ca)=A9:=⟨_,rfl⟩;have df:Ϻ (Η.built 79 [(2,Β (Δ ⟨ba,oa,Γ⟩) I ca)]=Δ A9):=Α (by rw[Amc,aw]);have dg:ϖ.size=A9.size:=by rw[Fe,<-aw,Dw]
 have dh:(Η.info? 79).map (·.size)=Δ A9.size:=by rw[<-aw,Dw];exact Cp
 have dk:A9.all (·.oneCell')=Ξ:=by rw[<-aw];exact Gy _ _ _ rfl rfl
 have dm:=Α aw;clear aw;have ax:=(a1.new (Ε ϖ 79)).box 0 rfl A9;go_upto_region 2 with (first
  | (refine B3 rfl 79 _ rfl A9 ?_ ?_;(simp[Act.eval];with_reducible exact df.out))
  | (refine Φ rfl 79 (η 3) (η 12) rfl _ A9 rfl rfl _ _ (Ab w1 (Ε ϖ 79)) dh dg dk ?_))
 obtain⟨w2,bm⟩:∃ X,(w1.alloc (Ε ϖ 79)).setRow w1.heap.size A9=X:=⟨_,rfl⟩;obtain⟨g9,cd⟩:∃ y,w1.heap.size=y:=⟨_,rfl⟩;rw[cd] at bm ax;rw[bm] at ax;simp only[cd];simp only[bm];replace ax:Hp w w2 [.obj g9 (Ε (trA (λx=>(δ 256 0).getD x 0) (Β Γ 0 0) (Β (Δ ⟨ba,oa,Γ⟩) I ca)) 79 (0,0)),.obj g7 (Ε ϖ 79 (0,0)),.obj G (Ε A 79 (0,0))]:=by
  have:=dm.out;rw[Jq (c':=λx=>(δ 256 0).getD x 0) (λb hb=>by show 0=(δ 256 0).getD b 0;rw[Ζ,ϧ];split<;>rfl)] at this;rw[this];exact ax
 clear bm cd cA df dg dh dk dm a1;have cf:=ax.lit 3 1 #[] 0 (by unfold ϙ;omega) rfl;go_upto_region 3 with (fail)
 obtain⟨w3,cg⟩:∃ X,w2.alloc (Ε #[] 3)=X:=⟨_,rfl⟩;obtain⟨g8,cj⟩:∃ y,w2.heap.size=y:=⟨_,rfl⟩;rw[cg,cj] at cf;simp only[cg,cj];clear cg cj ax;go_wp2_with (fail);go_loopw [4,5] (λvP vb W=>∃ (C P K:List Nat) (f:Nat->Option Nat) (g c b:Nat),b<=256/\vP=Β (Δ ⟨g,0,Γ⟩) K.length c/\vb=.int ζ b/\
   Hp w W [.row 3 1 (Β (Δ ⟨g,0,Γ⟩) K.length c) K.length (K.map iv),.obj g9 (Ε (trA (λx=>C.getD x 0) (Β Γ 0 0) (Β (Δ ⟨ba,oa,Γ⟩) I ca)) 79 (0,0)),.obj g7 (Ε ϖ 79 (0,0)),.obj G (Ε A 79 (0,0))]/\Ϻ (CInv t.cell b C P f/\K=P.map t.cell))
  (λ_ vb _=>256-(intOf vb).toNat)
 case atStart=>exact⟨δ 256 0,[],[],λ_=>Γ,g8,0,0,by omega,rfl,rfl,cf,Α ⟨X4 _,rfl⟩⟩
 case round=>
  clear cf;obtain⟨C,P,K,f,g,c,b,hb,rfl,rfl,D,J⟩:=hrel;have dn:K.length=P.length:=by rw[J.out.2,Ϗ]
  have gh:K.length<=256:=by have:=J.out.1.fi.le;omega
  have bo:=Α dn;have cl:=Α (λk (hk:k<K.length)=>(show K.getD k 0=t.cell (P.getD k 0) by
   rw[J.out.2] at hk ⊢;exact Mq _ _ _ (by simpa using hk)))
  clear dn;by_cases M:b<256
  ·have e2:(b:Int)<256:=by omega
   obtain⟨kb,dp⟩:∃ x,t.cell b=x:=⟨_,rfl⟩;have bp:=Α dp;clear dp;go_wp2_with (fail);go_loopw [6] (λvk W=>∃ k:Nat,k<=K.length/\vk=.int ζ k/\Ext wr W/\Ϻ (∀ x,x<k->K.getD x 0≠kb))
    (λvk _=>K.length-(intOf vk).toNat)
   case atStart=>exact⟨0,by omega,rfl,Ι wr,Α (λx hx=>by omega)⟩
   case round=>
    obtain⟨wo,e3⟩:∃ W,W=wr:=⟨_,rfl⟩;subst e3;obtain⟨k,hk,rfl,a8,HK⟩:=hrel;have U:=D.extW a8;have qb:=λW (H:Ext wo W)=>Ay (H.heap (U.obj 3 rfl)) (eu.out b M)
    rw[bp.out] at qb;go_upto_region 7 with (fail)
    by_cases bb:k<K.length
    ·obtain⟨pk,cm⟩:∃ x,K.getD k 0=x:=⟨_,rfl⟩;have qp:=λW (H:Ext wo W)=>Am 0 (Ah (U.row 0 rfl) H) rfl k bb
     rw[cm] at qp;have du:=Α cm;clear cm;by_cases bq:pk=kb
     ·have e4:=Α bq;refine Dv 85 Ξ [iv k,Β (Δ ⟨g,0,Γ⟩) K.length c,iv K.length,.bool Ξ,.bool Ξ,Β (Δ ⟨g,0,Γ⟩) K.length c,iv k,γ (Δ ⟨g,k,Γ⟩),iv pk,iv b,γ (Δ ⟨G,0,Γ⟩),γ (Δ ⟨G,b,Γ⟩),iv kb,.bool Τ,.bool Τ] [.keep,.keep,.pure,Gk (η 18) (η 20) k K.length Ξ (by simp;try omega),.keep,.keep,.keep,Gl (η 23) (η 24) g K.length c k bb,ld3 (η 25) g k _ qp,.keep,.pure,E7 (η 28) (η 27) G b M,ld3 (η 29) G b _ qb,Io (η 26) (η 30) pk kb Τ (by simp;try omega),.pure] (λ_=>by kernel_rfl) (by kernel_rfl) rfl rfl (λW=>by kernel_rfl) (by kernel_rfl) ?_;intro W H;simp only[Bz,Ϛ,Θ,Χ,Ψ];have ah:=U.extW H;have dv:((k:Int)==(K.length:Int))=Τ:=by simp;omega
      have bt:=Α (X5 J.out.1 M k (W9 J.out.1.fi _ k (by have:=bo.out;omega) (by rw[<-cl.out k bb,du.out,e4.out,bp.out])));have cq:=Α J.out.1.len;have cn:=Ay (ah.obj 1 rfl) (Hw _ _ _ b M);have fn:=ah.frozen 1 rfl b;have e5:=ah.cell 1 rfl b (iv k) (R7 C cq.out b k M _ _);clear ah U H a8 qb qp bq;go_wp2;go_roundw
      case rel=>exact⟨C.set b k,P,K,f,g,c,b+1,by omega,rfl,by go_num,e5,Α ⟨bt.out,J.out.2⟩⟩
      case measure=>simp[intOf];omega
     ·have e6:Ϻ (∀ x,x<k+1->K.getD x 0≠kb):=Α λx hx=>by
       by_cases e:x=k
       ·rw[e,du.out];exact bq
       ·exact HK.out x (by omega)
      refine Dv 85 Ξ [iv k,Β (Δ ⟨g,0,Γ⟩) K.length c,iv K.length,.bool Ξ,.bool Ξ,Β (Δ ⟨g,0,Γ⟩) K.length c,iv k,γ (Δ ⟨g,k,Γ⟩),iv pk,iv b,γ (Δ ⟨G,0,Γ⟩),γ (Δ ⟨G,b,Γ⟩),iv kb,.bool Ξ,.bool Ξ] [.keep,.keep,.pure,Gk (η 18) (η 20) k K.length Ξ (by simp;try omega),.keep,.keep,.keep,Gl (η 23) (η 24) g K.length c k bb,ld3 (η 25) g k _ qp,.keep,.pure,E7 (η 28) (η 27) G b M,ld3 (η 29) G b _ qb,Io (η 26) (η 30) pk kb Ξ (by simp;try omega),.pure] (λ_=>by kernel_rfl) (by kernel_rfl) rfl rfl (λW=>by kernel_rfl) (by kernel_rfl) ?_;intro W H;simp only[Bz,Ϛ,Θ,Χ,Ψ];have e7:=a8.trans H;clear U H a8 qb qp bq;go_wp2;go_roundw
      case rel=>exact⟨k+1,by omega,by go_num,e7,e6⟩
      case measure=>simp[intOf];omega
    ·obtain rfl:k=K.length:=by omega
     refine Dv 85 Ξ [iv K.length,Β (Δ ⟨g,0,Γ⟩) K.length c,iv K.length,.bool Τ,.bool Τ,ς,ς,ς,ς,ς,ς,ς,ς,ς,.bool Τ] [.keep,.keep,.pure,Gk (η 18) (η 20) K.length K.length Τ (by simp;try omega),.keep,.skip,.skip,.skip,.skip,.skip,.skip,.skip,.skip,.skip,.pure] (λ_=>by kernel_rfl) (by kernel_rfl) rfl rfl (λW=>by kernel_rfl) (by kernel_rfl) ?_;intro W H;simp only[Bz,Ϛ,Θ,Χ,Ψ];have ah:=U.extW H;have dv:((K.length:Int)==(K.length:Int))=Ξ:=by simp
     have bt:=Α (X6 J.out.1 M (W8 J.out.1.fi _ λx hx=>by
      have dw:x<K.length:=by have:=bo.out;omega
      rw[<-cl.out x dw,bp.out];exact HK.out x dw))
     rw[<-bo.out] at bt;have cq:=Α J.out.1.len;have dx:=ah.size;have e8:=qb W H;clear U a8 qb bb;go_upto_region 10 with (fail)
     go_upto_region 11 with (at_builtin;refine ϐ _ rfl _ _ 68 rfl w.heap.size 3 i0 (.int ζ 0) 1 8 ϓ hi db dc dd rfl (by decide) _ _ _ rfl ((ah.row 0 rfl).alloc _) _ 1 1 [iv kb] rfl rfl (Ϫ _ _ _) (by simp[ϊ]) (by decide) (by unfold ϙ;omega) (by omega) (by simp;omega) _ rfl ?_;intro gq c7 w7 bg aj ak _)
     have T:=(ah.alloc (Ε #[iv kb] 3)).app 0 rfl bg aj ak;have cn:=Ay (T.obj 1 rfl) (Hw _ _ _ b M);have fn:=T.frozen 1 rfl b;have ct:=T.cell 1 rfl b (iv K.length) (R7 C cq.out b K.length M _ _);clear bg aj ak T ah e8 dv H;go_wp2;go_roundw
     case rel=>exact⟨C.set b K.length,P++[b],K++[kb],_,gq,c7,b+1,by omega,by rw[Ο];rfl,by go_num,by rw[Ο,ϔ];exact ct,Α ⟨bt.out,by rw[ϔ,<-J.out.2,<-bp.out];rfl⟩⟩
     case measure=>simp[intOf];omega
  ·obtain rfl:b=256:=by omega
   clear M;have ea:=D.nilRow 68 1;have e9:=Α J.out.1;have fa:=Α J.out.2;have fb:=Α (λk (hk:k<K.length)=>(show K.getD k 0<t.cells by
    rw[cl.out k hk];exact HV.out.cell_lt _ (J.out.1.fi.byte k (by have:=bo.out;omega)).1))
   clear D;go_wp2_with (fail);go_loopw [7] (λvs W=>∃ (N:List (List Nat)) (E:List Ρ) (vn:Ρ) (s:Nat),s<=I/\vs=.int ζ s/\
     Hp w W (.row 68 1 vn E.length E::.row 3 1 (Β (Δ ⟨g,0,Γ⟩) K.length c) K.length (K.map iv)::.obj g9 (Ε (trA (λx=>C.getD x 0) vn (Β (Δ ⟨ba,oa,Γ⟩) I ca)) 79 (0,0))::.obj g7 (Ε ϖ 79 (0,0))::.obj G (Ε A 79 (0,0))::C1 E N)/\
     Ϻ (E.length=N.length/\N=(ι s).map λj=>K.map λk=>t.ent2 j k))
    (λvs _=>I-(intOf vs).toNat)
   case atStart=>exact⟨[],[],Β Γ 0 0,0,by omega,rfl,ea,Α ⟨rfl,rfl⟩⟩
   case round=>
    clear ea;obtain⟨N,E,vn,s,hs,rfl,D,HN⟩:=hrel;have gi:E.length<=65536:=by rw[HN.out.1,HN.out.2];simp;omega
    have cN:=Ay (D.obj 4 rfl) b4.out;by_cases M:s<I
    ·have e2:(s:Int)<(I:Int):=by omega
     have U:=D.lit 3 1 #[] 0 (by unfold ϙ;omega) rfl;go_upto_region 16 with (fail)
     obtain⟨w4,cu⟩:∃ X,wr.alloc (Ε #[] 3)=X:=⟨_,rfl⟩;obtain⟨gr,cv⟩:∃ y,wr.heap.size=y:=⟨_,rfl⟩;rw[cu,cv] at U;simp only[cu,cv];clear cu cv D cN;go_wp2_with (fail);go_loopw [8,9] (λvr vk W=>∃ (r:List Nat) (g' c' k:Nat),k<=K.length/\vr=Β (Δ ⟨g',0,Γ⟩) r.length c'/\vk=.int ζ k/\
       Hp w W (.row 3 1 (Β (Δ ⟨g',0,Γ⟩) r.length c') r.length (r.map iv)::.row 68 1 vn E.length E::.row 3 1 (Β (Δ ⟨g,0,Γ⟩) K.length c) K.length (K.map iv)::.obj g9 (Ε (trA (λx=>C.getD x 0) vn (Β (Δ ⟨ba,oa,Γ⟩) I ca)) 79 (0,0))::.obj g7 (Ε ϖ 79 (0,0))::.obj G (Ε A 79 (0,0))::C1 E N)/\Ϻ (r=(K.take k).map λk=>t.ent2 s k))
      (λ_ vk _=>K.length-(intOf vk).toNat)
     case atStart=>exact⟨[],gr,0,0,by omega,rfl,rfl,U,Α rfl⟩
     case round=>
      clear U;obtain⟨r,g',c',k,hk,rfl,rfl,D,HR⟩:=hrel;have gk:r.length<=256:=by rw[HR.out];simp;omega
      by_cases bu:k<K.length
      ·have gl:(k:Int)<(K.length:Int):=by omega
       go_upto_region 19 with (fail)
       obtain⟨q,hq⟩:∃ x,K.getD k 0=x:=⟨_,rfl⟩;have eb:=fb.out k bu;rw[hq] at eb;obtain⟨br,bz,cr,ed,ee⟩:=de.out w (Ι w) s M;have cx:=ee q eb;obtain⟨z,hz⟩:∃ x,t.ent2 s q=x:=⟨_,rfl⟩;rw[hz] at cx;have fg:Ϻ (r++[z]=(K.take (k+1)).map λk=>t.ent2 s k):=Α (by
        rw[List.take_succ_eq_append_getElem bu,ϔ,<-HR.out,<-hz,<-hq];simp[Ζ,bu])
       have cz:=Α (λ(X:Κ) (ch:Ch) (h:Hp w X (ch::.row 68 1 vn E.length E::.row 3 1 (Β (Δ ⟨g,0,Γ⟩) K.length c) K.length (K.map iv)::.obj g9 (Ε (trA (λx=>C.getD x 0) vn (Β (Δ ⟨ba,oa,Γ⟩) I ca)) 79 (0,0))::.obj g7 (Ε ϖ 79 (0,0))::.obj G (Ε A 79 (0,0))::C1 E N))=>
        (show X.cell? ⟨G,256,Γ⟩=Δ (Β (Δ ⟨bn,on,Γ⟩) I cn)/\X.cell? ⟨bn,on+s,Γ⟩=Δ (Β (Δ ⟨br,bz,Γ⟩) t.cells cr)/\X.cell? ⟨br,bz+q,Γ⟩=Δ (iv z)/\X.cell? ⟨g,k,Γ⟩=Δ (iv q) from
         ⟨Ay (h.obj 5 rfl) b4.out,h.ext.cell ed,h.ext.cell cx,by rw[<-hq];exact Am 0 (h.row 2 rfl) rfl k bu⟩))
       clear ee hq hz ed cx;have ar:=D.extW (Ι wr).drew;refine B0 14 [(0,Ξ),(1,Ξ),(2,Ξ),(3,Ξ),(4,Ξ),(5,Ξ),(6,Ξ),(7,Ξ),(8,Ξ),(9,Ξ),(10,Ξ),(11,Ξ),(12,Τ),(13,Τ),(14,Τ)] (by kernel_rfl) (by kernel_rfl) (λ_ _ _ _ h=>h)
        (λW=>W.cell? ⟨G,256,Γ⟩=Δ (Β (Δ ⟨bn,on,Γ⟩) I cn)/\W.cell? ⟨bn,on+s,Γ⟩=Δ (Β (Δ ⟨br,bz,Γ⟩) t.cells cr)/\W.cell? ⟨br,bz+q,Γ⟩=Δ (iv z)/\W.cell? ⟨g,k,Γ⟩=Δ (iv q)) (cz.out _ _ ar) ?_
       clear D;obtain⟨wd,c2⟩:∃ X,wr.drew=X:=⟨_,rfl⟩;rw[c2] at ar;rw[c2];clear c2;iterate 12
        refine Ao (v:=?_) rfl rfl (λV hV=>?_) ?_
        rotate_left
        ·obtain⟨v1,v2,v3,v4⟩:=hV;go_simp;first|done|with_reducible rfl
        simp only[Ϛ,Θ,Χ,Ψ]
       have dx:=ar.size;refine A4 rfl (λKq al=>?_);go_simp;refine al _ _ (λ_=>cz.out _ _ (ar.alloc _)) ?_;clear al Kq;refine A4 rfl (λKq al=>?_);refine step_append_lies _ rfl _ _ 68 rfl w.heap.size 3 i0 (.int ζ 0) 1 8 ϓ hi db dc dd rfl (by decide) _ _ _ rfl ((ar.row 0 rfl).alloc _) _ 1 1 [iv z] rfl rfl (Ϫ _ _ _) (by simp[ϊ]) (by decide) (by unfold ϙ;omega) (by omega) (by simp;omega) _ rfl ?_;intro gq c7 w7 bg aj ak _;have T:=(ar.alloc (Ε #[iv z] 3)).app 0 rfl bg aj ak;clear bg aj ak ar;refine al _ _ (λ_=>cz.out _ _ T) ?_;clear al Kq;refine A4 rfl (λKq al=>?_);go_simp;refine al _ _ (λh=>absurd h (by omega)) ?_;clear al Kq;refine B2 ?_;go_wp2;go_roundw
       case rel=>exact⟨r++[z],gq,c7,k+1,by omega,by rw[Ο];rfl,by go_num,by rw[Ο,ϔ];exact T,fg⟩
       case measure=>simp[intOf];omega
      ·obtain rfl:k=K.length:=by omega
       have fk:Ϻ (r=K.map λk=>t.ent2 s k):=Α (by rw[HR.out,List.take_length]);have c1:=Ay (D.obj 3 rfl) (F9 _ _ _);have dx:=D.size;go_upto_region 14 with (at_builtin;refine ϐ _ rfl _ _ 27 rfl w.heap.size 68 i6 (Β Γ 0 0) 1 24 ê en eo ep er rfl (by decide) vn E.length E rfl ((D.row 1 rfl).alloc _) _ 1 1 [Β (Δ ⟨g',0,Γ⟩) r.length c'] rfl rfl (Ϫ _ _ _) (by simp[ϊ]) (by decide) (by unfold ϙ;omega) (by omega) (by simp;omega) _ rfl ?_;intro gq c7 w7 ef aj ak _;have T:=(D.alloc (Ε #[Β (Δ ⟨g',0,Γ⟩) r.length c'] 68)).app 1 rfl ef aj ak;have fm:=Ay (T.obj 3 rfl) (F9 _ _ _);have f17:=T.frozen 3 rfl 256)
       have ct:=(T.cell 3 rfl 256 (Β (Δ ⟨gq,0,Γ⟩) (E.length+1) c7) (Nl _ _ _ _)).park;clear c1 fm f17 ef aj ak T D;have fo:Ϻ ((E++[ϟ (Δ ⟨g',0,Γ⟩) r.length c']).length=(N++[r]).length/\N++[r]=(ι (s+1)).map λj=>K.map λk=>t.ent2 j k):=Α ⟨by rw[Ο,Ο,HN.out.1];rfl,by rw[List.range_succ,ϔ,<-HN.out.2,fk.out];rfl⟩;go_wp2;go_roundw
       case rel=>exact⟨N++[r],E++[Β (Δ ⟨g',0,Γ⟩) r.length c'],_,s+1,by omega,by go_num,by rw[Lt HN.out.1,Ο];exact ct,fo⟩
       case measure=>simp[intOf];omega
    ·obtain rfl:s=I:=by omega
     obtain⟨Af,az⟩:∃ X,trA (λx=>C.getD x 0) vn (Β (Δ ⟨ba,oa,Γ⟩) s ca)=X:=⟨_,rfl⟩;have fp:vn.oneCell'=Ξ:=by
      obtain⟨a,cp,rfl⟩:=Dr (D.row 0 rfl);rfl
     have c3:(Η.info? 79).map (·.size)=Δ Af.size:=by rw[<-az,Dw];exact Cp
     have fq:Af.all (·.oneCell')=Ξ:=by rw[<-az];exact Gy _ _ _ fp rfl
     have fs:ϖ.size=Af.size:=by rw[Fe,<-az,Dw]
     rw[az] at D;have ft:=Α az;have HO:=Α (D.obj 2 rfl);have fv:=Α (D.obj 3 rfl);clear az;go_wp2_with (first
      | (refine Υ rfl 79 (η 3) rfl _ rfl _ _ _ _ HO.out Â rfl c3 ?_)
      | (refine Φ rfl 79 (η 2) (η 84) rfl _ Af rfl rfl _ _ fv.out c3 fs fq ?_))
     have b0:=D.box 3 rfl Af;refine ϋ (v:=.agg Af) (ϵ rfl _ _ _ _ _ _ _ rfl (b0.obj 3 rfl) Â rfl c3) rfl ?_;refine⟨Af,C,P,f,rfl,e9.out,?_,b0.ext⟩;obtain⟨fw,eg,fx,-,fy⟩:=et.out.ext b0.ext;have fz:eg=Β (Δ ⟨ba,oa,Γ⟩) s ca:=by
      have:=Jr t.cell fw eg;rw[<-fx,b5.out] at this;exact (ω this).symm
     have hN:(Cw t C P).n=N:=by
      rw[HN.out.2,fa.out];simp[Cw,ew.out,Function.comp_def]
     refine⟨vn,_,ft.out.symm,?_,by rw[<-fz];exact fy⟩;rw[hN];exact b0.rows 0 5 rfl (λj=>rfl) HN.out.1 (by rw[HN.out.2];simp;omega) (λj hj=>by
      have gb:j<s:=by rw[HN.out.2] at hj;simpa using hj
      rw[HN.out.2];simp[Ζ,gb];omega)
def Zt (t:Tbl):Prop:=∀ (A:Array Ρ) (w:Κ),IsR w A t->Calls Η 57 #[.agg A] w λe w'=>∃ v d,e=.returned v/\IsD w' v d/\Cano d/\(∀ u,d.has u=t.has u)/\Ext w w'
theorem Ahv (t:Tbl) (hv:TVal t) (hm:Zt t) (A:Array Ρ) (w:Κ) (h:IsR w A t) :
  Calls Η 61 #[.agg A] w λe w'=>∃ r,ResOf w' e r/\Lim (λu=>t.has u=Ξ) r/\Ext w w':=by
 obtain⟨_,_,_,_,_,_,ao,ay,_⟩:=h.opened hv;have az:(Η.info? 79).map (·.size)=Δ A.size:=by rw[ao];exact Cp
 have a1:=Α h;have HV:=Α hv;have U:=((Ι w).alloc (Ε A 79)).alloc (Ε #[Β Γ 0 0,Β Γ 0 0,Β Γ 0 0] 30);have H0:=Ag (Ab w (Ε A 79)) (Ε #[Β Γ 0 0,Β Γ 0 0,Β Γ 0 0] 30);have H1:=Ϙ w (Ε A 79) (Ε #[Β Γ 0 0,Β Γ 0 0,Β Γ 0 0] 30);clear h hv ao ay;go_enter Tryz.func61,Tryz.ntmps61;go_upto_region 1 with (fail)
 obtain⟨w1,ab⟩:∃ W,(w.alloc (Ε A 79)).alloc (Ε #[Β Γ 0 0,Β Γ 0 0,Β Γ 0 0] 30)=W:=⟨_,rfl⟩;have be:w1.heap.size=w.heap.size+1+1:=by rw[<-ab,Λ,Λ]
 rw[ab] at U H0 H1;simp only[ab];clear ab;have a6:=Α H0;have a7:=Α H1;clear H0 H1;have hC:=Α (hm A w1 (a1.out.ext U));go_upto_region 2 with (first
  | (refine Υ rfl 79 (η 1) rfl _ rfl _ _ _ _ a6.out Â rfl az ?_)
  | (go_at_call 57;with_reducible refine hC.out.mono ?_;rintro e D ⟨v,d,rfl,hD,ar,au,aw⟩;obtain⟨ac,H,cc,E,G,I,J,M,rfl⟩:=hD.agg)
  | (refine Φ rfl 30 (η 4) (η 6) rfl _ _ rfl rfl _ _ (Ab D _) Ad rfl (Ap _ _ _ rfl rfl rfl) ?_))
 have ad:=aw.trans (((Ι D).alloc (Ε #[Β Γ 0 0,Β Γ 0 0,Β Γ 0 0] 30)).setRow (θ _) (dA (Β ac H cc) (Β E d.n.length G) (Β I J M)));have ai:=hD.ext (((Ι D).alloc (Ε #[Β Γ 0 0,Β Γ 0 0,Β Γ 0 0] 30)).setRow (θ _) (dA (Β ac H cc) (Β E d.n.length G) (Β I J M)));have ae:=μ (D.alloc (Ε #[Β Γ 0 0,Β Γ 0 0,Β Γ 0 0] 30)) D.heap.size _ (dA (Β ac H cc) (Β E d.n.length G) (Β I J M)) _ _ (Ab D _);obtain⟨w3,ak⟩:∃ W,(D.alloc (Ε #[Β Γ 0 0,Β Γ 0 0,Β Γ 0 0] 30)).setRow D.heap.size (dA (Β ac H cc) (Β E d.n.length G) (Β I J M))=W:=⟨_,rfl⟩;rw[ak] at ad ai ae;simp only[ak];clear ak hD aw;have T:=Α (ad.heap a7.out);have a8:=Α ai;have al:=Α ar;have HH:=Α au;have c1:=(cell_of_row w3 D.heap.size 1 _ _ _ ae).trans (show (dA (Β ac H cc) (Β E d.n.length G) (Β I J M))[1]? = Δ (Β E d.n.length G) from rfl);have ba:=Α ae;clear ai ar au ae hC;by_cases bb:64<d.n.length
 ·have bc:=Α Fa;go_wp2_with (first
   | (refine B3 rfl 30 _ rfl #[Β Γ 0 0,Β Γ 0 0,Β Γ 0 0] ?_ ?_;(simp;with_reducible exact bc.out))
   | (refine Φ rfl 30 (η 2) (η 11) rfl _ _ rfl rfl _ _ T.out Ad rfl Ew ?_))
  refine ϋ (v:=.tuple #[zD,.int ζ 2]) (Ba rfl _ _ _ _ _ _ _ rfl _ rfl (μ w3 _ _ #[Β Γ 0 0,Β Γ 0 0,Β Γ 0 0] 30 (0,0) T.out) Ν rfl Ad) rfl ?_;exact⟨Γ,rfl,⟨d,al.out,λu=>by rw[HH.out],bb⟩,(U.trans ad).setRow (by omega) _⟩
 ·go_wp2_with (first
   | (refine Υ rfl 30 (η 4) rfl _ rfl _ _ _ _ ba.out Ν rfl Ad ?_)
   | (refine Φ rfl 30 (η 2) (η 12) rfl _ _ rfl rfl _ _ T.out Ad rfl (Ap _ _ _ rfl rfl rfl) ?_))
  refine ϋ (v:=.tuple #[.agg (dA (Β ac H cc) (Β E d.n.length G) (Β I J M)),.int ζ 0]) (Ba rfl _ _ _ _ _ _ _ rfl _ rfl (μ w3 _ _ (dA (Β ac H cc) (Β E d.n.length G) (Β I J M)) 30 (0,0) T.out) Ν rfl Ad) rfl ?_;exact⟨Δ d,⟨_,rfl,a8.out.setRow al.out.val T.out _⟩,⟨al.out,λu=>by rw[HH.out],by omega⟩,(U.trans ad).setRow (by omega) _⟩
structure ClsI (c:Nat->Nat) (n b:Nat) (L:List Cls):Prop where
 len:L.length=n
 bit:∀ i,i<n->∀ y,y<256->((L.getD i 0#256).getLsbD y=Ξ↔y<b/\c y=i)
theorem All (c:Nat->Nat) (n:Nat):ClsI c n 0 (δ n 0#256) where
 len:=List.length_replicate
 bit:=λi hi y _=>by
  have:(δ n 0#256).getD i 0#256=0#256:=by
   rw[Ζ,ϧ];split<;>rfl
  rw[this];simp
theorem Alm {c:Nat->Nat} {n b:Nat} {L:List Cls} (h:ClsI c n b L) (H:b<256) (I:c b<n):ClsI c n (b+1) (L.set (c b) (Bf (L.getD (c b) 0#256) (b:Int))) where
 len:=by rw[ύ];exact h.len
 bit:=λi hi y G=>by
  rw[Bb _ _ _ _ _ (by rw[h.len];exact I)];by_cases e:i=c b
  ·subst e;rw[if_pos rfl,Iz _ _ _ H,Bool.or_eq_true,h.bit _ hi y G,decide_eq_true_eq];constructor
   ·rintro (⟨E,D⟩|rfl)
    ·exact⟨by omega,D⟩
    ·exact⟨by omega,rfl⟩
   ·rintro⟨E,D⟩;by_cases e:y=b
    ·exact .inr e
    ·exact .inl ⟨by omega,D⟩
  ·rw[if_neg e,h.bit i hi y G];constructor
   ·rintro⟨E,D⟩;exact⟨by omega,D⟩
   ·rintro⟨E,D⟩;refine⟨?_,D⟩;by_cases J:y=b
    ·subst J;exact absurd D.symm e
    ·omega
theorem L7 (r:List Nat) (m v:Nat) (h:r.length<m):(r++δ (m-r.length) 0).set r.length v=(r++[v])++δ (m-(r++[v]).length) 0:=by
 obtain⟨j,D⟩:∃ j,m-r.length=j+1:=⟨m-r.length-1,by omega⟩;rw[List.set_append_right _ _ (θ _),Nat.sub_self,D,List.replicate_succ,Χ,List.append_assoc,Ο,show m-(r.length+[v].length)=j by simp;omega];rfl
theorem Hp.at0 {w0 W:Κ} {L:List Ch} (h:Hp w0 W L) {g:Nat} (hg:g<w0.heap.size) (cs:Array Ρ):∀ c,c∈L->c.At w0.heap.size (W.setRow g cs):=λc D=>
 Ch.kept (h.at_ c D) (Bx W g cs) λk E e=>by
  have:=(Ch.lt (h.at_ c D) k E).1;have:=ω e;omega
theorem Y4 {base:Nat} {W:Κ} {L:List Ch} (h:∀ c,c∈L->c.At base W) (i k:Nat) {v:Ρ} {vs:List Ρ} {N:List (List Nat)} (G:L[i]? = Δ (.row 68 1 v vs.length vs)) (H:∀ j,L[j+k]? = (C1 vs N)[j]?) (D:vs.length=N.length) (hn:N.length<=4611686018427387904) (hm:∀ j,j<N.length->(N.getD j []).length<=4611686018427387904):Rows W v N:=by
 refine⟨vs,D,?_,λj E=>OwnI.ints (base:=base) (h _ (Ä ((H j).trans (Tf D j E)))) (hm j E)⟩;have:=Sl.of_owns (h _ (Ä G):ϛ _ _ _ _ _ _ _) (by rw[D];exact hn) ς;rw[D] at this;exact this
theorem Abl {P:Program} {ops:Array Oper} {o:Oper} {a:Act} {w:Κ} {K:Act->Κ->Prop} {Q:Exit->Act->Κ->Prop} {E:Prop} (ty:TypeId) (x y:Operand) (D:o.op=.store ty x y) (G:o.guard=Γ)
  (b k:Nat) (cells:Array Ρ) (H:a.eval x=γ (Δ ⟨b,k,Γ⟩)) (I:a.eval y=.agg cells) (J:w.there b k cells.size) (hi:(P.info? ty).map (·.size)=Δ cells.size)
  (M:cells.all (·.oneCell')=Ξ) (h:K (a.put o.dst ς) (w.setCells b k cells.toList)):if Ì o (yielded ops a.tmps)=Ξ then Oper.wp P o a w K Q else E:=by
 have T:Ì o (yielded ops a.tmps)=Ξ:=by simp[Ì,G]
 rw[if_pos T];exact wp_store_mid ty x y D b k cells H I J hi M h
theorem Me (t:Tbl) (hv:TVal t) (hn:t.n.length<=65536):Zt t:=by
 intro A w h;obtain⟨_,_,_,_,_,_,ir,lf,_⟩:=h.opened hv;obtain⟨i0,hi,da,db,dc⟩:=ϕ Cg;obtain⟨i4,lh,lj,lk,ll⟩:=ϕ Dt;obtain⟨i6,lo,lp,lq,lr⟩:=ϕ (show (Η.info? 68).map (λi=>(i.zero,i.size,i.bytes))=Δ (Δ (Β Γ 0 0),1,24) by kernel_rfl);obtain⟨ls,lu,lv,lx,ly⟩:=ϕ Pu;have lz:(Η.info? 79).map (·.size)=Δ A.size:=by rw[ir];exact Cp
 have dd:=((Ι w).alloc (Ε A 79)).alloc (Ε #[Β Γ 0 0,Β Γ 0 0,Β Γ 0 0] 30);have H0:=Ag (Ab w (Ε A 79)) (Ε #[Β Γ 0 0,Β Γ 0 0,Β Γ 0 0] 30);have H1:=Ϙ w (Ε A 79) (Ε #[Β Γ 0 0,Β Γ 0 0,Β Γ 0 0] 30);have f99:=λW (G:Ext w W)=>Α (Aib t hv hn A W (h.ext G))
 clear h ir lf;go_enter Tryz.func57,Tryz.ntmps57;go_upto_region 1 with (fail)
 obtain⟨w1,df⟩:∃ W,(w.alloc (Ε A 79)).alloc (Ε #[Β Γ 0 0,Β Γ 0 0,Β Γ 0 0] 30)=W:=⟨_,rfl⟩;have l2:w1.heap.size=w.heap.size+1+1:=by rw[<-df,Λ,Λ]
 have e6:Ϻ (w.heap.size+1<w1.heap.size):=Α (by omega);rw[df] at dd H0 H1;simp only[df];obtain⟨g2,e7⟩:∃ y,w.heap.size+1=y:=⟨_,rfl⟩;have l4:Ϻ (w.heap.size<=g2):=Α (by omega);rw[e7] at H1 e6;simp only[e7];clear df l2 e7;have iu:=Α H0;have cl:=Α H1;have iw:=Α dd;have f99:=f99 w1 dd;clear H0 H1 dd;go_upto_region 2 with (first
  | (refine Υ rfl 79 (η 1) rfl _ rfl _ _ _ _ iu.out Â rfl lz ?_)
  | (go_at_call 99;with_reducible refine f99.out.mono ?_;rintro e w2 ⟨A2,C0,P0,f0,rfl,dh,hu,dk⟩;obtain⟨bn,on,cn,ba,oa,ca,ja,l5,e9,fa,fb,fc,fe⟩:=hu.opened (Vx hv dh);have ff:(Η.info? 79).map (·.size)=Δ A2.size:=(by rw[ja];exact Cp);have l6:ϖ.size=A2.size:=(by rw[Fe,ja]))
  | (refine Φ rfl 79 (η 3) (η 19) rfl _ A2 rfl rfl _ _ (Ab w2 _) ff l6 l5 ?_))
 have HU:=Α (Vx hv dh);have jb:=Α (Aia hv dh);have dp:(Cw t C0 P0).n.length<=65536:=by simp[Cw];exact hn
 obtain⟨u,jc⟩:∃ u,Cw t C0 P0=u:=⟨_,rfl⟩;rw[jc] at hu e9 fa fb fc fe HU jb dp;clear jc dh f99 hv;have nu:=HU.out.cle;have nv:=HU.out.cpos;have fg:=HU.out.pos;have E:=((Hp.nil w2).new (Ε ϖ 79)).box 0 rfl A2;have fh:Ϻ (g2<w2.heap.size):=Α (ε e6.out dk.size);have fj:=Α (iw.out.trans dk);have cl:=Α (dk.heap cl.out);have dq:=Α (λW (G:Ext w2 W)=>hu.ext G);have l7:=Α e9;have l8:=Α fa;have l9:=Α fb;have fk:=Α (λW (G:Ext w2 W)=>fc.ext G);have fl:=Α (λW (G:Ext w2 W) s (hs:s<u.n.length)=>G.cell (fe s hs));clear hu e9 fa fb fc fe dk iu e6 iw;obtain⟨w3,dr⟩:∃ X,(w2.alloc (Ε ϖ 79)).setRow w2.heap.size A2=X:=⟨_,rfl⟩;obtain⟨g3,fm⟩:∃ y,w2.heap.size=y:=⟨_,rfl⟩;rw[fm] at dr E;rw[dr] at E;simp only[fm];simp only[dr];clear dr fm;replace E:Hp w2 w3 [.obj g3 (Ε A2 79 (0,0))]:=E;have HO:=Α (E.obj 0 rfl);refine B0 8 [(0,Ξ),(1,Ξ),(2,Τ),(3,Τ),(4,Ξ),(5,Ξ),(6,Ξ),(7,Ξ),(8,Τ)] (by kernel_rfl) (by kernel_rfl) (λ_ _ _ _ h=>h)
  (λW=>Ext w3 W) (Ι w3).drew ?_
 have dt:=(Ι w3).drew;obtain⟨w4,fq⟩:∃ W,w3.drew=W:=⟨_,rfl⟩;rw[fq] at dt;rw[fq];clear fq;iterate 2
  refine En (v:=.agg A2) rfl rfl (λW G=>D2 79 (η 3) rfl _ rfl _ _ _ _ (G.heap HO.out) Â rfl ff) ?_;simp only[Ϛ,Θ,Χ,Ψ]
 refine Co rfl (λK hK=>?_);go_simp;with_reducible refine (Ad4 u HU.out dp A2 w4 (dq.out _ (E.ext.trans dt))).mono ?_
 rintro e w5 ⟨vl,l,rfl,hl,je,jf⟩;have du:=dt.trans jf;have HL:=Α hl;have nw:l.length<=u.n.length:=by
  have:=Dy l (ι u.n.length) HL.out.nodup λs hs=>List.mem_range.2 (HL.out.lt s hs)
  simpa using this
 have me:Ϻ (l.length<=65536):=Α (by omega);clear hl;refine hK _ _ (λ_=>du) ?_;clear hK K;refine Co rfl (λK hK=>?_);go_simp;with_reducible refine (Amv u HU.out dp l HL.out me.out A2 vl w5 (dq.out _ (E.ext.trans du)) je).mono ?_
 rintro e w6 ⟨vN,vR,N,R,rfl,ji,hB,fs,ft,jk⟩;have dv:=du.trans jk;have jl:=Α ji;have HB:=Α hB;clear hB ji je;refine hK _ _ (λ_=>dv) ?_;clear hK K;iterate 4
  refine En (v:=?_) rfl rfl (λW G=>?_) ?_
  rotate_left
  ·go_simp;first|done|with_reducible rfl
  simp only[Ϛ,Θ,Χ,Ψ]
 refine Co rfl (λK hK=>?_);go_simp;refine hK _ _ (λ_=>dv) ?_;clear hK K;refine B2 ?_;have bq:=E.extW dv;have jm:0<R.length:=by
  have:=HB.out.blk.lt 0 HL.out.zero;omega
 have fu:R.length<=65536:=by
  have:=Jh HB.out.blk;omega
 have jn:=Α (λi (hi:i<R.length)=>HL.out.lt _ (HB.out.blk.mem i hi));have fv:=Α (λi (hi:i<R.length) k (hk:k<u.cells)=>HB.out.blk.lt _ (HL.out.closed _ (HB.out.blk.mem i hi) k hk));have mg:=Α (λi (hi:i<R.length) b (hb:b<256)=>ε (fv.out i hi _ (HU.out.cell_lt b hb)) fu);have fw:=HB.out.blk.lt 0 HL.out.zero;clear dt jf jk du dv E HO;have jo:Sl w6 vN 1 u.n.length (λi=>iv (N.getD i 0)):=by rw[<-jl.out];exact fs
 have f102:=Α (Alv u HU.out dp N jl.out R jm fu jn.out mg.out A2 vN vR w6 (dq.out _ bq.ext) fs ft);obtain⟨bB,oB,cB,rfl,jr⟩:=ä jo fg;obtain⟨bR,oR,cR,rfl,js⟩:=ä ft jm;have HO:=Α (bq.obj 0 rfl);clear fs jo ft;go_upto_region 3 with (fail)
 go_upto_region 4 with (first
  | (refine Υ rfl 79 (η 3) rfl _ rfl _ _ _ _ HO.out Â rfl ff ?_)
  | (go_at_call 102;with_reducible refine f102.out.mono ?_;rintro e w7 ⟨vP,P,C,f,rfl,ea,jt,ju⟩;obtain⟨AC,cf⟩:∃ X,(Au λb=>C.getD b 0)=X:=⟨_,rfl⟩;have jv:(Η.info? 77).map (·.size)=Δ AC.size:=(by rw[<-cf,C3];exact Fj);have jw:AC.all (·.oneCell')=Ξ:=(by rw[<-cf];exact Hl _);have jx:ώ.size=AC.size:=(by rw[F6,<-cf,C3,C3]);simp only[cf])
  | (refine Φ rfl 77 (η 7) (η 33) rfl _ AC rfl rfl _ _ (Ab w7 (Ε ώ 77)) jv jx jw ?_))
 have jy:0<P.length:=by have:=ea.fi.lt 0 (by omega);omega
 have n3:P.length<=256:=ea.fi.le;obtain⟨bP,oP,cP,rfl,j0⟩:=ä jt jy;have cq:=((Ι w7).alloc (Ε ώ 77)).setRow (θ _) AC;have ed:=μ (w7.alloc (Ε ώ 77)) w7.heap.size _ AC _ _ (Ab w7 _);obtain⟨I,ee⟩:∃ X,(w7.alloc (Ε ώ 77)).setRow w7.heap.size AC=X:=⟨_,rfl⟩;obtain⟨mh,fy⟩:∃ y,w7.heap.size=y:=⟨_,rfl⟩;rw[fy] at ee ed cq;rw[ee] at ed cq;simp only[fy];simp only[ee];clear ee fy;have ct:=ju.trans cq;have cg:=Α (bq.ext.trans ct);have fz:=Α (λW (G:Ext I W)=>G.heap (ct.heap HO.out));have mi:=Α (λW (G:Ext I W) b (hb:b<256)=>Ay (G.heap ed) (show AC[b]? = Δ (iv (C.getD b 0)) by rw[<-cf,Hm _ _ hb]));have gb:=Α (λW (G:Ext I W) k (hk:k<u.n.length)=>(ct.trans G).cell (jr k (by omega)));have mj:=Α (λW (G:Ext I W) k (hk:k<R.length)=>(ct.trans G).cell (js k (by omega)));have ml:=Α (λW (G:Ext I W) k (hk:k<P.length)=>(cq.trans G).cell (j0 k (by omega)));have fk:=Α (λW (G:Ext I W)=>fk.out W (cg.out.trans G));have fl:=Α (λW (G:Ext I W)=>fl.out W (cg.out.trans G));have cl:=Α (cg.out.heap cl.out);have fh:Ϻ (g2<I.heap.size):=Α (ε fh.out cg.out.size);have fj:=Α (fj.out.trans cg.out);have gd:=Α ea;clear ju cq ct ed jr js j0 jt ea f102 jv jw jx cf HO bq dq cg;go_upto_region 5 with (at_make;refine ϫ _ rfl _ _ 68 rfl I.heap.size 3 i0 (.int ζ 0) 1 ϓ hi da db ζ ζ _ _ R.length rfl rfl rfl rfl (by rw[dc];omega) (by unfold ϙ;omega) (θ _) ?_;intro w9 j1 j2)
 have E:=(Hp.nil I).made (show w9.ownsRow I.heap.size 3 1 (Β (Δ ⟨I.heap.size,0,Γ⟩) R.length R.length) R.length ((Ea R.length 0).map ov) by rw[P7,<-B7];exact j1) j2;obtain⟨gp,gf⟩:∃ y,I.heap.size=y:=⟨_,rfl⟩;rw[gf] at E;simp only[gf];clear gf j1 j2;go_wp2_with (fail);go_loopw [9] (λvi W=>∃ k:Nat,k<=R.length/\vi=.int ζ k/\Hp I W [.row 3 1 (Β (Δ ⟨gp,0,Γ⟩) R.length R.length) R.length ((Ea R.length k).map ov)])
  (λvi _=>R.length-(intOf vi).toNat)
 case atStart=>exact⟨0,by omega,rfl,E⟩
 case round=>
  clear E;obtain⟨k,hk,rfl,E⟩:=hrel;by_cases ar:k<R.length
  ·have mo:(k:Int)<(R.length:Int):=by omega
   have co:=Am Γ (E.row 0 rfl) (Hf _ _).symm k (by rw[Hf];exact ar);have fo:=(E.row 0 rfl).frozenAt k;have ab:=E.putf 0 rfl k Γ;rw[P8 _ _ ar] at ab;clear E;go_wp2_with (fail);go_roundw
   case rel=>exact⟨k+1,by omega,by go_num,ab⟩
   case measure=>simp[intOf];omega
  ·obtain rfl:k=R.length:=by omega
   rw[P9] at E;have cu:=gb.out wr E.ext 0 fg;obtain⟨x0,ef⟩:∃ x,N.getD 0 0=x:=⟨_,rfl⟩;rw[ef,Nat.add_zero] at cu;rw[ef] at fw;have gg:=Α ef;clear ef;have co:=Am Γ (E.row 0 rfl) (by simp) x0 (by simpa using fw);have fo:=(E.row 0 rfl).frozenAt x0;have ab:=E.putf 0 rfl x0 (Δ 0);have eg:=Α (Vo (t:=u) (B:=λs=>N.getD s 0) (R:=R) (K:=P.map u.cell) (show N.getD 0 0<R.length by rw[gg.out];exact fw) R.length rfl (δ (P.map u.cell).length 0) (by simp));rw[gg.out] at eg;go_upto_region 10 with (fail)
   clear co fo E;obtain⟨wa,bu⟩:∃ X,wr.setCell ⟨gp,x0,Γ⟩ (ov (Δ 0))=X:=⟨_,rfl⟩;rw[bu] at ab;have cv:wr.setCell ⟨gp,x0,Γ⟩ (.int ζ 0)=wa:=bu;simp only[cv];clear bu cv cu;have cu:=gb.out wa ab.ext 0 fg;rw[gg.out,Nat.add_zero] at cu;go_upto_region 11 with (fail)
   have ei:=ab.lit 3 1 #[iv x0] 1 (by unfold ϙ;omega) rfl;obtain⟨wb,bx⟩:∃ X,wa.alloc (Ε #[iv x0] 3)=X:=⟨_,rfl⟩;obtain⟨j4,gh⟩:∃ y,wa.heap.size=y:=⟨_,rfl⟩;rw[bx,gh] at ei;simp only[bx,gh];clear bx gh cu ab;have ej:=ei.size;have j5:=Α (Qz (Δ ⟨wb.heap.size,0,Γ⟩) P.length P.length);go_upto_region 12 with (first
    | (at_make;refine ϫ _ rfl _ _ 26 rfl I.heap.size 62 ls (.agg zA) 4 Tryz.underlying26 lu lv lx ζ ζ _ _ P.length rfl rfl rfl rfl (by rw[ly];omega) (by unfold ϙ;omega) ej ?_;intro wc j6 j7)
    | (refine B3 rfl 30 _ rfl (dA (Β (Δ ⟨wb.heap.size,0,Γ⟩) P.length P.length) (Β Γ 0 0) (Β Γ 0 0)) ?_ ?_;(simp[Act.eval];with_reducible exact j5.out))
    | (refine Φ rfl 30 (η 11) (η 58) rfl _ (dA (Β (Δ ⟨wb.heap.size,0,Γ⟩) P.length P.length) (Β Γ 0 0) (Β Γ 0 0)) rfl rfl _ _ (Ab wc _) Ad rfl (Ap _ _ _ rfl rfl rfl) ?_))
   have j8:=ei.made (show wc.ownsRow I.heap.size 62 4 (Β (Δ ⟨wb.heap.size,0,Γ⟩) P.length P.length) P.length (Cy (δ P.length 0#256)) by rw[<-Vl];exact j6) j7;have bc:=(j8.new (Ε #[Β Γ 0 0,Β Γ 0 0,Β Γ 0 0] 30)).box 0 rfl (dA (Β (Δ ⟨wb.heap.size,0,Γ⟩) P.length P.length) (Β Γ 0 0) (Β Γ 0 0));obtain⟨J,gi⟩:∃ y,wb.heap.size=y:=⟨_,rfl⟩;rw[gi] at bc;simp only[gi];obtain⟨n4,ek⟩:∃ X,(wc.alloc (Ε #[Β Γ 0 0,Β Γ 0 0,Β Γ 0 0] 30)).setRow wc.heap.size (dA (Β (Δ ⟨J,0,Γ⟩) P.length P.length) (Β Γ 0 0) (Β Γ 0 0))=X:=⟨_,rfl⟩;obtain⟨a6,gj⟩:∃ y,wc.heap.size=y:=⟨_,rfl⟩;rw[gj] at ek bc;rw[ek] at bc;simp only[gj];simp only[ek];clear ek gj gi j5 j6 j7 j8 ei ej;go_wp2_with (fail);go_loopw [12] (λvb W=>∃ (Cl:List Cls) (b:Nat),b<=256/\vb=.int ζ b/\Hp I W [.obj a6 (Ε (dA (Β (Δ ⟨J,0,Γ⟩) P.length P.length) (Β Γ 0 0) (Β Γ 0 0)) 30 (0,0)),.row 62 4 (Β (Δ ⟨J,0,Γ⟩) P.length P.length) P.length (Cy Cl),.row 3 1 (Β (Δ ⟨j4,0,Γ⟩) [x0].length 1) [x0].length ([x0].map iv),.row 3 1 (Β (Δ ⟨gp,0,Γ⟩) R.length R.length) R.length (((δ R.length Γ).set x0 (Δ 0)).map ov)]/\Ϻ (ClsI (λx=>C.getD x 0) P.length b Cl))
    (λvb _=>256-(intOf vb).toNat)
   case atStart=>exact⟨_,0,by omega,rfl,bc,Α (All _ _)⟩
   case round=>
    clear bc;obtain⟨Cl,b,hb,rfl,E,HC⟩:=hrel;by_cases ar:b<256
    ·have mq:(b:Int)<256:=by omega
     go_upto_region 15 with (fail)
     obtain⟨cb,cw⟩:∃ x,C.getD b 0=x:=⟨_,rfl⟩;have en:cb<P.length:=by rw[<-cw];exact gd.out.fi.lt b ar
     have gl:=Alm HC.out ar (show C.getD b 0<P.length by rw[cw];exact en);simp only[cw] at gl;have j9:=Α gl;have a7:=Α HC.out.len;have ka:Row wr I.heap.size (Β (Δ ⟨J,0,Γ⟩) Cl.length P.length) Cl:=by
      show ϛ _ _ _ _ _ _ _;rw[a7.out];exact E.row 1 rfl
     have gm:=Α ka;obtain⟨D,hD⟩:∃ x,Cl.getD cb 0#256=x:=⟨_,rfl⟩;rw[hD] at j9;have HF:=Α (λW (G:Ext wr W)=>(show W.cell? ⟨a6,0,Γ⟩=Δ (Β (Δ ⟨J,0,Γ⟩) P.length P.length)/\W.cell? ⟨mh,b,Γ⟩=Δ (iv cb)/\W.cell? ⟨J,cb*4,Γ⟩=Δ (.int .u64 (wd D 0))/\W.cell? ⟨J,cb*4+1,Γ⟩=Δ (.int .u64 (wd D 1))/\
       W.cell? ⟨J,cb*4+2,Γ⟩=Δ (.int .u64 (wd D 2))/\W.cell? ⟨J,cb*4+3,Γ⟩=Δ (.int .u64 (wd D 3)) from
      ⟨Ay (G.heap (E.obj 0 rfl)) rfl,by rw[<-cw];exact mi.out W (E.ext.trans G) b ar,by rw[<-hD];exact Kj (Ah gm.out G) cb (by rw[a7.out];exact en)⟩))
     have hd:=(Ι wr).drew;clear cw gl ka hD;refine B0 15 [(0,Ξ),(1,Ξ),(2,Ξ),(3,Ξ),(4,Ξ),(5,Ξ),(6,Ξ),(7,Ξ),(8,Ξ),(9,Ξ),(10,Ξ),(11,Ξ),(12,Ξ),(13,Τ),(14,Ξ),(15,Τ)] (by kernel_rfl) (by kernel_rfl) (λ_ _ _ _ h=>h)
      (λW=>Ext wr W) hd ?_
     obtain⟨wq,bz⟩:∃ X,wr.drew=X:=⟨_,rfl⟩;rw[bz] at hd;rw[bz];clear bz;iterate 13
      refine Ao (v:=?_) rfl rfl (λV hV=>?_) ?_
      rotate_left
      ·obtain⟨k0,k1,k2,k3,k4,k5⟩:=HF.out V hV;go_simp;first|done|with_reducible rfl
      simp only[Ϛ,Θ,Χ,Ψ]
     refine A4 rfl (λKq ae=>?_);go_simp;with_reducible refine (Rx D (b:Int) (by omega) mq wq).mono ?_
     rintro e we ⟨rfl,kd⟩;have hE:=hd.trans kd;refine ae _ _ (λ_=>hE) ?_;clear ae Kq;have gv:=Ah gm.out hE;have ke:=Α (Lv gv cb (by rw[a7.out];exact en));have hr:=J0 gv cb (by rw[a7.out];exact en) (Bf D (b:Int));have a8:=(E.extW hE).grow 1 rfl (c':=.row 62 4 (Β (Δ ⟨J,0,Γ⟩) P.length P.length) P.length (Cy (Cl.set cb (Bf D (b:Int))))) hr.2 (by
      have:=hr.1;show ϛ _ _ _ _ _ _ _;rw[show Row _ _ _ _=ϛ _ _ _ _ _ _ _ from rfl,ύ,a7.out] at this;exact this) (λg hg=>.inl hg)
     refine Ao (v:=?_) rfl rfl (λV hV=>?_) ?_
     rotate_left
     ·clear hV;go_simp;first|done|with_reducible rfl
     simp only[Ϛ,Θ,Χ,Ψ];clear gv hr E hd kd hE gm HF;refine A4 rfl (λKq ae=>?_);refine Abl 62 (η 77) (η 76) rfl rfl J (cb*4) (Aa (Bf D (b:Int))) rfl rfl ke.out Bg (Eb _) ?_;refine ae _ _ (λh=>absurd h (by omega)) ?_;clear ae Kq ke;refine B2 ?_;go_wp2;go_roundw
     case rel=>exact⟨Cl.set cb (Bf D (b:Int)),b+1,by omega,by go_num,a8,j9⟩
     case measure=>simp[intOf];omega
    ·obtain rfl:b=256:=by omega
     clear ar;simp only[show ((256:Nat):Int)=256 from rfl];have gx:=Agr HU.out (B:=λs=>N.getD s 0) (R:=R) (λi hi k hk=>ε (fv.out i hi k hk) fu) gd.out.fi HC.out.len (λi hi y hy=>by
      rw[HC.out.bit i hi y hy];exact⟨λh=>h.2,λh=>⟨hy,h⟩⟩)
     have a7:=Α HC.out.len;have kf:=Α (λk (hk:k<P.length)=>(show (P.map u.cell).getD k 0=u.cell (P.getD k 0) from Mq _ _ _ hk));have gy:(P.map u.cell).length=P.length:=Ϗ _;obtain⟨Kc,kg⟩:∃ x,P.map u.cell=x:=⟨_,rfl⟩;rw[kg] at gx kf eg gy;have HM:=Α gx;have b4:=Α gy;have bq:=(E.nilRow 4 1).nilRow 68 1;clear gx kg gy E HC;go_wp2_with (fail);go_loopw [10,13] (λvo vi W=>∃ (O:List Nat) (P2:List (Option Nat)) (N':List (List Nat)) (Ac:List Bool) (M:List Ρ) (go co:Nat) (vn va:Ρ) (i:Nat),i<=O.length/\vo=Β (Δ ⟨go,0,Γ⟩) O.length co/\vi=.int ζ i/\
       Hp I W (.row 68 1 vn M.length M::.row 4 1 va Ac.length (Ac.map ο)::.obj a6 (Ε (dA (Β (Δ ⟨J,0,Γ⟩) P.length P.length) vn va) 30 (0,0))::.row 62 4 (Β (Δ ⟨J,0,Γ⟩) P.length P.length) P.length (Cy Cl)::.row 3 1 (Β (Δ ⟨go,0,Γ⟩) O.length co) O.length (O.map iv)::.row 3 1 (Β (Δ ⟨gp,0,Γ⟩) R.length R.length) R.length (P2.map ov)::C1 M N')/\Ϻ (M.length=N'.length/\LInv u (λs=>N.getD s 0) R Kc i 0 O P2 N' (δ Kc.length 0)/\Ac.length=i/\∀ j,j<i->Ac.getD j Τ=u.ok (R.getD (O.getD j 0) 0)))
      (λ_ vi _=>R.length-(intOf vi).toNat)
     case atStart=>exact⟨[x0],(δ R.length Γ).set x0 (Δ 0),[],[],[],j4,1,Β Γ 0 0,Β Γ 0 0,0,by omega,rfl,rfl,bq,Α ⟨rfl,eg.out,rfl,λj hj=>by omega⟩⟩
     case round=>
      clear bq eg;obtain⟨O,P2,N',Ac,M,go,co,vn,va,i,oc,rfl,rfl,E,U⟩:=hrel;have od:=U.out.2.1.len_le;by_cases ar:i<O.length
      ·have oe:(i:Int)<(O.length:Int):=by omega
       have cO:=Am 0 (E.row 4 rfl) rfl i ar;have er:=U.out.2.1.lt i ar;obtain⟨x,hf⟩:∃ x,O.getD i 0=x:=⟨_,rfl⟩;rw[hf] at cO er;have ki:=Α hf;clear hf;have cR:=mj.out wr E.ext x er;have cz:=jn.out x er;have kj:=Α (fv.out x er);obtain⟨s,hh⟩:∃ s,R.getD x 0=s:=⟨_,rfl⟩;rw[hh] at cR cz kj;have kk:=Α hh;clear hh;have og:(s:Int)<(u.n.length:Int):=by omega
       go_upto_region 20 with (fail)
       clear cO cR;have bc:=E.lit 3 1 #[] 0 (by unfold ϙ;omega) rfl;go_upto_region 21 with (fail)
       obtain⟨wb,bx⟩:∃ X,wr.alloc (Ε #[] 3)=X:=⟨_,rfl⟩;obtain⟨mv,hq⟩:∃ y,wr.heap.size=y:=⟨_,rfl⟩;rw[bx,hq] at bc;simp only[bx,hq];clear bx hq E;go_wp2_with (fail);go_loopw [10,15,16] (λvo vr vk W=>∃ (H:List Nat) (P3:List (Option Nat)) (r:List Nat) (b5 b6 gr cr k:Nat),k<=P.length/\vo=Β (Δ ⟨b5,0,Γ⟩) H.length b6/\vr=Β (Δ ⟨gr,0,Γ⟩) r.length cr/\vk=.int ζ k/\
         Hp I W (.row 3 1 (Β (Δ ⟨gr,0,Γ⟩) r.length cr) r.length (r.map iv)::.row 68 1 vn M.length M::.row 4 1 va Ac.length (Ac.map ο)::.obj a6 (Ε (dA (Β (Δ ⟨J,0,Γ⟩) P.length P.length) vn va) 30 (0,0))::.row 62 4 (Β (Δ ⟨J,0,Γ⟩) P.length P.length) P.length (Cy Cl)::.row 3 1 (Β (Δ ⟨b5,0,Γ⟩) H.length b6) H.length (H.map iv)::.row 3 1 (Β (Δ ⟨gp,0,Γ⟩) R.length R.length) R.length (P3.map ov)::C1 M N')/\Ϻ (r.length=k/\LInv u (λs=>N.getD s 0) R Kc i k H P3 N' (r++δ (P.length-r.length) 0)/\i<H.length/\∀ j,j<=i->H.getD j 0=O.getD j 0))
        (λ_ _ vk _=>P.length-(intOf vk).toNat)
       case atStart=>exact⟨O,P2,[],go,co,mv,0,0,by omega,rfl,rfl,rfl,bc,Α ⟨rfl,by have:=U.out.2.1;rw[b4.out] at this;exact this,ar,λ_ _=>rfl⟩⟩
       case round=>
        clear bc;obtain⟨H,P3,r,b5,b6,gr,cr,k,hk,rfl,rfl,rfl,E,T⟩:=hrel;have c2:=Α T.out.2.1.lenP;have oh:=T.out.2.1.len_le;have om:r.length<=256:=by have:=T.out.1;omega
        have ej:=E.size;by_cases bj:k<P.length
        ·have mo:(k:Int)<(P.length:Int):=by omega
         go_upto_region 24 with (fail)
         obtain⟨p,hp⟩:∃ p,P.getD k 0=p:=⟨_,rfl⟩;have et:=(gd.out.fi.byte k bj).1;have eu:=kf.out k bj;rw[hp] at et eu;have c3:=HU.out.cell_lt p et;obtain⟨c,hc⟩:∃ c,u.cell p=c:=⟨_,rfl⟩;rw[hc] at c3 eu;have h3:=HU.out.tgt s cz c c3;have cj:N.getD (u.ent2 s c) 0<R.length:=kj.out c c3;obtain⟨br,ew,kl,km,kn⟩:=fk.out I (Ι I) s cz;have ky:=kn c c3;have ck:Ϻ (N.getD (u.ent2 (R.getD (H.getD i 0) 0) (Kc.getD k 0)) 0=N.getD (u.ent2 s c) 0):=Α (by rw[T.out.2.2.2 i (θ _),ki.out,kk.out,eu]);obtain⟨y,hy⟩:∃ y,u.ent2 s c=y:=⟨_,rfl⟩;rw[hy] at h3 cj ky ck;obtain⟨z,hz⟩:∃ z,N.getD y 0=z:=⟨_,rfl⟩;rw[hz] at cj ck;have q1:=λW (G:Ext wr W)=>Ay (fz.out W (E.ext.trans G)) l8.out
         have q2:=λW (G:Ext wr W)=>(E.ext.trans G).cell km
         have q3:=λW (G:Ext wr W)=>ml.out W (E.ext.trans G) k bj
         have q4:=λW (G:Ext wr W)=>Ay (fz.out W (E.ext.trans G)) (l7.out p et)
         have q5:=λW (G:Ext wr W)=>(E.ext.trans G).cell ky
         have q6:=λW (G:Ext wr W)=>gb.out W (E.ext.trans G) y h3
         rw[hp] at q3;rw[hc] at q4;rw[hz] at q6;clear kn hy hz hc hp eu;refine Dv 153 Ξ [Β (Δ ⟨bB,oB,Γ⟩) u.n.length cB,γ (Δ ⟨g3,256,Γ⟩),Β (Δ ⟨bn,on,Γ⟩) u.n.length cn,iv s,γ (Δ ⟨bn,on+s,Γ⟩),Β (Δ ⟨br,ew,Γ⟩) u.cells kl,Β (Δ ⟨bP,oP,Γ⟩) P.length cP,iv k,γ (Δ ⟨bP,oP+k,Γ⟩),iv p,γ (Δ ⟨g3,0,Γ⟩),γ (Δ ⟨g3,p,Γ⟩),iv c,γ (Δ ⟨br,ew+c,Γ⟩),iv y,γ (Δ ⟨bB,oB+y,Γ⟩),iv z,iv z] [.keep,.pure,Iv (η 99) g3 256 _ q1,.keep,Iw (η 100) (η 101) bn on u.n.length cn s cz,Iu (η 102) bn (on+s) _ q2,.keep,.keep,Cx (η 104) (η 105) bP oP P.length cP k bj,ld3 (η 106) bP (oP+k) _ q3,.pure,E7 (η 108) (η 107) g3 p et,ld3 (η 109) g3 p _ q4,Cx (η 103) (η 110) br ew u.cells kl c c3,ld3 (η 111) br (ew+c) _ q5,Cx (η 98) (η 112) bB oB u.n.length cB y h3,ld3 (η 113) bB (oB+y) _ q6,.keep] (λ_=>by kernel_rfl) (by kernel_rfl) rfl rfl (λW=>by kernel_rfl) (by kernel_rfl) ?_;intro W G;simp only[Bz,Ϛ,Θ,Χ,Ψ];have ab:=E.extW G;have cp:=Am Γ (ab.row 6 rfl) c2.out.symm z (by rw[c2.out];exact cj);have oo:(z:Int)<(R.length:Int):=by omega
         obtain⟨o,ho⟩:∃ o,P3.getD z Γ=o:=⟨_,rfl⟩;rw[ho] at cp;have HO:=Α ho;have my:=ab.size;clear ho E G q1 q2 q3 q4 q5 q6 km ky ej;cases o with
         | some v=>
          replace cp:W.cell? ⟨gp,z,Γ⟩=Δ (iv v):=cp;have h9:=Α (Vr T.out.2.1 (by rw[b4.out];exact bj) v (by
           show P3.getD (N.getD (u.ent2 (R.getD (H.getD i 0) 0) (Kc.getD k 0)) 0) Γ=Δ v;rw[ck.out];exact HO.out))
          go_upto_region 28 with (fail)
          go_upto_region 23 with (at_builtin;refine ϐ _ rfl _ _ 68 rfl I.heap.size 3 i0 (.int ζ 0) 1 8 ϓ hi da db dc rfl (by decide) _ _ _ rfl ((ab.row 0 rfl).alloc _) _ 1 1 [iv v] rfl rfl (Ϫ _ _ _) (by simp[ϊ]) (by decide) (by unfold ϙ;omega) (by omega) (by simp;omega) _ rfl ?_;intro gq c7 ey c4 bm bo _)
          have aq:=(ab.alloc (Ε #[iv v] 3)).app 0 rfl c4 bm bo;clear c4 bm bo ab cp;have ia:Ϻ ((r++[v]).length=k+1/\LInv u (λs=>N.getD s 0) R Kc i (k+1) H P3 N' ((r++[v])++δ (P.length-(r++[v]).length) 0)/\i<H.length/\∀ j,j<=i->H.getD j 0=O.getD j 0):=Α ⟨by rw[Ο,T.out.1];rfl,by
           rw[<-L7 r P.length v (by rw[T.out.1];exact bj),T.out.1];have:=h9.out;rw[T.out.1] at this;exact this,T.out.2.2⟩
          go_wp2;go_roundw
          case rel=>exact⟨H,P3,r++[v],b5,b6,gq,c7,k+1,by omega,rfl,by rw[Ο];rfl,by go_num,by rw[Ο,ϔ];exact aq,ia⟩
          case measure=>simp[intOf];omega
         | none=>
          replace cp:W.cell? ⟨gp,z,Γ⟩=Δ (.int ζ (-1)):=cp;have ib:=Vs T.out.2.1 (by rw[b4.out];exact bj) T.out.2.2.1 (by
           show N.getD (u.ent2 (R.getD (H.getD i 0) 0) (Kc.getD k 0)) 0<R.length;rw[ck.out];exact cj) (by
           show P3.getD (N.getD (u.ent2 (R.getD (H.getD i 0) 0) (Kc.getD k 0)) 0) Γ=Γ;rw[ck.out];exact HO.out)
          rw[ck.out] at ib;have h9:=Α ib;clear ib;have fp:=(ab.row 6 rfl).frozenAt z;have c5:=ab.putf 6 rfl z (Δ H.length);clear ab;go_upto_region 27 with (fail)
          obtain⟨na,bu⟩:∃ X,W.setCell ⟨gp,z,Γ⟩ (ov (Δ H.length))=X:=⟨_,rfl⟩;rw[bu] at c5;have cv:W.setCell ⟨gp,z,Γ⟩ (.int ζ (H.length:Int))=na:=bu;simp only[cv];clear bu cv cp fp my;have nb:=c5.size;go_upto_region 28 with (at_builtin;refine ϐ _ rfl _ _ 68 rfl I.heap.size 3 i0 (.int ζ 0) 1 8 ϓ hi da db dc rfl (by decide) _ _ _ rfl ((c5.row 5 rfl).alloc _) _ 1 1 [iv z] rfl rfl (Ϫ _ _ _) (by simp[ϊ]) (by decide) (by unfold ϙ;omega) (by omega) (by simp;omega) _ rfl ?_;intro gq c7 ey c4 bm bo _)
          have aq:=(c5.alloc (Ε #[iv z] 3)).app 5 rfl c4 bm bo;have nc:=aq.size;clear c4 bm bo c5 nb;have cp:=Am Γ (aq.row 6 rfl) (by rw[ύ];exact c2.out.symm) z (by rw[ύ,c2.out];exact cj);rw[Bb _ _ _ _ _ (by rw[c2.out];exact cj),if_pos rfl] at cp;replace cp:ey.cell? ⟨gp,z,Γ⟩=Δ (iv H.length):=cp;go_upto_region 23 with (at_builtin;refine ϐ _ rfl _ _ 68 rfl I.heap.size 3 i0 (.int ζ 0) 1 8 ϓ hi da db dc rfl (by decide) _ _ _ rfl ((aq.row 0 rfl).alloc _) _ 1 1 [iv H.length] rfl rfl (Ϫ _ _ _) (by simp[ϊ]) (by decide) (by unfold ϙ;omega) (by omega) (by simp;omega) _ rfl ?_;intro nd c8 oq kq kr ks _)
          have a8:=(aq.alloc (Ε #[iv H.length] 3)).app 0 rfl kq kr ks;clear kq kr ks aq cp nc;have ia:Ϻ ((r++[H.length]).length=k+1/\LInv u (λs=>N.getD s 0) R Kc i (k+1) (H++[z]) (P3.set z (Δ H.length)) N' ((r++[H.length])++δ (P.length-(r++[H.length]).length) 0)/\i<(H++[z]).length/\∀ j,j<=i->(H++[z]).getD j 0=O.getD j 0):=Α ⟨by rw[Ο,T.out.1];rfl,by
           rw[<-L7 r P.length H.length (by rw[T.out.1];exact bj),T.out.1];have:=h9.out;rw[T.out.1] at this;exact this,by rw[Ο];have:=T.out.2.2.1;omega,λj hj=>by
           rw[Bt _ _ _ _ (by have:=T.out.2.2.1;omega)];exact T.out.2.2.2 j hj⟩
          go_wp2;go_roundw
          case rel=>exact⟨H++[z],P3.set z (Δ H.length),r++[H.length],gq,c7,nd,c8,k+1,by omega,by rw[Ο];rfl,by rw[Ο];rfl,by go_num,by rw[Ο,Ο,ϔ,ϔ];exact a8,ia⟩
          case measure=>simp[intOf];omega
        ·obtain rfl:k=P.length:=by omega
         have kt:=Vq (r:=r) (by
          have:=T.out.2.1;rw[T.out.1,Nat.sub_self,List.replicate_zero,List.append_nil] at this;rw[b4.out];exact this) T.out.2.2.1 (δ Kc.length 0) (by simp)
         have ng:=Α kt;have nh:M.length<=65536:=by rw[U.out.1,U.out.2.1.lenN];omega
         clear kt;have c1:=Ay (E.obj 3 rfl) (show (dA (Β (Δ ⟨J,0,Γ⟩) P.length P.length) vn va)[1]? = Δ vn from rfl);go_upto_region 30 with (at_builtin;refine ϐ _ rfl _ _ 27 rfl I.heap.size 68 i6 (Β Γ 0 0) 1 24 ê lo lp lq lr rfl (by decide) vn M.length M rfl ((E.row 1 rfl).alloc _) _ 1 1 [Β (Δ ⟨gr,0,Γ⟩) r.length cr] rfl rfl (Ϫ _ _ _) (by simp[ϊ]) (by decide) (by unfold ϙ;omega) (by omega) (by simp;omega) _ rfl ?_;intro gq c7 ey ku bm bo _;have aq:=(E.alloc (Ε #[Β (Δ ⟨gr,0,Γ⟩) r.length cr] 68)).app 1 rfl ku bm bo;have nj:=Ay (aq.obj 3 rfl) (show (dA (Β (Δ ⟨J,0,Γ⟩) P.length P.length) vn va)[1]? = Δ vn from rfl);have f17:=aq.frozen 3 rfl 1)
         have a8:=(aq.cell 3 rfl 1 (Β (Δ ⟨gq,0,Γ⟩) (M.length+1) c7) (show _=dA (Β (Δ ⟨J,0,Γ⟩) P.length P.length) (Β (Δ ⟨gq,0,Γ⟩) (M.length+1) c7) va from rfl)).park;clear c1 nj f17 ku bm bo aq E;obtain⟨wx,ie⟩:∃ X,ey.setCell ⟨a6,1,Γ⟩ (Β (Δ ⟨gq,0,Γ⟩) (M.length+1) c7)=X:=⟨_,rfl⟩;rw[ie] at a8;simp only[ie];clear ie;obtain⟨b7,ig⟩:∃ v,ϟ (Δ ⟨gq,0,Γ⟩) (M.length+1) c7=v:=⟨_,rfl⟩;rw[ig] at a8;simp only[ig];clear ig;replace a8:Hp I wx (.row 68 1 b7 (M.length+1) (M++[Β (Δ ⟨gr,0,Γ⟩) r.length cr])::.row 4 1 va Ac.length (Ac.map ο)::.obj a6 (Ε (dA (Β (Δ ⟨J,0,Γ⟩) P.length P.length) b7 va) 30 (0,0))::.row 62 4 (Β (Δ ⟨J,0,Γ⟩) P.length P.length) P.length (Cy Cl)::.row 3 1 (Β (Δ ⟨b5,0,Γ⟩) H.length b6) H.length (H.map iv)::.row 3 1 (Β (Δ ⟨gp,0,Γ⟩) R.length R.length) R.length (P3.map ov)::C1 M N'++[.row 3 1 (Β (Δ ⟨gr,0,Γ⟩) r.length cr) r.length (r.map iv)]):=a8;obtain⟨ok,ih⟩:∃ b,u.ok s=b:=⟨_,rfl⟩;have ij:=fl.out I (Ι I) s cz;rw[ih] at ij;have nk:=Α ih;clear ih;have ez:=Α (λ(X:Κ) (vz:Ρ) (xs:List Ρ) (h:Hp I X (.row 68 1 b7 (M.length+1) (M++[Β (Δ ⟨gr,0,Γ⟩) r.length cr])::.row 4 1 vz xs.length xs::.obj a6 (Ε (dA (Β (Δ ⟨J,0,Γ⟩) P.length P.length) b7 va) 30 (0,0))::.row 62 4 (Β (Δ ⟨J,0,Γ⟩) P.length P.length) P.length (Cy Cl)::.row 3 1 (Β (Δ ⟨b5,0,Γ⟩) H.length b6) H.length (H.map iv)::.row 3 1 (Β (Δ ⟨gp,0,Γ⟩) R.length R.length) R.length (P3.map ov)::C1 M N'++[.row 3 1 (Β (Δ ⟨gr,0,Γ⟩) r.length cr) r.length (r.map iv)]))=>
          (show X.cell? ⟨a6,2,Γ⟩=Δ va/\X.cell? ⟨g3,257,Γ⟩=Δ (Β (Δ ⟨ba,oa,Γ⟩) u.n.length ca)/\X.cell? ⟨ba,oa+s,Γ⟩=Δ (.bool ok) from
           ⟨Ay (h.obj 2 rfl) rfl,Ay (fz.out X h.ext) l9.out,h.ext.cell ij⟩))
         have b8:=a8.extW (Ι wx).drew;have e0:(Ac.map ο).length=Ac.length:=Ϗ _;refine B0 10 [(0,Ξ),(1,Ξ),(2,Ξ),(3,Ξ),(4,Ξ),(5,Ξ),(6,Ξ),(7,Τ),(8,Τ),(9,Ξ),(10,Τ)] (by kernel_rfl) (by kernel_rfl) (λ_ _ _ _ h=>h)
          (λW=>W.cell? ⟨a6,2,Γ⟩=Δ va/\W.cell? ⟨g3,257,Γ⟩=Δ (Β (Δ ⟨ba,oa,Γ⟩) u.n.length ca)/\W.cell? ⟨ba,oa+s,Γ⟩=Δ (.bool ok)) (ez.out _ _ (Ac.map ο) (by rw[e0];exact b8)) ?_
         clear a8 ij;obtain⟨wq,bz⟩:∃ X,wx.drew=X:=⟨_,rfl⟩;rw[bz] at b8;rw[bz];clear bz;iterate 7
          refine Ao (v:=?_) rfl rfl (λV hV=>?_) ?_
          rotate_left
          ·obtain⟨k0,k1,k2⟩:=hV;go_simp;first|done|with_reducible rfl
          simp only[Ϛ,Θ,Χ,Ψ]
         have nm:=b8.size;have ot:Ac.length<=65536:=by rw[U.out.2.2.1];omega
         refine A4 rfl (λKq ae=>?_);go_simp;refine ae _ _ (λ_=>ez.out _ _ (Ac.map ο) (by rw[e0];exact b8.alloc _)) ?_;clear ae Kq;refine A4 rfl (λKq ae=>?_);refine step_append_lies _ rfl _ _ 28 rfl I.heap.size 4 i4 (.bool Τ) 1 1 Tryz.underlying28 lh lj lk ll rfl (by decide) va Ac.length (Ac.map ο) rfl ((b8.row 1 rfl).alloc _) _ 1 1 [.bool ok] rfl rfl (Ϫ _ _ _) (by simp[ϊ]) (by decide) (by unfold ϙ;omega) (by omega) (by simp;omega) _ rfl ?_;intro ga il im kv kx kz _;have c6:=(b8.alloc (Ε #[.bool ok] 4)).app 1 rfl kv kx kz;clear kv kx kz b8 nm;have k6:Ϻ (im.cell? ⟨a6,2,Γ⟩=Δ va/\im.cell? ⟨g3,257,Γ⟩=Δ (Β (Δ ⟨ba,oa,Γ⟩) u.n.length ca)/\im.cell? ⟨ba,oa+s,Γ⟩=Δ (.bool ok)):=Α (ez.out _ _ (Ac.map ο++[.bool ok]) (by rw[Ο,e0];exact c6));refine ae _ _ (λ_=>k6.out) ?_;clear ae Kq;refine Ao (v:=?_) rfl rfl (λV hV=>?_) ?_
         rotate_left
         ·clear hV;go_simp;first|done|with_reducible rfl
         simp only[Ϛ,Θ,Χ,Ψ];have k2:=Ay (c6.obj 2 rfl) (show (dA (Β (Δ ⟨J,0,Γ⟩) P.length P.length) b7 va)[2]? = Δ va from rfl);have f2:=c6.frozen 2 rfl 2;refine A4 rfl (λKq ae=>?_);go_simp;refine ae _ _ (λh=>absurd h (by omega)) ?_;clear ae Kq k2 f2;refine B2 ?_;have nn:=c6.cell 2 rfl 2 (Β (Δ ⟨ga,0,Γ⟩) (Ac.length+1) il) (show _=dA (Β (Δ ⟨J,0,Γ⟩) P.length P.length) b7 (Β (Δ ⟨ga,0,Γ⟩) (Ac.length+1) il) from rfl);clear c6 k6 ez e0;have np:Ϻ ((M++[ϟ (Δ ⟨gr,0,Γ⟩) r.length cr]).length=(N'++[r]).length/\LInv u (λs=>N.getD s 0) R Kc (i+1) 0 H P3 (N'++[r]) (δ Kc.length 0)/\(Ac++[ok]).length=i+1/\∀ j,j<i+1->(Ac++[ok]).getD j Τ=u.ok (R.getD (H.getD j 0) 0)):=
          Α ⟨by rw[Ο,Ο,U.out.1];rfl,ng.out,by rw[Ο,U.out.2.2.1];rfl,λj hj=>by
           rw[T.out.2.2.2 j (by omega),He,U.out.2.2.1];by_cases k7:j<i
           ·rw[if_pos k7];exact U.out.2.2.2 j k7
           ·obtain rfl:j=i:=by omega
            rw[if_neg (by omega),if_pos rfl,ki.out,kk.out,nk.out]⟩
         have ou:=T.out.2.2.1;go_wp2;go_roundw
         case rel=>exact⟨H,P3,N'++[r],Ac++[ok],M++[Β (Δ ⟨gr,0,Γ⟩) r.length cr],b5,b6,b7,Β (Δ ⟨ga,0,Γ⟩) (Ac.length+1) il,i+1,by omega,rfl,by go_num,by rw[Lt U.out.1,Ο,Ο,ϔ];exact nn,np⟩
         case measure=>simp[intOf];omega
      ·obtain rfl:i=O.length:=by omega
       have nq:0<Kc.length:=by rw[b4.out];exact jy
       have nr:=Α (Vt (L:=Cl) (by rw[b4.out,a7.out]) nq U.out.2.1 rfl U.out.2.2.1 U.out.2.2.2);have k9:=Α (V0 HU.out HL.out HB.out HM.out nr.out);have la:=Α (E.ext.heap cl.out);obtain⟨an,e2,rfl⟩:=Dr (E.row 0 rfl);obtain⟨aa,e4,rfl⟩:=Dr (E.row 1 rfl);have HD:=Α (E.obj 2 rfl);have nh:M.length<=65536:=by rw[U.out.1,U.out.2.1.lenN];omega
       go_wp2_with (first
        | (refine Υ rfl 30 (η 11) rfl _ rfl _ _ _ _ HD.out Ν rfl Ad ?_)
        | (refine Φ rfl 30 (η 2) (η 152) rfl _ _ rfl rfl _ _ la.out Ad rfl (Ap _ _ _ rfl rfl rfl) ?_))
       have iq:=E.at0 fh.out (dA (Β (Δ ⟨J,0,Γ⟩) P.length P.length) (Β an M.length e2) (Β aa Ac.length e4));refine ϋ (v:=.agg (dA (Β (Δ ⟨J,0,Γ⟩) P.length P.length) (Β an M.length e2) (Β aa Ac.length e4))) (ϵ rfl _ _ _ _ _ _ _ rfl (μ wr _ _ (dA (Β (Δ ⟨J,0,Γ⟩) P.length P.length) (Β an M.length e2) (Β aa Ac.length e4)) 30 (0,0) la.out) Ν rfl Ad) rfl ?_;refine⟨_,⟨Cl,N',Ac⟩,rfl,⟨_,_,_,rfl,?_,Y4 iq 0 6 rfl (λj=>rfl) U.out.1 (by rw[<-U.out.1];omega) (λj hj=>by rw[U.out.2.1.rows j (by rw[<-U.out.2.1.lenN];exact hj),b4.out];omega),OwnB.bools (base:=I.heap.size) (iq _ (Ä (i:=1) rfl)) (by rw[U.out.2.2.1];omega)⟩,k9.out.1,λx=>by rw[k9.out.2,jb.out],?_⟩
       ·have h1:Row (wr.setRow g2 (dA (Β (Δ ⟨J,0,Γ⟩) P.length P.length) (Β an M.length e2) (Β aa Ac.length e4))) I.heap.size (Β (Δ ⟨J,0,Γ⟩) Cl.length P.length) Cl:=by
         show ϛ _ _ _ _ _ _ _;rw[a7.out];exact iq _ (Ä (i:=3) rfl)
        have h2:=h1.toCs (by rw[a7.out];omega);rw[a7.out] at h2;exact h2
       ·exact (fj.out.trans E.ext).setRow l4.out _
end Go.Proofs.YtaiogolidlamiaaGreatDoor
