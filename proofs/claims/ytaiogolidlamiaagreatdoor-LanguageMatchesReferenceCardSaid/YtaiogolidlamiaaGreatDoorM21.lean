import Derived.Test.YtaiogolidlamiaaGreatDoorM19
import Derived.Test.YtaiogolidlamiaaGreatDoorM20
import Derived.Test.YtaiogolidlamiaaGreatDoorM16
import Derived.Test.YtaiogolidlamiaaGreatDoorM11
import Derived.Test.YtaiogolidlamiaaGreatDoorM14
import Derived.Test.YtaiogolidlamiaaGreatDoorRows
import Derived.ProofKit
import Derived.LaidMore
import Derived.OpenShut
import Derived.Stop.Joined
import Derived.Lib.LaidTab
set_option linter.unusedVariables false
set_option linter.unusedSimpArgs false
open Bool renaming true → Ξ, false → Τ
open Classical renaming byContradiction → ϩ
open Go renaming Value → Ρ, World → Κ, Calls → Ϝ, info_parts → ϕ, heap_alloc2_new → Ϙ, wpList_load_row → Υ, wpList_store_row → Φ, maxLen → ϙ, wpList_append_lies → ϐ, bodyPost_ret → ϋ, setRow_heap → μ, undef → ς, size_setRow → Õ, cell_of_row → Ω, cell_one_new → Ϫ, frozen_of_row → Ϯ, setCell_eq_setRow → Ϥ, TypeId → Á
open Go.Ending renaming returned → ν
open Go.IntKind renaming i64 → ζ
open Go.Lib renaming hid → Α
open Go.Obj renaming cells → Ε
open Go.Operand renaming tmp → η
open Go.Proofs.Tryz renaming prog → Η, underlying30 → Ν, zeroCells79 → ϖ, underlying28 → Ã, underlying22 → Ϸ
open Go.RowKit renaming Hid → Ϻ
open Go.Value renaming slice → Β, bool → ο, tuple → ϥ, slice → ϟ, oneCell' → ϊ
open Go.World renaming ownsRow → ϛ, size_alloc → Λ
open Int renaming toNat_natCast → ß
open List renaming getD_eq_getElem?_getD → Ζ, getElem?_eq_getElem → Μ, ext_getElem? → ϡ, getElem?_set → ϲ, replicate → δ, length_append → Ο, getElem?_append_left → Ϣ, length_set → ύ, getElem?_append_right → ϑ, getElem?_cons_zero → Ö, getElem?_replicate → ϧ, getElem_mem → á, map_append → ϔ
open Nat renaming le_refl → θ, lt_of_lt_of_le → ε, le_trans → ψ
open Option renaming some → Δ, none → Γ, getD_some → à
open Option.some renaming inj → ω
open UInt8 renaming ofNat → χ
namespace Go.Proofs.YtaiogolidlamiaaGreatDoor
set_option maxRecDepth 100000
set_option maxHeartbeats 8000000
open Go.RowKit Go.Shelf
theorem Aek (d:Dfa) (hv:Val d) (hn:d.n.length<=64) (v:Ρ) (w:Κ) (h:IsD w v d) :
  Ϝ Η 17 #[v] w λe w'=>∃ r,ResOf w' e (Δ r)/\Cano r/\(∀ x,r.has x=Ξ↔∃ u,d.has (x++u)=Ξ)/\Ext w w':=by
 have HD:=Α h;have f50:=λW (hW:Ext w W)=>Α (Gx d hv hn _ W (HD.out.ext hW))
 have f51:=λW (hW:Ext w W)=>Α (J5 d hv hv.parts.le _ W (HD.out.ext hW))
 have H:=Α (Bm hv);have bz:=Α (Dn d);have da:(Ae d).n.length<=64:=hn;obtain⟨i4,dc,dd,de,df⟩:=ϕ Dt;obtain⟨ac,lc,cc,an,cn,aa,la,ca,rfl⟩:=h.agg;obtain⟨V,hV⟩:∃ X,dA (Β ac lc cc) (Β an d.n.length cn) (Β aa la ca)=X:=⟨_,rfl⟩;have hi:(Η.info? 30).map (·.size)=Δ V.size:=by rw[<-hV];exact Ad
 rw[hV] at HD f50 f51 ⊢;have a1:=((Ι w).alloc (Ε V 30)).alloc (Ε #[Β Γ 0 0,Β Γ 0 0,Β Γ 0 0] 30);have H0:=Ag (Ab w (Ε V 30)) (Ε #[Β Γ 0 0,Β Γ 0 0,Β Γ 0 0] 30);have H1:=Ϙ w (Ε V 30) (Ε #[Β Γ 0 0,Β Γ 0 0,Β Γ 0 0] 30);clear h hV hv hn;obtain⟨t,ht⟩:∃ t,Ae d=t:=⟨_,rfl⟩;rw[ht] at H bz da;simp only[ht] at f51;clear ht;have e0:=H.out.cle;have dq:=H.out.pos;go_enter Tryz.func17,Tryz.ntmps17;go_upto_region 1 with (fail)
 obtain⟨w1,a7⟩:∃ X,(w.alloc (Ε V 30)).alloc (Ε #[Β Γ 0 0,Β Γ 0 0,Β Γ 0 0] 30)=X:=⟨_,rfl⟩;rw[a7] at a1 H0 H1;simp only[a7];clear a7;obtain⟨g1,a8⟩:∃ y,w.heap.size=y:=⟨_,rfl⟩;obtain⟨g2,bb⟩:∃ y,g1+1=y:=⟨_,rfl⟩;have dt:Ϻ (w.heap.size<=g2):=Α (by omega);rw[a8] at H0 H1;rw[bb] at H1;simp only[a8,bb];clear a8 bb;have ak:=Α H0;have U:=Α H1;have b4:=Α a1;clear H0 H1 a1;go_upto_region 3 with (first
  | (refine Υ rfl 30 (η 1) rfl _ rfl _ _ _ _ ak.out Ν rfl hi ?_)
  | (go_at_call 50;(with_reducible refine (f50 _ b4.out).out.mono ?_);rintro e w2 ⟨rfl,al⟩;have b5:=Α (b4.out.trans al);have ak:=Α (al.heap ak.out);have U:=Α (al.heap U.out);clear al))
 go_upto_region 4 with (first
  | (refine Υ rfl 30 (η 1) rfl _ rfl _ _ _ _ ak.out Ν rfl hi ?_)
  | (go_at_call 51;(with_reducible refine (f51 _ b5.out).out.mono ?_);rintro e G ⟨A,rfl,hA,bd⟩;have du:=Α (b5.out.trans bd);have U:=Α (bd.heap U.out);have HA:=Α hA;clear bd;obtain⟨bn,on,e4,ba,oa,e5,b6,dw,e6,dx,b7,dy,ea⟩:=hA.opened H.out;have eb:(Η.info? 79).map (·.size)=Δ A.size:=(by rw[b6];exact Cp);have b8:ϖ.size=A.size:=(by rw[Fe,b6]))
  | (refine Φ rfl 79 (η 4) (η 14) rfl _ A rfl rfl _ _ (Ab G _) eb b8 dw ?_))
 have D:=((Hp.nil G).new (Ε ϖ 79)).box 0 rfl A;obtain⟨w4,ar⟩:∃ X,(G.alloc (Ε ϖ 79)).setRow G.heap.size A=X:=⟨_,rfl⟩;obtain⟨g4,be⟩:∃ y,G.heap.size=y:=⟨_,rfl⟩;rw[be] at ar D;rw[ar] at D;simp only[be];simp only[ar];clear ar be hA b8 f50 f51;replace D:Hp G w4 [.obj g4 (Ε A 79 (0,0))]:=D;have ec:=Α (λW (hW:Ext G W)=>dy.ext hW);have ed:=Α dx;have e7:Ϻ (g2<G.heap.size):=Α (An U.out);have ee:=Ay ((D.alloc (Ε #[] 4)).obj 0 rfl) b7;have cb:∀ j u,(t.acc.map ο)[j]? = Δ u->(w4.alloc (Ε #[] 4)).cell? ((⟨ba,oa,Γ⟩:Addr).add j)=Δ u:=λj u hj=>by
  obtain⟨eg,cd⟩:=List.getElem?_eq_some_iff.1 hj;have cf:j<t.n.length:=by rw[<-H.out.accL];simpa using eg
  have:=(D.ext.alloc (Ε #[] 4)).cell (ea j cf);rw[List.getElem_map] at cd;have e:(⟨ba,oa,Γ⟩:Addr).add j=⟨ba,oa+j,Γ⟩:=by
   unfold Addr.add;by_cases h0:j=0
   ·subst h0;rfl
   ·simp[h0]
  rw[<-cd,e,this];unfold Tbl.ok;rw[Ζ,Μ (by rw[H.out.accL];exact cf)];rfl
 have ch:(t.acc.map ο).length=t.n.length*1:=by rw[List.length_map,H.out.accL,Nat.mul_one]
 have au:=D.lit 4 1 #[] 0 (by unfold ϙ;omega) rfl;have cj:=au.size;have ck:∀ u∈t.acc.map ο,u.oneCell'=Ξ:=λu hu=>by
  obtain⟨b,_,rfl⟩:=List.mem_map.1 hu;rfl
 go_upto_region 5 with (at_builtin;refine ϐ _ rfl _ _ 28 rfl G.heap.size 4 i4 (.bool Τ) 1 1 Ã dc dd de df rfl (by decide) _ _ _ rfl (au.row 0 rfl) ⟨ba,oa,Γ⟩ t.n.length _ (t.acc.map ο) rfl ch cb ck dq (by unfold ϙ;omega) (by omega) cj _ rfl ?_;intro I J w5 cl cm cp _)
 have ag:=au.app 0 rfl cl cm cp;replace ag:Hp G w5 [.row 4 1 (Β (Δ ⟨I,0,Γ⟩) t.n.length J) t.n.length (t.acc.map ο),.obj g4 (Ε A 79 (0,0))]:=by
  have e:(#[]:Array Ρ).toList++t.acc.map ο=t.acc.map ο:=rfl;rw[e,Nat.zero_add] at ag;exact ag
 clear cl cm cp cb ch ck cj au D ee;have cq:=Α (Ag5 H.out);go_wp2_with (fail);go_loopw [6] (λM W=>∃ (L:List Bool) (r:Nat),r<=t.n.length/\M=.int ζ r/\Hp G W [.row 4 1 (Β (Δ ⟨I,0,Γ⟩) t.n.length J) t.n.length (L.map ο),.obj g4 (Ε A 79 (0,0))]/\Ϻ (LvInv t r 0 0 L))
  (λM _=>t.n.length-(intOf M).toNat)
 case atStart=>exact⟨t.acc,0,by omega,rfl,ag,cq⟩
 case round=>
  clear ag cq;obtain⟨L,r,hr,rfl,D,E⟩:=hrel;by_cases e9:r<t.n.length
  ·have fa:(r:Int)<(t.n.length:Int):=by omega
   go_wp2_with (fail);go_loopw [7] (λM W=>∃ (L:List Bool) (s:Nat),s<=t.n.length/\M=.int ζ s/\Hp G W [.row 4 1 (Β (Δ ⟨I,0,Γ⟩) t.n.length J) t.n.length (L.map ο),.obj g4 (Ε A 79 (0,0))]/\Ϻ (LvInv t r s 0 L))
    (λM _=>t.n.length-(intOf M).toNat)
   case atStart=>exact⟨L,0,by omega,rfl,D,E⟩
   case round=>
    clear D E;obtain⟨L,s,hs,rfl,D,E⟩:=hrel;by_cases ah:s<t.n.length
    ·have fb:(s:Int)<(t.n.length:Int):=by omega
     obtain⟨br,fe,cr,ct,cu⟩:=ec.out G (Ι G) s ah;have ei:=Α ct;have ej:=Α cu;clear ct cu;go_wp2_with (fail);go_loopw [8] (λM W=>∃ (L:List Bool) (k:Nat),k<=t.cells/\M=.int ζ k/\Hp G W [.row 4 1 (Β (Δ ⟨I,0,Γ⟩) t.n.length J) t.n.length (L.map ο),.obj g4 (Ε A 79 (0,0))]/\Ϻ (LvInv t r s k L))
      (λM _=>t.cells-(intOf M).toNat)
     case atStart=>exact⟨L,0,by omega,rfl,D,E⟩
     case round=>
      clear D E;obtain⟨L,k,hk,rfl,D,E⟩:=hrel;have cN:=Ay (D.obj 1 rfl) ed.out;have cR:=D.ext.cell ei.out;by_cases bf:k<t.cells
      ·have fk:(k:Int)<(t.cells:Int):=by omega
       have T:=Α (Ag9 H.out E.out ah bf);have aw:=Α E.out.len;have ce:=D.ext.cell (ej.out k bf);have cv:=H.out.tgt s ah k bf;obtain⟨x,hx⟩:∃ x,t.ent2 s k=x:=⟨_,rfl⟩;rw[hx] at ce cv T;clear hx;have fl:(x:Int)<(t.n.length:Int):=by omega
       have cs:=Am Τ (D.row 0 rfl) aw.out.symm s (by rw[aw.out];exact ah);have cx:=Am Τ (D.row 0 rfl) aw.out.symm x (by rw[aw.out];exact cv);have fs:=(D.row 0 rfl).frozenAt s;obtain⟨b,hb⟩:∃ b,L.getD s Τ=b:=⟨_,rfl⟩;obtain⟨b2,cz⟩:∃ b,L.getD x Τ=b:=⟨_,rfl⟩;rw[hb] at cs T;rw[cz] at cx T;clear hb cz;have ax:=D.putf 0 rfl s (b||b2);clear D E;cases b with
       | true=>
        rw[Bool.true_or] at T ax;go_wp2;go_roundw
        case rel=>exact⟨_,k+1,by omega,by go_num,ax,T⟩
        case measure=>simp[intOf];omega
       | false=>
        rw[Bool.false_or] at T ax;go_wp2;go_roundw
        case rel=>exact⟨_,k+1,by omega,by go_num,ax,T⟩
        case measure=>simp[intOf];omega
      ·obtain rfl:k=t.cells:=by omega
       have HR:=Α (Ag6 H.out E.out ah);clear E;go_wp2;go_roundw
       case rel=>exact⟨L,s+1,by omega,by go_num,D,HR⟩
       case measure=>simp[intOf];omega
    ·obtain rfl:s=t.n.length:=by omega
     have HR:=Α (Ag7 E.out);clear E;go_wp2;go_roundw
     case rel=>exact⟨L,r+1,by omega,by go_num,D,HR⟩
     case measure=>simp[intOf];omega
  ·obtain rfl:r=t.n.length:=by omega
   have cA:=Ay (D.obj 1 rfl) b7;have fA:=D.frozen 1 rfl 257;obtain⟨ai,fo,c1,c2,er⟩:=HA.out;have ad:=D.cell 1 rfl 257 (Β (Δ ⟨I,0,Γ⟩) t.n.length J) (cs':=trA t.cell ai (Β (Δ ⟨I,0,Γ⟩) t.n.length J)) (by rw[c1];exact Nm _ _ _ _);go_upto_region 16 with (fail)
   clear D cA fA;obtain⟨w6,bj⟩:∃ X,wr.setCell ⟨g4,257,Γ⟩ (Β (Δ ⟨I,0,Γ⟩) t.n.length J)=X:=⟨_,rfl⟩;rw[bj] at ad;simp only[bj];clear bj;have bk:IsR w6 (trA t.cell ai (Β (Δ ⟨I,0,Γ⟩) t.n.length J)) (K6 t L):=⟨ai,_,rfl,c2.ext ad.ext,by
    have h1:OwnB w6 G.heap.size (Β (Δ ⟨I,0,Γ⟩) t.n.length J) L:=by
     show ϛ _ _ _ _ _ _ _;rw[E.out.len];exact ad.row 0 rfl
    exact OwnB.bools h1 (by show L.length<=_;rw[E.out.len];omega)⟩
   have c3:(Η.info? 79).map (·.size)=Δ (trA t.cell ai (Β (Δ ⟨I,0,Γ⟩) t.n.length J)).size:=by rw[Dw];exact Cp
   have HO:=Α (ad.obj 1 rfl);obtain⟨Af,c6⟩:∃ X,trA t.cell ai (Β (Δ ⟨I,0,Γ⟩) t.n.length J)=X:=⟨_,rfl⟩;rw[c6] at bk c3 HO;have f57:=Α (Me (K6 t L) (Anh H.out E.out.len) (show t.n.length<=65536 by omega) Af w6 bk);have ev:=Α (Ahl H.out E.out);have ew:=Α (ad.ext.heap U.out);clear bk c6 c1 c2 er E;go_wp2_with (first
    | (refine Υ rfl 79 (η 4) rfl _ rfl _ _ _ _ HO.out Tryz.underlying79 rfl c3 ?_)
    | (go_at_call 57;with_reducible refine f57.out.mono ?_;rintro e w9 ⟨v,d9,rfl,hD,c8,ez,c9⟩;obtain⟨bl,bm,bo,bp,bq,bt,bu,bw,rfl⟩:=hD.agg;have bx:=Α (c9.heap ew.out))
    | (refine Φ rfl 30 (η 2) (η 64) rfl _ (dA (Β bl bm bo) (Β bp d9.n.length bq) (Β bt bu bw)) rfl rfl _ _ bx.out Ad rfl (Ap _ _ _ rfl rfl rfl) ?_))
   refine ϋ (v:=ϥ #[.agg (dA (Β bl bm bo) (Β bp d9.n.length bq) (Β bt bu bw)),.int ζ 0]) (Ba rfl _ _ _ _ _ _ _ rfl _ rfl (μ w9 _ _ (dA (Β bl bm bo) (Β bp d9.n.length bq) (Β bt bu bw)) 30 (0,0) bx.out) Ν rfl Ad) rfl ?_;exact⟨d9,⟨_,rfl,hD.setRow c8.val bx.out _⟩,c8,λx=>by
    rw[ez,ev.out x];simp only[bz.out],((du.out.trans ad.ext).trans c9).setRow dt.out _⟩
theorem Ak1 (d:Dfa) (hv:Val d) (hn:d.n.length<=64) (n:Int) (hb:n<0\/64<n) (v:Ρ) (w:Κ) (h:IsD w v d) :
  Ϝ Η 20 #[v,.int ζ n] w λe w'=>e=ν (ϥ #[.int ζ 0,.int ζ 1])/\Ext w w':=by
 have J:=Α h;obtain⟨ac,lc,cc,an,cn,aa,la,ca,rfl⟩:=h.agg;have M:=λW (hW:Ext w W)=>Α (Eg d hv hn _ W (J.out.ext hW))
 obtain⟨D,E⟩:∃ X,dA (Β ac lc cc) (Β an d.n.length cn) (Β aa la ca)=X:=⟨_,rfl⟩;have ak:(Η.info? 30).map (·.size)=Δ D.size:=by rw[<-E];exact Ad
 rw[E] at M J;rw[E];have G:=(Ι w).alloc (Ε D 30);have H:=Ab w (Ε D 30);clear h E hv;go_enter Tryz.func20,Tryz.ntmps20;go_upto_region 1 with (fail)
 obtain⟨w1,I⟩:∃ W,w.alloc (Ε D 30)=W:=⟨_,rfl⟩;rw[I] at G H;simp only[I];clear I;have al:=Α H;have T:=Α G;clear H G;rcases (show n<0\/(¬ n<0/\64<n) from by omega) with ao|⟨ao,ar⟩
 all_goals
  clear hb;go_wp2_with (first
   | (refine Υ rfl 30 (η 2) rfl _ rfl _ _ _ _ al.out Ν rfl ak ?_)
   | (go_at_call 47;(with_reducible refine (M _ T.out).out.mono ?_);rintro e w2 ⟨rfl,U⟩;have aq:=Α (T.out.trans U);clear U))
  go_ret2;exact⟨rfl,aq.out⟩
theorem Ak3 (d:Dfa) (hv:Val d) (hn:d.n.length<=64) (n:Int) (hb:n<0\/64<n) (v:Ρ) (w:Κ) (h:IsD w v d) :
  Ϝ Η 21 #[v,.int ζ n] w λe w'=>e=ν (ϥ #[.int ζ 0,.int ζ 1])/\Ext w w':=by
 have J:=Α h;obtain⟨ac,lc,cc,an,cn,aa,la,ca,rfl⟩:=h.agg;have M:=λW (hW:Ext w W)=>Α (Gx d hv hn _ W (J.out.ext hW))
 obtain⟨D,E⟩:∃ X,dA (Β ac lc cc) (Β an d.n.length cn) (Β aa la ca)=X:=⟨_,rfl⟩;have ak:(Η.info? 30).map (·.size)=Δ D.size:=by rw[<-E];exact Ad
 rw[E] at M J;rw[E];have G:=(Ι w).alloc (Ε D 30);have H:=Ab w (Ε D 30);clear h E hv;go_enter Tryz.func21,Tryz.ntmps21;go_upto_region 1 with (fail)
 obtain⟨w1,I⟩:∃ W,w.alloc (Ε D 30)=W:=⟨_,rfl⟩;rw[I] at G H;simp only[I];clear I;have al:=Α H;have T:=Α G;clear H G;rcases (show n<0\/(¬ n<0/\64<n) from by omega) with ao|⟨ao,ar⟩
 all_goals
  clear hb;go_wp2_with (first
   | (refine Υ rfl 30 (η 2) rfl _ rfl _ _ _ _ al.out Ν rfl ak ?_)
   | (go_at_call 50;(with_reducible refine (M _ T.out).out.mono ?_);rintro e w2 ⟨rfl,U⟩;have aq:=Α (T.out.trans U);clear U))
  go_ret2;exact⟨rfl,aq.out⟩
theorem Ahp (d:Dfa) (hv:Val d) (hn:d.n.length<=64) (n:Int) (hb:n<0\/8<n) (v:Ρ) (w:Κ) (h:IsD w v d) :
  Ϝ Η 22 #[v,.int ζ n] w λe w'=>e=ν (ϥ #[Β Γ 0 0,.int ζ 1])/\Ext w w':=by
 have J:=Α h;obtain⟨ac,lc,cc,an,cn,aa,la,ca,rfl⟩:=h.agg;have M:=λW (hW:Ext w W)=>Α (Eg d hv hn _ W (J.out.ext hW))
 obtain⟨D,E⟩:∃ X,dA (Β ac lc cc) (Β an d.n.length cn) (Β aa la ca)=X:=⟨_,rfl⟩;have ak:(Η.info? 30).map (·.size)=Δ D.size:=by rw[<-E];exact Ad
 rw[E] at M J;rw[E];have G:=(Ι w).alloc (Ε D 30);have H:=Ab w (Ε D 30);clear h E hv;refine (callsIn_wide (n:=3)).1 ?_;refine callsIn_of_wp_marks Tryz.func22 rfl trivial ?_ rfl;refine wpIn_wide.2 ?_;simp only[Tryz.ntmps22,List.size_toArray,List.length_cons,List.length_nil,Nat.reduceAdd,Nat.reduceSub,Array.replicate_succ,Array.replicate_zero,List.push_toArray,List.append_toArray,List.nil_append,List.cons_append];go_upto_region 1 with (fail)
 obtain⟨w1,I⟩:∃ W,w.alloc (Ε D 30)=W:=⟨_,rfl⟩;rw[I] at G H;simp only[I];clear I;have al:=Α H;have T:=Α G;clear H G;rcases (show n<0\/(¬ n<0/\8<n) from by omega) with ao|⟨ao,ar⟩
 all_goals
  clear hb;go_wp2_with (first
   | (refine Υ rfl 30 (η 2) rfl _ rfl _ _ _ _ al.out Ν rfl ak ?_)
   | (go_at_call 47;(with_reducible refine (M _ T.out).out.mono ?_);rintro e w2 ⟨rfl,U⟩;have aq:=Α (T.out.trans U);clear U))
  exact⟨_,results_tmp2 rfl _ _ _,rfl,aq.out⟩
theorem Ahs (d:Dfa) (hv:Val d) (hn:d.n.length<=64) (n:Int) (hb:n<0\/8<n) (v:Ρ) (w:Κ) (h:IsD w v d) :
  Ϝ Η 23 #[v,.int ζ n] w λe w'=>e=ν (ϥ #[Β Γ 0 0,.int ζ 1])/\Ext w w':=by
 have J:=Α h;obtain⟨ac,lc,cc,an,cn,aa,la,ca,rfl⟩:=h.agg;have M:=λW (hW:Ext w W)=>Α (Gx d hv hn _ W (J.out.ext hW))
 obtain⟨D,E⟩:∃ X,dA (Β ac lc cc) (Β an d.n.length cn) (Β aa la ca)=X:=⟨_,rfl⟩;have ak:(Η.info? 30).map (·.size)=Δ D.size:=by rw[<-E];exact Ad
 rw[E] at M J;rw[E];have G:=(Ι w).alloc (Ε D 30);have H:=Ab w (Ε D 30);clear h E hv;go_enter Tryz.func23,Tryz.ntmps23;go_upto_region 1 with (fail)
 obtain⟨w1,I⟩:∃ W,w.alloc (Ε D 30)=W:=⟨_,rfl⟩;rw[I] at G H;simp only[I];clear I;have al:=Α H;have T:=Α G;clear H G;rcases (show n<0\/(¬ n<0/\8<n) from by omega) with ao|⟨ao,ar⟩
 all_goals
  clear hb;go_wp2_with (first
   | (refine Υ rfl 30 (η 2) rfl _ rfl _ _ _ _ al.out Ν rfl ak ?_)
   | (go_at_call 50;(with_reducible refine (M _ T.out).out.mono ?_);rintro e w2 ⟨rfl,U⟩;have aq:=Α (T.out.trans U);clear U))
  go_ret2;exact⟨rfl,aq.out⟩
def Ed (d:Dfa) (n:Int):Int × Nat:=if n<0\/64<n then (0,1) else if A5 d.has n.toNat<=1099511627776 then ((A5 d.has n.toNat:Nat),0) else (0,2)
def Ce (d:Dfa) (n:Int):List (List UInt8) × Nat:=if n<0\/8<n then ([],1) else if Bw d.has (n.toNat+1)<=4096 then (Ca d.has (n.toNat+1),0) else ([],2)
theorem X1 (d:Dfa) (N:Nat) (D:N<=64):E3 (A5 d.has N)=ν (ϥ #[.int ζ (Ed d N).1,.int ζ ((Ed d N).2:Nat)]):=by
 unfold E3 Ed;rw[if_neg (show ¬ ((N:Int)<0\/64<(N:Int)) by omega),ß];by_cases h:A5 d.has N<=1099511627776
 ·rw[if_pos h,if_pos h];rfl
 ·rw[if_neg h,if_neg h];rfl
theorem Ak2 (d:Dfa) (hv:Val d) (hn:d.n.length<=64) (n:Int) (v:Ρ) (w:Κ) (h:IsD w v d) :
  Ϝ Η 20 #[v,.int ζ n] w λe w'=>e=ν (ϥ #[.int ζ (Ed d n).1,.int ζ ((Ed d n).2:Nat)])/\Ext w w':=by
 by_cases G:n<0\/64<n
 ·refine (Ak1 d hv hn n G v w h).mono λe w' ⟨D,E⟩=>⟨?_,E⟩
  rw[D];unfold Ed;rw[if_pos G];rfl
 ·obtain⟨N,rfl⟩:∃ N:Nat,n=N:=⟨n.toNat,by omega⟩;refine (Mw d hv hn N (by omega) v w h).mono λe w' ⟨D,E⟩=>⟨?_,E⟩
  rw[D,X1 d N (by omega)]
theorem Ak4 (d:Dfa) (hv:Val d) (hn:d.n.length<=64) (n:Int) (v:Ρ) (w:Κ) (h:IsD w v d) :
  Ϝ Η 21 #[v,.int ζ n] w λe w'=>e=ν (ϥ #[.int ζ (Ed d n).1,.int ζ ((Ed d n).2:Nat)])/\Ext w w':=by
 by_cases G:n<0\/64<n
 ·refine (Ak3 d hv hn n G v w h).mono λe w' ⟨D,E⟩=>⟨?_,E⟩
  rw[D];unfold Ed;rw[if_pos G];rfl
 ·obtain⟨N,rfl⟩:∃ N:Nat,n=N:=⟨n.toNat,by omega⟩;refine (Xs d hv hn N (by omega) v w h).mono λe w' ⟨D,E⟩=>⟨?_,E⟩
  rw[D,X1 d N (by omega)]
theorem Ahq (d:Dfa) (hv:Val d) (hn:d.n.length<=64) (n:Int) (v:Ρ) (w:Κ) (h:IsD w v d) :
  Ϝ Η 22 #[v,.int ζ n] w λe w'=>∃ D,e=ν (ϥ #[D,.int ζ ((Ce d n).2:Nat)])/\Wrds w' D (Ce d n).1/\Ext w w':=by
 by_cases G:n<0\/8<n
 ·refine (Ahp d hv hn n G v w h).mono λe w' ⟨H,E⟩=>⟨Β Γ 0 0,?_,?_,E⟩
  ·rw[H];unfold Ce;rw[if_pos G];rfl
  ·unfold Ce;rw[if_pos G];exact Wrds.nil w'
 ·obtain⟨N,rfl⟩:∃ N:Nat,n=N:=⟨n.toNat,by omega⟩;refine (Mh d hv hn N (by omega) v w h).mono λe w' ⟨E,H⟩=>?_
  rcases H with⟨I,D,rfl,J⟩|⟨I,rfl⟩
  ·refine⟨D,?_,?_,E⟩
   ·unfold Ce;rw[if_neg (show ¬ ((N:Int)<0\/8<(N:Int)) by omega),ß,if_pos I];rfl
   ·unfold Ce;rw[if_neg (show ¬ ((N:Int)<0\/8<(N:Int)) by omega),ß,if_pos I];exact J
  ·refine⟨Β Γ 0 0,?_,?_,E⟩
   ·unfold Ce;rw[if_neg (show ¬ ((N:Int)<0\/8<(N:Int)) by omega),ß,if_neg (show ¬ Bw d.has (N+1)<=4096 by omega)];rfl
   ·unfold Ce;rw[if_neg (show ¬ ((N:Int)<0\/8<(N:Int)) by omega),ß,if_neg (show ¬ Bw d.has (N+1)<=4096 by omega)];exact Wrds.nil w'
theorem Aht (d:Dfa) (hv:Val d) (hn:d.n.length<=64) (n:Int) (v:Ρ) (w:Κ) (h:IsD w v d) :
  Ϝ Η 23 #[v,.int ζ n] w λe w'=>∃ D,e=ν (ϥ #[D,.int ζ ((Ce d n).2:Nat)])/\Wrds w' D (Ce d n).1/\Ext w w':=by
 by_cases G:n<0\/8<n
 ·refine (Ahs d hv hn n G v w h).mono λe w' ⟨H,E⟩=>⟨Β Γ 0 0,?_,?_,E⟩
  ·rw[H];unfold Ce;rw[if_pos G];rfl
  ·unfold Ce;rw[if_pos G];exact Wrds.nil w'
 ·obtain⟨N,rfl⟩:∃ N:Nat,n=N:=⟨n.toNat,by omega⟩;refine (Ahu d hv hn N (by omega) v w h).mono λe w' ⟨E,H⟩=>?_
  rcases H with⟨I,D,rfl,J⟩|⟨I,rfl⟩
  ·refine⟨D,?_,?_,E⟩
   ·unfold Ce;rw[if_neg (show ¬ ((N:Int)<0\/8<(N:Int)) by omega),ß,if_pos I];rfl
   ·unfold Ce;rw[if_neg (show ¬ ((N:Int)<0\/8<(N:Int)) by omega),ß,if_pos I];exact J
  ·refine⟨Β Γ 0 0,?_,?_,E⟩
   ·unfold Ce;rw[if_neg (show ¬ ((N:Int)<0\/8<(N:Int)) by omega),ß,if_neg (show ¬ Bw d.has (N+1)<=4096 by omega)];rfl
   ·unfold Ce;rw[if_neg (show ¬ ((N:Int)<0\/8<(N:Int)) by omega),ß,if_neg (show ¬ Bw d.has (N+1)<=4096 by omega)];exact Wrds.nil w'
theorem Ahe (d:Dfa) (n:Int):(Ce d n).1.length<=65536:=by
 unfold Ce;split
 ·simp
 ·split
  ·rename_i h
   show (Ca _ _).length<=_;rw[Ir];omega
  ·simp
theorem Ahd (d:Dfa) (n:Int):∀ x∈(Ce d n).1,x.length<=65536:=by
 intro x D;unfold Ce at D;split at D
 ·cases D
 ·split at D
  ·rename_i E h
   have:=((Vn _ _ _).1 D).1;omega
  ·cases D
def Qn:Dfa:=⟨[],[],[]⟩
theorem Aix (w:Κ):IsD w zD Qn:=⟨Β Γ 0 0,Β Γ 0 0,Β Γ 0 0,rfl,Sl.nil _ _ _,⟨[],rfl,Sl.nil _ _ _,λi hi=>by simp[Qn] at hi⟩,Sl.nil _ _ _⟩
def dOf (r:Option Dfa):Dfa:=r.getD Qn
def kOf (r:Option Dfa):Nat:=if r.isSome then 0 else 2
theorem Tq {W:Κ} {e:Ending} {r:Option Dfa} (h:ResOf W e r):∃ v,e=ν (ϥ #[v,.int ζ (kOf r:Nat)])/\IsD W v (dOf r):=by
 cases r with
 | none=>exact⟨zD,h,Aix W⟩
 | some d=>exact h
def De (N L s:Nat) (R:List (List Nat)):List (List Nat):=(R.zipIdx).map λp=>if p.2<s then p.1.set L N else p.1
theorem E5 (N L s:Nat) (R:List (List Nat)):(De N L s R).length=R.length:=by simp[De]
theorem Ov (N L s:Nat) (R:List (List Nat)) (j:Nat) (D:j<R.length):(De N L s R).getD j []=if j<s then (R.getD j []).set L N else R.getD j []:=by
 simp[De,Ζ,D]
theorem Afj (N L:Nat) (R:List (List Nat)):De N L 0 R=R:=by
 apply ϡ;intro i;by_cases hi:i<R.length
 ·simp[De,hi]
 ·simp[De,hi]
theorem Afk (N L s:Nat) (R:List (List Nat)) (hs:s<R.length):De N L (s+1) R=(De N L s R).set s ((R.getD s []).set L N):=by
 apply ϡ;intro i;rw[ϲ,E5];by_cases hi:i<R.length
 ·by_cases e:s=i
  ·subst e;simp[De,hi,Ζ]
  ·rw[if_neg e];simp[De,hi];by_cases h:i<s
   ·rw[if_pos h,if_pos (by omega)]
   ·rw[if_neg h,if_neg (by omega)]
 ·have:s≠i:=by omega
  simp[De,hi,this]
def C8 (L N:Nat) (R:List (List Nat)) (Ac:List Bool):Dfa:=⟨Cc L 256,De N L N R++[δ (L+1) N],Ac++[Τ]⟩
theorem Ou {L N:Nat} {R:List (List Nat)} {Ac:List Bool} (h:MadeOk N (L+1) N R Ac):MadeOk (N+1) (L+1) (N+1) (C8 L N R Ac).n (C8 L N R Ac).acc:=by
 obtain⟨D,I,J⟩:=h;refine⟨by show (De N L N R++[δ (L+1) N]).length=N+1;rw[Ο,E5,D];rfl,by show (Ac++[Τ]).length=N+1;rw[Ο,I];rfl,λj T=>?_⟩;show ((De N L N R++[δ (L+1) N]).getD j []).length=L+1/\∀ k,k<L+1->((De N L N R++[δ (L+1) N]).getD j []).getD k 0<N+1;by_cases E:j<N
 ·rw[Ζ,Ϣ (by rw[E5,D];exact E),<-Ζ,Ov _ _ _ _ _ (by rw[D];exact E),if_pos E];obtain⟨H,M⟩:=J j E;refine⟨by rw[ύ];exact H,λk G=>?_⟩;rw[Ζ,ϲ];by_cases e:L=k
  ·subst e;rw[if_pos rfl,if_pos (by rw[H];exact G)];exact Nat.lt_succ_self N
  ·rw[if_neg e,<-Ζ];have:=M k G;omega
 ·obtain rfl:j=N:=by omega
  rw[Ζ,ϑ (by rw[E5,D];exact θ _),E5,D];simp only[Nat.sub_self,Ö,à,List.length_replicate,true_and];intro k G;simp[Ζ,ϧ,G]
theorem Ot {L N:Nat} {R:List (List Nat)} {Ac:List Bool} (D:L<=3) (h:MadeOk N (L+1) N R Ac):Val (C8 L N R Ac):=
 (Ou h).val (by omega) (Pe L (by omega)) (D8 _ _)
theorem Uj {L N:Nat} {R:List (List Nat)} {Ac:List Bool} (h:MadeOk N (L+1) N R Ac):(C8 L N R Ac).n.length=N+1:=(Ou h).1
theorem Ahk (n x:Nat) (h:¬ (97<=x/\x<97+n)):lkL n x=n:=by unfold lkL;rw[if_neg h]
theorem Ui {L N:Nat} {R:List (List Nat)} {Ac:List Bool} (T:L<=3) (h:MadeOk N (L+1) N R Ac) (s:Nat) (hs:s<=N) (x:UInt8) (D:¬ (97<=x.toNat/\x.toNat<97+L)\/s=N):(C8 L N R Ac).stp s x.toNat=N:=by
 have H:=x.toNat_lt;have I:=Pe L (by omega);obtain⟨E,U,J⟩:=h;show (((De N L N R++[δ (L+1) N]).getD s [])).getD (Ak (Cc L 256) x.toNat) 0=N;have M:Ak (Cc L 256) x.toNat=lkL L x.toNat:=E1 I H (by rw[D8];exact Iq _ _) (by rw[Vw _ _ _ (Iq _ _),Hd _ _ _ _ (θ _)];exact⟨H,rfl⟩);rw[M];by_cases G:s<N
 ·rcases D with D|D
  ·rw[Ahk _ _ D,Ζ (l:=_++_),Ϣ (by rw[E5,E];exact G),<-Ζ,Ov _ _ _ _ _ (by rw[E];exact G),if_pos G,
    Ζ,ϲ,if_pos rfl,if_pos (by rw[(J s G).1];omega)]
   rfl
  ·omega
 ·obtain rfl:s=N:=by omega
  rw[Ζ (l:=_++_),ϑ (by rw[E5,E];exact θ _),E5,E];simp only[Nat.sub_self,Ö,à];have:=Iq L x.toNat;simp[Ζ,ϧ,this]
theorem Uk {L N:Nat} {R:List (List Nat)} {Ac:List Bool} (D:L<=3) (h:MadeOk N (L+1) N R Ac):∀ w:List UInt8,(C8 L N R Ac).run N w=N
 | []=>rfl
 | x::w=>by
  show (C8 L N R Ac).run ((C8 L N R Ac).stp N x.toNat) w=N;rw[Ui D h N (θ _) x (.inr rfl)];exact Uk D h w
theorem Afi {L N:Nat} {R:List (List Nat)} {Ac:List Bool} (D:L<=3) (h:MadeOk N (L+1) N R Ac) (u:List UInt8) (hu:(C8 L N R Ac).has u=Ξ) (x:UInt8) (E:x∈u):97<=x.toNat/\x.toNat<100:=by
 refine ϩ λhn=>?_
 obtain⟨p,q,rfl⟩:=List.append_of_mem E;have hv:=Ot D h;have G:(C8 L N R Ac).run 0 p<=N:=by
  have:=hv.run_lt p hv.pos;rw[Uj h] at this;omega
 have:(C8 L N R Ac).run 0 (p++x::q)=N:=by
  rw[B6];show (C8 L N R Ac).run ((C8 L N R Ac).stp ((C8 L N R Ac).run 0 p) x.toNat) q=N;rw[Ui D h _ G x (.inl λH=>hn ⟨H.1,by omega⟩)];exact Uk D h q
 unfold Dfa.has at hu;rw[this] at hu;have e:(C8 L N R Ac).ok N=Τ:=by
  show (Ac++[Τ]).getD N Τ=Τ;rw[Ζ,ϑ (by rw[h.2.1];exact θ _),h.2.1];simp
 rw[e] at hu;cases hu
theorem Px {α:Type} {l:List α} {d:α} {j:Nat} (h:j<l.length):l.getD j d∈l:=by
 rw[Ζ,Μ h];exact á h
theorem Uh {W:Κ} {base e n:Nat} {v:Ρ} {xs:List Ρ} (h:W.ownsRow base e 1 v n xs) (E:0<n):∃ g c,v=Β (Δ ⟨g,0,Γ⟩) n c:=by
 obtain⟨G,⟨rfl,rfl⟩|⟨g,D,cur,rfl,_⟩⟩:=h
 ·omega
 ·exact⟨g,D,rfl⟩
theorem Adc {W W':Κ} {base:Nat} {vs:List Ρ} {R:List (List Nat)} {av:Option Nat->Prop} {s g:Nat} {r:List Nat} (h:RowsO W base vs R av) (I:vs.Pairwise λv v'=>v.ownBlock≠v'.ownBlock) (hs:s<R.length)
  (hg:(vs.getD s ς).ownBlock=Δ g) (J:W.grownBy W' (Δ g)) (M:OwnI W' base (vs.getD s ς) r):RowsO W' base vs (R.set s r) av:=by
 refine⟨by rw[ύ];exact h.1,λj D=>?_⟩;rw[ύ] at D;by_cases e:s=j
 ·subst e;refine⟨?_,(h.2 s D).2⟩;rw[Ζ (l:=R.set s r),ϲ,if_pos rfl,if_pos D];exact M
 ·refine⟨?_,(h.2 j D).2⟩;rw[Ζ (l:=R.set s r),ϲ,if_neg e,<-Ζ];refine (h.2 j D).1.kept J (.inr ?_);rw[<-hg];have E:j<vs.length:=by rw[h.1];exact D
  have G:s<vs.length:=by rw[h.1];exact hs
  have H:=List.pairwise_iff_getElem.1 I;rw[Ζ,Μ E,Ζ,Μ G];rcases Nat.lt_or_ge s j with T|U
  ·exact (H s j G E T).symm
  ·exact H j s E G (by omega)
theorem Afh (S A:Nat) (hS:S<256) (hA:A<256) (vt:Ρ) (l:List UInt8) (w:Κ) (ht:ByW w vt l) :
  Ϝ Η 13 #[.agg #[.int .u8 S,vt,.int .u8 A]] w λe w'=>∃ v d,e=ν v/\IsD w' v d/\(Val d/\d.n.length<=6/\∀ u,d.has u=Ξ->∀ x∈u,97<=x.toNat/\x.toNat<100)/\Ext w w':=by
 obtain⟨i0,hi,gp,gq,gr⟩:=ϕ Cg;obtain⟨i4,gv,gw,gx,gy⟩:=ϕ Dt;obtain⟨i6,hc,hf,hh,hl⟩:=ϕ (show (Η.info? 68).map (λi=>(i.zero,i.size,i.bytes))=Δ (Δ (Β Γ 0 0),1,24) by kernel_rfl);have f26:=λW (hW:Ext w W)=>Α (Ag3 S A hS hA vt l W (ht.ext hW))
 obtain⟨bl,bt,ot,ct,rfl,-,-,-⟩:=ht.split;have hE:=((Ι w).alloc (Ε #[.int .u8 S,Β bl l.length ct,.int .u8 A] 24)).alloc (Ε #[Β Γ 0 0,Β Γ 0 0,Β Γ 0 0] 30);have H0:=Ag (Ab w (Ε #[.int .u8 S,Β bl l.length ct,.int .u8 A] 24)) (Ε #[Β Γ 0 0,Β Γ 0 0,Β Γ 0 0] 30);have H1:=Ϙ w (Ε #[.int .u8 S,Β bl l.length ct,.int .u8 A] 24) (Ε #[Β Γ 0 0,Β Γ 0 0,Β Γ 0 0] 30);have fc:=We S bl l.length ct A;obtain⟨R1,cv⟩:∃ X,(#[.int .u8 S,Β bl l.length ct,.int .u8 A]:Array Ρ)=X:=⟨_,rfl⟩;rw[show Fv S bl l.length ct A=R1 from cv] at fc;rw[cv] at hE H0 H1 f26;rw[cv];clear ht cv;go_enter Tryz.func13,Tryz.ntmps13;go_upto_region 1 with (fail)
 obtain⟨w1,cw⟩:∃ W,(w.alloc (Ε R1 24)).alloc (Ε #[Β Γ 0 0,Β Γ 0 0,Β Γ 0 0] 30)=W:=⟨_,rfl⟩;have ff:w1.heap.size=w.heap.size+1+1:=by rw[<-cw,Λ,Λ]
 rw[cw] at hE H0 H1;simp only[cw];clear cw;have hp:=Α H0;have hr:=Α H1;have jg:=Α ff;have hx:=Α hE;clear H0 H1 ff;have f26:=f26 w1 hE;go_upto_region 2 with (first
  | (refine Υ rfl 24 (η 1) rfl _ rfl _ _ _ _ hp.out Tryz.underlying24 rfl fc ?_)
  | (go_at_call 26;(with_reducible refine f26.out.mono ?_);rintro e wm ⟨L,N,R,Ac,vs,vn,va,ac,cc,base,rfl,hM,hb,dr⟩;obtain⟨an,T,rfl⟩:=Dr hM.nxt;obtain⟨H,I,rfl⟩:=Dr hM.acc)
  | (refine Φ rfl 30 (η 3) (η 9) rfl _ _ rfl rfl _ _ (Ab wm _) Ad rfl (Ap _ _ _ rfl rfl rfl) ?_))
 have cx:vs.length=N:=hM.rows.1.trans hM.ok.1;have fh:0<vs.length:=by rw[cx];exact hM.n1
 have dt:vs.length<=5:=by rw[cx];exact hM.n5
 have du:=hM.l3;obtain⟨J,ji,hy⟩:=Uh hM.nxt fh;injection hy with e1 _ e2
 subst e1 e2;have fj:base<=J/\J<wm.heap.size:=hM.nxt.lt J rfl;have aj:=Bx (wm.alloc (Ε #[Β Γ 0 0,Β Γ 0 0,Β Γ 0 0] 30)) wm.heap.size (dA (Β ac (L+1) cc) (Β (Δ ⟨J,0,Γ⟩) vs.length T) (Β H Ac.length I));have M:=((hM.rows.av (av':=λo=>o=Δ wm.heap.size) (λv l ho a1 e=>by have:=(ho.lt _ e).2;omega)).alloc (Ε #[Β Γ 0 0,Β Γ 0 0,Β Γ 0 0] 30)).kept aj (λv l ho a1=>.inr a1);have U:=(hM.nxt.alloc (Ε #[Β Γ 0 0,Β Γ 0 0,Β Γ 0 0] 30)).kept aj (.inr λe=>by have:=(hM.nxt.lt _ e).2;omega);have ak:=(hM.acc.alloc (Ε #[Β Γ 0 0,Β Γ 0 0,Β Γ 0 0] 30)).kept aj (.inr λe=>by have:=(hM.acc.lt _ e).2;omega);obtain⟨dv,hX⟩:=Im wm (dA (Β ac (L+1) cc) (Β (Δ ⟨J,0,Γ⟩) vs.length T) (Β H Ac.length I));have dw:=dr.trans dv;obtain⟨E,G,rfl,jj⟩:=hM.clb;have aq:=Α (hM.cls.ext dv);have aw:base<=((wm.alloc (Ε #[Β Γ 0 0,Β Γ 0 0,Β Γ 0 0] 30)).setRow wm.heap.size (dA (Β (Δ ⟨E,G,Γ⟩) (L+1) cc) (Β (Δ ⟨J,0,Γ⟩) vs.length T) (Β H Ac.length I))).heap.size:=by rw[Õ,Λ];omega
 have ar:wm.heap.size<((wm.alloc (Ε #[Β Γ 0 0,Β Γ 0 0,Β Γ 0 0] 30)).setRow wm.heap.size (dA (Β (Δ ⟨E,G,Γ⟩) (L+1) cc) (Β (Δ ⟨J,0,Γ⟩) vs.length T) (Β H Ac.length I))).heap.size:=by rw[Õ,Λ];omega
 have a7:=Α hM.ok;have h3:=Α hM.apart;have cz:=Α cx;have HG:Ϻ (∀ v∈vs,v.ownBlock≠Δ wm.heap.size):=Α λv hv=>by
  obtain⟨j,hj,rfl⟩:=List.getElem_of_mem hv;have:=(M.2 j (by rw[<-M.1];exact hj)).2;rw[Ζ,Μ hj] at this;exact this
 replace M:=M.av (av':=λ_=>False) (λv l ho a1 e=>e);obtain⟨wb,dy⟩:∃ W,(wm.alloc (Ε #[Β Γ 0 0,Β Γ 0 0,Β Γ 0 0] 30)).setRow wm.heap.size (dA (Β (Δ ⟨E,G,Γ⟩) (L+1) cc) (Β (Δ ⟨J,0,Γ⟩) vs.length T) (Β H Ac.length I))=W:=⟨_,rfl⟩;rw[dy] at M U ak hX dw aq aw ar;simp only[dy];have ea:w1.heap.size<=wm.heap.size:=dr.size;have h4:J<wm.heap.size:=fj.2;have c3:∀ k,(ϟ H Ac.length I).ownBlock=Δ k->base<=k/\k<wm.heap.size:=λk e=>hM.acc.lt k e
 obtain⟨D,eb⟩:∃ y,wm.heap.size=y:=⟨_,rfl⟩;rw[eb] at HG hX ar ea h4 c3;have ec:Ϻ ((ϟ H Ac.length I).ownBlock=Δ D->D<D):=Α λe=>(c3 D e).2
 have fk:Ϻ (∀ k,(ϟ H Ac.length I).ownBlock=Δ k->base<=k):=Α λk e=>(c3 k e).1
 clear c3;simp only[eb];have jk:w1.heap.size<=base:=hb;clear dy eb aj dv dr hM f26 hb cx fj;obtain⟨m,hm⟩:∃ m,vs.length=m:=⟨_,rfl⟩;have HM:Ϻ (vs.length=m):=Α hm;rw[hm] at cz fh dt U hX;simp only[hm];clear hm;have HX:=Α hX;clear hX;have c1:=(Ω wb D 1 _ _ _ HX.out).trans (show (dA (Β (Δ ⟨E,G,Γ⟩) (L+1) cc) (Β (Δ ⟨J,0,Γ⟩) m T) (Β H Ac.length I))[1]? = Δ (Β (Δ ⟨J,0,Γ⟩) m T) from rfl);go_upto_region 3 with (fail)
 clear c1;have ee:=dw.alloc (Ε #[] 3);have ef:=Α (Ag HX.out (Ε #[] 3));have eg:=U.alloc (Ε #[] 3);have eh:=ak.alloc (Ε #[] 3);have ei:=(M.av (av':=λo=>o=Δ wb.heap.size) (λv l ho a1 e=>by have:=(ho.lt _ e).2;omega)).alloc (Ε #[] 3);have ej:OwnI (wb.alloc (Ε #[] 3)) base (Β (Δ ⟨wb.heap.size,0,Γ⟩) 0 0) []:=Κ.ownsRow_lit (base:=base) (e:=3) (size:=1) wb #[] 0 aw (by unfold ϙ;omega) rfl;have ek:=Α (aq.out.ext ((Ι wb).alloc (Ε #[] 3)));go_upto_region 4 with (fail)
 have en:base<=(wb.alloc (Ε #[] 3)).heap.size:=by rw[Λ];omega
 have eo:D<(wb.alloc (Ε #[] 3)).heap.size:=by rw[Λ];omega
 have fl:D≠wb.heap.size:=by omega
 obtain⟨wq,ep⟩:∃ W,wb.alloc (Ε #[] 3)=W:=⟨_,rfl⟩;rw[ep] at ee ef eg eh ei ej en eo ek;rw[ep];clear ep aw HX U ak M dw ar aq;generalize wb.heap.size=g0 at *;go_wp2_with (fail);go_loopw [5,6] (λvr vi W=>∃ (k g c:Nat) (r:List Nat),k<=L+1/\vr=Β (Δ ⟨g,0,Γ⟩) r.length c/\vi=.int ζ k/\D≠g/\Ext w1 W/\Ϻ (Cs W (Β (Δ ⟨E,G,Γ⟩) (L+1) cc) (Cc L 256))/\base<=W.heap.size/\D<W.heap.size/\Ϻ (W.heap[D]? = Δ (Ε (dA (Β (Δ ⟨E,G,Γ⟩) (L+1) cc) (Β (Δ ⟨J,0,Γ⟩) m T) (Β H Ac.length I)) 30 (0,0)))/\
   W.ownsRow base 68 1 (Β (Δ ⟨J,0,Γ⟩) m T) m vs/\OwnB W base (Β H Ac.length I) Ac/\RowsO W base vs R (λo=>o=Δ g)/\OwnI W base (Β (Δ ⟨g,0,Γ⟩) r.length c) r/\Ϻ (r=δ k m))
  (λ_ vi _=>L+1-(intOf vi).toNat)
 case atStart=>exact⟨0,g0,0,[],by omega,rfl,rfl,fl,ee,ek,en,eo,ef,eg,eh,ei,ej,Α rfl⟩
 case round=>
  clear ee en eo ef eg eh ei ej fl ek;obtain⟨k,g,c,r,hk,rfl,rfl,cf,hE,aq,aw,ar,HX,U,ak,M,hQ,HR⟩:=hrel;obtain⟨wo,h8⟩:∃ W,W=wr:=⟨_,rfl⟩;subst h8;have c0:=(Ω wo D 0 _ _ _ HX.out).trans (show (dA (Β (Δ ⟨E,G,Γ⟩) (L+1) cc) (Β (Δ ⟨J,0,Γ⟩) m T) (Β H Ac.length I))[0]? = Δ (Β (Δ ⟨E,G,Γ⟩) (L+1) cc) from rfl);by_cases h9:k<L+1
  ·have jm:(k:Int)<(L:Int)+1:=by omega
   go_upto_region 7 with (fail)
   clear c0;have ia:r.length=k:=by rw[HR.out];simp
   have jn:r.length<=65536:=by omega
   clear ia;go_wp2_with (at_builtin;refine ϐ _ rfl _ _ 68 rfl base 3 i0 (.int ζ 0) 1 8 Tryz.underlying68 hi gp gq gr rfl (by decide) _ _ _ rfl (hQ.alloc _) _ 1 1 [iv m] rfl rfl (Ϫ _ _ _) (by simp[ϊ]) (by decide) (by unfold ϙ;omega) (by omega) (by simp;omega) _ rfl ?_;intro g7 c7 w7 cg ae bo _);have c5:=(hE.alloc (Ε #[iv m] 3)).grown ae (λk e=>by have:=(hQ.lt k e).1;omega);have be:=Α ((ae.block D (ε ar (by rw[Λ];omega)) (λe=>cf (ω e))).trans (Ag HX.out _));have c6:=Α (Sl.grown (aq.out.ext ((Ι wo).alloc (Ε #[iv m] 3))) ae (λe=>by have:=(hQ.lt E e.symm).1;omega));have c8:=(U.alloc (Ε #[iv m] 3)).kept ae (Ai U hQ (by decide));have da:=(ak.alloc (Ε #[iv m] 3)).kept ae (Ai ak hQ (by decide));have bp:=M.moved bo ae;have db:base<=w7.heap.size:=by
    have:=ae.size;rw[Λ] at this;omega
   have dc:D<w7.heap.size:=by
    have:=ae.size;rw[Λ] at this;omega
   have ib:D≠g7:=by
    rcases bo with h|h
    ·injection h with h;rw[<-h];exact cf
    ·rw[Λ] at h;omega
   have ic:Ϻ (OwnI w7 base (Β (Δ ⟨g7,0,Γ⟩) (r++[m]).length c7) (r++[m])):=Α (by
    show ϛ _ _ _ _ _ _ _;rw[Ο,ϔ];exact cg)
   have ie:Ϻ (r++[m]=δ (k+1) m):=Α (by rw[HR.out,List.replicate_succ']);clear ae bo hE HX aq U ak M hQ cg cf aw ar;go_roundw
   case rel=>exact⟨k+1,g7,c7,r++[m],by omega,by rw[Ο];rfl,by go_num,ib,c5,c6,db,dc,be,c8,da,bp,ic.out,ie⟩
   case measure=>simp[intOf];omega
  ·have HK:Ϻ (k=L+1):=Α (by omega);have HB:Ϻ (∀ v∈vs,v.ownBlock≠Δ g):=Α λv hv=>by
    obtain⟨j,hj,rfl⟩:=List.getElem_of_mem hv;have:=(M.2 j (by rw[<-M.1];exact hj)).2;rw[Ζ,Μ hj] at this;exact this
   replace M:=M.av (av':=λ_=>False) (λv l ho a1 e=>e);rw[<-Afj m L R] at M;have ih:Ϻ (r.length=L+1):=Α (by rw[HR.out,HK.out];simp);obtain⟨q,hq⟩:∃ q,r.length=q:=⟨_,rfl⟩;unfold OwnI at hQ;rw[hq] at hQ ih;simp only[hq];have ij:=Α hq;clear hq;go_upto_region 9 with (fail)
   clear c0 hk h9;go_loopw [7] (λvi W=>∃ s:Nat,s<=m/\vi=.int ζ s/\Ext w1 W/\Ϻ (Cs W (Β (Δ ⟨E,G,Γ⟩) (L+1) cc) (Cc L 256))/\base<=W.heap.size/\D<W.heap.size/\Ϻ (W.heap[D]? = Δ (Ε (dA (Β (Δ ⟨E,G,Γ⟩) (L+1) cc) (Β (Δ ⟨J,0,Γ⟩) m T) (Β H Ac.length I)) 30 (0,0)))/\
     W.ownsRow base 68 1 (Β (Δ ⟨J,0,Γ⟩) m T) m vs/\OwnB W base (Β H Ac.length I) Ac/\RowsO W base vs (De m L s R) (λ_=>False)/\W.ownsRow base 3 1 (Β (Δ ⟨g,0,Γ⟩) q c) q (r.map iv))
    (λvi _=>m-(intOf vi).toNat)
   case atStart=>exact⟨0,by omega,rfl,hE,aq,aw,ar,HX,U,ak,M,hQ⟩
   case round=>
    clear hE HX aq U ak M hQ aw ar;obtain⟨s,hs,rfl,hE,aq,aw,ar,HX,U,ak,M,hQ⟩:=hrel;by_cases fp:s<m
    ·go_upto_region 11 with (fail)
     have ch:s<R.length:=by rw[<-M.1.trans (E5 _ _ _ _),HM.out];exact fp
     have de:=(M.2 s (by rw[E5];exact ch)).1;rw[Ov _ _ _ _ _ ch,if_neg (Nat.lt_irrefl s)] at de;have bq:(R.getD s []).length=L+1:=(a7.out.2.2 s (by rw[<-a7.out.1];exact ch)).1;obtain⟨gs,cs,br⟩:=Uh de (by rw[bq];omega);have er:s<vs.length:=by rw[HM.out];exact fp
     have fq:D≠gs:=λe=>HG.out _ (Px (d:=ς) er) (by rw[br,e];rfl)
     have fs:g≠gs:=λe=>HB.out _ (Px (d:=ς) er) (by rw[br,e];rfl)
     have ft:=Α br;have hO:=de;rw[br] at hO;have ik:=(hO.lt gs rfl).1;have cn:=(U.cellAt s (by omega)).trans (show vs[s]? = Δ (vs.getD s ς) by rw[Ζ,Μ er];rfl);rw[br] at cn;unfold OwnI at hO;rw[bq] at hO cn;have c1:∀ W:Κ,W.heap[D]? = Δ (Ε (dA (Β (Δ ⟨E,G,Γ⟩) (L+1) cc) (Β (Δ ⟨J,0,Γ⟩) m T) (Β H Ac.length I)) 30 (0,0))->W.cell? ⟨D,1,Γ⟩=Δ (Β (Δ ⟨J,0,Γ⟩) m T):=λW hW=>(Ω W D 1 _ _ _ hW).trans rfl
     have c0:∀ W:Κ,W.heap[D]? = Δ (Ε (dA (Β (Δ ⟨E,G,Γ⟩) (L+1) cc) (Β (Δ ⟨J,0,Γ⟩) m T) (Β H Ac.length I)) 30 (0,0))->W.cell? ⟨D,0,Γ⟩=Δ (Β (Δ ⟨E,G,Γ⟩) (L+1) cc):=λW hW=>(Ω W D 0 _ _ _ hW).trans rfl
     have il:(s:Int)<(m:Int):=by omega
     have im:IntKind.i64.wrap (L:Int)=(L:Int):=IntWalk.i64_in _ ⟨by omega,by omega⟩;have iq:(L:Int)<(L:Int)+1:=by omega
     have ir:(0:Int)<=(L:Int):=by omega
     refine B0 11 [(0,Ξ),(1,Ξ),(2,Ξ),(3,Ξ),(4,Ξ),(5,Ξ),(6,Ξ),(7,Ξ),(8,Ξ),(9,Ξ),(10,Ξ),(11,Τ)] (by kernel_rfl) (by kernel_rfl) (λ_ _ _ _ h=>h)
      (λW=>W.heap[D]? = Δ (Ε (dA (Β (Δ ⟨E,G,Γ⟩) (L+1) cc) (Β (Δ ⟨J,0,Γ⟩) m T) (Β H Ac.length I)) 30 (0,0))/\W.cell? ⟨J,s,Γ⟩=Δ (Β (Δ ⟨gs,0,Γ⟩) (L+1) cs)) ⟨HX.out,cn⟩ ?_
     clear cn;iterate 11
      refine En (v:=?_) rfl rfl (λW hW=>?_) ?_
      rotate_left
      ·obtain⟨et,jo⟩:=hW;have k1:=c1 W et;have k0:=c0 W et;clear et;go_simp;first|done|with_reducible rfl
      simp only[Act.put,List.setIfInBounds_toArray,List.set_cons_zero,List.set_cons_succ]
     have bw:=hE.drew;have bf:=Ah hO (Ι wr).drew;have bg:=Ah U (Ι wr).drew;have bh:=Ah ak (Ι wr).drew;have bx:=Ah hQ (Ι wr).drew;have bz:=M.kept ((Ι wr).drew.grownBy Γ) (λv l _ _=>by cases v.ownBlock<;>simp);have a6:Ϻ (wr.drew.heap[D]? = Δ (Ε (dA (Β (Δ ⟨E,G,Γ⟩) (L+1) cc) (Β (Δ ⟨J,0,Γ⟩) m T) (Β H Ac.length I)) 30 (0,0))):=Α HX.out;have b0:Ϻ (Cs wr.drew (Β (Δ ⟨E,G,Γ⟩) (L+1) cc) (Cc L 256)):=Α (aq.out.ext (Ι wr).drew);have eu:base<=wr.drew.heap.size:=aw;have dg:D<wr.drew.heap.size:=ar;obtain⟨w9,ev⟩:∃ W,wr.drew=W:=⟨_,rfl⟩;rw[ev] at bw bf bg bh bx bz a6 b0 eu dg;rw[ev];clear ev hE hO U ak hQ M HX aq aw ar c0 c1 de;have k3:w9.cell? ⟨gs,L,Γ⟩=Δ (iv ((R.getD s []).getD L 0)):=Am (f:=iv) 0 bf bq.symm L (by omega);have f3:=bf.frozenAt L;refine Co rfl (λK hK=>?_);go_simp;refine hK _ _ (λh=>absurd h (by omega)) ?_;clear hK K k3 f3;refine B2 ?_;obtain⟨fv,aj⟩:=Bj (f:=iv) bf L m;have b4:=bw.grown aj (λk e=>by injection e with e;omega);have b5:=bg.kept aj (Ai bg bf (by decide));have b6:=bh.kept aj (Ai bh bf (by decide));have b7:=bx.kept aj (.inr λe=>fs (ω e));have cj:=Α ((aj.block D dg (λe=>fq (ω e))).trans a6.out);have ck:=Α (Sl.grown b0.out aj (λe=>by injection e with e;omega));have bj:=Adc bz h3.out (by rw[E5];exact ch) (by rw[ft.out];rfl) aj (r:=(R.getD s []).set L m) (by
      rw[ft.out,bq];unfold OwnI;rw[ύ,bq];exact fv)
     rw[<-Afk m L s R ch] at bj;have fw:base<=(w9.setCell ⟨gs,L,Γ⟩ (iv m)).heap.size:=ψ eu aj.size;have fx:D<(w9.setCell ⟨gs,L,Γ⟩ (iv m)).heap.size:=ε dg aj.size;obtain⟨wx,ew⟩:∃ W,w9.setCell ⟨gs,L,Γ⟩ (iv m)=W:=⟨_,rfl⟩;rw[ew] at b4 b5 b6 b7 cj ck bj fw fx;rw[ew];clear ew aj bw bf bg bh bx bz a6 b0 eu dg fv bq br im iq ir il fq fs ik;go_wp2;go_roundw
     case rel=>exact⟨s+1,by omega,by go_num,b4,ck,fw,fx,cj,b5,b6,bj,b7⟩
     case measure=>simp[intOf];omega
    ·obtain rfl:s=m:=by omega
     have js:s<=5:=dt;have jt:Ac.length<=5:=by rw[a7.out.2.1,<-cz.out];exact dt
     have ju:=(U.lt J rfl).1;go_upto_region 12 with (fail)
     have c1:=(Ω wr D 1 _ _ _ HX.out).trans (show (dA (Β (Δ ⟨E,G,Γ⟩) (L+1) cc) (Β (Δ ⟨J,0,Γ⟩) s T) (Β H Ac.length I))[1]? = Δ (Β (Δ ⟨J,0,Γ⟩) s T) from rfl);go_upto_region 13 with (at_builtin;refine ϐ _ rfl _ _ 27 rfl base 68 i6 (Β Γ 0 0) 1 24 Tryz.underlying27 hc hf hh hl rfl (by decide) _ s vs rfl (U.alloc _) _ 1 1 [Β (Δ ⟨g,0,Γ⟩) q c] rfl rfl (Ϫ _ _ _) (by simp[ϊ]) (by decide) (by unfold ϙ;omega) (by omega) (by simp;omega) _ rfl ?_;intro g7 c7 w7 c8 ae bo _;have be:Ϻ (w7.heap[D]? = _):=Α ((ae.block D (ε ar (by rw[Λ];omega)) (λe=>by have h:D=J:=ω e;omega)).trans (Ag HX.out _));have iu:=(Ω w7 D 1 _ _ _ be.out).trans (show (dA (Β (Δ ⟨E,G,Γ⟩) (L+1) cc) (Β (Δ ⟨J,0,Γ⟩) s T) (Β H Ac.length I))[1]? = Δ (Β (Δ ⟨J,0,Γ⟩) s T) from rfl);have f17:=Ϯ w7 D 1 _ _ be.out)
     clear c1 iu f17;have c5:=(hE.alloc (Ε #[Β (Δ ⟨g,0,Γ⟩) q c] 68)).grown ae (λk e=>by have:=(U.lt k e).1;omega);have cg:=(hQ.alloc (Ε #[Β (Δ ⟨g,0,Γ⟩) q c] 68)).kept ae (Ai hQ U (by decide));have da:=(ak.alloc (Ε #[Β (Δ ⟨g,0,Γ⟩) q c] 68)).kept ae (Ai ak U (by decide));have bp:=(M.alloc (Ε #[Β (Δ ⟨g,0,Γ⟩) q c] 68)).kept ae (λv l ho _=>Ai ho (U.alloc (Ε #[Β (Δ ⟨g,0,Γ⟩) q c] 68)) (by decide));have c6:=Α (Sl.grown (aq.out.ext ((Ι wr).alloc (Ε #[Β (Δ ⟨g,0,Γ⟩) q c] 68))) ae (λe=>by have h:E=J:=ω e;omega));have db:base<=w7.heap.size:=by
      have:=ae.size;rw[Λ] at this;omega
     have dc:D<w7.heap.size:=by
      have:=ae.size;rw[Λ] at this;omega
     have fy:D≠g7:=by
      rcases bo with h|h
      ·have h:J=g7:=ω h;omega
      ·rw[Λ] at h;omega
     have fz:RowsO w7 base vs (De s L s R) (λo=>o=Δ D):=⟨bp.1,λj hj=>⟨(bp.2 j hj).1,HG.out _ (Px (by rw[bp.1];exact hj))⟩⟩;have ey:w7.ownsRow base 68 1 (Β (Δ ⟨g7,0,Γ⟩) (s+1) c7) (vs++[ϟ (Δ ⟨g,0,Γ⟩) q c]).length (vs++[ϟ (Δ ⟨g,0,Γ⟩) q c]):=by
      rw[Ο,HM.out];exact c8
     obtain⟨ag,cl⟩:∃ v,ϟ (Δ ⟨g7,0,Γ⟩) (s+1) c7=v:=⟨_,rfl⟩;have ga:ag.ownBlock=Δ g7:=by rw[<-cl];rfl
     rw[cl] at ey;have b8:=Bx w7 D (dA (Β (Δ ⟨E,G,Γ⟩) (L+1) cc) ag (Β H Ac.length I));have cm:w7.setCell ⟨D,1,Γ⟩ ag=w7.setRow D (dA (Β (Δ ⟨E,G,Γ⟩) (L+1) cc) ag (Β H Ac.length I)):=Ϥ w7 _ _ _ _ _ _ be.out;have ez:=c5.setRow ea (dA (Β (Δ ⟨E,G,Γ⟩) (L+1) cc) ag (Β H Ac.length I));have dh:=cg.kept b8 (.inr λe=>cf (ω e).symm);have dk:=ey.kept b8 (.inr λe=>by rw[ga] at e;exact fy (ω e).symm);have b9:=da.kept b8 (.inr λe=>by have:=ec.out e;omega);have e0:=fz.kept b8 (λv l ho a1=>.inr a1);have e3:=Α (Sl.grown c6.out b8 (λe=>by have h:E=D:=ω e;omega));have dm:=Α (μ w7 D _ (dA (Β (Δ ⟨E,G,Γ⟩) (L+1) cc) ag (Β H Ac.length I)) _ _ be.out);have gb:base<=(w7.setRow D (dA (Β (Δ ⟨E,G,Γ⟩) (L+1) cc) ag (Β H Ac.length I))).heap.size:=by rw[Õ];exact db
     have e4:D<(w7.setRow D (dA (Β (Δ ⟨E,G,Γ⟩) (L+1) cc) ag (Β H Ac.length I))).heap.size:=by rw[Õ];exact dc
     rw[cl,cm];have iw:=Α cl;clear cl b8 cg c8 ey da bp fz c5 db be cm dc c6 ae bo hE U ak M hQ aq aw ar HX;obtain⟨w8,e5⟩:∃ W,w7.setRow D (dA (Β (Δ ⟨E,G,Γ⟩) (L+1) cc) ag (Β H Ac.length I))=W:=⟨_,rfl⟩;rw[e5] at dh dk b9 e0 dm ez gb e4 e3;rw[e5];clear e5;have c2:=(Ω w8 D 2 _ _ _ dm.out).trans (show (dA (Β (Δ ⟨E,G,Γ⟩) (L+1) cc) ag (Β H Ac.length I))[2]? = Δ (Β H Ac.length I) from rfl);go_upto_region 14 with (at_builtin;refine ϐ _ rfl _ _ 28 rfl base 4 i4 (.bool Τ) 1 1 Ã gv gw gx gy rfl (by decide) _ Ac.length (Ac.map ο) rfl (b9.alloc _) _ 1 1 [.bool Τ] rfl rfl (Ϫ _ _ _) (by simp[ϊ]) (by decide) (by unfold ϙ;omega) (by omega) (by simp;omega) _ rfl ?_;intro g9 c9 w9 bh bk gg _;have a6:Ϻ (w9.heap[D]? = _):=Α ((bk.block D (ε e4 (by rw[Λ];omega)) (λe=>by have:=ec.out e.symm;omega)).trans (Ag dm.out _));have iy:=(Ω w9 D 2 _ _ _ a6.out).trans (show (dA (Β (Δ ⟨E,G,Γ⟩) (L+1) cc) ag (Β H Ac.length I))[2]? = Δ (Β H Ac.length I) from rfl);have f29:=Ϯ w9 D 2 _ _ a6.out)
     clear c2 iy f29;have bw:=(ez.alloc (Ε #[.bool Τ] 4)).grown bk (λk e=>by have:=fk.out k e;omega);have bx:=(dh.alloc (Ε #[.bool Τ] 4)).kept bk (Ai dh b9 (by decide));have bg:=(dk.alloc (Ε #[.bool Τ] 4)).kept bk (Ai dk b9 (by decide));have bz:=(e0.alloc (Ε #[.bool Τ] 4)).kept bk (λv l ho _=>Ai ho (b9.alloc (Ε #[.bool Τ] 4)) (by decide));have b0:=Α (Sl.grown (e3.out.ext ((Ι w8).alloc (Ε #[.bool Τ] 4))) bk (λe=>by have:=fk.out E e.symm;omega));have iz:D≠g9:=by
      rcases gg with h|h
      ·intro e;rw[<-e] at h;exact absurd (ec.out h) (Nat.lt_irrefl _)
      ·rw[Λ] at h;omega
     have e6:OwnB w9 base (Β (Δ ⟨g9,0,Γ⟩) (Ac.length+1) c9) (Ac++[Τ]):=by
      show ϛ _ _ _ _ _ _ _;rw[Ο,ϔ];exact bh
     obtain⟨ba,cp⟩:∃ v,ϟ (Δ ⟨g9,0,Γ⟩) (Ac.length+1) c9=v:=⟨_,rfl⟩;have ja:ba.ownBlock=Δ g9:=by rw[<-cp];rfl
     rw[cp] at e6;have cb:=Bx w9 D (dA (Β (Δ ⟨E,G,Γ⟩) (L+1) cc) ag ba);have cm:w9.setCell ⟨D,2,Γ⟩ ba=w9.setRow D (dA (Β (Δ ⟨E,G,Γ⟩) (L+1) cc) ag ba):=Ϥ w9 _ _ _ _ _ _ a6.out;have b4:=bw.setRow ea (dA (Β (Δ ⟨E,G,Γ⟩) (L+1) cc) ag ba);have b7:=bx.kept cb (.inr λe=>cf (ω e).symm);have b5:=bg.kept cb (.inr λe=>by rw[ga] at e;exact fy (ω e).symm);have b6:=e6.kept cb (.inr λe=>by rw[ja] at e;exact iz (ω e).symm);have bj:=bz.kept cb (λv l ho a1=>.inr a1);have ck:=Α (Sl.grown b0.out cb (λe=>by have h:E=D:=ω e;omega));have cj:=Α (μ w9 D _ (dA (Β (Δ ⟨E,G,Γ⟩) (L+1) cc) ag ba) _ _ a6.out);rw[cp,cm];have jb:=Α cp;clear cp cb bx bg bh e6 bz bw a6 cm b0 bk gg ez dk b9 e0 dh e3 gb e4 dm;obtain⟨e7,e8⟩:∃ W,w9.setRow D (dA (Β (Δ ⟨E,G,Γ⟩) (L+1) cc) ag ba)=W:=⟨_,rfl⟩;rw[e8] at b7 b5 b6 bj cj b4 ck;rw[e8];clear e8;have gh:OwnI e7 base (Β (Δ ⟨g,0,Γ⟩) q c) r:=by unfold OwnI;rw[ij.out];exact b7
     have e9:=(bj.av (av':=λ_=>False) (λv l _ _ e=>e)).snoc gh (λe=>e);have cq:=Ou a7.out;have fa:s=N:=cz.out;have gi:r=δ (L+1) N:=by rw[HR.out,HK.out,fa]
     rw[fa,gi] at e9;have gj:IsD e7 (.agg (dA (Β (Δ ⟨E,G,Γ⟩) (L+1) cc) ag ba)) (C8 L N R Ac):=
      ⟨_,_,_,rfl,ck.out,e9.rows b5 (by have e:=cq.1;show (C8 L N R Ac).n.length<=_;omega) (λj hj=>by
       have h2:j<N+1:=by rw[<-cq.1];exact hj
       have:=(cq.2.2 j h2).1;show ((C8 L N R Ac).n.getD j []).length<=_;rw[this];omega),OwnB.bools b6 (by have e:=cq.2.1;show (C8 L N R Ac).acc.length<=_;omega)⟩
     have jd:=Α gj;have fb:=Α (b4.heap hr.out);clear gj e9 cq fa gi gh b7 b5 b6 bj;obtain rfl:=iw.out;obtain rfl:=jb.out;go_wp2_with (first
      | (refine Υ rfl 30 (η 3) rfl _ rfl _ _ _ _ cj.out Ν rfl Ad ?_)
      | (refine Φ rfl 30 (η 2) (η 52) rfl _ _ rfl rfl _ _ fb.out Ad rfl (Ap _ _ _ rfl rfl rfl) ?_))
     refine ϋ (v:=.agg (dA (Β (Δ ⟨E,G,Γ⟩) (L+1) cc) (Β (Δ ⟨g7,0,Γ⟩) (s+1) c7) (Β (Δ ⟨g9,0,Γ⟩) (Ac.length+1) c9))) (results_cell_row rfl _ _ _ _ _ _ _ rfl (μ e7 _ _ (dA (Β (Δ ⟨E,G,Γ⟩) (L+1) cc) (Β (Δ ⟨g7,0,Γ⟩) (s+1) c7) (Β (Δ ⟨g9,0,Γ⟩) (Ac.length+1) c9)) 30 (0,0) fb.out) Ν rfl Ad) rfl ?_;exact⟨_,rfl,C8 L N R Ac,IsD.setRow (Ot du a7.out) jd.out fb.out _,⟨Ot du a7.out,by rw[Uj a7.out,<-cz.out];omega,Afi du a7.out⟩,(hx.out.trans b4).setRow (by omega) _⟩
open Go.ChangeShapes Go.WideShapes Go.ChangeAt Go.WideMaps Go.WideElems Go.RowKit
def Kd : List (String × DataW Unit) := [("math/bits.deBruijn64tab", Rows.laid_math_bits_deBruijn64tab)]
theorem Afg:ownKnob Η.godebug=Γ:=by kernel_rfl
theorem Wt : Η.globalNamed "math/bits.deBruijn64tab" = Δ 0 := by kernel_rfl
theorem Aba:(Η.globals[0]?).map (·.type)=Δ 205:=by kernel_rfl
theorem Pm:laidOutB Η=Ξ:=by kernel_rfl
theorem Akv (os:Os) (args:Array Ρ):laidMetH Η Kd ((Κ.doorLaid Η 400 os).forCall (λ_ _=>0) ⟨#[],args,[]⟩).memory:=
 laidMetH_of_parts3 (fuel:=8) (laidMet_of_run' 8 (by kernel_rfl) (by kernel_rfl)) (by kernel_rfl) (by kernel_rfl)
theorem Aa9 {W:Κ} (h:laidMetH Η Kd W):Tab W/\0<W.heap.size:=by
 rw [MakeChecks.laidMetH_plain _ _ _ (by kernel_rfl)] at h;have G : Lib.TabIs Η W "math/bits.deBruijn64tab" .u8 (Lib.deBruijn64tab.map Int.ofNat) :=
  Lib.tabIs_of_head Wt Aba Tryz.underlying205 Tryz.underlying5 (by kernel_rfl) (by kernel_rfl) h
 have D:Tab W:=λj E=>by
  rw[G.cell Wt j (by simpa [Lib.deBruijn64tab] using E)];have H:j<Lib.deBruijn64tab.length:=by simpa [Lib.deBruijn64tab] using E
  simp[Ζ,H]
 exact⟨D,Κ.block_lt_of_cell? W _ (D 0 (by decide))⟩
theorem Qx {k:Int} (h:(Lit.int .u8 k).wf=Ξ):∃ n:Nat,k=n/\n<256:=by
 simp[Lit.wf,IntKind.min,IntKind.max,IntKind.bits,IntKind.signed] at h;exact⟨k.toNat,by omega,by omega⟩
theorem Yo {H:Type} {ab:Á × Ρ->H} {W:Κ} {ad:Nat} {x:DataW H × List MemPlace} {a:Option Addr} {len E:Nat} (hf:DataW.trod ab Η W 0 (λ_=>Ξ) Ξ ad 22 [Β a len E]=Δ x) :
  ∃ l:List UInt8,l.length=len/\ByW W (Β a len E) l:=by
 rcases open_ints Ϸ Tryz.underlying5 (by kernel_rfl) hf with⟨D,_⟩|⟨x,l,c,G,D,_,hl,hm,J,_,M,ag⟩
 ·simp at D;obtain⟨rfl,rfl,rfl⟩:=D;exact⟨[],rfl,by simp,.inl ⟨rfl,_,_,rfl⟩⟩
 ·simp at D;obtain⟨rfl,rfl,rfl⟩:=D;have J:G.length=E:=by simpa using J
  have I:((G.take len).map λz=>χ z.toNat).length=len:=by simp;omega
  refine⟨(G.take len).map λz=>χ z.toNat,I,by rw[I];exact ψ hl hm,?_⟩;rw[I];by_cases h0:len=0
  ·subst h0;exact .inl ⟨rfl,_,_,rfl⟩
  ·obtain⟨b,ai,aj⟩:=x;have T:=M 0 (by omega);have ak:aj=Γ:=by simpa [Addr.add] using Κ.cell?_spot T
   subst ak;refine .inr ⟨by omega,b,ai,E,rfl,Κ.block_lt_of_cell? W _ T,λi hi=>?_⟩;have U:=M i (by omega);have h2:i<G.length:=by omega
   have hw:=ag _ (á h2);obtain⟨n,hn,an⟩:=Qx hw;rw[Addr.add_lit] at U;rw[U];simp only[Ζ,List.getElem?_map,List.getElem?_take,Μ h2,à,Option.map_some,if_pos hi,hn,bv,ß]
   congr 2
   rw[u8n n an]
theorem Afs {H:Type} {D:Á × Ρ->H} {W:Κ} {E:Nat} {v:Ρ} {d:DataW H} {p:List MemPlace} (hv:Ρ.okWide Η W .any E 22 v) (h:DataW.Trod D Η W 0 (λ_=>Ξ) Ξ 22 v d p) :
  ∃ l:List UInt8,ByW W v l:=by
 obtain⟨a,len,J,rfl⟩:=okWide_slice Ϸ hv;obtain⟨M,G⟩:=h;obtain⟨l,_,I⟩:=Yo G;exact⟨l,I⟩
theorem Acd {H:Type} {E:Á × Ρ->H} {W:Κ} {G:Nat} {cs:List Ρ} {x:DataW H × List MemPlace} (I:DataW.trod E Η W 0 (λ_=>Ξ) Ξ G 22 cs=Δ x):∃ a len J,cs=[Β a len J]:=by
 rcases open_ints Ϸ Tryz.underlying5 (by kernel_rfl) I with⟨D,_⟩|⟨x,l,c,M,D,_⟩
 ·exact⟨_,_,_,D⟩
 ·exact⟨_,_,_,D⟩
theorem Afr {H:Type} {D:Á × Ρ->H} {W:Κ} {b0:Nat} {v:Ρ} {d:DataW H} {p:List MemPlace} (hv:Ρ.okWide Η W .any b0 24 v) (h:DataW.Trod D Η W 0 (λ_=>Ξ) Ξ 24 v d p) :
  ∃ S a n c A,v=.agg (Fv S a n c A)/\RawAt W S a n c A:=by
 obtain⟨cs,rfl,I⟩:=okWide_struct Tryz.underlying24 hv;obtain⟨aw,hf⟩:=h;obtain⟨xs,m,_,_,ax,ad,G⟩:=DataW.trod_struct Tryz.underlying24 hf;have ae:Η.cellsOf 24=3:=by kernel_rfl
 have af:Η.cellsOf 5=1:=by kernel_rfl
 have ag:Η.cellsOf 22=1:=by kernel_rfl
 rw[ae] at I;obtain⟨L⟩:=cs
 match L,I with
 | [u,s,t],_=>
  match xs,ad with
  | [x0,x1,x2],_=>
   have J:DataW.trod D Η W 0 (λ_=>Ξ) Ξ m 5 (([u,s,t].drop 0).take (Η.cellsOf 5))=Δ x0:=G 0 _ rfl;have E:DataW.trod D Η W 0 (λ_=>Ξ) Ξ m 22 (([u,s,t].drop 1).take (Η.cellsOf 22))=Δ x1:=G 1 _ rfl;have M:DataW.trod D Η W 0 (λ_=>Ξ) Ξ m 5 (([u,s,t].drop 2).take (Η.cellsOf 5))=Δ x2:=G 2 _ rfl;rw[af] at J M;rw[ag] at E;obtain⟨k0,e0,_,w0⟩:=DataW.trod_int Tryz.underlying5 J;obtain⟨k2,e2,_,w2⟩:=DataW.trod_int Tryz.underlying5 M;obtain⟨a,len,T,U⟩:=Acd E;rw[U] at E;obtain⟨l,hl,hb⟩:=Yo E;obtain⟨S,rfl,hS⟩:=Qx w0;obtain⟨A,rfl,hA⟩:=Qx w2;have f0:u=.int .u8 S:=by injection e0
   have f1:s=Β a len T:=by injection U
   have f2:t=.int .u8 A:=by injection e2
   subst f0 f1 f2;exact⟨S,a,len,T,A,rfl,hS,hA,l,hl,hb⟩
end Go.Proofs.YtaiogolidlamiaaGreatDoor
