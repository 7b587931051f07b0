import Derived.Test.YtaiogolidlamiaaGreatDoorN15
import Derived.Deep.Upon
import Derived.Test.YtaiogolidlamiaaGreatDoorN04
import Derived.Test.YtaiogolidlamiaaGreatDoorN05
import Derived.Test.YtaiogolidlamiaaGreatDoorN07
import Derived.Test.YtaiogolidlamiaaGreatDoorN08
import Derived.Test.YtaiogolidlamiaaGreatDoorN06
import Derived.Test.YtaiogolidlamiaaGreatDoorN10
set_option linter.unusedVariables false
set_option linter.unusedSimpArgs false
open And renaming intro → ß
open Bool renaming false → Τ, true → Ξ
open Classical renaming byContradiction → ϧ
open Go renaming World → Λ, Value → Ν, Calls → ϓ, heap_alloc2_new → Ϗ, cell_of_row → γ, wpQuiet_step → è, wpQuiet_nil → û, Operand → ϵ, Oper → ϳ, execOp → Ù, wpList_store_row → Φ, setRow_heap → μ, wpList_load_row → Ο, info_parts → Ϟ, wpList_make_full → ϩ, maxLen → ϛ, wpList_append_lies → Ϙ, cell_one_new → ϭ
open Go.Act renaming put → Ϛ
open Go.Ending renaming returned → θ
open Go.IntKind renaming u64 → π, i64 → ε
open Go.Lib renaming hid → Α
open Go.Obj renaming cells → Ε
open Go.Operand renaming tmp → η
open Go.Proofs.Tryz renaming prog → Ζ, zeroCells79 → ϖ, underlying79 → Ϻ, underlying68 → ϔ
open Go.RowKit renaming Hid → À
open Go.Value renaming slice → Β, pointer → Ω, int → ö, slice → Ϥ, bool → ο, oneCell' → ό
open Go.World renaming ownsRow_lit → Ý, ownsRow → Ϡ
open List renaming range → ι, getElem?_append_left → Ϣ, getElem?_append_right → ϗ, mem_range → υ, mem_map → ϸ, replicate → ζ, getD_eq_getElem?_getD → Η, length_append → Υ, map_append → ϝ, setIfInBounds_toArray → Ι, set_cons_zero → Χ, set_cons_succ → Ψ, length_replicate → Ò, length_set → ϒ, length_map → ϋ
open Nat renaming le_refl → ν, le_of_eq → à
open Option renaming some → Δ, none → Γ
open UInt8 renaming ofNat → χ
namespace Go.Proofs.YtaiogolidlamiaaGreatDoor
set_option maxRecDepth 100000
set_option maxHeartbeats 4000000
open Go.RowKit Go.Shelf
theorem Xw {d D:Dfa} (E:d.cls=D.cls) (G:d.n=D.n) (I:d.acc=D.acc):d=D:=by
 cases d;cases D;simp at E G I;simp[E,G,I]
theorem Ald (d D:Dfa):(d.cls=D.cls/\d.n=D.n/\d.acc=D.acc)↔d=D:=
 ⟨fun⟨E,G,I⟩=>Xw E G I,λh=>by subst h;exact⟨rfl,rfl,rfl⟩⟩
instance dfaDec:DecidableEq Dfa:=λd D=>decidable_of_iff _ (Ald d D)
theorem Alf {w W:Λ} {a J:Option Addr} {c T:Nat} {l D:List Cls} (h:Cs w (Β a l.length c) l) (U:Cs w (Β J D.length T) D) (M:Ext w W) (j:Nat) (hj:j<l.length) (ab:j<D.length) :
  ∃ b o b' E,a=Δ ⟨b,o,Γ⟩/\J=Δ ⟨b',E,Γ⟩/\((∀ e:EW W,e.W.cell? ⟨b,o+j*4,Γ⟩=Δ (.int π (wd (l.getD j 0#256) 0)))/\(∀ e:EW W,e.W.cell? ⟨b,o+j*4+1,Γ⟩=Δ (.int π (wd (l.getD j 0#256) 1)))/\
  (∀ e:EW W,e.W.cell? ⟨b,o+j*4+2,Γ⟩=Δ (.int π (wd (l.getD j 0#256) 2)))/\(∀ e:EW W,e.W.cell? ⟨b,o+j*4+3,Γ⟩=Δ (.int π (wd (l.getD j 0#256) 3))))/\
  ((∀ e:EW W,e.W.cell? ⟨b',E+j*4,Γ⟩=Δ (.int π (wd (D.getD j 0#256) 0)))/\(∀ e:EW W,e.W.cell? ⟨b',E+j*4+1,Γ⟩=Δ (.int π (wd (D.getD j 0#256) 1)))/\
  (∀ e:EW W,e.W.cell? ⟨b',E+j*4+2,Γ⟩=Δ (.int π (wd (D.getD j 0#256) 2)))/\(∀ e:EW W,e.W.cell? ⟨b',E+j*4+3,Γ⟩=Δ (.int π (wd (D.getD j 0#256) 3)))):=by
 obtain⟨b,o,c1,G,hx⟩:=Û h (by omega);obtain⟨b',E,c2,I,hy⟩:=Û U (by omega);injection G with G _ _
 injection I with I _ _
 exact⟨b,o,b',E,G,I,Ji (λi hi=>M.cell (hx i hi)) j hj,Ji (λi hi=>M.cell (hy i hi)) j ab⟩
theorem Tj {w W:Λ} {a J:Option Addr} {c U n E:Nat} {f M:Nat->Ν} (h:Sl w (Β a n c) 1 n f) (h':Sl w (Β J E U) 1 E M) (T:Ext w W) (j:Nat) (hj:j<n) (af:j<E) :
  ∃ b o b' D,a=Δ ⟨b,o,Γ⟩/\J=Δ ⟨b',D,Γ⟩/\(∀ e:EW W,e.W.cell? ⟨b,o+j,Γ⟩=Δ (f j))/\(∀ e:EW W,e.W.cell? ⟨b',D+j,Γ⟩=Δ (M j)):=by
 obtain⟨b,o,c1,G,hx⟩:=Û h (by omega);obtain⟨b',D,c2,I,hy⟩:=Û h' (by omega);injection G with G _ _
 injection I with I _ _
 exact⟨b,o,b',D,G,I,Be (T.cell (hx j (by omega))),Be (T.cell (hy j (by omega)))⟩
theorem Om (d D:Dfa) (v v':Ν) (w:Λ) (h:IsD w v d) (h':IsD w v' D) :
  ϓ Ζ 24 #[v,v'] w λe w'=>e=θ (.bool (decide (d=D)))/\Ext w w':=by
 obtain⟨vc,vn,va,rfl,hc,hr,ha⟩:=h;obtain⟨dk,dm,dn,rfl,b6,c9,b7⟩:=h';obtain⟨vs,da,b4,cl⟩:=hr;obtain⟨db,dc,b8,cm⟩:=c9;obtain⟨ac,cc,rfl⟩:=Sl.len hc;obtain⟨bf,bg,rfl⟩:=Sl.len b6;obtain⟨an,cn,rfl⟩:=Sl.len b4;obtain⟨bk,bl,rfl⟩:=Sl.len b8;obtain⟨aa,ca,rfl⟩:=Sl.len ha;obtain⟨bo,bp,rfl⟩:=Sl.len b7;have ar:=((Θ w).alloc (Ε (dA (Β ac d.cls.length cc) (Β an d.n.length cn) (Β aa d.acc.length ca)) 30)).alloc (Ε (dA (Β bf D.cls.length bg) (Β bk D.n.length bl) (Β bo D.acc.length bp)) 30);have H2:=Ag (Aa w (Ε (dA (Β ac d.cls.length cc) (Β an d.n.length cn) (Β aa d.acc.length ca)) 30)) (Ε (dA (Β bf D.cls.length bg) (Β bk D.n.length bl) (Β bo D.acc.length bp)) 30);have H3:=Ϗ w (Ε (dA (Β ac d.cls.length cc) (Β an d.n.length cn) (Β aa d.acc.length ca)) 30) (Ε (dA (Β bf D.cls.length bg) (Β bk D.n.length bl) (Β bo D.acc.length bp)) 30);obtain⟨w1,b5⟩:∃ W,(w.alloc (Ε (dA (Β ac d.cls.length cc) (Β an d.n.length cn) (Β aa d.acc.length ca)) 30)).alloc (Ε (dA (Β bf D.cls.length bg) (Β bk D.n.length bl) (Β bo D.acc.length bp)) 30)=W:=⟨_,rfl⟩;have HK:À (∀ W,Ext w1 W->(W.cell? ⟨w.heap.size,0,Γ⟩=Δ (Β ac d.cls.length cc)/\W.cell? ⟨w.heap.size,1,Γ⟩=Δ (Β an d.n.length cn)/\W.cell? ⟨w.heap.size,2,Γ⟩=Δ (Β aa d.acc.length ca))/\
   (W.cell? ⟨w.heap.size+1,0,Γ⟩=Δ (Β bf D.cls.length bg)/\W.cell? ⟨w.heap.size+1,1,Γ⟩=Δ (Β bk D.n.length bl)/\W.cell? ⟨w.heap.size+1,2,Γ⟩=Δ (Β bo D.acc.length bp))):=Α λW I=>by
  rw[b5] at H2 H3;exact⟨⟨(γ W _ 0 _ _ _ (I.heap H2)).trans rfl,(γ W _ 1 _ _ _ (I.heap H2)).trans rfl,(γ W _ 2 _ _ _ (I.heap H2)).trans rfl⟩,
   (γ W _ 0 _ _ _ (I.heap H3)).trans rfl,(γ W _ 1 _ _ _ (I.heap H3)).trans rfl,(γ W _ 2 _ _ _ (I.heap H3)).trans rfl⟩
 rw[b5] at ar;have au:=Α ar;have HC:=Α (λW (I:Ext w1 W) j (U:j<d.cls.length) (h2:j<D.cls.length)=>Alf hc b6 (ar.trans I) j U h2);have HR:=Α (λW (I:Ext w1 W) j (U:j<d.n.length) (h2:j<D.n.length)=>Tj b4 b8 (ar.trans I) j U h2);have cr:=Α (λW (I:Ext w1 W) j (U:j<d.n.length) (h2:j<D.n.length)=>Acr _ _ _ _ W ((cl j U).ext (ar.trans I)) ((cm j h2).ext (ar.trans I)));have HA:=Α (λW (I:Ext w1 W) j (U:j<d.acc.length) (h2:j<D.acc.length)=>Tj ha b7 (ar.trans I) j U h2);obtain⟨n1,ax⟩:∃ n,d.cls.length=n:=⟨_,rfl⟩;obtain⟨n2,az⟩:∃ n,d.n.length=n:=⟨_,rfl⟩;obtain⟨n3,a6⟩:∃ n,d.acc.length=n:=⟨_,rfl⟩;obtain⟨m1,bb⟩:∃ n,D.cls.length=n:=⟨_,rfl⟩;obtain⟨m2,bc⟩:∃ n,D.n.length=n:=⟨_,rfl⟩;obtain⟨m3,bd⟩:∃ n,D.acc.length=n:=⟨_,rfl⟩;have b1:=hc.1;have b2:=b4.1;have b3:=ha.1;rw[ax,az,a6,bb,bc,bd] at HK;rw[ax] at b1;rw[az] at b2;rw[a6] at b3;rw[ax,bb] at HC;rw[az,bc] at HR cr;rw[a6,bd] at HA;have HN:=Α (ß ax (ß az a6));have HM:=Α (ß bb (ß bc bd));have hz:∀ W,W=w1->Ext w1 W:=λW h=>h▸Θ w1
 have cf:=b5;rw[ax,az,a6,bb,bc,bd] at cf;have HW:=Α cf;have ch:À (¬ (n1=m1/\n2=m2/\n3=m3)->¬ d=D):=Α λhx e=>hx (by subst e;exact⟨HN.out.1.symm.trans HM.out.1,HN.out.2.1.symm.trans HM.out.2.1,HN.out.2.2.symm.trans HM.out.2.2⟩)
 rw[ax,az,a6,bb,bc,bd];clear ax az a6 bb bc bd hc b6 b4 b8 cl cm ha b7 H2 H3 ar b5 cf da dc;go_enter Tryz.func24,Tryz.ntmps24;go_upto_region 1 with (fail)
 simp only[dA] at HW;rw[HW.out];clear HW;obtain⟨⟨J,k1,M⟩,k3,k4,T⟩:=HK.out w1 (Θ w1);by_cases e1:n1=m1
 ·by_cases e2:n2=m2
  ·by_cases e3:n3=m3
   ·subst e1 e2 e3;go_wp2_with (fail);clear J k1 M k3 k4 T;go_loopw [5] (λvi W=>∃ j:Nat,j<=n1/\vi=.int ε j/\Ext w1 W/\À (∀ q,q<j->d.cls.getD q 0#256=D.cls.getD q 0#256))
     (λvi _=>n1-(intOf vi).toNat)
    case atStart=>exact⟨0,by omega,rfl,Θ w1,Α λq hq=>by omega⟩
    case round=>
     obtain⟨j,hj,rfl,E,HQ⟩:=hrel;obtain⟨⟨J,k1,M⟩,k3,k4,T⟩:=HK.out wr E;by_cases ai:j<n1
     ·obtain⟨b,o,b',o',rfl,rfl,⟨x0,x1,x2,x3⟩,y0,y1,y2,y3⟩:=HC.out wr E j ai ai;obtain⟨x,ag⟩:∃ x,d.cls.getD j 0#256=x:=⟨_,rfl⟩;obtain⟨y,ah⟩:∃ y,D.cls.getD j 0#256=y:=⟨_,rfl⟩;rw[ag] at x0 x1 x2 x3;rw[ah] at y0 y1 y2 y3;have HX:=Α ag;have HY:=Α ah;have hg:=Agt x y;obtain⟨bx,a7⟩:∃ b,(x != y)=b:=⟨_,rfl⟩;rw[a7] at hg;have bu:=Α a7;clear a7;clear ag ah;have J:=Be J;have k3:=Be k3;go_upto_region 6 with (fail)
      refine Dx (by kernel_rfl) (by kernel_rfl) ?_;iterate 11 (with_reducible refine è (λK G=>?_);go_simp;first|(refine G _ ?_;clear G K))
      refine û ?_;rintro _ ⟨e,rfl⟩;have ab:=E.trans e.ext;clear J k1 M k3 k4 T x0 x1 x2 x3 y0 y1 y2 y3;generalize e.W=w5 at *;cases bx with
      | false=>
       have a8:x=y:=by have:=bu.out;simpa using this
       go_wp2;go_roundw
       case rel=>exact⟨j+1,by omega,by go_num,ab,Α λq hq=>by
        by_cases ba:q<j
        ·exact HQ.out q ba
        ·obtain rfl:q=j:=by omega
         rw[HX.out,HY.out,a8]⟩
       case measure=>simp[intOf];omega
      | true=>
       have a8:¬ x=y:=by have:=bu.out;simpa using this
       have aq:À (¬ d=D):=Α λe=>a8 (by rw[<-HX.out,<-HY.out,e])
       go_wp2;go_ret;exact⟨by rw[decide_eq_false aq.out];rfl,au.out.trans ab⟩
     ·obtain rfl:j=n1:=by omega
      have df:=HQ;have bz:=E;clear k1 M k4 T E;go_wp2_with (fail);clear J k3;go_loopw [6] (λvi W=>∃ j:Nat,j<=n2/\vi=.int ε j/\Ext w1 W/\À (∀ q,q<j->d.n.getD q []=D.n.getD q []))
       (λvi _=>n2-(intOf vi).toNat)
      case atStart=>exact⟨0,by omega,rfl,bz,Α λq hq=>by omega⟩
      case round=>
       clear bz;obtain⟨j,hj,rfl,E,HQ⟩:=hrel;obtain⟨⟨J,k1,M⟩,k3,k4,T⟩:=HK.out wr E;by_cases ai:j<n2
       ·obtain⟨b,o,b',o',rfl,rfl,r1,r2⟩:=HR.out wr E j ai ai;obtain⟨u,hu⟩:∃ u,vs.getD j undef=u:=⟨_,rfl⟩;obtain⟨u',c6⟩:∃ u,db.getD j undef=u:=⟨_,rfl⟩;have f66:=λ(e:EW wr)=>Α (cr.out e.W (E.trans e.ext) j ai ai)
        rw[hu] at r1 f66;rw[c6] at r2 f66;obtain⟨x,ag⟩:∃ x,d.n.getD j []=x:=⟨_,rfl⟩;obtain⟨y,ah⟩:∃ y,D.n.getD j []=y:=⟨_,rfl⟩;rw[ag,ah] at f66;have HX:=Α ag;have HY:=Α ah;obtain⟨bx,a7⟩:∃ b,decide (x=y)=b:=⟨_,rfl⟩;rw[a7] at f66;have bu:=Α a7;clear a7 ag ah hu c6;have k1:=Be k1;have k4:=Be k4;go_upto_region 11 with (fail)
        refine Dx (by kernel_rfl) (by kernel_rfl) ?_;iterate 12 (with_reducible refine è (λK G=>?_);go_simp;first|(refine G _ ?_;clear G K)|(apply Exists.intro;refine⟨λ_=>?_,G _ ?_⟩;(with_reducible exact F7 (f66 _).out);clear G K))
        refine û ?_;rintro _ ⟨e,rfl⟩;have ab:=E.trans e.ext;clear J k1 M k3 k4 T r1 r2 f66;generalize e.W=w5 at *;cases bx with
        | true=>
         have a8:x=y:=of_decide_eq_true bu.out;go_wp2;go_roundw
         case rel=>exact⟨j+1,by omega,by go_num,ab,Α λq hq=>by
          by_cases ba:q<j
          ·exact HQ.out q ba
          ·obtain rfl:q=j:=by omega
           rw[HX.out,HY.out,a8]⟩
         case measure=>simp[intOf];omega
        | false=>
         have a8:¬ x=y:=of_decide_eq_false bu.out;have aq:À (¬ d=D):=Α λe=>a8 (by rw[<-HX.out,<-HY.out,e])
         go_wp2;go_ret;exact⟨by rw[decide_eq_false aq.out];rfl,au.out.trans ab⟩
       ·obtain rfl:j=n2:=by omega
        have dg:=HQ;have bz:=E;clear J M k3 T E;go_wp2_with (fail);clear k1 k4;go_loopw [7] (λvi W=>∃ j:Nat,j<=n3/\vi=.int ε j/\Ext w1 W/\À (∀ q,q<j->d.acc.getD q Τ=D.acc.getD q Τ))
         (λvi _=>n3-(intOf vi).toNat)
        case atStart=>exact⟨0,by omega,rfl,bz,Α λq hq=>by omega⟩
        case round=>
         clear bz;obtain⟨j,hj,rfl,E,HQ⟩:=hrel;obtain⟨⟨J,k1,M⟩,k3,k4,T⟩:=HK.out wr E;by_cases ai:j<n3
         ·obtain⟨b,o,b',o',rfl,rfl,r1,r2⟩:=HA.out wr E j ai ai;obtain⟨x,ag⟩:∃ x,d.acc.getD j Τ=x:=⟨_,rfl⟩;obtain⟨y,ah⟩:∃ y,D.acc.getD j Τ=y:=⟨_,rfl⟩;rw[ag] at r1;rw[ah] at r2;have HX:=Α ag;have HY:=Α ah;clear ag ah;have M:=Be M;have T:=Be T;rcases (show (x=Ξ/\y=Ξ)\/(x=Τ/\y=Τ)\/(x=Ξ/\y=Τ)\/(x=Τ/\y=Ξ) by cases x<;>cases y<;>simp) with h|h|h|h
          ·obtain⟨rfl,rfl⟩:=h;go_upto_region 16 with (fail)
           refine Dx (by kernel_rfl) (by kernel_rfl) ?_;iterate 11 (with_reducible refine è (λK G=>?_);go_simp;first|(refine G _ ?_;clear G K))
           refine û ?_;rintro _ ⟨e,rfl⟩;have ab:=E.trans e.ext;clear J k1 M k3 k4 T r1 r2;generalize e.W=w5 at *;go_wp2;go_roundw
           case rel=>exact⟨j+1,by omega,by go_num,ab,Α λq hq=>by
            by_cases ba:q<j
            ·exact HQ.out q ba
            ·obtain rfl:q=j:=by omega
             rw[HX.out,HY.out]⟩
           case measure=>simp[intOf];omega
          ·obtain⟨rfl,rfl⟩:=h;go_upto_region 16 with (fail)
           refine Dx (by kernel_rfl) (by kernel_rfl) ?_;iterate 11 (with_reducible refine è (λK G=>?_);go_simp;first|(refine G _ ?_;clear G K))
           refine û ?_;rintro _ ⟨e,rfl⟩;have ab:=E.trans e.ext;clear J k1 M k3 k4 T r1 r2;generalize e.W=w5 at *;go_wp2;go_roundw
           case rel=>exact⟨j+1,by omega,by go_num,ab,Α λq hq=>by
            by_cases ba:q<j
            ·exact HQ.out q ba
            ·obtain rfl:q=j:=by omega
             rw[HX.out,HY.out]⟩
           case measure=>simp[intOf];omega
          ·obtain⟨rfl,rfl⟩:=h;go_upto_region 16 with (fail)
           refine Dx (by kernel_rfl) (by kernel_rfl) ?_;iterate 11 (with_reducible refine è (λK G=>?_);go_simp;first|(refine G _ ?_;clear G K))
           refine û ?_;rintro _ ⟨e,rfl⟩;have ab:=E.trans e.ext;clear J k1 M k3 k4 T r1 r2;generalize e.W=w5 at *;have aq:À (¬ d=D):=Α λe=>by
            have U:=HX.out;have h2:=HY.out;rw[e,h2] at U;cases U
           go_wp2;go_ret;exact⟨by rw[decide_eq_false aq.out];rfl,au.out.trans ab⟩
          ·obtain⟨rfl,rfl⟩:=h;go_upto_region 16 with (fail)
           refine Dx (by kernel_rfl) (by kernel_rfl) ?_;iterate 11 (with_reducible refine è (λK G=>?_);go_simp;first|(refine G _ ?_;clear G K))
           refine û ?_;rintro _ ⟨e,rfl⟩;have ab:=E.trans e.ext;clear J k1 M k3 k4 T r1 r2;generalize e.W=w5 at *;have aq:À (¬ d=D):=Α λe=>by
            have U:=HX.out;have h2:=HY.out;rw[e,h2] at U;cases U
           go_wp2;go_ret;exact⟨by rw[decide_eq_false aq.out];rfl,au.out.trans ab⟩
         ·obtain rfl:j=n3:=by omega
          have aq:À (d=D):=Α (Xw (Ms _ _ 0#256 (HN.out.1.trans HM.out.1.symm) λq hq=>df.out q (by rw[<-HN.out.1];exact hq))
           (Ms _ _ [] (HN.out.2.1.trans HM.out.2.1.symm) λq hq=>dg.out q (by rw[<-HN.out.2.1];exact hq)) (Ms _ _ Τ (HN.out.2.2.trans HM.out.2.2.symm) λq hq=>HQ.out q (by rw[<-HN.out.2.2];exact hq)))
          clear J k1 k3 k4;go_wp2;go_ret;exact⟨by rw[decide_eq_true aq.out];rfl,au.out.trans E⟩
   ·have dr:¬ (n3:Int)=(m3:Int):=by omega
    subst e1 e2;go_wp2;go_ret;exact⟨by rw[decide_eq_false (ch.out (by omega))];rfl,au.out⟩
  ·have dt:¬ (n2:Int)=(m2:Int):=by omega
   subst e1;go_wp2;go_ret;exact⟨by rw[decide_eq_false (ch.out (by omega))];rfl,au.out⟩
 ·have du:¬ (n1:Int)=(m1:Int):=by omega
  go_wp2;go_ret;exact⟨by rw[decide_eq_false (ch.out (by omega))];rfl,au.out⟩
def ldA {w:Λ} {g:Nat} {V:Array Ν} (h:w.heap[g]? = Δ (Ε V 30 (0,0))) (hi:(Ζ.info? 30).map (·.size)=Δ V.size):Sc Ζ w:=
 .load 30 g V 30 (0,0) _ (λ_ D=>D.heap h) Tryz.underlying30 rfl hi
def Jo {P:Program} {w:Λ} (f:FuncId) (he:Enters P f) (args:List Ν) (v:Ν) (h:∀ W,Ext w W->ϓ P f args.toArray W λe w'=>e=θ v/\Ext W w'):Sc P w:=
 .call f he (args.map AV.c) (.c v) (AV.mono_c v) λW vs D E=>by
  rw[Ku E];exact (h W D).mono λe w' ⟨G,I⟩=>⟨v,G,rfl,I⟩
theorem Qu:Enters Ζ 24:=enters_of Tryz.func24 (by kernel_rfl) rfl
theorem C6 {W:Λ} {ρ:ϵ->Ν} {x y:ϵ} {u v:Ν} (h:Ex W [.c u,.c v] [ρ x,ρ y]):ρ x=u/\ρ y=v:=by
 have:=Ku (us:=[u,v]) h;injection this with E D
 injection D with D _
 exact⟨E,D⟩
theorem Pg {W:Λ} {ρ:ϵ->Ν} {x:ϵ} {u:Ν} (h:Ex W [.c u] [ρ x]):ρ x=u:=by
 have:=Ku (us:=[u]) h;injection this
theorem Aja (ρ:ϵ->Ν) (o:ϳ) (W:Λ) (x y:ϵ) (b n c k:Nat) (I:k<n) (D:o.op=.indexAddr 38 x y) (E:ρ x=Β (Δ ⟨b,0,Γ⟩) n c) (G:ρ y=.int ε k):(Ù ρ o).run Ζ W=.ok (.value (Ω (Δ ⟨b,k,Γ⟩))) W:=by
 have J:(k:Int)<(n:Int):=by omega
 unfold Ù;simp only[D,E,G];go_simp
def ix38 {w:Λ} (x y:ϵ) (b n c k:Nat) (E:k<n):Sc Ζ w:=
 .gen (.indexAddr 38 x y) [.c (Β (Δ ⟨b,0,Γ⟩) n c),.c (.int ε k)] (.c (Ω (Δ ⟨b,k,Γ⟩))) (AV.mono_c _) λρ o W G _ D=>⟨_,Aja ρ o W x y b n c k E G (C6 D).1 (C6 D).2,rfl⟩
theorem Ai9 (ρ:ϵ->Ν) (o:ϳ) (W:Λ) (x y:ϵ) (b n c k:Nat) (I:k<n) (D:o.op=.indexAddr 68 x y) (E:ρ x=Β (Δ ⟨b,0,Γ⟩) n c) (G:ρ y=.int ε k):(Ù ρ o).run Ζ W=.ok (.value (Ω (Δ ⟨b,k,Γ⟩))) W:=by
 have J:(k:Int)<(n:Int):=by omega
 unfold Ù;simp only[D,E,G];go_simp
def Gp {w:Λ} (x y:ϵ) (b n c k:Nat) (E:k<n):Sc Ζ w:=
 .gen (.indexAddr 68 x y) [.c (Β (Δ ⟨b,0,Γ⟩) n c),.c (.int ε k)] (.c (Ω (Δ ⟨b,k,Γ⟩))) (AV.mono_c _) λρ o W G _ D=>⟨_,Ai9 ρ o W x y b n c k E G (C6 D).1 (C6 D).2,rfl⟩
theorem Ais (ρ:ϵ->Ν) (o:ϳ) (W:Λ) (x:ϵ) (b k:Nat) (v:Ν) (G:W.cell? ⟨b,k,Γ⟩=Δ v) (D:o.op=.load 3 x) (E:ρ x=Ω (Δ ⟨b,k,Γ⟩)):(Ù ρ o).run Ζ W=.ok (.value v) W:=by
 unfold Ù;simp only[D,E];go_simp
def ld3 {w:Λ} (x:ϵ) (b k:Nat) (v:Ν) (D:∀ W,Ext w W->W.cell? ⟨b,k,Γ⟩=Δ v):Sc Ζ w:=
 .gen (.load 3 x) [.c (Ω (Δ ⟨b,k,Γ⟩))] (.c v) (AV.mono_c _) λρ o W E G I=>⟨_,Ais ρ o W x b k v (D W G) E (Pg I),rfl⟩
theorem Ajt (ρ:ϵ->Ν) (o:ϳ) (W:Λ) (x y:ϵ) (a b:Int) (D:o.op=.binOp .gtr 3 x y 3) (E:ρ x=.int ε a) (G:ρ y=.int ε b):(Ù ρ o).run Ζ W=.ok (.value (.bool (decide (b<a)))) W:=by
 unfold Ù;simp only[D,E,G];go_simp
def gtrC {w:Λ} (x y:ϵ) (a b:Int) (r:Bool) (E:decide (b<a)=r):Sc Ζ w:=
 .gen (.binOp .gtr 3 x y 3) [.c (.int ε a),.c (.int ε b)] (.c (.bool r)) (AV.mono_c _) λρ o W G _ D=>⟨_,Ajt ρ o W x y a b G (C6 D).1 (C6 D).2,by rw[E];rfl⟩
theorem Ak5 (ρ:ϵ->Ν) (o:ϳ) (W:Λ) (x y:ϵ) (a b:Int) (D:o.op=.binOp .eql 3 x y 3) (E:ρ x=.int ε a) (G:ρ y=.int ε b):(Ù ρ o).run Ζ W=.ok (.value (.bool (decide (a=b)))) W:=by
 unfold Ù;simp only[D,E,G];go_simp;rfl
def Qt {w:Λ} (x y:ϵ) (a b:Int) (r:Bool) (E:decide (a=b)=r):Sc Ζ w:=
 .gen (.binOp .eql 3 x y 3) [.c (.int ε a),.c (.int ε b)] (.c (.bool r)) (AV.mono_c _) λρ o W G _ D=>⟨_,Ak5 ρ o W x y a b G (C6 D).1 (C6 D).2,by rw[E];rfl⟩
theorem Ags (ρ:ϵ->Ν) (o:ϳ) (W:Λ) (x y:ϵ) (a b:Int) (D:o.op=.binOp .neq 3 x y 3) (E:ρ x=.int ε a) (G:ρ y=.int ε b):(Ù ρ o).run Ζ W=.ok (.value (.bool (!decide (a=b)))) W:=by
 unfold Ù;simp only[D,E,G];go_simp;rfl
def Iv {w:Λ} (x y:ϵ) (a b:Int) (r:Bool) (E:(!decide (a=b))=r):Sc Ζ w:=
 .gen (.binOp .neq 3 x y 3) [.c (.int ε a),.c (.int ε b)] (.c (.bool r)) (AV.mono_c _) λρ o W G _ D=>⟨_,Ags ρ o W x y a b G (C6 D).1 (C6 D).2,by rw[E];rfl⟩
def trL (c:Nat->Nat) (vn va:Ν):List Ν:=(ι 256).map (λb=>iv (c b))++[vn,va]
def trA (c:Nat->Nat) (vn va:Ν):Array Ν:=(trL c vn va).toArray
theorem Dw (c:Nat->Nat) (vn va:Ν):(trA c vn va).size=258:=by simp[trA,trL]
theorem Ih (c:Nat->Nat) (vn va:Ν) (b:Nat) (D:b<256):(trA c vn va)[b]? = Δ (iv (c b)):=by
 simp[trA,trL,Ϣ,D]
theorem Gc (c:Nat->Nat) (vn va:Ν):(trA c vn va)[256]? = Δ vn:=by
 simp[trA,trL,ϗ]
theorem J3 (c:Nat->Nat) (vn va:Ν):(trA c vn va)[257]? = Δ va:=by
 simp[trA,trL,ϗ]
theorem J2 {c c':Nat->Nat} (h:∀ b,b<256->c b=c' b) (vn va:Ν):trA c vn va=trA c' vn va:=by
 unfold trA trL
 congr 2
 exact List.map_congr_left λb D=>by rw[h b (υ.1 D)]
theorem Ss (c:Nat->Nat) (vn va:Ν) (b x:Nat) (D:b<256):(trA c vn va).setIfInBounds b (iv x)=trA (λy=>if y=b then x else c y) vn va:=by
 apply Array.ext';rw[Array.toList_setIfInBounds];unfold trA;simp only;apply List.ext_getElem?;intro i;unfold trL;rw[List.getElem?_set];by_cases hi:i<256
 ·by_cases e:b=i
  ·subst e;simp[Ϣ,D];omega
  ·simp[Ϣ,hi,e,Ne.symm e]
 ·have:b≠i:=by omega
  rw[if_neg this,ϗ (by simp;omega),ϗ (by simp;omega)];simp
theorem G2 (c:Nat->Nat) (vn va:Ν) (hn:vn.oneCell'=Ξ) (ha:va.oneCell'=Ξ):(trA c vn va).all (·.oneCell')=Ξ:=by
 rw[Array.all_eq_true_iff_forall_mem];intro x D;simp only[trA,trL,List.mem_toArray,List.mem_append,ϸ,List.mem_cons,List.not_mem_nil,or_false] at D;rcases D with⟨b,_,rfl⟩|rfl|rfl
 ·rfl
 ·exact hn
 ·exact ha
theorem Sq (vn va:Ν):trA (λ_=>0) vn va=(ζ 256 (ö ε 0)++[vn,va]).toArray:=by
 unfold trA trL
 congr 2
theorem Co:(Ζ.info? 79).map (·.size)=Δ 258:=by kernel_rfl
theorem Fb:ϖ.size=258:=by kernel_rfl
theorem Am0 (a D:Option Addr) (l c E G:Nat):Ζ.built 79 [(1,Β a l c),(2,Β D E G)]=Δ (ζ 256 (ö ε 0)++[Ϥ a l c,Ϥ D E G]).toArray:=by kernel_rfl
def IsR (W:Λ) (A:Array Ν) (t:Tbl):Prop:=∃ vn va,A=trA t.cell vn va/\Rows W vn t.n/\Bools W va t.acc
theorem IsR.ext {W W':Λ} {A:Array Ν} {t:Tbl} (h:IsR W A t) (D:Ext W W'):IsR W' A t:=by
 obtain⟨vn,va,hv,E,G⟩:=h;exact⟨vn,va,hv,E.ext D,G.ext D⟩
theorem Kg (d:Dfa) (hv:Val d) (hm:d.cls.length<=256) (v:Ν) (w:Λ) (h:IsD w v d) :
  ϓ Ζ 51 #[v] w λe w'=>∃ A,e=θ (.agg A)/\IsR w' A (Ae d)/\Ext w w':=by
 obtain⟨bc,oc,cc,G,I,J,M,T,U,rfl,hC,-,-⟩:=h.opened hv;have HD:=Α h;have cv:=Ad;have HC:=Α (λW (hW:Ext w W) b (hb:b<256)=>Ajh d.cls hv.parts hm b hb (Β (Δ ⟨bc,oc,Γ⟩) d.cls.length cc) W (hC.ext hW));clear hC h;obtain⟨nc,ag⟩:∃ n,d.cls.length=n:=⟨_,rfl⟩;have cw:=Α ag;obtain⟨D,a6⟩:∃ n,d.n.length=n:=⟨_,rfl⟩;rw[ag,a6] at HD;rw[ag] at HC;rw[ag,a6];clear ag a6;have hB:À (Ζ.built 79 [(1,Β (Δ ⟨G,I,Γ⟩) D J),(2,Β (Δ ⟨M,T,Γ⟩) D U)]=Δ (trA (λ_=>0) (Β (Δ ⟨G,I,Γ⟩) D J) (Β (Δ ⟨M,T,Γ⟩) D U))):=Α (by rw[Am0,Sq]);go_enter Tryz.func51,Tryz.ntmps51;go_upto_region 1 with (fail)
 obtain⟨V,hV⟩:∃ X,dA (Β (Δ ⟨bc,oc,Γ⟩) nc cc) (Β (Δ ⟨G,I,Γ⟩) D J) (Β (Δ ⟨M,T,Γ⟩) D U)=X:=⟨_,rfl⟩;have a8:=((Θ w).alloc (Ε V 30)).alloc (Ε ϖ 79);have H0:=Ag (Aa w (Ε V 30)) (Ε ϖ 79);have H1:=Ϗ w (Ε V 30) (Ε ϖ 79);have bp:V[0]? = Δ (Β (Δ ⟨bc,oc,Γ⟩) nc cc):=by rw[<-hV];rfl
 have bq:V[1]? = Δ (Β (Δ ⟨G,I,Γ⟩) D J):=by rw[<-hV];rfl
 have br:V[2]? = Δ (Β (Δ ⟨M,T,Γ⟩) D U):=by rw[<-hV];rfl
 have b5:=Α hV;rw[hV] at HD;rw[hV];clear hV;obtain⟨E,bd⟩:∃ W,(w.alloc (Ε V 30)).alloc (Ε ϖ 79)=W:=⟨_,rfl⟩;rw[bd] at a8 H0 H1;simp only[bd];clear bd;have b6:=Α (λW (hW:Ext E W)=>(γ W w.heap.size 0 _ _ _ (hW.heap H0)).trans bp);have c1:=(γ E w.heap.size 1 _ _ _ H0).trans bq;have c2:=(γ E w.heap.size 2 _ _ _ H0).trans br;have b9:=Α H1;clear H0 H1 bp bq br;obtain⟨A0,ai⟩:∃ A,trA (λ_=>0) (Β (Δ ⟨G,I,Γ⟩) D J) (Β (Δ ⟨M,T,Γ⟩) D U)=A:=⟨_,rfl⟩;have be:A0.size=258:=by rw[<-ai,Dw]
 have bt:A0.all (·.oneCell')=Ξ:=by rw[<-ai];exact G2 _ _ _ rfl rfl
 rw[ai] at hB;have bu:=Α ai;have HS:=Α (show ϖ.size=A0.size by rw[Fb,be]);clear ai;go_upto_region 2 with (first
  | (refine Bw rfl 79 _ rfl A0 ?_ ?_;(simp[Act.eval];with_reducible exact hB.out))
  | (refine Φ rfl 79 (η 3) (η 9) rfl E.heap.size A0 rfl rfl _ _ (Aa E (Ε ϖ 79)) (by rw[be];exact Co) HS.out bt ?_))
 clear c1 c2;have bf:Ext E ((E.alloc (Ε ϖ 79)).setRow E.heap.size A0):=((Θ E).alloc _).setRow (ν _) _;have H3:=μ (E.alloc (Ε ϖ 79)) _ _ A0 79 (0,0) (Aa E (Ε ϖ 79));have cb:E.heap.size<=E.heap.size:=ν _;obtain⟨w3,bg⟩:∃ W,(E.alloc (Ε ϖ 79)).setRow E.heap.size A0=W:=⟨_,rfl⟩;rw[bg] at bf H3;simp only[bg];clear bg;rw[<-bu.out,J2 (c:=λ_=>0) (c':=λb=>if b<0 then Ak d.cls b else 0) (λb _=>by simp)] at H3;have H3:=Α H3;have bx:=Α a8;clear be bt HS bu hB a8;have cd:∃ B,E.heap.size=B:=⟨_,rfl⟩;obtain⟨B,aq⟩:=cd;have cf:=Α aq;rw[aq] at H3;simp only[aq];clear aq cb;go_wp2_with (fail);go_loopw [4] (λvi W=>∃ k:Nat,k<=256/\vi=.int ε k/\Ext E W/\À (W.heap[B]? = Δ (Ε (trA (λb=>if b<k then Ak d.cls b else 0) (Β (Δ ⟨G,I,Γ⟩) D J) (Β (Δ ⟨M,T,Γ⟩) D U)) 79 (0,0))))
  (λvi _=>256-(intOf vi).toNat)
 case atStart=>exact⟨0,by omega,rfl,bf,H3⟩
 case round=>
  clear bf H3;obtain⟨k,hk,rfl,hE,HB⟩:=hrel;by_cases bj:k<256
  ·have c0:=b6.out wr hE;have f97:=Α (HC.out wr (bx.out.trans hE) k bj);obtain⟨q,hq⟩:∃ q,Ak d.cls k=q:=⟨_,rfl⟩;have HQ:=Α hq;rw[hq] at f97;clear hq;have cz:(k:Int)<256:=by omega
   go_upto_region 4 with (first
    | (go_at_call 97;(with_reducible refine f97.out.mono ?_);rintro e wy ⟨rfl,bk⟩;have aj:=Α (bk.heap HB.out);have ky:=(γ wy B k _ _ _ aj.out).trans (Ih _ _ _ k bj);have fy:=frozen_of_row wy B k _ _ aj.out))
   clear ky fy c0 f97;have bz:=hE.trans bk;rw[setCell_eq_setRow wy _ _ _ _ _ _ aj.out,Ss _ _ _ _ _ bj];have hq:=J2 (c:=λy=>if y=k then q else if y<k then Ak d.cls y else 0) (c':=λb=>if b<k+1 then Ak d.cls b else 0) (λb hb=>by
    by_cases e:b=k
    ·subst e;rw[if_pos rfl,if_pos (by omega),HQ.out]
    ·rw[if_neg e];by_cases h:b<k
     ·rw[if_pos h,if_pos (by omega)]
     ·rw[if_neg h,if_neg (by omega)]) (Β (Δ ⟨G,I,Γ⟩) D J) (Β (Δ ⟨M,T,Γ⟩) D U)
   rw[hq];have ck:=Α (μ wy B _ (trA (λb=>if b<k+1 then Ak d.cls b else 0) (Β (Δ ⟨G,I,Γ⟩) D J) (Β (Δ ⟨M,T,Γ⟩) D U)) _ _ aj.out);have cl:=bz.setRow (g:=B) (by rw[cf.out];exact ν _) (trA (λb=>if b<k+1 then Ak d.cls b else 0) (Β (Δ ⟨G,I,Γ⟩) D J) (Β (Δ ⟨M,T,Γ⟩) D U));clear hq hE bz HB aj bk;go_wp2;go_roundw
   case rel=>exact⟨k+1,by omega,by go_num,cl,ck⟩
   case measure=>simp[intOf];omega
  ·obtain rfl:k=256:=by omega
   have ak:=HB.out;rw[J2 (c':=Ak d.cls) (λb hb=>by rw[if_pos hb])] at ak;obtain⟨A,hA⟩:∃ A,trA (Ak d.cls) (Β (Δ ⟨G,I,Γ⟩) D J) (Β (Δ ⟨M,T,Γ⟩) D U)=A:=⟨_,rfl⟩;have aw:A.size=258:=by rw[<-hA,Dw]
   have cm:A.all (·.oneCell')=Ξ:=by rw[<-hA];exact G2 _ _ _ rfl rfl
   rw[hA] at ak;have ak:=Α ak;have cp:=Α hA;have HS:=Α (show ϖ.size=A.size by rw[Fb,aw]);have HR:=Α (hE.heap b9.out);have b4:=(bx.out.trans hE).setRow (g:=w.heap.size+1) (by omega) A;clear hA HB;go_wp2_with (first
    | (refine Ο rfl 79 (η 3) rfl _ rfl _ _ _ _ ak.out Ϻ rfl (by rw[aw];exact Co) ?_)
    | (refine Φ rfl 79 (η 2) (η 21) rfl _ A rfl rfl _ _ HR.out (by rw[aw];exact Co) HS.out cm ?_))
   refine bodyPost_ret (v:=.agg A) (results_cell_row rfl _ _ _ _ _ _ _ rfl (μ wr _ _ A 79 (0,0) HR.out) Ϻ rfl (by rw[aw];exact Co)) rfl ?_;refine⟨A,rfl,?_,b4⟩;obtain⟨c3,c4,c5,he,_,cq,cr⟩:=HD.out.ext b4;rw[<-b5.out] at he;injection he with he
   unfold dA at he;injection he with he
   injection he with e0 he
   injection he with e1 he
   injection he with e2 he
   subst e1;subst e2
   exact⟨_,_,cp.out.symm,cq,cr⟩
theorem IsR.opened {W:Λ} {A:Array Ν} {t:Tbl} (h:IsR W A t) (hv:TVal t):∃ D E J G I M,A.size=258/\A.all (·.oneCell')=Ξ/\(∀ b,b<256->A[b]? = Δ (iv (t.cell b)))/\
  A[256]? = Δ (Β (Δ ⟨D,E,Γ⟩) t.n.length J)/\A[257]? = Δ (Β (Δ ⟨G,I,Γ⟩) t.n.length M)/\RowsAt W D E t.n.length t.cells t.ent2/\∀ s,s<t.n.length->W.cell? ⟨G,I+s,Γ⟩=Δ (.bool (t.ok s)):=by
 obtain⟨vn,va,rfl,T,U⟩:=h;obtain⟨D,E,J,rfl,hr⟩:=L5 T t.cells hv.pos hv.cpos hv.row;obtain⟨G,I,M,rfl,ha⟩:=Le U (by rw[hv.accL];exact hv.pos);refine⟨D,E,J,G,I,M,Dw _ _ _,G2 _ _ _ rfl rfl,λb hb=>Ih _ _ _ b hb,Gc _ _ _,by rw[J3,hv.accL],hr,λs hs=>ha s (by rw[hv.accL];exact hs)⟩
theorem An7 (t:Tbl) (hv:TVal t) (A:Array Ν) (s:Nat) (hs:s<t.n.length) (l:List UInt8) (u:Ν) (w:Λ) (h:IsR w A t) (I:By w u l) :
  ϓ Ζ 53 #[.agg A,.int ε s,u] w λe w'=>e=θ (iv (t.run s l))/\Ext w w':=by
 obtain⟨bn,on,cn,ba,oa,ca,b5,b6,bg,aq,-,hR,-⟩:=h.opened hv;obtain⟨au,bu,ou,cu,rfl,aw,ax⟩:=I.split;have cd:=hv.cle;have J:=(Θ w).alloc (Ε A 79);have M:=Aa w (Ε A 79);have bh:l.length<=4611686018427387904:=I.1;have HU:=Α (λW (T:Ext w W) i (hi:i<l.length)=>T.cell (ax i hi));have az:=Α aw;have HR:=Α (λW (T:Ext w W)=>hR.ext T);have U:=Α (λk (hk:k<=l.length)=>hv.run_lt (l.take k) hs);have HV:=Α hv;clear I h hR aw ax hv;obtain⟨nn,aa⟩:∃ n,t.n.length=n:=⟨_,rfl⟩;have cg:=Α aa;rw[aa] at HR U aq;clear aa hs;obtain⟨D,G⟩:∃ n,l.length=n:=⟨_,rfl⟩;have ab:=Α G;rw[G] at HU az U bh;rw[G];clear G;go_enter Tryz.func53,Tryz.ntmps53;go_upto_region 1 with (fail)
 obtain⟨w1,ad⟩:∃ W,w.alloc (Ε A 79)=W:=⟨_,rfl⟩;rw[ad] at J M;simp only[ad];clear ad;have HX:=Α M;have af:=Α J;clear M J;obtain⟨B,hB⟩:∃ y,w.heap.size=y:=⟨_,rfl⟩;rw[hB] at HX;simp only[hB];clear hB;go_wp2_with (fail);go_loopw [1,7] (λvs vi W=>∃ i q:Nat,i<=D/\vs=.int ε q/\vi=.int ε i/\À (q=t.run s (l.take i))/\Ext w1 W)
  (λ_ vi _=>D-(intOf vi).toNat)
 case atStart=>exact⟨0,s,by omega,rfl,rfl,Α rfl,Θ _⟩
 case round=>
  obtain⟨i,q,hi,rfl,rfl,HQ,hE⟩:=hrel;by_cases aj:i<D
  ·have ch:(i:Int)<(D:Int):=by omega
   obtain rfl:=az.out (by omega);obtain⟨x,hx⟩:∃ x,l.getD i 0=x:=⟨_,rfl⟩;have a8:=x.toNat_lt;have bk:q<nn:=by rw[HQ.out];exact U.out i hi
   have cj:(q:Int)<(nn:Int):=by omega
   have E:=hE.drew;have kx:=HU.out wr.drew (af.out.trans E) i aj;rw[hx] at kx;obtain⟨br,cl,cr,kr,bc⟩:=HR.out wr.drew (af.out.trans E) q bk;have kn:=(γ wr.drew B 256 _ _ _ (E.heap HX.out)).trans aq;have kc:=(γ wr.drew B x.toNat _ _ _ (E.heap HX.out)).trans (bg x.toNat a8);have be:=HV.out.cell_lt x.toNat a8;obtain⟨cx,an⟩:∃ c,t.cell x.toNat=c:=⟨_,rfl⟩;rw[an] at kc be;have ke:=bc cx be;obtain⟨z,hz⟩:∃ z,t.ent2 q cx=z:=⟨_,rfl⟩;rw[hz] at ke;have cp:(cx:Int)<(t.cells:Int):=by omega
   have HZ:À (z=t.run s (l.take (i+1))):=Α (by
    rw[<-hz,<-an,List.take_succ_eq_append_getElem (by rw[ab.out];exact aj)];have e:l[i]'(by rw[ab.out];exact aj)=x:=by
     rw[<-hx,Η,List.getElem?_eq_getElem];rfl
    rw[e,Ct,<-HQ.out];rfl)
   have cq:(x.toNat:Int)<256:=by omega
   have ct:(0:Int)<=(x.toNat:Int):=by omega
   clear bc hx an hz;go_upto_region 4 with (fail)
   go_region
   clear kx kr kn kc ke;go_wp2;go_roundw
   case rel=>exact⟨i+1,z,by omega,rfl,by go_num,HZ,E⟩
   case measure=>simp[intOf];omega
  ·obtain rfl:i=D:=by omega
   have bp:À (q=t.run s l):=Α (by rw[HQ.out,List.take_of_length_le (by rw[ab.out];exact ν _)]);have bq:=af.out.trans hE;go_wp2;go_ret;exact⟨congrArg (λz:Nat=>Ending.returned (iv z)) bp.out,bq⟩
theorem Ad9 (t:Tbl) (hv:TVal t) (hn:t.n.length<=65536) (A:Array Ν) (w:Λ) (h:IsR w A t) :
  ϓ Ζ 101 #[.agg A] w λe w'=>∃ v l,e=θ v/\Reached t l/\Ints w' v l/\Ext w w':=by
 obtain⟨bn,on,cn,ba,oa,ca,b4,b5,_,a8,_,hR,_⟩:=h.opened hv;have b6:=hv.pos;have dh:=hv.cpos;have dk:=hv.cle;have HR:=Α hR;have HV:=Α hv;obtain⟨i0,hi,b9,cb,cd⟩:=Ϟ Cp;obtain⟨j0,hj,ch,cj,ck⟩:=Ϟ D8;have ab:=(Θ w).alloc (Ε A 79);have H0:=Aa w (Ε A 79);have HK:=Α (λ(W:Λ) (hW:Ext (w.alloc (Ε A 79)) W)=>(γ W w.heap.size 256 _ _ _ (hW.heap H0)).trans a8);clear hR hv h H0 a8 b5 b4;go_enter Tryz.func101,Tryz.ntmps101;go_upto_region 1 with (fail)
 generalize w.alloc (Ε A 79)=w1 at *;have k1:=HK.out w1 (Θ w1);go_upto_region 2 with (at_make;refine ϩ _ rfl _ _ 28 rfl w1.heap.size 4 j0 (.bool Τ) 1 Tryz.underlying28 hj ch cj ε ε _ _ t.n.length rfl rfl rfl rfl (by rw[ck];omega) (by unfold ϛ;omega) (ν _) ?_;intro w2 be bf)
 have cp:Ext w1 w2:=(Θ w1).grown bf (λk e=>by cases e);have ad:w2.ownsRow w1.heap.size 4 1 (Β (Δ ⟨w1.heap.size,0,Γ⟩) t.n.length t.n.length) t.n.length ((D6 t.n.length []).map ο):=by rw[Tq,<-B6];exact be
 have cs:=Am Τ ad (Gg _ _).symm 0 (by rw[Gg];exact b6);have fs:=ad.frozenAt 0;obtain⟨bg,bh⟩:=Bk ad 0 Ξ;rw[L0,List.nil_append] at bg;have bj:=cp.grown bh (λk e=>by cases e;exact ν _);clear be bf k1 ad bh;go_upto_region 3 with (fail)
 clear cs fs;obtain⟨w3,bl⟩:∃ W,w2.setCell ⟨w1.heap.size,0,Γ⟩ (.bool Ξ)=W:=⟨_,rfl⟩;simp only[bl] at *;clear bl;have cu:=bj.alloc (Ε #[.int ε 0] 3);have cv:=bg.alloc (Ε #[.int ε 0] 3);have cw:=Ý (base:=w1.heap.size) (e:=3) (size:=1) w3 #[.int ε 0] 1 bj.size (by unfold ϛ;omega) rfl;generalize bm:w1.heap.size=E at *;have bo:=Α bm;clear bm;go_wp2_with (fail);go_loopw [4,5] (λv i W=>∃ (l:List Nat) (k g c:Nat),k<=l.length/\i=.int ε k/\v=Β (Δ ⟨g,0,Γ⟩) l.length c/\Ext w1 W/\OwnI W E v l/\
   W.ownsRow E 4 1 (Β (Δ ⟨E,0,Γ⟩) t.n.length t.n.length) t.n.length ((D6 t.n.length l).map ο)/\À (BInv t l k 0))
  (λ_ i _=>t.n.length-(intOf i).toNat)
 case atStart=>exact⟨[0],0,w3.heap.size,1,by omega,rfl,rfl,cu,cw,cv,Α (Y4 HV.out)⟩
 case round=>
  obtain⟨l,k,g,c,hk,rfl,rfl,hE,T,hS,HI⟩:=hrel;have dn:=HI.out.le;by_cases aw:k<l.length
  ·have cl:=Be (Am 0 T rfl k aw);have ax:=HI.out.lt _ (D9 l k 0 aw);obtain⟨s,ay⟩:∃ s,l.getD k 0=s:=⟨_,rfl⟩;rw[ay] at cl ax;have cx:=Α ay;clear ay;obtain⟨br,or',cr,bq,bt⟩:=HR.out s ax;have cy:=Be ((ab.trans hE).cell bq);have k1:=Be (HK.out wr hE);have bu:=Α bt;clear bq bt;go_upto_region 7 with (fail)
   refine Dx (by kernel_rfl) (by kernel_rfl) ?_;iterate 9 (with_reducible refine è (λK hK=>?_);go_simp;(refine hK _ ?_;clear hK K))
   refine û ?_;rintro _ ⟨e,rfl⟩;clear cl cy k1;have cz:=hE.trans e.ext;have T:=Ah T e.ext;have hS:=Ah hS e.ext;generalize e.W=w5 at *;have c1:w1.heap.size<=E:=à bo.out;have dt:E<=w1.heap.size:=à bo.out.symm;go_wp2_with (fail);go_loopw [4,7] (λv i W=>∃ (D:List Nat) (q g' c':Nat),q<=t.cells/\i=.int ε q/\v=Β (Δ ⟨g',0,Γ⟩) D.length c'/\Ext w1 W/\OwnI W E v D/\
     W.ownsRow E 4 1 (Β (Δ ⟨E,0,Γ⟩) t.n.length t.n.length) t.n.length ((D6 t.n.length D).map ο)/\À (BInv t D k q)/\À (k<D.length/\D.getD k 0=s))
    (λ_ i _=>t.cells-(intOf i).toNat)
   case atStart=>exact⟨l,0,g,c,by omega,rfl,rfl,cz,T,hS,HI,Α ⟨aw,cx.out⟩⟩
   case round=>
    obtain⟨D,q,g',c',hq,rfl,rfl,U,aa,I,ai,G⟩:=hrel;have dv:=ai.out.le;by_cases aj:q<t.cells
    ·have cq:=(ab.trans U).cell (bu.out q aj);have az:=HV.out.tgt s ax q aj;obtain⟨x,a1⟩:∃ x,t.ent2 s q=x:=⟨_,rfl⟩;rw[a1] at cq az;have ak:=Α a1;clear a1;have al:=Am Τ I (Gg _ _).symm x (by rw[Gg];exact az);rw[Tr _ _ _ az] at al;have c2:=I.frozenAt x;have dw:=U.size;by_cases J:x∈D
     ·rw[decide_eq_true J] at al;have M:=Α (Y5 ai.out (by rw[G.out.2,ak.out];exact J));clear J;go_wp2;go_roundw
      case rel=>exact⟨D,q+1,g',c',by omega,by go_num,rfl,U,aa,I,M,G⟩
      case measure=>simp[intOf];omega
     ·rw[decide_eq_false J] at al;have M:=Α (Y7 HV.out ai.out G.out.1 aj (by rw[G.out.2,ak.out];exact J));rw[G.out.2,ak.out] at M;clear J;obtain⟨an,bz⟩:=Bk I x Ξ;rw[L0] at an;have ao:=aa.kept bz (Aj aa I (by decide));have a6:=U.grown bz (λk e=>by cases e;exact c1);go_upto_region 13 with (fail)
      obtain⟨w6,b0⟩:∃ W,wr.setCell ⟨E,x,Γ⟩ (.bool Ξ)=W:=⟨_,rfl⟩;simp only[b0] at *;clear b0 al c2 I aa cq;have dy:=a6.size;have c3:=(ab.trans a6).cell (bu.out q aj);rw[ak.out] at c3;go_wp2_with (at_builtin;refine Ϙ _ rfl _ _ 68 rfl E 3 i0 (.int ε 0) 1 8 ϔ hi b9 cb cd rfl (by decide) _ _ _ rfl (ao.alloc _) _ 1 1 [iv x] rfl rfl (ϭ _ _ _) (by simp[ό]) (by decide) (by unfold ϛ;omega) (by omega) (by simp;omega) _ rfl ?_);intro g7 c7 w7 c6 a7 _ _;have c8:=(an.alloc (Ε #[iv x] 3)).kept a7 (Aj an ao (by decide));have c9:=(a6.alloc (Ε #[iv x] 3)).grown a7 (λk e=>by have:=(ao.lt k e).1;omega);clear a7 ao an;go_wp2;go_roundw
      case rel=>
       refine⟨D++[x],q+1,g7,c7,by omega,by go_num,by rw[Υ];rfl,c9,?_,c8,M,Α ⟨by rw[Υ];have:=G.out.1;omega,by rw[Bt _ _ _ _ G.out.1];exact G.out.2⟩⟩;show Ϡ _ _ _ _ _ _ _;rw[Υ,ϝ];exact c6
      case measure=>simp[intOf];omega
    ·obtain rfl:q=t.cells:=by omega
     have M:=Α (Y6 ai.out);go_wp2;go_roundw
     case rel=>exact⟨D,k+1,g',c',by have:=G.out.1;omega,by go_num,rfl,U,aa,I,M⟩
     case measure=>simp[intOf];omega
  ·obtain rfl:k=l.length:=by omega
   have da:=Α (Y8 HI.out);go_wp2;go_ret;exact⟨_,l,rfl,da.out,T.ints (by omega),ab.trans hE⟩
theorem Ai6 (ρ:ϵ->Ν) (o:ϳ) (W:Λ) (x y:ϵ) (b D n c k:Nat) (J:k<n) (E:o.op=.indexAddr 68 x y) (G:ρ x=Β (Δ ⟨b,D,Γ⟩) n c) (I:ρ y=.int ε k):(Ù ρ o).run Ζ W=.ok (.value (Ω (Δ ⟨b,D+k,Γ⟩))) W:=by
 have M:(k:Int)<(n:Int):=by omega
 unfold Ù;simp only[E,G,I];go_simp
def Cx {w:Λ} (x y:ϵ) (b D n c k:Nat) (G:k<n):Sc Ζ w:=
 .gen (.indexAddr 68 x y) [.c (Β (Δ ⟨b,D,Γ⟩) n c),.c (.int ε k)] (.c (Ω (Δ ⟨b,D+k,Γ⟩))) (AV.mono_c _) λρ o W I _ E=>⟨_,Ai6 ρ o W x y b D n c k G I (C6 E).1 (C6 E).2,rfl⟩
theorem Ai7 (ρ:ϵ->Ν) (o:ϳ) (W:Λ) (x y:ϵ) (b D n c k:Nat) (J:k<n) (E:o.op=.indexAddr 27 x y) (G:ρ x=Β (Δ ⟨b,D,Γ⟩) n c) (I:ρ y=.int ε k):(Ù ρ o).run Ζ W=.ok (.value (Ω (Δ ⟨b,D+k,Γ⟩))) W:=by
 have M:(k:Int)<(n:Int):=by omega
 unfold Ù;simp only[E,G,I];go_simp
def I4 {w:Λ} (x y:ϵ) (b D n c k:Nat) (G:k<n):Sc Ζ w:=
 .gen (.indexAddr 27 x y) [.c (Β (Δ ⟨b,D,Γ⟩) n c),.c (.int ε k)] (.c (Ω (Δ ⟨b,D+k,Γ⟩))) (AV.mono_c _) λρ o W I _ E=>⟨_,Ai7 ρ o W x y b D n c k G I (C6 E).1 (C6 E).2,rfl⟩
theorem Ait (ρ:ϵ->Ν) (o:ϳ) (W:Λ) (x:ϵ) (b k:Nat) (v:Ν) (G:W.cell? ⟨b,k,Γ⟩=Δ v) (D:o.op=.load 27 x) (E:ρ x=Ω (Δ ⟨b,k,Γ⟩)):(Ù ρ o).run Ζ W=.ok (.value v) W:=by
 unfold Ù;simp only[D,E];go_simp
def I3 {w:Λ} (x:ϵ) (b k:Nat) (v:Ν) (D:∀ W,Ext w W->W.cell? ⟨b,k,Γ⟩=Δ v):Sc Ζ w:=
 .gen (.load 27 x) [.c (Ω (Δ ⟨b,k,Γ⟩))] (.c v) (AV.mono_c _) λρ o W E G I=>⟨_,Ait ρ o W x b k v (D W G) E (Pg I),rfl⟩
theorem Air (ρ:ϵ->Ν) (o:ϳ) (W:Λ) (x:ϵ) (b k:Nat) (v:Ν) (G:W.cell? ⟨b,k,Γ⟩=Δ v) (D:o.op=.load 68 x) (E:ρ x=Ω (Δ ⟨b,k,Γ⟩)):(Ù ρ o).run Ζ W=.ok (.value v) W:=by
 unfold Ù;simp only[D,E];go_simp
def I2 {w:Λ} (x:ϵ) (b k:Nat) (v:Ν) (D:∀ W,Ext w W->W.cell? ⟨b,k,Γ⟩=Δ v):Sc Ζ w:=
 .gen (.load 68 x) [.c (Ω (Δ ⟨b,k,Γ⟩))] (.c v) (AV.mono_c _) λρ o W E G I=>⟨_,Air ρ o W x b k v (D W G) E (Pg I),rfl⟩
def Rt (t:Tbl) (B:List Nat) (D E:Nat):Prop:=B.getD D 0=B.getD E 0/\∀ k,k<t.cells->B.getD (t.ent2 D k) 0=B.getD (t.ent2 E k) 0
theorem An3 (t:Tbl) (hv:TVal t) (A:Array Ν) (B:List Nat) (hB:B.length=t.n.length) (E G:Nat) (h0:E<t.n.length) (h1:G<t.n.length) (vB:Ν) (w:Λ) (h:IsR w A t) (hb:Ints w vB B) (r:Bool) (hr:r=Ξ↔Rt t B E G) :
  ϓ Ζ 150 #[.agg A,vB,.agg #[iv E,iv G]] w λe w'=>e=θ (.bool r)/\Ext w w':=by
 obtain⟨J,M,cn,ba,oa,ca,dt,du,dv,bj,-,hR,-⟩:=h.opened hv;obtain⟨T,U,cb,rfl,cm⟩:=Û hb (by rw[hB];exact hv.pos);have dw:=hv.cle;have bk:=((Θ w).alloc (Ε A 79)).alloc (Ε #[iv E,iv G] 166);have bf:=Ag (Aa w (Ε A 79)) (Ε #[iv E,iv G] 166);have au:=Ϗ w (Ε A 79) (Ε #[iv E,iv G] 166);have HV:=Α hv;have a1:=Α (λW (D:Ext w W) j (hj:j<B.length)=>D.cell (cm j (by omega)));have HR:=Α (λW (D:Ext w W)=>hR.ext D);have bm:=Α hr;clear hb h hR hv cm hr;obtain⟨I,bo⟩:∃ n,t.n.length=n:=⟨_,rfl⟩;have bp:=Α bo;rw[bo] at HR bj hB h0 h1;clear bo;rw[hB] at a1;rw[hB];clear hB;go_enter Tryz.func150,Tryz.ntmps150;go_upto_region 1 with (fail)
 obtain⟨w1,bq⟩:∃ W,(w.alloc (Ε A 79)).alloc (Ε #[iv E,iv G] 166)=W:=⟨_,rfl⟩;rw[bq] at bk bf au;simp only[bq];clear bq;obtain⟨g0,br⟩:∃ y,w.heap.size=y:=⟨_,rfl⟩;obtain⟨g1,bt⟩:∃ y,g0+1=y:=⟨_,rfl⟩;rw[br] at bf au;rw[bt] at au;simp only[br,bt];clear br bt;have HX:=Α bf;have bu:=Α (λW (D:Ext w1 W)=>(γ W g1 0 _ _ _ (D.heap au)).trans (show (#[iv E,iv G]:Array Ν)[0]? = Δ (iv E) from rfl));have cr:=Α (λW (D:Ext w1 W)=>(γ W g1 1 _ _ _ (D.heap au)).trans (show (#[iv E,iv G]:Array Ν)[1]? = Δ (iv G) from rfl));have HN:=Α (λW (D:Ext w1 W)=>(γ W g0 256 _ _ _ (D.heap HX.out)).trans bj);have ag:=Α bk;clear bf au bk bj;have dx:(E:Int)<(I:Int):=by omega
 have dy:(G:Int)<(I:Int):=by omega
 have hd:=(Θ w1).drew;have p0:=bu.out w1.drew hd;have p1:=cr.out w1.drew hd;have b0:=a1.out w1.drew (ag.out.trans hd) E h0;have b1:=a1.out w1.drew (ag.out.trans hd) G h1;obtain⟨x0,bw⟩:∃ x,B.getD E 0=x:=⟨_,rfl⟩;obtain⟨x1,bx⟩:∃ x,B.getD G 0=x:=⟨_,rfl⟩;rw[bw] at b0;rw[bx] at b1;have bz:=Α bw;have b4:=Α bx;clear bw bx;by_cases cx:x0=x1
 ·subst cx;go_region
  clear p0 p1 b0 b1;have db:À (B.getD E 0=B.getD G 0):=Α (by rw[bz.out,b4.out]);clear bz b4;go_wp2_with (fail);go_loopw [7] (λvi W=>∃ k:Nat,k<=t.cells/\vi=.int ε k/\Ext w1 W/\À (∀ j,j<k->B.getD (t.ent2 E j) 0=B.getD (t.ent2 G j) 0))
   (λvi _=>t.cells-(intOf vi).toNat)
  case atStart=>exact⟨0,by omega,rfl,hd,Α λj hj=>by omega⟩
  case round=>
   clear hd;obtain⟨k,hk,rfl,hE,HK⟩:=hrel;obtain⟨ak,al,bg,cz,c1⟩:=HR.out wr (ag.out.trans hE) E h0;have n4:=HN.out wr hE;have p4:=bu.out wr hE;by_cases ah:k<t.cells
   ·have eb:(k:Int)<(t.cells:Int):=by omega
    have de:=Α c1;have df:=Α cz;clear c1;go_upto_region 6 with (fail)
    clear n4 p4 cz;obtain⟨an,ao,bh,r1,c2⟩:=HR.out wr (ag.out.trans hE) G h1;have dg:=Α c2;have dh:=Α r1;clear c2 r1;have q0:=λW (D:Ext wr W)=>bu.out W (hE.trans D)
    have q1:=λW (D:Ext wr W)=>cr.out W (hE.trans D)
    have qn:=λW (D:Ext wr W)=>HN.out W (hE.trans D)
    have r0:=λW (D:Ext wr W)=>D.cell df.out
    have r1:=λW (D:Ext wr W)=>D.cell dh.out
    have e0:=λW (D:Ext wr W)=>D.cell (de.out k ah)
    have e1:=λW (D:Ext wr W)=>D.cell (dg.out k ah)
    have a8:=HV.out.tgt E (by rw[bp.out];exact h0) k ah;have bc:=HV.out.tgt G (by rw[bp.out];exact h1) k ah;rw[bp.out] at a8 bc;obtain⟨y0,b6⟩:∃ y,t.ent2 E k=y:=⟨_,rfl⟩;obtain⟨y1,b7⟩:∃ y,t.ent2 G k=y:=⟨_,rfl⟩;rw[b6] at e0 a8;rw[b7] at e1 bc;have c3:=Α b6;have c4:=Α b7;clear b6 b7;have z0:=λW (D:Ext wr W)=>a1.out W (ag.out.trans (hE.trans D)) y0 a8
    have z1:=λW (D:Ext wr W)=>a1.out W (ag.out.trans (hE.trans D)) y1 bc
    obtain⟨v0,b8⟩:∃ x,B.getD y0 0=x:=⟨_,rfl⟩;obtain⟨v1,b9⟩:∃ x,B.getD y1 0=x:=⟨_,rfl⟩;rw[b8] at z0;rw[b9] at z1;have c5:=Α b8;have c6:=Α b9;clear b8 b9;have ec:(y0:Int)<(I:Int):=by omega
    have ed:(y1:Int)<(I:Int):=by omega
    by_cases cd:v0=v1
    ·have c7:=Α cd;clear cd;have dk:À (∀ j,j<k+1->B.getD (t.ent2 E j) 0=B.getD (t.ent2 G j) 0):=Α λj hj=>by
      by_cases e:j=k
      ·subst e;rw[c3.out,c4.out,c5.out,c6.out,c7.out]
      ·exact HK.out j (by omega)
     refine Dv 55 Ξ [Β (Δ ⟨T,U,Γ⟩) I cb,Ω (Δ ⟨g0,256,Γ⟩),Β (Δ ⟨J,M,Γ⟩) I cn,Ω (Δ ⟨g1,0,Γ⟩),iv E,Ω (Δ ⟨J,M+E,Γ⟩),Β (Δ ⟨ak,al,Γ⟩) t.cells bg,iv k,Ω (Δ ⟨ak,al+k,Γ⟩),iv y0,Ω (Δ ⟨T,U+y0,Γ⟩),iv v0,Β (Δ ⟨T,U,Γ⟩) I cb,Ω (Δ ⟨g0,256,Γ⟩),Β (Δ ⟨J,M,Γ⟩) I cn,Ω (Δ ⟨g1,1,Γ⟩),iv G,Ω (Δ ⟨J,M+G,Γ⟩),Β (Δ ⟨an,ao,Γ⟩) t.cells bh,iv k,Ω (Δ ⟨an,ao+k,Γ⟩),iv y1,Ω (Δ ⟨T,U+y1,Γ⟩),iv v1,.bool Τ] [.keep,.pure,I3 (η 31) g0 256 _ qn,.pure,ld3 (η 33) g1 0 _ q0,I4 (η 32) (η 34) J M I cn E h0,I2 (η 35) J (M+E) _ r0,.keep,Cx (η 36) (η 37) ak al t.cells bg k ah,ld3 (η 38) ak (al+k) _ e0,Cx (η 30) (η 39) T U I cb y0 a8,ld3 (η 40) T (U+y0) _ z0,.keep,.pure,I3 (η 43) g0 256 _ qn,.pure,ld3 (η 45) g1 1 _ q1,I4 (η 44) (η 46) J M I cn G h1,I2 (η 47) J (M+G) _ r1,.keep,Cx (η 48) (η 49) an ao t.cells bh k ah,ld3 (η 50) an (ao+k) _ e1,Cx (η 42) (η 51) T U I cb y1 bc,ld3 (η 52) T (U+y1) _ z1,Iv (η 41) (η 53) v0 v1 Τ (by have:=c7.out;simp;omega)] (λ_=>by kernel_rfl) (by kernel_rfl) rfl rfl (λW=>by kernel_rfl) (by kernel_rfl) ?_;intro W D;simp only[Bz,Ϛ,Ι,Χ,Ψ];have cf:=hE.trans D;clear D q0 q1 qn r0 r1 e0 e1 z0 z1;go_wp2;go_roundw
     case rel=>exact⟨k+1,by omega,by go_num,cf,dk⟩
     case measure=>simp[intOf];omega
    ·have dm:¬ (v0:Int)=(v1:Int):=by omega
     have cg:r=Τ:=by
      cases r with
      | false=>rfl
      | true=>
       have:=(bm.out.1 rfl).2 k ah;rw[c3.out,c4.out,c5.out,c6.out] at this;exact absurd this cd
     subst cg;refine Dv 55 Ξ [Β (Δ ⟨T,U,Γ⟩) I cb,Ω (Δ ⟨g0,256,Γ⟩),Β (Δ ⟨J,M,Γ⟩) I cn,Ω (Δ ⟨g1,0,Γ⟩),iv E,Ω (Δ ⟨J,M+E,Γ⟩),Β (Δ ⟨ak,al,Γ⟩) t.cells bg,iv k,Ω (Δ ⟨ak,al+k,Γ⟩),iv y0,Ω (Δ ⟨T,U+y0,Γ⟩),iv v0,Β (Δ ⟨T,U,Γ⟩) I cb,Ω (Δ ⟨g0,256,Γ⟩),Β (Δ ⟨J,M,Γ⟩) I cn,Ω (Δ ⟨g1,1,Γ⟩),iv G,Ω (Δ ⟨J,M+G,Γ⟩),Β (Δ ⟨an,ao,Γ⟩) t.cells bh,iv k,Ω (Δ ⟨an,ao+k,Γ⟩),iv y1,Ω (Δ ⟨T,U+y1,Γ⟩),iv v1,.bool Ξ] [.keep,.pure,I3 (η 31) g0 256 _ qn,.pure,ld3 (η 33) g1 0 _ q0,I4 (η 32) (η 34) J M I cn E h0,I2 (η 35) J (M+E) _ r0,.keep,Cx (η 36) (η 37) ak al t.cells bg k ah,ld3 (η 38) ak (al+k) _ e0,Cx (η 30) (η 39) T U I cb y0 a8,ld3 (η 40) T (U+y0) _ z0,.keep,.pure,I3 (η 43) g0 256 _ qn,.pure,ld3 (η 45) g1 1 _ q1,I4 (η 44) (η 46) J M I cn G h1,I2 (η 47) J (M+G) _ r1,.keep,Cx (η 48) (η 49) an ao t.cells bh k ah,ld3 (η 50) an (ao+k) _ e1,Cx (η 42) (η 51) T U I cb y1 bc,ld3 (η 52) T (U+y1) _ z1,Iv (η 41) (η 53) v0 v1 Ξ (by simp;try omega)] (λ_=>by kernel_rfl) (by kernel_rfl) rfl rfl (λW=>by kernel_rfl) (by kernel_rfl) ?_;intro W D;simp only[Bz,Ϛ,Ι,Χ,Ψ];have cf:=hE.trans D;clear D q0 q1 qn r0 r1 e0 e1 z0 z1;go_wp2;go_ret;exact⟨rfl,ag.out.trans cf⟩
   ·obtain rfl:k=t.cells:=by omega
    have dn:r=Ξ:=bm.out.2 ⟨db.out,HK.out⟩;subst dn;go_wp2;go_ret;exact⟨rfl,ag.out.trans hE⟩
 ·have dm:¬ (x0:Int)=(x1:Int):=by omega
  have cg:r=Τ:=by
   cases r with
   | false=>rfl
   | true=>exact absurd (by rw[<-bz.out,<-b4.out];exact (bm.out.1 rfl).1) cx
  subst cg;go_region
  go_wp2;go_ret;exact⟨rfl,ag.out.trans hd⟩
section
variable {l:List Nat} {key:Nat->List UInt8} {j:Nat} {N R:List Nat} {f:List UInt8->Option Nat}
theorem Vl (h:NInv l key j N R f) (r:Nat) (D:r<R.length):f (key (R.getD r 0))=Δ r:=by
 obtain⟨⟨q,E,e⟩,G⟩:=h.rep r D;have:=h.has q E;rw[<-e,G] at this;exact this
theorem Agr (h:NInv l key j N R f) (k:List UInt8) (r:Nat) (D:r<R.length) (E:key (R.getD r 0)=k):f k=Δ r:=by
 rw[<-E];exact Vl h r D
theorem Agq (h:NInv l key j N R f) (k:List UInt8) (G:∀ r,r<R.length->key (R.getD r 0)≠k):f k=Γ:=by
 cases I:f k with
 | none=>rfl
 | some i=>
  obtain⟨q,D,J,E⟩:=h.from_ k i I;have hi:i<R.length:=by rw[E];exact h.lt q D
  have U:=Vl h i hi;obtain⟨⟨q',M,e⟩,T⟩:=h.rep i hi;refine absurd ?_ (G i hi);rw[e,J];refine (h.same q' q M D).1 ?_;rw[<-e,T,E]
end
theorem Xs:Enters Ζ 150:=enters_of Tryz.func150 (by kernel_rfl) rfl
def ldR {w:Λ} {g:Nat} {A:Array Ν} (h:∀ W,Ext w W->W.heap[g]? = Δ (Ε A 79 (0,0))) (hi:(Ζ.info? 79).map (·.size)=Δ A.size):Sc Ζ w:=
 .load 79 g A 79 (0,0) _ h Ϻ rfl hi
theorem Ab2 (t:Tbl) (hv:TVal t) (hn:t.n.length<=65536) (l:List Nat) (hl:Reached t l) (ej:l.length<=65536) (B:List Nat) (hB:B.length=t.n.length) (au:∀ s∈l,B.getD s 0<65536) (A:Array Ν) (vB vl:Ν) (w:Λ) (h:IsR w A t) (hb:Ints w vB B) (cv:Ints w vl l) :
  ϓ Ζ 134 #[.agg A,vB,vl] w λe w'=>∃ vN vR N R f,e=θ (.tuple #[vN,vR])/\N.length=t.n.length/\NInv l (Bu t λs=>B.getD s 0) l.length N R f/\Ints w' vN N/\Ints w' vR R/\Ext w w':=by
 have dn:A.size=258:=by obtain⟨_,_,rfl,_,_⟩:=h;exact Dw _ _ _
 obtain⟨M,T,cl,rfl,cx⟩:=Û cv hl.ne;obtain⟨ab,cb,rfl⟩:=Sl.len hb;obtain⟨i0,hi,cz,c1,c2⟩:=Ϟ Cp;have c3:(Ζ.info? 79).map (·.size)=Δ A.size:=by rw[dn];exact Co
 have dp:=hv.pos;have c4:=(Θ w).alloc (Ε A 79);have HX:=Α (Aa w (Ε A 79));have HL:=Α (λW (D:Ext w W) i (hi:i<l.length)=>D.cell (cx i (by omega)));have dr:=Α (λs (hs:s∈l) s' (bf:s'∈l)=>(show Rt t B s s'↔Bu t (λs=>B.getD s 0) s=Bu t (λs=>B.getD s 0) s' from
  (Wg t (λs=>B.getD s 0) s s' (au s hs) (au s' bf) (λk hk=>au _ (hl.closed s hs k hk)) (λk hk=>au _ (hl.closed s' bf k hk))).symm))
 have bg:=Α (λW (D:Ext w W) s (hs:s<t.n.length) s' (bf:s'<t.n.length) (r:Bool) (hr:r=Ξ↔Rt t B s s')=>An3 t hv A B hB s s' hs bf _ W (h.ext D) (hb.ext D) r hr);have bj:=Α hl;rw[hB] at bg;rw[hB];clear cx cv hb h au hv hl;obtain⟨E,bk⟩:∃ n,t.n.length=n:=⟨_,rfl⟩;have c5:=Α bk;rw[bk] at bg dp hn hB;rw[bk];clear bk;go_enter Tryz.func134,Tryz.ntmps134;go_upto_region 1 with (fail)
 generalize w.alloc (Ε A 79)=w1 at *;have ak:=Α c4;clear c4;go_upto_region 2 with (at_make;refine ϩ _ rfl _ _ 68 rfl w1.heap.size 3 i0 (.int ε 0) 1 ϔ hi cz c1 ε ε _ _ E rfl rfl rfl rfl (by rw[c2];omega) (by unfold ϛ;omega) (ν _) ?_;intro w2 c6 c8)
 have bx:Ext w1 w2:=(Θ w1).grown c8 (λk e=>by cases e);have bz:OwnI w2 w1.heap.size (Β (Δ ⟨w1.heap.size,0,Γ⟩) (ζ E 0).length E) (ζ E 0):=by
  unfold OwnI;rw[<-B6,Ò];exact c6
 clear c6 c8;go_upto_region 3 with (fail)
 have al:=bz.alloc (Ε #[] 3);have aw:=Ý (base:=w1.heap.size) (e:=3) (size:=1) w2 #[] 0 bx.size (by unfold ϛ;omega) rfl;have b0:=bx.alloc (Ε #[] 3);obtain⟨G,ax⟩:∃ y,w1.heap.size=y:=⟨_,rfl⟩;have c9:G+1<=w2.heap.size:=by have:=(bz.lt w1.heap.size rfl).2;omega
 have aw:=Ý (base:=G+1) (e:=3) (size:=1) w2 #[] 0 c9 (by unfold ϛ;omega) rfl;have b4:À (w1.heap.size<=G/\G<=w1.heap.size):=Α ⟨à ax,à ax.symm⟩;rw[ax,Ò] at al;simp only[ax];have al:=Gh al;obtain⟨w3,b5⟩:∃ X,w2.alloc (Ε #[] 3)=X:=⟨_,rfl⟩;obtain⟨g3,b6⟩:∃ y,w2.heap.size=y:=⟨_,rfl⟩;rw[b5] at al aw b0;rw[b6] at aw;simp only[b5,b6];clear b5 b6 bz bx ax c9;have du:=Α HX.out;go_wp2_with (fail);go_loopw [9,10] (λvR vj W=>∃ (N R:List Nat) (f:List UInt8->Option Nat) (g c j:Nat),j<=l.length/\vR=Β (Δ ⟨g,0,Γ⟩) R.length c/\vj=.int ε j/\Ext w1 W/\W.ownsRow 0 3 1 (Β (Δ ⟨G,0,Γ⟩) E E) E (N.map iv)/\W.ownsRow (G+1) 3 1 (Β (Δ ⟨g,0,Γ⟩) R.length c) R.length (R.map iv)/\À (NInv l (Bu t λs=>B.getD s 0) j N R f/\N.length=E))
  (λ_ vj _=>l.length-(intOf vj).toNat)
 case atStart=>exact⟨ζ E 0,[],λ_=>Γ,g3,0,0,by omega,rfl,rfl,b0,al,aw,Α ⟨Vk _ _ _,Ò⟩⟩
 case round=>
  clear al aw b0;obtain⟨N,R,f,g,c,j,hj,rfl,rfl,hE,hN,hR,I⟩:=hrel;have eo:=I.out.1.le;by_cases U:j<l.length
  ·have ep:(j:Int)<(l.length:Int):=by omega
   have da:=Α (λW (D:Ext wr W)=>HL.out W (ak.out.trans (hE.trans D)) j U);have bo:=D9 l j 0 U;have aa:=bj.out.lt _ bo;obtain⟨s,b8⟩:∃ s,l.getD j 0=s:=⟨_,rfl⟩;rw[b8] at da bo aa;rw[c5.out] at aa;have ad:=Α b8;have dv:=Α bo;clear b8 bo;have dw:À (∀ r,r<R.length->R.getD r 0∈l/\R.getD r 0<E):=Α λr hr=>by
    obtain⟨⟨q,hq,e⟩,_⟩:=I.out.1.rep r hr;have hm:R.getD r 0∈l:=by rw[e];exact D9 l q 0 (by omega)
    exact⟨hm,by rw[<-c5.out];exact bj.out.lt _ hm⟩
   have db:=Α hR;have dx:=Α hN;clear hR hN;go_wp2_with (fail);go_loopw [11,12] (λvb vr W=>∃ (r b:Nat),r<=R.length/\b<=R.length/\vb=.int ε b/\vr=.int ε r/\Ext wr W/\À ((b=R.length/\∀ q,q<r->Bu t (λs=>B.getD s 0) (R.getD q 0)≠Bu t (λs=>B.getD s 0) s)\/(b<R.length/\Bu t (λs=>B.getD s 0) (R.getD b 0)=Bu t (λs=>B.getD s 0) s)))
    (λ_ vr _=>R.length-(intOf vr).toNat)
   case atStart=>exact⟨0,R.length,by omega,by omega,rfl,rfl,Θ wr,Α (.inl ⟨rfl,λq hq=>by omega⟩)⟩
   case round=>
    obtain⟨r,b,hr,hb,rfl,rfl,J,HB⟩:=hrel;by_cases cd:r<R.length/\b=R.length
    ·obtain⟨ay,rfl⟩:=cd;have dc:(r:Int)<(R.length:Int):=by omega
     have ea:À (∀ q,q<r->Bu t (λs=>B.getD s 0) (R.getD q 0)≠Bu t (λs=>B.getD s 0) s):=Α (by
      rcases HB.out with⟨_,h⟩|⟨h,_⟩
      ·exact h
      ·exact absurd h (Nat.lt_irrefl _))
     clear HB;obtain⟨x,hx⟩:∃ x,R.getD r 0=x:=⟨_,rfl⟩;have cR:=λW (D:Ext wr W)=>Am 0 (Ah db.out (J.trans D)) rfl r ay
     have cL:=λW (D:Ext wr W)=>da.out W (J.trans D)
     have bp:=dw.out r ay;rw[hx] at cR bp;have dd:=Α hx;have bq:=dr.out x bp.1 s dv.out;have hX:=λW (D:Ext wr W)=>(hE.trans (J.trans D)).heap du.out
     clear hx;go_upto_region 10 with (fail)
     by_cases aq:Bu t (λs=>B.getD s 0) x=Bu t (λs=>B.getD s 0) s
     ·have f150:=λW (D:Ext wr W)=>bg.out W (ak.out.trans (hE.trans (J.trans D))) x bp.2 s aa Ξ ⟨λ_=>bq.2 aq,λ_=>rfl⟩
      have cg:À (r<R.length/\Bu t (λs=>B.getD s 0) (R.getD r 0)=Bu t (λs=>B.getD s 0) s):=Α ⟨ay,by rw[dd.out];exact aq⟩;clear aq bq;refine Dv 70 Ξ [.agg A,Β ab E cb,Β (Δ ⟨g,0,Γ⟩) R.length c,iv r,Ω (Δ ⟨g,r,Γ⟩),iv x,Β (Δ ⟨M,T,Γ⟩) l.length cl,iv j,Ω (Δ ⟨M,T+j,Γ⟩),iv s,.agg #[iv x,iv s],.bool Ξ] [ldR hX c3,.keep,.keep,.keep,Gp (η 39) (η 40) g R.length c r ay,ld3 (η 41) g r _ cR,.keep,.keep,Cx (η 43) (η 44) M T l.length cl j U,ld3 (η 45) M (T+j) _ cL,.pure,Jo 150 Xs [.agg A,Β ab E cb,.agg #[iv x,iv s]] _ f150] (λ_=>by kernel_rfl) (by kernel_rfl) rfl rfl (λW=>by kernel_rfl) (by kernel_rfl) ?_;intro W D;simp only[Bz,Ϛ,Ι,Χ,Ψ];have ch:=J.trans D;clear D f150 cR cL hX;go_wp2;go_roundw
      case rel=>exact⟨r+1,r,by omega,by omega,rfl,by go_num,ch,Α (.inr cg.out)⟩
      case measure=>simp[intOf];omega
     ·have f150:=λW (D:Ext wr W)=>bg.out W (ak.out.trans (hE.trans (J.trans D))) x bp.2 s aa Τ ⟨λh=>(by cases h),λh=>absurd (bq.1 h) aq⟩
      have cg:À (∀ q,q<r+1->Bu t (λs=>B.getD s 0) (R.getD q 0)≠Bu t (λs=>B.getD s 0) s):=Α λq hq=>by
       by_cases e:q=r
       ·rw[e,dd.out];exact aq
       ·exact ea.out q (by omega)
      clear aq bq;refine Dv 70 Ξ [.agg A,Β ab E cb,Β (Δ ⟨g,0,Γ⟩) R.length c,iv r,Ω (Δ ⟨g,r,Γ⟩),iv x,Β (Δ ⟨M,T,Γ⟩) l.length cl,iv j,Ω (Δ ⟨M,T+j,Γ⟩),iv s,.agg #[iv x,iv s],.bool Τ] [ldR hX c3,.keep,.keep,.keep,Gp (η 39) (η 40) g R.length c r ay,ld3 (η 41) g r _ cR,.keep,.keep,Cx (η 43) (η 44) M T l.length cl j U,ld3 (η 45) M (T+j) _ cL,.pure,Jo 150 Xs [.agg A,Β ab E cb,.agg #[iv x,iv s]] _ f150] (λ_=>by kernel_rfl) (by kernel_rfl) rfl rfl (λW=>by kernel_rfl) (by kernel_rfl) ?_;intro W D;simp only[Bz,Ϛ,Ι,Χ,Ψ];have ch:=J.trans D;clear D f150 cR cL hX;go_wp2;go_roundw
      case rel=>exact⟨r+1,R.length,by omega,by omega,rfl,by go_num,ch,Α (.inl ⟨rfl,cg.out⟩)⟩
      case measure=>simp[intOf];omega
    ·have de:À (r=R.length\/b≠R.length):=Α (by omega);have ah:=Ah dx.out J;have ai:=Ah db.out J;have a1:=hE.trans J;have cL:=HL.out wr (ak.out.trans a1) j U;rw[ad.out] at cL;have er:=Α cL;have cj:=I.out.2;have et:=I.out.1.le;have af:=Α cj;by_cases df:b=R.length
     ·subst df;have a6:=Α (Vn I.out.1 bj.out.nodup U (by rw[ad.out,af.out];exact aa) (by
       rw[ad.out];refine Agq I.out.1 _ λq hq=>?_
       rcases HB.out with⟨_,h⟩|⟨h,_⟩
       ·rcases de.out with e|e
        ·exact h q (by omega)
        ·exact absurd rfl e
       ·exact absurd h (Nat.lt_irrefl _)))
      rw[ad.out] at a6;obtain rfl:r=R.length:=by
       rcases de.out with e|e
       ·exact e
       ·exact absurd rfl e
      clear HB J cd cj;have eu:G+1<=wr.heap.size:=(ah.lt G rfl).2;go_upto_region 13 with (fail)
      go_upto_region 14 with ((at_builtin;refine Ϙ _ rfl _ _ 68 rfl (G+1) 3 i0 (.int ε 0) 1 8 ϔ hi cz c1 c2 rfl (by decide) _ _ _ rfl (ai.alloc _) _ 1 1 [iv s] rfl rfl (ϭ _ _ _) (by simp[ό]) (by decide) (by unfold ϛ;omega) (by omega) (by simp;omega) _ rfl ?_;intro g7 c7 w7 a7 ck _ _))
      have bt:=(ah.alloc (Ε #[iv s] 3)).kept ck (.inr (λe=>by have:=(ai.lt G e.symm).1;omega));have cm:=(a1.alloc (Ε #[iv s] 3)).grown ck (λk e=>by have:=(ai.lt k e).1;have:=b4.out.1;omega);have a7:w7.ownsRow (G+1) 3 1 (Β (Δ ⟨g7,0,Γ⟩) (R++[s]).length c7) (R++[s]).length ((R++[s]).map iv):=by
       rw[Υ,ϝ];exact a7
      clear ck ah ai cL a1;have eb:=HL.out w7 (ak.out.trans cm) j U;rw[ad.out] at eb;have ec:(s:Int)<(E:Int):=by omega
      have cn:=Am 0 bt af.out.symm s (by rw[af.out];exact aa);have fn:=bt.frozenAt s;obtain⟨cp,aj⟩:=Bk bt s R.length;have cq:=cm.grown aj (λk e=>by cases e;exact b4.out.1);have cr:=a7.kept aj (Ay a7 (by omega));clear aj a7 bt cm;go_wp2;go_roundw
      case rel=>exact⟨N.set s R.length,R++[s],_,g7,c7,j+1,by omega,by rw[Υ];rfl,by go_num,cq,cp,cr,Α ⟨a6.out,by rw[ϒ];exact af.out⟩⟩
      case measure=>simp[intOf];omega
     ·have ee:b<R.length:=by omega
      have ev:((b:Int)==(R.length:Int))=Τ:=by simp;omega
      have dm:Bu t (λs=>B.getD s 0) (R.getD b 0)=Bu t (λs=>B.getD s 0) s:=by
       rcases HB.out with⟨h,_⟩|⟨_,h⟩
       ·exact absurd h df
       ·exact h
      have a6:=Α (Vm I.out.1 bj.out.nodup U (by rw[ad.out,af.out];exact aa) b (by
       rw[ad.out];exact Agr I.out.1 _ b ee dm))
      rw[ad.out] at a6;clear HB J cd cj dm;have ec:(s:Int)<(E:Int):=by omega
      have cn:=Am 0 ah af.out.symm s (by rw[af.out];exact aa);have fn:=ah.frozenAt s;obtain⟨cp,aj⟩:=Bk ah s b;have cq:=a1.grown aj (λk e=>by cases e;exact b4.out.1);have cr:=ai.kept aj (Ay ai (by omega));clear aj ah ai a1;by_cases ef:r<R.length
      case' pos=>have dc:(r:Int)<(R.length:Int):=by omega
      case' neg=>have dc:¬ (r:Int)<(R.length:Int):=by omega
      all_goals
       clear ef;go_wp2;go_roundw
       case rel=>exact⟨N.set s b,R,f,g,c,j+1,by omega,rfl,by go_num,cq,cp,cr,Α ⟨a6.out,by rw[ϒ];exact af.out⟩⟩
       case measure=>simp[intOf];omega
  ·obtain rfl:j=l.length:=by omega
   have eg:Ints wr (Β (Δ ⟨G,0,Γ⟩) E E) N:=OwnI.ints (base:=0) (by
    show Ϡ _ _ _ _ _ _ _;rw[I.out.2];exact hN) (by rw[I.out.2];omega)
   have eh:Ints wr (Β (Δ ⟨g,0,Γ⟩) R.length c) R:=OwnI.ints (base:=G+1) hR (by omega);have ei:=Α I.out.2;clear hN hR;go_wp2;go_ret2;exact⟨_,_,N,R,f,rfl,ei.out,I.out.1,eg,eh,ak.out.trans hE⟩
theorem Ad7 {t:Tbl} {l:List Nat} (hl:Reached t l) {B E:Nat->Nat} {n:Nat} (h:Refi t l B n) (J:Fp t l B E) {R:List Nat} (D:Blk l E R) (hn:R.length=n) :
  ∀ s∈l,∀ s'∈l,B s=B s'->E s=E s':=λs hs s' T he=>by
 have af:=(Md h J D hl.ne).2;obtain⟨M,G,h0⟩:=h.num (by omega);have ab:=Uz (λi=>B (R.getD i 0)) R.length λj hj=>by
  have I:j<M.length:=by omega
  refine⟨E (M.getD j 0),D.lt _ (G.mem j I),?_⟩;have h1:=D.rep _ (D.lt _ (G.mem j I));have h2:=((J _ (D.mem _ (D.lt _ (G.mem j I))) _ (G.mem j I)).1 h1).1;show B (R.getD (E (M.getD j 0)) 0)=j;rw[h2,G.rep j I]
 have U:∀ s∈l,B (R.getD (E s) 0)=B s:=λs hs=>
  ((J _ (D.mem _ (D.lt s hs)) _ hs).1 (D.rep _ (D.lt s hs))).1
 exact ab _ _ (D.lt s hs) (D.lt s' T) (by show B (R.getD (E s) 0)=B (R.getD (E s') 0);rw[U s hs,U s' T,he])
theorem Agb {t:Tbl} (hv:TVal t) {l:List Nat} (E:Reached t l) {B N R D:List Nat} {f:List UInt8->Option Nat} (h:OInv t l B D.length) (M:Blk l (λs=>B.getD s 0) D)
  (hi:NInv l (Bu t λs=>B.getD s 0) l.length N R f) (he:R.length=D.length):Blocks t l (λs=>B.getD s 0) D:=by
 obtain⟨I,hs⟩:=Iu hi;have J:Fp t l (λs=>B.getD s 0) (λs=>N.getD s 0):=Kb E h.lt hs;have T:=Ox hv E h.refi J I he;exact⟨M,λs hs s' G=>⟨λe=>(T s hs s' G).1 (Ad7 E h.refi J I he s hs s' G e),λe=>h.refi.sound s hs s' G e⟩⟩
theorem Av {w:Λ} {b i:Nat} {V:Array Ν} {t:TypeId} {fr:Nat × Nat} {v:Ν} (h:w.heap[b]? = Δ (Ε V t fr)) (e:V[i]? = Δ v):w.cell? ⟨b,i,Γ⟩=Δ v:=(γ w b i _ _ _ h).trans e
def slN:Ν->Nat
 | Β _ n _=>n
 | _=>0
theorem Ank (t:Tbl) (hv:TVal t) (hn:t.n.length<=65536) (l:List Nat) (hl:Reached t l) (bb:l.length<=65536) (A:Array Ν) (vl:Ν) (w:Λ) (h:IsR w A t) (bc:Ints w vl l) :
  ϓ Ζ 100 #[.agg A,vl] w λe w'=>∃ vN I N R,e=θ (.tuple #[vN,I])/\N.length=t.n.length/\Blocks t l (λs=>N.getD s 0) R/\Ints w' vN N/\Ints w' I R/\Ext w w':=by
 obtain⟨bn,on,cn,ba,oa,ca,c1,c2,c3,bz,b0,-,b4⟩:=h.opened hv;obtain⟨al,cl,rfl⟩:=Sl.len bc;obtain⟨i0,hi,c5,c6,c7⟩:=Ϟ Cp;have b5:(Ζ.info? 79).map (·.size)=Δ A.size:=by rw[c1];exact Co
 have c8:=hv.pos;have HS:=Α (λ(W:Λ) (hW:Ext w W) (B:List Nat) (hB:B.length=t.n.length) (ab:∀ s∈l,B.getD s 0<65536) (vB:Ν) (J:Ints W vB B)=>Ab2 t hv hn l hl bb B hB ab A vB _ W (h.ext hW) J (bc.ext hW));have be:=(Θ w).alloc (Ε A 79);have M:=Α (Aa w (Ε A 79));have b6:=Α (λW (hW:Ext w W) s (hs:s<t.n.length)=>hW.cell (b4 s hs));have HV:=Α hv;have HL:=Α hl;have bg:=Α bz;have b7:=Α b0;clear hv hl h bc b4 c3 c2 bz b0;obtain⟨D,ar⟩:∃ n,t.n.length=n:=⟨_,rfl⟩;have ag:=Α ar;rw[ar] at HS b6 bg b7 c8 hn;rw[ar];clear ar;go_enter Tryz.func100,Tryz.ntmps100;go_upto_region 1 with (fail)
 obtain⟨w1,bh⟩:∃ X,w.alloc (Ε A 79)=X:=⟨_,rfl⟩;obtain⟨g0,bj⟩:∃ y,w.heap.size=y:=⟨_,rfl⟩;rw[bh] at be M;rw[bj] at M;simp only[bh,bj];clear bh bj;have cN:=Av M.out bg.out;go_upto_region 2 with (at_make;refine ϩ _ rfl _ _ 68 rfl w1.heap.size 3 i0 (.int ε 0) 1 ϔ hi c5 c6 ε ε _ _ D rfl rfl rfl rfl (by rw[c7];omega) (by unfold ϛ;omega) (ν _) ?_;intro w2 cb cd)
 have cf:Ext w1 w2:=(Θ w1).grown cd (λk e=>by cases e);have ad:w2.ownsRow w1.heap.size 3 1 (Β (Δ ⟨w1.heap.size,0,Γ⟩) D D) D ((ζ D 0).map iv):=by
  rw[<-B6];exact cb
 obtain⟨gN,au⟩:∃ y,w1.heap.size=y:=⟨_,rfl⟩;have da:À (w1.heap.size<=gN):=Α (à au);rw[au] at ad;simp only[au];have cg:=Gh ad;have aw:=Α be;clear cb cd ad au cN be;go_wp2_with (fail);go_loopw [7] (λvs W=>∃ (s:Nat) (N:List Nat),s<=D/\vs=.int ε s/\Ext w1 W/\W.ownsRow 0 3 1 (Β (Δ ⟨gN,0,Γ⟩) D D) D (N.map iv)/\À (N.length=D/\∀ x,N.getD x 0=if x<s/\t.ok x=Ξ then 1 else 0))
  (λvs _=>D-(intOf vs).toNat)
 case atStart=>exact⟨0,ζ D 0,by omega,rfl,cf,cg,Α ⟨Ò,λx=>by
  rw[if_neg (by omega),Η,List.getElem?_replicate];split<;>rfl⟩⟩
 case round=>
  clear cg cf;obtain⟨s,N,hs,rfl,E,T,G⟩:=hrel;have cN:=Av (E.heap M.out) bg.out;by_cases bl:s<D
  ·have ed:(s:Int)<(D:Int):=by omega
   have cA:=Av (E.heap M.out) b7.out;have ca:=b6.out wr (aw.out.trans E) s bl;obtain⟨b,J⟩:∃ b,t.ok s=b:=⟨_,rfl⟩;rw[J] at ca;have ch:=Α J;clear J;cases b with
   | false=>
    have ah:À (N.length=D/\∀ x,N.getD x 0=if x<s+1/\t.ok x=Ξ then 1 else 0):=Α ⟨G.out.1,λx=>by
     rw[G.out.2 x];by_cases e:x=s
     ·subst e;rw[ch.out];simp
     ·by_cases e2:x<s
      ·simp[e2,show x<s+1 by omega]
      ·simp[e2,show ¬ x<s+1 by omega]⟩
    go_wp2;go_roundw
    case rel=>exact⟨s+1,N,by omega,by go_num,E,T,ah⟩
    case measure=>simp[intOf];omega
   | true=>
    have ah:À ((N.set s 1).length=D/\∀ x,(N.set s 1).getD x 0=if x<s+1/\t.ok x=Ξ then 1 else 0):=Α ⟨by rw[ϒ];exact G.out.1,λx=>by
     rw[Bb _ _ _ _ _ (by rw[G.out.1];exact bl),G.out.2 x];by_cases e:x=s
     ·subst e;rw[ch.out];simp
     ·by_cases e2:x<s
      ·simp[e,e2,show x<s+1 by omega]
      ·simp[e,e2,show ¬ x<s+1 by omega]⟩
    have cj:=Α G.out.1;have cn:=Am 0 T cj.out.symm s (by rw[cj.out];exact bl);have fn:=T.frozenAt s;obtain⟨db,ck⟩:=Bk T s 1;have dc:=E.grown ck (λk e=>by cases e;exact da.out);clear ck T E;go_wp2;go_roundw
    case rel=>exact⟨s+1,N.set s 1,by omega,by go_num,dc,db,ah⟩
    case measure=>simp[intOf];omega
  ·obtain rfl:D=s:=by omega
   have bm:À (OInv t l N 0):=Α ⟨by rw[ag.out];exact G.out.1,Ua t l _ λx hx=>by
    rw[G.out.2 x];have:=HL.out.lt x hx;rw[ag.out] at this;simp[this],λx _=>by rw[G.out.2 x];split<;>omega,by omega⟩
   have bo:Ints wr (Β (Δ ⟨gN,0,Γ⟩) D D) N:=OwnI.ints (base:=0) (by
    show Ϡ _ _ _ _ _ _ _;rw[G.out.1];exact T) (by rw[G.out.1];omega)
   have de:=Α bo;have f134:=Α (HS.out wr (aw.out.trans E) N G.out.1 bm.out.lt _ bo);have ax:=Α (E.heap M.out);clear T bo;go_wp2_with (first
    | (refine Ο rfl 79 (η 2) rfl _ rfl _ _ _ _ ax.out Ϻ rfl b5 ?_)
    | (go_at_call 134;(with_reducible refine f134.out.mono ?_);rintro e w3 ⟨vN,I,N1,R1,f1,rfl,cm,cp,aj,U,ak⟩;have cq:=Α cm;have bq:=Α cp;have cr:=Α aj;have az:=Α U;have ct:=Α (E.trans ak);obtain⟨aR,cR,rfl⟩:=Sl.len U;clear cm cp aj U ak))
   clear f134 de ax E;have cu:À (OInv t l N1 R1.length/\Blk l (λs=>N1.getD s 0) R1):=Α (by
    have J:=(Iu bq.out).1;have hp:R1.length≠0:=λe=>by
     have:=J.lt _ (List.getElem_mem HL.out.ne);omega
    exact⟨(Ph HV.out HL.out bm.out bb (by rw[ag.out];exact cq.out) bq.out hp).1,J⟩)
   have ak:=ct.out;clear cq bq ct G bm;go_loopw [6,8] (λvB I W=>∃ (B R:List Nat) (aR:Option Addr) (cR:Nat),I=Β aR R.length cR/\Ext w1 W/\À (Ints W vB B)/\À (Ints W I R)/\À (OInv t l B R.length/\Blk l (λs=>B.getD s 0) R))
    (λ_ I _=>l.length-slN I)
   case atStart=>exact⟨N1,R1,aR,cR,rfl,ak,cr,az,cu⟩
   case round=>
    clear ak cr az cu;obtain⟨B,R,aR,cR,rfl,E,cv,az,HB⟩:=hrel;have ab:=HB.out.1.len;rw[ag.out] at ab;have f134:=Α (HS.out wr (aw.out.trans E) B ab HB.out.1.lt _ cv.out);have ax:=Α (E.heap M.out);have dg:=Α ab;clear ab;go_upto_region 9 with (first
     | (refine Ο rfl 79 (η 2) rfl _ rfl _ _ _ _ ax.out Ϻ rfl b5 ?_)
     | (go_at_call 134;(with_reducible refine f134.out.mono ?_);rintro e w4 ⟨vN,I,N2,R2,f2,rfl,ad,cw,aj,U,cx⟩;have ah:=Α ad;have a7:=Α cw;have dh:=Α aj;have dk:=Α U;have bt:=Α cx;obtain⟨dm,dn,rfl⟩:=Sl.len U;clear ad cw aj U cx))
    have cy:=E.trans bt.out;by_cases he:R2.length=R.length
    ·have dp:=Α (Agb HV.out HL.out HB.out.1 HB.out.2 a7.out he);have dq:((R2.length:Int)==(R.length:Int))=Ξ:=by simp[he]
     have dr:=Α (cv.out.ext bt.out);have dt:=Α (az.out.ext bt.out);clear he E HB f134;go_wp2;go_ret2;exact⟨_,_,B,R,rfl,dg.out,dp.out,dr.out,dt.out,aw.out.trans cy⟩
    ·have dq:((R2.length:Int)==(R.length:Int))=Τ:=by simp;omega
     have bu:=Ph HV.out HL.out HB.out.1 bb (by rw[ag.out];exact ah.out) a7.out he;have du:À (OInv t l N2 R2.length/\Blk l (λs=>N2.getD s 0) R2):=Α ⟨bu.1,(Iu a7.out).1⟩;have eh:=bu.2;have ei:=Jq (Iu a7.out).1;clear he E HB f134 bu;go_wp2;go_roundw
     case rel=>exact⟨N2,R2,dm,dn,rfl,cy,dh,dk,du⟩
     case measure=>simp[slN];omega
theorem Xh {κ:Type} {key:Nat->κ} {x:Nat} {c D:Nat->Nat} {bs:List Nat} {f:κ->Option Nat} (h:FInv key x c bs f) (E:∀ y,c y=D y):FInv key x D bs f:=by
 obtain rfl:c=D:=funext E;exact h
theorem Xf {κ:Type} {key:Nat->κ} {x:Nat} {c:Nat->Nat} {bs:List Nat} {f:κ->Option Nat} (h:FInv key x c bs f) (k:κ) (r:Nat) (D:r<bs.length) (E:key (bs.getD r 0)=k):f k=Δ r:=by
 obtain⟨G,I⟩:=h.byte r D;have:=h.has _ G;rw[I,E] at this;exact this
theorem Xe {κ:Type} {key:Nat->κ} {x:Nat} {c:Nat->Nat} {bs:List Nat} {f:κ->Option Nat} (h:FInv key x c bs f) (k:κ) (E:∀ r,r<bs.length->key (bs.getD r 0)≠k):f k=Γ:=by
 cases G:f k with
 | none=>rfl
 | some i=>
  obtain⟨y,D,I,T⟩:=h.from_ k i G;have hi:=h.lt y D;obtain⟨J,M⟩:=h.byte _ hi;exact absurd (((h.same _ _ J D).1 M).trans I.symm) (E _ hi)
structure CInv {κ:Type} (key:Nat->κ) (b:Nat) (C P:List Nat) (f:κ->Option Nat):Prop where
 fi:FInv key b (λx=>C.getD x 0) P f
 len:C.length=256
theorem Ya {κ:Type} (key:Nat->κ):CInv key 0 (ζ 256 0) [] (λ_=>Γ):=⟨Qk _ _,Ò⟩
theorem Yb {κ:Type} {key:Nat->κ} {b:Nat} {C P:List Nat} {f:κ->Option Nat} (h:CInv key b C P f) (D:b<256) (i:Nat) (hi:f (key b)=Δ i):CInv key (b+1) (C.set b i) P f:=
 ⟨Xh (M6 h.fi i hi) λy=>(Bb _ _ _ _ _ (by rw[h.len];exact D)).symm,by rw[ϒ];exact h.len⟩
theorem Yc {κ:Type} [DecidableEq κ] {key:Nat->κ} {b:Nat} {C P:List Nat} {f:κ->Option Nat} (h:CInv key b C P f) (D:b<256) (hi:f (key b)=Γ) :
  CInv key (b+1) (C.set b P.length) (P++[b]) (λp=>if p=key b then Δ P.length else f p):=
 ⟨Xh (Ql h.fi hi) λy=>(Bb _ _ _ _ _ (by rw[h.len];exact D)).symm,by rw[ϒ];exact h.len⟩
theorem M3 (f:Nat->Nat) (l:List Nat) (k:Nat) (D:k<l.length):(l.map f).getD k 0=f (l.getD k 0):=by
 simp[Η,D]
def Cw (t:Tbl) (C P:List Nat):Tbl:=⟨λb=>C.getD b 0,P.length,(ι t.n.length).map λs=>P.map λp=>t.ent2 s (t.cell p),t.acc⟩
theorem Wa (t:Tbl) (C P:List Nat) (s:Nat) (hs:s<t.n.length):(Cw t C P).n.getD s []=P.map λp=>t.ent2 s (t.cell p):=by
 unfold Cw;simp[Η,hs]
theorem Wb (t:Tbl) (C P:List Nat) (s k:Nat) (hs:s<t.n.length) (D:k<P.length):(Cw t C P).ent2 s k=t.ent2 s (t.cell (P.getD k 0)):=by
 unfold Tbl.ent2;rw[Wa t C P s hs,M3 _ _ _ D];rfl
theorem V9 {t:Tbl} (hv:TVal t) {C P:List Nat} {f:Nat->Option Nat} (h:CInv t.cell 256 C P f):TVal (Cw t C P) where
 pos:=by simp[Cw,hv.pos]
 accL:=by simp[Cw,hv.accL]
 row:=λs hs=>by
  have E:s<t.n.length:=by simpa [Cw] using hs
  rw[Wa t C P s E];simp[Cw]
 tgt:=λs hs k D=>by
  have E:s<t.n.length:=by simpa [Cw] using hs
  rw[Wb t C P s k E D];have:=hv.tgt s E _ (hv.cell_lt _ (h.fi.byte k D).1)
  simpa [Cw] using this
 cell_lt:=λb G=>h.fi.lt b G
 onto:=λk D=>⟨_,(h.fi.byte k D).1,(h.fi.byte k D).2⟩
theorem Aio {t:Tbl} {C P:List Nat} {f:Nat->Option Nat} (h:CInv t.cell 256 C P f) (s b:Nat) (hs:s<t.n.length) (D:b<256):(Cw t C P).stp s b=t.stp s b:=by
 have E:=h.fi.lt b D;obtain⟨G,I⟩:=h.fi.byte _ E;show (Cw t C P).ent2 s (C.getD b 0)=_;rw[Wb t C P s _ hs E];show _=t.ent2 s (t.cell b);rw[(h.fi.same _ _ G D).1 I]
theorem Aip {t:Tbl} (hv:TVal t) {C P:List Nat} {f:Nat->Option Nat} (h:CInv t.cell 256 C P f) (w:List UInt8):(Cw t C P).has w=t.has w:=by
 have run:∀ (w:List UInt8) (s:Nat),s<t.n.length->(Cw t C P).run s w=t.run s w:=by
  intro w;induction w with
  | nil=>intro s _;rfl
  | cons x w D=>
   intro s hs;show (Cw t C P).run ((Cw t C P).stp s x.toNat) w=t.run (t.stp s x.toNat) w;rw[Aio h s _ hs x.toNat_lt,D _ (hv.stp_lt hs x.toNat_lt)]
 show t.acc.getD _ Τ=t.acc.getD _ Τ;rw[run w 0 hv.pos]
theorem Ag4 {t:Tbl} (hv:TVal t) {B:Nat->Nat} {R:List Nat} (G:∀ i,i<R.length->∀ k,k<t.cells->B (t.ent2 (R.getD i 0) k)<65536) {c:Nat->Nat} {bs:List Nat} {f:List UInt8->Option Nat} {C:List Cls}
  (h:FInv (λy=>Hq t B R (t.cell y)) 256 c bs f) (I:C.length=bs.length) (J:∀ i,i<bs.length->∀ y,y<256->((C.getD i 0#256).getLsbD y=Ξ↔c y=i)):Merged t B R (bs.map t.cell) C:=by
 classical
 have key:∀ k,k<t.cells->∃ y,y<256/\t.cell y=k:=hv.onto
 let g:Nat->Nat:=λk=>if h:∃ y,y<256/\t.cell y=k then c h.choose else 0
 have hg:∀ y,y<256->g (t.cell y)=c y:=λy D=>by
  have he:∃ z,z<256/\t.cell z=t.cell y:=⟨y,D,rfl⟩;show (if h:∃ z,z<256/\t.cell z=t.cell y then c h.choose else 0)=c y;rw[dif_pos he];obtain⟨M,T⟩:=he.choose_spec;exact (h.same _ _ M D).2 (by rw[T])
 refine Vq hv G (c:=c) (f:=f) (O:=(ι t.cells).map λk=>Δ (g k)) ⟨h,by simp,I,λy D=>?_,λk i E=>?_,λi hi y D=>?_⟩
 ·have:=hv.cell_lt y D;simp[Η,this,hg y D]
 ·by_cases e:k<t.cells
  ·simp[Η,e] at E;obtain⟨y,D,rfl⟩:=key k e;exact⟨y,D,rfl,by rw[<-E,hg y D]⟩
  ·simp[Η,e] at E
 ·rw[J i hi y D];exact⟨λe=>⟨D,e⟩,λe=>e.2⟩
def Cg (t:Tbl) (s:Nat):Tbl:=⟨t.cell,t.cells,(t.n.getD s []).map (·+1)::t.n.map λr=>r.map (·+1),t.ok s::t.acc⟩
theorem M2 (l:List Nat) (k:Nat) (D:k<l.length):(l.map (·+1)).getD k 0=l.getD k 0+1:=M3 _ l k D
theorem Qh (t:Tbl) (s q:Nat) (D:q<t.n.length):(Cg t s).n.getD (q+1) []=(t.n.getD q []).map (·+1):=by
 simp[Cg,Η,D]
theorem W5 {t:Tbl} (hv:TVal t) {s:Nat} (hs:s<t.n.length):TVal (Cg t s) where
 pos:=by simp[Cg]
 accL:=by simp[Cg,hv.accL]
 row:=λq G=>by
  cases q with
  | zero=>show ((t.n.getD s []).map _).length=_;rw[ϋ];exact hv.row s hs
  | succ q=>
   have D:q<t.n.length:=by simpa [Cg] using G
   rw[Qh t s q D,ϋ];exact hv.row q D
 tgt:=λq G k E=>by
  have I:(Cg t s).n.length=t.n.length+1:=by simp[Cg]
  rw[I];unfold Tbl.ent2;cases q with
  | zero=>
   show ((t.n.getD s []).map (·+1)).getD k 0<_;rw[M2 _ _ (by rw[hv.row s hs];exact E)];have:=hv.tgt s hs k E;unfold Tbl.ent2 at this;omega
  | succ q=>
   have D:q<t.n.length:=by simpa [Cg] using G
   rw[Qh t s q D,M2 _ _ (by rw[hv.row q D];exact E)];have:=hv.tgt q D k E;unfold Tbl.ent2 at this;omega
 cell_lt:=hv.cell_lt
 onto:=hv.onto
theorem Ajz {t:Tbl} (hv:TVal t) {s:Nat} (hs:s<t.n.length) (w:List UInt8):(Cg t s).has w=t.ok (t.run s w):=by
 have G:∀ q b,q<t.n.length->b<256->(Cg t s).stp (q+1) b=t.stp q b+1:=λq b D E=>by
  show ((Cg t s).n.getD (q+1) []).getD (t.cell b) 0=(t.n.getD q []).getD (t.cell b) 0+1;rw[Qh t s q D,M2 _ _ (by rw[hv.row q D];exact hv.cell_lt b E)]
 have I:∀ b,b<256->(Cg t s).stp 0 b=t.stp s b+1:=λb E=>by
  show ((t.n.getD s []).map (·+1)).getD (t.cell b) 0=(t.n.getD s []).getD (t.cell b) 0+1;rw[M2 _ _ (by rw[hv.row s hs];exact hv.cell_lt b E)]
 have r1:∀ (w:List UInt8) (q:Nat),q<t.n.length->(Cg t s).run (q+1) w=t.run q w+1:=by
  intro w;induction w with
  | nil=>intro q _;rfl
  | cons x w J=>
   intro q D;show (Cg t s).run ((Cg t s).stp (q+1) x.toNat) w=t.run (t.stp q x.toNat) w+1;rw[G q _ D x.toNat_lt,J _ (hv.stp_lt D x.toNat_lt)]
 cases w with
 | nil=>rfl
 | cons x w=>
  show (t.ok s::t.acc).getD ((Cg t s).run ((Cg t s).stp 0 x.toNat) w) Τ=t.acc.getD (t.run (t.stp s x.toNat) w) Τ;rw[I _ x.toNat_lt,r1 w _ (hv.stp_lt hs x.toNat_lt)];rfl
theorem Acf {t:Tbl} (hv:TVal t) {q:Nat} (G:q<t.n.length):∀ (n:Nat) (w:List UInt8),w.length<=n->t.ok (t.run q w)=Ξ->∃ u:List UInt8,u.length<=t.n.length/\t.ok (t.run q u)=Ξ:=by
 intro n;induction n with
 | zero=>exact λw I h=>⟨w,by omega,h⟩
 | succ n J=>
  intro w I h;by_cases hs:w.length<=t.n.length
  ·exact⟨w,hs,h⟩
  ·have hd:¬ ((ι (t.n.length+1)).map λi=>t.run q (w.take i)).Nodup:=λhn=>by
    have:=Dy _ (ι t.n.length) hn λx M=>by
     obtain⟨i,_,rfl⟩:=ϸ.1 M;exact υ.2 (hv.run_lt _ G)
    simp only[ϋ,List.length_range] at this;omega
   rw[List.nodup_iff_pairwise_ne,List.pairwise_iff_getElem] at hd;have:∃ i j,i<j/\j<=t.n.length/\t.run q (w.take i)=t.run q (w.take j):=ϧ λT=>hd λi j hi D E he=>by
    simp at hi D he;exact T ⟨i,j,E,by omega,he⟩
   obtain⟨i,j,E,D,he⟩:=this;refine J (w.take i++w.drop j) (by rw[Υ,List.length_take,List.length_drop,Nat.min_eq_left (by omega)];omega) ?_;rw[Ct,he,<-Ct,List.take_append_drop];exact h
structure LvInv (t:Tbl) (r s k:Nat) (L:List Bool):Prop where
 len:L.length=t.n.length
 sound:∀ q,L.getD q Τ=Ξ->∃ w,t.ok (t.run q w)=Ξ
 comp:∀ q,q<t.n.length->∀ w:List UInt8,w.length<=r->t.ok (t.run q w)=Ξ->L.getD q Τ=Ξ
 rows:∀ q,q<s->∀ w:List UInt8,w.length<=r+1->t.ok (t.run q w)=Ξ->L.getD q Τ=Ξ
 cols:∀ c,c<k->∀ w:List UInt8,w.length<=r->t.ok (t.run (t.ent2 s c) w)=Ξ->L.getD s Τ=Ξ
theorem Ahh {t:Tbl} (hv:TVal t):LvInv t 0 0 0 t.acc where
 len:=hv.accL
 sound:=λq h=>⟨[],h⟩
 comp:=λq _ w D h=>by
  obtain rfl:w=[]:=List.eq_nil_of_length_eq_zero (by omega);exact h
 rows:=λq E=>by omega
 cols:=λc G=>by omega
theorem Ahl {t:Tbl} (hv:TVal t) {r s k:Nat} {L:List Bool} (h:LvInv t r s k L) (hs:s<t.n.length) (J:k<t.cells):LvInv t r s (k+1) (L.set s (L.getD s Τ||L.getD (t.ent2 s k) Τ)):=by
 have G:s<L.length:=by rw[h.len];exact hs
 have I:∀ q,L.getD q Τ=Ξ->(L.set s (L.getD s Τ||L.getD (t.ent2 s k) Τ)).getD q Τ=Ξ:=λq D=>by
  rw[Bb _ _ _ _ _ G];split
  ·rename_i e;subst e;rw[D];rfl
  ·exact D
 refine⟨by rw[ϒ];exact h.len,λq D=>?_,λq D w E he=>I q (h.comp q D w E he),λq D w E he=>I q (h.rows q D w E he),λc T w E he=>?_⟩
 ·rw[Bb _ _ _ _ _ G] at D;split at D
  ·rename_i e;subst e
   rw[Bool.or_eq_true] at D;rcases D with D|D
   ·exact h.sound q D
   ·obtain⟨w,E⟩:=h.sound _ D;obtain⟨b,M,rfl⟩:=hv.onto k J;exact⟨χ b::w,by
     show t.ok (t.run (t.stp q (χ b).toNat) w)=Ξ;rw[u8n b M];exact E⟩
  ·exact h.sound q D
 ·by_cases e:c=k
  ·subst e;rw[Bb _ _ _ _ _ G,if_pos rfl,h.comp _ (hv.tgt s hs c J) w E he,Bool.or_true]
  ·exact I s (h.cols c (by omega) w E he)
theorem Ahi {t:Tbl} (hv:TVal t) {r s:Nat} {L:List Bool} (h:LvInv t r s t.cells L) (hs:s<t.n.length):LvInv t r (s+1) 0 L where
 len:=h.len
 sound:=h.sound
 comp:=h.comp
 rows:=λq E w D he=>by
  by_cases e:q=s
  ·subst e;cases w with
   | nil=>exact h.comp q hs [] (by simp) he
   | cons x w=>exact h.cols (t.cell x.toNat) (hv.cell_lt _ x.toNat_lt) w (by simpa using D) he
  ·exact h.rows q (by omega) w D he
 cols:=λc G=>by omega
theorem Ahj {t:Tbl} {r:Nat} {L:List Bool} (h:LvInv t r t.n.length 0 L):LvInv t (r+1) 0 0 L where
 len:=h.len
 sound:=h.sound
 comp:=h.rows
 rows:=λq D=>by omega
 cols:=λc E=>by omega
theorem Ahk {t:Tbl} (hv:TVal t) {L:List Bool} (h:LvInv t t.n.length 0 0 L) (q:Nat) (D:q<t.n.length):L.getD q Τ=Ξ↔∃ w,t.ok (t.run q w)=Ξ:=
 ⟨h.sound q,fun⟨w,E⟩=>by
  obtain⟨u,hu,he⟩:=Acf hv D w.length w (ν _) E;exact h.comp q D u hu he⟩
def Lh (t:Tbl) (L:List Bool):Tbl:=⟨t.cell,t.cells,t.n,L⟩
theorem An9 {t:Tbl} (hv:TVal t) {L:List Bool} (h:L.length=t.n.length):TVal (Lh t L):=⟨hv.pos,h,hv.row,hv.tgt,hv.cell_lt,hv.onto⟩
theorem Aoa (t:Tbl) (L:List Bool) (w:List UInt8):(Lh t L).has w=L.getD (t.run 0 w) Τ:=rfl
theorem Ahz {t:Tbl} (hv:TVal t) {L:List Bool} (h:LvInv t t.n.length 0 0 L) (w:List UInt8):(Lh t L).has w=Ξ↔∃ u,t.has (w++u)=Ξ:=by
 rw[Aoa,Ahk hv h _ (hv.run_lt w hv.pos)];unfold Tbl.has;constructor
 ·rintro⟨u,hu⟩;exact⟨u,by rw[Ct];exact hu⟩
 ·rintro⟨u,hu⟩;exact⟨u,by rw[Ct] at hu;exact hu⟩
end Go.Proofs.YtaiogolidlamiaaGreatDoor
