import Derived.Test.YtaiogolidlamiaaGreatDoorM16
import Derived.Test.YtaiogolidlamiaaGreatDoorM04
import Derived.Test.YtaiogolidlamiaaGreatDoorM10
import Derived.Test.YtaiogolidlamiaaGreatDoorM03
set_option linter.unusedVariables false
set_option linter.unusedSimpArgs false
open Bool renaming true → Ξ, false → Τ
open Classical renaming byContradiction → ϩ
open Go renaming Value → Ρ, World → Κ, heap_alloc2_new → Ϙ, cell_of_row → Ω, info_parts → ϕ, wpList_make_full → ϫ, maxLen → ϙ, wpList_append_lies → ϐ, cell_one_new → Ϫ, TypeId → Á, wpList_load_row → Υ, undef → ς, Operand → ϻ, execOp → Ú, setRow_heap → μ, frozen_of_row → Ϯ, setCell_eq_setRow → Ϥ
open Go.Act renaming put → Ϛ
open Go.Ending renaming returned → ν
open Go.IntKind renaming i64 → ζ
open Go.Lib renaming hid → Α
open Go.Obj renaming cells → Ε
open Go.Operand renaming tmp → η
open Go.Proofs.Tryz renaming prog → Η, underlying79 → Â, underlying68 → ϓ, zeroCells77 → ώ
open Go.RowKit renaming Hid → Ϻ
open Go.Value renaming slice → Β, pointer → γ, tuple → ϥ, oneCell' → ϊ
open Go.World renaming ownsRow_lit → Ô, ownsRow → ϛ
open List renaming setIfInBounds_toArray → Θ, set_cons_zero → Χ, set_cons_succ → Ψ, replicate → δ, length_replicate → Î, length_append → Ο, map_append → ϔ, length_set → ύ, getD_eq_getElem?_getD → Ζ, range → ι, length_map → Ϗ, pairwise_iff_getElem → ϯ, getElem?_eq_some_iff → ό, getElem?_eq_getElem → Μ
open Nat renaming le_refl → θ, le_of_eq → å
open Option renaming some → Δ, none → Γ
open Option.some renaming inj → ω
open UInt8 renaming ofNat → χ
namespace Go.Proofs.YtaiogolidlamiaaGreatDoor
set_option maxRecDepth 100000
set_option maxHeartbeats 8000000
open Go.RowKit Go.Shelf
def Rc (t:Tbl) (B:List Nat) (D E:Nat):Prop:=B.getD D 0=B.getD E 0/\∀ k,k<t.cells->B.getD (t.ent2 D k) 0=B.getD (t.ent2 E k) 0
theorem Anb (t:Tbl) (hv:TVal t) (A:Array Ρ) (B:List Nat) (hB:B.length=t.n.length) (E G:Nat) (h0:E<t.n.length) (h1:G<t.n.length) (vB:Ρ) (w:Κ) (h:IsR w A t) (hb:Ints w vB B) (r:Bool) (hr:r=Ξ↔Rc t B E G) :
  Calls Η 150 #[.agg A,vB,.agg #[iv E,iv G]] w λe w'=>e=ν (.bool r)/\Ext w w':=by
 obtain⟨I,J,cn,ba,oa,ca,dr,dt,du,bh,-,hR,-⟩:=h.opened hv;obtain⟨M,T,cb,rfl,cl⟩:=ä hb (by rw[hB];exact hv.pos);have dv:=hv.cle;have bj:=((Ι w).alloc (Ε A 79)).alloc (Ε #[iv E,iv G] 166);have be:=Ag (Ab w (Ε A 79)) (Ε #[iv E,iv G] 166);have ar:=Ϙ w (Ε A 79) (Ε #[iv E,iv G] 166);have HV:=Α hv;have az:=Α (λW (D:Ext w W) j (hj:j<B.length)=>D.cell (cl j (by omega)));have HR:=Α (λW (D:Ext w W)=>hR.ext D);have bl:=Α hr;clear hb h hR hv cl hr;obtain⟨H,bm⟩:∃ n,t.n.length=n:=⟨_,rfl⟩;have bo:=Α bm;rw[bm] at HR bh hB h0 h1;clear bm;rw[hB] at az;rw[hB];clear hB;go_enter Tryz.func150,Tryz.ntmps150;go_upto_region 1 with (fail)
 obtain⟨w1,bp⟩:∃ W,(w.alloc (Ε A 79)).alloc (Ε #[iv E,iv G] 166)=W:=⟨_,rfl⟩;rw[bp] at bj be ar;simp only[bp];clear bp;obtain⟨g0,bq⟩:∃ y,w.heap.size=y:=⟨_,rfl⟩;obtain⟨g1,br⟩:∃ y,g0+1=y:=⟨_,rfl⟩;rw[bq] at be ar;rw[br] at ar;simp only[bq,br];clear bq br;have HX:=Α be;have bt:=Α (λW (D:Ext w1 W)=>(Ω W g1 0 _ _ _ (D.heap ar)).trans (show (#[iv E,iv G]:Array Ρ)[0]? = Δ (iv E) from rfl));have cq:=Α (λW (D:Ext w1 W)=>(Ω W g1 1 _ _ _ (D.heap ar)).trans (show (#[iv E,iv G]:Array Ρ)[1]? = Δ (iv G) from rfl));have HN:=Α (λW (D:Ext w1 W)=>(Ω W g0 256 _ _ _ (D.heap HX.out)).trans bh);have af:=Α bj;clear be ar bj bh;have dw:(E:Int)<(H:Int):=by omega
 have dx:(G:Int)<(H:Int):=by omega
 have hd:=(Ι w1).drew;have p0:=bt.out w1.drew hd;have p1:=cq.out w1.drew hd;have b0:=az.out w1.drew (af.out.trans hd) E h0;have b1:=az.out w1.drew (af.out.trans hd) G h1;obtain⟨x0,bu⟩:∃ x,B.getD E 0=x:=⟨_,rfl⟩;obtain⟨x1,bw⟩:∃ x,B.getD G 0=x:=⟨_,rfl⟩;rw[bu] at b0;rw[bw] at b1;have bx:=Α bu;have bz:=Α bw;clear bu bw;by_cases cw:x0=x1
 ·subst cw;go_region
  clear p0 p1 b0 b1;have da:Ϻ (B.getD E 0=B.getD G 0):=Α (by rw[bx.out,bz.out]);clear bx bz;go_wp2_with (fail);go_loopw [7] (λvi W=>∃ k:Nat,k<=t.cells/\vi=.int ζ k/\Ext w1 W/\Ϻ (∀ j,j<k->B.getD (t.ent2 E j) 0=B.getD (t.ent2 G j) 0))
   (λvi _=>t.cells-(intOf vi).toNat)
  case atStart=>exact⟨0,by omega,rfl,hd,Α λj hj=>by omega⟩
  case round=>
   clear hd;obtain⟨k,hk,rfl,U,HK⟩:=hrel;obtain⟨aj,ak,bf,cy,cz⟩:=HR.out wr (af.out.trans U) E h0;have n4:=HN.out wr U;have p4:=bt.out wr U;by_cases ag:k<t.cells
   ·have ea:(k:Int)<(t.cells:Int):=by omega
    have dd:=Α cz;have de:=Α cy;clear cz;go_upto_region 6 with (fail)
    clear n4 p4 cy;obtain⟨al,an,bg,r1,c1⟩:=HR.out wr (af.out.trans U) G h1;have df:=Α c1;have dg:=Α r1;clear c1 r1;have q0:=λW (D:Ext wr W)=>bt.out W (U.trans D)
    have q1:=λW (D:Ext wr W)=>cq.out W (U.trans D)
    have qn:=λW (D:Ext wr W)=>HN.out W (U.trans D)
    have r0:=λW (D:Ext wr W)=>D.cell de.out
    have r1:=λW (D:Ext wr W)=>D.cell dg.out
    have e0:=λW (D:Ext wr W)=>D.cell (dd.out k ag)
    have e1:=λW (D:Ext wr W)=>D.cell (df.out k ag)
    have a7:=HV.out.tgt E (by rw[bo.out];exact h0) k ag;have a8:=HV.out.tgt G (by rw[bo.out];exact h1) k ag;rw[bo.out] at a7 a8;obtain⟨y0,b5⟩:∃ y,t.ent2 E k=y:=⟨_,rfl⟩;obtain⟨y1,b6⟩:∃ y,t.ent2 G k=y:=⟨_,rfl⟩;rw[b5] at e0 a7;rw[b6] at e1 a8;have c2:=Α b5;have c3:=Α b6;clear b5 b6;have z0:=λW (D:Ext wr W)=>az.out W (af.out.trans (U.trans D)) y0 a7
    have z1:=λW (D:Ext wr W)=>az.out W (af.out.trans (U.trans D)) y1 a8
    obtain⟨v0,b7⟩:∃ x,B.getD y0 0=x:=⟨_,rfl⟩;obtain⟨v1,b8⟩:∃ x,B.getD y1 0=x:=⟨_,rfl⟩;rw[b7] at z0;rw[b8] at z1;have c4:=Α b7;have c5:=Α b8;clear b7 b8;have eb:(y0:Int)<(H:Int):=by omega
    have ec:(y1:Int)<(H:Int):=by omega
    by_cases b9:v0=v1
    ·have c6:=Α b9;clear b9;have dh:Ϻ (∀ j,j<k+1->B.getD (t.ent2 E j) 0=B.getD (t.ent2 G j) 0):=Α λj hj=>by
      by_cases e:j=k
      ·subst e;rw[c2.out,c3.out,c4.out,c5.out,c6.out]
      ·exact HK.out j (by omega)
     refine Dv 55 Ξ [Β (Δ ⟨M,T,Γ⟩) H cb,γ (Δ ⟨g0,256,Γ⟩),Β (Δ ⟨I,J,Γ⟩) H cn,γ (Δ ⟨g1,0,Γ⟩),iv E,γ (Δ ⟨I,J+E,Γ⟩),Β (Δ ⟨aj,ak,Γ⟩) t.cells bf,iv k,γ (Δ ⟨aj,ak+k,Γ⟩),iv y0,γ (Δ ⟨M,T+y0,Γ⟩),iv v0,Β (Δ ⟨M,T,Γ⟩) H cb,γ (Δ ⟨g0,256,Γ⟩),Β (Δ ⟨I,J,Γ⟩) H cn,γ (Δ ⟨g1,1,Γ⟩),iv G,γ (Δ ⟨I,J+G,Γ⟩),Β (Δ ⟨al,an,Γ⟩) t.cells bg,iv k,γ (Δ ⟨al,an+k,Γ⟩),iv y1,γ (Δ ⟨M,T+y1,Γ⟩),iv v1,.bool Τ] [.keep,.pure,Iv (η 31) g0 256 _ qn,.pure,ld3 (η 33) g1 0 _ q0,Iw (η 32) (η 34) I J H cn E h0,Iu (η 35) I (J+E) _ r0,.keep,Cx (η 36) (η 37) aj ak t.cells bf k ag,ld3 (η 38) aj (ak+k) _ e0,Cx (η 30) (η 39) M T H cb y0 a7,ld3 (η 40) M (T+y0) _ z0,.keep,.pure,Iv (η 43) g0 256 _ qn,.pure,ld3 (η 45) g1 1 _ q1,Iw (η 44) (η 46) I J H cn G h1,Iu (η 47) I (J+G) _ r1,.keep,Cx (η 48) (η 49) al an t.cells bg k ag,ld3 (η 50) al (an+k) _ e1,Cx (η 42) (η 51) M T H cb y1 a8,ld3 (η 52) M (T+y1) _ z1,Io (η 41) (η 53) v0 v1 Τ (by have:=c6.out;simp;omega)] (λ_=>by kernel_rfl) (by kernel_rfl) rfl rfl (λW=>by kernel_rfl) (by kernel_rfl) ?_;intro W D;simp only[Bz,Ϛ,Θ,Χ,Ψ];have cd:=U.trans D;clear D q0 q1 qn r0 r1 e0 e1 z0 z1;go_wp2;go_roundw
     case rel=>exact⟨k+1,by omega,by go_num,cd,dh⟩
     case measure=>simp[intOf];omega
    ·have dk:¬ (v0:Int)=(v1:Int):=by omega
     have cf:r=Τ:=by
      cases r with
      | false=>rfl
      | true=>
       have:=(bl.out.1 rfl).2 k ag;rw[c2.out,c3.out,c4.out,c5.out] at this;exact absurd this b9
     subst cf;refine Dv 55 Ξ [Β (Δ ⟨M,T,Γ⟩) H cb,γ (Δ ⟨g0,256,Γ⟩),Β (Δ ⟨I,J,Γ⟩) H cn,γ (Δ ⟨g1,0,Γ⟩),iv E,γ (Δ ⟨I,J+E,Γ⟩),Β (Δ ⟨aj,ak,Γ⟩) t.cells bf,iv k,γ (Δ ⟨aj,ak+k,Γ⟩),iv y0,γ (Δ ⟨M,T+y0,Γ⟩),iv v0,Β (Δ ⟨M,T,Γ⟩) H cb,γ (Δ ⟨g0,256,Γ⟩),Β (Δ ⟨I,J,Γ⟩) H cn,γ (Δ ⟨g1,1,Γ⟩),iv G,γ (Δ ⟨I,J+G,Γ⟩),Β (Δ ⟨al,an,Γ⟩) t.cells bg,iv k,γ (Δ ⟨al,an+k,Γ⟩),iv y1,γ (Δ ⟨M,T+y1,Γ⟩),iv v1,.bool Ξ] [.keep,.pure,Iv (η 31) g0 256 _ qn,.pure,ld3 (η 33) g1 0 _ q0,Iw (η 32) (η 34) I J H cn E h0,Iu (η 35) I (J+E) _ r0,.keep,Cx (η 36) (η 37) aj ak t.cells bf k ag,ld3 (η 38) aj (ak+k) _ e0,Cx (η 30) (η 39) M T H cb y0 a7,ld3 (η 40) M (T+y0) _ z0,.keep,.pure,Iv (η 43) g0 256 _ qn,.pure,ld3 (η 45) g1 1 _ q1,Iw (η 44) (η 46) I J H cn G h1,Iu (η 47) I (J+G) _ r1,.keep,Cx (η 48) (η 49) al an t.cells bg k ag,ld3 (η 50) al (an+k) _ e1,Cx (η 42) (η 51) M T H cb y1 a8,ld3 (η 52) M (T+y1) _ z1,Io (η 41) (η 53) v0 v1 Ξ (by simp;try omega)] (λ_=>by kernel_rfl) (by kernel_rfl) rfl rfl (λW=>by kernel_rfl) (by kernel_rfl) ?_;intro W D;simp only[Bz,Ϛ,Θ,Χ,Ψ];have cd:=U.trans D;clear D q0 q1 qn r0 r1 e0 e1 z0 z1;go_wp2;go_ret;exact⟨rfl,af.out.trans cd⟩
   ·obtain rfl:k=t.cells:=by omega
    have dm:r=Ξ:=bl.out.2 ⟨da.out,HK.out⟩;subst dm;go_wp2;go_ret;exact⟨rfl,af.out.trans U⟩
 ·have dk:¬ (x0:Int)=(x1:Int):=by omega
  have cf:r=Τ:=by
   cases r with
   | false=>rfl
   | true=>exact absurd (by rw[<-bx.out,<-bz.out];exact (bl.out.1 rfl).1) cw
  subst cf;go_region
  go_wp2;go_ret;exact⟨rfl,af.out.trans hd⟩
section
variable {l:List Nat} {key:Nat->List UInt8} {j:Nat} {N R:List Nat} {f:List UInt8->Option Nat}
theorem U8 (h:NInv l key j N R f) (r:Nat) (D:r<R.length):f (key (R.getD r 0))=Δ r:=by
 obtain⟨⟨q,E,e⟩,G⟩:=h.rep r D;have:=h.has q E;rw[<-e,G] at this;exact this
theorem Age (h:NInv l key j N R f) (k:List UInt8) (r:Nat) (D:r<R.length) (E:key (R.getD r 0)=k):f k=Δ r:=by
 rw[<-E];exact U8 h r D
theorem Agd (h:NInv l key j N R f) (k:List UInt8) (G:∀ r,r<R.length->key (R.getD r 0)≠k):f k=Γ:=by
 cases H:f k with
 | none=>rfl
 | some i=>
  obtain⟨q,D,I,E⟩:=h.from_ k i H;have hi:i<R.length:=by rw[E];exact h.lt q D
  have T:=U8 h i hi;obtain⟨⟨q',J,e⟩,M⟩:=h.rep i hi;refine absurd ?_ (G i hi);rw[e,I];refine (h.same q' q J D).1 ?_;rw[<-e,M,E]
end
theorem Xl:Enters Η 150:=enters_of Tryz.func150 (by kernel_rfl) rfl
def ldR {w:Κ} {g:Nat} {A:Array Ρ} (h:∀ W,Ext w W->W.heap[g]? = Δ (Ε A 79 (0,0))) (hi:(Η.info? 79).map (·.size)=Δ A.size):Sc Η w:=
 .load 79 g A 79 (0,0) _ h Â rfl hi
theorem Ab1 (t:Tbl) (hv:TVal t) (hn:t.n.length<=65536) (l:List Nat) (hl:Reached t l) (ei:l.length<=65536) (B:List Nat) (hB:B.length=t.n.length) (ar:∀ s∈l,B.getD s 0<65536) (A:Array Ρ) (vB vl:Ρ) (w:Κ) (h:IsR w A t) (hb:Ints w vB B) (cu:Ints w vl l) :
  Calls Η 134 #[.agg A,vB,vl] w λe w'=>∃ vN vR N R f,e=ν (ϥ #[vN,vR])/\N.length=t.n.length/\NInv l (Bu t λs=>B.getD s 0) l.length N R f/\Ints w' vN N/\Ints w' vR R/\Ext w w':=by
 have dm:A.size=258:=by obtain⟨_,_,rfl,_,_⟩:=h;exact Dw _ _ _
 obtain⟨J,M,cl,rfl,cw⟩:=ä cu hl.ne;obtain⟨ab,cb,rfl⟩:=Sl.len hb;obtain⟨i0,hi,cy,cz,c1⟩:=ϕ Cg;have c2:(Η.info? 79).map (·.size)=Δ A.size:=by rw[dm];exact Cp
 have dn:=hv.pos;have c3:=(Ι w).alloc (Ε A 79);have HX:=Α (Ab w (Ε A 79));have HL:=Α (λW (D:Ext w W) i (hi:i<l.length)=>D.cell (cw i (by omega)));have dq:=Α (λs (hs:s∈l) s' (be:s'∈l)=>(show Rc t B s s'↔Bu t (λs=>B.getD s 0) s=Bu t (λs=>B.getD s 0) s' from
  (V5 t (λs=>B.getD s 0) s s' (ar s hs) (ar s' be) (λk hk=>ar _ (hl.closed s hs k hk)) (λk hk=>ar _ (hl.closed s' be k hk))).symm))
 have bf:=Α (λW (D:Ext w W) s (hs:s<t.n.length) s' (be:s'<t.n.length) (r:Bool) (hr:r=Ξ↔Rc t B s s')=>Anb t hv A B hB s s' hs be _ W (h.ext D) (hb.ext D) r hr);have bh:=Α hl;rw[hB] at bf;rw[hB];clear cw cu hb h ar hv hl;obtain⟨E,bj⟩:∃ n,t.n.length=n:=⟨_,rfl⟩;have c4:=Α bj;rw[bj] at bf dn hn hB;rw[bj];clear bj;go_enter Tryz.func134,Tryz.ntmps134;go_upto_region 1 with (fail)
 generalize w.alloc (Ε A 79)=w1 at *;have aj:=Α c3;clear c3;go_upto_region 2 with (at_make;refine ϫ _ rfl _ _ 68 rfl w1.heap.size 3 i0 (.int ζ 0) 1 ϓ hi cy cz ζ ζ _ _ E rfl rfl rfl rfl (by rw[c1];omega) (by unfold ϙ;omega) (θ _) ?_;intro w2 c5 c6)
 have bw:Ext w1 w2:=(Ι w1).grown c6 (λk e=>by cases e);have bx:OwnI w2 w1.heap.size (Β (Δ ⟨w1.heap.size,0,Γ⟩) (δ E 0).length E) (δ E 0):=by
  unfold OwnI;rw[<-B7,Î];exact c5
 clear c5 c6;go_upto_region 3 with (fail)
 have ak:=bx.alloc (Ε #[] 3);have au:=Ô (base:=w1.heap.size) (e:=3) (size:=1) w2 #[] 0 bw.size (by unfold ϙ;omega) rfl;have bz:=bw.alloc (Ε #[] 3);obtain⟨G,aw⟩:∃ y,w1.heap.size=y:=⟨_,rfl⟩;have c8:G+1<=w2.heap.size:=by have:=(bx.lt w1.heap.size rfl).2;omega
 have au:=Ô (base:=G+1) (e:=3) (size:=1) w2 #[] 0 c8 (by unfold ϙ;omega) rfl;have b0:Ϻ (w1.heap.size<=G/\G<=w1.heap.size):=Α ⟨å aw,å aw.symm⟩;rw[aw,Î] at ak;simp only[aw];have ak:=Ge ak;obtain⟨w3,b4⟩:∃ X,w2.alloc (Ε #[] 3)=X:=⟨_,rfl⟩;obtain⟨g3,b5⟩:∃ y,w2.heap.size=y:=⟨_,rfl⟩;rw[b4] at ak au bz;rw[b5] at au;simp only[b4,b5];clear b4 b5 bx bw aw c8;have dt:=Α HX.out;go_wp2_with (fail);go_loopw [9,10] (λvR vj W=>∃ (N R:List Nat) (f:List UInt8->Option Nat) (g c j:Nat),j<=l.length/\vR=Β (Δ ⟨g,0,Γ⟩) R.length c/\vj=.int ζ j/\Ext w1 W/\W.ownsRow 0 3 1 (Β (Δ ⟨G,0,Γ⟩) E E) E (N.map iv)/\W.ownsRow (G+1) 3 1 (Β (Δ ⟨g,0,Γ⟩) R.length c) R.length (R.map iv)/\Ϻ (NInv l (Bu t λs=>B.getD s 0) j N R f/\N.length=E))
  (λ_ vj _=>l.length-(intOf vj).toNat)
 case atStart=>exact⟨δ E 0,[],λ_=>Γ,g3,0,0,by omega,rfl,rfl,bz,ak,au,Α ⟨U7 _ _ _,Î⟩⟩
 case round=>
  clear ak au bz;obtain⟨N,R,f,g,c,j,hj,rfl,rfl,hE,hN,hR,H⟩:=hrel;have en:=H.out.1.le;by_cases T:j<l.length
  ·have eo:(j:Int)<(l.length:Int):=by omega
   have c9:=Α (λW (D:Ext wr W)=>HL.out W (aj.out.trans (hE.trans D)) j T);have bn:=D9 l j 0 T;have U:=bh.out.lt _ bn;obtain⟨s,b7⟩:∃ s,l.getD j 0=s:=⟨_,rfl⟩;rw[b7] at c9 bn U;rw[c4.out] at U;have aa:=Α b7;have du:=Α bn;clear b7 bn;have dv:Ϻ (∀ r,r<R.length->R.getD r 0∈l/\R.getD r 0<E):=Α λr hr=>by
    obtain⟨⟨q,hq,e⟩,_⟩:=H.out.1.rep r hr;have hm:R.getD r 0∈l:=by rw[e];exact D9 l q 0 (by omega)
    exact⟨hm,by rw[<-c4.out];exact bh.out.lt _ hm⟩
   have da:=Α hR;have dw:=Α hN;clear hR hN;go_wp2_with (fail);go_loopw [11,12] (λvb vr W=>∃ (r b:Nat),r<=R.length/\b<=R.length/\vb=.int ζ b/\vr=.int ζ r/\Ext wr W/\Ϻ ((b=R.length/\∀ q,q<r->Bu t (λs=>B.getD s 0) (R.getD q 0)≠Bu t (λs=>B.getD s 0) s)\/(b<R.length/\Bu t (λs=>B.getD s 0) (R.getD b 0)=Bu t (λs=>B.getD s 0) s)))
    (λ_ vr _=>R.length-(intOf vr).toNat)
   case atStart=>exact⟨0,R.length,by omega,by omega,rfl,rfl,Ι wr,Α (.inl ⟨rfl,λq hq=>by omega⟩)⟩
   case round=>
    obtain⟨r,b,hr,hb,rfl,rfl,I,HB⟩:=hrel;by_cases ca:r<R.length/\b=R.length
    ·obtain⟨ax,rfl⟩:=ca;have db:(r:Int)<(R.length:Int):=by omega
     have dy:Ϻ (∀ q,q<r->Bu t (λs=>B.getD s 0) (R.getD q 0)≠Bu t (λs=>B.getD s 0) s):=Α (by
      rcases HB.out with⟨_,h⟩|⟨h,_⟩
      ·exact h
      ·exact absurd h (Nat.lt_irrefl _))
     clear HB;obtain⟨x,hx⟩:∃ x,R.getD r 0=x:=⟨_,rfl⟩;have cR:=λW (D:Ext wr W)=>Am 0 (Ah da.out (I.trans D)) rfl r ax
     have cL:=λW (D:Ext wr W)=>c9.out W (I.trans D)
     have bo:=dv.out r ax;rw[hx] at cR bo;have dc:=Α hx;have bp:=dq.out x bo.1 s du.out;have hX:=λW (D:Ext wr W)=>(hE.trans (I.trans D)).heap dt.out
     clear hx;go_upto_region 10 with (fail)
     by_cases ao:Bu t (λs=>B.getD s 0) x=Bu t (λs=>B.getD s 0) s
     ·have f150:=λW (D:Ext wr W)=>bf.out W (aj.out.trans (hE.trans (I.trans D))) x bo.2 s U Ξ ⟨λ_=>bp.2 ao,λ_=>rfl⟩
      have cf:Ϻ (r<R.length/\Bu t (λs=>B.getD s 0) (R.getD r 0)=Bu t (λs=>B.getD s 0) s):=Α ⟨ax,by rw[dc.out];exact ao⟩;clear ao bp;refine Dv 70 Ξ [.agg A,Β ab E cb,Β (Δ ⟨g,0,Γ⟩) R.length c,iv r,γ (Δ ⟨g,r,Γ⟩),iv x,Β (Δ ⟨J,M,Γ⟩) l.length cl,iv j,γ (Δ ⟨J,M+j,Γ⟩),iv s,.agg #[iv x,iv s],.bool Ξ] [ldR hX c2,.keep,.keep,.keep,Gl (η 39) (η 40) g R.length c r ax,ld3 (η 41) g r _ cR,.keep,.keep,Cx (η 43) (η 44) J M l.length cl j T,ld3 (η 45) J (M+j) _ cL,.pure,Jg 150 Xl [.agg A,Β ab E cb,.agg #[iv x,iv s]] _ f150] (λ_=>by kernel_rfl) (by kernel_rfl) rfl rfl (λW=>by kernel_rfl) (by kernel_rfl) ?_;intro W D;simp only[Bz,Ϛ,Θ,Χ,Ψ];have cg:=I.trans D;clear D f150 cR cL hX;go_wp2;go_roundw
      case rel=>exact⟨r+1,r,by omega,by omega,rfl,by go_num,cg,Α (.inr cf.out)⟩
      case measure=>simp[intOf];omega
     ·have f150:=λW (D:Ext wr W)=>bf.out W (aj.out.trans (hE.trans (I.trans D))) x bo.2 s U Τ ⟨λh=>(by cases h),λh=>absurd (bp.1 h) ao⟩
      have cf:Ϻ (∀ q,q<r+1->Bu t (λs=>B.getD s 0) (R.getD q 0)≠Bu t (λs=>B.getD s 0) s):=Α λq hq=>by
       by_cases e:q=r
       ·rw[e,dc.out];exact ao
       ·exact dy.out q (by omega)
      clear ao bp;refine Dv 70 Ξ [.agg A,Β ab E cb,Β (Δ ⟨g,0,Γ⟩) R.length c,iv r,γ (Δ ⟨g,r,Γ⟩),iv x,Β (Δ ⟨J,M,Γ⟩) l.length cl,iv j,γ (Δ ⟨J,M+j,Γ⟩),iv s,.agg #[iv x,iv s],.bool Τ] [ldR hX c2,.keep,.keep,.keep,Gl (η 39) (η 40) g R.length c r ax,ld3 (η 41) g r _ cR,.keep,.keep,Cx (η 43) (η 44) J M l.length cl j T,ld3 (η 45) J (M+j) _ cL,.pure,Jg 150 Xl [.agg A,Β ab E cb,.agg #[iv x,iv s]] _ f150] (λ_=>by kernel_rfl) (by kernel_rfl) rfl rfl (λW=>by kernel_rfl) (by kernel_rfl) ?_;intro W D;simp only[Bz,Ϛ,Θ,Χ,Ψ];have cg:=I.trans D;clear D f150 cR cL hX;go_wp2;go_roundw
      case rel=>exact⟨r+1,R.length,by omega,by omega,rfl,by go_num,cg,Α (.inl ⟨rfl,cf.out⟩)⟩
      case measure=>simp[intOf];omega
    ·have dd:Ϻ (r=R.length\/b≠R.length):=Α (by omega);have ag:=Ah dw.out I;have ah:=Ah da.out I;have az:=hE.trans I;have cL:=HL.out wr (aj.out.trans az) j T;rw[aa.out] at cL;have ep:=Α cL;have ch:=H.out.2;have er:=H.out.1.le;have ae:=Α ch;by_cases de:b=R.length
     ·subst de;have a1:=Α (Vc H.out.1 bh.out.nodup T (by rw[aa.out,ae.out];exact U) (by
       rw[aa.out];refine Agd H.out.1 _ λq hq=>?_
       rcases HB.out with⟨_,h⟩|⟨h,_⟩
       ·rcases dd.out with e|e
        ·exact h q (by omega)
        ·exact absurd rfl e
       ·exact absurd h (Nat.lt_irrefl _)))
      rw[aa.out] at a1;obtain rfl:r=R.length:=by
       rcases dd.out with e|e
       ·exact e
       ·exact absurd rfl e
      clear HB I ca ch;have et:G+1<=wr.heap.size:=(ag.lt G rfl).2;go_upto_region 13 with (fail)
      go_upto_region 14 with ((at_builtin;refine ϐ _ rfl _ _ 68 rfl (G+1) 3 i0 (.int ζ 0) 1 8 ϓ hi cy cz c1 rfl (by decide) _ _ _ rfl (ah.alloc _) _ 1 1 [iv s] rfl rfl (Ϫ _ _ _) (by simp[ϊ]) (by decide) (by unfold ϙ;omega) (by omega) (by simp;omega) _ rfl ?_;intro g7 c7 w7 a6 cj _ _))
      have br:=(ag.alloc (Ε #[iv s] 3)).kept cj (.inr (λe=>by have:=(ah.lt G e.symm).1;omega));have ck:=(az.alloc (Ε #[iv s] 3)).grown cj (λk e=>by have:=(ah.lt k e).1;have:=b0.out.1;omega);have a6:w7.ownsRow (G+1) 3 1 (Β (Δ ⟨g7,0,Γ⟩) (R++[s]).length c7) (R++[s]).length ((R++[s]).map iv):=by
       rw[Ο,ϔ];exact a6
      clear cj ag ah cL az;have ea:=HL.out w7 (aj.out.trans ck) j T;rw[aa.out] at ea;have eb:(s:Int)<(E:Int):=by omega
      have cn:=Am 0 br ae.out.symm s (by rw[ae.out];exact U);have fn:=br.frozenAt s;obtain⟨cm,ai⟩:=Bj br s R.length;have cp:=ck.grown ai (λk e=>by cases e;exact b0.out.1);have cq:=a6.kept ai (Aq a6 (by omega));clear ai a6 br ck;go_wp2;go_roundw
      case rel=>exact⟨N.set s R.length,R++[s],_,g7,c7,j+1,by omega,by rw[Ο];rfl,by go_num,cp,cm,cq,Α ⟨a1.out,by rw[ύ];exact ae.out⟩⟩
      case measure=>simp[intOf];omega
     ·have ed:b<R.length:=by omega
      have eu:((b:Int)==(R.length:Int))=Τ:=by simp;omega
      have dk:Bu t (λs=>B.getD s 0) (R.getD b 0)=Bu t (λs=>B.getD s 0) s:=by
       rcases HB.out with⟨h,_⟩|⟨_,h⟩
       ·exact absurd h de
       ·exact h
      have a1:=Α (U9 H.out.1 bh.out.nodup T (by rw[aa.out,ae.out];exact U) b (by
       rw[aa.out];exact Age H.out.1 _ b ed dk))
      rw[aa.out] at a1;clear HB I ca ch dk;have eb:(s:Int)<(E:Int):=by omega
      have cn:=Am 0 ag ae.out.symm s (by rw[ae.out];exact U);have fn:=ag.frozenAt s;obtain⟨cm,ai⟩:=Bj ag s b;have cp:=az.grown ai (λk e=>by cases e;exact b0.out.1);have cq:=ah.kept ai (Aq ah (by omega));clear ai ag ah az;by_cases ee:r<R.length
      case' pos=>have db:(r:Int)<(R.length:Int):=by omega
      case' neg=>have db:¬ (r:Int)<(R.length:Int):=by omega
      all_goals
       clear ee;go_wp2;go_roundw
       case rel=>exact⟨N.set s b,R,f,g,c,j+1,by omega,rfl,by go_num,cp,cm,cq,Α ⟨a1.out,by rw[ύ];exact ae.out⟩⟩
       case measure=>simp[intOf];omega
  ·obtain rfl:j=l.length:=by omega
   have ef:Ints wr (Β (Δ ⟨G,0,Γ⟩) E E) N:=OwnI.ints (base:=0) (by
    show ϛ _ _ _ _ _ _ _;rw[H.out.2];exact hN) (by rw[H.out.2];omega)
   have eg:Ints wr (Β (Δ ⟨g,0,Γ⟩) R.length c) R:=OwnI.ints (base:=G+1) hR (by omega);have eh:=Α H.out.2;clear hN hR;go_wp2;go_ret2;exact⟨_,_,N,R,f,rfl,eh.out,H.out.1,ef,eg,aj.out.trans hE⟩
theorem Ad2 {t:Tbl} {l:List Nat} (U:Reached t l) {B E:Nat->Nat} {n:Nat} (h:Refi t l B n) (I:Fp t l B E) {R:List Nat} (D:Blk l E R) (hn:R.length=n) :
  ∀ s∈l,∀ s'∈l,B s=B s'->E s=E s':=λs hs s' M he=>by
 have ae:=(L2 h I D U.ne).2;obtain⟨J,G,h0⟩:=h.num (by omega);have aa:=Uo (λi=>B (R.getD i 0)) R.length λj hj=>by
  have H:j<J.length:=by omega
  refine⟨E (J.getD j 0),D.lt _ (G.mem j H),?_⟩;have h1:=D.rep _ (D.lt _ (G.mem j H));have h2:=((I _ (D.mem _ (D.lt _ (G.mem j H))) _ (G.mem j H)).1 h1).1;show B (R.getD (E (J.getD j 0)) 0)=j;rw[h2,G.rep j H]
 have T:∀ s∈l,B (R.getD (E s) 0)=B s:=λs hs=>
  ((I _ (D.mem _ (D.lt s hs)) _ hs).1 (D.rep _ (D.lt s hs))).1
 exact aa _ _ (D.lt s hs) (D.lt s' M) (by show B (R.getD (E s) 0)=B (R.getD (E s') 0);rw[T s hs,T s' M,he])
theorem Afz {t:Tbl} (hv:TVal t) {l:List Nat} (E:Reached t l) {B N R D:List Nat} {f:List UInt8->Option Nat} (h:OInv t l B D.length) (J:Blk l (λs=>B.getD s 0) D)
  (hi:NInv l (Bu t λs=>B.getD s 0) l.length N R f) (he:R.length=D.length):Blocks t l (λs=>B.getD s 0) D:=by
 obtain⟨H,hs⟩:=Il hi;have I:Fp t l (λs=>B.getD s 0) (λs=>N.getD s 0):=J1 E h.lt hs;have M:=Oc hv E h.refi I H he;exact⟨J,λs hs s' G=>⟨λe=>(M s hs s' G).1 (Ad2 E h.refi I H he s hs s' G e),λe=>h.refi.sound s hs s' G e⟩⟩
theorem Ay {w:Κ} {b i:Nat} {V:Array Ρ} {t:Á} {fr:Nat × Nat} {v:Ρ} (h:w.heap[b]? = Δ (Ε V t fr)) (e:V[i]? = Δ v):w.cell? ⟨b,i,Γ⟩=Δ v:=(Ω w b i _ _ _ h).trans e
def slN:Ρ->Nat
 | Β _ n _=>n
 | _=>0
theorem Amv (t:Tbl) (hv:TVal t) (hn:t.n.length<=65536) (l:List Nat) (hl:Reached t l) (a8:l.length<=65536) (A:Array Ρ) (vl:Ρ) (w:Κ) (h:IsR w A t) (bb:Ints w vl l) :
  Calls Η 100 #[.agg A,vl] w λe w'=>∃ vN H N R,e=ν (ϥ #[vN,H])/\N.length=t.n.length/\Blocks t l (λs=>N.getD s 0) R/\Ints w' vN N/\Ints w' H R/\Ext w w':=by
 obtain⟨bn,on,cn,ba,oa,ca,cz,c1,c2,bx,bz,-,b0⟩:=h.opened hv;obtain⟨al,cl,rfl⟩:=Sl.len bb;obtain⟨i0,hi,c4,c5,c6⟩:=ϕ Cg;have b4:(Η.info? 79).map (·.size)=Δ A.size:=by rw[cz];exact Cp
 have c7:=hv.pos;have HS:=Α (λ(W:Κ) (hW:Ext w W) (B:List Nat) (hB:B.length=t.n.length) (aa:∀ s∈l,B.getD s 0<65536) (vB:Ρ) (I:Ints W vB B)=>Ab1 t hv hn l hl a8 B hB aa A vB _ W (h.ext hW) I (bb.ext hW));have bd:=(Ι w).alloc (Ε A 79);have J:=Α (Ab w (Ε A 79));have b5:=Α (λW (hW:Ext w W) s (hs:s<t.n.length)=>hW.cell (b0 s hs));have HV:=Α hv;have HL:=Α hl;have bf:=Α bx;have b6:=Α bz;clear hv hl h bb b0 c2 c1 bx bz;obtain⟨D,aq⟩:∃ n,t.n.length=n:=⟨_,rfl⟩;have af:=Α aq;rw[aq] at HS b5 bf b6 c7 hn;rw[aq];clear aq;go_enter Tryz.func100,Tryz.ntmps100;go_upto_region 1 with (fail)
 obtain⟨w1,bg⟩:∃ X,w.alloc (Ε A 79)=X:=⟨_,rfl⟩;obtain⟨g0,bh⟩:∃ y,w.heap.size=y:=⟨_,rfl⟩;rw[bg] at bd J;rw[bh] at J;simp only[bg,bh];clear bg bh;have cN:=Ay J.out bf.out;go_upto_region 2 with (at_make;refine ϫ _ rfl _ _ 68 rfl w1.heap.size 3 i0 (.int ζ 0) 1 ϓ hi c4 c5 ζ ζ _ _ D rfl rfl rfl rfl (by rw[c6];omega) (by unfold ϙ;omega) (θ _) ?_;intro w2 b9 cb)
 have cd:Ext w1 w2:=(Ι w1).grown cb (λk e=>by cases e);have ab:w2.ownsRow w1.heap.size 3 1 (Β (Δ ⟨w1.heap.size,0,Γ⟩) D D) D ((δ D 0).map iv):=by
  rw[<-B7];exact b9
 obtain⟨gN,ar⟩:∃ y,w1.heap.size=y:=⟨_,rfl⟩;have c9:Ϻ (w1.heap.size<=gN):=Α (å ar);rw[ar] at ab;simp only[ar];have cf:=Ge ab;have au:=Α bd;clear b9 cb ab ar cN bd;go_wp2_with (fail);go_loopw [7] (λvs W=>∃ (s:Nat) (N:List Nat),s<=D/\vs=.int ζ s/\Ext w1 W/\W.ownsRow 0 3 1 (Β (Δ ⟨gN,0,Γ⟩) D D) D (N.map iv)/\Ϻ (N.length=D/\∀ x,N.getD x 0=if x<s/\t.ok x=Ξ then 1 else 0))
  (λvs _=>D-(intOf vs).toNat)
 case atStart=>exact⟨0,δ D 0,by omega,rfl,cd,cf,Α ⟨Î,λx=>by
  rw[if_neg (by omega),Ζ,List.getElem?_replicate];split<;>rfl⟩⟩
 case round=>
  clear cf cd;obtain⟨s,N,hs,rfl,E,M,G⟩:=hrel;have cN:=Ay (E.heap J.out) bf.out;by_cases bk:s<D
  ·have ec:(s:Int)<(D:Int):=by omega
   have cA:=Ay (E.heap J.out) b6.out;have ca:=b5.out wr (au.out.trans E) s bk;obtain⟨b,I⟩:∃ b,t.ok s=b:=⟨_,rfl⟩;rw[I] at ca;have cg:=Α I;clear I;cases b with
   | false=>
    have ag:Ϻ (N.length=D/\∀ x,N.getD x 0=if x<s+1/\t.ok x=Ξ then 1 else 0):=Α ⟨G.out.1,λx=>by
     rw[G.out.2 x];by_cases e:x=s
     ·subst e;rw[cg.out];simp
     ·by_cases e2:x<s
      ·simp[e2,show x<s+1 by omega]
      ·simp[e2,show ¬ x<s+1 by omega]⟩
    go_wp2;go_roundw
    case rel=>exact⟨s+1,N,by omega,by go_num,E,M,ag⟩
    case measure=>simp[intOf];omega
   | true=>
    have ag:Ϻ ((N.set s 1).length=D/\∀ x,(N.set s 1).getD x 0=if x<s+1/\t.ok x=Ξ then 1 else 0):=Α ⟨by rw[ύ];exact G.out.1,λx=>by
     rw[Bb _ _ _ _ _ (by rw[G.out.1];exact bk),G.out.2 x];by_cases e:x=s
     ·subst e;rw[cg.out];simp
     ·by_cases e2:x<s
      ·simp[e,e2,show x<s+1 by omega]
      ·simp[e,e2,show ¬ x<s+1 by omega]⟩
    have ch:=Α G.out.1;have cn:=Am 0 M ch.out.symm s (by rw[ch.out];exact bk);have fn:=M.frozenAt s;obtain⟨da,cj⟩:=Bj M s 1;have db:=E.grown cj (λk e=>by cases e;exact c9.out);clear cj M E;go_wp2;go_roundw
    case rel=>exact⟨s+1,N.set s 1,by omega,by go_num,db,da,ag⟩
    case measure=>simp[intOf];omega
  ·obtain rfl:D=s:=by omega
   have bl:Ϻ (OInv t l N 0):=Α ⟨by rw[af.out];exact G.out.1,Tu t l _ λx hx=>by
    rw[G.out.2 x];have:=HL.out.lt x hx;rw[af.out] at this;simp[this],λx _=>by rw[G.out.2 x];split<;>omega,by omega⟩
   have bm:Ints wr (Β (Δ ⟨gN,0,Γ⟩) D D) N:=OwnI.ints (base:=0) (by
    show ϛ _ _ _ _ _ _ _;rw[G.out.1];exact M) (by rw[G.out.1];omega)
   have dd:=Α bm;have f134:=Α (HS.out wr (au.out.trans E) N G.out.1 bl.out.lt _ bm);have aw:=Α (E.heap J.out);clear M bm;go_wp2_with (first
    | (refine Υ rfl 79 (η 2) rfl _ rfl _ _ _ _ aw.out Â rfl b4 ?_)
    | (go_at_call 134;(with_reducible refine f134.out.mono ?_);rintro e w3 ⟨vN,H,N1,R1,f1,rfl,ck,cm,ai,T,aj⟩;have cp:=Α ck;have bp:=Α cm;have cq:=Α ai;have ay:=Α T;have cr:=Α (E.trans aj);obtain⟨aR,cR,rfl⟩:=Sl.len T;clear ck cm ai T aj))
   clear f134 dd aw E;have ct:Ϻ (OInv t l N1 R1.length/\Blk l (λs=>N1.getD s 0) R1):=Α (by
    have I:=(Il bp.out).1;have hp:R1.length≠0:=λe=>by
     have:=I.lt _ (List.getElem_mem HL.out.ne);omega
    exact⟨(O0 HV.out HL.out bl.out a8 (by rw[af.out];exact cp.out) bp.out hp).1,I⟩)
   have aj:=cr.out;clear cp bp cr G bl;go_loopw [6,8] (λvB H W=>∃ (B R:List Nat) (aR:Option Addr) (cR:Nat),H=Β aR R.length cR/\Ext w1 W/\Ϻ (Ints W vB B)/\Ϻ (Ints W H R)/\Ϻ (OInv t l B R.length/\Blk l (λs=>B.getD s 0) R))
    (λ_ H _=>l.length-slN H)
   case atStart=>exact⟨N1,R1,aR,cR,rfl,aj,cq,ay,ct⟩
   case round=>
    clear aj cq ay ct;obtain⟨B,R,aR,cR,rfl,E,cu,ay,U⟩:=hrel;have aa:=U.out.1.len;rw[af.out] at aa;have f134:=Α (HS.out wr (au.out.trans E) B aa U.out.1.lt _ cu.out);have aw:=Α (E.heap J.out);have df:=Α aa;clear aa;go_upto_region 9 with (first
     | (refine Υ rfl 79 (η 2) rfl _ rfl _ _ _ _ aw.out Â rfl b4 ?_)
     | (go_at_call 134;(with_reducible refine f134.out.mono ?_);rintro e w4 ⟨vN,H,N2,R2,f2,rfl,ab,cv,ai,T,cw⟩;have ag:=Α ab;have a6:=Α cv;have dg:=Α ai;have dh:=Α T;have br:=Α cw;obtain⟨dk,dm,rfl⟩:=Sl.len T;clear ab cv ai T cw))
    have cx:=E.trans br.out;by_cases he:R2.length=R.length
    ·have dn:=Α (Afz HV.out HL.out U.out.1 U.out.2 a6.out he);have dp:((R2.length:Int)==(R.length:Int))=Ξ:=by simp[he]
     have dq:=Α (cu.out.ext br.out);have dr:=Α (ay.out.ext br.out);clear he E U f134;go_wp2;go_ret2;exact⟨_,_,B,R,rfl,df.out,dn.out,dq.out,dr.out,au.out.trans cx⟩
    ·have dp:((R2.length:Int)==(R.length:Int))=Τ:=by simp;omega
     have bt:=O0 HV.out HL.out U.out.1 a8 (by rw[af.out];exact ag.out) a6.out he;have dt:Ϻ (OInv t l N2 R2.length/\Blk l (λs=>N2.getD s 0) R2):=Α ⟨bt.1,(Il a6.out).1⟩;have eg:=bt.2;have eh:=Jh (Il a6.out).1;clear he E U f134 bt;go_wp2;go_roundw
     case rel=>exact⟨N2,R2,dk,dm,rfl,cx,dg,dh,dt⟩
     case measure=>simp[slN];omega
theorem Xb {κ:Type} {key:Nat->κ} {x:Nat} {c D:Nat->Nat} {bs:List Nat} {f:κ->Option Nat} (h:FInv key x c bs f) (E:∀ y,c y=D y):FInv key x D bs f:=by
 obtain rfl:c=D:=funext E;exact h
theorem W9 {κ:Type} {key:Nat->κ} {x:Nat} {c:Nat->Nat} {bs:List Nat} {f:κ->Option Nat} (h:FInv key x c bs f) (k:κ) (r:Nat) (D:r<bs.length) (E:key (bs.getD r 0)=k):f k=Δ r:=by
 obtain⟨G,H⟩:=h.byte r D;have:=h.has _ G;rw[H,E] at this;exact this
theorem W8 {κ:Type} {key:Nat->κ} {x:Nat} {c:Nat->Nat} {bs:List Nat} {f:κ->Option Nat} (h:FInv key x c bs f) (k:κ) (E:∀ r,r<bs.length->key (bs.getD r 0)≠k):f k=Γ:=by
 cases G:f k with
 | none=>rfl
 | some i=>
  obtain⟨y,D,H,M⟩:=h.from_ k i G;have hi:=h.lt y D;obtain⟨I,J⟩:=h.byte _ hi;exact absurd (((h.same _ _ I D).1 J).trans H.symm) (E _ hi)
structure CInv {κ:Type} (key:Nat->κ) (b:Nat) (C P:List Nat) (f:κ->Option Nat):Prop where
 fi:FInv key b (λx=>C.getD x 0) P f
 len:C.length=256
theorem X4 {κ:Type} (key:Nat->κ):CInv key 0 (δ 256 0) [] (λ_=>Γ):=⟨P4 _ _,Î⟩
theorem X5 {κ:Type} {key:Nat->κ} {b:Nat} {C P:List Nat} {f:κ->Option Nat} (h:CInv key b C P f) (D:b<256) (i:Nat) (hi:f (key b)=Δ i):CInv key (b+1) (C.set b i) P f:=
 ⟨Xb (Mt h.fi i hi) λy=>(Bb _ _ _ _ _ (by rw[h.len];exact D)).symm,by rw[ύ];exact h.len⟩
theorem X6 {κ:Type} [DecidableEq κ] {key:Nat->κ} {b:Nat} {C P:List Nat} {f:κ->Option Nat} (h:CInv key b C P f) (D:b<256) (hi:f (key b)=Γ) :
  CInv key (b+1) (C.set b P.length) (P++[b]) (λp=>if p=key b then Δ P.length else f p):=
 ⟨Xb (P5 h.fi hi) λy=>(Bb _ _ _ _ _ (by rw[h.len];exact D)).symm,by rw[ύ];exact h.len⟩
theorem Mq (f:Nat->Nat) (l:List Nat) (k:Nat) (D:k<l.length):(l.map f).getD k 0=f (l.getD k 0):=by
 simp[Ζ,D]
def Cw (t:Tbl) (C P:List Nat):Tbl:=⟨λb=>C.getD b 0,P.length,(ι t.n.length).map λs=>P.map λp=>t.ent2 s (t.cell p),t.acc⟩
theorem Vy (t:Tbl) (C P:List Nat) (s:Nat) (hs:s<t.n.length):(Cw t C P).n.getD s []=P.map λp=>t.ent2 s (t.cell p):=by
 unfold Cw;simp[Ζ,hs]
theorem Vz (t:Tbl) (C P:List Nat) (s k:Nat) (hs:s<t.n.length) (D:k<P.length):(Cw t C P).ent2 s k=t.ent2 s (t.cell (P.getD k 0)):=by
 unfold Tbl.ent2;rw[Vy t C P s hs,Mq _ _ _ D];rfl
theorem Vx {t:Tbl} (hv:TVal t) {C P:List Nat} {f:Nat->Option Nat} (h:CInv t.cell 256 C P f):TVal (Cw t C P) where
 pos:=by simp[Cw,hv.pos]
 accL:=by simp[Cw,hv.accL]
 row:=λs hs=>by
  have E:s<t.n.length:=by simpa [Cw] using hs
  rw[Vy t C P s E];simp[Cw]
 tgt:=λs hs k D=>by
  have E:s<t.n.length:=by simpa [Cw] using hs
  rw[Vz t C P s k E D];have:=hv.tgt s E _ (hv.cell_lt _ (h.fi.byte k D).1)
  simpa [Cw] using this
 cell_lt:=λb G=>h.fi.lt b G
 onto:=λk D=>⟨_,(h.fi.byte k D).1,(h.fi.byte k D).2⟩
theorem Ah9 {t:Tbl} {C P:List Nat} {f:Nat->Option Nat} (h:CInv t.cell 256 C P f) (s b:Nat) (hs:s<t.n.length) (D:b<256):(Cw t C P).stp s b=t.stp s b:=by
 have E:=h.fi.lt b D;obtain⟨G,H⟩:=h.fi.byte _ E;show (Cw t C P).ent2 s (C.getD b 0)=_;rw[Vz t C P s _ hs E];show _=t.ent2 s (t.cell b);rw[(h.fi.same _ _ G D).1 H]
theorem Aia {t:Tbl} (hv:TVal t) {C P:List Nat} {f:Nat->Option Nat} (h:CInv t.cell 256 C P f) (w:List UInt8):(Cw t C P).has w=t.has w:=by
 have run:∀ (w:List UInt8) (s:Nat),s<t.n.length->(Cw t C P).run s w=t.run s w:=by
  intro w;induction w with
  | nil=>intro s _;rfl
  | cons x w D=>
   intro s hs;show (Cw t C P).run ((Cw t C P).stp s x.toNat) w=t.run (t.stp s x.toNat) w;rw[Ah9 h s _ hs x.toNat_lt,D _ (hv.stp_lt hs x.toNat_lt)]
 show t.acc.getD _ Τ=t.acc.getD _ Τ;rw[run w 0 hv.pos]
theorem Agr {t:Tbl} (hv:TVal t) {B:Nat->Nat} {R:List Nat} (G:∀ i,i<R.length->∀ k,k<t.cells->B (t.ent2 (R.getD i 0) k)<65536) {c:Nat->Nat} {bs:List Nat} {f:List UInt8->Option Nat} {C:List Cls}
  (h:FInv (λy=>Hj t B R (t.cell y)) 256 c bs f) (H:C.length=bs.length) (I:∀ i,i<bs.length->∀ y,y<256->((C.getD i 0#256).getLsbD y=Ξ↔c y=i)):Merged t B R (bs.map t.cell) C:=by
 classical
 have key:∀ k,k<t.cells->∃ y,y<256/\t.cell y=k:=hv.onto
 let g:Nat->Nat:=λk=>if h:∃ y,y<256/\t.cell y=k then c h.choose else 0
 have hg:∀ y,y<256->g (t.cell y)=c y:=λy D=>by
  have he:∃ z,z<256/\t.cell z=t.cell y:=⟨y,D,rfl⟩;show (if h:∃ z,z<256/\t.cell z=t.cell y then c h.choose else 0)=c y;rw[dif_pos he];obtain⟨J,M⟩:=he.choose_spec;exact (h.same _ _ J D).2 (by rw[M])
 refine Vf hv G (c:=c) (f:=f) (O:=(ι t.cells).map λk=>Δ (g k)) ⟨h,by simp,H,λy D=>?_,λk i E=>?_,λi hi y D=>?_⟩
 ·have:=hv.cell_lt y D;simp[Ζ,this,hg y D]
 ·by_cases e:k<t.cells
  ·simp[Ζ,e] at E;obtain⟨y,D,rfl⟩:=key k e;exact⟨y,D,rfl,by rw[<-E,hg y D]⟩
  ·simp[Ζ,e] at E
 ·rw[I i hi y D];exact⟨λe=>⟨D,e⟩,λe=>e.2⟩
def Ci (t:Tbl) (s:Nat):Tbl:=⟨t.cell,t.cells,(t.n.getD s []).map (·+1)::t.n.map λr=>r.map (·+1),t.ok s::t.acc⟩
theorem Mp (l:List Nat) (k:Nat) (D:k<l.length):(l.map (·+1)).getD k 0=l.getD k 0+1:=Mq _ l k D
theorem Py (t:Tbl) (s q:Nat) (D:q<t.n.length):(Ci t s).n.getD (q+1) []=(t.n.getD q []).map (·+1):=by
 simp[Ci,Ζ,D]
theorem Wv {t:Tbl} (hv:TVal t) {s:Nat} (hs:s<t.n.length):TVal (Ci t s) where
 pos:=by simp[Ci]
 accL:=by simp[Ci,hv.accL]
 row:=λq G=>by
  cases q with
  | zero=>show ((t.n.getD s []).map _).length=_;rw[Ϗ];exact hv.row s hs
  | succ q=>
   have D:q<t.n.length:=by simpa [Ci] using G
   rw[Py t s q D,Ϗ];exact hv.row q D
 tgt:=λq G k E=>by
  have H:(Ci t s).n.length=t.n.length+1:=by simp[Ci]
  rw[H];unfold Tbl.ent2;cases q with
  | zero=>
   show ((t.n.getD s []).map (·+1)).getD k 0<_;rw[Mp _ _ (by rw[hv.row s hs];exact E)];have:=hv.tgt s hs k E;unfold Tbl.ent2 at this;omega
  | succ q=>
   have D:q<t.n.length:=by simpa [Ci] using G
   rw[Py t s q D,Mp _ _ (by rw[hv.row q D];exact E)];have:=hv.tgt q D k E;unfold Tbl.ent2 at this;omega
 cell_lt:=hv.cell_lt
 onto:=hv.onto
theorem Aji {t:Tbl} (hv:TVal t) {s:Nat} (hs:s<t.n.length) (w:List UInt8):(Ci t s).has w=t.ok (t.run s w):=by
 have G:∀ q b,q<t.n.length->b<256->(Ci t s).stp (q+1) b=t.stp q b+1:=λq b D E=>by
  show ((Ci t s).n.getD (q+1) []).getD (t.cell b) 0=(t.n.getD q []).getD (t.cell b) 0+1;rw[Py t s q D,Mp _ _ (by rw[hv.row q D];exact hv.cell_lt b E)]
 have H:∀ b,b<256->(Ci t s).stp 0 b=t.stp s b+1:=λb E=>by
  show ((t.n.getD s []).map (·+1)).getD (t.cell b) 0=(t.n.getD s []).getD (t.cell b) 0+1;rw[Mp _ _ (by rw[hv.row s hs];exact hv.cell_lt b E)]
 have r1:∀ (w:List UInt8) (q:Nat),q<t.n.length->(Ci t s).run (q+1) w=t.run q w+1:=by
  intro w;induction w with
  | nil=>intro q _;rfl
  | cons x w I=>
   intro q D;show (Ci t s).run ((Ci t s).stp (q+1) x.toNat) w=t.run (t.stp q x.toNat) w+1;rw[G q _ D x.toNat_lt,I _ (hv.stp_lt D x.toNat_lt)]
 cases w with
 | nil=>rfl
 | cons x w=>
  show (t.ok s::t.acc).getD ((Ci t s).run ((Ci t s).stp 0 x.toNat) w) Τ=t.acc.getD (t.run (t.stp s x.toNat) w) Τ;rw[H _ x.toNat_lt,r1 w _ (hv.stp_lt hs x.toNat_lt)];rfl
theorem Acf {t:Tbl} (hv:TVal t) {q:Nat} (G:q<t.n.length):∀ (n:Nat) (w:List UInt8),w.length<=n->t.ok (t.run q w)=Ξ->∃ u:List UInt8,u.length<=t.n.length/\t.ok (t.run q u)=Ξ:=by
 intro n;induction n with
 | zero=>exact λw H h=>⟨w,by omega,h⟩
 | succ n I=>
  intro w H h;by_cases hs:w.length<=t.n.length
  ·exact⟨w,hs,h⟩
  ·have hd:¬ ((ι (t.n.length+1)).map λi=>t.run q (w.take i)).Nodup:=λhn=>by
    have:=Dy _ (ι t.n.length) hn λx J=>by
     obtain⟨i,_,rfl⟩:=List.mem_map.1 J;exact List.mem_range.2 (hv.run_lt _ G)
    simp only[Ϗ,List.length_range] at this;omega
   rw[List.nodup_iff_pairwise_ne,ϯ] at hd;have:∃ i j,i<j/\j<=t.n.length/\t.run q (w.take i)=t.run q (w.take j):=ϩ λM=>hd λi j hi D E he=>by
    simp at hi D he;exact M ⟨i,j,E,by omega,he⟩
   obtain⟨i,j,E,D,he⟩:=this;refine I (w.take i++w.drop j) (by rw[Ο,List.length_take,List.length_drop,Nat.min_eq_left (by omega)];omega) ?_;rw[Ct,he,<-Ct,List.take_append_drop];exact h
structure LvInv (t:Tbl) (r s k:Nat) (L:List Bool):Prop where
 len:L.length=t.n.length
 sound:∀ q,L.getD q Τ=Ξ->∃ w,t.ok (t.run q w)=Ξ
 comp:∀ q,q<t.n.length->∀ w:List UInt8,w.length<=r->t.ok (t.run q w)=Ξ->L.getD q Τ=Ξ
 rows:∀ q,q<s->∀ w:List UInt8,w.length<=r+1->t.ok (t.run q w)=Ξ->L.getD q Τ=Ξ
 cols:∀ c,c<k->∀ w:List UInt8,w.length<=r->t.ok (t.run (t.ent2 s c) w)=Ξ->L.getD s Τ=Ξ
theorem Ag5 {t:Tbl} (hv:TVal t):LvInv t 0 0 0 t.acc where
 len:=hv.accL
 sound:=λq h=>⟨[],h⟩
 comp:=λq _ w D h=>by
  obtain rfl:w=[]:=List.eq_nil_of_length_eq_zero (by omega);exact h
 rows:=λq E=>by omega
 cols:=λc G=>by omega
theorem Ag9 {t:Tbl} (hv:TVal t) {r s k:Nat} {L:List Bool} (h:LvInv t r s k L) (hs:s<t.n.length) (I:k<t.cells):LvInv t r s (k+1) (L.set s (L.getD s Τ||L.getD (t.ent2 s k) Τ)):=by
 have G:s<L.length:=by rw[h.len];exact hs
 have H:∀ q,L.getD q Τ=Ξ->(L.set s (L.getD s Τ||L.getD (t.ent2 s k) Τ)).getD q Τ=Ξ:=λq D=>by
  rw[Bb _ _ _ _ _ G];split
  ·rename_i e;subst e;rw[D];rfl
  ·exact D
 refine⟨by rw[ύ];exact h.len,λq D=>?_,λq D w E he=>H q (h.comp q D w E he),λq D w E he=>H q (h.rows q D w E he),λc M w E he=>?_⟩
 ·rw[Bb _ _ _ _ _ G] at D;split at D
  ·rename_i e;subst e
   rw[Bool.or_eq_true] at D;rcases D with D|D
   ·exact h.sound q D
   ·obtain⟨w,E⟩:=h.sound _ D;obtain⟨b,J,rfl⟩:=hv.onto k I;exact⟨χ b::w,by
     show t.ok (t.run (t.stp q (χ b).toNat) w)=Ξ;rw[u8n b J];exact E⟩
  ·exact h.sound q D
 ·by_cases e:c=k
  ·subst e;rw[Bb _ _ _ _ _ G,if_pos rfl,h.comp _ (hv.tgt s hs c I) w E he,Bool.or_true]
  ·exact H s (h.cols c (by omega) w E he)
theorem Ag6 {t:Tbl} (hv:TVal t) {r s:Nat} {L:List Bool} (h:LvInv t r s t.cells L) (hs:s<t.n.length):LvInv t r (s+1) 0 L where
 len:=h.len
 sound:=h.sound
 comp:=h.comp
 rows:=λq E w D he=>by
  by_cases e:q=s
  ·subst e;cases w with
   | nil=>exact h.comp q hs [] (by simp) he
   | cons x w=>exact h.cols (t.cell x.toNat) (hv.cell_lt _ x.toNat_lt) w (by simpa using D) he
  ·exact h.rows q (by omega) w D he
 cols:=λc G=>by omega
theorem Ag7 {t:Tbl} {r:Nat} {L:List Bool} (h:LvInv t r t.n.length 0 L):LvInv t (r+1) 0 0 L where
 len:=h.len
 sound:=h.sound
 comp:=h.rows
 rows:=λq D=>by omega
 cols:=λc E=>by omega
theorem Ag8 {t:Tbl} (hv:TVal t) {L:List Bool} (h:LvInv t t.n.length 0 0 L) (q:Nat) (D:q<t.n.length):L.getD q Τ=Ξ↔∃ w,t.ok (t.run q w)=Ξ:=
 ⟨h.sound q,fun⟨w,E⟩=>by
  obtain⟨u,hu,he⟩:=Acf hv D w.length w (θ _) E;exact h.comp q D u hu he⟩
def K6 (t:Tbl) (L:List Bool):Tbl:=⟨t.cell,t.cells,t.n,L⟩
theorem Anh {t:Tbl} (hv:TVal t) {L:List Bool} (h:L.length=t.n.length):TVal (K6 t L):=⟨hv.pos,h,hv.row,hv.tgt,hv.cell_lt,hv.onto⟩
theorem Ani (t:Tbl) (L:List Bool) (w:List UInt8):(K6 t L).has w=L.getD (t.run 0 w) Τ:=rfl
theorem Ahl {t:Tbl} (hv:TVal t) {L:List Bool} (h:LvInv t t.n.length 0 0 L) (w:List UInt8):(K6 t L).has w=Ξ↔∃ u,t.has (w++u)=Ξ:=by
 rw[Ani,Ag8 hv h _ (hv.run_lt w hv.pos)];unfold Tbl.has;constructor
 ·rintro⟨u,hu⟩;exact⟨u,by rw[Ct];exact hu⟩
 ·rintro⟨u,hu⟩;exact⟨u,by rw[Ct] at hu;exact hu⟩
theorem Adt {fn:Func} {p u:Tmp} {ty:Á} (h:fn.results=#[.tmp u,.cell p ty]) (D:Array Ρ) (P:Program) (w:Κ) :
  (results fn D).run P w =
   ((asAddr (D.getD p ς)).run P w).andThen λa E=>((loadVar ty a).run P E).andThen λv G=>.ok (ϥ #[D.getD u ς,v]) G:=by
 simp only[results,h];simp[Sem.run_bind,Result.andThen]
theorem Adu {P:Program} {fn:Func} {p u:Tmp} {ty:Á} (h:fn.results=#[.tmp u,.cell p ty]) (D:Array Ρ) (w:Κ) (g:Nat) (t:Á) (cs:Array Ρ) (fr:Nat × Nat) (d:TypeDesc)
  (E:D.getD p ς=γ (Δ ⟨g,0,Γ⟩)) (v:Ρ) (G:D.getD u ς=v) (hg:w.heap[g]? = Δ (Ε cs t fr))
  (hu:P.underlying ty=Δ d) (hd:(match d with|.struct _|.array _ _=>Ξ|_=>Τ)=Ξ) (hi:(P.info? ty).map (·.size)=Δ cs.size) :
  (results fn D).run P w=.ok (ϥ #[v,.agg cs]) w:=by
 rw[Adt h,E,G];simp[asAddr,run_loadVar_row w g t ty cs fr d hg hu hd hi,Result.andThen]
theorem Ame:Η.built 77 []=Δ (Au λ_=>0):=by kernel_rfl
theorem Ait (ρ:ϻ->Ρ) (o:Oper) (W:Κ) (x y:ϻ) (b k:Nat) (H:k<256) (D:o.op=.indexAddr 77 x y) (E:ρ x=γ (Δ ⟨b,0,Γ⟩)) (G:ρ y=.int ζ k):(Ú ρ o).run Η W=.ok (.value (γ (Δ ⟨b,k,Γ⟩))) W:=by
 have I:(k:Int)<256:=by omega
 unfold Ú;simp only[D,E,G];go_simp
def E7 {w:Κ} (x y:ϻ) (b k:Nat) (E:k<256):Sc Η w:=
 .gen (.indexAddr 77 x y) [.c (γ (Δ ⟨b,0,Γ⟩)),.c (.int ζ k)] (.c (γ (Δ ⟨b,k,Γ⟩))) (AV.mono_c _) λρ o W G _ D=>⟨_,Ait ρ o W x y b k E G (C6 D).1 (C6 D).2,rfl⟩
theorem Ahg (ρ:ϻ->Ρ) (o:Oper) (W:Κ) (x y:ϻ) (a b:Int) (D:o.op=.binOp .lss 3 x y 3) (E:ρ x=.int ζ a) (G:ρ y=.int ζ b):(Ú ρ o).run Η W=.ok (.value (.bool (decide (a<b)))) W:=by
 unfold Ú;simp only[D,E,G];go_simp
def Gk {w:Κ} (x y:ϻ) (a b:Int) (r:Bool) (E:decide (a<b)=r):Sc Η w:=
 .gen (.binOp .lss 3 x y 3) [.c (.int ζ a),.c (.int ζ b)] (.c (.bool r)) (AV.mono_c _) λρ o W G _ D=>⟨_,Ahg ρ o W x y a b G (C6 D).1 (C6 D).2,by rw[E];rfl⟩
def Dl (t:Tbl) (B R:List Nat) (b:Nat):List UInt8:=Bh (λi=>B.getD (t.stp (R.getD i 0) b) 0) R.length
theorem Aim (t:Tbl) (B R:List Nat) (h:∀ i,i<R.length->∀ b,b<256->B.getD (t.stp (R.getD i 0) b) 0<65536) (b b':Nat) (E:b<256) (G:b'<256) :
  Dl t B R b=Dl t B R b'↔∀ i,i<R.length->B.getD (t.stp (R.getD i 0) b) 0=B.getD (t.stp (R.getD i 0) b') 0:=
 Kr _ _ _ (λk D=>h k D b E) (λk D=>h k D b' G)
theorem Alv (t:Tbl) (hv:TVal t) (hn:t.n.length<=65536) (B:List Nat) (hB:B.length=t.n.length) (R:List Nat) (gp:0<R.length) (ih:R.length<=65536) (hR:∀ i,i<R.length->R.getD i 0<t.n.length)
  (e6:∀ i,i<R.length->∀ b,b<256->B.getD (t.stp (R.getD i 0) b) 0<65536) (A:Array Ρ) (vB vR:Ρ) (w:Κ) (h:IsR w A t) (hb:Ints w vB B) (hr:Ints w vR R) :
  Calls Η 102 #[.agg A,vB,vR] w λe w'=>∃ vP P C f,e=ν (ϥ #[vP,.agg (Au λb=>C.getD b 0)])/\CInv (Dl t B R) 256 C P f/\Ints w' vP P/\Ext w w':=by
 obtain⟨bn,on,cn,ba,oa,ca,gr,gu,e9,fa,gv,fb,-⟩:=h.opened hv;obtain⟨M,T,cb,rfl,fc⟩:=ä hb (by rw[hB];exact hv.pos);obtain⟨br,az,cr,rfl,fe⟩:=ä hr gp;obtain⟨i0,hi,gx,gy,gz⟩:=ϕ Cg;have im:(Η.info? 79).map (·.size)=Δ A.size:=by rw[gr];exact Cp
 have iq:=hv.cle;have bt:=((Ι w).alloc (Ε A 79)).alloc (Ε ώ 77);have H0:=Ag (Ab w (Ε A 79)) (Ε ώ 77);have H1:=Ϙ w (Ε A 79) (Ε ώ 77);have du:=Α (λW (G:Ext w W) j (hj:j<B.length)=>G.cell (fc j (by omega)));have hf:=Α (λW (G:Ext w W) j (hj:j<R.length)=>G.cell (fe j (by omega)));have ff:=Α (λW (G:Ext w W)=>fb.ext G);have da:=Α e9;have fg:=Α fa;have HV:=Α hv;have fh:=Α hR;have fj:=Α (Aim t B R e6);clear hb hr h fb fc fe e9 fa gv gu hR e6 hv;obtain⟨nn,dv⟩:∃ n,t.n.length=n:=⟨_,rfl⟩;have dw:=Α dv;rw[dv] at hB fg ff fh hn;rw[hB] at du;rw[hB];clear dv hB;go_enter Tryz.func102,Tryz.ntmps102;go_upto_region 1 with (fail)
 obtain⟨w1,dx⟩:∃ X,(w.alloc (Ε A 79)).alloc (Ε ώ 77)=X:=⟨_,rfl⟩;rw[dx] at bt H0 H1;simp only[dx];clear dx;obtain⟨D,dc⟩:∃ y,w.heap.size=y:=⟨_,rfl⟩;have hh:Ϻ (w.heap.size<=D):=Α (å dc);rw[dc] at H0 H1;simp only[dc];clear dc;obtain⟨g7,dy⟩:∃ y,D+1=y:=⟨_,rfl⟩;have hl:Ϻ (w.heap.size<=g7):=Α (by have:=hh.out;omega);rw[dy] at H1;simp only[dy];clear dy;have H1:w1.heap[g7]? = Δ (Ε (Au λ_=>0) 77 (0,0)):=by rw[H1,F6]
 go_upto_region 2 with (fail)
 have cf:=(Ι w1).alloc (Ε #[] 3);obtain⟨g8,cg⟩:∃ y,w1.heap.size=y:=⟨_,rfl⟩;have fk:Ϻ (w1.heap.size<=g8/\g8<=w1.heap.size):=Α ⟨å cg,å cg.symm⟩;have dd:=Ô (base:=w1.heap.size) (e:=3) (size:=1) w1 #[] 0 (θ _) (by unfold ϙ;omega) rfl;rw[cg] at dd;simp only[cg];obtain⟨w2,ea⟩:∃ X,w1.alloc (Ε #[] 3)=X:=⟨_,rfl⟩;rw[ea] at cf dd;simp only[ea];clear ea cg;obtain⟨A9,bu⟩:∃ A9,Au (λ_=>0)=A9:=⟨_,rfl⟩;have ho:Ϻ (Η.built 77 []=Δ A9):=Α (by rw[Ame,bu]);have fl:ώ.size=A9.size:=by rw[F6,bu]
 have fm:(Η.info? 77).map (·.size)=Δ A9.size:=by rw[<-bu,C3];exact Fj
 have fo:A9.all (·.oneCell')=Ξ:=by rw[<-bu];exact Hl _
 have hp:=Α bu;have H0:=Α H0;have H1:=Α H1;clear bu;go_upto_region 3 with (first
  | (refine B3 rfl 77 _ rfl A9 ?_ ?_;(simp[Act.eval];with_reducible exact ho.out))
  | (refine wpList_store_row rfl 77 (η 9) (η 17) rfl _ A9 rfl rfl _ _ (Ab w2 (Ε ώ 77)) fm fl fo ?_))
 have de:=(cf.alloc (Ε ώ 77)).setRow (g:=w2.heap.size) cf.size A9;have H9:=μ (w2.alloc (Ε ώ 77)) w2.heap.size _ A9 _ _ (Ab w2 _);have bc:=Ah dd (((Ι w2).alloc (Ε ώ 77)).setRow (g:=w2.heap.size) (θ _) A9);obtain⟨w3,df⟩:∃ X,(w2.alloc (Ε ώ 77)).setRow w2.heap.size A9=X:=⟨_,rfl⟩;obtain⟨U,eb⟩:∃ y,w2.heap.size=y:=⟨_,rfl⟩;have fq:Ϻ (w1.heap.size<=U):=Α (by have:=cf.size;omega);rw[eb] at H9 de bc df;rw[df] at de H9 bc;simp only[eb];simp only[df];clear df eb dd cf fl fm fo;have H9:Ϻ (w3.heap[U]? = Δ (Ε (Au λx=>(δ 256 0).getD x 0) 77 (0,0))):=Α (by
  rw[H9,<-hp.out]
  congr 2)
 have bc:=Ge bc;have bc:w3.ownsRow g8 3 1 (Β (Δ ⟨g8,0,Γ⟩) 0 0) 0 []:=by
  obtain⟨h0,h|⟨g,ht,cur,hv,hb,h⟩⟩:=bc
  ·exact⟨h0,.inl h⟩
  ·refine⟨h0,.inr ⟨g,ht,cur,hv,?_,h⟩⟩;injection hv with hv
   injection hv with hv
   injection hv with hv
   exact å hv
 go_wp2_with (fail);go_loopw [8,10] (λvP vj W=>∃ (C P:List Nat) (f:List UInt8->Option Nat) (g c b:Nat),b<=256/\vP=Β (Δ ⟨g,0,Γ⟩) P.length c/\vj=.int ζ b/\Ext w1 W/\W.ownsRow g8 3 1 (Β (Δ ⟨g,0,Γ⟩) P.length c) P.length (P.map iv)/\Ϻ (W.heap[U]? = Δ (Ε (Au λx=>C.getD x 0) 77 (0,0)))/\Ϻ (CInv (Dl t B R) b C P f))
  (λ_ vj _=>256-(intOf vj).toNat)
 case atStart=>exact⟨δ 256 0,[],λ_=>Γ,g8,0,0,by omega,rfl,rfl,de,bc,H9,Α (X4 _)⟩
 case round=>
  clear de bc H9;obtain⟨C,P,f,g,c,b,hb,rfl,rfl,hE,hP,H9,HI⟩:=hrel;have ir:=HI.out.fi.le;by_cases aa:b<256
  ·have iu:(b:Int)<256:=by omega
   have ed:=Α hP;have hz:Ϻ (∀ r,r<P.length->P.getD r 0<256):=Α λr hr=>by
    have:=(HI.out.fi.byte r hr).1;omega
   clear hP;go_wp2_with (fail);go_loopw [11,12] (λvq vr W=>∃ (r q:Nat),r<=P.length/\q<=P.length/\vq=.int ζ q/\vr=.int ζ r/\Ext wr W/\Ϻ ((q=P.length/\∀ x,x<r->Dl t B R (P.getD x 0)≠Dl t B R b)\/(q<P.length/\Dl t B R (P.getD q 0)=Dl t B R b)))
    (λ_ vr _=>P.length-(intOf vr).toNat)
   case atStart=>exact⟨0,P.length,by omega,by omega,rfl,rfl,Ι wr,Α (.inl ⟨rfl,λq hq=>by omega⟩)⟩
   case round=>
    obtain⟨r,q,hr,hq,rfl,rfl,ab,HB⟩:=hrel;by_cases ef:r<P.length/\q=P.length
    ·obtain⟨a6,rfl⟩:=ef;have fu:(r:Int)<(P.length:Int):=by omega
     have fv:Ϻ (∀ x,x<r->Dl t B R (P.getD x 0)≠Dl t B R b):=Α (by
      rcases HB.out with⟨_,h⟩|⟨h,_⟩
      ·exact h
      ·exact absurd h (Nat.lt_irrefl _))
     clear HB;obtain⟨E,eg⟩:∃ x,P.getD r 0=x:=⟨_,rfl⟩;have aq:=hz.out r a6;rw[eg] at aq;have bz:=Α eg;clear eg;go_wp2_with (fail);go_loopw [13,14] (λvs vi W=>∃ (i:Nat) (sm:Bool),i<=R.length/\vs=.bool sm/\vi=.int ζ i/\Ext wr W/\Ϻ ((sm=Ξ/\∀ x,x<i->B.getD (t.stp (R.getD x 0) b) 0=B.getD (t.stp (R.getD x 0) E) 0)\/(sm=Τ/\Dl t B R b≠Dl t B R E)))
      (λ_ vi _=>R.length-(intOf vi).toNat)
     case atStart=>exact⟨0,Ξ,by omega,rfl,rfl,Ι wr,Α (.inl ⟨rfl,λq hq=>by omega⟩)⟩
     case round=>
      obtain⟨i,sm,iw,rfl,rfl,bh,HS⟩:=hrel;obtain⟨H,ei⟩:∃ x,t.cell b=x:=⟨_,rfl⟩;obtain⟨kp,ej⟩:∃ x,t.cell E=x:=⟨_,rfl⟩;have dh:=Α ei;have dk:=Α ej;have bj:=hE.trans (ab.trans bh);have qb:=λW (G:Ext wr W)=>Ay ((bj.trans G).heap H0.out) (da.out b aa)
      have qk:=λW (G:Ext wr W)=>Ay ((bj.trans G).heap H0.out) (da.out E aq)
      have qp:=λW (G:Ext wr W)=>Am 0 (Ah ed.out (ab.trans (bh.trans G))) rfl r a6
      rw[ei] at qb;rw[ej] at qk;rw[bz.out] at qp;clear ei ej;have cj:Ϻ (∀ W,Ext wr W->True):=Α λ_ _=>trivial
      go_upto_region 12 with (fail)
      by_cases bk:i<R.length/\sm=Ξ/\H≠kp
      ·obtain⟨ah,rfl,ek⟩:=bk;have h4:Ϻ (∀ x,x<i->B.getD (t.stp (R.getD x 0) b) 0=B.getD (t.stp (R.getD x 0) E) 0):=Α (by
        rcases HS.out with⟨_,h⟩|⟨h,_⟩
        ·exact h
        ·cases h)
       clear HS;refine Dv 106 Ξ [iv i,Β (Δ ⟨br,az,Γ⟩) R.length cr,iv R.length,.bool Ξ,.bool Ξ,.bool Ξ,.bool Ξ,.bool Ξ,iv b,γ (Δ ⟨D,0,Γ⟩),γ (Δ ⟨D,b,Γ⟩),iv H,Β (Δ ⟨g,0,Γ⟩) P.length c,iv r,γ (Δ ⟨g,r,Γ⟩),iv E,γ (Δ ⟨D,0,Γ⟩),γ (Δ ⟨D,E,Γ⟩),iv kp,.bool Ξ,.bool Ξ] [.keep,.keep,.pure,Gk (η 36) (η 38) i R.length Ξ (by simp;try omega),.keep,.keep,.pure,.keep,.keep,.pure,E7 (η 45) (η 44) D b aa,ld3 (η 46) D b _ qb,.keep,.keep,Gl (η 48) (η 49) g P.length c r a6,ld3 (η 50) g r _ qp,.pure,E7 (η 52) (η 51) D E aq,ld3 (η 53) D E _ qk,Io (η 47) (η 54) H kp Ξ (by simp;try omega),.pure] (λ_=>by kernel_rfl) (by kernel_rfl) rfl rfl (λW=>by kernel_rfl) (by kernel_rfl) ?_;intro W G;simp only[Bz,Ϛ,Θ,Χ,Ψ];have bl:=bh.trans G;clear G qb qk qp bj cj;go_upto_region 14 with (fail)
       obtain⟨s,hs⟩:∃ x,R.getD i 0=x:=⟨_,rfl⟩;have ck:=fh.out i ah;rw[hs] at ck;have cl:=hE.trans (ab.trans bl);obtain⟨b2,J,c2,fw,fx⟩:=ff.out _ (bt.trans cl) s ck;have fy:=Α fx;have qn:=λW' (I:Ext W W')=>Ay ((cl.trans I).heap H0.out) fg.out
       have qs:=λW' (I:Ext W W')=>hf.out W' (bt.trans (cl.trans I)) i ah
       rw[hs] at qs;have qr:=λW' (I:Ext W W')=>I.cell fw
       have gb:=Α hs;clear fx hs;refine Dv 106 Ξ [γ (Δ ⟨D,256,Γ⟩),Β (Δ ⟨bn,on,Γ⟩) nn cn,Β (Δ ⟨br,az,Γ⟩) R.length cr,iv i,γ (Δ ⟨br,az+i,Γ⟩),iv s,γ (Δ ⟨bn,on+s,Γ⟩),Β (Δ ⟨b2,J,Γ⟩) t.cells c2,Β (Δ ⟨b2,J,Γ⟩) t.cells c2] [.pure,Iv (η 59) D 256 _ qn,.keep,.keep,Cx (η 61) (η 62) br az R.length cr i ah,ld3 (η 63) br (az+i) _ qs,Iw (η 60) (η 64) bn on nn cn s ck,Iu (η 65) bn (on+s) _ qr,.keep] (λ_=>by kernel_rfl) (by kernel_rfl) rfl rfl (λW=>by kernel_rfl) (by kernel_rfl) ?_;intro W2 cm;simp only[Bz,Ϛ,Θ,Χ,Ψ];have ai:=bl.trans cm;clear qn qs qr fw;go_upto_region 15 with (fail)
       have b0:=hE.trans (ab.trans ai);have bo:H<t.cells:=by rw[<-dh.out];exact HV.out.cell_lt b aa
       have dm:kp<t.cells:=by rw[<-dk.out];exact HV.out.cell_lt E aq
       have cp:=HV.out.tgt s (by rw[dw.out];exact ck) H bo;have cq:=HV.out.tgt s (by rw[dw.out];exact ck) kp dm;rw[dw.out] at cp cq;have e0:=λW' (I:Ext W2 W')=>(cm.trans I).cell (fy.out H bo)
       have e1:=λW' (I:Ext W2 W')=>(cm.trans I).cell (fy.out kp dm)
       obtain⟨y0,eo⟩:∃ y,t.ent2 s H=y:=⟨_,rfl⟩;obtain⟨y1,ep⟩:∃ y,t.ent2 s kp=y:=⟨_,rfl⟩;rw[eo] at e0 cp;rw[ep] at e1 cq;have f0:=λW' (I:Ext W2 W')=>du.out W' (bt.trans (b0.trans I)) y0 cp
       have f1:=λW' (I:Ext W2 W')=>du.out W' (bt.trans (b0.trans I)) y1 cq
       obtain⟨z0,er⟩:∃ y,B.getD y0 0=y:=⟨_,rfl⟩;obtain⟨z1,et⟩:∃ y,B.getD y1 0=y:=⟨_,rfl⟩;rw[er] at f0;rw[et] at f1;have qb:=λW' (I:Ext W2 W')=>Ay ((b0.trans I).heap H0.out) (da.out b aa)
       have qk:=λW' (I:Ext W2 W')=>Ay ((b0.trans I).heap H0.out) (da.out E aq)
       have qp:=λW' (I:Ext W2 W')=>Am 0 (Ah ed.out (ab.trans (ai.trans I))) rfl r a6
       rw[dh.out] at qb;rw[dk.out] at qk;rw[bz.out] at qp;have gd:Ϻ (B.getD (t.stp (R.getD i 0) b) 0=z0):=Α (by rw[gb.out];unfold Tbl.stp;rw[dh.out,eo,er]);have gf:Ϻ (B.getD (t.stp (R.getD i 0) E) 0=z1):=Α (by rw[gb.out];unfold Tbl.stp;rw[dk.out,ep,et]);clear eo ep er et;by_cases dn:z0=z1
       ·have eu:Ϻ (∀ x,x<i+1->B.getD (t.stp (R.getD x 0) b) 0=B.getD (t.stp (R.getD x 0) E) 0):=Α λx hx=>by
         by_cases e:x=i
         ·rw[e,gd.out,gf.out,dn]
         ·exact h4.out x (by omega)
        refine Dv 106 Ξ [Β (Δ ⟨M,T,Γ⟩) nn cb,Β (Δ ⟨b2,J,Γ⟩) t.cells c2,iv b,γ (Δ ⟨D,0,Γ⟩),γ (Δ ⟨D,b,Γ⟩),iv H,γ (Δ ⟨b2,J+H,Γ⟩),iv y0,γ (Δ ⟨M,T+y0,Γ⟩),iv z0,Β (Δ ⟨M,T,Γ⟩) nn cb,Β (Δ ⟨b2,J,Γ⟩) t.cells c2,Β (Δ ⟨g,0,Γ⟩) P.length c,iv r,γ (Δ ⟨g,r,Γ⟩),iv E,γ (Δ ⟨D,0,Γ⟩),γ (Δ ⟨D,E,Γ⟩),iv kp,γ (Δ ⟨b2,J+kp,Γ⟩),iv y1,γ (Δ ⟨M,T+y1,Γ⟩),iv z1,.bool Ξ,.bool Ξ] [.keep,.keep,.keep,.pure,E7 (η 70) (η 69) D b aa,ld3 (η 71) D b _ qb,Cx (η 68) (η 72) b2 J t.cells c2 H bo,ld3 (η 73) b2 (J+H) _ e0,Cx (η 67) (η 74) M T nn cb y0 cp,ld3 (η 75) M (T+y0) _ f0,.keep,.keep,.keep,.keep,Gl (η 79) (η 80) g P.length c r a6,ld3 (η 81) g r _ qp,.pure,E7 (η 83) (η 82) D E aq,ld3 (η 84) D E _ qk,Cx (η 78) (η 85) b2 J t.cells c2 kp dm,ld3 (η 86) b2 (J+kp) _ e1,Cx (η 77) (η 87) M T nn cb y1 cq,ld3 (η 88) M (T+y1) _ f1,Qe (η 76) (η 89) z0 z1 Ξ (by simp;try omega),.keep] (λ_=>by kernel_rfl) (by kernel_rfl) rfl rfl (λW=>by kernel_rfl) (by kernel_rfl) ?_;intro W3 cv;simp only[Bz,Ϛ,Θ,Χ,Ψ];have aj:=ai.trans cv;clear cv cm e0 e1 f0 f1 qb qk qp dn bl ai cl b0;go_wp2;go_roundw
        case rel=>exact⟨i+1,Ξ,by omega,rfl,by go_num,aj,Α (.inl ⟨rfl,eu.out⟩)⟩
        case measure=>simp[intOf];omega
       ·have eu:Ϻ (Dl t B R b≠Dl t B R E):=Α λe=>by
         have:=(fj.out b E aa aq).1 e i ah;rw[gd.out,gf.out] at this;exact dn this
        refine Dv 106 Ξ [Β (Δ ⟨M,T,Γ⟩) nn cb,Β (Δ ⟨b2,J,Γ⟩) t.cells c2,iv b,γ (Δ ⟨D,0,Γ⟩),γ (Δ ⟨D,b,Γ⟩),iv H,γ (Δ ⟨b2,J+H,Γ⟩),iv y0,γ (Δ ⟨M,T+y0,Γ⟩),iv z0,Β (Δ ⟨M,T,Γ⟩) nn cb,Β (Δ ⟨b2,J,Γ⟩) t.cells c2,Β (Δ ⟨g,0,Γ⟩) P.length c,iv r,γ (Δ ⟨g,r,Γ⟩),iv E,γ (Δ ⟨D,0,Γ⟩),γ (Δ ⟨D,E,Γ⟩),iv kp,γ (Δ ⟨b2,J+kp,Γ⟩),iv y1,γ (Δ ⟨M,T+y1,Γ⟩),iv z1,.bool Τ,.bool Τ] [.keep,.keep,.keep,.pure,E7 (η 70) (η 69) D b aa,ld3 (η 71) D b _ qb,Cx (η 68) (η 72) b2 J t.cells c2 H bo,ld3 (η 73) b2 (J+H) _ e0,Cx (η 67) (η 74) M T nn cb y0 cp,ld3 (η 75) M (T+y0) _ f0,.keep,.keep,.keep,.keep,Gl (η 79) (η 80) g P.length c r a6,ld3 (η 81) g r _ qp,.pure,E7 (η 83) (η 82) D E aq,ld3 (η 84) D E _ qk,Cx (η 78) (η 85) b2 J t.cells c2 kp dm,ld3 (η 86) b2 (J+kp) _ e1,Cx (η 77) (η 87) M T nn cb y1 cq,ld3 (η 88) M (T+y1) _ f1,Qe (η 76) (η 89) z0 z1 Τ (by simp;try omega),.keep] (λ_=>by kernel_rfl) (by kernel_rfl) rfl rfl (λW=>by kernel_rfl) (by kernel_rfl) ?_;intro W3 cv;simp only[Bz,Ϛ,Θ,Χ,Ψ];have aj:=ai.trans cv;clear cv cm e0 e1 f0 f1 qb qk qp dn bl ai cl b0;go_wp2;go_roundw
        case rel=>exact⟨i+1,Τ,by omega,rfl,by go_num,aj,Α (.inr ⟨rfl,eu.out⟩)⟩
        case measure=>simp[intOf];omega
      ·have dq:Ϻ (sm=Ξ↔Dl t B R b=Dl t B R E):=Α ⟨λe=>(fj.out b E aa aq).2 λx hx=>(by
        rcases HS.out with⟨_,h⟩|⟨h,_⟩
        ·by_cases ah:i<R.length
         ·have ek:H=kp:=ϩ λh=>bk ⟨ah,e,h⟩
          unfold Tbl.stp;rw[dh.out,dk.out,ek]
         ·exact h x (by omega)
        ·rw[e] at h;cases h),λe=>(by
        rcases HS.out with⟨h,_⟩|⟨_,h⟩
        ·exact h
        ·exact absurd e h)⟩
       clear HS;by_cases ah:i<R.length
       ·cases sm with
        | false=>
         refine Dv 106 Ξ [iv i,Β (Δ ⟨br,az,Γ⟩) R.length cr,iv R.length,.bool Ξ,.bool Ξ,.bool Τ,.bool Τ,.bool Τ,ς,ς,ς,ς,ς,ς,ς,ς,ς,ς,ς,ς,.bool Τ] [.keep,.keep,.pure,Gk (η 36) (η 38) i R.length Ξ (by simp;try omega),.keep,.keep,.pure,.keep,.skip,.skip,.skip,.skip,.skip,.skip,.skip,.skip,.skip,.skip,.skip,.skip,.pure] (λ_=>by kernel_rfl) (by kernel_rfl) rfl rfl (λW=>by kernel_rfl) (by kernel_rfl) ?_;intro W G;simp only[Bz,Ϛ,Θ,Χ,Ψ];have aj:=ab.trans (bh.trans G);clear G bk ah qb qk qp bj cj;go_wp2;go_roundw
         case rel=>exact⟨r+1,P.length,by omega,by omega,rfl,by go_num,aj,Α (.inl ⟨rfl,λx hx=>by
          by_cases e:x=r
          ·rw[e,bz.out];exact λh=>by
            have h2:=dq.out.2 h.symm;cases h2
          ·exact fv.out x (by omega)⟩)⟩
         case measure=>simp[intOf];omega
        | true=>
         have ek:H=kp:=ϩ λh=>bk ⟨ah,rfl,h⟩
         refine Dv 106 Ξ [iv i,Β (Δ ⟨br,az,Γ⟩) R.length cr,iv R.length,.bool Ξ,.bool Ξ,.bool Ξ,.bool Ξ,.bool Ξ,iv b,γ (Δ ⟨D,0,Γ⟩),γ (Δ ⟨D,b,Γ⟩),iv H,Β (Δ ⟨g,0,Γ⟩) P.length c,iv r,γ (Δ ⟨g,r,Γ⟩),iv E,γ (Δ ⟨D,0,Γ⟩),γ (Δ ⟨D,E,Γ⟩),iv kp,.bool Τ,.bool Τ] [.keep,.keep,.pure,Gk (η 36) (η 38) i R.length Ξ (by simp;try omega),.keep,.keep,.pure,.keep,.keep,.pure,E7 (η 45) (η 44) D b aa,ld3 (η 46) D b _ qb,.keep,.keep,Gl (η 48) (η 49) g P.length c r a6,ld3 (η 50) g r _ qp,.pure,E7 (η 52) (η 51) D E aq,ld3 (η 53) D E _ qk,Io (η 47) (η 54) H kp Τ (by simp;try omega),.pure] (λ_=>by kernel_rfl) (by kernel_rfl) rfl rfl (λW=>by kernel_rfl) (by kernel_rfl) ?_;intro W G;simp only[Bz,Ϛ,Θ,Χ,Ψ];have aj:=ab.trans (bh.trans G);clear G bk ah qb qk qp bj cj;go_wp2;go_roundw
         case rel=>exact⟨r+1,r,by omega,by omega,rfl,by go_num,aj,Α (.inr ⟨a6,by rw[bz.out];exact (dq.out.1 rfl).symm⟩)⟩
         case measure=>simp[intOf];omega
       ·cases sm with
        | false=>
         refine Dv 106 Ξ [iv i,Β (Δ ⟨br,az,Γ⟩) R.length cr,iv R.length,.bool Τ,.bool Τ,ς,.bool Τ,.bool Τ,ς,ς,ς,ς,ς,ς,ς,ς,ς,ς,ς,ς,.bool Τ] [.keep,.keep,.pure,Gk (η 36) (η 38) i R.length Τ (by simp;try omega),.keep,.skip,.pure,.keep,.skip,.skip,.skip,.skip,.skip,.skip,.skip,.skip,.skip,.skip,.skip,.skip,.pure] (λ_=>by kernel_rfl) (by kernel_rfl) rfl rfl (λW=>by kernel_rfl) (by kernel_rfl) ?_;intro W G;simp only[Bz,Ϛ,Θ,Χ,Ψ];have aj:=ab.trans (bh.trans G);clear G bk ah qb qk qp bj cj;go_wp2;go_roundw
         case rel=>exact⟨r+1,P.length,by omega,by omega,rfl,by go_num,aj,Α (.inl ⟨rfl,λx hx=>by
          by_cases e:x=r
          ·rw[e,bz.out];exact λh=>by
            have h2:=dq.out.2 h.symm;cases h2
          ·exact fv.out x (by omega)⟩)⟩
         case measure=>simp[intOf];omega
        | true=>
         refine Dv 106 Ξ [iv i,Β (Δ ⟨br,az,Γ⟩) R.length cr,iv R.length,.bool Τ,.bool Τ,ς,.bool Τ,.bool Τ,ς,ς,ς,ς,ς,ς,ς,ς,ς,ς,ς,ς,.bool Τ] [.keep,.keep,.pure,Gk (η 36) (η 38) i R.length Τ (by simp;try omega),.keep,.skip,.pure,.keep,.skip,.skip,.skip,.skip,.skip,.skip,.skip,.skip,.skip,.skip,.skip,.skip,.pure] (λ_=>by kernel_rfl) (by kernel_rfl) rfl rfl (λW=>by kernel_rfl) (by kernel_rfl) ?_;intro W G;simp only[Bz,Ϛ,Θ,Χ,Ψ];have aj:=ab.trans (bh.trans G);clear G bk ah qb qk qp bj cj;go_wp2;go_roundw
         case rel=>exact⟨r+1,r,by omega,by omega,rfl,by go_num,aj,Α (.inr ⟨a6,by rw[bz.out];exact (dq.out.1 rfl).symm⟩)⟩
         case measure=>simp[intOf];omega
    ·have gg:Ϻ (r=P.length\/q≠P.length):=Α (by omega);have bp:=Ah ed.out ab;have cw:=hE.trans ab;have bf:=ab.heap H9.out;have h6:=Α HI.out.len;have gh:∀ v,(Au λx=>C.getD x 0).setIfInBounds b (iv v)=Au λx=>(C.set b v).getD x 0:=λv=>by
      rw[Qs _ _ _ aa];exact Alw λy hy=>by rw[Bb _ _ _ _ _ (by rw[h6.out];exact aa)]
     have gi:=Α gh;clear gh;by_cases gj:q=P.length
     ·subst gj;have ew:=Α (X6 HI.out aa (by
       refine W8 HI.out.fi _ λx hx=>?_
       rcases HB.out with⟨_,h⟩|⟨h,_⟩
       ·rcases gg.out with e|e
        ·exact h x (by omega)
        ·exact absurd rfl e
       ·exact absurd h (Nat.lt_irrefl _)))
      obtain rfl:r=P.length:=by
       rcases gg.out with e|e
       ·exact e
       ·exact absurd rfl e
      have iy:g8<=wr.heap.size:=by have:=fk.out.2;have:=cw.size;omega
      clear HB ab ef;go_upto_region 19 with (fail)
      go_upto_region 20 with (at_builtin;refine ϐ _ rfl _ _ 68 rfl g8 3 i0 (.int ζ 0) 1 8 ϓ hi gx gy gz rfl (by decide) _ _ _ rfl (bp.alloc _) _ 1 1 [iv b] rfl rfl (Ϫ _ _ _) (by simp[ϊ]) (by decide) (by unfold ϙ;omega) (by omega) (by simp;omega) _ rfl ?_;intro gq c7 w7 cy ey _ _)
      have dr:=Ag bf (Ε #[iv b] 3);have b6:=(ey.block U (An dr) (λe=>by
       have e':Δ U=(Ρ.slice (Δ ⟨g,0,Γ⟩) P.length c).ownBlock:=e;rcases Dq (bp.alloc (Ε #[iv b] 3)) dr (by decide) with h|h
       ·rw[h] at e';cases e'
       ·exact h e'.symm)).trans dr
      have bl:=(cw.alloc (Ε #[iv b] 3)).grown ey (λk e=>by have:=(bp.lt k e).1;have:=fk.out.1;omega);have cy:w7.ownsRow g8 3 1 (Β (Δ ⟨gq,0,Γ⟩) (P++[b]).length c7) (P++[b]).length ((P++[b]).map iv):=by
       rw[Ο,ϔ];exact cy
      clear ey bp bf dr cw;have cn:=Ay b6 (Hm _ b aa);have fn:=Ϯ w7 U b _ _ b6;have bq:=Ϥ w7 U b _ 77 (0,0) (iv P.length) b6;rw[gi.out] at bq;have cz:=cy.kept (Bx w7 U (Au λx=>(C.set b P.length).getD x 0)) (Dq cy b6 (by decide));have ai:=bl.setRow (g:=U) fq.out (Au λx=>(C.set b P.length).getD x 0);have c1:=Α (μ w7 U _ (Au λx=>(C.set b P.length).getD x 0) 77 (0,0) b6);rw[<-bq] at cz ai c1;clear bq cy bl b6;go_wp2;go_roundw
      case rel=>exact⟨C.set b P.length,P++[b],_,gq,c7,b+1,by omega,by rw[Ο];rfl,by go_num,ai,cz,c1,ew⟩
      case measure=>simp[intOf];omega
     ·have h7:q<P.length:=by omega
      have iz:((q:Int)==(P.length:Int))=Τ:=by simp;omega
      have bo:Dl t B R (P.getD q 0)=Dl t B R b:=by
       rcases HB.out with⟨h,_⟩|⟨_,h⟩
       ·exact absurd h gj
       ·exact h
      have ew:=Α (X5 HI.out aa q (by
       exact W9 HI.out.fi _ q h7 bo))
      clear HB ab ef bo;have cn:=Ay bf (Hm _ b aa);have fn:=Ϯ wr U b _ _ bf;have bq:=Ϥ wr U b _ 77 (0,0) (iv q) bf;rw[gi.out] at bq;have cz:=bp.kept (Bx wr U (Au λx=>(C.set b q).getD x 0)) (Dq bp bf (by decide));have ai:=cw.setRow (g:=U) fq.out (Au λx=>(C.set b q).getD x 0);have c1:=Α (μ wr U _ (Au λx=>(C.set b q).getD x 0) 77 (0,0) bf);rw[<-bq] at cz ai c1;clear bq bp cw bf;by_cases h8:r<P.length
      case' pos=>have fu:(r:Int)<(P.length:Int):=by omega
      case' neg=>have fu:¬ (r:Int)<(P.length:Int):=by omega
      all_goals
       clear h8;go_wp2;go_roundw
       case rel=>exact⟨C.set b q,P,f,g,c,b+1,by omega,rfl,by go_num,ai,cz,c1,ew⟩
       case measure=>simp[intOf];omega
  ·obtain rfl:b=256:=by omega
   have gm:=Α hP;obtain⟨Af,b7⟩:∃ A,(Au λx=>C.getD x 0)=A:=⟨_,rfl⟩;have e2:(Η.info? 77).map (·.size)=Δ Af.size:=by rw[<-b7,C3];exact Fj
   have h9:Af.all (·.oneCell')=Ξ:=by rw[<-b7];exact Hl _
   have ia:(Au λ_=>0).size=Af.size:=by rw[<-b7,C3,C3]
   rw[b7] at H9;have ib:=Α b7;clear b7 hP;go_upto_region 21 with (fail)
   have hd:=(Ι wr).drew;refine B0 3 [(0,Ξ),(1,Ξ),(2,Ξ),(3,Τ)] (by kernel_rfl) (by kernel_rfl) (λ_ _ _ _ h=>h) (λW=>Ext wr W) hd ?_;obtain⟨wx,e4⟩:∃ V,wr.drew=V:=⟨_,rfl⟩;rw[e4] at hd;rw[e4];clear e4;refine Ao (v:=?_) rfl rfl (λV hV=>?_) ?_
   rotate_left
   ·clear hV;go_simp;first|done|with_reducible rfl
   simp only[Ϛ,Θ,Χ,Ψ];refine Ao (v:=.agg Af) rfl rfl (λV hV=>?_) ?_
   ·exact D2 77 (η 9) rfl U rfl _ _ _ _ (hV.heap H9.out) Tryz.underlying77 rfl e2
   simp only[Ϛ,Θ,Χ,Ψ];refine Ao (v:=?_) rfl rfl (λV hV=>?_) ?_
   rotate_left
   ·clear hV;go_simp;first|done|with_reducible rfl
   simp only[Ϛ,Θ,Χ,Ψ];have dt:=hd.heap (hE.heap H1.out);refine A4 rfl (λK hK=>?_);refine Gc 77 (η 7) (η 105) rfl rfl _ Af rfl rfl _ _ dt e2 ia h9 ?_;refine hK _ _ (λh=>absurd h (by omega)) ?_;clear hK K;refine B2 ?_;have ic:=Α ((bt.trans (hE.trans hd)).setRow hl.out Af);have ie:Ϻ (Ints (wx.setRow g7 Af) (Β (Δ ⟨g,0,Γ⟩) P.length c) P):=Α (OwnI.ints (base:=g8) ((Ah gm.out hd).kept (Bx wx g7 Af) (Dq (Ah gm.out hd) dt (by decide))) (by omega));have H8:=Α (μ wx g7 _ Af 77 (0,0) dt);clear dt;go_wp2;refine bodyPost_ret (v:=ϥ #[Β (Δ ⟨g,0,Γ⟩) P.length c,.agg Af]) (Adu rfl _ _ _ _ _ _ _ rfl _ rfl H8.out Tryz.underlying77 rfl e2) rfl ?_;exact⟨_,P,C,f,by rw[ib.out],HI.out,ie.out,ic.out⟩
open Go.RowKit
inductive Ch where
 | row (e:Á) (size:Nat) (v:Ρ) (n:Nat) (xs:List Ρ)
 | obj (g:Nat) (o:Obj)
def Ch.At (base:Nat) (W:Κ):Ch->Prop
 | .row e size v n xs=>W.ownsRow base e size v n xs
 | .obj g o=>base<=g/\W.heap[g]? = Δ o
def Ch.own:Ch->Option Nat
 | .row _ _ v _ _=>v.ownBlock
 | .obj g _=>Δ g
theorem Ch.lt {base:Nat} {W:Κ} {c:Ch} (h:c.At base W) (g:Nat) (hg:c.own=Δ g):base<=g/\g<W.heap.size:=by
 cases c with
 | row e size v n xs=>exact ϛ.lt h g hg
 | obj G o=>
  obtain⟨D,E⟩:=h;cases hg
  exact⟨D,An E⟩
theorem Ch.kept {base:Nat} {W W':Κ} {c:Ch} {row:Option Nat} (h:c.At base W) (hg:W.grownBy W' row) (hn:∀ g,c.own=Δ g->row≠Δ g):c.At base W':=by
 cases c with
 | row e size v n xs=>
  refine ϛ.kept h hg ?_;cases hv:v.ownBlock with
  | none=>exact .inl rfl
  | some g=>exact .inr (Ne.symm (hn g hv))
 | obj g o=>exact⟨h.1,(hg.block g (An h.2) (Ne.symm (hn g rfl))).trans h.2⟩
structure Hp (w0 W:Κ) (L:List Ch):Prop where
 ext:Ext w0 W
 at_:∀ c∈L,c.At w0.heap.size W
 far:L.Pairwise λc d=>∀ g,c.own=Δ g->d.own≠Δ g
section
variable {w0 W W':World} {L:List Ch}
theorem Hp.nil (w:Κ):Hp w w []:=⟨Ι w,λc D=>(by cases D),List.Pairwise.nil⟩
theorem Hp.nth (h:Hp w0 W L) (i:Nat) {c:Ch} (D:L[i]? = Δ c):c.At w0.heap.size W:=h.at_ c (List.mem_of_getElem? D)
theorem Hp.row (h:Hp w0 W L) (i:Nat) {e:Á} {size:Nat} {v:Ρ} {n:Nat} {xs:List Ρ} (D:L[i]? = Δ (.row e size v n xs)):W.ownsRow w0.heap.size e size v n xs:=h.nth i D
theorem Hp.obj (h:Hp w0 W L) (i:Nat) {g:Nat} {o:Obj} (D:L[i]? = Δ (.obj g o)):W.heap[g]? = Δ o:=(h.nth i D:_/\_).2
theorem Hp.objLe (h:Hp w0 W L) (i:Nat) {g:Nat} {o:Obj} (D:L[i]? = Δ (.obj g o)):w0.heap.size<=g:=(h.nth i D:_/\_).1
theorem Hp.symm {c d:Ch} (h:∀ g,c.own=Δ g->d.own≠Δ g):∀ g,d.own=Δ g->c.own≠Δ g:=λg hd D=>h g D hd
theorem Hp.farAt (h:Hp w0 W L) {i j:Nat} (G:i≠j) {c d:Ch} (H:L[i]? = Δ c) (hd:L[j]? = Δ d):∀ g,c.own=Δ g->d.own≠Δ g:=by
 obtain⟨hi,rfl⟩:=ό.1 H;obtain⟨E,rfl⟩:=ό.1 hd;have:=ϯ.1 h.far;rcases Nat.lt_or_gt_of_ne G with D|D
 ·exact this i j hi E D
 ·exact Hp.symm (this j i E hi D)
theorem Hp.extW (h:Hp w0 W L) (D:Ext W W'):Hp w0 W' L:=⟨h.ext.trans D,λc E=>Ch.kept (h.at_ c E) (D.grownBy Γ) (λ_ _=>by simp),h.far⟩
theorem Hp.alloc (h:Hp w0 W L) (o:Obj):Hp w0 (W.alloc o) L:=h.extW ((Ι W).alloc o)
theorem Hp.grow (h:Hp w0 W L) (i:Nat) {c c':Ch} (H:L[i]? = Δ c) (hg:W.grownBy W' c.own) (T:c'.At w0.heap.size W') (hn:∀ g,c'.own=Δ g->c.own=Δ g\/W.heap.size<=g):Hp w0 W' (L.set i c'):=by
 have hi:=(ό.1 H).1;refine⟨h.ext.grown hg (λk e=>(Ch.lt (h.nth i H) k e).1),λd hd=>?_,?_⟩
 ·obtain⟨j,G⟩:=List.getElem?_of_mem hd;rw[List.getElem?_set] at G;by_cases e:i=j
  ·rw[if_pos e,if_pos (by omega)] at G;cases G
   exact T
  ·rw[if_neg e] at G;exact Ch.kept (h.nth j G) hg (λg U=>(h.farAt (Ne.symm e) G H) g U)
 ·rw[ϯ];intro a b ha I aa g E D;rw[ύ] at ha I;rw[List.getElem_set] at E D;by_cases J:i=a
  ·rw[if_pos J] at E;rw[if_neg (by omega)] at D;rcases hn g E with e|e
   ·exact h.farAt (i:=i) (j:=b) (by omega) H (Μ I) g e D
   ·have:=(Ch.lt (h.nth b (Μ I)) g D).2;omega
  ·rw[if_neg J] at E;by_cases M:i=b
   ·rw[if_pos M] at D;rcases hn g D with e|e
    ·exact h.farAt (i:=a) (j:=i) (by omega) (Μ ha) H g E e
    ·have:=(Ch.lt (h.nth a (Μ ha)) g E).2;omega
   ·rw[if_neg M] at D;exact h.farAt (i:=a) (j:=b) (by omega) (Μ ha) (Μ I) g E D
theorem Hp.add (h:Hp w0 W L) {c:Ch} (hg:W.grownBy W' Γ) (D:c.At w0.heap.size W') (hn:∀ g,c.own=Δ g->W.heap.size<=g):Hp w0 W' (c::L):=by
 have E:Ext w0 W':=h.ext.grown hg (λk e=>by cases e);refine⟨E,λd hd=>?_,List.pairwise_cons.2 ⟨λd hd g G H=>?_,h.far⟩⟩
 ·rcases List.mem_cons.1 hd with rfl|hd
  ·exact D
  ·exact Ch.kept (h.at_ d hd) hg (λ_ _=>by simp)
 ·have:=(Ch.lt (h.at_ d hd) g H).2;have:=hn g G;omega
theorem Hp.tail {c:Ch} (h:Hp w0 W (c::L)):Hp w0 W L:=⟨h.ext,λd hd=>h.at_ d (List.mem_cons_of_mem _ hd),(List.pairwise_cons.1 h.far).2⟩
theorem Hp.perm {D:List Ch} (h:Hp w0 W L) (E:D.Perm L):Hp w0 W D:=
 ⟨h.ext,λd hd=>h.at_ d (E.mem_iff.1 hd),(E.pairwise_iff (λ{_ _} h=>Hp.symm h)).2 h.far⟩
theorem Hp.park {c:Ch} (h:Hp w0 W (c::L)):Hp w0 W (L++[c]):=h.perm (List.perm_append_comm (l₁:=L) (l₂:=[c]))
theorem Hp.swap {c d:Ch} (h:Hp w0 W (c::d::L)):Hp w0 W (d::c::L):=h.perm (List.Perm.swap c d L)
theorem Hp.put (h:Hp w0 W L) (i:Nat) {e:Á} {size g n D:Nat} {xs:List Ρ} (E:L[i]? = Δ (.row e size (Β (Δ ⟨g,0,Γ⟩) n D) n xs)) (j:Nat) (u:Ρ) :
  Hp w0 (W.setCell ⟨g,j,Γ⟩ u) (L.set i (.row e size (Β (Δ ⟨g,0,Γ⟩) n D) n (xs.set j u))):=by
 obtain⟨G,H⟩:=ϛ.stored (h.row i E) j u;exact h.grow i E H G (λg hg=>.inl hg)
theorem Hp.putf {α:Type} {f:α->Ρ} (h:Hp w0 W L) (i:Nat) {e:Á} {g n D:Nat} {l:List α} (E:L[i]? = Δ (.row e 1 (Β (Δ ⟨g,0,Γ⟩) n D) n (l.map f))) (k:Nat) (x:α) :
  Hp w0 (W.setCell ⟨g,k,Γ⟩ (f x)) (L.set i (.row e 1 (Β (Δ ⟨g,0,Γ⟩) n D) n ((l.set k x).map f))):=by
 have:=h.put i E k (f x);rw[List.map_set];exact this
theorem Hp.box (h:Hp w0 W L) (i:Nat) {g:Nat} {cs:Array Ρ} {t:Á} (E:L[i]? = Δ (.obj g (Ε cs t (0,0)))) (D:Array Ρ):Hp w0 (W.setRow g D) (L.set i (.obj g (Ε D t (0,0)))):=
 h.grow i E (Bx W g D) ⟨h.objLe i E,μ W g cs D t (0,0) (h.obj i E)⟩ (λ_ hg=>.inl hg)
theorem Hp.cell (h:Hp w0 W L) (i:Nat) {g:Nat} {cs:Array Ρ} {t:Á} (D:L[i]? = Δ (.obj g (Ε cs t (0,0)))) (k:Nat) (u:Ρ) {cs':Array Ρ} (he:cs.setIfInBounds k u=cs'):Hp w0 (W.setCell ⟨g,k,Γ⟩ u) (L.set i (.obj g (Ε cs' t (0,0)))):=by
 rw[Ϥ W g k cs t (0,0) u (h.obj i D),he];exact h.box i D cs'
theorem Hp.app (h:Hp w0 W L) (i:Nat) {e:Á} {size:Nat} {v:Ρ} {n:Nat} {xs:List Ρ} (H:L[i]? = Δ (.row e size v n xs)) {g D E:Nat} {G:List Ρ} (I:W'.ownsRow w0.heap.size e size (Β (Δ ⟨g,0,Γ⟩) D E) D G) (hg:W.grownBy W' v.ownBlock) (J:v.ownBlock=Δ g\/g=W.heap.size) :
  Hp w0 W' (L.set i (.row e size (Β (Δ ⟨g,0,Γ⟩) D E) D G)):=
 h.grow i H hg I (λk M=>by
  have:g=k:=ω M;subst this;rcases J with e|e
  ·exact .inl e
  ·exact .inr (by omega))
theorem Hp.new (h:Hp w0 W L) (o:Obj):Hp w0 (W.alloc o) (.obj W.heap.size o::L):=
 h.add (Κ.grownBy_alloc W o Γ) ⟨h.ext.size,heap_alloc_new W o⟩ (λg hg=>by cases hg;exact θ _)
theorem Hp.lit (h:Hp w0 W L) (e:Á) (size:Nat) (cs:Array Ρ) (n:Nat) (hm:n<=ϙ) (hs:cs.size=n*size):Hp w0 (W.alloc (Ε cs e)) (.row e size (Β (Δ ⟨W.heap.size,0,Γ⟩) n n) n cs.toList::L):=
 h.add (Κ.grownBy_alloc W _ Γ) (Ô W cs n h.ext.size hm hs) (λg hg=>by cases hg;exact θ _)
theorem Hp.made (h:Hp w0 W L) {e:Á} {size n D:Nat} {xs:List Ρ} (E:W'.ownsRow w0.heap.size e size (Β (Δ ⟨W.heap.size,0,Γ⟩) n D) n xs) (hg:W.grownBy W' Γ):Hp w0 W' (.row e size (Β (Δ ⟨W.heap.size,0,Γ⟩) n D) n xs::L):=
 h.add hg E (λg hg=>by cases hg;exact θ _)
theorem Hp.nilRow (h:Hp w0 W L) (e:Á) (size:Nat):Hp w0 W (.row e size (Β Γ 0 0) 0 []::L):=
 h.add ⟨rfl,rfl,rfl,θ _,λ_ _ _=>rfl⟩ (Κ.ownsRow_nil W _ e size) (λg hg=>by cases hg)
theorem Hp.frozen (h:Hp w0 W L) (i:Nat) {g:Nat} {cs:Array Ρ} {t:Á} (D:L[i]? = Δ (.obj g (Ε cs t (0,0)))) (k:Nat):W.frozen? ⟨g,k,Γ⟩=Τ:=Ϯ W g k cs t (h.obj i D)
theorem Hp.size (h:Hp w0 W L):w0.heap.size<=W.heap.size:=h.ext.size
end
end Go.Proofs.YtaiogolidlamiaaGreatDoor
