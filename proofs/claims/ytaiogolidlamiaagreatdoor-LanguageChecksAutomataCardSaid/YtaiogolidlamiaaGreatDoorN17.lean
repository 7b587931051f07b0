import Derived.Test.YtaiogolidlamiaaGreatDoorN16
import Derived.Test.YtaiogolidlamiaaGreatDoorN03
import Derived.Test.YtaiogolidlamiaaGreatDoorN06
set_option linter.unusedVariables false
set_option linter.unusedSimpArgs false
open Bool renaming true → Ξ, false → Τ
open Classical renaming byContradiction → ϧ
open Go renaming TypeId → Á, Value → Ν, World → Λ, undef → ς, Operand → ϵ, execOp → Ù, info_parts → Ϟ, heap_alloc2_new → Ϗ, maxLen → ϛ, wpList_store_row → Φ, setRow_heap → μ, wpList_append_lies → Ϙ, cell_one_new → ϭ, frozen_of_row → Ϸ, setCell_eq_setRow → Ϧ, bodyPost_ret → ω, wpList_load_row → Ο
open Go.Act renaming put → Ϛ
open Go.Ending renaming returned → θ
open Go.IntKind renaming i64 → ε
open Go.Lib renaming hid → Α
open Go.Obj renaming cells → Ε
open Go.Operand renaming tmp → η
open Go.Proofs.Tryz renaming prog → Ζ, zeroCells77 → ώ, underlying68 → ϔ, zeroCells79 → ϖ, underlying79 → Ϻ, underlying30 → Κ
open Go.RowKit renaming Hid → À
open Go.Value renaming tuple → ϙ, pointer → Ω, slice → Β, oneCell' → ό, slice → Ϥ
open Go.World renaming ownsRow_lit → Ý, ownsRow → Ϡ, size_alloc → Ρ
open List renaming replicate → ζ, setIfInBounds_toArray → Ι, set_cons_zero → Χ, set_cons_succ → Ψ, length_append → Υ, map_append → ϝ, getElem?_eq_some_iff → ϊ, pairwise_iff_getElem → Ϯ, getElem?_eq_getElem → Μ, getD_eq_getElem?_getD → Η, range → ι
open Nat renaming le_of_eq → à, le_refl → ν
open Option renaming some → Δ, none → Γ
open Option.some renaming inj → ύ
namespace Go.Proofs.YtaiogolidlamiaaGreatDoor
set_option maxRecDepth 100000
set_option maxHeartbeats 8000000
open Go.RowKit Go.Shelf
theorem Ady {fn:Func} {p u:Tmp} {ty:Á} (h:fn.results=#[.tmp u,.cell p ty]) (D:Array Ν) (P:Program) (w:Λ) :
  (results fn D).run P w =
   ((asAddr (D.getD p ς)).run P w).andThen λa E=>((loadVar ty a).run P E).andThen λv G=>.ok (ϙ #[D.getD u ς,v]) G:=by
 simp only[results,h];simp[Sem.run_bind,Result.andThen]
theorem Adz {P:Program} {fn:Func} {p u:Tmp} {ty:Á} (h:fn.results=#[.tmp u,.cell p ty]) (D:Array Ν) (w:Λ) (g:Nat) (t:Á) (cs:Array Ν) (fr:Nat × Nat) (d:TypeDesc)
  (E:D.getD p ς=Ω (Δ ⟨g,0,Γ⟩)) (v:Ν) (G:D.getD u ς=v) (hg:w.heap[g]? = Δ (Ε cs t fr))
  (hu:P.underlying ty=Δ d) (hd:(match d with|.struct _|.array _ _=>Ξ|_=>Τ)=Ξ) (hi:(P.info? ty).map (·.size)=Δ cs.size) :
  (results fn D).run P w=.ok (ϙ #[v,.agg cs]) w:=by
 rw[Ady h,E,G];simp[asAddr,run_loadVar_row w g t ty cs fr d hg hu hd hi,Result.andThen]
theorem Am1:Ζ.built 77 []=Δ (Ar λ_=>0):=by kernel_rfl
theorem Ai8 (ρ:ϵ->Ν) (o:Oper) (W:Λ) (x y:ϵ) (b k:Nat) (I:k<256) (D:o.op=.indexAddr 77 x y) (E:ρ x=Ω (Δ ⟨b,0,Γ⟩)) (G:ρ y=.int ε k):(Ù ρ o).run Ζ W=.ok (.value (Ω (Δ ⟨b,k,Γ⟩))) W:=by
 have J:(k:Int)<256:=by omega
 unfold Ù;simp only[D,E,G];go_simp
def E4 {w:Λ} (x y:ϵ) (b k:Nat) (E:k<256):Sc Ζ w:=
 .gen (.indexAddr 77 x y) [.c (Ω (Δ ⟨b,0,Γ⟩)),.c (.int ε k)] (.c (Ω (Δ ⟨b,k,Γ⟩))) (AV.mono_c _) λρ o W G _ D=>⟨_,Ai8 ρ o W x y b k E G (C6 D).1 (C6 D).2,rfl⟩
theorem Ahu (ρ:ϵ->Ν) (o:Oper) (W:Λ) (x y:ϵ) (a b:Int) (D:o.op=.binOp .lss 3 x y 3) (E:ρ x=.int ε a) (G:ρ y=.int ε b):(Ù ρ o).run Ζ W=.ok (.value (.bool (decide (a<b)))) W:=by
 unfold Ù;simp only[D,E,G];go_simp
def Gn {w:Λ} (x y:ϵ) (a b:Int) (r:Bool) (E:decide (a<b)=r):Sc Ζ w:=
 .gen (.binOp .lss 3 x y 3) [.c (.int ε a),.c (.int ε b)] (.c (.bool r)) (AV.mono_c _) λρ o W G _ D=>⟨_,Ahu ρ o W x y a b G (C6 D).1 (C6 D).2,by rw[E];rfl⟩
def Dl (t:Tbl) (B R:List Nat) (b:Nat):List UInt8:=Bg (λi=>B.getD (t.stp (R.getD i 0) b) 0) R.length
theorem Ai1 (t:Tbl) (B R:List Nat) (h:∀ i,i<R.length->∀ b,b<256->B.getD (t.stp (R.getD i 0) b) 0<65536) (b b':Nat) (E:b<256) (G:b'<256) :
  Dl t B R b=Dl t B R b'↔∀ i,i<R.length->B.getD (t.stp (R.getD i 0) b) 0=B.getD (t.stp (R.getD i 0) b') 0:=
 K1 _ _ _ (λk D=>h k D b E) (λk D=>h k D b' G)
theorem Amh (t:Tbl) (hv:TVal t) (hn:t.n.length<=65536) (B:List Nat) (hB:B.length=t.n.length) (R:List Nat) (gr:0<R.length) (ij:R.length<=65536) (hR:∀ i,i<R.length->R.getD i 0<t.n.length)
  (e7:∀ i,i<R.length->∀ b,b<256->B.getD (t.stp (R.getD i 0) b) 0<65536) (A:Array Ν) (vB vR:Ν) (w:Λ) (h:IsR w A t) (hb:Ints w vB B) (hr:Ints w vR R) :
  Calls Ζ 102 #[.agg A,vB,vR] w λe w'=>∃ vP P C f,e=θ (ϙ #[vP,.agg (Ar λb=>C.getD b 0)])/\CInv (Dl t B R) 256 C P f/\Ints w' vP P/\Ext w w':=by
 obtain⟨bn,on,cn,ba,oa,ca,gu,gv,fa,fb,gw,fc,-⟩:=h.opened hv;obtain⟨T,U,cb,rfl,fe⟩:=Û hb (by rw[hB];exact hv.pos);obtain⟨br,a1,cr,rfl,ff⟩:=Û hr gr;obtain⟨i0,hi,gy,gz,hc⟩:=Ϟ Cp;have iq:(Ζ.info? 79).map (·.size)=Δ A.size:=by rw[gu];exact Co
 have ir:=hv.cle;have bu:=((Θ w).alloc (Ε A 79)).alloc (Ε ώ 77);have H0:=Ag (Aa w (Ε A 79)) (Ε ώ 77);have H1:=Ϗ w (Ε A 79) (Ε ώ 77);have dv:=Α (λW (G:Ext w W) j (hj:j<B.length)=>G.cell (fe j (by omega)));have hh:=Α (λW (G:Ext w W) j (hj:j<R.length)=>G.cell (ff j (by omega)));have fg:=Α (λW (G:Ext w W)=>fc.ext G);have db:=Α fa;have fh:=Α fb;have HV:=Α hv;have fj:=Α hR;have fk:=Α (Ai1 t B R e7);clear hb hr h fc fe ff fa fb gw gv hR e7 hv;obtain⟨nn,dw⟩:∃ n,t.n.length=n:=⟨_,rfl⟩;have dx:=Α dw;rw[dw] at hB fh fg fj hn;rw[hB] at dv;rw[hB];clear dw hB;go_enter Tryz.func102,Tryz.ntmps102;go_upto_region 1 with (fail)
 obtain⟨w1,dy⟩:∃ X,(w.alloc (Ε A 79)).alloc (Ε ώ 77)=X:=⟨_,rfl⟩;rw[dy] at bu H0 H1;simp only[dy];clear dy;obtain⟨D,dd⟩:∃ y,w.heap.size=y:=⟨_,rfl⟩;have hl:À (w.heap.size<=D):=Α (à dd);rw[dd] at H0 H1;simp only[dd];clear dd;obtain⟨g7,ea⟩:∃ y,D+1=y:=⟨_,rfl⟩;have ho:À (w.heap.size<=g7):=Α (by have:=hl.out;omega);rw[ea] at H1;simp only[ea];clear ea;have H1:w1.heap[g7]? = Δ (Ε (Ar λ_=>0) 77 (0,0)):=by rw[H1,F9]
 go_upto_region 2 with (fail)
 have cg:=(Θ w1).alloc (Ε #[] 3);obtain⟨g8,ch⟩:∃ y,w1.heap.size=y:=⟨_,rfl⟩;have fl:À (w1.heap.size<=g8/\g8<=w1.heap.size):=Α ⟨à ch,à ch.symm⟩;have de:=Ý (base:=w1.heap.size) (e:=3) (size:=1) w1 #[] 0 (ν _) (by unfold ϛ;omega) rfl;rw[ch] at de;simp only[ch];obtain⟨w2,eb⟩:∃ X,w1.alloc (Ε #[] 3)=X:=⟨_,rfl⟩;rw[eb] at cg de;simp only[eb];clear eb ch;obtain⟨A9,bw⟩:∃ A9,Ar (λ_=>0)=A9:=⟨_,rfl⟩;have hp:À (Ζ.built 77 []=Δ A9):=Α (by rw[Am1,bw]);have fm:ώ.size=A9.size:=by rw[F9,bw]
 have fo:(Ζ.info? 77).map (·.size)=Δ A9.size:=by rw[<-bw,C3];exact Fj
 have fp:A9.all (·.oneCell')=Ξ:=by rw[<-bw];exact Ht _
 have ht:=Α bw;have H0:=Α H0;have H1:=Α H1;clear bw;go_upto_region 3 with (first
  | (refine Bw rfl 77 _ rfl A9 ?_ ?_;(simp[Act.eval];with_reducible exact hp.out))
  | (refine Φ rfl 77 (η 9) (η 17) rfl _ A9 rfl rfl _ _ (Aa w2 (Ε ώ 77)) fo fm fp ?_))
 have df:=(cg.alloc (Ε ώ 77)).setRow (g:=w2.heap.size) cg.size A9;have H9:=μ (w2.alloc (Ε ώ 77)) w2.heap.size _ A9 _ _ (Aa w2 _);have bd:=Ah de (((Θ w2).alloc (Ε ώ 77)).setRow (g:=w2.heap.size) (ν _) A9);obtain⟨w3,dg⟩:∃ X,(w2.alloc (Ε ώ 77)).setRow w2.heap.size A9=X:=⟨_,rfl⟩;obtain⟨g9,ec⟩:∃ y,w2.heap.size=y:=⟨_,rfl⟩;have fs:À (w1.heap.size<=g9):=Α (by have:=cg.size;omega);rw[ec] at H9 df bd dg;rw[dg] at df H9 bd;simp only[ec];simp only[dg];clear dg ec de cg fm fo fp;have H9:À (w3.heap[g9]? = Δ (Ε (Ar λx=>(ζ 256 0).getD x 0) 77 (0,0))):=Α (by
  rw[H9,<-ht.out]
  congr 2)
 have bd:=Gh bd;have bd:w3.ownsRow g8 3 1 (Β (Δ ⟨g8,0,Γ⟩) 0 0) 0 []:=by
  obtain⟨h0,h|⟨g,hz,cur,hv,hb,h⟩⟩:=bd
  ·exact⟨h0,.inl h⟩
  ·refine⟨h0,.inr ⟨g,hz,cur,hv,?_,h⟩⟩;injection hv with hv
   injection hv with hv
   injection hv with hv
   exact à hv
 go_wp2_with (fail);go_loopw [8,10] (λvP vj W=>∃ (C P:List Nat) (f:List UInt8->Option Nat) (g c b:Nat),b<=256/\vP=Β (Δ ⟨g,0,Γ⟩) P.length c/\vj=.int ε b/\Ext w1 W/\W.ownsRow g8 3 1 (Β (Δ ⟨g,0,Γ⟩) P.length c) P.length (P.map iv)/\À (W.heap[g9]? = Δ (Ε (Ar λx=>C.getD x 0) 77 (0,0)))/\À (CInv (Dl t B R) b C P f))
  (λ_ vj _=>256-(intOf vj).toNat)
 case atStart=>exact⟨ζ 256 0,[],λ_=>Γ,g8,0,0,by omega,rfl,rfl,df,bd,H9,Α (Ya _)⟩
 case round=>
  clear df bd H9;obtain⟨C,P,f,g,c,b,hb,rfl,rfl,hE,hP,H9,HI⟩:=hrel;have iu:=HI.out.fi.le;by_cases ab:b<256
  ·have iw:(b:Int)<256:=by omega
   have ee:=Α hP;have h3:À (∀ r,r<P.length->P.getD r 0<256):=Α λr hr=>by
    have:=(HI.out.fi.byte r hr).1;omega
   clear hP;go_wp2_with (fail);go_loopw [11,12] (λvq vr W=>∃ (r q:Nat),r<=P.length/\q<=P.length/\vq=.int ε q/\vr=.int ε r/\Ext wr W/\À ((q=P.length/\∀ x,x<r->Dl t B R (P.getD x 0)≠Dl t B R b)\/(q<P.length/\Dl t B R (P.getD q 0)=Dl t B R b)))
    (λ_ vr _=>P.length-(intOf vr).toNat)
   case atStart=>exact⟨0,P.length,by omega,by omega,rfl,rfl,Θ wr,Α (.inl ⟨rfl,λq hq=>by omega⟩)⟩
   case round=>
    obtain⟨r,q,hr,hq,rfl,rfl,ad,HB⟩:=hrel;by_cases eg:r<P.length/\q=P.length
    ·obtain⟨a7,rfl⟩:=eg;have fv:(r:Int)<(P.length:Int):=by omega
     have fw:À (∀ x,x<r->Dl t B R (P.getD x 0)≠Dl t B R b):=Α (by
      rcases HB.out with⟨_,h⟩|⟨h,_⟩
      ·exact h
      ·exact absurd h (Nat.lt_irrefl _))
     clear HB;obtain⟨E,eh⟩:∃ x,P.getD r 0=x:=⟨_,rfl⟩;have ar:=h3.out r a7;rw[eh] at ar;have b0:=Α eh;clear eh;go_wp2_with (fail);go_loopw [13,14] (λvs vi W=>∃ (i:Nat) (sm:Bool),i<=R.length/\vs=.bool sm/\vi=.int ε i/\Ext wr W/\À ((sm=Ξ/\∀ x,x<i->B.getD (t.stp (R.getD x 0) b) 0=B.getD (t.stp (R.getD x 0) E) 0)\/(sm=Τ/\Dl t B R b≠Dl t B R E)))
      (λ_ vi _=>R.length-(intOf vi).toNat)
     case atStart=>exact⟨0,Ξ,by omega,rfl,rfl,Θ wr,Α (.inl ⟨rfl,λq hq=>by omega⟩)⟩
     case round=>
      obtain⟨i,sm,ix,rfl,rfl,bj,HS⟩:=hrel;obtain⟨I,ej⟩:∃ x,t.cell b=x:=⟨_,rfl⟩;obtain⟨kp,ek⟩:∃ x,t.cell E=x:=⟨_,rfl⟩;have dk:=Α ej;have dm:=Α ek;have bk:=hE.trans (ad.trans bj);have qb:=λW (G:Ext wr W)=>Av ((bk.trans G).heap H0.out) (db.out b ab)
      have qk:=λW (G:Ext wr W)=>Av ((bk.trans G).heap H0.out) (db.out E ar)
      have qp:=λW (G:Ext wr W)=>Am 0 (Ah ee.out (ad.trans (bj.trans G))) rfl r a7
      rw[ej] at qb;rw[ek] at qk;rw[b0.out] at qp;clear ej ek;have ck:À (∀ W,Ext wr W->True):=Α λ_ _=>trivial
      go_upto_region 12 with (fail)
      by_cases bl:i<R.length/\sm=Ξ/\I≠kp
      ·obtain⟨ai,rfl,en⟩:=bl;have h5:À (∀ x,x<i->B.getD (t.stp (R.getD x 0) b) 0=B.getD (t.stp (R.getD x 0) E) 0):=Α (by
        rcases HS.out with⟨_,h⟩|⟨h,_⟩
        ·exact h
        ·cases h)
       clear HS;refine Dv 106 Ξ [iv i,Β (Δ ⟨br,a1,Γ⟩) R.length cr,iv R.length,.bool Ξ,.bool Ξ,.bool Ξ,.bool Ξ,.bool Ξ,iv b,Ω (Δ ⟨D,0,Γ⟩),Ω (Δ ⟨D,b,Γ⟩),iv I,Β (Δ ⟨g,0,Γ⟩) P.length c,iv r,Ω (Δ ⟨g,r,Γ⟩),iv E,Ω (Δ ⟨D,0,Γ⟩),Ω (Δ ⟨D,E,Γ⟩),iv kp,.bool Ξ,.bool Ξ] [.keep,.keep,.pure,Gn (η 36) (η 38) i R.length Ξ (by simp;try omega),.keep,.keep,.pure,.keep,.keep,.pure,E4 (η 45) (η 44) D b ab,ld3 (η 46) D b _ qb,.keep,.keep,Gp (η 48) (η 49) g P.length c r a7,ld3 (η 50) g r _ qp,.pure,E4 (η 52) (η 51) D E ar,ld3 (η 53) D E _ qk,Iv (η 47) (η 54) I kp Ξ (by simp;try omega),.pure] (λ_=>by kernel_rfl) (by kernel_rfl) rfl rfl (λW=>by kernel_rfl) (by kernel_rfl) ?_;intro W G;simp only[Bz,Ϛ,Ι,Χ,Ψ];have bm:=bj.trans G;clear G qb qk qp bk ck;go_upto_region 14 with (fail)
       obtain⟨s,hs⟩:∃ x,R.getD i 0=x:=⟨_,rfl⟩;have cl:=fj.out i ai;rw[hs] at cl;have cm:=hE.trans (ad.trans bm);obtain⟨b2,M,c2,fx,fy⟩:=fg.out _ (bu.trans cm) s cl;have fz:=Α fy;have qn:=λW' (J:Ext W W')=>Av ((cm.trans J).heap H0.out) fh.out
       have qs:=λW' (J:Ext W W')=>hh.out W' (bu.trans (cm.trans J)) i ai
       rw[hs] at qs;have qr:=λW' (J:Ext W W')=>J.cell fx
       have gd:=Α hs;clear fy hs;refine Dv 106 Ξ [Ω (Δ ⟨D,256,Γ⟩),Β (Δ ⟨bn,on,Γ⟩) nn cn,Β (Δ ⟨br,a1,Γ⟩) R.length cr,iv i,Ω (Δ ⟨br,a1+i,Γ⟩),iv s,Ω (Δ ⟨bn,on+s,Γ⟩),Β (Δ ⟨b2,M,Γ⟩) t.cells c2,Β (Δ ⟨b2,M,Γ⟩) t.cells c2] [.pure,I3 (η 59) D 256 _ qn,.keep,.keep,Cx (η 61) (η 62) br a1 R.length cr i ai,ld3 (η 63) br (a1+i) _ qs,I4 (η 60) (η 64) bn on nn cn s cl,I2 (η 65) bn (on+s) _ qr,.keep] (λ_=>by kernel_rfl) (by kernel_rfl) rfl rfl (λW=>by kernel_rfl) (by kernel_rfl) ?_;intro W2 cp;simp only[Bz,Ϛ,Ι,Χ,Ψ];have aj:=bm.trans cp;clear qn qs qr fx;go_upto_region 15 with (fail)
       have b4:=hE.trans (ad.trans aj);have bp:I<t.cells:=by rw[<-dk.out];exact HV.out.cell_lt b ab
       have dn:kp<t.cells:=by rw[<-dm.out];exact HV.out.cell_lt E ar
       have cq:=HV.out.tgt s (by rw[dx.out];exact cl) I bp;have ct:=HV.out.tgt s (by rw[dx.out];exact cl) kp dn;rw[dx.out] at cq ct;have e0:=λW' (J:Ext W2 W')=>(cp.trans J).cell (fz.out I bp)
       have e1:=λW' (J:Ext W2 W')=>(cp.trans J).cell (fz.out kp dn)
       obtain⟨y0,ep⟩:∃ y,t.ent2 s I=y:=⟨_,rfl⟩;obtain⟨y1,er⟩:∃ y,t.ent2 s kp=y:=⟨_,rfl⟩;rw[ep] at e0 cq;rw[er] at e1 ct;have f0:=λW' (J:Ext W2 W')=>dv.out W' (bu.trans (b4.trans J)) y0 cq
       have f1:=λW' (J:Ext W2 W')=>dv.out W' (bu.trans (b4.trans J)) y1 ct
       obtain⟨z0,et⟩:∃ y,B.getD y0 0=y:=⟨_,rfl⟩;obtain⟨z1,eu⟩:∃ y,B.getD y1 0=y:=⟨_,rfl⟩;rw[et] at f0;rw[eu] at f1;have qb:=λW' (J:Ext W2 W')=>Av ((b4.trans J).heap H0.out) (db.out b ab)
       have qk:=λW' (J:Ext W2 W')=>Av ((b4.trans J).heap H0.out) (db.out E ar)
       have qp:=λW' (J:Ext W2 W')=>Am 0 (Ah ee.out (ad.trans (aj.trans J))) rfl r a7
       rw[dk.out] at qb;rw[dm.out] at qk;rw[b0.out] at qp;have gf:À (B.getD (t.stp (R.getD i 0) b) 0=z0):=Α (by rw[gd.out];unfold Tbl.stp;rw[dk.out,ep,et]);have gg:À (B.getD (t.stp (R.getD i 0) E) 0=z1):=Α (by rw[gd.out];unfold Tbl.stp;rw[dm.out,er,eu]);clear ep er et eu;by_cases dp:z0=z1
       ·have ev:À (∀ x,x<i+1->B.getD (t.stp (R.getD x 0) b) 0=B.getD (t.stp (R.getD x 0) E) 0):=Α λx hx=>by
         by_cases e:x=i
         ·rw[e,gf.out,gg.out,dp]
         ·exact h5.out x (by omega)
        refine Dv 106 Ξ [Β (Δ ⟨T,U,Γ⟩) nn cb,Β (Δ ⟨b2,M,Γ⟩) t.cells c2,iv b,Ω (Δ ⟨D,0,Γ⟩),Ω (Δ ⟨D,b,Γ⟩),iv I,Ω (Δ ⟨b2,M+I,Γ⟩),iv y0,Ω (Δ ⟨T,U+y0,Γ⟩),iv z0,Β (Δ ⟨T,U,Γ⟩) nn cb,Β (Δ ⟨b2,M,Γ⟩) t.cells c2,Β (Δ ⟨g,0,Γ⟩) P.length c,iv r,Ω (Δ ⟨g,r,Γ⟩),iv E,Ω (Δ ⟨D,0,Γ⟩),Ω (Δ ⟨D,E,Γ⟩),iv kp,Ω (Δ ⟨b2,M+kp,Γ⟩),iv y1,Ω (Δ ⟨T,U+y1,Γ⟩),iv z1,.bool Ξ,.bool Ξ] [.keep,.keep,.keep,.pure,E4 (η 70) (η 69) D b ab,ld3 (η 71) D b _ qb,Cx (η 68) (η 72) b2 M t.cells c2 I bp,ld3 (η 73) b2 (M+I) _ e0,Cx (η 67) (η 74) T U nn cb y0 cq,ld3 (η 75) T (U+y0) _ f0,.keep,.keep,.keep,.keep,Gp (η 79) (η 80) g P.length c r a7,ld3 (η 81) g r _ qp,.pure,E4 (η 83) (η 82) D E ar,ld3 (η 84) D E _ qk,Cx (η 78) (η 85) b2 M t.cells c2 kp dn,ld3 (η 86) b2 (M+kp) _ e1,Cx (η 77) (η 87) T U nn cb y1 ct,ld3 (η 88) T (U+y1) _ f1,Qt (η 76) (η 89) z0 z1 Ξ (by simp;try omega),.keep] (λ_=>by kernel_rfl) (by kernel_rfl) rfl rfl (λW=>by kernel_rfl) (by kernel_rfl) ?_;intro W3 cw;simp only[Bz,Ϛ,Ι,Χ,Ψ];have ak:=aj.trans cw;clear cw cp e0 e1 f0 f1 qb qk qp dp bm aj cm b4;go_wp2;go_roundw
        case rel=>exact⟨i+1,Ξ,by omega,rfl,by go_num,ak,Α (.inl ⟨rfl,ev.out⟩)⟩
        case measure=>simp[intOf];omega
       ·have ev:À (Dl t B R b≠Dl t B R E):=Α λe=>by
         have:=(fk.out b E ab ar).1 e i ai;rw[gf.out,gg.out] at this;exact dp this
        refine Dv 106 Ξ [Β (Δ ⟨T,U,Γ⟩) nn cb,Β (Δ ⟨b2,M,Γ⟩) t.cells c2,iv b,Ω (Δ ⟨D,0,Γ⟩),Ω (Δ ⟨D,b,Γ⟩),iv I,Ω (Δ ⟨b2,M+I,Γ⟩),iv y0,Ω (Δ ⟨T,U+y0,Γ⟩),iv z0,Β (Δ ⟨T,U,Γ⟩) nn cb,Β (Δ ⟨b2,M,Γ⟩) t.cells c2,Β (Δ ⟨g,0,Γ⟩) P.length c,iv r,Ω (Δ ⟨g,r,Γ⟩),iv E,Ω (Δ ⟨D,0,Γ⟩),Ω (Δ ⟨D,E,Γ⟩),iv kp,Ω (Δ ⟨b2,M+kp,Γ⟩),iv y1,Ω (Δ ⟨T,U+y1,Γ⟩),iv z1,.bool Τ,.bool Τ] [.keep,.keep,.keep,.pure,E4 (η 70) (η 69) D b ab,ld3 (η 71) D b _ qb,Cx (η 68) (η 72) b2 M t.cells c2 I bp,ld3 (η 73) b2 (M+I) _ e0,Cx (η 67) (η 74) T U nn cb y0 cq,ld3 (η 75) T (U+y0) _ f0,.keep,.keep,.keep,.keep,Gp (η 79) (η 80) g P.length c r a7,ld3 (η 81) g r _ qp,.pure,E4 (η 83) (η 82) D E ar,ld3 (η 84) D E _ qk,Cx (η 78) (η 85) b2 M t.cells c2 kp dn,ld3 (η 86) b2 (M+kp) _ e1,Cx (η 77) (η 87) T U nn cb y1 ct,ld3 (η 88) T (U+y1) _ f1,Qt (η 76) (η 89) z0 z1 Τ (by simp;try omega),.keep] (λ_=>by kernel_rfl) (by kernel_rfl) rfl rfl (λW=>by kernel_rfl) (by kernel_rfl) ?_;intro W3 cw;simp only[Bz,Ϛ,Ι,Χ,Ψ];have ak:=aj.trans cw;clear cw cp e0 e1 f0 f1 qb qk qp dp bm aj cm b4;go_wp2;go_roundw
        case rel=>exact⟨i+1,Τ,by omega,rfl,by go_num,ak,Α (.inr ⟨rfl,ev.out⟩)⟩
        case measure=>simp[intOf];omega
      ·have dr:À (sm=Ξ↔Dl t B R b=Dl t B R E):=Α ⟨λe=>(fk.out b E ab ar).2 λx hx=>(by
        rcases HS.out with⟨_,h⟩|⟨h,_⟩
        ·by_cases ai:i<R.length
         ·have en:I=kp:=ϧ λh=>bl ⟨ai,e,h⟩
          unfold Tbl.stp;rw[dk.out,dm.out,en]
         ·exact h x (by omega)
        ·rw[e] at h;cases h),λe=>(by
        rcases HS.out with⟨h,_⟩|⟨_,h⟩
        ·exact h
        ·exact absurd e h)⟩
       clear HS;by_cases ai:i<R.length
       ·cases sm with
        | false=>
         refine Dv 106 Ξ [iv i,Β (Δ ⟨br,a1,Γ⟩) R.length cr,iv R.length,.bool Ξ,.bool Ξ,.bool Τ,.bool Τ,.bool Τ,ς,ς,ς,ς,ς,ς,ς,ς,ς,ς,ς,ς,.bool Τ] [.keep,.keep,.pure,Gn (η 36) (η 38) i R.length Ξ (by simp;try omega),.keep,.keep,.pure,.keep,.skip,.skip,.skip,.skip,.skip,.skip,.skip,.skip,.skip,.skip,.skip,.skip,.pure] (λ_=>by kernel_rfl) (by kernel_rfl) rfl rfl (λW=>by kernel_rfl) (by kernel_rfl) ?_;intro W G;simp only[Bz,Ϛ,Ι,Χ,Ψ];have ak:=ad.trans (bj.trans G);clear G bl ai qb qk qp bk ck;go_wp2;go_roundw
         case rel=>exact⟨r+1,P.length,by omega,by omega,rfl,by go_num,ak,Α (.inl ⟨rfl,λx hx=>by
          by_cases e:x=r
          ·rw[e,b0.out];exact λh=>by
            have h2:=dr.out.2 h.symm;cases h2
          ·exact fw.out x (by omega)⟩)⟩
         case measure=>simp[intOf];omega
        | true=>
         have en:I=kp:=ϧ λh=>bl ⟨ai,rfl,h⟩
         refine Dv 106 Ξ [iv i,Β (Δ ⟨br,a1,Γ⟩) R.length cr,iv R.length,.bool Ξ,.bool Ξ,.bool Ξ,.bool Ξ,.bool Ξ,iv b,Ω (Δ ⟨D,0,Γ⟩),Ω (Δ ⟨D,b,Γ⟩),iv I,Β (Δ ⟨g,0,Γ⟩) P.length c,iv r,Ω (Δ ⟨g,r,Γ⟩),iv E,Ω (Δ ⟨D,0,Γ⟩),Ω (Δ ⟨D,E,Γ⟩),iv kp,.bool Τ,.bool Τ] [.keep,.keep,.pure,Gn (η 36) (η 38) i R.length Ξ (by simp;try omega),.keep,.keep,.pure,.keep,.keep,.pure,E4 (η 45) (η 44) D b ab,ld3 (η 46) D b _ qb,.keep,.keep,Gp (η 48) (η 49) g P.length c r a7,ld3 (η 50) g r _ qp,.pure,E4 (η 52) (η 51) D E ar,ld3 (η 53) D E _ qk,Iv (η 47) (η 54) I kp Τ (by simp;try omega),.pure] (λ_=>by kernel_rfl) (by kernel_rfl) rfl rfl (λW=>by kernel_rfl) (by kernel_rfl) ?_;intro W G;simp only[Bz,Ϛ,Ι,Χ,Ψ];have ak:=ad.trans (bj.trans G);clear G bl ai qb qk qp bk ck;go_wp2;go_roundw
         case rel=>exact⟨r+1,r,by omega,by omega,rfl,by go_num,ak,Α (.inr ⟨a7,by rw[b0.out];exact (dr.out.1 rfl).symm⟩)⟩
         case measure=>simp[intOf];omega
       ·cases sm with
        | false=>
         refine Dv 106 Ξ [iv i,Β (Δ ⟨br,a1,Γ⟩) R.length cr,iv R.length,.bool Τ,.bool Τ,ς,.bool Τ,.bool Τ,ς,ς,ς,ς,ς,ς,ς,ς,ς,ς,ς,ς,.bool Τ] [.keep,.keep,.pure,Gn (η 36) (η 38) i R.length Τ (by simp;try omega),.keep,.skip,.pure,.keep,.skip,.skip,.skip,.skip,.skip,.skip,.skip,.skip,.skip,.skip,.skip,.skip,.pure] (λ_=>by kernel_rfl) (by kernel_rfl) rfl rfl (λW=>by kernel_rfl) (by kernel_rfl) ?_;intro W G;simp only[Bz,Ϛ,Ι,Χ,Ψ];have ak:=ad.trans (bj.trans G);clear G bl ai qb qk qp bk ck;go_wp2;go_roundw
         case rel=>exact⟨r+1,P.length,by omega,by omega,rfl,by go_num,ak,Α (.inl ⟨rfl,λx hx=>by
          by_cases e:x=r
          ·rw[e,b0.out];exact λh=>by
            have h2:=dr.out.2 h.symm;cases h2
          ·exact fw.out x (by omega)⟩)⟩
         case measure=>simp[intOf];omega
        | true=>
         refine Dv 106 Ξ [iv i,Β (Δ ⟨br,a1,Γ⟩) R.length cr,iv R.length,.bool Τ,.bool Τ,ς,.bool Τ,.bool Τ,ς,ς,ς,ς,ς,ς,ς,ς,ς,ς,ς,ς,.bool Τ] [.keep,.keep,.pure,Gn (η 36) (η 38) i R.length Τ (by simp;try omega),.keep,.skip,.pure,.keep,.skip,.skip,.skip,.skip,.skip,.skip,.skip,.skip,.skip,.skip,.skip,.skip,.pure] (λ_=>by kernel_rfl) (by kernel_rfl) rfl rfl (λW=>by kernel_rfl) (by kernel_rfl) ?_;intro W G;simp only[Bz,Ϛ,Ι,Χ,Ψ];have ak:=ad.trans (bj.trans G);clear G bl ai qb qk qp bk ck;go_wp2;go_roundw
         case rel=>exact⟨r+1,r,by omega,by omega,rfl,by go_num,ak,Α (.inr ⟨a7,by rw[b0.out];exact (dr.out.1 rfl).symm⟩)⟩
         case measure=>simp[intOf];omega
    ·have gh:À (r=P.length\/q≠P.length):=Α (by omega);have bq:=Ah ee.out ad;have cx:=hE.trans ad;have bg:=ad.heap H9.out;have h7:=Α HI.out.len;have gi:∀ v,(Ar λx=>C.getD x 0).setIfInBounds b (iv v)=Ar λx=>(C.set b v).getD x 0:=λv=>by
      rw[Q6 _ _ _ ab];exact Ami λy hy=>by rw[Bb _ _ _ _ _ (by rw[h7.out];exact ab)]
     have gj:=Α gi;clear gi;by_cases gk:q=P.length
     ·subst gk;have ey:=Α (Yc HI.out ab (by
       refine Xe HI.out.fi _ λx hx=>?_
       rcases HB.out with⟨_,h⟩|⟨h,_⟩
       ·rcases gh.out with e|e
        ·exact h x (by omega)
        ·exact absurd rfl e
       ·exact absurd h (Nat.lt_irrefl _)))
      obtain rfl:r=P.length:=by
       rcases gh.out with e|e
       ·exact e
       ·exact absurd rfl e
      have iz:g8<=wr.heap.size:=by have:=fl.out.2;have:=cx.size;omega
      clear HB ad eg;go_upto_region 19 with (fail)
      go_upto_region 20 with (at_builtin;refine Ϙ _ rfl _ _ 68 rfl g8 3 i0 (.int ε 0) 1 8 ϔ hi gy gz hc rfl (by decide) _ _ _ rfl (bq.alloc _) _ 1 1 [iv b] rfl rfl (ϭ _ _ _) (by simp[ό]) (by decide) (by unfold ϛ;omega) (by omega) (by simp;omega) _ rfl ?_;intro gq c7 w7 cz ez _ _)
      have dt:=Ag bg (Ε #[iv b] 3);have b7:=(ez.block g9 (An dt) (λe=>by
       have e':Δ g9=(Ϥ (Δ ⟨g,0,Γ⟩) P.length c).ownBlock:=e;rcases Dr (bq.alloc (Ε #[iv b] 3)) dt (by decide) with h|h
       ·rw[h] at e';cases e'
       ·exact h e'.symm)).trans dt
      have bm:=(cx.alloc (Ε #[iv b] 3)).grown ez (λk e=>by have:=(bq.lt k e).1;have:=fl.out.1;omega);have cz:w7.ownsRow g8 3 1 (Β (Δ ⟨gq,0,Γ⟩) (P++[b]).length c7) (P++[b]).length ((P++[b]).map iv):=by
       rw[Υ,ϝ];exact cz
      clear ez bq bg dt cx;have cn:=Av b7 (Hu _ b ab);have fn:=Ϸ w7 g9 b _ _ b7;have bt:=Ϧ w7 g9 b _ 77 (0,0) (iv P.length) b7;rw[gj.out] at bt;have c1:=cz.kept (Cd w7 g9 (Ar λx=>(C.set b P.length).getD x 0)) (Dr cz b7 (by decide));have aj:=bm.setRow (g:=g9) fs.out (Ar λx=>(C.set b P.length).getD x 0);have c3:=Α (μ w7 g9 _ (Ar λx=>(C.set b P.length).getD x 0) 77 (0,0) b7);rw[<-bt] at c1 aj c3;clear bt cz bm b7;go_wp2;go_roundw
      case rel=>exact⟨C.set b P.length,P++[b],_,gq,c7,b+1,by omega,by rw[Υ];rfl,by go_num,aj,c1,c3,ey⟩
      case measure=>simp[intOf];omega
     ·have h8:q<P.length:=by omega
      have ja:((q:Int)==(P.length:Int))=Τ:=by simp;omega
      have bp:Dl t B R (P.getD q 0)=Dl t B R b:=by
       rcases HB.out with⟨h,_⟩|⟨_,h⟩
       ·exact absurd h gk
       ·exact h
      have ey:=Α (Yb HI.out ab q (by
       exact Xf HI.out.fi _ q h8 bp))
      clear HB ad eg bp;have cn:=Av bg (Hu _ b ab);have fn:=Ϸ wr g9 b _ _ bg;have bt:=Ϧ wr g9 b _ 77 (0,0) (iv q) bg;rw[gj.out] at bt;have c1:=bq.kept (Cd wr g9 (Ar λx=>(C.set b q).getD x 0)) (Dr bq bg (by decide));have aj:=cx.setRow (g:=g9) fs.out (Ar λx=>(C.set b q).getD x 0);have c3:=Α (μ wr g9 _ (Ar λx=>(C.set b q).getD x 0) 77 (0,0) bg);rw[<-bt] at c1 aj c3;clear bt bq cx bg;by_cases h9:r<P.length
      case' pos=>have fv:(r:Int)<(P.length:Int):=by omega
      case' neg=>have fv:¬ (r:Int)<(P.length:Int):=by omega
      all_goals
       clear h9;go_wp2;go_roundw
       case rel=>exact⟨C.set b q,P,f,g,c,b+1,by omega,rfl,by go_num,aj,c1,c3,ey⟩
       case measure=>simp[intOf];omega
  ·obtain rfl:b=256:=by omega
   have gn:=Α hP;obtain⟨Af,b8⟩:∃ A,(Ar λx=>C.getD x 0)=A:=⟨_,rfl⟩;have e3:(Ζ.info? 77).map (·.size)=Δ Af.size:=by rw[<-b8,C3];exact Fj
   have ia:Af.all (·.oneCell')=Ξ:=by rw[<-b8];exact Ht _
   have ib:(Ar λ_=>0).size=Af.size:=by rw[<-b8,C3,C3]
   rw[b8] at H9;have ic:=Α b8;clear b8 hP;go_upto_region 21 with (fail)
   have hd:=(Θ wr).drew;refine B2 3 [(0,Ξ),(1,Ξ),(2,Ξ),(3,Τ)] (by kernel_rfl) (by kernel_rfl) (λ_ _ _ _ h=>h) (λW=>Ext wr W) hd ?_;obtain⟨wx,e5⟩:∃ V,wr.drew=V:=⟨_,rfl⟩;rw[e5] at hd;rw[e5];clear e5;refine Ao (v:=?_) rfl rfl (λV hV=>?_) ?_
   rotate_left
   ·clear hV;go_simp;first|done|with_reducible rfl
   simp only[Ϛ,Ι,Χ,Ψ];refine Ao (v:=.agg Af) rfl rfl (λV hV=>?_) ?_
   ·exact D2 77 (η 9) rfl g9 rfl _ _ _ _ (hV.heap H9.out) Tryz.underlying77 rfl e3
   simp only[Ϛ,Ι,Χ,Ψ];refine Ao (v:=?_) rfl rfl (λV hV=>?_) ?_
   rotate_left
   ·clear hV;go_simp;first|done|with_reducible rfl
   simp only[Ϛ,Ι,Χ,Ψ];have du:=hd.heap (hE.heap H1.out);refine A5 rfl (λK hK=>?_);refine Gf 77 (η 7) (η 105) rfl rfl _ Af rfl rfl _ _ du e3 ib ia ?_;refine hK _ _ (λh=>absurd h (by omega)) ?_;clear hK K;refine B3 ?_;have ie:=Α ((bu.trans (hE.trans hd)).setRow ho.out Af);have ig:À (Ints (wx.setRow g7 Af) (Β (Δ ⟨g,0,Γ⟩) P.length c) P):=Α (OwnI.ints (base:=g8) ((Ah gn.out hd).kept (Cd wx g7 Af) (Dr (Ah gn.out hd) du (by decide))) (by omega));have H8:=Α (μ wx g7 _ Af 77 (0,0) du);clear du;go_wp2;refine ω (v:=ϙ #[Β (Δ ⟨g,0,Γ⟩) P.length c,.agg Af]) (Adz rfl _ _ _ _ _ _ _ rfl _ rfl H8.out Tryz.underlying77 rfl e3) rfl ?_;exact⟨_,P,C,f,by rw[ic.out],HI.out,ig.out,ie.out⟩
open Go.RowKit
inductive Ch where
 | row (e:Á) (size:Nat) (v:Ν) (n:Nat) (xs:List Ν)
 | obj (g:Nat) (o:Obj)
def Ch.At (base:Nat) (W:Λ):Ch->Prop
 | .row e size v n xs=>W.ownsRow base e size v n xs
 | .obj g o=>base<=g/\W.heap[g]? = Δ o
def Ch.own:Ch->Option Nat
 | .row _ _ v _ _=>v.ownBlock
 | .obj g _=>Δ g
theorem Ch.lt {base:Nat} {W:Λ} {c:Ch} (h:c.At base W) (g:Nat) (hg:c.own=Δ g):base<=g/\g<W.heap.size:=by
 cases c with
 | row e size v n xs=>exact Ϡ.lt h g hg
 | obj G o=>
  obtain⟨D,E⟩:=h;cases hg
  exact⟨D,An E⟩
theorem Ch.kept {base:Nat} {W W':Λ} {c:Ch} {row:Option Nat} (h:c.At base W) (hg:W.grownBy W' row) (hn:∀ g,c.own=Δ g->row≠Δ g):c.At base W':=by
 cases c with
 | row e size v n xs=>
  refine Ϡ.kept h hg ?_;cases hv:v.ownBlock with
  | none=>exact .inl rfl
  | some g=>exact .inr (Ne.symm (hn g hv))
 | obj g o=>exact⟨h.1,(hg.block g (An h.2) (Ne.symm (hn g rfl))).trans h.2⟩
structure Hp (w0 W:Λ) (L:List Ch):Prop where
 ext:Ext w0 W
 at_:∀ c∈L,c.At w0.heap.size W
 far:L.Pairwise λc d=>∀ g,c.own=Δ g->d.own≠Δ g
section
variable {w0 W W':World} {L:List Ch}
theorem Hp.nil (w:Λ):Hp w w []:=⟨Θ w,λc D=>(by cases D),List.Pairwise.nil⟩
theorem Hp.nth (h:Hp w0 W L) (i:Nat) {c:Ch} (D:L[i]? = Δ c):c.At w0.heap.size W:=h.at_ c (List.mem_of_getElem? D)
theorem Hp.row (h:Hp w0 W L) (i:Nat) {e:Á} {size:Nat} {v:Ν} {n:Nat} {xs:List Ν} (D:L[i]? = Δ (.row e size v n xs)):W.ownsRow w0.heap.size e size v n xs:=h.nth i D
theorem Hp.obj (h:Hp w0 W L) (i:Nat) {g:Nat} {o:Obj} (D:L[i]? = Δ (.obj g o)):W.heap[g]? = Δ o:=(h.nth i D:_/\_).2
theorem Hp.objLe (h:Hp w0 W L) (i:Nat) {g:Nat} {o:Obj} (D:L[i]? = Δ (.obj g o)):w0.heap.size<=g:=(h.nth i D:_/\_).1
theorem Hp.symm {c d:Ch} (h:∀ g,c.own=Δ g->d.own≠Δ g):∀ g,d.own=Δ g->c.own≠Δ g:=λg hd D=>h g D hd
theorem Hp.farAt (h:Hp w0 W L) {i j:Nat} (G:i≠j) {c d:Ch} (I:L[i]? = Δ c) (hd:L[j]? = Δ d):∀ g,c.own=Δ g->d.own≠Δ g:=by
 obtain⟨hi,rfl⟩:=ϊ.1 I;obtain⟨E,rfl⟩:=ϊ.1 hd;have:=Ϯ.1 h.far;rcases Nat.lt_or_gt_of_ne G with D|D
 ·exact this i j hi E D
 ·exact Hp.symm (this j i E hi D)
theorem Hp.extW (h:Hp w0 W L) (D:Ext W W'):Hp w0 W' L:=⟨h.ext.trans D,λc E=>Ch.kept (h.at_ c E) (D.grownBy Γ) (λ_ _=>by simp),h.far⟩
theorem Hp.alloc (h:Hp w0 W L) (o:Obj):Hp w0 (W.alloc o) L:=h.extW ((Θ W).alloc o)
theorem Hp.grow (h:Hp w0 W L) (i:Nat) {c c':Ch} (I:L[i]? = Δ c) (hg:W.grownBy W' c.own) (U:c'.At w0.heap.size W') (hn:∀ g,c'.own=Δ g->c.own=Δ g\/W.heap.size<=g):Hp w0 W' (L.set i c'):=by
 have hi:=(ϊ.1 I).1;refine⟨h.ext.grown hg (λk e=>(Ch.lt (h.nth i I) k e).1),λd hd=>?_,?_⟩
 ·obtain⟨j,G⟩:=List.getElem?_of_mem hd;rw[List.getElem?_set] at G;by_cases e:i=j
  ·rw[if_pos e,if_pos (by omega)] at G;cases G
   exact U
  ·rw[if_neg e] at G;exact Ch.kept (h.nth j G) hg (λg aa=>(h.farAt (Ne.symm e) G I) g aa)
 ·rw[Ϯ];intro a b ha J ab g E D;rw[List.length_set] at ha J;rw[List.getElem_set] at E D;by_cases M:i=a
  ·rw[if_pos M] at E;rw[if_neg (by omega)] at D;rcases hn g E with e|e
   ·exact h.farAt (i:=i) (j:=b) (by omega) I (Μ J) g e D
   ·have:=(Ch.lt (h.nth b (Μ J)) g D).2;omega
  ·rw[if_neg M] at E;by_cases T:i=b
   ·rw[if_pos T] at D;rcases hn g D with e|e
    ·exact h.farAt (i:=a) (j:=i) (by omega) (Μ ha) I g E e
    ·have:=(Ch.lt (h.nth a (Μ ha)) g E).2;omega
   ·rw[if_neg T] at D;exact h.farAt (i:=a) (j:=b) (by omega) (Μ ha) (Μ J) g E D
theorem Hp.add (h:Hp w0 W L) {c:Ch} (hg:W.grownBy W' Γ) (D:c.At w0.heap.size W') (hn:∀ g,c.own=Δ g->W.heap.size<=g):Hp w0 W' (c::L):=by
 have E:Ext w0 W':=h.ext.grown hg (λk e=>by cases e);refine⟨E,λd hd=>?_,List.pairwise_cons.2 ⟨λd hd g G I=>?_,h.far⟩⟩
 ·rcases List.mem_cons.1 hd with rfl|hd
  ·exact D
  ·exact Ch.kept (h.at_ d hd) hg (λ_ _=>by simp)
 ·have:=(Ch.lt (h.at_ d hd) g I).2;have:=hn g G;omega
theorem Hp.tail {c:Ch} (h:Hp w0 W (c::L)):Hp w0 W L:=⟨h.ext,λd hd=>h.at_ d (List.mem_cons_of_mem _ hd),(List.pairwise_cons.1 h.far).2⟩
theorem Hp.perm {D:List Ch} (h:Hp w0 W L) (E:D.Perm L):Hp w0 W D:=
 ⟨h.ext,λd hd=>h.at_ d (E.mem_iff.1 hd),(E.pairwise_iff (λ{_ _} h=>Hp.symm h)).2 h.far⟩
theorem Hp.park {c:Ch} (h:Hp w0 W (c::L)):Hp w0 W (L++[c]):=h.perm (List.perm_append_comm (l₁:=L) (l₂:=[c]))
theorem Hp.swap {c d:Ch} (h:Hp w0 W (c::d::L)):Hp w0 W (d::c::L):=h.perm (List.Perm.swap c d L)
theorem Hp.put (h:Hp w0 W L) (i:Nat) {e:Á} {size g n D:Nat} {xs:List Ν} (E:L[i]? = Δ (.row e size (Β (Δ ⟨g,0,Γ⟩) n D) n xs)) (j:Nat) (u:Ν) :
  Hp w0 (W.setCell ⟨g,j,Γ⟩ u) (L.set i (.row e size (Β (Δ ⟨g,0,Γ⟩) n D) n (xs.set j u))):=by
 obtain⟨G,I⟩:=Ϡ.stored (h.row i E) j u;exact h.grow i E I G (λg hg=>.inl hg)
theorem Hp.putf {α:Type} {f:α->Ν} (h:Hp w0 W L) (i:Nat) {e:Á} {g n D:Nat} {l:List α} (E:L[i]? = Δ (.row e 1 (Β (Δ ⟨g,0,Γ⟩) n D) n (l.map f))) (k:Nat) (x:α) :
  Hp w0 (W.setCell ⟨g,k,Γ⟩ (f x)) (L.set i (.row e 1 (Β (Δ ⟨g,0,Γ⟩) n D) n ((l.set k x).map f))):=by
 have:=h.put i E k (f x);rw[List.map_set];exact this
theorem Hp.box (h:Hp w0 W L) (i:Nat) {g:Nat} {cs:Array Ν} {t:Á} (E:L[i]? = Δ (.obj g (Ε cs t (0,0)))) (D:Array Ν):Hp w0 (W.setRow g D) (L.set i (.obj g (Ε D t (0,0)))):=
 h.grow i E (Cd W g D) ⟨h.objLe i E,μ W g cs D t (0,0) (h.obj i E)⟩ (λ_ hg=>.inl hg)
theorem Hp.cell (h:Hp w0 W L) (i:Nat) {g:Nat} {cs:Array Ν} {t:Á} (D:L[i]? = Δ (.obj g (Ε cs t (0,0)))) (k:Nat) (u:Ν) {cs':Array Ν} (he:cs.setIfInBounds k u=cs'):Hp w0 (W.setCell ⟨g,k,Γ⟩ u) (L.set i (.obj g (Ε cs' t (0,0)))):=by
 rw[Ϧ W g k cs t (0,0) u (h.obj i D),he];exact h.box i D cs'
theorem Hp.app (h:Hp w0 W L) (i:Nat) {e:Á} {size:Nat} {v:Ν} {n:Nat} {xs:List Ν} (I:L[i]? = Δ (.row e size v n xs)) {g D E:Nat} {G:List Ν} (J:W'.ownsRow w0.heap.size e size (Β (Δ ⟨g,0,Γ⟩) D E) D G) (hg:W.grownBy W' v.ownBlock) (M:v.ownBlock=Δ g\/g=W.heap.size) :
  Hp w0 W' (L.set i (.row e size (Β (Δ ⟨g,0,Γ⟩) D E) D G)):=
 h.grow i I hg J (λk T=>by
  have:g=k:=ύ T;subst this;rcases M with e|e
  ·exact .inl e
  ·exact .inr (by omega))
theorem Hp.new (h:Hp w0 W L) (o:Obj):Hp w0 (W.alloc o) (.obj W.heap.size o::L):=
 h.add (Λ.grownBy_alloc W o Γ) ⟨h.ext.size,heap_alloc_new W o⟩ (λg hg=>by cases hg;exact ν _)
theorem Hp.lit (h:Hp w0 W L) (e:Á) (size:Nat) (cs:Array Ν) (n:Nat) (hm:n<=ϛ) (hs:cs.size=n*size):Hp w0 (W.alloc (Ε cs e)) (.row e size (Β (Δ ⟨W.heap.size,0,Γ⟩) n n) n cs.toList::L):=
 h.add (Λ.grownBy_alloc W _ Γ) (Ý W cs n h.ext.size hm hs) (λg hg=>by cases hg;exact ν _)
theorem Hp.made (h:Hp w0 W L) {e:Á} {size n D:Nat} {xs:List Ν} (E:W'.ownsRow w0.heap.size e size (Β (Δ ⟨W.heap.size,0,Γ⟩) n D) n xs) (hg:W.grownBy W' Γ):Hp w0 W' (.row e size (Β (Δ ⟨W.heap.size,0,Γ⟩) n D) n xs::L):=
 h.add hg E (λg hg=>by cases hg;exact ν _)
theorem Hp.nilRow (h:Hp w0 W L) (e:Á) (size:Nat):Hp w0 W (.row e size (Β Γ 0 0) 0 []::L):=
 h.add ⟨rfl,rfl,rfl,ν _,λ_ _ _=>rfl⟩ (Λ.ownsRow_nil W _ e size) (λg hg=>by cases hg)
theorem Hp.frozen (h:Hp w0 W L) (i:Nat) {g:Nat} {cs:Array Ν} {t:Á} (D:L[i]? = Δ (.obj g (Ε cs t (0,0)))) (k:Nat):W.frozen? ⟨g,k,Γ⟩=Τ:=Ϸ W g k cs t (h.obj i D)
theorem Hp.size (h:Hp w0 W L):w0.heap.size<=W.heap.size:=h.ext.size
end
def C1 (vs:List Ν) (N:List (List Nat)):List Ch:=List.zipWith (λv l=>Ch.row 3 1 v l.length (l.map iv)) vs N
theorem L4 {vs:List Ν} {N:List (List Nat)} (h:vs.length=N.length) (v:Ν) (l:List Nat):C1 (vs++[v]) (N++[l])=C1 vs N++[.row 3 1 v l.length (l.map iv)]:=by
 unfold C1;rw[List.zipWith_append h];rfl
theorem Tu {vs:List Ν} {N:List (List Nat)} (h:vs.length=N.length) (j:Nat) (D:j<N.length):(C1 vs N)[j]? = Δ (.row 3 1 (vs.getD j ς) (N.getD j []).length ((N.getD j []).map iv)):=by
 unfold C1;rw[List.getElem?_zipWith,Μ (by omega),Μ D];simp[Η,D,h]
theorem Hp.rows {w0 W:Λ} {L:List Ch} (h:Hp w0 W L) (i k:Nat) {v:Ν} {vs:List Ν} {N:List (List Nat)} (G:L[i]? = Δ (.row 68 1 v vs.length vs)) (I:∀ j,L[j+k]? = (C1 vs N)[j]?) (D:vs.length=N.length) (hn:N.length<=4611686018427387904) (hm:∀ j,j<N.length->(N.getD j []).length<=4611686018427387904):Rows W v N:=by
 refine⟨vs,D,?_,λj E=>OwnI.ints (h.row (j+k) ((I j).trans (Tu D j E))) (hm j E)⟩;have:=Sl.of_owns (h.row i G) (by rw[D];exact hn) ς;rw[D] at this;exact this
theorem Sr (C:List Nat) (E:C.length=256) (b v:Nat) (D:b<256) (vn va:Ν):(trA (λx=>C.getD x 0) vn va).setIfInBounds b (iv v)=trA (λx=>(C.set b v).getD x 0) vn va:=by
 rw[Ss _ _ _ _ _ D];exact J2 (λy _=>(Bb _ _ _ _ _ (by rw[E];exact D)).symm) _ _
theorem N7 (c:Nat->Nat) (vn va v:Ν):(trA c vn va).setIfInBounds 256 v=trA c v va:=by
 apply Array.ext';rw[Array.toList_setIfInBounds];unfold trA trL;simp only;rw[List.set_append_right _ _ (by simp)];simp
theorem Amz (a:Option Addr) (l c:Nat):Ζ.built 79 [(2,Β a l c)]=Δ (trA (λ_=>0) (Β Γ 0 0) (Β a l c)):=by
 rw[Sq]
 kernel_rfl
theorem Aiq (t:Tbl) (hv:TVal t) (hn:t.n.length<=65536) (A:Array Ν) (w:Λ) (h:IsR w A t) :
  Calls Ζ 99 #[.agg A] w λe w'=>∃ A' C P f,e=θ (.agg A')/\CInv t.cell 256 C P f/\IsR w' A' (Cw t C P)/\Ext w w':=by
 obtain⟨bn,on,cn,ba,oa,ca,ej,ek,c6,c8,c9,da,-⟩:=h.opened hv;obtain⟨i0,hi,dc,dd,de⟩:=Ϟ Cp;obtain⟨i6,eo,ep,er,et⟩:=Ϟ (show (Ζ.info? 68).map (λi=>(i.zero,i.size,i.bytes))=Δ (Δ (Β Γ 0 0),1,24) by kernel_rfl);have gf:(Ζ.info? 79).map (·.size)=Δ A.size:=by rw[ej];exact Co
 have gg:=hv.cle;have df:=Α (λW (I:Ext w W)=>da.ext I);have eu:=Α h;have ev:=Α c6;have b5:=Α c8;have b6:=Α c9;have HV:=Α hv;clear h da c6 c8 c9 ek hv;obtain⟨J,b7⟩:∃ n,t.n.length=n:=⟨_,rfl⟩;have ey:=Α b7;rw[b7] at b5 b6 df hn;clear b7;have a6:=((Hp.nil w).new (Ε A 79)).new (Ε ϖ 79);rw[Ρ] at a6;go_enter Tryz.func99,Tryz.ntmps99;go_upto_region 1 with (fail)
 obtain⟨w1,b8⟩:∃ X,(w.alloc (Ε A 79)).alloc (Ε ϖ 79)=X:=⟨_,rfl⟩;obtain⟨G,b9⟩:∃ y,w.heap.size=y:=⟨_,rfl⟩;obtain⟨g7,cb⟩:∃ y,G+1=y:=⟨_,rfl⟩;rw[b8,b9,cb] at a6;simp only[b8,b9,cb];clear b8 b9 cb;have cA:=Av (a6.obj 1 rfl) b6.out;obtain⟨A9,ax⟩:∃ A9,trA (λ_=>0) (Β Γ 0 0) (Β (Δ ⟨ba,oa,Γ⟩) J ca)=A9:=⟨_,rfl⟩;have dg:À (Ζ.built 79 [(2,Β (Δ ⟨ba,oa,Γ⟩) J ca)]=Δ A9):=Α (by rw[Amz,ax]);have dh:ϖ.size=A9.size:=by rw[Fb,<-ax,Dw]
 have dk:(Ζ.info? 79).map (·.size)=Δ A9.size:=by rw[<-ax,Dw];exact Co
 have dm:A9.all (·.oneCell')=Ξ:=by rw[<-ax];exact G2 _ _ _ rfl rfl
 have dn:=Α ax;clear ax;have ay:=(a6.new (Ε ϖ 79)).box 0 rfl A9;go_upto_region 2 with (first
  | (refine Bw rfl 79 _ rfl A9 ?_ ?_;(simp[Act.eval];with_reducible exact dg.out))
  | (refine Φ rfl 79 (η 3) (η 12) rfl _ A9 rfl rfl _ _ (Aa w1 (Ε ϖ 79)) dk dh dm ?_))
 obtain⟨w2,bo⟩:∃ X,(w1.alloc (Ε ϖ 79)).setRow w1.heap.size A9=X:=⟨_,rfl⟩;obtain⟨g9,cf⟩:∃ y,w1.heap.size=y:=⟨_,rfl⟩;rw[cf] at bo ay;rw[bo] at ay;simp only[cf];simp only[bo];replace ay:Hp w w2 [.obj g9 (Ε (trA (λx=>(ζ 256 0).getD x 0) (Β Γ 0 0) (Β (Δ ⟨ba,oa,Γ⟩) J ca)) 79 (0,0)),.obj g7 (Ε ϖ 79 (0,0)),.obj G (Ε A 79 (0,0))]:=by
  have:=dn.out;rw[J2 (c':=λx=>(ζ 256 0).getD x 0) (λb hb=>by show 0=(ζ 256 0).getD b 0;rw[Η,List.getElem?_replicate];split<;>rfl)] at this;rw[this];exact ay
 clear bo cf cA dg dh dk dm dn a6;have cg:=ay.lit 3 1 #[] 0 (by unfold ϛ;omega) rfl;go_upto_region 3 with (fail)
 obtain⟨w3,cj⟩:∃ X,w2.alloc (Ε #[] 3)=X:=⟨_,rfl⟩;obtain⟨g8,ck⟩:∃ y,w2.heap.size=y:=⟨_,rfl⟩;rw[cj,ck] at cg;simp only[cj,ck];clear cj ck ay;go_wp2_with (fail);go_loopw [4,5] (λvP vb W=>∃ (C P K:List Nat) (f:Nat->Option Nat) (g c b:Nat),b<=256/\vP=Β (Δ ⟨g,0,Γ⟩) K.length c/\vb=.int ε b/\
   Hp w W [.row 3 1 (Β (Δ ⟨g,0,Γ⟩) K.length c) K.length (K.map iv),.obj g9 (Ε (trA (λx=>C.getD x 0) (Β Γ 0 0) (Β (Δ ⟨ba,oa,Γ⟩) J ca)) 79 (0,0)),.obj g7 (Ε ϖ 79 (0,0)),.obj G (Ε A 79 (0,0))]/\À (CInv t.cell b C P f/\K=P.map t.cell))
  (λ_ vb _=>256-(intOf vb).toNat)
 case atStart=>exact⟨ζ 256 0,[],[],λ_=>Γ,g8,0,0,by omega,rfl,rfl,cg,Α ⟨Ya _,rfl⟩⟩
 case round=>
  clear cg;obtain⟨C,P,K,f,g,c,b,hb,rfl,rfl,D,M⟩:=hrel;have dp:K.length=P.length:=by rw[M.out.2,List.length_map]
  have gi:K.length<=256:=by have:=M.out.1.fi.le;omega
  have bp:=Α dp;have cm:=Α (λk (hk:k<K.length)=>(show K.getD k 0=t.cell (P.getD k 0) by
   rw[M.out.2] at hk ⊢;exact M3 _ _ _ (by simpa using hk)))
  clear dp;by_cases T:b<256
  ·have e3:(b:Int)<256:=by omega
   obtain⟨kb,dq⟩:∃ x,t.cell b=x:=⟨_,rfl⟩;have bq:=Α dq;clear dq;go_wp2_with (fail);go_loopw [6] (λvk W=>∃ k:Nat,k<=K.length/\vk=.int ε k/\Ext wr W/\À (∀ x,x<k->K.getD x 0≠kb))
    (λvk _=>K.length-(intOf vk).toNat)
   case atStart=>exact⟨0,by omega,rfl,Θ wr,Α (λx hx=>by omega)⟩
   case round=>
    obtain⟨wo,e4⟩:∃ W,W=wr:=⟨_,rfl⟩;subst e4;obtain⟨k,hk,rfl,bb,HK⟩:=hrel;have aa:=D.extW bb;have qb:=λW (I:Ext wo W)=>Av (I.heap (aa.obj 3 rfl)) (ev.out b T)
    rw[bq.out] at qb;go_upto_region 7 with (fail)
    by_cases bc:k<K.length
    ·obtain⟨pk,cq⟩:∃ x,K.getD k 0=x:=⟨_,rfl⟩;have qp:=λW (I:Ext wo W)=>Am 0 (Ah (aa.row 0 rfl) I) rfl k bc
     rw[cq] at qp;have dv:=Α cq;clear cq;by_cases bt:pk=kb
     ·have e5:=Α bt;refine Dv 85 Ξ [iv k,Β (Δ ⟨g,0,Γ⟩) K.length c,iv K.length,.bool Ξ,.bool Ξ,Β (Δ ⟨g,0,Γ⟩) K.length c,iv k,Ω (Δ ⟨g,k,Γ⟩),iv pk,iv b,Ω (Δ ⟨G,0,Γ⟩),Ω (Δ ⟨G,b,Γ⟩),iv kb,.bool Τ,.bool Τ] [.keep,.keep,.pure,Gn (η 18) (η 20) k K.length Ξ (by simp;try omega),.keep,.keep,.keep,Gp (η 23) (η 24) g K.length c k bc,ld3 (η 25) g k _ qp,.keep,.pure,E4 (η 28) (η 27) G b T,ld3 (η 29) G b _ qb,Iv (η 26) (η 30) pk kb Τ (by simp;try omega),.pure] (λ_=>by kernel_rfl) (by kernel_rfl) rfl rfl (λW=>by kernel_rfl) (by kernel_rfl) ?_;intro W I;simp only[Bz,Ϛ,Ι,Χ,Ψ];have ai:=aa.extW I;have dw:((k:Int)==(K.length:Int))=Τ:=by simp;omega
      have bu:=Α (Yb M.out.1 T k (Xf M.out.1.fi _ k (by have:=bp.out;omega) (by rw[<-cm.out k bc,dv.out,e5.out,bq.out])));have ct:=Α M.out.1.len;have cn:=Av (ai.obj 1 rfl) (Ih _ _ _ b T);have fn:=ai.frozen 1 rfl b;have e6:=ai.cell 1 rfl b (iv k) (Sr C ct.out b k T _ _);clear ai aa I bb qb qp bt;go_wp2;go_roundw
      case rel=>exact⟨C.set b k,P,K,f,g,c,b+1,by omega,rfl,by go_num,e6,Α ⟨bu.out,M.out.2⟩⟩
      case measure=>simp[intOf];omega
     ·have e7:À (∀ x,x<k+1->K.getD x 0≠kb):=Α λx hx=>by
       by_cases e:x=k
       ·rw[e,dv.out];exact bt
       ·exact HK.out x (by omega)
      refine Dv 85 Ξ [iv k,Β (Δ ⟨g,0,Γ⟩) K.length c,iv K.length,.bool Ξ,.bool Ξ,Β (Δ ⟨g,0,Γ⟩) K.length c,iv k,Ω (Δ ⟨g,k,Γ⟩),iv pk,iv b,Ω (Δ ⟨G,0,Γ⟩),Ω (Δ ⟨G,b,Γ⟩),iv kb,.bool Ξ,.bool Ξ] [.keep,.keep,.pure,Gn (η 18) (η 20) k K.length Ξ (by simp;try omega),.keep,.keep,.keep,Gp (η 23) (η 24) g K.length c k bc,ld3 (η 25) g k _ qp,.keep,.pure,E4 (η 28) (η 27) G b T,ld3 (η 29) G b _ qb,Iv (η 26) (η 30) pk kb Ξ (by simp;try omega),.pure] (λ_=>by kernel_rfl) (by kernel_rfl) rfl rfl (λW=>by kernel_rfl) (by kernel_rfl) ?_;intro W I;simp only[Bz,Ϛ,Ι,Χ,Ψ];have e8:=bb.trans I;clear aa I bb qb qp bt;go_wp2;go_roundw
      case rel=>exact⟨k+1,by omega,by go_num,e8,e7⟩
      case measure=>simp[intOf];omega
    ·obtain rfl:k=K.length:=by omega
     refine Dv 85 Ξ [iv K.length,Β (Δ ⟨g,0,Γ⟩) K.length c,iv K.length,.bool Τ,.bool Τ,ς,ς,ς,ς,ς,ς,ς,ς,ς,.bool Τ] [.keep,.keep,.pure,Gn (η 18) (η 20) K.length K.length Τ (by simp;try omega),.keep,.skip,.skip,.skip,.skip,.skip,.skip,.skip,.skip,.skip,.pure] (λ_=>by kernel_rfl) (by kernel_rfl) rfl rfl (λW=>by kernel_rfl) (by kernel_rfl) ?_;intro W I;simp only[Bz,Ϛ,Ι,Χ,Ψ];have ai:=aa.extW I;have dw:((K.length:Int)==(K.length:Int))=Ξ:=by simp
     have bu:=Α (Yc M.out.1 T (Xe M.out.1.fi _ λx hx=>by
      have dx:x<K.length:=by have:=bp.out;omega
      rw[<-cm.out x dx,bq.out];exact HK.out x dx))
     rw[<-bp.out] at bu;have ct:=Α M.out.1.len;have dy:=ai.size;have e9:=qb W I;clear aa bb qb bc;go_upto_region 10 with (fail)
     go_upto_region 11 with (at_builtin;refine Ϙ _ rfl _ _ 68 rfl w.heap.size 3 i0 (.int ε 0) 1 8 ϔ hi dc dd de rfl (by decide) _ _ _ rfl ((ai.row 0 rfl).alloc _) _ 1 1 [iv kb] rfl rfl (ϭ _ _ _) (by simp[ό]) (by decide) (by unfold ϛ;omega) (by omega) (by simp;omega) _ rfl ?_;intro gq c7 w7 bh ak al _)
     have U:=(ai.alloc (Ε #[iv kb] 3)).app 0 rfl bh ak al;have cn:=Av (U.obj 1 rfl) (Ih _ _ _ b T);have fn:=U.frozen 1 rfl b;have cu:=U.cell 1 rfl b (iv K.length) (Sr C ct.out b K.length T _ _);clear bh ak al U ai e9 dw I;go_wp2;go_roundw
     case rel=>exact⟨C.set b K.length,P++[b],K++[kb],_,gq,c7,b+1,by omega,by rw[Υ];rfl,by go_num,by rw[Υ,ϝ];exact cu,Α ⟨bu.out,by rw[ϝ,<-M.out.2,<-bq.out];rfl⟩⟩
     case measure=>simp[intOf];omega
  ·obtain rfl:b=256:=by omega
   clear T;have eb:=D.nilRow 68 1;have fa:=Α M.out.1;have fb:=Α M.out.2;have fc:=Α (λk (hk:k<K.length)=>(show K.getD k 0<t.cells by
    rw[cm.out k hk];exact HV.out.cell_lt _ (M.out.1.fi.byte k (by have:=bp.out;omega)).1))
   clear D;go_wp2_with (fail);go_loopw [7] (λvs W=>∃ (N:List (List Nat)) (E:List Ν) (vn:Ν) (s:Nat),s<=J/\vs=.int ε s/\
     Hp w W (.row 68 1 vn E.length E::.row 3 1 (Β (Δ ⟨g,0,Γ⟩) K.length c) K.length (K.map iv)::.obj g9 (Ε (trA (λx=>C.getD x 0) vn (Β (Δ ⟨ba,oa,Γ⟩) J ca)) 79 (0,0))::.obj g7 (Ε ϖ 79 (0,0))::.obj G (Ε A 79 (0,0))::C1 E N)/\
     À (E.length=N.length/\N=(ι s).map λj=>K.map λk=>t.ent2 j k))
    (λvs _=>J-(intOf vs).toNat)
   case atStart=>exact⟨[],[],Β Γ 0 0,0,by omega,rfl,eb,Α ⟨rfl,rfl⟩⟩
   case round=>
    clear eb;obtain⟨N,E,vn,s,hs,rfl,D,HN⟩:=hrel;have gj:E.length<=65536:=by rw[HN.out.1,HN.out.2];simp;omega
    have cN:=Av (D.obj 4 rfl) b5.out;by_cases T:s<J
    ·have e3:(s:Int)<(J:Int):=by omega
     have aa:=D.lit 3 1 #[] 0 (by unfold ϛ;omega) rfl;go_upto_region 16 with (fail)
     obtain⟨w4,cv⟩:∃ X,wr.alloc (Ε #[] 3)=X:=⟨_,rfl⟩;obtain⟨gr,cw⟩:∃ y,wr.heap.size=y:=⟨_,rfl⟩;rw[cv,cw] at aa;simp only[cv,cw];clear cv cw D cN;go_wp2_with (fail);go_loopw [8,9] (λvr vk W=>∃ (r:List Nat) (g' c' k:Nat),k<=K.length/\vr=Β (Δ ⟨g',0,Γ⟩) r.length c'/\vk=.int ε k/\
       Hp w W (.row 3 1 (Β (Δ ⟨g',0,Γ⟩) r.length c') r.length (r.map iv)::.row 68 1 vn E.length E::.row 3 1 (Β (Δ ⟨g,0,Γ⟩) K.length c) K.length (K.map iv)::.obj g9 (Ε (trA (λx=>C.getD x 0) vn (Β (Δ ⟨ba,oa,Γ⟩) J ca)) 79 (0,0))::.obj g7 (Ε ϖ 79 (0,0))::.obj G (Ε A 79 (0,0))::C1 E N)/\À (r=(K.take k).map λk=>t.ent2 s k))
      (λ_ vk _=>K.length-(intOf vk).toNat)
     case atStart=>exact⟨[],gr,0,0,by omega,rfl,rfl,aa,Α rfl⟩
     case round=>
      clear aa;obtain⟨r,g',c',k,hk,rfl,rfl,D,HR⟩:=hrel;have gl:r.length<=256:=by rw[HR.out];simp;omega
      by_cases bw:k<K.length
      ·have gm:(k:Int)<(K.length:Int):=by omega
       go_upto_region 19 with (fail)
       obtain⟨q,hq⟩:∃ x,K.getD k 0=x:=⟨_,rfl⟩;have ec:=fc.out k bw;rw[hq] at ec;obtain⟨br,b0,cr,ee,ef⟩:=df.out w (Θ w) s T;have cy:=ef q ec;obtain⟨z,hz⟩:∃ x,t.ent2 s q=x:=⟨_,rfl⟩;rw[hz] at cy;have fh:À (r++[z]=(K.take (k+1)).map λk=>t.ent2 s k):=Α (by
        rw[List.take_succ_eq_append_getElem bw,ϝ,<-HR.out,<-hz,<-hq];simp[Η,bw])
       have c2:=Α (λ(X:Λ) (ch:Ch) (h:Hp w X (ch::.row 68 1 vn E.length E::.row 3 1 (Β (Δ ⟨g,0,Γ⟩) K.length c) K.length (K.map iv)::.obj g9 (Ε (trA (λx=>C.getD x 0) vn (Β (Δ ⟨ba,oa,Γ⟩) J ca)) 79 (0,0))::.obj g7 (Ε ϖ 79 (0,0))::.obj G (Ε A 79 (0,0))::C1 E N))=>
        (show X.cell? ⟨G,256,Γ⟩=Δ (Β (Δ ⟨bn,on,Γ⟩) J cn)/\X.cell? ⟨bn,on+s,Γ⟩=Δ (Β (Δ ⟨br,b0,Γ⟩) t.cells cr)/\X.cell? ⟨br,b0+q,Γ⟩=Δ (iv z)/\X.cell? ⟨g,k,Γ⟩=Δ (iv q) from
         ⟨Av (h.obj 5 rfl) b5.out,h.ext.cell ee,h.ext.cell cy,by rw[<-hq];exact Am 0 (h.row 2 rfl) rfl k bw⟩))
       clear ef hq hz ee cy;have au:=D.extW (Θ wr).drew;refine B2 14 [(0,Ξ),(1,Ξ),(2,Ξ),(3,Ξ),(4,Ξ),(5,Ξ),(6,Ξ),(7,Ξ),(8,Ξ),(9,Ξ),(10,Ξ),(11,Ξ),(12,Τ),(13,Τ),(14,Τ)] (by kernel_rfl) (by kernel_rfl) (λ_ _ _ _ h=>h)
        (λW=>W.cell? ⟨G,256,Γ⟩=Δ (Β (Δ ⟨bn,on,Γ⟩) J cn)/\W.cell? ⟨bn,on+s,Γ⟩=Δ (Β (Δ ⟨br,b0,Γ⟩) t.cells cr)/\W.cell? ⟨br,b0+q,Γ⟩=Δ (iv z)/\W.cell? ⟨g,k,Γ⟩=Δ (iv q)) (c2.out _ _ au) ?_
       clear D;obtain⟨wd,c3⟩:∃ X,wr.drew=X:=⟨_,rfl⟩;rw[c3] at au;rw[c3];clear c3;iterate 12
        refine Ao (v:=?_) rfl rfl (λV hV=>?_) ?_
        rotate_left
        ·obtain⟨v1,v2,v3,v4⟩:=hV;go_simp;first|done|with_reducible rfl
        simp only[Ϛ,Ι,Χ,Ψ]
       have dy:=au.size;refine A5 rfl (λKq an=>?_);go_simp;refine an _ _ (λ_=>c2.out _ _ (au.alloc _)) ?_;clear an Kq;refine A5 rfl (λKq an=>?_);refine step_append_lies _ rfl _ _ 68 rfl w.heap.size 3 i0 (.int ε 0) 1 8 ϔ hi dc dd de rfl (by decide) _ _ _ rfl ((au.row 0 rfl).alloc _) _ 1 1 [iv z] rfl rfl (ϭ _ _ _) (by simp[ό]) (by decide) (by unfold ϛ;omega) (by omega) (by simp;omega) _ rfl ?_;intro gq c7 w7 bh ak al _;have U:=(au.alloc (Ε #[iv z] 3)).app 0 rfl bh ak al;clear bh ak al au;refine an _ _ (λ_=>c2.out _ _ U) ?_;clear an Kq;refine A5 rfl (λKq an=>?_);go_simp;refine an _ _ (λh=>absurd h (by omega)) ?_;clear an Kq;refine B3 ?_;go_wp2;go_roundw
       case rel=>exact⟨r++[z],gq,c7,k+1,by omega,by rw[Υ];rfl,by go_num,by rw[Υ,ϝ];exact U,fh⟩
       case measure=>simp[intOf];omega
      ·obtain rfl:k=K.length:=by omega
       have fl:À (r=K.map λk=>t.ent2 s k):=Α (by rw[HR.out,List.take_length]);have c1:=Av (D.obj 3 rfl) (Gc _ _ _);have dy:=D.size;go_upto_region 14 with (at_builtin;refine Ϙ _ rfl _ _ 27 rfl w.heap.size 68 i6 (Β Γ 0 0) 1 24 Tryz.underlying27 eo ep er et rfl (by decide) vn E.length E rfl ((D.row 1 rfl).alloc _) _ 1 1 [Β (Δ ⟨g',0,Γ⟩) r.length c'] rfl rfl (ϭ _ _ _) (by simp[ό]) (by decide) (by unfold ϛ;omega) (by omega) (by simp;omega) _ rfl ?_;intro gq c7 w7 eg ak al _;have U:=(D.alloc (Ε #[Β (Δ ⟨g',0,Γ⟩) r.length c'] 68)).app 1 rfl eg ak al;have fo:=Av (U.obj 3 rfl) (Gc _ _ _);have f17:=U.frozen 3 rfl 256)
       have cu:=(U.cell 3 rfl 256 (Β (Δ ⟨gq,0,Γ⟩) (E.length+1) c7) (N7 _ _ _ _)).park;clear c1 fo f17 eg ak al U D;have fp:À ((E++[Ϥ (Δ ⟨g',0,Γ⟩) r.length c']).length=(N++[r]).length/\N++[r]=(ι (s+1)).map λj=>K.map λk=>t.ent2 j k):=Α ⟨by rw[Υ,Υ,HN.out.1];rfl,by rw[List.range_succ,ϝ,<-HN.out.2,fl.out];rfl⟩;go_wp2;go_roundw
       case rel=>exact⟨N++[r],E++[Β (Δ ⟨g',0,Γ⟩) r.length c'],_,s+1,by omega,by go_num,by rw[L4 HN.out.1,Υ];exact cu,fp⟩
       case measure=>simp[intOf];omega
    ·obtain rfl:s=J:=by omega
     obtain⟨Af,a1⟩:∃ X,trA (λx=>C.getD x 0) vn (Β (Δ ⟨ba,oa,Γ⟩) s ca)=X:=⟨_,rfl⟩;have fq:vn.oneCell'=Ξ:=by
      obtain⟨a,cp,rfl⟩:=Eo (D.row 0 rfl);rfl
     have c4:(Ζ.info? 79).map (·.size)=Δ Af.size:=by rw[<-a1,Dw];exact Co
     have fs:Af.all (·.oneCell')=Ξ:=by rw[<-a1];exact G2 _ _ _ fq rfl
     have ft:ϖ.size=Af.size:=by rw[Fb,<-a1,Dw]
     rw[a1] at D;have fu:=Α a1;have HO:=Α (D.obj 2 rfl);have fw:=Α (D.obj 3 rfl);clear a1;go_wp2_with (first
      | (refine Ο rfl 79 (η 3) rfl _ rfl _ _ _ _ HO.out Ϻ rfl c4 ?_)
      | (refine Φ rfl 79 (η 2) (η 84) rfl _ Af rfl rfl _ _ fw.out c4 ft fs ?_))
     have b4:=D.box 3 rfl Af;refine ω (v:=.agg Af) (results_cell_row rfl _ _ _ _ _ _ _ rfl (b4.obj 3 rfl) Ϻ rfl c4) rfl ?_;refine⟨Af,C,P,f,rfl,fa.out,?_,b4.ext⟩;obtain⟨fx,eh,fy,-,fz⟩:=eu.out.ext b4.ext;have ga:eh=Β (Δ ⟨ba,oa,Γ⟩) s ca:=by
      have:=J3 t.cell fx eh;rw[<-fy,b6.out] at this;exact (ύ this).symm
     have hN:(Cw t C P).n=N:=by
      rw[HN.out.2,fb.out];simp[Cw,ey.out,Function.comp_def]
     refine⟨vn,_,fu.out.symm,?_,by rw[<-ga];exact fz⟩;rw[hN];exact b4.rows 0 5 rfl (λj=>rfl) HN.out.1 (by rw[HN.out.2];simp;omega) (λj hj=>by
      have gd:j<s:=by rw[HN.out.2] at hj;simpa using hj
      rw[HN.out.2];simp[Η,gd];omega)
def Zw (t:Tbl):Prop:=∀ (A:Array Ν) (w:Λ),IsR w A t->Calls Ζ 57 #[.agg A] w λe w'=>∃ v d,e=θ v/\IsD w' v d/\Cano d/\(∀ u,d.has u=t.has u)/\Ext w w'
theorem Aid (t:Tbl) (hv:TVal t) (hm:Zw t) (A:Array Ν) (w:Λ) (h:IsR w A t) :
  Calls Ζ 61 #[.agg A] w λe w'=>∃ r,ResOf w' e r/\Lim (λu=>t.has u=Ξ) r/\Ext w w':=by
 obtain⟨_,_,_,_,_,_,aq,az,_⟩:=h.opened hv;have a1:(Ζ.info? 79).map (·.size)=Δ A.size:=by rw[aq];exact Co
 have a6:=Α h;have HV:=Α hv;have ab:=((Θ w).alloc (Ε A 79)).alloc (Ε #[Β Γ 0 0,Β Γ 0 0,Β Γ 0 0] 30);have H0:=Ag (Aa w (Ε A 79)) (Ε #[Β Γ 0 0,Β Γ 0 0,Β Γ 0 0] 30);have H1:=Ϗ w (Ε A 79) (Ε #[Β Γ 0 0,Β Γ 0 0,Β Γ 0 0] 30);clear h hv aq az;go_enter Tryz.func61,Tryz.ntmps61;go_upto_region 1 with (fail)
 obtain⟨w1,ad⟩:∃ W,(w.alloc (Ε A 79)).alloc (Ε #[Β Γ 0 0,Β Γ 0 0,Β Γ 0 0] 30)=W:=⟨_,rfl⟩;have bf:w1.heap.size=w.heap.size+1+1:=by rw[<-ad,Ρ,Ρ]
 rw[ad] at ab H0 H1;simp only[ad];clear ad;have a7:=Α H0;have a8:=Α H1;clear H0 H1;have hC:=Α (hm A w1 (a6.out.ext ab));go_upto_region 2 with (first
  | (refine Ο rfl 79 (η 1) rfl _ rfl _ _ _ _ a7.out Ϻ rfl a1 ?_)
  | (go_at_call 57;with_reducible refine hC.out.mono ?_;rintro e D ⟨v,d,rfl,hD,au,aw,ax⟩;obtain⟨ac,I,cc,E,G,J,M,T,rfl⟩:=hD.agg)
  | (refine Φ rfl 30 (η 4) (η 6) rfl _ _ rfl rfl _ _ (Aa D _) Ad rfl (Aq _ _ _ rfl rfl rfl) ?_))
 have ae:=ax.trans (((Θ D).alloc (Ε #[Β Γ 0 0,Β Γ 0 0,Β Γ 0 0] 30)).setRow (ν _) (dA (Β ac I cc) (Β E d.n.length G) (Β J M T)));have aj:=hD.ext (((Θ D).alloc (Ε #[Β Γ 0 0,Β Γ 0 0,Β Γ 0 0] 30)).setRow (ν _) (dA (Β ac I cc) (Β E d.n.length G) (Β J M T)));have af:=μ (D.alloc (Ε #[Β Γ 0 0,Β Γ 0 0,Β Γ 0 0] 30)) D.heap.size _ (dA (Β ac I cc) (Β E d.n.length G) (Β J M T)) _ _ (Aa D _);obtain⟨w3,al⟩:∃ W,(D.alloc (Ε #[Β Γ 0 0,Β Γ 0 0,Β Γ 0 0] 30)).setRow D.heap.size (dA (Β ac I cc) (Β E d.n.length G) (Β J M T))=W:=⟨_,rfl⟩;rw[al] at ae aj af;simp only[al];clear al hD ax;have U:=Α (ae.heap a8.out);have ba:=Α aj;have ao:=Α au;have HH:=Α aw;have c1:=(cell_of_row w3 D.heap.size 1 _ _ _ af).trans (show (dA (Β ac I cc) (Β E d.n.length G) (Β J M T))[1]? = Δ (Β E d.n.length G) from rfl);have bb:=Α af;clear aj au aw af hC;by_cases bc:64<d.n.length
 ·have bd:=Α Dn;go_wp2_with (first
   | (refine Bw rfl 30 _ rfl #[Β Γ 0 0,Β Γ 0 0,Β Γ 0 0] ?_ ?_;(simp;with_reducible exact bd.out))
   | (refine Φ rfl 30 (η 2) (η 11) rfl _ _ rfl rfl _ _ U.out Ad rfl C8 ?_))
  refine ω (v:=ϙ #[zD,.int ε 2]) (A3 rfl _ _ _ _ _ _ _ rfl _ rfl (μ w3 _ _ #[Β Γ 0 0,Β Γ 0 0,Β Γ 0 0] 30 (0,0) U.out) Κ rfl Ad) rfl ?_;exact⟨Γ,rfl,⟨d,ao.out,λu=>by rw[HH.out],bc⟩,(ab.trans ae).setRow (by omega) _⟩
 ·go_wp2_with (first
   | (refine Ο rfl 30 (η 4) rfl _ rfl _ _ _ _ bb.out Κ rfl Ad ?_)
   | (refine Φ rfl 30 (η 2) (η 12) rfl _ _ rfl rfl _ _ U.out Ad rfl (Aq _ _ _ rfl rfl rfl) ?_))
  refine ω (v:=ϙ #[.agg (dA (Β ac I cc) (Β E d.n.length G) (Β J M T)),.int ε 0]) (A3 rfl _ _ _ _ _ _ _ rfl _ rfl (μ w3 _ _ (dA (Β ac I cc) (Β E d.n.length G) (Β J M T)) 30 (0,0) U.out) Κ rfl Ad) rfl ?_;exact⟨Δ d,⟨_,rfl,ba.out.setRow ao.out.val U.out _⟩,⟨ao.out,λu=>by rw[HH.out],by omega⟩,(ab.trans ae).setRow (by omega) _⟩
end Go.Proofs.YtaiogolidlamiaaGreatDoor
