import Derived.Maps.AppendAt
import Derived.Test.YtaiogolidlamiaaGreatDoorM06
import Derived.Test.YtaiogolidlamiaaGreatDoorM10
import Derived.Test.YtaiogolidlamiaaGreatDoorM05
import Derived.Test.YtaiogolidlamiaaGreatDoorM08
import Derived.Lib.SliceRun
set_option linter.unusedVariables false
set_option linter.unusedSimpArgs false
open Bool renaming true → Ξ, false → Τ
open Go renaming World → Κ, Operand → ϻ, Value → Ρ, maxLen → ϙ, Calls → Ϝ, heap_alloc2_new → Ϙ, wpList_load_row → Υ, cell_of_row → Ω, frozen_of_row → Ϯ, info_parts → ϕ, undef → ς, wpList_store_row → Φ, setRow_heap → μ, bodyPost_ret → ϋ
open Go.Ending renaming returned → ν
open Go.IntKind renaming i64 → ζ
open Go.Lib renaming hid → Α
open Go.Obj renaming cells → Ε
open Go.Operand renaming tmp → η
open Go.Proofs.Tryz renaming prog → Η, underlying30 → Ν, underlying28 → Ã
open Go.RowKit renaming Hid → Ϻ
open Go.Value renaming slice → Β, pointer → γ, bool → ο, slice → ϟ
open Go.World renaming size_alloc → Λ
open List renaming replicate → δ, getElem?_toArray → Ü, getElem?_cons_zero → Ö, getElem?_cons_succ → É, setIfInBounds_toArray → Θ, set_cons_zero → Χ, set_cons_succ → Ψ, range → ι, length_set → ύ, length_map → Ϗ, length_range → Þ, getElem?_eq_none → Ϩ
open Nat renaming le_trans → ψ, le_refl → θ, lt_of_lt_of_le → ε
open Option renaming some → Δ, none → Γ
open Option.some renaming inj → ω
namespace Go.Proofs.YtaiogolidlamiaaGreatDoor
set_option maxRecDepth 100000
set_option maxHeartbeats 2000000
open Go.RowKit Go.Shelf
theorem Hu {P:Program} (w:Κ) {o:Oper} {a:Act} {K:Act->Κ->Prop} {Q:Exit->Act->Κ->Prop}
  (l c:ϻ) (t:TypeId) (G:o.op=Op.makeSlice t l c)
  (base:Nat) (e:TypeId) (i:TypeInfo) (z:Ρ) (size:Nat) (H:P.underlying t=Δ (.slice e)) (I:P.info? e=Δ i) (J:i.zero=Δ z) (M:i.size=size)
  (D E:IntKind) (L C:Int) (n:Nat) (T:a.eval l=.int D L) (U:a.eval c=.int E C) (hL:L=(n:Int)) (hC:C=(n:Int)) (b2:i.bytes*n<=281474976710656) (b3:n<=ϙ) (b4:base<=w.heap.size)
  (hK:∀ w',w'.ownsRow base e size (Β (Δ ⟨w.heap.size,0,Γ⟩) n n) n (madeCells z.cells (n*size)).toList->w.grownBy w' Γ->K (a.put o.dst (Β (Δ ⟨w.heap.size,0,Γ⟩) n n)) w') :
  o.wp P a w K Q:=by
 obtain⟨w',af,r1,r2⟩:=run_make_full (P:=P) w base t e i z size H I J M D E n b2 b3 b4;subst hL;subst hC;unfold Oper.wp;simp[execOp,G,T,U,af,Result.andThen];exact hK w' r1 r2
theorem Qy (a D E:Option Addr) (n G H c I J:Nat):Η.built 30 [(0,Β a n c),(1,Β D G I),(2,Β E H J)]=Δ (dA (Β a n c) (Β D G I) (Β E H J)):=by kernel_rfl
theorem Mo:(Η.info? 68).map (λi=>(i.zero,i.size,i.bytes))=Δ (Δ (Β Γ 0 0),1,24):=by kernel_rfl
theorem O5 (a s g:Nat) (W:Κ) (J:W.cell? ⟨g,0,Γ⟩=Δ (iv a)) :
  Ϝ Η 49 #[iv s,γ (Δ ⟨g,0,Γ⟩)] W λe w'=>e=ν (iv (swp a s))/\w'=W:=by
 go_enter Tryz.func49,Tryz.ntmps49;unfold swp;obtain⟨G,H⟩:∃ b,((s:Int)==0)=b:=⟨_,rfl⟩;obtain⟨b1,I⟩:∃ b,((s:Int)==(a:Int))=b:=⟨_,rfl⟩;have D:(s=0)↔G=Ξ:=by rw[<-H];simp
 have E:(s=a)↔b1=Ξ:=by rw[<-I];simp;omega
 cases G
 ·rw[if_neg (λh=>by simpa using D.1 h)];cases b1
  ·rw[if_neg (λh=>by simpa using E.1 h)];clear D E;go_wp2;go_ret;exact⟨rfl,rfl⟩
  ·rw[if_pos (E.2 rfl)];clear D E;go_wp2;go_ret;exact⟨rfl,rfl⟩
 ·rw[if_pos (D.2 rfl)];clear D E;go_wp2;go_ret;exact⟨rfl,rfl⟩
theorem Gr {w:Κ} {p:Addr} {v:Ρ} (h:w.cell? p=Δ v):p.block<w.heap.size:=by
 rcases Nat.lt_or_ge p.block w.heap.size with D|D
 ·exact D
 ·unfold Κ.cell? at h;rw[Array.getElem?_eq_none D] at h;simp at h
theorem L9 {W:Κ} {base D e size:Nat} {v:Ρ} {n:Nat} {xs:List Ρ} (h:W.ownsRow base e size v n xs) (G:D<=base):W.ownsRow D e size v n xs:=by
 obtain⟨E,H|⟨g,I,cur,hv,hg,rest⟩⟩:=h
 ·exact⟨E,.inl H⟩
 ·exact⟨E,.inr ⟨g,I,cur,hv,ψ G hg,rest⟩⟩
def Of (D n E:Nat) (G vn:Ρ):Nat->Ρ->Κ->Prop
 | 0,v,_=>v=γ (Δ ⟨E,0,Γ⟩)
 | 1,v,_=>v=G
 | 2,v,_=>v=γ (Δ ⟨E,1,Γ⟩)
 | 3,v,_=>v=vn
 | 4,v,_=>v=iv n
 | 5,v,W=>∃ g,v=Β (Δ ⟨g,0,Γ⟩) n n/\W.ownsRow D 68 1 v n (δ n (Β Γ 0 0))
 | 6,v,_=>v=γ (Δ ⟨E,1,Γ⟩)
 | 7,v,_=>v=vn
 | 8,v,_=>v=iv n
 | 9,v,W=>∃ g,v=Β (Δ ⟨g,0,Γ⟩) n n/\W.ownsRow D 4 1 v n ((δ n Τ).map ο)
 | 10,v,W=>∃ H I,v=.agg (dA G (Β (Δ ⟨H,0,Γ⟩) n n) (Β (Δ ⟨I,0,Γ⟩) n n))/\W.ownsRow D 68 1 (Β (Δ ⟨H,0,Γ⟩) n n) n (δ n (Β Γ 0 0))/\W.ownsRow D 4 1 (Β (Δ ⟨I,0,Γ⟩) n n) n ((δ n Τ).map ο)
 | _,v,W=>∃ g,v=γ (Δ ⟨g,0,Γ⟩)/\W.heap[g]? = Δ (Ε #[Β Γ 0 0,Β Γ 0 0,Β Γ 0 0] 30 (0,0))/\D<=g
def Gh (_ _:Nat) (_ _:Ρ):Prop:=True
theorem Ik (i j:Nat) (v u:Ρ) (_:Gh i j v u):Gh j i u v:=trivial
theorem Aee (I n J:Nat) (M vn:Ρ):∀ (i:Nat) (v:Ρ) (w w':Κ),Of I n J M vn i v w->Ext w w'->Of I n J M vn i v w'
 | 0,_,_,_,h,_=>h
 | 1,_,_,_,h,_=>h
 | 2,_,_,_,h,_=>h
 | 3,_,_,_,h,_=>h
 | 4,_,_,_,h,_=>h
 | 5,_,_,_,⟨g,E,G⟩,D=>⟨g,E,Ah G D⟩
 | 6,_,_,_,h,_=>h
 | 7,_,_,_,h,_=>h
 | 8,_,_,_,h,_=>h
 | 9,_,_,_,⟨g,E,G⟩,D=>⟨g,E,Ah G D⟩
 | 10,_,_,_,⟨g,T,E,G,H⟩,D=>⟨g,T,E,Ah G D,Ah H D⟩
 | _+11,_,_,_,⟨g,E,G,H⟩,D=>⟨g,E,D.heap G,H⟩
theorem Ahb (i:Nat) (h:i<20):i=0\/i=1\/i=2\/i=3\/i=4\/i=5\/i=6\/i=7\/i=8\/i=9\/i=10\/i=11\/i=12\/i=13\/i=14\/i=15\/i=16\/i=17\/i=18\/i=19:=by omega
def Oe (wF:Κ) (n T D H I E J M U s G:Nat) (vx:Ρ) (ok:Bool):Nat->Ρ->Κ->Prop
 | 0,v,_=>v=γ (Δ ⟨I,1,Γ⟩)
 | 1,v,_=>v=Β (Δ ⟨D,0,Γ⟩) n n
 | 2,v,_=>v=.func (.func 49) #[] #[γ (Δ ⟨H,0,Γ⟩)]
 | 3,v,_=>v=iv s
 | 4,v,_=>v=iv G
 | 5,v,_=>v=γ (Δ ⟨I,2,Γ⟩)
 | 6,v,_=>v=Β (Δ ⟨E,0,Γ⟩) n n
 | 7,v,_=>v=.func (.func 49) #[] #[γ (Δ ⟨H,0,Γ⟩)]
 | 8,v,_=>v=iv s
 | 9,v,_=>v=iv G
 | 10,v,_=>v=vx
 | 11,v,_=>v=γ (Δ ⟨T,2,Γ⟩)
 | 12,v,_=>v=Β (Δ ⟨J,M,Γ⟩) n U
 | 13,v,_=>v=iv s
 | 14,v,_=>v=γ (Δ ⟨J,M+s,Γ⟩)
 | 15,v,_=>v=.bool ok
 | 16,v,_=>v=γ (Δ ⟨D,G,Γ⟩)
 | 17,_,W=>W.heap[D]? = wF.heap[D]?
 | 18,v,_=>v=γ (Δ ⟨E,G,Γ⟩)
 | _,_,W=>W.heap[E]? = wF.heap[E]?
theorem Aed {w1:Κ} (wF:Κ) (n H D I J E M T U s js:Nat) (vx:Ρ) (ok:Bool) (h5:D<w1.heap.size) (h9:E<w1.heap.size):∀ (i:Nat) (v:Ρ) (w w':Κ),Oe wF n H D I J E M T U s js vx ok i v w->Prg w1 wF w w'->Oe wF n H D I J E M T U s js vx ok i v w'
 | 0,_,_,_,h,_=>h
 | 1,_,_,_,h,_=>h
 | 2,_,_,_,h,_=>h
 | 3,_,_,_,h,_=>h
 | 4,_,_,_,h,_=>h
 | 5,_,_,_,h,_=>h
 | 6,_,_,_,h,_=>h
 | 7,_,_,_,h,_=>h
 | 8,_,_,_,h,_=>h
 | 9,_,_,_,h,_=>h
 | 10,_,_,_,h,_=>h
 | 11,_,_,_,h,_=>h
 | 12,_,_,_,h,_=>h
 | 13,_,_,_,h,_=>h
 | 14,_,_,_,h,_=>h
 | 15,_,_,_,h,_=>h
 | 16,_,_,_,h,_=>h
 | 17,_,_,_,h,G=>G.turned h5 h
 | 18,_,_,_,h,_=>h
 | _+19,_,_,_,h,G=>G.turned h9 h
theorem Ty (d:Dfa) (hv:Val d) (hn:d.n.length<=64) (v:Ρ) (l:List UInt8) (u:Ρ) (w:Κ) (hT:Tab w) (e3:0<w.heap.size) (h:IsD w v d) (hb:By w u l) :
  Ϝ Η 14 #[v,u] w λe w'=>∃ r,ResOf w' e (Δ r)/\Cano r/\(∀ x,r.has x=d.has (l++x))/\Ext w w':=by
 have HD:=Α h;have jn:=Α hb;have jo:=Α (λW (D:Ext w W)=>hT.below D.below e3);obtain⟨bc,oc,cc,bn,on,cn,ba,oa,ca,rfl,hC,hR,e5⟩:=h.opened hv;obtain⟨ub,uc,rfl⟩:=hb.len;have f47:=λW (D:Ext w W)=>Α (Eg d hv hn _ W (HD.out.ext D))
 have f48:=λW (D:Ext w W)=>Α (Anc d hv _ l _ W (HD.out.ext D) (jn.out.ext D))
 have b0:=hv.run_lt l hv.pos;have HV:=Α hv;have HC:=Α hC;have HR:=Α hR;have ju:=Α e5;obtain⟨a,ha⟩:∃ a,d.run 0 l=a:=⟨_,rfl⟩;rw[ha] at f48 b0;have HA:=Α ha;obtain⟨vc,cb⟩:∃ X,ϟ (Δ ⟨bc,oc,Γ⟩) d.cls.length cc=X:=⟨_,rfl⟩;obtain⟨vn,cy⟩:∃ X,ϟ (Δ ⟨bn,on,Γ⟩) d.n.length cn=X:=⟨_,rfl⟩;obtain⟨va,cz⟩:∃ X,ϟ (Δ ⟨ba,oa,Γ⟩) d.n.length ca=X:=⟨_,rfl⟩;rw[cb,cy,cz] at HD f47 f48;rw[cb] at HC;rw[cb,cy,cz];obtain⟨Va,cd⟩:∃ X,dA vc vn va=X:=⟨_,rfl⟩;have e7:(Η.info? 30).map (·.size)=Δ Va.size:=by rw[<-cd];exact Ad
 rw[cd] at f47 f48 HD;rw[cd];have dk:=((Ι w).alloc (Ε Va 30)).alloc (Ε #[Β Γ 0 0,Β Γ 0 0,Β Γ 0 0] 30);have H2:=Ag (Ab w (Ε Va 30)) (Ε #[Β Γ 0 0,Β Γ 0 0,Β Γ 0 0] 30);have H4:=Ϙ w (Ε Va 30) (Ε #[Β Γ 0 0,Β Γ 0 0,Β Γ 0 0] 30);have c2:=Α cd;have e8:=Α cy;have jw:=Α cz;have c3:=Α cb;clear hb h hT hC hR e5 hv ha cd cb cy cz;go_enter Tryz.func14,Tryz.ntmps14;go_upto_region 1 with (fail)
 obtain⟨w1,c4⟩:∃ W,(w.alloc (Ε Va 30)).alloc (Ε #[Β Γ 0 0,Β Γ 0 0,Β Γ 0 0] 30)=W:=⟨_,rfl⟩;have lk:w.heap.size+1<w1.heap.size:=by rw[<-c4,Λ,Λ];omega
 rw[c4] at dk H2 H4;simp only[c4];clear c4;have aj:=Α H2;have ak:=Α H4;have dp:=Α dk;clear H2 H4 dk;go_upto_region 3 with (first
  | (refine Υ rfl 30 (η 2) rfl _ rfl _ _ _ _ aj.out Ν rfl e7 ?_)
  | (go_at_call 47;(with_reducible refine (f47 _ dp.out).out.mono ?_);rintro e w2 ⟨rfl,c5⟩;have dq:=Α (dp.out.trans c5);have aj:=Α (c5.heap aj.out);have ak:=Α (c5.heap ak.out);clear c5))
 go_upto_region 4 with (first
  | (refine Υ rfl 30 (η 2) rfl _ rfl _ _ _ _ aj.out Ν rfl e7 ?_)
  | (go_at_call 48;(with_reducible refine (f48 _ dq.out).out.mono ?_);rintro e w3 ⟨rfl,c7⟩;have e9:=Α (dq.out.trans c7);have aj:=Α (c7.heap aj.out);have ak:=Α (c7.heap ak.out);clear c7;have jx:=(Ω (w3.alloc (Ε #[.int ζ 0] 3)) w3.heap.size 0 _ _ _ (Ab w3 (Ε #[.int ζ 0] 3))).trans (show (#[Ρ.int ζ 0]:Array Ρ)[0]? = Δ (.int ζ 0) from rfl);have jy:=Ϯ (w3.alloc (Ε #[.int ζ 0] 3)) w3.heap.size 0 _ _ (Ab w3 (Ε #[.int ζ 0] 3))))
 go_upto_region 5 with (fail)
 have cf:=(Ι w3).alloc (Ε #[iv a] 3);have H6:=Ab w3 (Ε #[iv a] 3);obtain⟨U,c8⟩:∃ W,w3.alloc (Ε #[iv a] 3)=W:=⟨_,rfl⟩;have fa:w3.alloc (Ε #[.int ζ (a:Int)] 3)=U:=c8;have ln:w3.heap.size<U.heap.size:=by rw[<-c8,Λ];omega
 rw[c8] at cf H6;simp only[fa];clear c8 fa jx jy;have bk:=Α (e9.out.trans cf);have aj:=Α (cf.heap aj.out);have ak:=Α (cf.heap ak.out);have c9:=Α H6;generalize w3.heap.size=g6 at *;clear cf H6 dq dp e9 f47 f48;obtain⟨i0,hi,j1,j2,j3⟩:=ϕ Cg;obtain⟨j0,hj,j5,j6,j7⟩:=ϕ Dt;obtain⟨k0,hk,j9,ka,kb⟩:=ϕ Mo;have kc:=Α (λ(W:Κ) (D:Ext U W)=>(Ω W w.heap.size 0 _ _ _ (D.heap aj.out)).trans (show Va[0]? = Δ vc by rw[<-c2.out];rfl));have du:=Α (λ(W:Κ) (D:Ext U W)=>(Ω W w.heap.size 1 _ _ _ (D.heap aj.out)).trans (show Va[1]? = Δ (Β (Δ ⟨bn,on,Γ⟩) d.n.length cn) by rw[<-c2.out,e8.out];rfl));have kd:=Α (λ(W:Κ) (D:Ext U W)=>(Ω W w.heap.size 2 _ _ _ (D.heap aj.out)).trans (show Va[2]? = Δ (Β (Δ ⟨ba,oa,Γ⟩) d.n.length ca) by rw[<-c2.out,jw.out];rfl));rw[<-e8.out] at c2;refine Ht 12 81 (by kernel_rfl) (by kernel_rfl) rfl (Of U.heap.size d.n.length w.heap.size vc (Β (Δ ⟨bn,on,Γ⟩) d.n.length cn)) Gh Ik (Aee _ _ _ _ _) (λi bl=>?_) (λvs w5 fb I hN=>?_)
 ·have b4:=(Ι U).drew
  match i,bl with
  | 0,_=>
   refine Ar _ _ rfl rfl rfl λc W D E G=>?_
   have T:c.tmps.getD 2 ς=γ (Δ ⟨w.heap.size,0,Γ⟩):=G 2 (by kernel_rfl);go_simp;exact⟨_,rfl,Ι W,rfl,λ_ _ _ _ _=>trivial⟩
  | 1,_=>
   refine Ar _ _ rfl rfl rfl λc W D E G=>?_
   have T:c.tmps.getD 22 ς=γ (Δ ⟨w.heap.size,0,Γ⟩):=E 0 22 (by kernel_rfl);have c0:=kc.out W (b4.trans D);rw[<-c3.out] at c0;go_simp;exact⟨_,rfl,Ι W,c3.out,λ_ _ _ _ _=>trivial⟩
  | 2,_=>
   refine Ar _ _ rfl rfl rfl λc W D E G=>?_
   have T:c.tmps.getD 2 ς=γ (Δ ⟨w.heap.size,0,Γ⟩):=G 2 (by kernel_rfl);go_simp;exact⟨_,rfl,Ι W,rfl,λ_ _ _ _ _=>trivial⟩
  | 3,_=>
   refine Ar _ _ rfl rfl rfl λc W D E G=>?_
   have T:c.tmps.getD 24 ς=γ (Δ ⟨w.heap.size,1,Γ⟩):=E 2 24 (by kernel_rfl);have c1:=du.out W (b4.trans D);go_simp;exact⟨_,rfl,Ι W,rfl,λ_ _ _ _ _=>trivial⟩
  | 4,_=>
   refine Ar _ _ rfl rfl rfl λc W D E G=>?_
   have T:c.tmps.getD 25 ς=Β (Δ ⟨bn,on,Γ⟩) d.n.length cn:=E 3 25 (by kernel_rfl);go_simp;exact⟨_,rfl,Ι W,rfl,λ_ _ _ _ _=>trivial⟩
  | 5,_=>
   refine Ar _ _ rfl rfl rfl λc W D E G=>?_
   have T:c.tmps.getD 26 ς=iv d.n.length:=E 4 26 (by kernel_rfl);refine Hu W _ _ 27 rfl U.heap.size 68 k0 (Β Γ 0 0) 1 Tryz.underlying27 hk j9 ka ζ ζ _ _ d.n.length T T rfl rfl (by rw[kb];omega) (by unfold ϙ;omega) (b4.trans D).size ?_;intro W' dw b5;refine⟨_,rfl,(Ι W).grown b5 (λk e=>by cases e),⟨_,rfl,?_⟩,λ_ _ _ _ _=>trivial⟩;have:(madeCells (ϟ Γ 0 0).cells (d.n.length*1)).toList=δ d.n.length (Β Γ 0 0):=by
    rw[Nat.mul_one];exact toList_madeCells_one _ _
   rw[<-this];exact dw
  | 6,_=>
   refine Ar _ _ rfl rfl rfl λc W D E G=>?_
   have T:c.tmps.getD 2 ς=γ (Δ ⟨w.heap.size,0,Γ⟩):=G 2 (by kernel_rfl);go_simp;exact⟨_,rfl,Ι W,rfl,λ_ _ _ _ _=>trivial⟩
  | 7,_=>
   refine Ar _ _ rfl rfl rfl λc W D E G=>?_
   have T:c.tmps.getD 28 ς=γ (Δ ⟨w.heap.size,1,Γ⟩):=E 6 28 (by kernel_rfl);have c1:=du.out W (b4.trans D);go_simp;exact⟨_,rfl,Ι W,rfl,λ_ _ _ _ _=>trivial⟩
  | 8,_=>
   refine Ar _ _ rfl rfl rfl λc W D E G=>?_
   have T:c.tmps.getD 29 ς=Β (Δ ⟨bn,on,Γ⟩) d.n.length cn:=E 7 29 (by kernel_rfl);go_simp;exact⟨_,rfl,Ι W,rfl,λ_ _ _ _ _=>trivial⟩
  | 9,_=>
   refine Ar _ _ rfl rfl rfl λc W D E G=>?_
   have T:c.tmps.getD 30 ς=iv d.n.length:=E 8 30 (by kernel_rfl);refine Hu W _ _ 28 rfl U.heap.size 4 j0 (.bool Τ) 1 Ã hj j5 j6 ζ ζ _ _ d.n.length T T rfl rfl (by rw[j7];omega) (by unfold ϙ;omega) (b4.trans D).size ?_;intro W' dw b5;refine⟨_,rfl,(Ι W).grown b5 (λk e=>by cases e),⟨_,rfl,?_⟩,λ_ _ _ _ _=>trivial⟩;rw[<-B7];exact dw
  | 10,_=>
   refine Ar _ _ rfl rfl rfl λc W D E G=>?_
   have T:c.tmps.getD 23 ς=vc:=E 1 23 (by kernel_rfl);obtain⟨H,fc,h5⟩:∃ g,c.tmps.getD 27 ς=Β (Δ ⟨g,0,Γ⟩) d.n.length d.n.length/\W.ownsRow U.heap.size 68 1 (c.tmps.getD 27 ς) d.n.length (δ d.n.length (Β Γ 0 0)):=E 5 27 (by kernel_rfl);obtain⟨J,ff,h9⟩:∃ g,c.tmps.getD 31 ς=Β (Δ ⟨g,0,Γ⟩) d.n.length d.n.length/\W.ownsRow U.heap.size 4 1 (c.tmps.getD 31 ς) d.n.length ((δ d.n.length Τ).map ο):=E 9 31 (by kernel_rfl);rw[fc] at h5;rw[ff] at h9;refine C4 (Hh 30 _ rfl (A:=dA vc (Β (Δ ⟨H,0,Γ⟩) d.n.length d.n.length) (Β (Δ ⟨J,0,Γ⟩) d.n.length d.n.length)) ?_ W) ?_
   ·have e:(Array.map (λ(i,x)=>(i,c.eval x)) #[(0,ϻ.tmp 23),(1,ϻ.tmp 27),(2,ϻ.tmp 31)]).toList=[(0,c.eval (η 23)),(1,c.eval (η 27)),(2,c.eval (η 31))]:=by simp
    rw[e,show c.eval (η 23)=vc from T,show c.eval (η 27)=_ from fc,show c.eval (η 31)=_ from ff,<-c3.out];exact Qy _ _ _ _ _ _ _ _ _
   ·exact⟨_,rfl,Ι W,⟨H,J,rfl,h5,h9⟩,λ_ _ _ _ _=>trivial⟩
  | 11,_=>
   refine Ar _ _ rfl rfl rfl λc W D E G=>?_
   go_simp;exact⟨_,rfl,(Ι W).alloc _,⟨_,rfl,Ab W _,(b4.trans D).size⟩,λ_ _ _ _ _=>trivial⟩
 ·have fg:vs 0=γ (Δ ⟨w.heap.size,0,Γ⟩):=I 0 (by omega);have fh:vs 1=vc:=I 1 (by omega);have fj:vs 2=γ (Δ ⟨w.heap.size,1,Γ⟩):=I 2 (by omega);have fk:vs 3=Β (Δ ⟨bn,on,Γ⟩) d.n.length cn:=I 3 (by omega);have fl:vs 4=iv d.n.length:=I 4 (by omega);obtain⟨lo,cg,-⟩:∃ g,vs 5=Β (Δ ⟨g,0,Γ⟩) d.n.length d.n.length/\_:=I 5 (by omega);have fm:vs 6=γ (Δ ⟨w.heap.size,1,Γ⟩):=I 6 (by omega);have fp:vs 7=Β (Δ ⟨bn,on,Γ⟩) d.n.length cn:=I 7 (by omega);have fq:vs 8=iv d.n.length:=I 8 (by omega);obtain⟨lp,fs,-⟩:∃ g,vs 9=Β (Δ ⟨g,0,Γ⟩) d.n.length d.n.length/\_:=I 9 (by omega);obtain⟨H,J,ft,an,ao⟩:∃ H J,vs 10=.agg (dA vc (Β (Δ ⟨H,0,Γ⟩) d.n.length d.n.length) (Β (Δ ⟨J,0,Γ⟩) d.n.length d.n.length))/\_/\_:=I 10 (by omega);obtain⟨g8,fu,H8,ch⟩:∃ g,vs 11=γ (Δ ⟨g,0,Γ⟩)/\_/\_:=I 11 (by omega);simp only[Bq,List.drop_succ_cons,List.drop_zero,fg,fh,fj,fk,fl,cg,fm,fp,fq,fs,ft,fu,Ü,Ö,É,Option.bind_some,Act.put,Θ,Χ,Ψ];clear I hN fg fh fj fk fl cg fm fp fq fs ft fu;go_upto_region 6 with (refine Φ rfl 30 (η 8) (η 32) rfl _ _ rfl rfl _ _ H8 Ad rfl (Ap _ _ _ (by rw[<-c3.out];rfl) rfl rfl) ?_)
  have cj:=((Ι U).drew.trans fb).setRow ch (dA vc (Β (Δ ⟨H,0,Γ⟩) d.n.length d.n.length) (Β (Δ ⟨J,0,Γ⟩) d.n.length d.n.length));have dx:=μ w5 g8 _ (dA vc (Β (Δ ⟨H,0,Γ⟩) d.n.length d.n.length) (Β (Δ ⟨J,0,Γ⟩) d.n.length d.n.length)) _ _ H8;have dy:=an.kept (Bx w5 g8 (dA vc (Β (Δ ⟨H,0,Γ⟩) d.n.length d.n.length) (Β (Δ ⟨J,0,Γ⟩) d.n.length d.n.length))) (Dq an H8 (by decide));have ea:=ao.kept (Bx w5 g8 (dA vc (Β (Δ ⟨H,0,Γ⟩) d.n.length d.n.length) (Β (Δ ⟨J,0,Γ⟩) d.n.length d.n.length))) (Dq ao H8 (by decide));obtain⟨w6,eb⟩:∃ W,w5.setRow g8 (dA vc (Β (Δ ⟨H,0,Γ⟩) d.n.length d.n.length) (Β (Δ ⟨J,0,Γ⟩) d.n.length d.n.length))=W:=⟨_,rfl⟩;rw[eb] at cj dx dy ea;simp only[eb];clear eb H8 an ao fb;have lq:=HV.out.parts.pos;have lr:=HV.out.parts.le;have az:U.heap.size<=w6.heap.size:=cj.size;have k1:=du.out w6 cj;have H8:=Α dx;clear dx;go_upto_region 7 with (fail)
  clear k1;go_loopw [36] (λi W=>∃ (s:Nat) (NX:List Ρ) (AC:List Bool),s<=d.n.length/\i=.int ζ s/\Ext U W/\U.heap.size<=W.heap.size/\Ϻ (NX.length=d.n.length/\AC.length=d.n.length)/\
    W.ownsRow U.heap.size 68 1 (Β (Δ ⟨H,0,Γ⟩) d.n.length d.n.length) d.n.length NX/\W.ownsRow U.heap.size 4 1 (Β (Δ ⟨J,0,Γ⟩) d.n.length d.n.length) d.n.length (AC.map ο)/\
    Ϻ (W.heap[g8]? = Δ (Ε (dA vc (Β (Δ ⟨H,0,Γ⟩) d.n.length d.n.length) (Β (Δ ⟨J,0,Γ⟩) d.n.length d.n.length)) 30 (0,0)))/\
    Ϻ (∀ j,j<d.n.length->swp a j<s->OwnI W U.heap.size (NX.getD j ς) ((ι d.cls.length).map λq=>swp a (d.ent2 (swp a j) q)))/\
    Ϻ (∀ j,j<d.n.length->swp a j<s->AC.getD j Τ=d.ok (swp a j)))
   (λi _=>d.n.length-(intOf i).toNat)
  case atStart=>exact⟨0,_,_,by omega,rfl,cj,az,Α ⟨by simp,by simp⟩,dy,ea,H8,Α (λj _ h=>by omega),Α (λj _ h=>by omega)⟩
  case round=>
   clear cj az dy ea H8;obtain⟨s,NX,AC,hs,rfl,hE,az,HL,an,ao,H8,HQ,ec⟩:=hrel;by_cases ed:s<d.n.length
   ·obtain⟨br,or',cr,fw,fx⟩:=HR.out s ed;have kf:=(bk.out.trans hE).cell fw;have kg:=Α fx;clear fw fx;have lv:=hE.size;go_upto_region 9 with (fail)
    clear kf;go_upto_region 10 with (at_make;refine wpList_make_full _ rfl _ _ 68 rfl wr.heap.size 3 i0 (.int ζ 0) 1 Tryz.underlying68 hi j1 j2 ζ ζ _ _ d.cls.length rfl rfl rfl rfl (by rw[j3];omega) (by unfold ϙ;omega) (θ _) ?_;intro w7 fy bm)
    have ef:=hE.grown bm (λk e=>by cases e);have an:=Cb an bm;have ao:=Cb ao bm;have H8:=Α ((bm.block g8 (An H8.out) (by simp)).trans H8.out);have HQ:=Α (λj hj M=>And.intro (Cb (HQ.out j hj M) bm) (λe=>(show ∀ k,(NX.getD j ς).ownBlock=Δ k->k<wr.heap.size from λk e=>((HQ.out j hj M).lt k e).2) wr.heap.size e));have b7:w7.ownsRow wr.heap.size 3 1 (Β (Δ ⟨wr.heap.size,0,Γ⟩) d.cls.length d.cls.length) d.cls.length ((Br (λq=>swp a (d.ent2 s q)) d.cls.length 0).map iv):=by rw[Hg,<-B7];exact fy
    have lx:=ψ az bm.size;have ly:wr.heap.size<w7.heap.size:=(b7.lt _ rfl).2;clear fy bm;generalize eg:wr.heap.size=gn at *;clear eg;go_upto_region 11 with (fail)
    go_loopw [46] (λi W=>∃ k:Nat,k<=d.cls.length/\i=.int ζ k/\w7.grownBy W (Δ gn)/\W.ownsRow gn 3 1 (Β (Δ ⟨gn,0,Γ⟩) d.cls.length d.cls.length) d.cls.length ((Br (λq=>swp a (d.ent2 s q)) d.cls.length k).map iv))
     (λi _=>d.cls.length-(intOf i).toNat)
    case atStart=>exact⟨0,by omega,rfl,Κ.grownBy.refl _ _,b7⟩
    case round=>
     obtain⟨k,lz,rfl,hg,hX⟩:=hrel;have b8:=ef.grown hg (λk e=>by cases e;exact az);by_cases eh:k<d.cls.length
     ·have cq:=(bk.out.trans b8).cell (kg.out k eh);have co:=Am 0 hX (C2 _ _ _).symm k (by rw[C2];exact eh);have fo:=hX.frozenAt k;obtain⟨a7,b5⟩:=Bj hX k (swp a (d.ent2 s k));rw[F0 (λq=>swp a (d.ent2 s q)) _ _ eh] at a7;have c6:=(Ω wr g6 0 _ _ _ (b8.heap c9.out)).trans (show (#[iv a]:Array Ρ)[0]? = Δ (iv a) from rfl);have f49:=Α (O5 a (d.ent2 s k) g6 wr c6);have ga:=enters_of Tryz.func49 (by kernel_rfl) rfl;have eg:=hg.trans b5;clear c6 b5 b8 hg hX;generalize d.ent2 s k=x at *;generalize swp a x=y at *;go_wp2_with (go_at_call 49;(with_reducible refine f49.out.mono ?_);rintro e W' ⟨rfl,rfl⟩);go_roundw
      case rel=>exact⟨k+1,by omega,by go_num,eg,a7⟩
      case measure=>simp[intOf];omega
     ·obtain rfl:k=d.cls.length:=by omega
      rw[I5] at hX;have dc:=Gb b0 ed;have gb:swp a (swp a s)=s:=Ga a s;have gd:=an.kept hg (Ai an b7 (by decide));have gf:=ao.kept hg (Ai ao b7 (by decide));have b8:=ef.grown hg (λk e=>by cases e;exact az);have gg:g8≠gn:=λe=>by
       have M:=H8.out;obtain⟨C,hC,-⟩:=Gf b7;rw[e,hC] at M;injection M with M
       injection M with _ h2 _
       exact absurd h2 (by decide)
      have gh:=(hg.block g8 (An H8.out) (by simp[gg])).trans H8.out;have gi:=Α (λj hj M=>(HQ.out j hj M).1.kept hg (.inr λe=>absurd ((HQ.out j hj M).2 e) (Nat.lt_irrefl _)));clear HQ an ao H8 b7 ef;have a8:=(Ι wr).drew;go_upto_region 15 with (fail)
      obtain⟨wd,ei⟩:∃ W,wr.drew=W:=⟨_,rfl⟩;rw[ei] at a8;have au:=Ah gd a8;have ck:=Ah gf a8;have cl:=Ah hX a8;have bp:=b8.trans a8;have bq:=a8.heap gh;have cm:=Α (λj hj M=>Ah (gi.out j hj M) a8);clear gd gf hX b8 gh gi;obtain⟨C5,bb,ki⟩:=Gf au;obtain⟨C9,bt,kj⟩:=Gf ck;have ej:H≠J:=λe=>by
       rw[e,bt] at bb;injection bb with M
       injection M with _ h2 _
       exact absurd h2 (by decide)
      have dd:g8≠H:=λe=>by
       rw[<-e,bq] at bb;injection bb with M
       injection M with _ h2 _
       exact absurd h2 (by decide)
      have de:g8≠J:=λe=>by
       rw[<-e,bq] at bt;injection bt with M
       injection M with _ h2 _
       exact absurd h2 (by decide)
      have gj:U.heap.size<=H:=(au.lt H rfl).1;have gk:U.heap.size<=J:=(ck.lt J rfl).1;obtain⟨p1,p2,p3,p4,p5,p6⟩:=Lm wd H (swp a s) (Β (Δ ⟨gn,0,Γ⟩) d.cls.length d.cls.length) bb;have gu:=(p6 J (Ne.symm ej)).trans bt;obtain⟨q1,q2,q3,q4,q5,q6⟩:=Lm (wd.setCell ⟨H,swp a s,Γ⟩ (Β (Δ ⟨gn,0,Γ⟩) d.cls.length d.cls.length)) J (swp a s) (.bool (d.ok s)) gu;have bd:=(au.stored (swp a s) (Β (Δ ⟨gn,0,Γ⟩) d.cls.length d.cls.length)).1;have bu:=(au.stored (swp a s) (Β (Δ ⟨gn,0,Γ⟩) d.cls.length d.cls.length)).2;have cp:=ck.kept bu (Ai ck au (by decide));obtain⟨ct,cu⟩:=Bj cp (swp a s) (d.ok s);have bd:=bd.kept cu (Ai bd cp (by decide));have a7:=(cl.kept bu (Ai cl au (by decide))).kept cu (Ai (cl.kept bu (Ai cl au (by decide))) cp (by decide));have ep:=Α (λj hj M=>((cm.out j hj M).kept bu (Ai (cm.out j hj M) au (by decide))).kept cu (Ai ((cm.out j hj M).kept bu (Ai (cm.out j hj M) au (by decide))) cp (by decide)));have b9:=(bp.grown bu (λk e=>by cases e;exact gj)).grown cu (λk e=>by cases e;exact gk);obtain⟨wF,gv⟩:∃ W,(wd.setCell ⟨H,swp a s,Γ⟩ (Β (Δ ⟨gn,0,Γ⟩) d.cls.length d.cls.length)).setCell ⟨J,swp a s,Γ⟩ (.bool (d.ok s))=W:=⟨_,rfl⟩;rw[gv] at q1 q2 q3 q4 q5 q6 bd ct a7 ep b9;have cg:wF.heap[H]? = Δ (Ε (C5.setIfInBounds (swp a s) (Β (Δ ⟨gn,0,Γ⟩) d.cls.length d.cls.length)) 68 (0,0)):=(q6 H ej).trans p5;have gw:∀ k,k≠H->k≠J->wF.heap[k]? = wd.heap[k]? := λk M h2=>(q6 k h2).trans (p6 k M)
      have be:=Α gw;have er:=An bb;have et:=An bt;have ch:=An bq;have gx:w.heap.size<wd.heap.size:=An (bp.heap aj.out);have gy:g6<wd.heap.size:=An (bp.heap c9.out);have kk:w.heap.size<U.heap.size:=An aj.out;have kl:g6<U.heap.size:=An c9.out;have km:=az;have HP:=Α (λ(W:Κ) (D:Prg wd wF wd W)=>show W.cell? ⟨g8,1,Γ⟩=Δ (Β (Δ ⟨H,0,Γ⟩) d.n.length d.n.length)/\W.cell? ⟨g8,2,Γ⟩=Δ (Β (Δ ⟨J,0,Γ⟩) d.n.length d.n.length)/\W.cell? ⟨g6,0,Γ⟩=Δ (iv a)/\
        W.cell? ⟨w.heap.size,2,Γ⟩=Δ (Β (Δ ⟨ba,oa,Γ⟩) d.n.length ca)/\W.cell? ⟨ba,oa+s,Γ⟩=Δ (.bool (d.ok s)) from
       ⟨D.cell ((Ω wd g8 1 _ _ _ bq).trans rfl) ch (be.out _ dd de),D.cell ((Ω wd g8 2 _ _ _ bq).trans rfl) ch (be.out _ dd de),
        D.cell ((Ω wd g6 0 _ _ _ (bp.heap c9.out)).trans rfl) gy (be.out _ (by show g6≠H;omega) (by show g6≠J;omega)),
        D.cell (kd.out wd bp) gx (be.out _ (by show w.heap.size≠H;omega) (by show w.heap.size≠J;omega)),
        by
         have gz:=ju.out s ed;have l6:ba<w.heap.size:=Gr gz;exact D.cell ((bk.out.trans bp).cell gz) (by show ba<_;omega) (be.out _ (by show ba≠H;omega) (by show ba≠J;omega))⟩)
      have eu:=Α (λ(W:Κ) (D:Prg wd wF wd W) (M:W.heap[H]? = wF.heap[H]?) (h2:W.heap[J]? = wF.heap[J]?)=>show Ext wF W from
       D.done (by rw[q1,p1]) (by rw[q2,p2]) (by rw[q3,p3]) (by rw[q4,p4]) (λk _=>by
        by_cases e1:k=H
        ·subst e1;exact .inr M
        ·by_cases e2:k=J
         ·subst e2;exact .inr h2
         ·exact .inl (be.out k e1 e2)))
      have ev:=Α (λ(W:Κ) (D:Prg wd wF wd W)=>D.store bb cg (by omega));have ew:=Α (λ(W:Κ) (D:Prg wd wF wd W)=>D.store bt q5 (by omega));have hh:=Α bd;have hl:=Α ct;have ho:=Α a7;have hp:=Α b9;have hr:=Α gb;rw[<-ei] at HP eu ev ew er et;have ht:=Α ((be.out g8 dd de).trans bq);clear bb bt gu cg p1 p2 p3 p4 p5 p6 q1 q2 q3 q4 q5 q6 gw bd ct a7 b9 gb au ck cl bp bq cm bu cu cp gv ei a8 ki kj ej dd de gj gk ch gx gy kk kl km hg gg;refine Ni 20 81 rfl (by kernel_rfl) (by kernel_rfl) rfl (Prg wr.drew wF) (Ø _ _) (Prg.trans _ _) (Oe wF d.n.length w.heap.size H g6 g8 J ba oa ca s (swp a s) (Β (Δ ⟨gn,0,Γ⟩) d.cls.length d.cls.length) (d.ok s)) Gh Ik (Aed _ _ _ _ _ _ _ _ _ _ _ _ _ _ er et) (λi bl=>?_) (λvs w8 hy I hN=>?_)
      ·rcases Ahb i bl with rfl|rfl|rfl|rfl|rfl|rfl|rfl|rfl|rfl|rfl|rfl|rfl|rfl|rfl|rfl|rfl|rfl|rfl|rfl|rfl
       ·refine Bi _ _ rfl rfl rfl λc W D E ad G=>?_
        have T:c.tmps.getD 8 ς=γ (Δ ⟨g8,0,Γ⟩):=G 8 (by kernel_rfl);go_simp;exact⟨_,rfl,Ø _ _ _,rfl,λ_ _ _ _=>trivial⟩
       ·refine Bi _ _ rfl rfl rfl λc W D E ad G=>?_
        have T:c.tmps.getD 58 ς=γ (Δ ⟨g8,1,Γ⟩):=E 0 58 (by kernel_rfl);have c0:=(HP.out W D).1;go_simp;exact⟨_,rfl,Ø _ _ _,rfl,λ_ _ _ _=>trivial⟩
       ·refine Bi _ _ rfl rfl rfl λc W D E ad G=>?_
        have T:c.tmps.getD 7 ς=.func (.func 49) #[] #[γ (Δ ⟨g6,0,Γ⟩)]:=G 7 (by kernel_rfl);go_simp;exact⟨_,rfl,Ø _ _ _,rfl,λ_ _ _ _=>trivial⟩
       ·refine Bi _ _ rfl rfl rfl λc W D E ad G=>?_
        have T:c.tmps.getD 9 ς=iv s:=G 9 (by kernel_rfl);go_simp;exact⟨_,rfl,Ø _ _ _,rfl,λ_ _ _ _=>trivial⟩
       ·refine Bi _ _ rfl rfl rfl λc W D E ad G=>?_
        have kn:c.tmps.getD 60 ς=.func (.func 49) #[] #[γ (Δ ⟨g6,0,Γ⟩)]:=E 2 60 (by kernel_rfl);have ko:c.tmps.getD 61 ς=iv s:=E 3 61 (by kernel_rfl);have ga:=enters_of Tryz.func49 (by kernel_rfl) rfl;have f49:=Α (O5 a s g6 W (HP.out W D).2.2.1);go_simp
        (with_reducible refine f49.out.mono ?_)
        rintro e W' ⟨rfl,rfl⟩;exact⟨_,rfl,Ø _ _ _,rfl,λ_ _ _ _=>trivial⟩
       ·refine Bi _ _ rfl rfl rfl λc W D E ad G=>?_
        have T:c.tmps.getD 8 ς=γ (Δ ⟨g8,0,Γ⟩):=G 8 (by kernel_rfl);go_simp;exact⟨_,rfl,Ø _ _ _,rfl,λ_ _ _ _=>trivial⟩
       ·refine Bi _ _ rfl rfl rfl λc W D E ad G=>?_
        have T:c.tmps.getD 63 ς=γ (Δ ⟨g8,2,Γ⟩):=E 5 63 (by kernel_rfl);have c0:=(HP.out W D).2.1;go_simp;exact⟨_,rfl,Ø _ _ _,rfl,λ_ _ _ _=>trivial⟩
       ·refine Bi _ _ rfl rfl rfl λc W D E ad G=>?_
        have T:c.tmps.getD 7 ς=.func (.func 49) #[] #[γ (Δ ⟨g6,0,Γ⟩)]:=G 7 (by kernel_rfl);go_simp;exact⟨_,rfl,Ø _ _ _,rfl,λ_ _ _ _=>trivial⟩
       ·refine Bi _ _ rfl rfl rfl λc W D E ad G=>?_
        have T:c.tmps.getD 9 ς=iv s:=G 9 (by kernel_rfl);go_simp;exact⟨_,rfl,Ø _ _ _,rfl,λ_ _ _ _=>trivial⟩
       ·refine Bi _ _ rfl rfl rfl λc W D E ad G=>?_
        have kn:c.tmps.getD 65 ς=.func (.func 49) #[] #[γ (Δ ⟨g6,0,Γ⟩)]:=E 7 65 (by kernel_rfl);have ko:c.tmps.getD 66 ς=iv s:=E 8 66 (by kernel_rfl);have ga:=enters_of Tryz.func49 (by kernel_rfl) rfl;have f49:=Α (O5 a s g6 W (HP.out W D).2.2.1);go_simp
        (with_reducible refine f49.out.mono ?_)
        rintro e W' ⟨rfl,rfl⟩;exact⟨_,rfl,Ø _ _ _,rfl,λ_ _ _ _=>trivial⟩
       ·refine Bi _ _ rfl rfl rfl λc W D E ad G=>?_
        have T:c.tmps.getD 11 ς=Β (Δ ⟨gn,0,Γ⟩) d.cls.length d.cls.length:=G 11 (by kernel_rfl);go_simp;exact⟨_,rfl,Ø _ _ _,rfl,λ_ _ _ _=>trivial⟩
       ·refine Bi _ _ rfl rfl rfl λc W D E ad G=>?_
        have T:c.tmps.getD 2 ς=γ (Δ ⟨w.heap.size,0,Γ⟩):=G 2 (by kernel_rfl);go_simp;exact⟨_,rfl,Ø _ _ _,rfl,λ_ _ _ _=>trivial⟩
       ·refine Bi _ _ rfl rfl rfl λc W D E ad G=>?_
        have T:c.tmps.getD 69 ς=γ (Δ ⟨w.heap.size,2,Γ⟩):=E 11 69 (by kernel_rfl);have c0:=(HP.out W D).2.2.2.1;go_simp;exact⟨_,rfl,Ø _ _ _,rfl,λ_ _ _ _=>trivial⟩
       ·refine Bi _ _ rfl rfl rfl λc W D E ad G=>?_
        have T:c.tmps.getD 9 ς=iv s:=G 9 (by kernel_rfl);go_simp;exact⟨_,rfl,Ø _ _ _,rfl,λ_ _ _ _=>trivial⟩
       ·refine Bi _ _ rfl rfl rfl λc W D E ad G=>?_
        have l7:c.tmps.getD 70 ς=Β (Δ ⟨ba,oa,Γ⟩) d.n.length ca:=E 12 70 (by kernel_rfl);have l8:c.tmps.getD 71 ς=iv s:=E 13 71 (by kernel_rfl);go_simp;exact⟨_,rfl,Ø _ _ _,rfl,λ_ _ _ _=>trivial⟩
       ·refine Bi _ _ rfl rfl rfl λc W D E ad G=>?_
        have T:c.tmps.getD 72 ς=γ (Δ ⟨ba,oa+s,Γ⟩):=E 14 72 (by kernel_rfl);have c0:=(HP.out W D).2.2.2.2;go_simp;exact⟨_,rfl,Ø _ _ _,rfl,λ_ _ _ _=>trivial⟩
       ·refine Bi _ _ rfl rfl rfl λc W D E ad G=>?_
        have kq:c.tmps.getD 59 ς=Β (Δ ⟨H,0,Γ⟩) d.n.length d.n.length:=E 1 59 (by kernel_rfl);have kr:c.tmps.getD 62 ς=iv (swp a s):=E 4 62 (by kernel_rfl);generalize swp a s=js at *;go_simp;exact⟨_,rfl,Ø _ _ _,rfl,λ_ _ _ _=>trivial⟩
       ·refine L6 _ rfl rfl rfl λc W D E ad G=>?_
        have kt:c.tmps.getD 74 ς=γ (Δ ⟨H,swp a s,Γ⟩):=E 16 74 (by kernel_rfl);have ku:c.tmps.getD 68 ς=Β (Δ ⟨gn,0,Γ⟩) d.cls.length d.cls.length:=E 10 68 (by kernel_rfl);obtain⟨⟨old,kv⟩,kx,ky,ey⟩:=ev.out W D;go_simp;exact⟨ey,λ_ _ _ _=>trivial⟩
       ·refine Bi _ _ rfl rfl rfl λc W D E ad G=>?_
        have kq:c.tmps.getD 64 ς=Β (Δ ⟨J,0,Γ⟩) d.n.length d.n.length:=E 6 64 (by kernel_rfl);have kr:c.tmps.getD 67 ς=iv (swp a s):=E 9 67 (by kernel_rfl);generalize swp a s=js at *;go_simp;exact⟨_,rfl,Ø _ _ _,rfl,λ_ _ _ _=>trivial⟩
       ·refine L6 _ rfl rfl rfl λc W D E ad G=>?_
        have kt:c.tmps.getD 75 ς=γ (Δ ⟨J,swp a s,Γ⟩):=E 18 75 (by kernel_rfl);have ku:c.tmps.getD 73 ς=.bool (d.ok s):=E 15 73 (by kernel_rfl);obtain⟨⟨old,kv⟩,kx,ky,ey⟩:=ew.out W D;go_simp;exact⟨ey,λ_ _ _ _=>trivial⟩
      ·have bw:=eu.out w8 hy (I 17 (by omega)) (I 19 (by omega));have v0:vs 0=γ (Δ ⟨g8,1,Γ⟩):=I 0 (by omega);have v1:vs 1=Β (Δ ⟨H,0,Γ⟩) d.n.length d.n.length:=I 1 (by omega);have v2:vs 2=.func (.func 49) #[] #[γ (Δ ⟨g6,0,Γ⟩)]:=I 2 (by omega);have v3:vs 3=iv s:=I 3 (by omega);have v4:vs 4=iv (swp a s):=I 4 (by omega);have v5:vs 5=γ (Δ ⟨g8,2,Γ⟩):=I 5 (by omega);have v6:vs 6=Β (Δ ⟨J,0,Γ⟩) d.n.length d.n.length:=I 6 (by omega);have v7:vs 7=.func (.func 49) #[] #[γ (Δ ⟨g6,0,Γ⟩)]:=I 7 (by omega);have v8:vs 8=iv s:=I 8 (by omega);have v9:vs 9=iv (swp a s):=I 9 (by omega);have ig:vs 10=Β (Δ ⟨gn,0,Γ⟩) d.cls.length d.cls.length:=I 10 (by omega);have ih:vs 11=γ (Δ ⟨w.heap.size,2,Γ⟩):=I 11 (by omega);have ij:vs 12=Β (Δ ⟨ba,oa,Γ⟩) d.n.length ca:=I 12 (by omega);have ik:vs 13=iv s:=I 13 (by omega);have il:vs 14=γ (Δ ⟨ba,oa+s,Γ⟩):=I 14 (by omega);have im:vs 15=.bool (d.ok s):=I 15 (by omega);have iq:vs 16=γ (Δ ⟨H,swp a s,Γ⟩):=I 16 (by omega);have ir:vs 18=γ (Δ ⟨J,swp a s,Γ⟩):=I 18 (by omega);simp only[Bq,v0,v1,v2,v3,v4,v5,v6,v7,v8,v9,ig,ih,ij,ik,il,im,iq,ir,Ü,Ö,É,Option.bind_some,Act.put,Θ,Χ,Ψ];clear v0 v1 v2 v3 v4 v5 v6 v7 v8 v9 ig ih ij ik il im iq ir I hN hy;have b9:=hp.out.trans bw;have bd:=Ah hh.out bw;have ct:=Ah hl.out bw;have a7:=Ah ho.out bw;have kz:=Α (λj hj M=>Ah (ep.out j hj M) bw);have k5:Ϻ (w8.heap[g8]? = Δ (Ε (dA vc (Β (Δ ⟨H,0,Γ⟩) d.n.length d.n.length) (Β (Δ ⟨J,0,Γ⟩) d.n.length d.n.length)) 30 (0,0))):=Α (bw.heap ht.out);clear bw hp hh hl ho ep eu ev ew HP be ht er et;go_wp2;go_roundw
       case rel=>
        refine⟨s+1,_,_,by omega,by go_num,b9,b9.size,Α ⟨by rw[ύ];exact HL.out.1,by rw[ύ];exact HL.out.2⟩,bd,ct,k5,Α (λj hj M=>?_),Α (λj hj M=>?_)⟩
        ·by_cases e:j=swp a s
         ·subst e;rw[Bb _ _ _ _ _ (by rw[HL.out.1];exact dc),if_pos rfl];have:=L9 a7 (show U.heap.size<=gn by omega);unfold OwnI;rw[hr.out,Ϗ,Þ];exact this
         ·rw[Bb _ _ _ _ _ (by rw[HL.out.1];exact dc),if_neg e];refine kz.out j hj ?_;have:swp a j≠s:=λh=>e (by rw[<-h,Ga])
          omega
        ·by_cases e:j=swp a s
         ·subst e;rw[Bb _ _ _ _ _ (by rw[HL.out.2];exact dc),if_pos rfl,hr.out]
         ·rw[Bb _ _ _ _ _ (by rw[HL.out.2];exact dc),if_neg e];refine ec.out j hj ?_;have:swp a j≠s:=λh=>e (by rw[<-h,Ga])
          omega
       case measure=>simp[intOf];omega
   ·obtain rfl:s=d.n.length:=by omega
    have dg:Quot d ⟨d.cls,(ι d.n.length).map λj=>(ι d.cls.length).map λq=>swp a (d.ent2 (swp a j) q),AC⟩ a:=by
     have iu:∀ s,s<d.n.length->((ι d.n.length).map λj=>(ι d.cls.length).map λq=>swp a (d.ent2 (swp a j) q)).getD (swp a s) []=(ι d.cls.length).map λq=>swp a (d.ent2 s q):=λs hs=>by
      rw[Da _ _ _ _ (Gb b0 hs),Ga]
     refine⟨rfl,by simp,HL.out.2,λs hs=>?_,λs hs k hk=>?_,λs hs=>?_⟩
     ·rw[iu s hs];simp
     ·show (((ι d.n.length).map λj=>(ι d.cls.length).map λq=>swp a (d.ent2 (swp a j) q)).getD (swp a s) []).getD k 0=_;rw[iu s hs,Da _ _ _ _ hk]
     ·show AC.getD (swp a s) Τ=_;rw[ec.out (swp a s) (Gb b0 hs) (by rw[Ga];exact hs),Ga]
    obtain⟨q,hq⟩:∃ q:Dfa,Dfa.mk d.cls ((ι d.n.length).map λj=>(ι d.cls.length).map λq=>swp a (d.ent2 (swp a j) q)) AC=q:=⟨_,rfl⟩;have iw:Val q:=by rw[<-hq];exact dg.val HV.out b0
    have ix:q.n.length=d.n.length:=by rw[<-hq];simp
    have iy:∀ x,q.has x=d.has (l++x):=by
     rw[<-HA.out] at dg hq;rw[<-hq];exact Aea HV.out dg
    have iz:IsD wr (.agg (dA vc (Β (Δ ⟨H,0,Γ⟩) d.n.length d.n.length) (Β (Δ ⟨J,0,Γ⟩) d.n.length d.n.length))) q:=by
     refine⟨vc,_,_,rfl,by rw[<-hq];exact HC.out.ext (bk.out.trans hE),?_,?_⟩
     ·rw[<-hq];refine⟨NX,by rw[HL.out.1];simp,?_,λi hi=>?_⟩
      ·have:=Sl.of_owns an (show d.n.length<=4611686018427387904 by omega) ς;simp only[Ϗ,Þ];exact this
      ·have bl:i<d.n.length:=by simpa using hi
       have M:=HQ.out i bl (Gb b0 bl);simp only;rw[Da _ _ _ _ bl];exact M.ints (by simp;omega)
     ·have h9:OwnB wr U.heap.size (Β (Δ ⟨J,0,Γ⟩) d.n.length d.n.length) AC:=by
       unfold OwnB;rw[HL.out.2];exact ao
      rw[<-hq];exact h9.bools (by rw[HL.out.2];omega)
    have k6:=Α (Jf q iw (by rw[ix];exact hn) _ wr (jo.out wr (bk.out.trans hE)) (ε e3 (bk.out.trans hE).size) iz);have ak:=Α (hE.heap ak.out);have k7:=Α iy;have HE:=Α (bk.out.trans hE);clear iw ix iy iz dg an ao HQ ec hE az;go_wp2_with (first
     | (refine Υ rfl 30 (η 8) rfl _ rfl _ _ _ _ H8.out Ν rfl Ad ?_)
     | (go_at_call 28;(with_reducible refine k6.out.mono ?_);rintro e w9 ⟨r,ez,ja,jb,jc⟩;obtain⟨jd,je,jf,jg,jh,ji,jj,jk,jl,k2,rfl⟩:=ez.form;have lf:=Α ez;have jm:=Α ja;have lg:=Α jb;clear ez ja jb;have ak:=Α (jc.heap ak.out))
     | (refine Φ rfl 30 (η 4) (η 79) rfl _ _ rfl rfl _ _ ak.out Ad rfl (Ap _ _ _ rfl rfl rfl) ?_))
    refine ϋ (v:=.tuple #[.agg (dA (Β jd je jf) (Β jg jh ji) (Β jj jk jl)),.int ζ k2]) (Ba rfl _ _ _ _ _ _ _ rfl _ rfl (μ w9 _ _ (dA (Β jd je jf) (Β jg jh ji) (Β jj jk jl)) 30 (0,0) ak.out) Ν rfl Ad) rfl ?_;exact⟨r,lf.out.setRow (λd' h=>by injection h with h;subst h;exact jm.out.val) ak.out _,jm.out,λx=>by rw[lg.out,k7.out],(HE.out.trans jc).setRow (by omega) _⟩
theorem Ue {l L:List Cls} (h:IsCells l L):Parts L:=⟨h.nz,h.dis,h.cover⟩
theorem Ya {L:List Cls} (h:IsCells [] L):∃ c,L=[c]/\∀ b,b<256->c.getLsbD b=Ξ:=by
 have E:∀ c∈L,∀ b,b<256->c.getLsbD b=Ξ:=λc D b G=>by
  obtain⟨i,hi,H⟩:=M7 (h.nz c D);exact (h.cls c D i hi H b G).2 (λx I=>by cases I)
 obtain⟨c,D,_⟩:=h.cover 0 (by omega);cases L with
 | nil=>cases D
 | cons a L=>
  cases L with
  | nil=>exact⟨a,rfl,E a (by simp)⟩
  | cons b L=>
   exfalso
   have hd:=(List.pairwise_cons.1 h.dis).1 b (by simp);exact hd 0 ⟨E a (by simp) 0 (by omega),E b (by simp) 0 (by omega)⟩
theorem Up (w:Κ) (E:Ρ) (c:Cls) (a:Bool) (J:Cs w E [c]) :
  IsD (((w.alloc (Ε #[.int ζ 0] 3)).alloc (Ε #[Β (Δ ⟨w.heap.size,0,Γ⟩) 1 1] 68)).alloc (Ε #[.bool a] 4)) (.agg #[E,Β (Δ ⟨w.heap.size+1,0,Γ⟩) 1 1,Β (Δ ⟨w.heap.size+1+1,0,Γ⟩) 1 1]) (Df c a):=by
 have M:=(Ι w).alloc (Ε #[.int ζ 0] 3);have G:=Ag (Ag (Ab w (Ε #[.int ζ 0] 3)) (Ε #[Β (Δ ⟨w.heap.size,0,Γ⟩) 1 1] 68)) (Ε #[.bool a] 4);have H:=Ag (Ϙ w (Ε #[.int ζ 0] 3) (Ε #[Β (Δ ⟨w.heap.size,0,Γ⟩) 1 1] 68)) (Ε #[.bool a] 4);have D:=Ab ((w.alloc (Ε #[.int ζ 0] 3)).alloc (Ε #[Β (Δ ⟨w.heap.size,0,Γ⟩) 1 1] 68)) (Ε #[.bool a] 4);rw[Λ,Λ] at D;have I:=((M.alloc (Ε #[Β (Δ ⟨w.heap.size,0,Γ⟩) 1 1] 68)).alloc (Ε #[.bool a] 4));obtain⟨W,T⟩:∃ W,((w.alloc (Ε #[.int ζ 0] 3)).alloc (Ε #[Β (Δ ⟨w.heap.size,0,Γ⟩) 1 1] 68)).alloc (Ε #[.bool a] 4)=W:=⟨_,rfl⟩;rw[T] at G H D I ⊢;refine⟨E,_,_,rfl,J.ext I,⟨[Β (Δ ⟨w.heap.size,0,Γ⟩) 1 1],rfl,?_,λi hi=>?_⟩,?_⟩
 ·refine⟨by show (1:Nat)<=_;omega,.inr ⟨by show 0<1;omega,_,0,1,rfl,An H,λi hi=>?_⟩⟩;obtain rfl:i=0:=by have:i<1*1:=hi;omega
  exact (Ω W _ 0 _ _ _ H).trans rfl
 ·obtain rfl:i=0:=by have:i<1:=hi;omega
  refine⟨by show (1:Nat)<=_;omega,.inr ⟨by show 0<1;omega,_,0,1,rfl,An G,λi hi=>?_⟩⟩;obtain rfl:i=0:=by have:i<1*1:=hi;omega
  exact (Ω W _ 0 _ _ _ G).trans rfl
 ·refine⟨by show (1:Nat)<=_;omega,.inr ⟨by show 0<1;omega,_,0,1,rfl,An D,λi hi=>?_⟩⟩;obtain rfl:i=0:=by have:i<1*1:=hi;omega
  exact (Ω W _ 0 _ _ _ D).trans rfl
theorem Xq (w:Κ):Cs w (Β Γ 0 0) []:=Sl.nil w _ _
theorem U3 (w:Κ) (hT:Tab w) (H:0<w.heap.size) :
  Ϝ Η 117 #[] w λe w'=>∃ r,ResOf w' e (Δ r)/\Cano r/\(∀ u,r.has u=Τ)/\Ext w w':=by
 have af:=Α (λW (E:Ext w W)=>hT.below E.below H);have I:=(Ι w).alloc (Ε #[Β Γ 0 0,Β Γ 0 0,Β Γ 0 0] 30);have J:=Ab w (Ε #[Β Γ 0 0,Β Γ 0 0,Β Γ 0 0] 30);have f143:=λW (E:Ext w W)=>Α (Yb [] _ W (af.out W E) (ε H E.size) (Xq W))
 clear hT;go_enter Tryz.func117,Tryz.ntmps117;go_upto_region 1 with (fail)
 obtain⟨w1,M⟩:∃ W,w.alloc (Ε #[Β Γ 0 0,Β Γ 0 0,Β Γ 0 0] 30)=W:=⟨_,rfl⟩;rw[M] at I J;simp only[M];clear M;have D:=Α J;have ag:=Α I;clear J I;go_wp2_with (first
  | (go_at_call 143;(with_reducible refine (f143 _ ag.out).out.mono ?_);rintro e T ⟨vc,L,rfl,G,hP,-,U⟩;obtain⟨c,aj,aa⟩:=Ya ((Pq []).perm hP);rw[aj] at G;obtain⟨ac,cc,a8⟩:∃ ac cc,vc=Β ac 1 cc:=Sl.len G;have hI:=Up T vc c Τ G;have ab:=Α ((((ag.out.trans U).alloc (Ε #[.int ζ 0] 3)).alloc (Ε #[Β (Δ ⟨T.heap.size,0,Γ⟩) 1 1] 68)).alloc (Ε #[.bool Τ] 4));have HC:=Α aa;have bb:=Α (Jf (Df c Τ) (Ma c aa Τ).val (by show (1:Nat)<=64;omega) _ _ (af.out _ ab.out) (ε H ab.out.size) hI);subst a8;have D:=Α (Ag (Ag (Ag (U.heap D.out) (Ε #[.int ζ 0] 3)) (Ε #[Β (Δ ⟨T.heap.size,0,Γ⟩) 1 1] 68)) (Ε #[.bool Τ] 4));clear hI U G hP aa aj L)
  | (go_at_call 28;(with_reducible refine bb.out.mono ?_);rintro e w9 ⟨r,ad,al,an,ao⟩;obtain⟨aq,ar,au,aw,ax,ay,az,a1,a6,k2,rfl⟩:=ad.form;have be:=Α ad;have a7:=Α al;have bf:=Α an;clear ad al an;have D:=Α (ao.heap D.out))
  | (refine Φ rfl 30 (η 0) (η 8) rfl _ _ rfl rfl _ _ D.out Ad rfl (Ap _ _ _ rfl rfl rfl) ?_))
 refine ϋ (v:=.tuple #[.agg (dA (Β aq ar au) (Β aw ax ay) (Β az a1 a6)),.int ζ k2]) (Ba rfl _ _ _ _ _ _ _ rfl _ rfl (μ w9 _ _ (dA (Β aq ar au) (Β aw ax ay) (Β az a1 a6)) 30 (0,0) D.out) Ν rfl Ad) rfl ?_;exact⟨r,be.out.setRow (λd' h=>by injection h with h;subst h;exact a7.out.val) D.out _,a7.out,λx=>by rw[bf.out,Uq c HC.out],(ab.out.trans ao).setRow (by omega) _⟩
theorem Ad0 (a:Bool) (w:Κ) :
  Ϝ Η 46 #[.bool a] w λe w'=>∃ v c,e=ν v/\IsD w' v (Df c a)/\(∀ b,b<256->c.getLsbD b=Ξ)/\Ext w w':=by
 have H:=(Ι w).alloc (Ε #[Β Γ 0 0,Β Γ 0 0,Β Γ 0 0] 30);have I:=Ab w (Ε #[Β Γ 0 0,Β Γ 0 0,Β Γ 0 0] 30);have f91:=λW=>Α (Ad5 [] _ W (Xq W))
 go_enter Tryz.func46,Tryz.ntmps46;go_upto_region 1 with (fail)
 obtain⟨w1,J⟩:∃ W,w.alloc (Ε #[Β Γ 0 0,Β Γ 0 0,Β Γ 0 0] 30)=W:=⟨_,rfl⟩;rw[J] at H I;simp only[J];clear J;have E:=Α I;have ad:=Α H;clear I H;go_wp2_with (first
  | (go_at_call 91;(with_reducible refine (f91 _).out.mono ?_);rintro e D ⟨T,rfl,G,M⟩;obtain⟨c,U,aa⟩:=Ya (V7 []);rw[U] at G;obtain⟨ac,cc,ae⟩:∃ ac cc,T=Β ac 1 cc:=Sl.len G;have HI:=Α (Up D T c a G);have ag:=Α ((((ad.out.trans M).alloc (Ε #[.int ζ 0] 3)).alloc (Ε #[Β (Δ ⟨D.heap.size,0,Γ⟩) 1 1] 68)).alloc (Ε #[.bool a] 4));have HC:=Α aa;subst ae;have E:=Α (Ag (Ag (Ag (M.heap E.out) (Ε #[.int ζ 0] 3)) (Ε #[Β (Δ ⟨D.heap.size,0,Γ⟩) 1 1] 68)) (Ε #[.bool a] 4));clear M G aa U)
  | (refine Φ rfl 30 (η 2) (η 8) rfl _ _ rfl rfl _ _ E.out Ad rfl (Ap _ _ _ rfl rfl rfl) ?_))
 refine ϋ (v:=.agg #[Β ac 1 cc,Β (Δ ⟨D.heap.size+1,0,Γ⟩) 1 1,Β (Δ ⟨D.heap.size+1+1,0,Γ⟩) 1 1]) (results_cell_row rfl _ _ _ _ _ _ _ rfl (μ _ _ _ #[Β ac 1 cc,Β (Δ ⟨D.heap.size+1,0,Γ⟩) 1 1,Β (Δ ⟨D.heap.size+1+1,0,Γ⟩) 1 1] 30 (0,0) E.out) Ν rfl Ad) rfl ?_;exact⟨_,c,rfl,IsD.setRow (Ma c HC.out a).val HI.out E.out _,HC.out,ag.out.setRow (θ _) _⟩
theorem Afc {W:Κ} {base H e I g n D:Nat} {xs E:List Ρ} (h:W.ownsRow base e 1 (Β (Δ ⟨g,0,Γ⟩) n D) n xs) (G:W.ownsRow H I 1 (Β (Δ ⟨g,0,Γ⟩) n D) n E):xs=E:=by
 apply List.ext_getElem?;intro i;by_cases hi:i<n
 ·rw[<-h.cellAt i (by omega),<-G.cellAt i (by omega)]
 ·rw[Ϩ (by rw[h.1];omega),Ϩ (by rw[G.1];omega)]
theorem Ag1 {V D:List Bool} (h:V.map ο=D.map ο):V=D:=
 List.map_inj_right (λx y e=>by injection e) |>.1 h
open Classical in
noncomputable def Mz (D g n E:Nat) (W:Κ):Nat:=if h:∃ V:List Bool,W.ownsRow D 4 1 (Β (Δ ⟨g,0,Γ⟩) n E) n (V.map ο) then Gp (Classical.choose h) else 0
theorem X2 {D g n E:Nat} {W:Κ} {V:List Bool} (h:W.ownsRow D 4 1 (Β (Δ ⟨g,0,Γ⟩) n E) n (V.map ο)):Mz D g n E W=Gp V:=by
 unfold Mz;have G:∃ V:List Bool,W.ownsRow D 4 1 (Β (Δ ⟨g,0,Γ⟩) n E) n (V.map ο):=⟨V,h⟩;rw[dif_pos G];rw[Ag1 (Afc (Classical.choose_spec G) h)]
def Q0:Ρ->Nat
 | .bool Ξ=>1
 | _=>0
theorem Alo (V:List Bool) (U:0<V.length) (ao:V.length<=65536) (b o c:Nat) (w:Κ) (h:∀ s,s<V.length->w.cell? ⟨b,o+s,Γ⟩=Δ (.bool (V.getD s Τ))) :
  Ϝ Η 54 #[Β (Δ ⟨b,o,Γ⟩) V.length c] w λe w'=>∃ g E,e=ν (Β (Δ ⟨g,0,Γ⟩) V.length E)/\OwnB w' w.heap.size (Β (Δ ⟨g,0,Γ⟩) V.length E) V/\Ext w w':=by
 obtain⟨j0,D,ab,ad,ae⟩:=ϕ Dt;have G:=Κ.ownsRow_lit (base:=w.heap.size) (e:=4) (size:=1) w #[] 0 (θ _) (by unfold ϙ;omega) rfl;have H:=(Ι w).alloc (Ε #[] 4);have I:∀ j u,(V.map ο)[j]? = Δ u->(w.alloc (Ε #[] 4)).cell? ((⟨b,o,Γ⟩:Addr).add j)=Δ u:=λj u D=>by
  obtain⟨af,ag⟩:=List.getElem?_eq_some_iff.1 D;have J:j<V.length:=by rwa [Ϗ] at af
  have e:(⟨b,o,Γ⟩:Addr).add j=⟨b,o+j,Γ⟩:=by
   unfold Addr.add;by_cases M:j=0
   ·subst M;rfl
   ·simp[M]
  rw[e,H.cell (h j J),<-ag,List.getElem_map,List.getD_eq_getElem?_getD,List.getElem?_eq_getElem J];rfl
 have HN:=Α I;clear I h;have aq:∀ W,(binOp .eql 28 (Β (Δ ⟨b,o,Γ⟩) V.length c) (Β Γ 0 0)).run Η W=.ok (.bool Τ) W:=λW=>Lib.run_eql_slice_nil W 28 4 _ _ _ _ _ Ã
 go_enter Tryz.func54,Tryz.ntmps54;go_wp2_with (at_builtin;refine wpList_append_lies _ rfl _ _ 28 rfl w.heap.size 4 j0 (.bool Τ) 1 1 Ã D ab ad ae rfl (by decide) _ 0 [] rfl G ⟨b,o,Γ⟩ V.length _ (V.map ο) rfl (by simp) HN.out (λu hu=>by obtain⟨b',_,rfl⟩:=List.mem_map.1 hu;rfl) U (by unfold ϙ;omega) (by omega) (by rw[Λ];omega) _ rfl ?_);intro g7 c7 w7 al T _ ar;have an:Ext w w7:=H.grown T (λk e=>by have:w.heap.size=k:=ω e;omega);clear G T;go_wp2;go_ret;exact⟨g7,c7,rfl,al,an⟩
theorem Ahm (D g n E:Nat) (V:List Bool) (x:Nat) (G:x<n) (W:Κ) (H:W.cell? ⟨D,0,Γ⟩=Δ (Β (Δ ⟨g,0,Γ⟩) n E)) (hv:W.cell? ⟨g,x,Γ⟩=Δ (.bool (V.getD x Τ))) :
  Ϝ Η 56 #[iv x,γ (Δ ⟨D,0,Γ⟩)] W λe w'=>e=ν (.bool (V.getD x Τ))/\w'=W:=by
 generalize V.getD x Τ=b at *;go_enter Tryz.func56,Tryz.ntmps56;go_wp2;go_ret;exact⟨rfl,rfl⟩
theorem Ai2 (r:List Nat) (hr:r.length<=65536) (P:Nat->Bool) (I:Array Ρ) (b o c:Nat) (w:Κ) (J:∀ k,k<r.length->w.cell? ⟨b,o+k,Γ⟩=Δ (iv (r.getD k 0)))
  (M:∀ k,k<r.length->Ϝ Η 56 (#[iv (r.getD k 0)]++I) w λe w'=>e=ν (.bool (P (r.getD k 0)))/\w'=w) :
  Ϝ Η 98 #[Β (Δ ⟨b,o,Γ⟩) r.length c,.func (.func 56) #[] I] w λe w'=>∃ z:Int,e=ν (.int ζ z)/\((0<=z)↔∃ k,k<r.length/\P (r.getD k 0)=Ξ)/\w'=w:=by
 have HC:=Α J;have HP:=Α M;have ag:=enters_of Tryz.func56 (by kernel_rfl) rfl;clear J M;go_enter Tryz.func98,Tryz.ntmps98;go_wp2_with (fail);go_loopw [8] (λi W=>∃ k:Nat,k<=r.length/\i=.int ζ k/\W=w/\Ϻ (∀ j,j<k->P (r.getD j 0)=Τ)) (λi _=>r.length-(intOf i).toNat)
 case atStart=>exact⟨0,by omega,rfl,rfl,Α (λj D=>by omega)⟩
 case round=>
  obtain⟨k,hk,rfl,rfl,T⟩:=hrel;by_cases E:k<r.length
  ·have ck:=HC.out k E;have f56:=Α (HP.out k E);obtain⟨x,G⟩:∃ x,r.getD k 0=x:=⟨_,rfl⟩;rw[G] at ck f56;have U:=Α G;clear G;obtain⟨b',H⟩:∃ b',P x=b':=⟨_,rfl⟩;rw[H] at f56;have HB:=Α H;clear H;cases b'
   ·go_wp2_with (go_at_call 56;(with_reducible refine f56.out.mono ?_);rintro e W' ⟨rfl,rfl⟩);go_roundw
    case rel=>
     refine⟨k+1,by omega,by go_num,trivial,Α (λj D=>?_)⟩;by_cases e:j=k
     ·subst e;rw[U.out];exact HB.out
     ·exact T.out j (by omega)
    case measure=>simp[intOf];omega
   ·go_wp2_with (go_at_call 56;(with_reducible refine f56.out.mono ?_);rintro e W' ⟨rfl,rfl⟩);go_ret;exact⟨(k:Int),rfl,⟨λ_=>⟨k,E,by rw[U.out];exact HB.out⟩,λ_=>by omega⟩,rfl⟩
  ·obtain rfl:k=r.length:=by omega
   go_wp2;go_ret;refine⟨-1,rfl,⟨λh=>by omega,fun⟨j,D,h⟩=>?_⟩,rfl⟩;rw[T.out j D] at h;cases h
theorem Ak6 (r:List Nat) (J:r.length<=65536) (P:Nat->Bool) (D:Array Ρ) (b o c:Nat) (w:Κ) (E:∀ k,k<r.length->w.cell? ⟨b,o+k,Γ⟩=Δ (iv (r.getD k 0)))
  (G:∀ k,k<r.length->Ϝ Η 56 (#[iv (r.getD k 0)]++D) w λe w'=>e=ν (.bool (P (r.getD k 0)))/\w'=w) :
  Ϝ Η 55 #[Β (Δ ⟨b,o,Γ⟩) r.length c,.func (.func 56) #[] D] w λe w'=>∃ b:Bool,e=ν (.bool b)/\(b=Ξ↔∃ k,k<r.length/\P (r.getD k 0)=Ξ)/\w'=w:=by
 have H:=Α (Ai2 r J P D b o c w E G);clear E G;go_enter Tryz.func55,Tryz.ntmps55;go_wp2_with (go_at_call 98;(with_reducible refine H.out.mono ?_);rintro e W' ⟨z,rfl,I,rfl⟩;have M:=Α I;clear I);go_ret;exact⟨_,rfl,by rw[<-M.out];simp,rfl⟩
theorem T7 (d:Dfa) (hv:Val d) (hn:d.n.length<=64) (v:Ρ) (w:Κ) (hT:Tab w) (ct:0<w.heap.size) (h:IsD w v d) :
  Ϝ Η 16 #[v] w λe w'=>∃ r,ResOf w' e (Δ r)/\Cano r/\(∀ x,r.has x=Ξ↔∃ u,d.has (x++u)=Ξ)/\Ext w w':=by
 have HD:=Α h;have eg:=Α (λW (hW:Ext w W)=>hT.below hW.below ct);have eh:∃ vn,∀ va vc,v=.agg #[vc,vn,va]->Rows w vn d.n:=by
  obtain⟨vc,vn,va,rfl,h1,h2,h3⟩:=h;exact⟨vn,λfs ft e=>h2⟩
 obtain⟨fu,ei,fv,ad,ej,bp,ek⟩:=h;obtain⟨bc,oc,cc,bn,on,cn,ba,oa,ca,rfl,hC,hR,cx⟩:=HD.out.opened hv;have cy:ei=Β (Δ ⟨bn,on,Γ⟩) d.n.length cn:=by
  injection ad with ad
  unfold dA at ad;injection ad with ad
  injection ad with _ ad
  injection ad with ad _
  exact ad.symm
 rw[cy] at bp;have en:=Α bp;clear eh cy ek ej bp;have f47:=λW (hW:Ext w W)=>Α (Eg d hv hn _ W (HD.out.ext hW))
 have HV:=Α hv;have HC:=Α hC;have HR:=Α hR;have fw:=hv.pos;have c1:=hv.accL;have f54:=λW (hW:Ext w W)=>Α (Alo d.acc (by omega) (by omega) ba oa ca W (λs hs=>hW.cell (cx s (by omega))))
 rw[c1] at f54;obtain⟨vc,bb⟩:∃ X,ϟ (Δ ⟨bc,oc,Γ⟩) d.cls.length cc=X:=⟨_,rfl⟩;rw[bb] at HD f47 HC;rw[bb];obtain⟨Va,ax⟩:∃ X,dA vc (Β (Δ ⟨bn,on,Γ⟩) d.n.length cn) (Β (Δ ⟨ba,oa,Γ⟩) d.n.length ca)=X:=⟨_,rfl⟩;have ep:(Η.info? 30).map (·.size)=Δ Va.size:=by rw[<-ax];exact Ad
 rw[ax] at f47 HD;rw[ax];have bw:=((Ι w).alloc (Ε Va 30)).alloc (Ε #[Β Γ 0 0,Β Γ 0 0,Β Γ 0 0] 30);have H1:=Ag (Ab w (Ε Va 30)) (Ε #[Β Γ 0 0,Β Γ 0 0,Β Γ 0 0] 30);have H2:=Ϙ w (Ε Va 30) (Ε #[Β Γ 0 0,Β Γ 0 0,Β Γ 0 0] 30);have bd:=Α ax;have c3:=Α bb;clear hT hC hR cx hv ax bb c1 ad;go_enter Tryz.func16,Tryz.ntmps16;go_upto_region 1 with (fail)
 obtain⟨w1,be⟩:∃ W,(w.alloc (Ε Va 30)).alloc (Ε #[Β Γ 0 0,Β Γ 0 0,Β Γ 0 0] 30)=W:=⟨_,rfl⟩;have fx:w.heap.size+1<w1.heap.size:=by rw[<-be,Λ,Λ];omega
 rw[be] at bw H1 H2;simp only[be];clear be;have af:=Α H1;have T:=Α H2;have b4:=Α bw;clear H1 H2 bw;go_upto_region 3 with (first
  | (refine Υ rfl 30 (η 1) rfl _ rfl _ _ _ _ af.out Ν rfl ep ?_)
  | (go_at_call 47;(with_reducible refine (f47 _ b4.out).out.mono ?_);rintro e I ⟨rfl,bf⟩;have ay:=Α (b4.out.trans bf);have af:=Α (bf.heap af.out);have T:=Α (bf.heap T.out);clear bf))
 have b5:=af;have er:=T;have c2:=(Ω I w.heap.size 2 _ _ _ af.out).trans (show Va[2]? = Δ (Β (Δ ⟨ba,oa,Γ⟩) d.n.length ca) by rw[<-bd.out];rfl);go_upto_region 4 with (go_at_call 54;(with_reducible refine (f54 _ ay.out).out.mono ?_);rintro e w3 ⟨g,D,rfl,c5,az⟩;have b6:=Α c5;have eu:=Α (ay.out.trans az);have af:=Α (az.heap af.out);have T:=Α (az.heap T.out);have b7:=Α az;clear az c5;have ev:=(Ω (w3.alloc (Ε #[Β Γ 0 0] 28)) w3.heap.size 0 _ _ _ (Ab w3 (Ε #[Β Γ 0 0] 28))).trans (show (#[ϟ Γ 0 0]:Array Ρ)[0]? = Δ (Β Γ 0 0) from rfl);have ew:=Ϯ (w3.alloc (Ε #[Β Γ 0 0] 28)) w3.heap.size 0 _ _ (Ab w3 (Ε #[Β Γ 0 0] 28)))
 clear ev ew c2;have ao:=(Ι w3).alloc (Ε #[Β (Δ ⟨g,0,Γ⟩) d.n.length D] 28);have J:=Ab w3 (Ε #[Β (Δ ⟨g,0,Γ⟩) d.n.length D] 28);have b8:=Ah b6.out ao;have fy:g<w3.heap.size:=(b6.out.lt g rfl).2;obtain⟨w4,b9⟩:∃ W,w3.alloc (Ε #[Β (Δ ⟨g,0,Γ⟩) d.n.length D] 28)=W:=⟨_,rfl⟩;rw[b9] at ao J b8;simp only[b9];clear b9;have cb:w4.ownsRow I.heap.size 4 1 (Β (Δ ⟨g,0,Γ⟩) d.n.length D) d.n.length (d.acc.map ο):=by
  have:OwnB w4 I.heap.size (Β (Δ ⟨g,0,Γ⟩) d.n.length D) d.acc:=b8;unfold OwnB at this;rw[HV.out.accL] at this;exact this
 have ey:I.heap.size<=g:=(cb.lt g rfl).1;have bg:=b7.out.trans ao;have af:=Α (ao.heap af.out);have T:=Α (ao.heap T.out);have c7:=Α J;have fz:g≠w3.heap.size:=by omega
 generalize w3.heap.size=g4 at *;have ga:I.heap.size<=g4:=by
  have h1:=b7.out.size;omega
 have ez:=Α bg;have c8:=bg.size;clear b6 eu b7 b8 J f54 f47 b4 ao;go_upto_region 5 with (fail)
 go_loopw [5] (λc W=>∃ (V:List Bool) (b:Bool),c=.bool b/\Ext I W/\I.heap.size<=W.heap.size/\W.ownsRow I.heap.size 4 1 (Β (Δ ⟨g,0,Γ⟩) d.n.length D) d.n.length (V.map ο)/\
   Ϻ (W.heap[g4]? = Δ (Ε #[Β (Δ ⟨g,0,Γ⟩) d.n.length D] 28 (0,0)))/\Ϻ (PInv d V)/\
   Ϻ (b=Τ->∀ s,s<d.n.length->V.getD s Τ=Ξ\/∀ k,k<d.cls.length->V.getD (d.ent2 s k) Τ=Τ))
  (λc W=>2*(d.n.length-Mz I.heap.size g d.n.length D W)+Q0 c)
 case atStart=>exact⟨d.acc,Ξ,rfl,bg,c8,cb,c7,Α (Aew HV.out),Α (λh=>by cases h)⟩
 case round=>
  clear bg c8 cb c7 ez;obtain⟨V,b,rfl,E,aj,H,J,U,HQ⟩:=hrel;cases b
  ·have k0:=(Ω wr w.heap.size 0 _ _ _ (E.heap b5.out)).trans (show Va[0]? = Δ (Β (Δ ⟨bc,oc,Γ⟩) d.cls.length cc) by rw[<-bd.out,<-c3.out];rfl);have k1:=(Ω wr w.heap.size 1 _ _ _ (E.heap b5.out)).trans (show Va[1]? = Δ (Β (Δ ⟨bn,on,Γ⟩) d.n.length cn) by rw[<-bd.out];rfl);have c4:=(Ω wr g4 0 _ _ _ J.out).trans (show (#[ϟ (Δ ⟨g,0,Γ⟩) d.n.length D]:Array Ρ)[0]? = Δ (Β (Δ ⟨g,0,Γ⟩) d.n.length D) from rfl);have hq:=Aey HV.out U.out (HQ.out rfl);have aq:=ay.out.trans E;have db:IsD wr (.agg (dA (Β (Δ ⟨bc,oc,Γ⟩) d.cls.length cc) (Β (Δ ⟨bn,on,Γ⟩) d.n.length cn) (Β (Δ ⟨g,0,Γ⟩) d.n.length D))) ⟨d.cls,d.n,V⟩:=by
    have h9:OwnB wr I.heap.size (Β (Δ ⟨g,0,Γ⟩) d.n.length D) V:=by
     unfold OwnB;rw[U.out.len];exact H
    exact⟨_,_,_,rfl,by rw[c3.out];exact HC.out.ext aq,en.out.ext aq,h9.bools (by rw[U.out.len];omega)⟩
   have e1:=Α (Jf ⟨d.cls,d.n,V⟩ (Ael HV.out U.out.len) hn _ wr (eg.out wr aq) (ε ct aq.size) db);have HP:=Α (λx=>Aen HV.out hq x);have T:=Α (E.heap er.out);have e3:=Α aq;have e4:=Α (Qy (Δ ⟨bc,oc,Γ⟩) (Δ ⟨bn,on,Γ⟩) (Δ ⟨g,0,Γ⟩) d.cls.length d.n.length d.n.length cc cn D);clear hq aq db H E HQ aj;go_wp2_with (first
    | (refine B3 rfl 30 _ rfl (dA (Β (Δ ⟨bc,oc,Γ⟩) d.cls.length cc) (Β (Δ ⟨bn,on,Γ⟩) d.n.length cn) (Β (Δ ⟨g,0,Γ⟩) d.n.length D)) ?_ ?_;(simp[Act.eval];with_reducible exact e4.out))
    | (go_at_call 28;(with_reducible refine e1.out.mono ?_);rintro e w9 ⟨r,cd,dc,dd,de⟩;obtain⟨df,dg,dh,dk,dm,dn,dp,dq,dr,k2,rfl⟩:=cd.form;have e7:=Α cd;have dt:=Α dc;have e8:=Α dd;clear cd dc dd;have T:=Α (de.heap T.out))
    | (refine Φ rfl 30 (η 2) (η 45) rfl _ _ rfl rfl _ _ T.out Ad rfl (Ap _ _ _ rfl rfl rfl) ?_))
   refine ϋ (v:=.tuple #[.agg (dA (Β df dg dh) (Β dk dm dn) (Β dp dq dr)),.int ζ k2]) (Ba rfl _ _ _ _ _ _ _ rfl _ rfl (μ w9 _ _ (dA (Β df dg dh) (Β dk dm dn) (Β dp dq dr)) 30 (0,0) T.out) Ν rfl Ad) rfl ?_;exact⟨r,e7.out.setRow (λd' h=>by injection h with h;subst h;exact dt.out.val) T.out _,dt.out,λx=>by rw[e8.out];exact HP.out x,(e3.out.trans de).setRow (by omega) _⟩
  ·clear HQ;have k1:=(Ω wr w.heap.size 1 _ _ _ (E.heap b5.out)).trans (show Va[1]? = Δ (Β (Δ ⟨bn,on,Γ⟩) d.n.length cn) by rw[<-bd.out];rfl);obtain⟨w5,fa⟩:∃ W,W=wr:=⟨_,rfl⟩;subst fa;go_upto_region 8 with (fail)
   clear k1;go_loopw [5,19] (λc i W=>∃ (G:List Bool) (b:Bool) (s:Nat),c=.bool b/\i=.int ζ s/\s<=d.n.length/\Ext I W/\I.heap.size<=W.heap.size/\W.ownsRow I.heap.size 4 1 (Β (Δ ⟨g,0,Γ⟩) d.n.length D) d.n.length (G.map ο)/\
     Ϻ (W.heap[g4]? = Δ (Ε #[Β (Δ ⟨g,0,Γ⟩) d.n.length D] 28 (0,0)))/\Ϻ (PInv d G)/\
     Ϻ ((b=Ξ->Gp V<Gp G)/\(b=Τ->G=V/\∀ s',s'<s->V.getD s' Τ=Ξ\/∀ k,k<d.cls.length->V.getD (d.ent2 s' k) Τ=Τ)))
    (λ_ i _=>d.n.length-(intOf i).toNat)
   case atStart=>exact⟨V,Τ,0,rfl,rfl,by omega,E,aj,H,J,U,Α ⟨λh=>(by cases h),λ_=>⟨rfl,λs' du=>by omega⟩⟩⟩
   case round=>
    have cf:=X2 H;obtain⟨M0,ch⟩:∃ M,Mz I.heap.size g d.n.length D w5=M:=⟨_,rfl⟩;rw[ch] at cf;have fb:=Α ch;have fc:=Α cf;clear E aj H J U ch cf;obtain⟨G,b,s,rfl,rfl,hs,E,aj,H,J,U,HQ⟩:=hrel;by_cases a1:s<d.n.length
    ·obtain⟨br,or',cr,fe,dx⟩:=HR.out s a1;have gg:=(ay.out.trans E).cell fe;have bh:=U.out.len;have cs:=Am Τ H bh.symm s (by rw[bh];exact a1);have c4:=(Ω wr g4 0 _ _ _ J.out).trans (show (#[ϟ (Δ ⟨g,0,Γ⟩) d.n.length D]:Array Ρ)[0]? = Δ (Β (Δ ⟨g,0,Γ⟩) d.n.length D) from rfl);have cj:=Α bh;clear bh;obtain⟨bs,ck⟩:∃ bs,G.getD s Τ=bs:=⟨_,rfl⟩;rw[ck] at cs;have dy:=Α ck;clear ck;cases bs
     ·obtain⟨r,hr⟩:∃ r:List Nat,(ι d.cls.length).map (λq=>d.ent2 s q)=r:=⟨_,rfl⟩;have cm:r.length=d.cls.length:=by rw[<-hr];simp
      have bj:∀ k,k<d.cls.length->r.getD k 0=d.ent2 s k:=λk hk=>by rw[<-hr,Da _ _ _ _ hk]
      have f55:=Ak6 r (by rw[cm];have:=HV.out.parts.le;omega) (λx=>G.getD x Τ) #[γ (Δ ⟨g4,0,Γ⟩)] br or' cr wr
       (λk hk=>by rw[bj k (by omega)];exact (ay.out.trans E).cell (dx k (by omega)))
       (λk hk=>by
        rw[bj k (by omega)];have hx:=HV.out.tgt s a1 k (by omega);exact Ahm g4 g d.n.length D G _ hx wr c4 (Am Τ H cj.out.symm _ (by rw[cj.out];exact hx)))
      rw[cm] at f55;obtain⟨bx,cp⟩:∃ bx:Bool,bx=Ξ↔∃ k,k<d.cls.length/\G.getD (r.getD k 0) Τ=Ξ:=by
       by_cases eb:∃ k,k<d.cls.length/\G.getD (r.getD k 0) Τ=Ξ
       ·exact⟨Ξ,⟨λ_=>eb,λ_=>rfl⟩⟩
       ·exact⟨Τ,⟨λh=>(by cases h),λh=>absurd h eb⟩⟩
      have f55:Ϻ (Ϝ Η 55 #[Β (Δ ⟨br,or',Γ⟩) d.cls.length cr,.func (.func 56) #[] #[γ (Δ ⟨g4,0,Γ⟩)]] wr λe w'=>e=ν (.bool bx)/\w'=wr):=
       Α (f55.mono λe w' ⟨b2,he,ff,hw⟩=>⟨by rw[he];congr 2;rw[Bool.eq_iff_iff,ff,cp],hw⟩)
      have ec:=Α cp;have ed:=Α bj;clear hr cm bj dx cp;cases bx
      ·go_wp2_with (go_at_call 55;(with_reducible refine f55.out.mono ?_);rintro e W' ⟨rfl,rfl⟩);go_roundw
       case rel=>
        refine⟨G,b,s+1,rfl,by go_num,by omega,E,aj,H,J,U,Α ⟨HQ.out.1,λhb=>?_⟩⟩;obtain⟨q1,q2⟩:=HQ.out.2 hb;refine⟨q1,λs' du=>?_⟩;by_cases e:s'=s
        ·subst e;refine .inr λk hk=>?_
         rw[<-q1];cases hh:G.getD (d.ent2 s' k) Τ
         ·rfl
         ·exact absurd (ec.out.2 ⟨k,hk,by rw[ed.out k hk];exact hh⟩) (by simp)
        ·exact q2 s' (by omega)
       case measure=>simp[intOf];omega
      ·obtain⟨fj,bl⟩:=Bj H s Ξ;have fo:=H.frozenAt s;have fk:=E.grown bl (λk e=>by cases e;exact ey);have fl:=ψ aj bl.size;have fm:=Α ((bl.block g4 (An J.out) (by simp;omega)).trans J.out);clear bl H E;go_wp2_with (go_at_call 55;(with_reducible refine f55.out.mono ?_);rintro e W' ⟨rfl,rfl⟩);go_roundw
       case rel=>
        refine⟨G.set s Ξ,Ξ,s+1,rfl,by go_num,by omega,fk,fl,fj,fm,Α ?_,Α ⟨λ_=>?_,λh=>by cases h⟩⟩
        ·obtain⟨k,hk,hv⟩:=ec.out.1 (by simp);exact Aex HV.out U.out a1 hk (by rw[<-ed.out k hk];exact hv)
        ·rw[Ale (by rw[cj.out];exact a1) dy.out];cases b
         ·rw[(HQ.out.2 rfl).1];omega
         ·have:=HQ.out.1 rfl;omega
       case measure=>simp[intOf];omega
     ·go_wp2;go_roundw
      case rel=>
       refine⟨G,b,s+1,rfl,by go_num,by omega,E,aj,H,J,U,Α ⟨HQ.out.1,λhb=>?_⟩⟩;obtain⟨q1,q2⟩:=HQ.out.2 hb;refine⟨q1,λs' du=>?_⟩;by_cases e:s'=s
       ·subst e;exact .inl (by rw[<-q1];exact dy.out)
       ·exact q2 s' (by omega)
      case measure=>simp[intOf];omega
    ·obtain rfl:s=d.n.length:=by omega
     have ee:=X2 H;have fp:=Α ee;clear ee;go_wp2;go_roundw
     case rel=>exact⟨G,b,rfl,E,aj,H,J,U,Α λhb s hs=>by obtain⟨q1,q2⟩:=HQ.out.2 hb;rw[q1];exact q2 s hs⟩
     case measure=>
      have h1:=fp.out;have h2:=fc.out;have h3:=fb.out;have h4:=Alf G;rw[U.out.len] at h4;have h5:=HQ.out;rw[h1,h3,h2];cases b
      ·rw[(h5.2 rfl).1];simp only[Q0];omega
      ·have:=h5.1 rfl;simp only[Q0];omega
end Go.Proofs.YtaiogolidlamiaaGreatDoor
