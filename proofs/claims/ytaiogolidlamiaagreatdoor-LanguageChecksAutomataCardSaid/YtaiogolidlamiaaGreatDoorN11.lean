import Derived.Maps.AppendAt
import Derived.Test.YtaiogolidlamiaaGreatDoorN06
import Derived.Test.YtaiogolidlamiaaGreatDoorN10
import Derived.Test.YtaiogolidlamiaaGreatDoorN05
import Derived.Test.YtaiogolidlamiaaGreatDoorN08
import Derived.Lib.SliceRun
set_option linter.unusedVariables false
set_option linter.unusedSimpArgs false
open Bool renaming true → Ξ, false → Τ
open Go renaming World → Λ, Operand → ϵ, Value → Ν, maxLen → ϛ, Calls → ϓ, heap_alloc2_new → Ϗ, wpList_load_row → Ο, cell_of_row → γ, frozen_of_row → Ϸ, info_parts → Ϟ, undef → ς, wpList_store_row → Φ, setRow_heap → μ, bodyPost_ret → ω
open Go.Ending renaming returned → θ
open Go.IntKind renaming i64 → ε
open Go.Lib renaming hid → Α
open Go.Obj renaming cells → Ε
open Go.Operand renaming tmp → η
open Go.Proofs.Tryz renaming prog → Ζ, underlying30 → Κ, underlying28 → Ã
open Go.RowKit renaming Hid → À
open Go.Value renaming slice → Β, pointer → Ω, bool → ο, slice → Ϥ
open Go.World renaming size_alloc → Ρ
open List renaming replicate → ζ, getElem?_toArray → Ü, getElem?_cons_zero → ä, getElem?_cons_succ → È, setIfInBounds_toArray → Ι, set_cons_zero → Χ, set_cons_succ → Ψ, range → ι, length_set → ϒ, length_map → ϋ, length_range → Î, getElem?_eq_none → Ϩ
open Nat renaming le_trans → ψ, le_refl → ν, lt_of_lt_of_le → δ
open Option renaming some → Δ, none → Γ
open Option.some renaming inj → ύ
namespace Go.Proofs.YtaiogolidlamiaaGreatDoor
set_option maxRecDepth 100000
set_option maxHeartbeats 2000000
open Go.RowKit Go.Shelf
theorem Id {P:Program} (w:Λ) {o:Oper} {a:Act} {K:Act->Λ->Prop} {Q:Exit->Act->Λ->Prop}
  (l c:ϵ) (t:TypeId) (G:o.op=Op.makeSlice t l c)
  (base:Nat) (e:TypeId) (i:TypeInfo) (z:Ν) (size:Nat) (I:P.underlying t=Δ (.slice e)) (J:P.info? e=Δ i) (M:i.zero=Δ z) (T:i.size=size)
  (D E:IntKind) (L C:Int) (n:Nat) (U:a.eval l=.int D L) (hc:a.eval c=.int E C) (hL:L=(n:Int)) (hC:C=(n:Int)) (b2:i.bytes*n<=281474976710656) (b3:n<=ϛ) (b4:base<=w.heap.size)
  (hK:∀ w',w'.ownsRow base e size (Β (Δ ⟨w.heap.size,0,Γ⟩) n n) n (madeCells z.cells (n*size)).toList->w.grownBy w' Γ->K (a.put o.dst (Β (Δ ⟨w.heap.size,0,Γ⟩) n n)) w') :
  o.wp P a w K Q:=by
 obtain⟨w',ag,r1,r2⟩:=run_make_full (P:=P) w base t e i z size I J M T D E n b2 b3 b4;subst hL;subst hC;unfold Oper.wp;simp[execOp,G,U,hc,ag,Result.andThen];exact hK w' r1 r2
theorem Rb (a D E:Option Addr) (n G I c J M:Nat):Ζ.built 30 [(0,Β a n c),(1,Β D G J),(2,Β E I M)]=Δ (dA (Β a n c) (Β D G J) (Β E I M)):=by kernel_rfl
theorem M1:(Ζ.info? 68).map (λi=>(i.zero,i.size,i.bytes))=Δ (Δ (Β Γ 0 0),1,24):=by kernel_rfl
theorem Pn (a s g:Nat) (W:Λ) (M:W.cell? ⟨g,0,Γ⟩=Δ (iv a)) :
  ϓ Ζ 49 #[iv s,Ω (Δ ⟨g,0,Γ⟩)] W λe w'=>e=θ (iv (swp a s))/\w'=W:=by
 go_enter Tryz.func49,Tryz.ntmps49;unfold swp;obtain⟨G,I⟩:∃ b,((s:Int)==0)=b:=⟨_,rfl⟩;obtain⟨b1,J⟩:∃ b,((s:Int)==(a:Int))=b:=⟨_,rfl⟩;have D:(s=0)↔G=Ξ:=by rw[<-I];simp
 have E:(s=a)↔b1=Ξ:=by rw[<-J];simp;omega
 cases G
 ·rw[if_neg (λh=>by simpa using D.1 h)];cases b1
  ·rw[if_neg (λh=>by simpa using E.1 h)];clear D E;go_wp2;go_ret;exact⟨rfl,rfl⟩
  ·rw[if_pos (E.2 rfl)];clear D E;go_wp2;go_ret;exact⟨rfl,rfl⟩
 ·rw[if_pos (D.2 rfl)];clear D E;go_wp2;go_ret;exact⟨rfl,rfl⟩
theorem Gu {w:Λ} {p:Addr} {v:Ν} (h:w.cell? p=Δ v):p.block<w.heap.size:=by
 rcases Nat.lt_or_ge p.block w.heap.size with D|D
 ·exact D
 ·unfold Λ.cell? at h;rw[Array.getElem?_eq_none D] at h;simp at h
theorem Mk {W:Λ} {base D e size:Nat} {v:Ν} {n:Nat} {xs:List Ν} (h:W.ownsRow base e size v n xs) (G:D<=base):W.ownsRow D e size v n xs:=by
 obtain⟨E,I|⟨g,J,cur,hv,hg,rest⟩⟩:=h
 ·exact⟨E,.inl I⟩
 ·exact⟨E,.inr ⟨g,J,cur,hv,ψ G hg,rest⟩⟩
def O0 (D n E:Nat) (G vn:Ν):Nat->Ν->Λ->Prop
 | 0,v,_=>v=Ω (Δ ⟨E,0,Γ⟩)
 | 1,v,_=>v=G
 | 2,v,_=>v=Ω (Δ ⟨E,1,Γ⟩)
 | 3,v,_=>v=vn
 | 4,v,_=>v=iv n
 | 5,v,W=>∃ g,v=Β (Δ ⟨g,0,Γ⟩) n n/\W.ownsRow D 68 1 v n (ζ n (Β Γ 0 0))
 | 6,v,_=>v=Ω (Δ ⟨E,1,Γ⟩)
 | 7,v,_=>v=vn
 | 8,v,_=>v=iv n
 | 9,v,W=>∃ g,v=Β (Δ ⟨g,0,Γ⟩) n n/\W.ownsRow D 4 1 v n ((ζ n Τ).map ο)
 | 10,v,W=>∃ I J,v=.agg (dA G (Β (Δ ⟨I,0,Γ⟩) n n) (Β (Δ ⟨J,0,Γ⟩) n n))/\W.ownsRow D 68 1 (Β (Δ ⟨I,0,Γ⟩) n n) n (ζ n (Β Γ 0 0))/\W.ownsRow D 4 1 (Β (Δ ⟨J,0,Γ⟩) n n) n ((ζ n Τ).map ο)
 | _,v,W=>∃ g,v=Ω (Δ ⟨g,0,Γ⟩)/\W.heap[g]? = Δ (Ε #[Β Γ 0 0,Β Γ 0 0,Β Γ 0 0] 30 (0,0))/\D<=g
def Gk (_ _:Nat) (_ _:Ν):Prop:=True
theorem It (i j:Nat) (v u:Ν) (_:Gk i j v u):Gk j i u v:=trivial
theorem Aeq (J n M:Nat) (T vn:Ν):∀ (i:Nat) (v:Ν) (w w':Λ),O0 J n M T vn i v w->Ext w w'->O0 J n M T vn i v w'
 | 0,_,_,_,h,_=>h
 | 1,_,_,_,h,_=>h
 | 2,_,_,_,h,_=>h
 | 3,_,_,_,h,_=>h
 | 4,_,_,_,h,_=>h
 | 5,_,_,_,⟨g,E,G⟩,D=>⟨g,E,Ah G D⟩
 | 6,_,_,_,h,_=>h
 | 7,_,_,_,h,_=>h
 | 8,_,_,_,h,_=>h
 | 9,_,_,_,⟨g,E,G⟩,D=>⟨g,E,Ah G D⟩
 | 10,_,_,_,⟨g,U,E,G,I⟩,D=>⟨g,U,E,Ah G D,Ah I D⟩
 | _+11,_,_,_,⟨g,E,G,I⟩,D=>⟨g,E,D.heap G,I⟩
theorem Ahn (i:Nat) (h:i<20):i=0\/i=1\/i=2\/i=3\/i=4\/i=5\/i=6\/i=7\/i=8\/i=9\/i=10\/i=11\/i=12\/i=13\/i=14\/i=15\/i=16\/i=17\/i=18\/i=19:=by omega
def Oz (wF:Λ) (n U D I J E M T ca s G:Nat) (vx:Ν) (ok:Bool):Nat->Ν->Λ->Prop
 | 0,v,_=>v=Ω (Δ ⟨J,1,Γ⟩)
 | 1,v,_=>v=Β (Δ ⟨D,0,Γ⟩) n n
 | 2,v,_=>v=.func (.func 49) #[] #[Ω (Δ ⟨I,0,Γ⟩)]
 | 3,v,_=>v=iv s
 | 4,v,_=>v=iv G
 | 5,v,_=>v=Ω (Δ ⟨J,2,Γ⟩)
 | 6,v,_=>v=Β (Δ ⟨E,0,Γ⟩) n n
 | 7,v,_=>v=.func (.func 49) #[] #[Ω (Δ ⟨I,0,Γ⟩)]
 | 8,v,_=>v=iv s
 | 9,v,_=>v=iv G
 | 10,v,_=>v=vx
 | 11,v,_=>v=Ω (Δ ⟨U,2,Γ⟩)
 | 12,v,_=>v=Β (Δ ⟨M,T,Γ⟩) n ca
 | 13,v,_=>v=iv s
 | 14,v,_=>v=Ω (Δ ⟨M,T+s,Γ⟩)
 | 15,v,_=>v=.bool ok
 | 16,v,_=>v=Ω (Δ ⟨D,G,Γ⟩)
 | 17,_,W=>W.heap[D]? = wF.heap[D]?
 | 18,v,_=>v=Ω (Δ ⟨E,G,Γ⟩)
 | _,_,W=>W.heap[E]? = wF.heap[E]?
theorem Aep {w1:Λ} (wF:Λ) (n I D J M E T U ca s js:Nat) (vx:Ν) (ok:Bool) (h5:D<w1.heap.size) (h9:E<w1.heap.size):∀ (i:Nat) (v:Ν) (w w':Λ),Oz wF n I D J M E T U ca s js vx ok i v w->Prg w1 wF w w'->Oz wF n I D J M E T U ca s js vx ok i v w'
 | 0,_,_,_,h,_=>h
 | 1,_,_,_,h,_=>h
 | 2,_,_,_,h,_=>h
 | 3,_,_,_,h,_=>h
 | 4,_,_,_,h,_=>h
 | 5,_,_,_,h,_=>h
 | 6,_,_,_,h,_=>h
 | 7,_,_,_,h,_=>h
 | 8,_,_,_,h,_=>h
 | 9,_,_,_,h,_=>h
 | 10,_,_,_,h,_=>h
 | 11,_,_,_,h,_=>h
 | 12,_,_,_,h,_=>h
 | 13,_,_,_,h,_=>h
 | 14,_,_,_,h,_=>h
 | 15,_,_,_,h,_=>h
 | 16,_,_,_,h,_=>h
 | 17,_,_,_,h,G=>G.turned h5 h
 | 18,_,_,_,h,_=>h
 | _+19,_,_,_,h,G=>G.turned h9 h
theorem Ue (d:Dfa) (hv:Val d) (hn:d.n.length<=64) (v:Ν) (l:List UInt8) (u:Ν) (w:Λ) (hT:Tab w) (e4:0<w.heap.size) (h:IsD w v d) (hb:By w u l) :
  ϓ Ζ 14 #[v,u] w λe w'=>∃ r,ResOf w' e (Δ r)/\Cano r/\(∀ x,r.has x=d.has (l++x))/\Ext w w':=by
 have HD:=Α h;have jo:=Α hb;have jq:=Α (λW (D:Ext w W)=>hT.below D.below e4);obtain⟨bc,oc,cc,bn,on,cn,ba,oa,ca,rfl,hC,hR,e6⟩:=h.opened hv;obtain⟨ub,uc,rfl⟩:=hb.len;have f47:=λW (D:Ext w W)=>Α (Ef d hv hn _ W (HD.out.ext D))
 have f48:=λW (D:Ext w W)=>Α (An5 d hv _ l _ W (HD.out.ext D) (jo.out.ext D))
 have b4:=hv.run_lt l hv.pos;have HV:=Α hv;have HC:=Α hC;have HR:=Α hR;have jv:=Α e6;obtain⟨a,ha⟩:∃ a,d.run 0 l=a:=⟨_,rfl⟩;rw[ha] at f48 b4;have HA:=Α ha;obtain⟨vc,cd⟩:∃ X,Ϥ (Δ ⟨bc,oc,Γ⟩) d.cls.length cc=X:=⟨_,rfl⟩;obtain⟨vn,cz⟩:∃ X,Ϥ (Δ ⟨bn,on,Γ⟩) d.n.length cn=X:=⟨_,rfl⟩;obtain⟨va,c2⟩:∃ X,Ϥ (Δ ⟨ba,oa,Γ⟩) d.n.length ca=X:=⟨_,rfl⟩;rw[cd,cz,c2] at HD f47 f48;rw[cd] at HC;rw[cd,cz,c2];obtain⟨Va,cf⟩:∃ X,dA vc vn va=X:=⟨_,rfl⟩;have e8:(Ζ.info? 30).map (·.size)=Δ Va.size:=by rw[<-cf];exact Ad
 rw[cf] at f47 f48 HD;rw[cf];have dm:=((Θ w).alloc (Ε Va 30)).alloc (Ε #[Β Γ 0 0,Β Γ 0 0,Β Γ 0 0] 30);have H2:=Ag (Aa w (Ε Va 30)) (Ε #[Β Γ 0 0,Β Γ 0 0,Β Γ 0 0] 30);have H4:=Ϗ w (Ε Va 30) (Ε #[Β Γ 0 0,Β Γ 0 0,Β Γ 0 0] 30);have c3:=Α cf;have e9:=Α cz;have jx:=Α c2;have c4:=Α cd;clear hb h hT hC hR e6 hv ha cf cd cz c2;go_enter Tryz.func14,Tryz.ntmps14;go_upto_region 1 with (fail)
 obtain⟨w1,c5⟩:∃ W,(w.alloc (Ε Va 30)).alloc (Ε #[Β Γ 0 0,Β Γ 0 0,Β Γ 0 0] 30)=W:=⟨_,rfl⟩;have ll:w.heap.size+1<w1.heap.size:=by rw[<-c5,Ρ,Ρ];omega
 rw[c5] at dm H2 H4;simp only[c5];clear c5;have ak:=Α H2;have al:=Α H4;have dq:=Α dm;clear H2 H4 dm;go_upto_region 3 with (first
  | (refine Ο rfl 30 (η 2) rfl _ rfl _ _ _ _ ak.out Κ rfl e8 ?_)
  | (go_at_call 47;(with_reducible refine (f47 _ dq.out).out.mono ?_);rintro e w2 ⟨rfl,c7⟩;have dr:=Α (dq.out.trans c7);have ak:=Α (c7.heap ak.out);have al:=Α (c7.heap al.out);clear c7))
 go_upto_region 4 with (first
  | (refine Ο rfl 30 (η 2) rfl _ rfl _ _ _ _ ak.out Κ rfl e8 ?_)
  | (go_at_call 48;(with_reducible refine (f48 _ dr.out).out.mono ?_);rintro e w3 ⟨rfl,c8⟩;have fa:=Α (dr.out.trans c8);have ak:=Α (c8.heap ak.out);have al:=Α (c8.heap al.out);clear c8;have jy:=(γ (w3.alloc (Ε #[.int ε 0] 3)) w3.heap.size 0 _ _ _ (Aa w3 (Ε #[.int ε 0] 3))).trans (show (#[Ν.int ε 0]:Array Ν)[0]? = Δ (.int ε 0) from rfl);have jz:=Ϸ (w3.alloc (Ε #[.int ε 0] 3)) w3.heap.size 0 _ _ (Aa w3 (Ε #[.int ε 0] 3))))
 go_upto_region 5 with (fail)
 have cg:=(Θ w3).alloc (Ε #[iv a] 3);have H6:=Aa w3 (Ε #[iv a] 3);obtain⟨w4,c9⟩:∃ W,w3.alloc (Ε #[iv a] 3)=W:=⟨_,rfl⟩;have fb:w3.alloc (Ε #[.int ε (a:Int)] 3)=w4:=c9;have lo:w3.heap.size<w4.heap.size:=by rw[<-c9,Ρ];omega
 rw[c9] at cg H6;simp only[fb];clear c9 fb jy jz;have bl:=Α (fa.out.trans cg);have ak:=Α (cg.heap ak.out);have al:=Α (cg.heap al.out);have da:=Α H6;generalize w3.heap.size=g6 at *;clear cg H6 dr dq fa f47 f48;obtain⟨i0,hi,j2,j3,j4⟩:=Ϟ Cp;obtain⟨j0,hj,j6,j7,j8⟩:=Ϟ D8;obtain⟨k0,hk,ka,kb,kc⟩:=Ϟ M1;have kd:=Α (λ(W:Λ) (D:Ext w4 W)=>(γ W w.heap.size 0 _ _ _ (D.heap ak.out)).trans (show Va[0]? = Δ vc by rw[<-c3.out];rfl));have dv:=Α (λ(W:Λ) (D:Ext w4 W)=>(γ W w.heap.size 1 _ _ _ (D.heap ak.out)).trans (show Va[1]? = Δ (Β (Δ ⟨bn,on,Γ⟩) d.n.length cn) by rw[<-c3.out,e9.out];rfl));have ke:=Α (λ(W:Λ) (D:Ext w4 W)=>(γ W w.heap.size 2 _ _ _ (D.heap ak.out)).trans (show Va[2]? = Δ (Β (Δ ⟨ba,oa,Γ⟩) d.n.length ca) by rw[<-c3.out,jx.out];rfl));rw[<-e9.out] at c3;refine Ic 12 81 (by kernel_rfl) (by kernel_rfl) rfl (O0 w4.heap.size d.n.length w.heap.size vc (Β (Δ ⟨bn,on,Γ⟩) d.n.length cn)) Gk It (Aeq _ _ _ _ _) (λi bm=>?_) (λvs w5 fc J hN=>?_)
 ·have b5:=(Θ w4).drew
  match i,bm with
  | 0,_=>
   refine Ap _ _ rfl rfl rfl λc W D E G=>?_
   have U:c.tmps.getD 2 ς=Ω (Δ ⟨w.heap.size,0,Γ⟩):=G 2 (by kernel_rfl);go_simp;exact⟨_,rfl,Θ W,rfl,λ_ _ _ _ _=>trivial⟩
  | 1,_=>
   refine Ap _ _ rfl rfl rfl λc W D E G=>?_
   have U:c.tmps.getD 22 ς=Ω (Δ ⟨w.heap.size,0,Γ⟩):=E 0 22 (by kernel_rfl);have c0:=kd.out W (b5.trans D);rw[<-c4.out] at c0;go_simp;exact⟨_,rfl,Θ W,c4.out,λ_ _ _ _ _=>trivial⟩
  | 2,_=>
   refine Ap _ _ rfl rfl rfl λc W D E G=>?_
   have U:c.tmps.getD 2 ς=Ω (Δ ⟨w.heap.size,0,Γ⟩):=G 2 (by kernel_rfl);go_simp;exact⟨_,rfl,Θ W,rfl,λ_ _ _ _ _=>trivial⟩
  | 3,_=>
   refine Ap _ _ rfl rfl rfl λc W D E G=>?_
   have U:c.tmps.getD 24 ς=Ω (Δ ⟨w.heap.size,1,Γ⟩):=E 2 24 (by kernel_rfl);have c1:=dv.out W (b5.trans D);go_simp;exact⟨_,rfl,Θ W,rfl,λ_ _ _ _ _=>trivial⟩
  | 4,_=>
   refine Ap _ _ rfl rfl rfl λc W D E G=>?_
   have U:c.tmps.getD 25 ς=Β (Δ ⟨bn,on,Γ⟩) d.n.length cn:=E 3 25 (by kernel_rfl);go_simp;exact⟨_,rfl,Θ W,rfl,λ_ _ _ _ _=>trivial⟩
  | 5,_=>
   refine Ap _ _ rfl rfl rfl λc W D E G=>?_
   have U:c.tmps.getD 26 ς=iv d.n.length:=E 4 26 (by kernel_rfl);refine Id W _ _ 27 rfl w4.heap.size 68 k0 (Β Γ 0 0) 1 Tryz.underlying27 hk ka kb ε ε _ _ d.n.length U U rfl rfl (by rw[kc];omega) (by unfold ϛ;omega) (b5.trans D).size ?_;intro W' dx b6;refine⟨_,rfl,(Θ W).grown b6 (λk e=>by cases e),⟨_,rfl,?_⟩,λ_ _ _ _ _=>trivial⟩;have:(madeCells (Ϥ Γ 0 0).cells (d.n.length*1)).toList=ζ d.n.length (Β Γ 0 0):=by
    rw[Nat.mul_one];exact toList_madeCells_one _ _
   rw[<-this];exact dx
  | 6,_=>
   refine Ap _ _ rfl rfl rfl λc W D E G=>?_
   have U:c.tmps.getD 2 ς=Ω (Δ ⟨w.heap.size,0,Γ⟩):=G 2 (by kernel_rfl);go_simp;exact⟨_,rfl,Θ W,rfl,λ_ _ _ _ _=>trivial⟩
  | 7,_=>
   refine Ap _ _ rfl rfl rfl λc W D E G=>?_
   have U:c.tmps.getD 28 ς=Ω (Δ ⟨w.heap.size,1,Γ⟩):=E 6 28 (by kernel_rfl);have c1:=dv.out W (b5.trans D);go_simp;exact⟨_,rfl,Θ W,rfl,λ_ _ _ _ _=>trivial⟩
  | 8,_=>
   refine Ap _ _ rfl rfl rfl λc W D E G=>?_
   have U:c.tmps.getD 29 ς=Β (Δ ⟨bn,on,Γ⟩) d.n.length cn:=E 7 29 (by kernel_rfl);go_simp;exact⟨_,rfl,Θ W,rfl,λ_ _ _ _ _=>trivial⟩
  | 9,_=>
   refine Ap _ _ rfl rfl rfl λc W D E G=>?_
   have U:c.tmps.getD 30 ς=iv d.n.length:=E 8 30 (by kernel_rfl);refine Id W _ _ 28 rfl w4.heap.size 4 j0 (.bool Τ) 1 Ã hj j6 j7 ε ε _ _ d.n.length U U rfl rfl (by rw[j8];omega) (by unfold ϛ;omega) (b5.trans D).size ?_;intro W' dx b6;refine⟨_,rfl,(Θ W).grown b6 (λk e=>by cases e),⟨_,rfl,?_⟩,λ_ _ _ _ _=>trivial⟩;rw[<-B6];exact dx
  | 10,_=>
   refine Ap _ _ rfl rfl rfl λc W D E G=>?_
   have U:c.tmps.getD 23 ς=vc:=E 1 23 (by kernel_rfl);obtain⟨I,fe,h5⟩:∃ g,c.tmps.getD 27 ς=Β (Δ ⟨g,0,Γ⟩) d.n.length d.n.length/\W.ownsRow w4.heap.size 68 1 (c.tmps.getD 27 ς) d.n.length (ζ d.n.length (Β Γ 0 0)):=E 5 27 (by kernel_rfl);obtain⟨M,fg,h9⟩:∃ g,c.tmps.getD 31 ς=Β (Δ ⟨g,0,Γ⟩) d.n.length d.n.length/\W.ownsRow w4.heap.size 4 1 (c.tmps.getD 31 ς) d.n.length ((ζ d.n.length Τ).map ο):=E 9 31 (by kernel_rfl);rw[fe] at h5;rw[fg] at h9;refine C4 (Hm 30 _ rfl (A:=dA vc (Β (Δ ⟨I,0,Γ⟩) d.n.length d.n.length) (Β (Δ ⟨M,0,Γ⟩) d.n.length d.n.length)) ?_ W) ?_
   ·have e:(Array.map (λ(i,x)=>(i,c.eval x)) #[(0,ϵ.tmp 23),(1,ϵ.tmp 27),(2,ϵ.tmp 31)]).toList=[(0,c.eval (η 23)),(1,c.eval (η 27)),(2,c.eval (η 31))]:=by simp
    rw[e,show c.eval (η 23)=vc from U,show c.eval (η 27)=_ from fe,show c.eval (η 31)=_ from fg,<-c4.out];exact Rb _ _ _ _ _ _ _ _ _
   ·exact⟨_,rfl,Θ W,⟨I,M,rfl,h5,h9⟩,λ_ _ _ _ _=>trivial⟩
  | 11,_=>
   refine Ap _ _ rfl rfl rfl λc W D E G=>?_
   go_simp;exact⟨_,rfl,(Θ W).alloc _,⟨_,rfl,Aa W _,(b5.trans D).size⟩,λ_ _ _ _ _=>trivial⟩
 ·have fh:vs 0=Ω (Δ ⟨w.heap.size,0,Γ⟩):=J 0 (by omega);have fj:vs 1=vc:=J 1 (by omega);have fk:vs 2=Ω (Δ ⟨w.heap.size,1,Γ⟩):=J 2 (by omega);have fl:vs 3=Β (Δ ⟨bn,on,Γ⟩) d.n.length cn:=J 3 (by omega);have fm:vs 4=iv d.n.length:=J 4 (by omega);obtain⟨lp,ch,-⟩:∃ g,vs 5=Β (Δ ⟨g,0,Γ⟩) d.n.length d.n.length/\_:=J 5 (by omega);have fp:vs 6=Ω (Δ ⟨w.heap.size,1,Γ⟩):=J 6 (by omega);have fq:vs 7=Β (Δ ⟨bn,on,Γ⟩) d.n.length cn:=J 7 (by omega);have fs:vs 8=iv d.n.length:=J 8 (by omega);obtain⟨lq,ft,-⟩:∃ g,vs 9=Β (Δ ⟨g,0,Γ⟩) d.n.length d.n.length/\_:=J 9 (by omega);obtain⟨I,M,fu,ao,aq⟩:∃ I M,vs 10=.agg (dA vc (Β (Δ ⟨I,0,Γ⟩) d.n.length d.n.length) (Β (Δ ⟨M,0,Γ⟩) d.n.length d.n.length))/\_/\_:=J 10 (by omega);obtain⟨g8,fv,H8,cj⟩:∃ g,vs 11=Ω (Δ ⟨g,0,Γ⟩)/\_/\_:=J 11 (by omega);simp only[Bq,List.drop_succ_cons,List.drop_zero,fh,fj,fk,fl,fm,ch,fp,fq,fs,ft,fu,fv,Ü,ä,È,Option.bind_some,Act.put,Ι,Χ,Ψ];clear J hN fh fj fk fl fm ch fp fq fs ft fu fv;go_upto_region 6 with (refine Φ rfl 30 (η 8) (η 32) rfl _ _ rfl rfl _ _ H8 Ad rfl (Aq _ _ _ (by rw[<-c4.out];rfl) rfl rfl) ?_)
  have ck:=((Θ w4).drew.trans fc).setRow cj (dA vc (Β (Δ ⟨I,0,Γ⟩) d.n.length d.n.length) (Β (Δ ⟨M,0,Γ⟩) d.n.length d.n.length));have dy:=μ w5 g8 _ (dA vc (Β (Δ ⟨I,0,Γ⟩) d.n.length d.n.length) (Β (Δ ⟨M,0,Γ⟩) d.n.length d.n.length)) _ _ H8;have ea:=ao.kept (Cd w5 g8 (dA vc (Β (Δ ⟨I,0,Γ⟩) d.n.length d.n.length) (Β (Δ ⟨M,0,Γ⟩) d.n.length d.n.length))) (Dr ao H8 (by decide));have eb:=aq.kept (Cd w5 g8 (dA vc (Β (Δ ⟨I,0,Γ⟩) d.n.length d.n.length) (Β (Δ ⟨M,0,Γ⟩) d.n.length d.n.length))) (Dr aq H8 (by decide));obtain⟨w6,ec⟩:∃ W,w5.setRow g8 (dA vc (Β (Δ ⟨I,0,Γ⟩) d.n.length d.n.length) (Β (Δ ⟨M,0,Γ⟩) d.n.length d.n.length))=W:=⟨_,rfl⟩;rw[ec] at ck dy ea eb;simp only[ec];clear ec H8 ao aq fc;have lr:=HV.out.parts.pos;have ls:=HV.out.parts.le;have a1:w4.heap.size<=w6.heap.size:=ck.size;have k1:=dv.out w6 ck;have H8:=Α dy;clear dy;go_upto_region 7 with (fail)
  clear k1;go_loopw [36] (λi W=>∃ (s:Nat) (NX:List Ν) (AC:List Bool),s<=d.n.length/\i=.int ε s/\Ext w4 W/\w4.heap.size<=W.heap.size/\À (NX.length=d.n.length/\AC.length=d.n.length)/\
    W.ownsRow w4.heap.size 68 1 (Β (Δ ⟨I,0,Γ⟩) d.n.length d.n.length) d.n.length NX/\W.ownsRow w4.heap.size 4 1 (Β (Δ ⟨M,0,Γ⟩) d.n.length d.n.length) d.n.length (AC.map ο)/\
    À (W.heap[g8]? = Δ (Ε (dA vc (Β (Δ ⟨I,0,Γ⟩) d.n.length d.n.length) (Β (Δ ⟨M,0,Γ⟩) d.n.length d.n.length)) 30 (0,0)))/\
    À (∀ j,j<d.n.length->swp a j<s->OwnI W w4.heap.size (NX.getD j ς) ((ι d.cls.length).map λq=>swp a (d.ent2 (swp a j) q)))/\
    À (∀ j,j<d.n.length->swp a j<s->AC.getD j Τ=d.ok (swp a j)))
   (λi _=>d.n.length-(intOf i).toNat)
  case atStart=>exact⟨0,_,_,by omega,rfl,ck,a1,Α ⟨by simp,by simp⟩,ea,eb,H8,Α (λj _ h=>by omega),Α (λj _ h=>by omega)⟩
  case round=>
   clear ck a1 ea eb H8;obtain⟨s,NX,AC,hs,rfl,hE,a1,HL,ao,aq,H8,HQ,ed⟩:=hrel;by_cases ee:s<d.n.length
   ·obtain⟨br,or',cr,fx,fy⟩:=HR.out s ee;have kg:=(bl.out.trans hE).cell fx;have kh:=Α fy;clear fx fy;have lx:=hE.size;go_upto_region 9 with (fail)
    clear kg;go_upto_region 10 with (at_make;refine wpList_make_full _ rfl _ _ 68 rfl wr.heap.size 3 i0 (.int ε 0) 1 Tryz.underlying68 hi j2 j3 ε ε _ _ d.cls.length rfl rfl rfl rfl (by rw[j4];omega) (by unfold ϛ;omega) (ν _) ?_;intro w7 fz bo)
    have eg:=hE.grown bo (λk e=>by cases e);have ao:=Cb ao bo;have aq:=Cb aq bo;have H8:=Α ((bo.block g8 (An H8.out) (by simp)).trans H8.out);have HQ:=Α (λj hj T=>And.intro (Cb (HQ.out j hj T) bo) (λe=>(show ∀ k,(NX.getD j ς).ownBlock=Δ k->k<wr.heap.size from λk e=>((HQ.out j hj T).lt k e).2) wr.heap.size e));have b8:w7.ownsRow wr.heap.size 3 1 (Β (Δ ⟨wr.heap.size,0,Γ⟩) d.cls.length d.cls.length) d.cls.length ((Br (λq=>swp a (d.ent2 s q)) d.cls.length 0).map iv):=by rw[Hl,<-B6];exact fz
    have ly:=ψ a1 bo.size;have lz:wr.heap.size<w7.heap.size:=(b8.lt _ rfl).2;clear fz bo;generalize eh:wr.heap.size=gn at *;clear eh;go_upto_region 11 with (fail)
    go_loopw [46] (λi W=>∃ k:Nat,k<=d.cls.length/\i=.int ε k/\w7.grownBy W (Δ gn)/\W.ownsRow gn 3 1 (Β (Δ ⟨gn,0,Γ⟩) d.cls.length d.cls.length) d.cls.length ((Br (λq=>swp a (d.ent2 s q)) d.cls.length k).map iv))
     (λi _=>d.cls.length-(intOf i).toNat)
    case atStart=>exact⟨0,by omega,rfl,Λ.grownBy.refl _ _,b8⟩
    case round=>
     obtain⟨k,l2,rfl,hg,hX⟩:=hrel;have b9:=eg.grown hg (λk e=>by cases e;exact a1);by_cases ei:k<d.cls.length
     ·have cq:=(bl.out.trans b9).cell (kh.out k ei);have co:=Am 0 hX (C2 _ _ _).symm k (by rw[C2];exact ei);have fo:=hX.frozenAt k;obtain⟨a8,b6⟩:=Bk hX k (swp a (d.ent2 s k));rw[F1 (λq=>swp a (d.ent2 s q)) _ _ ei] at a8;have c6:=(γ wr g6 0 _ _ _ (b9.heap da.out)).trans (show (#[iv a]:Array Ν)[0]? = Δ (iv a) from rfl);have f49:=Α (Pn a (d.ent2 s k) g6 wr c6);have gb:=enters_of Tryz.func49 (by kernel_rfl) rfl;have eh:=hg.trans b6;clear c6 b6 b9 hg hX;generalize d.ent2 s k=x at *;generalize swp a x=y at *;go_wp2_with (go_at_call 49;(with_reducible refine f49.out.mono ?_);rintro e W' ⟨rfl,rfl⟩);go_roundw
      case rel=>exact⟨k+1,by omega,by go_num,eh,a8⟩
      case measure=>simp[intOf];omega
     ·obtain rfl:k=d.cls.length:=by omega
      rw[Jd] at hX;have dd:=Ge b4 ee;have gd:swp a (swp a s)=s:=Gd a s;have gf:=ao.kept hg (Aj ao b8 (by decide));have gg:=aq.kept hg (Aj aq b8 (by decide));have b9:=eg.grown hg (λk e=>by cases e;exact a1);have gh:g8≠gn:=λe=>by
       have T:=H8.out;obtain⟨C,hC,-⟩:=Gi b8;rw[e,hC] at T;injection T with T
       injection T with _ h2 _
       exact absurd h2 (by decide)
      have gi:=(hg.block g8 (An H8.out) (by simp[gh])).trans H8.out;have gj:=Α (λj hj T=>(HQ.out j hj T).1.kept hg (.inr λe=>absurd ((HQ.out j hj T).2 e) (Nat.lt_irrefl _)));clear HQ ao aq H8 b8 eg;have bb:=(Θ wr).drew;go_upto_region 15 with (fail)
      obtain⟨wd,ej⟩:∃ W,wr.drew=W:=⟨_,rfl⟩;rw[ej] at bb;have aw:=Ah gf bb;have cl:=Ah gg bb;have cm:=Ah hX bb;have bq:=b9.trans bb;have bt:=bb.heap gi;have cp:=Α (λj hj T=>Ah (gj.out j hj T) bb);clear gf gg hX b9 gi gj;obtain⟨C5,bd,kj⟩:=Gi aw;obtain⟨C9,bu,kk⟩:=Gi cl;have ek:I≠M:=λe=>by
       rw[e,bu] at bd;injection bd with T
       injection T with _ h2 _
       exact absurd h2 (by decide)
      have de:g8≠I:=λe=>by
       rw[<-e,bt] at bd;injection bd with T
       injection T with _ h2 _
       exact absurd h2 (by decide)
      have df:g8≠M:=λe=>by
       rw[<-e,bt] at bu;injection bu with T
       injection T with _ h2 _
       exact absurd h2 (by decide)
      have gk:w4.heap.size<=I:=(aw.lt I rfl).1;have gl:w4.heap.size<=M:=(cl.lt M rfl).1;obtain⟨p1,p2,p3,p4,p5,p6⟩:=Ly wd I (swp a s) (Β (Δ ⟨gn,0,Γ⟩) d.cls.length d.cls.length) bd;have gv:=(p6 M (Ne.symm ek)).trans bu;obtain⟨q1,q2,q3,q4,q5,q6⟩:=Ly (wd.setCell ⟨I,swp a s,Γ⟩ (Β (Δ ⟨gn,0,Γ⟩) d.cls.length d.cls.length)) M (swp a s) (.bool (d.ok s)) gv;have be:=(aw.stored (swp a s) (Β (Δ ⟨gn,0,Γ⟩) d.cls.length d.cls.length)).1;have bw:=(aw.stored (swp a s) (Β (Δ ⟨gn,0,Γ⟩) d.cls.length d.cls.length)).2;have ct:=cl.kept bw (Aj cl aw (by decide));obtain⟨cu,cv⟩:=Bk ct (swp a s) (d.ok s);have be:=be.kept cv (Aj be ct (by decide));have a8:=(cm.kept bw (Aj cm aw (by decide))).kept cv (Aj (cm.kept bw (Aj cm aw (by decide))) ct (by decide));have er:=Α (λj hj T=>((cp.out j hj T).kept bw (Aj (cp.out j hj T) aw (by decide))).kept cv (Aj ((cp.out j hj T).kept bw (Aj (cp.out j hj T) aw (by decide))) ct (by decide)));have cb:=(bq.grown bw (λk e=>by cases e;exact gk)).grown cv (λk e=>by cases e;exact gl);obtain⟨wF,gw⟩:∃ W,(wd.setCell ⟨I,swp a s,Γ⟩ (Β (Δ ⟨gn,0,Γ⟩) d.cls.length d.cls.length)).setCell ⟨M,swp a s,Γ⟩ (.bool (d.ok s))=W:=⟨_,rfl⟩;rw[gw] at q1 q2 q3 q4 q5 q6 be cu a8 er cb;have ch:wF.heap[I]? = Δ (Ε (C5.setIfInBounds (swp a s) (Β (Δ ⟨gn,0,Γ⟩) d.cls.length d.cls.length)) 68 (0,0)):=(q6 I ek).trans p5;have gx:∀ k,k≠I->k≠M->wF.heap[k]? = wd.heap[k]? := λk T h2=>(q6 k h2).trans (p6 k T)
      have bf:=Α gx;have et:=An bd;have eu:=An bu;have cj:=An bt;have gy:w.heap.size<wd.heap.size:=An (bq.heap ak.out);have gz:g6<wd.heap.size:=An (bq.heap da.out);have kl:w.heap.size<w4.heap.size:=An ak.out;have km:g6<w4.heap.size:=An da.out;have kn:=a1;have HP:=Α (λ(W:Λ) (D:Prg wd wF wd W)=>show W.cell? ⟨g8,1,Γ⟩=Δ (Β (Δ ⟨I,0,Γ⟩) d.n.length d.n.length)/\W.cell? ⟨g8,2,Γ⟩=Δ (Β (Δ ⟨M,0,Γ⟩) d.n.length d.n.length)/\W.cell? ⟨g6,0,Γ⟩=Δ (iv a)/\
        W.cell? ⟨w.heap.size,2,Γ⟩=Δ (Β (Δ ⟨ba,oa,Γ⟩) d.n.length ca)/\W.cell? ⟨ba,oa+s,Γ⟩=Δ (.bool (d.ok s)) from
       ⟨D.cell ((γ wd g8 1 _ _ _ bt).trans rfl) cj (bf.out _ de df),D.cell ((γ wd g8 2 _ _ _ bt).trans rfl) cj (bf.out _ de df),
        D.cell ((γ wd g6 0 _ _ _ (bq.heap da.out)).trans rfl) gz (bf.out _ (by show g6≠I;omega) (by show g6≠M;omega)),
        D.cell (ke.out wd bq) gy (bf.out _ (by show w.heap.size≠I;omega) (by show w.heap.size≠M;omega)),
        by
         have hc:=jv.out s ee;have l7:ba<w.heap.size:=Gu hc;exact D.cell ((bl.out.trans bq).cell hc) (by show ba<_;omega) (bf.out _ (by show ba≠I;omega) (by show ba≠M;omega))⟩)
      have ev:=Α (λ(W:Λ) (D:Prg wd wF wd W) (T:W.heap[I]? = wF.heap[I]?) (h2:W.heap[M]? = wF.heap[M]?)=>show Ext wF W from
       D.done (by rw[q1,p1]) (by rw[q2,p2]) (by rw[q3,p3]) (by rw[q4,p4]) (λk _=>by
        by_cases e1:k=I
        ·subst e1;exact .inr T
        ·by_cases e2:k=M
         ·subst e2;exact .inr h2
         ·exact .inl (bf.out k e1 e2)))
      have ew:=Α (λ(W:Λ) (D:Prg wd wF wd W)=>D.store bd ch (by omega));have ey:=Α (λ(W:Λ) (D:Prg wd wF wd W)=>D.store bu q5 (by omega));have hl:=Α be;have ho:=Α cu;have hp:=Α a8;have hr:=Α cb;have ht:=Α gd;rw[<-ej] at HP ev ew ey et eu;have hx:=Α ((bf.out g8 de df).trans bt);clear bd bu gv ch p1 p2 p3 p4 p5 p6 q1 q2 q3 q4 q5 q6 gx be cu a8 cb gd aw cl cm bq bt cp bw cv ct gw ej bb kj kk ek de df gk gl cj gy gz kl km kn hg gh;refine N0 20 81 rfl (by kernel_rfl) (by kernel_rfl) rfl (Prg wr.drew wF) (Ö _ _) (Prg.trans _ _) (Oz wF d.n.length w.heap.size I g6 g8 M ba oa ca s (swp a s) (Β (Δ ⟨gn,0,Γ⟩) d.cls.length d.cls.length) (d.ok s)) Gk It (Aep _ _ _ _ _ _ _ _ _ _ _ _ _ _ et eu) (λi bm=>?_) (λvs w8 hz J hN=>?_)
      ·rcases Ahn i bm with rfl|rfl|rfl|rfl|rfl|rfl|rfl|rfl|rfl|rfl|rfl|rfl|rfl|rfl|rfl|rfl|rfl|rfl|rfl|rfl
       ·refine Bh _ _ rfl rfl rfl λc W D E ae G=>?_
        have U:c.tmps.getD 8 ς=Ω (Δ ⟨g8,0,Γ⟩):=G 8 (by kernel_rfl);go_simp;exact⟨_,rfl,Ö _ _ _,rfl,λ_ _ _ _=>trivial⟩
       ·refine Bh _ _ rfl rfl rfl λc W D E ae G=>?_
        have U:c.tmps.getD 58 ς=Ω (Δ ⟨g8,1,Γ⟩):=E 0 58 (by kernel_rfl);have c0:=(HP.out W D).1;go_simp;exact⟨_,rfl,Ö _ _ _,rfl,λ_ _ _ _=>trivial⟩
       ·refine Bh _ _ rfl rfl rfl λc W D E ae G=>?_
        have U:c.tmps.getD 7 ς=.func (.func 49) #[] #[Ω (Δ ⟨g6,0,Γ⟩)]:=G 7 (by kernel_rfl);go_simp;exact⟨_,rfl,Ö _ _ _,rfl,λ_ _ _ _=>trivial⟩
       ·refine Bh _ _ rfl rfl rfl λc W D E ae G=>?_
        have U:c.tmps.getD 9 ς=iv s:=G 9 (by kernel_rfl);go_simp;exact⟨_,rfl,Ö _ _ _,rfl,λ_ _ _ _=>trivial⟩
       ·refine Bh _ _ rfl rfl rfl λc W D E ae G=>?_
        have ko:c.tmps.getD 60 ς=.func (.func 49) #[] #[Ω (Δ ⟨g6,0,Γ⟩)]:=E 2 60 (by kernel_rfl);have kq:c.tmps.getD 61 ς=iv s:=E 3 61 (by kernel_rfl);have gb:=enters_of Tryz.func49 (by kernel_rfl) rfl;have f49:=Α (Pn a s g6 W (HP.out W D).2.2.1);go_simp
        (with_reducible refine f49.out.mono ?_)
        rintro e W' ⟨rfl,rfl⟩;exact⟨_,rfl,Ö _ _ _,rfl,λ_ _ _ _=>trivial⟩
       ·refine Bh _ _ rfl rfl rfl λc W D E ae G=>?_
        have U:c.tmps.getD 8 ς=Ω (Δ ⟨g8,0,Γ⟩):=G 8 (by kernel_rfl);go_simp;exact⟨_,rfl,Ö _ _ _,rfl,λ_ _ _ _=>trivial⟩
       ·refine Bh _ _ rfl rfl rfl λc W D E ae G=>?_
        have U:c.tmps.getD 63 ς=Ω (Δ ⟨g8,2,Γ⟩):=E 5 63 (by kernel_rfl);have c0:=(HP.out W D).2.1;go_simp;exact⟨_,rfl,Ö _ _ _,rfl,λ_ _ _ _=>trivial⟩
       ·refine Bh _ _ rfl rfl rfl λc W D E ae G=>?_
        have U:c.tmps.getD 7 ς=.func (.func 49) #[] #[Ω (Δ ⟨g6,0,Γ⟩)]:=G 7 (by kernel_rfl);go_simp;exact⟨_,rfl,Ö _ _ _,rfl,λ_ _ _ _=>trivial⟩
       ·refine Bh _ _ rfl rfl rfl λc W D E ae G=>?_
        have U:c.tmps.getD 9 ς=iv s:=G 9 (by kernel_rfl);go_simp;exact⟨_,rfl,Ö _ _ _,rfl,λ_ _ _ _=>trivial⟩
       ·refine Bh _ _ rfl rfl rfl λc W D E ae G=>?_
        have ko:c.tmps.getD 65 ς=.func (.func 49) #[] #[Ω (Δ ⟨g6,0,Γ⟩)]:=E 7 65 (by kernel_rfl);have kq:c.tmps.getD 66 ς=iv s:=E 8 66 (by kernel_rfl);have gb:=enters_of Tryz.func49 (by kernel_rfl) rfl;have f49:=Α (Pn a s g6 W (HP.out W D).2.2.1);go_simp
        (with_reducible refine f49.out.mono ?_)
        rintro e W' ⟨rfl,rfl⟩;exact⟨_,rfl,Ö _ _ _,rfl,λ_ _ _ _=>trivial⟩
       ·refine Bh _ _ rfl rfl rfl λc W D E ae G=>?_
        have U:c.tmps.getD 11 ς=Β (Δ ⟨gn,0,Γ⟩) d.cls.length d.cls.length:=G 11 (by kernel_rfl);go_simp;exact⟨_,rfl,Ö _ _ _,rfl,λ_ _ _ _=>trivial⟩
       ·refine Bh _ _ rfl rfl rfl λc W D E ae G=>?_
        have U:c.tmps.getD 2 ς=Ω (Δ ⟨w.heap.size,0,Γ⟩):=G 2 (by kernel_rfl);go_simp;exact⟨_,rfl,Ö _ _ _,rfl,λ_ _ _ _=>trivial⟩
       ·refine Bh _ _ rfl rfl rfl λc W D E ae G=>?_
        have U:c.tmps.getD 69 ς=Ω (Δ ⟨w.heap.size,2,Γ⟩):=E 11 69 (by kernel_rfl);have c0:=(HP.out W D).2.2.2.1;go_simp;exact⟨_,rfl,Ö _ _ _,rfl,λ_ _ _ _=>trivial⟩
       ·refine Bh _ _ rfl rfl rfl λc W D E ae G=>?_
        have U:c.tmps.getD 9 ς=iv s:=G 9 (by kernel_rfl);go_simp;exact⟨_,rfl,Ö _ _ _,rfl,λ_ _ _ _=>trivial⟩
       ·refine Bh _ _ rfl rfl rfl λc W D E ae G=>?_
        have l8:c.tmps.getD 70 ς=Β (Δ ⟨ba,oa,Γ⟩) d.n.length ca:=E 12 70 (by kernel_rfl);have l9:c.tmps.getD 71 ς=iv s:=E 13 71 (by kernel_rfl);go_simp;exact⟨_,rfl,Ö _ _ _,rfl,λ_ _ _ _=>trivial⟩
       ·refine Bh _ _ rfl rfl rfl λc W D E ae G=>?_
        have U:c.tmps.getD 72 ς=Ω (Δ ⟨ba,oa+s,Γ⟩):=E 14 72 (by kernel_rfl);have c0:=(HP.out W D).2.2.2.2;go_simp;exact⟨_,rfl,Ö _ _ _,rfl,λ_ _ _ _=>trivial⟩
       ·refine Bh _ _ rfl rfl rfl λc W D E ae G=>?_
        have kr:c.tmps.getD 59 ς=Β (Δ ⟨I,0,Γ⟩) d.n.length d.n.length:=E 1 59 (by kernel_rfl);have ks:c.tmps.getD 62 ς=iv (swp a s):=E 4 62 (by kernel_rfl);generalize swp a s=js at *;go_simp;exact⟨_,rfl,Ö _ _ _,rfl,λ_ _ _ _=>trivial⟩
       ·refine Mh _ rfl rfl rfl λc W D E ae G=>?_
        have ku:c.tmps.getD 74 ς=Ω (Δ ⟨I,swp a s,Γ⟩):=E 16 74 (by kernel_rfl);have kv:c.tmps.getD 68 ς=Β (Δ ⟨gn,0,Γ⟩) d.cls.length d.cls.length:=E 10 68 (by kernel_rfl);obtain⟨⟨old,kx⟩,ky,kz,ez⟩:=ew.out W D;go_simp;exact⟨ez,λ_ _ _ _=>trivial⟩
       ·refine Bh _ _ rfl rfl rfl λc W D E ae G=>?_
        have kr:c.tmps.getD 64 ς=Β (Δ ⟨M,0,Γ⟩) d.n.length d.n.length:=E 6 64 (by kernel_rfl);have ks:c.tmps.getD 67 ς=iv (swp a s):=E 9 67 (by kernel_rfl);generalize swp a s=js at *;go_simp;exact⟨_,rfl,Ö _ _ _,rfl,λ_ _ _ _=>trivial⟩
       ·refine Mh _ rfl rfl rfl λc W D E ae G=>?_
        have ku:c.tmps.getD 75 ς=Ω (Δ ⟨M,swp a s,Γ⟩):=E 18 75 (by kernel_rfl);have kv:c.tmps.getD 73 ς=.bool (d.ok s):=E 15 73 (by kernel_rfl);obtain⟨⟨old,kx⟩,ky,kz,ez⟩:=ey.out W D;go_simp;exact⟨ez,λ_ _ _ _=>trivial⟩
      ·have bx:=ev.out w8 hz (J 17 (by omega)) (J 19 (by omega));have v0:vs 0=Ω (Δ ⟨g8,1,Γ⟩):=J 0 (by omega);have v1:vs 1=Β (Δ ⟨I,0,Γ⟩) d.n.length d.n.length:=J 1 (by omega);have v2:vs 2=.func (.func 49) #[] #[Ω (Δ ⟨g6,0,Γ⟩)]:=J 2 (by omega);have v3:vs 3=iv s:=J 3 (by omega);have v4:vs 4=iv (swp a s):=J 4 (by omega);have v5:vs 5=Ω (Δ ⟨g8,2,Γ⟩):=J 5 (by omega);have v6:vs 6=Β (Δ ⟨M,0,Γ⟩) d.n.length d.n.length:=J 6 (by omega);have v7:vs 7=.func (.func 49) #[] #[Ω (Δ ⟨g6,0,Γ⟩)]:=J 7 (by omega);have v8:vs 8=iv s:=J 8 (by omega);have v9:vs 9=iv (swp a s):=J 9 (by omega);have ih:vs 10=Β (Δ ⟨gn,0,Γ⟩) d.cls.length d.cls.length:=J 10 (by omega);have ij:vs 11=Ω (Δ ⟨w.heap.size,2,Γ⟩):=J 11 (by omega);have ik:vs 12=Β (Δ ⟨ba,oa,Γ⟩) d.n.length ca:=J 12 (by omega);have il:vs 13=iv s:=J 13 (by omega);have im:vs 14=Ω (Δ ⟨ba,oa+s,Γ⟩):=J 14 (by omega);have iq:vs 15=.bool (d.ok s):=J 15 (by omega);have ir:vs 16=Ω (Δ ⟨I,swp a s,Γ⟩):=J 16 (by omega);have iu:vs 18=Ω (Δ ⟨M,swp a s,Γ⟩):=J 18 (by omega);simp only[Bq,v0,v1,v2,v3,v4,v5,v6,v7,v8,v9,ih,ij,ik,il,im,iq,ir,iu,Ü,ä,È,Option.bind_some,Act.put,Ι,Χ,Ψ];clear v0 v1 v2 v3 v4 v5 v6 v7 v8 v9 ih ij ik il im iq ir iu J hN hz;have cb:=hr.out.trans bx;have be:=Ah hl.out bx;have cu:=Ah ho.out bx;have a8:=Ah hp.out bx;have k5:=Α (λj hj T=>Ah (er.out j hj T) bx);have k6:À (w8.heap[g8]? = Δ (Ε (dA vc (Β (Δ ⟨I,0,Γ⟩) d.n.length d.n.length) (Β (Δ ⟨M,0,Γ⟩) d.n.length d.n.length)) 30 (0,0))):=Α (bx.heap hx.out);clear bx hr hl ho hp er ev ew ey HP bf hx et eu;go_wp2;go_roundw
       case rel=>
        refine⟨s+1,_,_,by omega,by go_num,cb,cb.size,Α ⟨by rw[ϒ];exact HL.out.1,by rw[ϒ];exact HL.out.2⟩,be,cu,k6,Α (λj hj T=>?_),Α (λj hj T=>?_)⟩
        ·by_cases e:j=swp a s
         ·subst e;rw[Bb _ _ _ _ _ (by rw[HL.out.1];exact dd),if_pos rfl];have:=Mk a8 (show w4.heap.size<=gn by omega);unfold OwnI;rw[ht.out,ϋ,Î];exact this
         ·rw[Bb _ _ _ _ _ (by rw[HL.out.1];exact dd),if_neg e];refine k5.out j hj ?_;have:swp a j≠s:=λh=>e (by rw[<-h,Gd])
          omega
        ·by_cases e:j=swp a s
         ·subst e;rw[Bb _ _ _ _ _ (by rw[HL.out.2];exact dd),if_pos rfl,ht.out]
         ·rw[Bb _ _ _ _ _ (by rw[HL.out.2];exact dd),if_neg e];refine ed.out j hj ?_;have:swp a j≠s:=λh=>e (by rw[<-h,Gd])
          omega
       case measure=>simp[intOf];omega
   ·obtain rfl:s=d.n.length:=by omega
    have dh:Quot d ⟨d.cls,(ι d.n.length).map λj=>(ι d.cls.length).map λq=>swp a (d.ent2 (swp a j) q),AC⟩ a:=by
     have iw:∀ s,s<d.n.length->((ι d.n.length).map λj=>(ι d.cls.length).map λq=>swp a (d.ent2 (swp a j) q)).getD (swp a s) []=(ι d.cls.length).map λq=>swp a (d.ent2 s q):=λs hs=>by
      rw[Dg _ _ _ _ (Ge b4 hs),Gd]
     refine⟨rfl,by simp,HL.out.2,λs hs=>?_,λs hs k hk=>?_,λs hs=>?_⟩
     ·rw[iw s hs];simp
     ·show (((ι d.n.length).map λj=>(ι d.cls.length).map λq=>swp a (d.ent2 (swp a j) q)).getD (swp a s) []).getD k 0=_;rw[iw s hs,Dg _ _ _ _ hk]
     ·show AC.getD (swp a s) Τ=_;rw[ed.out (swp a s) (Ge b4 hs) (by rw[Gd];exact hs),Gd]
    obtain⟨q,hq⟩:∃ q:Dfa,Dfa.mk d.cls ((ι d.n.length).map λj=>(ι d.cls.length).map λq=>swp a (d.ent2 (swp a j) q)) AC=q:=⟨_,rfl⟩;have ix:Val q:=by rw[<-hq];exact dh.val HV.out b4
    have iy:q.n.length=d.n.length:=by rw[<-hq];simp
    have iz:∀ x,q.has x=d.has (l++x):=by
     rw[<-HA.out] at dh hq;rw[<-hq];exact Aef HV.out dh
    have ja:IsD wr (.agg (dA vc (Β (Δ ⟨I,0,Γ⟩) d.n.length d.n.length) (Β (Δ ⟨M,0,Γ⟩) d.n.length d.n.length))) q:=by
     refine⟨vc,_,_,rfl,by rw[<-hq];exact HC.out.ext (bl.out.trans hE),?_,?_⟩
     ·rw[<-hq];refine⟨NX,by rw[HL.out.1];simp,?_,λi hi=>?_⟩
      ·have:=Sl.of_owns ao (show d.n.length<=4611686018427387904 by omega) ς;simp only[ϋ,Î];exact this
      ·have bm:i<d.n.length:=by simpa using hi
       have T:=HQ.out i bm (Ge b4 bm);simp only;rw[Dg _ _ _ _ bm];exact T.ints (by simp;omega)
     ·have h9:OwnB wr w4.heap.size (Β (Δ ⟨M,0,Γ⟩) d.n.length d.n.length) AC:=by
       unfold OwnB;rw[HL.out.2];exact aq
      rw[<-hq];exact h9.bools (by rw[HL.out.2];omega)
    have k7:=Α (Jn q ix (by rw[iy];exact hn) _ wr (jq.out wr (bl.out.trans hE)) (δ e4 (bl.out.trans hE).size) ja);have al:=Α (hE.heap al.out);have k9:=Α iz;have HE:=Α (bl.out.trans hE);clear ix iy iz ja dh ao aq HQ ed hE a1;go_wp2_with (first
     | (refine Ο rfl 30 (η 8) rfl _ rfl _ _ _ _ H8.out Κ rfl Ad ?_)
     | (go_at_call 28;(with_reducible refine k7.out.mono ?_);rintro e w9 ⟨r,e0,jb,jc,jd⟩;obtain⟨je,jf,jg,jh,ji,jj,jk,jl,jm,k2,rfl⟩:=e0.form;have lg:=Α e0;have jn:=Α jb;have lh:=Α jc;clear e0 jb jc;have al:=Α (jd.heap al.out))
     | (refine Φ rfl 30 (η 4) (η 79) rfl _ _ rfl rfl _ _ al.out Ad rfl (Aq _ _ _ rfl rfl rfl) ?_))
    refine ω (v:=.tuple #[.agg (dA (Β je jf jg) (Β jh ji jj) (Β jk jl jm)),.int ε k2]) (A3 rfl _ _ _ _ _ _ _ rfl _ rfl (μ w9 _ _ (dA (Β je jf jg) (Β jh ji jj) (Β jk jl jm)) 30 (0,0) al.out) Κ rfl Ad) rfl ?_;exact⟨r,lg.out.setRow (λd' h=>by injection h with h;subst h;exact jn.out.val) al.out _,jn.out,λx=>by rw[lh.out,k9.out],(HE.out.trans jd).setRow (by omega) _⟩
theorem Ut {l L:List Cls} (h:IsCells l L):Parts L:=⟨h.nz,h.dis,h.cover⟩
theorem Yg {L:List Cls} (h:IsCells [] L):∃ c,L=[c]/\∀ b,b<256->c.getLsbD b=Ξ:=by
 have E:∀ c∈L,∀ b,b<256->c.getLsbD b=Ξ:=λc D b G=>by
  obtain⟨i,hi,I⟩:=Nl (h.nz c D);exact (h.cls c D i hi I b G).2 (λx J=>by cases J)
 obtain⟨c,D,_⟩:=h.cover 0 (by omega);cases L with
 | nil=>cases D
 | cons a L=>
  cases L with
  | nil=>exact⟨a,rfl,E a (by simp)⟩
  | cons b L=>
   exfalso
   have hd:=(List.pairwise_cons.1 h.dis).1 b (by simp);exact hd 0 ⟨E a (by simp) 0 (by omega),E b (by simp) 0 (by omega)⟩
theorem U0 (w:Λ) (E:Ν) (c:Cls) (a:Bool) (M:Cs w E [c]) :
  IsD (((w.alloc (Ε #[.int ε 0] 3)).alloc (Ε #[Β (Δ ⟨w.heap.size,0,Γ⟩) 1 1] 68)).alloc (Ε #[.bool a] 4)) (.agg #[E,Β (Δ ⟨w.heap.size+1,0,Γ⟩) 1 1,Β (Δ ⟨w.heap.size+1+1,0,Γ⟩) 1 1]) (De c a):=by
 have T:=(Θ w).alloc (Ε #[.int ε 0] 3);have G:=Ag (Ag (Aa w (Ε #[.int ε 0] 3)) (Ε #[Β (Δ ⟨w.heap.size,0,Γ⟩) 1 1] 68)) (Ε #[.bool a] 4);have I:=Ag (Ϗ w (Ε #[.int ε 0] 3) (Ε #[Β (Δ ⟨w.heap.size,0,Γ⟩) 1 1] 68)) (Ε #[.bool a] 4);have D:=Aa ((w.alloc (Ε #[.int ε 0] 3)).alloc (Ε #[Β (Δ ⟨w.heap.size,0,Γ⟩) 1 1] 68)) (Ε #[.bool a] 4);rw[Ρ,Ρ] at D;have J:=((T.alloc (Ε #[Β (Δ ⟨w.heap.size,0,Γ⟩) 1 1] 68)).alloc (Ε #[.bool a] 4));obtain⟨W,U⟩:∃ W,((w.alloc (Ε #[.int ε 0] 3)).alloc (Ε #[Β (Δ ⟨w.heap.size,0,Γ⟩) 1 1] 68)).alloc (Ε #[.bool a] 4)=W:=⟨_,rfl⟩;rw[U] at G I D J ⊢;refine⟨E,_,_,rfl,M.ext J,⟨[Β (Δ ⟨w.heap.size,0,Γ⟩) 1 1],rfl,?_,λi hi=>?_⟩,?_⟩
 ·refine⟨by show (1:Nat)<=_;omega,.inr ⟨by show 0<1;omega,_,0,1,rfl,An I,λi hi=>?_⟩⟩;obtain rfl:i=0:=by have:i<1*1:=hi;omega
  exact (γ W _ 0 _ _ _ I).trans rfl
 ·obtain rfl:i=0:=by have:i<1:=hi;omega
  refine⟨by show (1:Nat)<=_;omega,.inr ⟨by show 0<1;omega,_,0,1,rfl,An G,λi hi=>?_⟩⟩;obtain rfl:i=0:=by have:i<1*1:=hi;omega
  exact (γ W _ 0 _ _ _ G).trans rfl
 ·refine⟨by show (1:Nat)<=_;omega,.inr ⟨by show 0<1;omega,_,0,1,rfl,An D,λi hi=>?_⟩⟩;obtain rfl:i=0:=by have:i<1*1:=hi;omega
  exact (γ W _ 0 _ _ _ D).trans rfl
theorem Xx (w:Λ):Cs w (Β Γ 0 0) []:=Sl.nil w _ _
theorem Vg (w:Λ) (hT:Tab w) (I:0<w.heap.size) :
  ϓ Ζ 117 #[] w λe w'=>∃ r,ResOf w' e (Δ r)/\Cano r/\(∀ u,r.has u=Τ)/\Ext w w':=by
 have ag:=Α (λW (E:Ext w W)=>hT.below E.below I);have J:=(Θ w).alloc (Ε #[Β Γ 0 0,Β Γ 0 0,Β Γ 0 0] 30);have M:=Aa w (Ε #[Β Γ 0 0,Β Γ 0 0,Β Γ 0 0] 30);have f143:=λW (E:Ext w W)=>Α (Yh [] _ W (ag.out W E) (δ I E.size) (Xx W))
 clear hT;go_enter Tryz.func117,Tryz.ntmps117;go_upto_region 1 with (fail)
 obtain⟨w1,T⟩:∃ W,w.alloc (Ε #[Β Γ 0 0,Β Γ 0 0,Β Γ 0 0] 30)=W:=⟨_,rfl⟩;rw[T] at J M;simp only[T];clear T;have D:=Α M;have ah:=Α J;clear M J;go_wp2_with (first
  | (go_at_call 143;(with_reducible refine (f143 _ ah.out).out.mono ?_);rintro e U ⟨vc,L,rfl,G,hP,-,aa⟩;obtain⟨c,ak,ab⟩:=Yg ((P9 []).perm hP);rw[ak] at G;obtain⟨ac,cc,ba⟩:∃ ac cc,vc=Β ac 1 cc:=Sl.len G;have hI:=U0 U vc c Τ G;have ad:=Α ((((ah.out.trans aa).alloc (Ε #[.int ε 0] 3)).alloc (Ε #[Β (Δ ⟨U.heap.size,0,Γ⟩) 1 1] 68)).alloc (Ε #[.bool Τ] 4));have HC:=Α ab;have bc:=Α (Jn (De c Τ) (Ml c ab Τ).val (by show (1:Nat)<=64;omega) _ _ (ag.out _ ad.out) (δ I ad.out.size) hI);subst ba;have D:=Α (Ag (Ag (Ag (aa.heap D.out) (Ε #[.int ε 0] 3)) (Ε #[Β (Δ ⟨U.heap.size,0,Γ⟩) 1 1] 68)) (Ε #[.bool Τ] 4));clear hI aa G hP ab ak L)
  | (go_at_call 28;(with_reducible refine bc.out.mono ?_);rintro e w9 ⟨r,ae,an,ao,aq⟩;obtain⟨ar,au,aw,ax,ay,az,a1,a6,a7,k2,rfl⟩:=ae.form;have bf:=Α ae;have a8:=Α an;have bg:=Α ao;clear ae an ao;have D:=Α (aq.heap D.out))
  | (refine Φ rfl 30 (η 0) (η 8) rfl _ _ rfl rfl _ _ D.out Ad rfl (Aq _ _ _ rfl rfl rfl) ?_))
 refine ω (v:=.tuple #[.agg (dA (Β ar au aw) (Β ax ay az) (Β a1 a6 a7)),.int ε k2]) (A3 rfl _ _ _ _ _ _ _ rfl _ rfl (μ w9 _ _ (dA (Β ar au aw) (Β ax ay az) (Β a1 a6 a7)) 30 (0,0) D.out) Κ rfl Ad) rfl ?_;exact⟨r,bf.out.setRow (λd' h=>by injection h with h;subst h;exact a8.out.val) D.out _,a8.out,λx=>by rw[bg.out,U1 c HC.out],(ad.out.trans aq).setRow (by omega) _⟩
theorem Ad5 (a:Bool) (w:Λ) :
  ϓ Ζ 46 #[.bool a] w λe w'=>∃ v c,e=θ v/\IsD w' v (De c a)/\(∀ b,b<256->c.getLsbD b=Ξ)/\Ext w w':=by
 have I:=(Θ w).alloc (Ε #[Β Γ 0 0,Β Γ 0 0,Β Γ 0 0] 30);have J:=Aa w (Ε #[Β Γ 0 0,Β Γ 0 0,Β Γ 0 0] 30);have f91:=λW=>Α (Aea [] _ W (Xx W))
 go_enter Tryz.func46,Tryz.ntmps46;go_upto_region 1 with (fail)
 obtain⟨w1,M⟩:∃ W,w.alloc (Ε #[Β Γ 0 0,Β Γ 0 0,Β Γ 0 0] 30)=W:=⟨_,rfl⟩;rw[M] at I J;simp only[M];clear M;have E:=Α J;have ae:=Α I;clear J I;go_wp2_with (first
  | (go_at_call 91;(with_reducible refine (f91 _).out.mono ?_);rintro e D ⟨U,rfl,G,T⟩;obtain⟨c,aa,ab⟩:=Yg (Wh []);rw[aa] at G;obtain⟨ac,cc,af⟩:∃ ac cc,U=Β ac 1 cc:=Sl.len G;have HI:=Α (U0 D U c a G);have ah:=Α ((((ae.out.trans T).alloc (Ε #[.int ε 0] 3)).alloc (Ε #[Β (Δ ⟨D.heap.size,0,Γ⟩) 1 1] 68)).alloc (Ε #[.bool a] 4));have HC:=Α ab;subst af;have E:=Α (Ag (Ag (Ag (T.heap E.out) (Ε #[.int ε 0] 3)) (Ε #[Β (Δ ⟨D.heap.size,0,Γ⟩) 1 1] 68)) (Ε #[.bool a] 4));clear T G ab aa)
  | (refine Φ rfl 30 (η 2) (η 8) rfl _ _ rfl rfl _ _ E.out Ad rfl (Aq _ _ _ rfl rfl rfl) ?_))
 refine ω (v:=.agg #[Β ac 1 cc,Β (Δ ⟨D.heap.size+1,0,Γ⟩) 1 1,Β (Δ ⟨D.heap.size+1+1,0,Γ⟩) 1 1]) (results_cell_row rfl _ _ _ _ _ _ _ rfl (μ _ _ _ #[Β ac 1 cc,Β (Δ ⟨D.heap.size+1,0,Γ⟩) 1 1,Β (Δ ⟨D.heap.size+1+1,0,Γ⟩) 1 1] 30 (0,0) E.out) Κ rfl Ad) rfl ?_;exact⟨_,c,rfl,IsD.setRow (Ml c HC.out a).val HI.out E.out _,HC.out,ah.out.setRow (ν _) _⟩
theorem Afu {W:Λ} {base I e J g n D:Nat} {xs E:List Ν} (h:W.ownsRow base e 1 (Β (Δ ⟨g,0,Γ⟩) n D) n xs) (G:W.ownsRow I J 1 (Β (Δ ⟨g,0,Γ⟩) n D) n E):xs=E:=by
 apply List.ext_getElem?;intro i;by_cases hi:i<n
 ·rw[<-h.cellAt i (by omega),<-G.cellAt i (by omega)]
 ·rw[Ϩ (by rw[h.1];omega),Ϩ (by rw[G.1];omega)]
theorem Ahd {V D:List Bool} (h:V.map ο=D.map ο):V=D:=
 List.map_inj_right (λx y e=>by injection e) |>.1 h
open Classical in
noncomputable def Nd (D g n E:Nat) (W:Λ):Nat:=if h:∃ V:List Bool,W.ownsRow D 4 1 (Β (Δ ⟨g,0,Γ⟩) n E) n (V.map ο) then Gt (Classical.choose h) else 0
theorem X9 {D g n E:Nat} {W:Λ} {V:List Bool} (h:W.ownsRow D 4 1 (Β (Δ ⟨g,0,Γ⟩) n E) n (V.map ο)):Nd D g n E W=Gt V:=by
 unfold Nd;have G:∃ V:List Bool,W.ownsRow D 4 1 (Β (Δ ⟨g,0,Γ⟩) n E) n (V.map ο):=⟨V,h⟩;rw[dif_pos G];rw[Ahd (Afu (Classical.choose_spec G) h)]
def Rc:Ν->Nat
 | .bool Ξ=>1
 | _=>0
theorem Ama (V:List Bool) (aa:0<V.length) (aq:V.length<=65536) (b o c:Nat) (w:Λ) (h:∀ s,s<V.length->w.cell? ⟨b,o+s,Γ⟩=Δ (.bool (V.getD s Τ))) :
  ϓ Ζ 54 #[Β (Δ ⟨b,o,Γ⟩) V.length c] w λe w'=>∃ g E,e=θ (Β (Δ ⟨g,0,Γ⟩) V.length E)/\OwnB w' w.heap.size (Β (Δ ⟨g,0,Γ⟩) V.length E) V/\Ext w w':=by
 obtain⟨j0,D,ad,ae,af⟩:=Ϟ D8;have G:=Λ.ownsRow_lit (base:=w.heap.size) (e:=4) (size:=1) w #[] 0 (ν _) (by unfold ϛ;omega) rfl;have I:=(Θ w).alloc (Ε #[] 4);have J:∀ j u,(V.map ο)[j]? = Δ u->(w.alloc (Ε #[] 4)).cell? ((⟨b,o,Γ⟩:Addr).add j)=Δ u:=λj u D=>by
  obtain⟨ag,ah⟩:=List.getElem?_eq_some_iff.1 D;have M:j<V.length:=by rwa [ϋ] at ag
  have e:(⟨b,o,Γ⟩:Addr).add j=⟨b,o+j,Γ⟩:=by
   unfold Addr.add;by_cases T:j=0
   ·subst T;rfl
   ·simp[T]
  rw[e,I.cell (h j M),<-ah,List.getElem_map,List.getD_eq_getElem?_getD,List.getElem?_eq_getElem M];rfl
 have HN:=Α J;clear J h;have ar:∀ W,(binOp .eql 28 (Β (Δ ⟨b,o,Γ⟩) V.length c) (Β Γ 0 0)).run Ζ W=.ok (.bool Τ) W:=λW=>Lib.run_eql_slice_nil W 28 4 _ _ _ _ _ Ã
 go_enter Tryz.func54,Tryz.ntmps54;go_wp2_with (at_builtin;refine wpList_append_lies _ rfl _ _ 28 rfl w.heap.size 4 j0 (.bool Τ) 1 1 Ã D ad ae af rfl (by decide) _ 0 [] rfl G ⟨b,o,Γ⟩ V.length _ (V.map ο) rfl (by simp) HN.out (λu hu=>by obtain⟨b',_,rfl⟩:=List.mem_map.1 hu;rfl) aa (by unfold ϛ;omega) (by omega) (by rw[Ρ];omega) _ rfl ?_);intro g7 c7 w7 an U _ au;have ao:Ext w w7:=I.grown U (λk e=>by have:w.heap.size=k:=ύ e;omega);clear G U;go_wp2;go_ret;exact⟨g7,c7,rfl,an,ao⟩
theorem Ah0 (D g n E:Nat) (V:List Bool) (x:Nat) (G:x<n) (W:Λ) (I:W.cell? ⟨D,0,Γ⟩=Δ (Β (Δ ⟨g,0,Γ⟩) n E)) (hv:W.cell? ⟨g,x,Γ⟩=Δ (.bool (V.getD x Τ))) :
  ϓ Ζ 56 #[iv x,Ω (Δ ⟨D,0,Γ⟩)] W λe w'=>e=θ (.bool (V.getD x Τ))/\w'=W:=by
 generalize V.getD x Τ=b at *;go_enter Tryz.func56,Tryz.ntmps56;go_wp2;go_ret;exact⟨rfl,rfl⟩
theorem Ajg (r:List Nat) (hr:r.length<=65536) (P:Nat->Bool) (J:Array Ν) (b o c:Nat) (w:Λ) (M:∀ k,k<r.length->w.cell? ⟨b,o+k,Γ⟩=Δ (iv (r.getD k 0)))
  (T:∀ k,k<r.length->ϓ Ζ 56 (#[iv (r.getD k 0)]++J) w λe w'=>e=θ (.bool (P (r.getD k 0)))/\w'=w) :
  ϓ Ζ 98 #[Β (Δ ⟨b,o,Γ⟩) r.length c,.func (.func 56) #[] J] w λe w'=>∃ z:Int,e=θ (.int ε z)/\((0<=z)↔∃ k,k<r.length/\P (r.getD k 0)=Ξ)/\w'=w:=by
 have HC:=Α M;have HP:=Α T;have ah:=enters_of Tryz.func56 (by kernel_rfl) rfl;clear M T;go_enter Tryz.func98,Tryz.ntmps98;go_wp2_with (fail);go_loopw [8] (λi W=>∃ k:Nat,k<=r.length/\i=.int ε k/\W=w/\À (∀ j,j<k->P (r.getD j 0)=Τ)) (λi _=>r.length-(intOf i).toNat)
 case atStart=>exact⟨0,by omega,rfl,rfl,Α (λj D=>by omega)⟩
 case round=>
  obtain⟨k,hk,rfl,rfl,U⟩:=hrel;by_cases E:k<r.length
  ·have ck:=HC.out k E;have f56:=Α (HP.out k E);obtain⟨x,G⟩:∃ x,r.getD k 0=x:=⟨_,rfl⟩;rw[G] at ck f56;have HX:=Α G;clear G;obtain⟨b',I⟩:∃ b',P x=b':=⟨_,rfl⟩;rw[I] at f56;have HB:=Α I;clear I;cases b'
   ·go_wp2_with (go_at_call 56;(with_reducible refine f56.out.mono ?_);rintro e W' ⟨rfl,rfl⟩);go_roundw
    case rel=>
     refine⟨k+1,by omega,by go_num,trivial,Α (λj D=>?_)⟩;by_cases e:j=k
     ·subst e;rw[HX.out];exact HB.out
     ·exact U.out j (by omega)
    case measure=>simp[intOf];omega
   ·go_wp2_with (go_at_call 56;(with_reducible refine f56.out.mono ?_);rintro e W' ⟨rfl,rfl⟩);go_ret;exact⟨(k:Int),rfl,⟨λ_=>⟨k,E,by rw[HX.out];exact HB.out⟩,λ_=>by omega⟩,rfl⟩
  ·obtain rfl:k=r.length:=by omega
   go_wp2;go_ret;refine⟨-1,rfl,⟨λh=>by omega,fun⟨j,D,h⟩=>?_⟩,rfl⟩;rw[U.out j D] at h;cases h
theorem Als (r:List Nat) (J:r.length<=65536) (P:Nat->Bool) (D:Array Ν) (b o c:Nat) (w:Λ) (E:∀ k,k<r.length->w.cell? ⟨b,o+k,Γ⟩=Δ (iv (r.getD k 0)))
  (G:∀ k,k<r.length->ϓ Ζ 56 (#[iv (r.getD k 0)]++D) w λe w'=>e=θ (.bool (P (r.getD k 0)))/\w'=w) :
  ϓ Ζ 55 #[Β (Δ ⟨b,o,Γ⟩) r.length c,.func (.func 56) #[] D] w λe w'=>∃ b:Bool,e=θ (.bool b)/\(b=Ξ↔∃ k,k<r.length/\P (r.getD k 0)=Ξ)/\w'=w:=by
 have H:=Α (Ajg r J P D b o c w E G);clear E G;go_enter Tryz.func55,Tryz.ntmps55;go_wp2_with (go_at_call 98;(with_reducible refine H.out.mono ?_);rintro e W' ⟨z,rfl,I,rfl⟩;have M:=Α I;clear I);go_ret;exact⟨_,rfl,by rw[<-M.out];simp,rfl⟩
theorem Um (d:Dfa) (hv:Val d) (hn:d.n.length<=64) (v:Ν) (w:Λ) (hT:Tab w) (cu:0<w.heap.size) (h:IsD w v d) :
  ϓ Ζ 16 #[v] w λe w'=>∃ r,ResOf w' e (Δ r)/\Cano r/\(∀ x,r.has x=Ξ↔∃ u,d.has (x++u)=Ξ)/\Ext w w':=by
 have HD:=Α h;have eh:=Α (λW (hW:Ext w W)=>hT.below hW.below cu);have ei:∃ vn,∀ va vc,v=.agg #[vc,vn,va]->Rows w vn d.n:=by
  obtain⟨vc,vn,va,rfl,h1,h2,h3⟩:=h;exact⟨vn,λft fu e=>h2⟩
 obtain⟨fv,ej,fw,ae,ek,bq,en⟩:=h;obtain⟨bc,oc,cc,bn,on,cn,ba,oa,ca,rfl,hC,hR,cy⟩:=HD.out.opened hv;have cz:ej=Β (Δ ⟨bn,on,Γ⟩) d.n.length cn:=by
  injection ae with ae
  unfold dA at ae;injection ae with ae
  injection ae with _ ae
  injection ae with ae _
  exact ae.symm
 rw[cz] at bq;have eo:=Α bq;clear ei cz en ek bq;have f47:=λW (hW:Ext w W)=>Α (Ef d hv hn _ W (HD.out.ext hW))
 have HV:=Α hv;have HC:=Α hC;have HR:=Α hR;have fx:=hv.pos;have c3:=hv.accL;have f54:=λW (hW:Ext w W)=>Α (Ama d.acc (by omega) (by omega) ba oa ca W (λs hs=>hW.cell (cy s (by omega))))
 rw[c3] at f54;obtain⟨vc,bd⟩:∃ X,Ϥ (Δ ⟨bc,oc,Γ⟩) d.cls.length cc=X:=⟨_,rfl⟩;rw[bd] at HD f47 HC;rw[bd];obtain⟨Va,ay⟩:∃ X,dA vc (Β (Δ ⟨bn,on,Γ⟩) d.n.length cn) (Β (Δ ⟨ba,oa,Γ⟩) d.n.length ca)=X:=⟨_,rfl⟩;have er:(Ζ.info? 30).map (·.size)=Δ Va.size:=by rw[<-ay];exact Ad
 rw[ay] at f47 HD;rw[ay];have bz:=((Θ w).alloc (Ε Va 30)).alloc (Ε #[Β Γ 0 0,Β Γ 0 0,Β Γ 0 0] 30);have H1:=Ag (Aa w (Ε Va 30)) (Ε #[Β Γ 0 0,Β Γ 0 0,Β Γ 0 0] 30);have H2:=Ϗ w (Ε Va 30) (Ε #[Β Γ 0 0,Β Γ 0 0,Β Γ 0 0] 30);have be:=Α ay;have c5:=Α bd;clear hT hC hR cy hv ay bd c3 ae;go_enter Tryz.func16,Tryz.ntmps16;go_upto_region 1 with (fail)
 obtain⟨w1,bf⟩:∃ W,(w.alloc (Ε Va 30)).alloc (Ε #[Β Γ 0 0,Β Γ 0 0,Β Γ 0 0] 30)=W:=⟨_,rfl⟩;have fy:w.heap.size+1<w1.heap.size:=by rw[<-bf,Ρ,Ρ];omega
 rw[bf] at bz H1 H2;simp only[bf];clear bf;have ag:=Α H1;have U:=Α H2;have b5:=Α bz;clear H1 H2 bz;go_upto_region 3 with (first
  | (refine Ο rfl 30 (η 1) rfl _ rfl _ _ _ _ ag.out Κ rfl er ?_)
  | (go_at_call 47;(with_reducible refine (f47 _ b5.out).out.mono ?_);rintro e J ⟨rfl,bg⟩;have az:=Α (b5.out.trans bg);have ag:=Α (bg.heap ag.out);have U:=Α (bg.heap U.out);clear bg))
 have b6:=ag;have et:=U;have c2:=(γ J w.heap.size 2 _ _ _ ag.out).trans (show Va[2]? = Δ (Β (Δ ⟨ba,oa,Γ⟩) d.n.length ca) by rw[<-be.out];rfl);go_upto_region 4 with (go_at_call 54;(with_reducible refine (f54 _ az.out).out.mono ?_);rintro e w3 ⟨g,D,rfl,c6,a1⟩;have b7:=Α c6;have ev:=Α (az.out.trans a1);have ag:=Α (a1.heap ag.out);have U:=Α (a1.heap U.out);have b8:=Α a1;clear a1 c6;have ew:=(γ (w3.alloc (Ε #[Β Γ 0 0] 28)) w3.heap.size 0 _ _ _ (Aa w3 (Ε #[Β Γ 0 0] 28))).trans (show (#[Ϥ Γ 0 0]:Array Ν)[0]? = Δ (Β Γ 0 0) from rfl);have ey:=Ϸ (w3.alloc (Ε #[Β Γ 0 0] 28)) w3.heap.size 0 _ _ (Aa w3 (Ε #[Β Γ 0 0] 28)))
 clear ew ey c2;have aq:=(Θ w3).alloc (Ε #[Β (Δ ⟨g,0,Γ⟩) d.n.length D] 28);have T:=Aa w3 (Ε #[Β (Δ ⟨g,0,Γ⟩) d.n.length D] 28);have b9:=Ah b7.out aq;have fz:g<w3.heap.size:=(b7.out.lt g rfl).2;obtain⟨w4,cb⟩:∃ W,w3.alloc (Ε #[Β (Δ ⟨g,0,Γ⟩) d.n.length D] 28)=W:=⟨_,rfl⟩;rw[cb] at aq T b9;simp only[cb];clear cb;have cd:w4.ownsRow J.heap.size 4 1 (Β (Δ ⟨g,0,Γ⟩) d.n.length D) d.n.length (d.acc.map ο):=by
  have:OwnB w4 J.heap.size (Β (Δ ⟨g,0,Γ⟩) d.n.length D) d.acc:=b9;unfold OwnB at this;rw[HV.out.accL] at this;exact this
 have ez:J.heap.size<=g:=(cd.lt g rfl).1;have bh:=b8.out.trans aq;have ag:=Α (aq.heap ag.out);have U:=Α (aq.heap U.out);have c8:=Α T;have ga:g≠w3.heap.size:=by omega
 generalize w3.heap.size=g4 at *;have gb:J.heap.size<=g4:=by
  have h1:=b8.out.size;omega
 have e0:=Α bh;have c9:=bh.size;clear b7 ev b8 b9 T f54 f47 b5 aq;go_upto_region 5 with (fail)
 go_loopw [5] (λc W=>∃ (V:List Bool) (b:Bool),c=.bool b/\Ext J W/\J.heap.size<=W.heap.size/\W.ownsRow J.heap.size 4 1 (Β (Δ ⟨g,0,Γ⟩) d.n.length D) d.n.length (V.map ο)/\
   À (W.heap[g4]? = Δ (Ε #[Β (Δ ⟨g,0,Γ⟩) d.n.length D] 28 (0,0)))/\À (PInv d V)/\
   À (b=Τ->∀ s,s<d.n.length->V.getD s Τ=Ξ\/∀ k,k<d.cls.length->V.getD (d.ent2 s k) Τ=Τ))
  (λc W=>2*(d.n.length-Nd J.heap.size g d.n.length D W)+Rc c)
 case atStart=>exact⟨d.acc,Ξ,rfl,bh,c9,cd,c8,Α (Afd HV.out),Α (λh=>by cases h)⟩
 case round=>
  clear bh c9 cd c8 e0;obtain⟨V,b,rfl,E,ak,I,T,HI,HQ⟩:=hrel;cases b
  ·have k0:=(γ wr w.heap.size 0 _ _ _ (E.heap b6.out)).trans (show Va[0]? = Δ (Β (Δ ⟨bc,oc,Γ⟩) d.cls.length cc) by rw[<-be.out,<-c5.out];rfl);have k1:=(γ wr w.heap.size 1 _ _ _ (E.heap b6.out)).trans (show Va[1]? = Δ (Β (Δ ⟨bn,on,Γ⟩) d.n.length cn) by rw[<-be.out];rfl);have c4:=(γ wr g4 0 _ _ _ T.out).trans (show (#[Ϥ (Δ ⟨g,0,Γ⟩) d.n.length D]:Array Ν)[0]? = Δ (Β (Δ ⟨g,0,Γ⟩) d.n.length D) from rfl);have hq:=Aff HV.out HI.out (HQ.out rfl);have ar:=az.out.trans E;have dc:IsD wr (.agg (dA (Β (Δ ⟨bc,oc,Γ⟩) d.cls.length cc) (Β (Δ ⟨bn,on,Γ⟩) d.n.length cn) (Β (Δ ⟨g,0,Γ⟩) d.n.length D))) ⟨d.cls,d.n,V⟩:=by
    have h9:OwnB wr J.heap.size (Β (Δ ⟨g,0,Γ⟩) d.n.length D) V:=by
     unfold OwnB;rw[HI.out.len];exact I
    exact⟨_,_,_,rfl,by rw[c5.out];exact HC.out.ext ar,eo.out.ext ar,h9.bools (by rw[HI.out.len];omega)⟩
   have e2:=Α (Jn ⟨d.cls,d.n,V⟩ (Aex HV.out HI.out.len) hn _ wr (eh.out wr ar) (δ cu ar.size) dc);have HP:=Α (λx=>Aez HV.out hq x);have U:=Α (E.heap et.out);have e4:=Α ar;have e5:=Α (Rb (Δ ⟨bc,oc,Γ⟩) (Δ ⟨bn,on,Γ⟩) (Δ ⟨g,0,Γ⟩) d.cls.length d.n.length d.n.length cc cn D);clear hq ar dc I E HQ ak;go_wp2_with (first
    | (refine Bw rfl 30 _ rfl (dA (Β (Δ ⟨bc,oc,Γ⟩) d.cls.length cc) (Β (Δ ⟨bn,on,Γ⟩) d.n.length cn) (Β (Δ ⟨g,0,Γ⟩) d.n.length D)) ?_ ?_;(simp[Act.eval];with_reducible exact e5.out))
    | (go_at_call 28;(with_reducible refine e2.out.mono ?_);rintro e w9 ⟨r,cf,dd,de,df⟩;obtain⟨dg,dh,dk,dm,dn,dp,dq,dr,dt,k2,rfl⟩:=cf.form;have e8:=Α cf;have du:=Α dd;have e9:=Α de;clear cf dd de;have U:=Α (df.heap U.out))
    | (refine Φ rfl 30 (η 2) (η 45) rfl _ _ rfl rfl _ _ U.out Ad rfl (Aq _ _ _ rfl rfl rfl) ?_))
   refine ω (v:=.tuple #[.agg (dA (Β dg dh dk) (Β dm dn dp) (Β dq dr dt)),.int ε k2]) (A3 rfl _ _ _ _ _ _ _ rfl _ rfl (μ w9 _ _ (dA (Β dg dh dk) (Β dm dn dp) (Β dq dr dt)) 30 (0,0) U.out) Κ rfl Ad) rfl ?_;exact⟨r,e8.out.setRow (λd' h=>by injection h with h;subst h;exact du.out.val) U.out _,du.out,λx=>by rw[e9.out];exact HP.out x,(e4.out.trans df).setRow (by omega) _⟩
  ·clear HQ;have k1:=(γ wr w.heap.size 1 _ _ _ (E.heap b6.out)).trans (show Va[1]? = Δ (Β (Δ ⟨bn,on,Γ⟩) d.n.length cn) by rw[<-be.out];rfl);obtain⟨w5,fb⟩:∃ W,W=wr:=⟨_,rfl⟩;subst fb;go_upto_region 8 with (fail)
   clear k1;go_loopw [5,19] (λc i W=>∃ (G:List Bool) (b:Bool) (s:Nat),c=.bool b/\i=.int ε s/\s<=d.n.length/\Ext J W/\J.heap.size<=W.heap.size/\W.ownsRow J.heap.size 4 1 (Β (Δ ⟨g,0,Γ⟩) d.n.length D) d.n.length (G.map ο)/\
     À (W.heap[g4]? = Δ (Ε #[Β (Δ ⟨g,0,Γ⟩) d.n.length D] 28 (0,0)))/\À (PInv d G)/\
     À ((b=Ξ->Gt V<Gt G)/\(b=Τ->G=V/\∀ s',s'<s->V.getD s' Τ=Ξ\/∀ k,k<d.cls.length->V.getD (d.ent2 s' k) Τ=Τ)))
    (λ_ i _=>d.n.length-(intOf i).toNat)
   case atStart=>exact⟨V,Τ,0,rfl,rfl,by omega,E,ak,I,T,HI,Α ⟨λh=>(by cases h),λ_=>⟨rfl,λs' dv=>by omega⟩⟩⟩
   case round=>
    have ch:=X9 I;obtain⟨M0,cj⟩:∃ M,Nd J.heap.size g d.n.length D w5=M:=⟨_,rfl⟩;rw[cj] at ch;have fc:=Α cj;have fe:=Α ch;clear E ak I T HI cj ch;obtain⟨G,b,s,rfl,rfl,hs,E,ak,I,T,HI,HQ⟩:=hrel;by_cases a6:s<d.n.length
    ·obtain⟨br,or',cr,ff,dy⟩:=HR.out s a6;have gh:=(az.out.trans E).cell ff;have bj:=HI.out.len;have cs:=Am Τ I bj.symm s (by rw[bj];exact a6);have c4:=(γ wr g4 0 _ _ _ T.out).trans (show (#[Ϥ (Δ ⟨g,0,Γ⟩) d.n.length D]:Array Ν)[0]? = Δ (Β (Δ ⟨g,0,Γ⟩) d.n.length D) from rfl);have ck:=Α bj;clear bj;obtain⟨bs,cl⟩:∃ bs,G.getD s Τ=bs:=⟨_,rfl⟩;rw[cl] at cs;have ea:=Α cl;clear cl;cases bs
     ·obtain⟨r,hr⟩:∃ r:List Nat,(ι d.cls.length).map (λq=>d.ent2 s q)=r:=⟨_,rfl⟩;have cp:r.length=d.cls.length:=by rw[<-hr];simp
      have bk:∀ k,k<d.cls.length->r.getD k 0=d.ent2 s k:=λk hk=>by rw[<-hr,Dg _ _ _ _ hk]
      have f55:=Als r (by rw[cp];have:=HV.out.parts.le;omega) (λx=>G.getD x Τ) #[Ω (Δ ⟨g4,0,Γ⟩)] br or' cr wr
       (λk hk=>by rw[bk k (by omega)];exact (az.out.trans E).cell (dy k (by omega)))
       (λk hk=>by
        rw[bk k (by omega)];have hx:=HV.out.tgt s a6 k (by omega);exact Ah0 g4 g d.n.length D G _ hx wr c4 (Am Τ I ck.out.symm _ (by rw[ck.out];exact hx)))
      rw[cp] at f55;obtain⟨bx,cq⟩:∃ bx:Bool,bx=Ξ↔∃ k,k<d.cls.length/\G.getD (r.getD k 0) Τ=Ξ:=by
       by_cases ec:∃ k,k<d.cls.length/\G.getD (r.getD k 0) Τ=Ξ
       ·exact⟨Ξ,⟨λ_=>ec,λ_=>rfl⟩⟩
       ·exact⟨Τ,⟨λh=>(by cases h),λh=>absurd h ec⟩⟩
      have f55:À (ϓ Ζ 55 #[Β (Δ ⟨br,or',Γ⟩) d.cls.length cr,.func (.func 56) #[] #[Ω (Δ ⟨g4,0,Γ⟩)]] wr λe w'=>e=θ (.bool bx)/\w'=wr):=
       Α (f55.mono λe w' ⟨b2,he,fg,hw⟩=>⟨by rw[he];congr 2;rw[Bool.eq_iff_iff,fg,cq],hw⟩)
      have ed:=Α cq;have ee:=Α bk;clear hr cp bk dy cq;cases bx
      ·go_wp2_with (go_at_call 55;(with_reducible refine f55.out.mono ?_);rintro e W' ⟨rfl,rfl⟩);go_roundw
       case rel=>
        refine⟨G,b,s+1,rfl,by go_num,by omega,E,ak,I,T,HI,Α ⟨HQ.out.1,λhb=>?_⟩⟩;obtain⟨q1,q2⟩:=HQ.out.2 hb;refine⟨q1,λs' dv=>?_⟩;by_cases e:s'=s
        ·subst e;refine .inr λk hk=>?_
         rw[<-q1];cases hh:G.getD (d.ent2 s' k) Τ
         ·rfl
         ·exact absurd (ed.out.2 ⟨k,hk,by rw[ee.out k hk];exact hh⟩) (by simp)
        ·exact q2 s' (by omega)
       case measure=>simp[intOf];omega
      ·obtain⟨fk,bm⟩:=Bk I s Ξ;have fo:=I.frozenAt s;have fl:=E.grown bm (λk e=>by cases e;exact ez);have fm:=ψ ak bm.size;have fp:=Α ((bm.block g4 (An T.out) (by simp;omega)).trans T.out);clear bm I E;go_wp2_with (go_at_call 55;(with_reducible refine f55.out.mono ?_);rintro e W' ⟨rfl,rfl⟩);go_roundw
       case rel=>
        refine⟨G.set s Ξ,Ξ,s+1,rfl,by go_num,by omega,fl,fm,fk,fp,Α ?_,Α ⟨λ_=>?_,λh=>by cases h⟩⟩
        ·obtain⟨k,hk,hv⟩:=ed.out.1 (by simp);exact Afe HV.out HI.out a6 hk (by rw[<-ee.out k hk];exact hv)
        ·rw[Al0 (by rw[ck.out];exact a6) ea.out];cases b
         ·rw[(HQ.out.2 rfl).1];omega
         ·have:=HQ.out.1 rfl;omega
       case measure=>simp[intOf];omega
     ·go_wp2;go_roundw
      case rel=>
       refine⟨G,b,s+1,rfl,by go_num,by omega,E,ak,I,T,HI,Α ⟨HQ.out.1,λhb=>?_⟩⟩;obtain⟨q1,q2⟩:=HQ.out.2 hb;refine⟨q1,λs' dv=>?_⟩;by_cases e:s'=s
       ·subst e;exact .inl (by rw[<-q1];exact ea.out)
       ·exact q2 s' (by omega)
      case measure=>simp[intOf];omega
    ·obtain rfl:s=d.n.length:=by omega
     have ef:=X9 I;have fq:=Α ef;clear ef;go_wp2;go_roundw
     case rel=>exact⟨G,b,rfl,E,ak,I,T,HI,Α λhb s hs=>by obtain⟨q1,q2⟩:=HQ.out.2 hb;rw[q1];exact q2 s hs⟩
     case measure=>
      have h1:=fq.out;have h2:=fe.out;have h3:=fc.out;have h4:=Al1 G;rw[HI.out.len] at h4;have h5:=HQ.out;rw[h1,h3,h2];cases b
      ·rw[(h5.2 rfl).1];simp only[Rc];omega
      ·have:=h5.1 rfl;simp only[Rc];omega
end Go.Proofs.YtaiogolidlamiaaGreatDoor
