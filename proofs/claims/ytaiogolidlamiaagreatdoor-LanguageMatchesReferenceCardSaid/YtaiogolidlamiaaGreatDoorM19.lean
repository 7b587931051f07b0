import Derived.Great.BuildSlice
import Derived.Test.YtaiogolidlamiaaGreatDoorM18
import Derived.Test.YtaiogolidlamiaaGreatDoorM11
import Derived.Test.YtaiogolidlamiaaGreatDoorM09
import Derived.Test.YtaiogolidlamiaaGreatDoorM06
import Derived.Test.YtaiogolidlamiaaGreatDoorM17
import Derived.Maps.AppendAt
import Derived.Test.YtaiogolidlamiaaGreatDoorM15
set_option linter.unusedVariables false
set_option linter.unusedSimpArgs false
open Array renaming toList_setIfInBounds → è
open Bool renaming false → Τ, true → Ξ
open Go renaming Value → Ρ, World → Κ, Calls → Ϝ, info_parts → ϕ, heap_alloc2_new → Ϙ, undef → ς, maxLen → ϙ, Operand → ϻ, wpList_store_row → Φ, cell_one_new → Ϫ, wpList_append_lies → ϐ, wpList_load_row → Υ, bodyPost_ret → ϋ, setRow_heap → μ, wpList_make_full → ϫ
open Go.Act renaming put → Ϛ
open Go.Ending renaming returned → ν
open Go.IntKind renaming i64 → ζ, i64 → ç
open Go.IntWalk renaming i64_in → Ý
open Go.Lib renaming hid → Α
open Go.Obj renaming cells → Ε
open Go.Operand renaming tmp → η
open Go.Proofs.Tryz renaming prog → Η, zeroCells79 → ϖ, underlying27 → ê, underlying28 → Ã, underlying68 → ϓ, underlying79 → Â, underlying30 → Ν
open Go.RowKit renaming Hid → Ϻ
open Go.Value renaming slice → Β, pointer → γ, oneCell' → ϊ, bool → ο, slice → ϟ
open Go.World renaming size_alloc → Λ, ownsRow_lit → Ô, ownsRow → ϛ
open List renaming getElem?_eq_some_iff → ό, range → ι, getD_eq_getElem?_getD → Ζ, getElem?_eq_getElem → Μ, mem_cons → Û, not_mem_nil → ô, map_cons → Ç, setIfInBounds_toArray → Θ, set_cons_zero → Χ, set_cons_succ → Ψ, map_append → ϔ, length_append → Ο, length_map → Ϗ, take_succ_eq_append_getElem → Å, getElem?_map → Ϟ, replicate → δ, length_replicate → Î, getElem?_replicate → ϧ, eq_nil_of_length_eq_zero → Ñ, length_cons → Ϲ, append_assoc → Ò
open Nat renaming zero_add → î, le_refl → θ
open Option renaming some → Δ, none → Γ
open Option.some renaming inj → ω
open UInt8 renaming ofNat → χ
namespace Go.Proofs.YtaiogolidlamiaaGreatDoor
set_option maxRecDepth 100000
set_option maxHeartbeats 8000000
open Go.RowKit Go.Shelf
theorem Ti {α:Type} (f:Nat->α) (v:α):(Array.map f (Array.range 1)).setIfInBounds 0 v=#[v]:=by
 apply Array.ext';rw[è,Array.toList_map,Array.toList_range];rfl
theorem Amb (c:Nat->Nat) (a:Option Addr) (l k:Nat) (D:Option Addr) (E k':Nat):Η.built 79 [(0,.agg (Au c)),(1,Β a l k),(2,Β D E k')]=Δ (trA c (Β a l k) (Β D E k')):=by kernel_rfl
theorem Nm (c:Nat->Nat) (vn va v:Ρ):(trA c vn va).setIfInBounds 257 v=trA c vn v:=by
 apply Array.ext';rw[è];unfold trA trL;simp only;rw[List.set_append_right _ _ (by simp)];simp
theorem Aay {W:Κ} {g:Nat} {c:Nat->Nat} {vn va:Ρ} {A:Array Ρ} (E:A=trA c vn va) (h:W.heap[g]? = Δ (Ε A 79 (0,0))):W.rangeAt g 0 (Au c).toList:=λj u hu=>by
 have D:j<256:=by
  have:=(ό.1 hu).1
  simpa [Au] using this
 subst E;rw[î,Ay h (Hw c vn va j D)];rw[<-hu,Array.getElem?_toList,Hm c j D]
theorem Sn (l:List Nat) (m:Nat) (h:l.length=m):((ι m).map λj=>l.getD j 0+1)=l.map (·+1):=by
 subst h;refine List.ext_getElem (by simp) λi G D=>?_
 have E:i<l.length:=by simpa using D
 rw[List.getElem_map,List.getElem_map,List.getElem_range,Ζ,Μ E];rfl
def Pz (D G s H I n T:Nat) (c:Nat->Nat) (ok:Bool):Nat->Ρ->Κ->Prop
 | 0,v,_=>v=γ (Δ ⟨G,0,Γ⟩)
 | 1,v,_=>v=.agg (Au c)
 | 2,v,W=>∃ g,v=Β (Δ ⟨g,0,Γ⟩) 0 0/\W.ownsRow D 3 1 v 0 []
 | 3,v,W=>∃ g E,v=Β (Δ ⟨g,0,Γ⟩) 1 1/\W.ownsRow D 68 1 v 1 [Β (Δ ⟨E,0,Γ⟩) 0 0]/\W.ownsRow D 3 1 (Β (Δ ⟨E,0,Γ⟩) 0 0) 0 []
 | 4,v,_=>v=γ (Δ ⟨G,257,Γ⟩)
 | 5,v,_=>v=Β (Δ ⟨H,I,Γ⟩) n T
 | 6,v,_=>v=iv s
 | 7,v,_=>v=γ (Δ ⟨H,I+s,Γ⟩)
 | 8,v,_=>v=.bool ok
 | 9,v,W=>∃ g,v=Β (Δ ⟨g,0,Γ⟩) 1 1/\W.ownsRow D 4 1 v 1 [.bool ok]
 | 10,v,W=>∃ J E M,v=.agg (trA c (Β (Δ ⟨J,0,Γ⟩) 1 1) (Β (Δ ⟨M,0,Γ⟩) 1 1))/\W.ownsRow D 68 1 (Β (Δ ⟨J,0,Γ⟩) 1 1) 1 [Β (Δ ⟨E,0,Γ⟩) 0 0]/\W.ownsRow D 3 1 (Β (Δ ⟨E,0,Γ⟩) 0 0) 0 []/\W.ownsRow D 4 1 (Β (Δ ⟨M,0,Γ⟩) 1 1) 1 [.bool ok]
 | _,v,W=>∃ g,v=γ (Δ ⟨g,0,Γ⟩)/\W.heap[g]? = Δ (Ε ϖ 79 (0,0))/\D<=g
theorem Ajj (J M s T U n ca:Nat) (c:Nat->Nat) (ok:Bool):∀ (i:Nat) (v:Ρ) (w w':Κ),Pz J M s T U n ca c ok i v w->Ext w w'->Pz J M s T U n ca c ok i v w'
 | 0,_,_,_,h,_=>h
 | 1,_,_,_,h,_=>h
 | 2,_,_,_,⟨g,E,G⟩,D=>⟨g,E,Ah G D⟩
 | 3,_,_,_,⟨g,I,E,G,H⟩,D=>⟨g,I,E,Ah G D,Ah H D⟩
 | 4,_,_,_,h,_=>h
 | 5,_,_,_,h,_=>h
 | 6,_,_,_,h,_=>h
 | 7,_,_,_,h,_=>h
 | 8,_,_,_,h,_=>h
 | 9,_,_,_,⟨g,E,G⟩,D=>⟨g,E,Ah G D⟩
 | 10,_,_,_,⟨g,I,ga,E,G,H,h4⟩,D=>⟨g,I,ga,E,Ah G D,Ah H D,Ah h4 D⟩
 | _+11,_,_,_,⟨g,E,G,H⟩,D=>⟨g,E,D.heap G,H⟩
theorem Hp.four {w0 W:Κ} (hE:Ext w0 W) {G H I:TypeId} {s1 s2 s3:Nat} {D v2 v3:Ρ} {n1 n2 n3:Nat} {x1 x2 x3:List Ρ} {g:Nat} {cs:Array Ρ} {ty:TypeId}
  (J:W.ownsRow w0.heap.size G s1 D n1 x1) (M:W.ownsRow w0.heap.size H s2 v2 n2 x2) (T:W.ownsRow w0.heap.size I s3 v3 n3 x3) (U:W.heap[g]? = Δ (Ε cs ty (0,0))) (hg:w0.heap.size<=g)
  (aq:G≠H) (ar:G≠I) (au:H≠I) (t1:ty≠G) (t2:ty≠H) (t3:ty≠I):Hp w0 W [.row G s1 D n1 x1,.row H s2 v2 n2 x2,.row I s3 v3 n3 x3,.obj g (Ε cs ty (0,0))]:=by
 have E:∀ {v u:Ρ} {r:Option Nat},(v.ownBlock=Γ\/v.ownBlock≠r)->∀ k,v.ownBlock=Δ k->r≠Δ k:=λh k hk e=>by
  rcases h with h|h
  ·rw[h] at hk;cases hk
  ·exact h (hk.trans e.symm)
 refine⟨hE,λc hc=>?_,?_⟩
 ·simp only[Û,ô,or_false] at hc;rcases hc with rfl|rfl|rfl|rfl
  ·exact J
  ·exact M
  ·exact T
  ·exact⟨hg,U⟩
 ·refine List.pairwise_cons.2 ⟨λd hd=>?_,List.pairwise_cons.2 ⟨λd hd=>?_,List.pairwise_cons.2 ⟨λd hd=>?_,List.pairwise_singleton _ _⟩⟩⟩
  ·simp only[Û,ô,or_false] at hd;rcases hd with rfl|rfl|rfl
   ·exact E (u:=D) (Ai J M aq)
   ·exact E (u:=D) (Ai J T ar)
   ·exact E (u:=D) (Dq J U t1)
  ·simp only[Û,ô,or_false] at hd;rcases hd with rfl|rfl
   ·exact E (u:=D) (Ai M T au)
   ·exact E (u:=D) (Dq M U t2)
  ·simp only[Û,ô,or_false] at hd;subst hd;exact E (u:=D) (Dq T U t3)
theorem Ajn (t:Tbl) (hv:TVal t) (hn:t.n.length<=65535) (A:Array Ρ) (s:Nat) (hs:s<t.n.length) (w:Κ) (h:IsR w A t) :
  Ϝ Η 52 #[.agg A,.int ζ s] w λe w'=>∃ v d,e=ν v/\IsD w' v d/\Cano d/\(∀ u,d.has u=t.ok (t.run s u))/\Ext w w':=by
 obtain⟨bn,on,cn,ba,oa,ca,jh,ji,hf,ec,ed,ee,cj⟩:=h.opened hv;obtain⟨jj,jk,ef,-,-⟩:=h;obtain⟨i0,hi,eh,ei,ej⟩:=ϕ Cg;obtain⟨i4,en,eo,bt,hh⟩:=ϕ Dt;obtain⟨i6,er,et,bu,hl⟩:=ϕ (show (Η.info? 68).map (λi=>(i.zero,i.size,i.bytes))=Δ (Δ (Β Γ 0 0),1,24) by kernel_rfl);have jl:=hv.cle;have jm:=hv.cpos;have bw:=((Ι w).alloc (Ε A 79)).alloc (Ε #[Β Γ 0 0,Β Γ 0 0,Β Γ 0 0] 30);have H0:=Ag (Ab w (Ε A 79)) (Ε #[Β Γ 0 0,Β Γ 0 0,Β Γ 0 0] 30);have H1:=Ϙ w (Ε A 79) (Ε #[Β Γ 0 0,Β Γ 0 0,Β Γ 0 0] 30);have HV:=Α hv;have eu:=Α (λs (hs:s<t.n.length)=>hv.row s hs);have ho:=Α (Me (Ci t s) (Wv hv hs) (by simp[Ci];omega));have hp:=Α (λu=>Aji hv hs u);clear hv;obtain⟨ok,cl⟩:∃ b,t.ok s=b:=⟨_,rfl⟩;have cm:=cj s hs;rw[cl] at cm;have hr:=Α cl;have jn:(s:Int)<(t.n.length:Int):=by omega
 have ev:=Α (λW (E:Ext w W)=>ee.ext E);have ht:=Α (λW (E:Ext w W) s (hs:s<t.n.length)=>E.cell (cj s hs));have hx:=Α ec;have ew:=Α ed;have hy:=Α ef;clear ee cj hf ec ed cl ef;go_enter Tryz.func52,Tryz.ntmps52;go_upto_region 1 with (fail)
 obtain⟨w1,bz⟩:∃ X,(w.alloc (Ε A 79)).alloc (Ε #[Β Γ 0 0,Β Γ 0 0,Β Γ 0 0] 30)=X:=⟨_,rfl⟩;have h0:w1.heap.size=w.heap.size+1+1:=by rw[<-bz,Λ,Λ]
 have ey:Ϻ (w.heap.size+1<w1.heap.size):=Α (by omega);rw[bz] at bw H0 H1;simp only[bz];obtain⟨U,cp⟩:∃ y,w.heap.size=y:=⟨_,rfl⟩;obtain⟨g4,ct⟩:∃ y,U+1=y:=⟨_,rfl⟩;have h6:Ϻ (w.heap.size<=g4):=Α (by omega);rw[cp] at H0 H1 ey;rw[ct] at H1 ey;simp only[cp,ct];clear bz h0 cp ct;have a1:=Α bw;have h7:=Α H1;have b0:=Α (λW (E:Ext w1 W)=>E.heap H0);have ez:=bw.cell cm;clear H0 H1 bw cm;refine Ht 12 97 (by kernel_rfl) (by kernel_rfl) rfl (Pz w1.heap.size U s ba oa t.n.length ca t.cell ok) Gh Ik (Ajj _ _ _ _ _ _ _ _ _) (λi cu=>?_) (λvs w5 e0 hF hN=>?_)
 ·have a6:=(Ι w1).drew
  match i,cu with
  | 0,_=>
   refine Ar _ _ rfl rfl rfl λc W E G ab=>?_
   have h3:c.tmps.getD 2 ς=γ (Δ ⟨U,0,Γ⟩):=ab 2 (by kernel_rfl);go_simp;exact⟨_,rfl,Ι W,rfl,λ_ _ _ _ _=>trivial⟩
  | 1,_=>
   refine Ar _ _ rfl rfl rfl λc W E G ab=>?_
   have h3:c.tmps.getD 10 ς=γ (Δ ⟨U,0,Γ⟩):=G 0 10 (by kernel_rfl);refine C4 (Fl 77 (η 10) rfl U 0 h3 (Au t.cell).toList _ (Aay hy.out (b0.out W (a6.trans E))) Tryz.underlying77 rfl (by rw[Array.length_toList,C3];exact Fj)) ?_;exact⟨_,rfl,Ι W,rfl,λ_ _ _ _ _=>trivial⟩
  | 2,_=>
   refine Ar _ _ rfl rfl rfl λc W E G ab=>?_
   go_simp;exact⟨_,rfl,(Ι W).alloc _,⟨_,rfl,Ô W #[] 0 (a6.trans E).size (by unfold ϙ;omega) rfl⟩,λ_ _ _ _ _=>trivial⟩
  | 3,_=>
   refine Ar _ _ rfl rfl rfl λc W E G ab=>?_
   obtain⟨g',e1,b4⟩:∃ g,c.tmps.getD 12 ς=Β (Δ ⟨g,0,Γ⟩) 0 0/\W.ownsRow w1.heap.size 3 1 (c.tmps.getD 12 ς) 0 []:=G 2 12 (by kernel_rfl);rw[e1] at b4;refine wp_buildSlice 27 68 1 #[(0,.tmp 12)] rfl #[Β (Δ ⟨g',0,Γ⟩) 0 0] i6 (Β Γ 0 0) ê er et (by rw[bu];omega) (by rw[bu];omega) ?_ ?_
   ·have e:(Array.map (λ(i,x)=>(i,c.eval x)) #[(0,ϻ.tmp 12)]).toList=[(0,c.eval (η 12))]:=by simp only[List.map_toArray,Ç,List.map_nil]
    rw[bu,e,show c.eval (η 12)=_ from e1];simp[Instr.fill,Ρ.cells];exact Ti _ _
   exact⟨_,rfl,(Ι W).alloc _,⟨_,g',rfl,Ô W #[Β (Δ ⟨g',0,Γ⟩) 0 0] 1 (a6.trans E).size (by unfold ϙ;omega) rfl,b4.alloc _⟩,λ_ _ _ _ _=>trivial⟩
  | 4,_=>
   refine Ar _ _ rfl rfl rfl λc W E G ab=>?_
   have h3:c.tmps.getD 2 ς=γ (Δ ⟨U,0,Γ⟩):=ab 2 (by kernel_rfl);go_simp;exact⟨_,rfl,Ι W,rfl,λ_ _ _ _ _=>trivial⟩
  | 5,_=>
   refine Ar _ _ rfl rfl rfl λc W E G ab=>?_
   have h3:c.tmps.getD 14 ς=γ (Δ ⟨U,257,Γ⟩):=G 4 14 (by kernel_rfl);have c1:=Ay (b0.out W (a6.trans E)) ew.out;go_simp;exact⟨_,rfl,Ι W,rfl,λ_ _ _ _ _=>trivial⟩
  | 6,_=>
   refine Ar _ _ rfl rfl rfl λc W E G ab=>?_
   have h3:c.tmps.getD 1 ς=iv s:=ab 1 (by kernel_rfl);go_simp;exact⟨_,rfl,Ι W,rfl,λ_ _ _ _ _=>trivial⟩
  | 7,_=>
   refine Ar _ _ rfl rfl rfl λc W E G ab=>?_
   have h3:c.tmps.getD 15 ς=Β (Δ ⟨ba,oa,Γ⟩) t.n.length ca:=G 5 15 (by kernel_rfl);have h4:c.tmps.getD 16 ς=iv s:=G 6 16 (by kernel_rfl);go_simp;exact⟨_,rfl,Ι W,rfl,λ_ _ _ _ _=>trivial⟩
  | 8,_=>
   refine Ar _ _ rfl rfl rfl λc W E G ab=>?_
   have h3:c.tmps.getD 17 ς=γ (Δ ⟨ba,oa+s,Γ⟩):=G 7 17 (by kernel_rfl);have c1:=(a6.trans E).cell ez;go_simp;exact⟨_,rfl,Ι W,rfl,λ_ _ _ _ _=>trivial⟩
  | 9,_=>
   refine Ar _ _ rfl rfl rfl λc W E G ab=>?_
   have h3:c.tmps.getD 18 ς=.bool ok:=G 8 18 (by kernel_rfl);refine wp_buildSlice 28 4 1 #[(0,.tmp 18)] rfl #[.bool ok] i4 (.bool Τ) Ã en eo (by rw[bt];omega) (by rw[bt];omega) ?_ ?_
   ·have e:(Array.map (λ(i,x)=>(i,c.eval x)) #[(0,ϻ.tmp 18)]).toList=[(0,c.eval (η 18))]:=by simp only[List.map_toArray,Ç,List.map_nil]
    rw[bt,e,show c.eval (η 18)=_ from h3];simp[Instr.fill,Ρ.cells];exact Ti _ _
   exact⟨_,rfl,(Ι W).alloc _,⟨_,rfl,Ô W #[.bool ok] 1 (a6.trans E).size (by unfold ϙ;omega) rfl⟩,λ_ _ _ _ _=>trivial⟩
  | 10,_=>
   refine Ar _ _ rfl rfl rfl λc W E G ab=>?_
   have h3:c.tmps.getD 11 ς=.agg (Au t.cell):=G 1 11 (by kernel_rfl);obtain⟨H,g',e2,e3,b4⟩:∃ g g',c.tmps.getD 13 ς=Β (Δ ⟨g,0,Γ⟩) 1 1/\W.ownsRow w1.heap.size 68 1 (c.tmps.getD 13 ς) 1 [Β (Δ ⟨g',0,Γ⟩) 0 0]/\W.ownsRow w1.heap.size 3 1 (Β (Δ ⟨g',0,Γ⟩) 0 0) 0 []:=G 3 13 (by kernel_rfl);obtain⟨M,e4,e5⟩:∃ g,c.tmps.getD 19 ς=Β (Δ ⟨g,0,Γ⟩) 1 1/\W.ownsRow w1.heap.size 4 1 (c.tmps.getD 19 ς) 1 [.bool ok]:=G 9 19 (by kernel_rfl);rw[e2] at e3;rw[e4] at e5;refine C4 (Hh 79 _ rfl (A:=trA t.cell (Β (Δ ⟨H,0,Γ⟩) 1 1) (Β (Δ ⟨M,0,Γ⟩) 1 1)) ?_ W) ?_
   ·have e:(Array.map (λ(i,x)=>(i,c.eval x)) #[(0,ϻ.tmp 11),(1,ϻ.tmp 13),(2,ϻ.tmp 19)]).toList=[(0,c.eval (η 11)),(1,c.eval (η 13)),(2,c.eval (η 19))]:=by simp only[List.map_toArray,Ç,List.map_nil]
    rw[e,show c.eval (η 11)=_ from h3,show c.eval (η 13)=_ from e2,show c.eval (η 19)=_ from e4];exact Amb _ _ _ _ _ _ _
   ·exact⟨_,rfl,Ι W,⟨H,g',M,rfl,e3,b4,e5⟩,λ_ _ _ _ _=>trivial⟩
  | 11,_=>
   refine Ar _ _ rfl rfl rfl λc W E G ab=>?_
   go_simp;exact⟨_,rfl,(Ι W).alloc _,⟨_,rfl,Ab W _,(a6.trans E).size⟩,λ_ _ _ _ _=>trivial⟩
 ·have e6:vs 0=γ (Δ ⟨U,0,Γ⟩):=hF 0 (by omega);have e7:vs 1=.agg (Au t.cell):=hF 1 (by omega);obtain⟨x2,e8,-⟩:∃ g,vs 2=Β (Δ ⟨g,0,Γ⟩) 0 0/\_:=hF 2 (by omega);obtain⟨x3,-,e9,-⟩:∃ g g',vs 3=Β (Δ ⟨g,0,Γ⟩) 1 1/\_:=hF 3 (by omega);have fa:vs 4=γ (Δ ⟨U,257,Γ⟩):=hF 4 (by omega);have fb:vs 5=Β (Δ ⟨ba,oa,Γ⟩) t.n.length ca:=hF 5 (by omega);have fc:vs 6=iv s:=hF 6 (by omega);have fe:vs 7=γ (Δ ⟨ba,oa+s,Γ⟩):=hF 7 (by omega);have ff:vs 8=.bool ok:=hF 8 (by omega);obtain⟨x9,fg,-⟩:∃ g,vs 9=Β (Δ ⟨g,0,Γ⟩) 1 1/\_:=hF 9 (by omega);obtain⟨H,g',M,fh,fj,fk,fl⟩:∃ H g' M,vs 10=.agg (trA t.cell (Β (Δ ⟨H,0,Γ⟩) 1 1) (Β (Δ ⟨M,0,Γ⟩) 1 1))/\_/\_/\_:=hF 10 (by omega);obtain⟨g5,fm,H5,fo⟩:∃ g,vs 11=γ (Δ ⟨g,0,Γ⟩)/\_/\_:=hF 11 (by omega);simp only[Bq,List.drop_succ_cons,List.drop_zero,e6,e7,e8,e9,fa,fb,fc,fe,ff,fg,fh,fm,List.getElem?_toArray,List.getElem?_cons_zero,List.getElem?_cons_succ,Option.bind_some,Ϛ,Θ,Χ,Ψ];clear hF hN e6 e7 e8 e9 fa fb fc fe ff fg fh fm ez;have D:=(Hp.four ((Ι w1).drew.trans e0) fk fj fl H5 fo (by decide) (by decide) (by decide) (by decide) (by decide) (by decide)).box 3 rfl (trA t.cell (Β (Δ ⟨H,0,Γ⟩) 1 1) (Β (Δ ⟨M,0,Γ⟩) 1 1));have fp:(Η.info? 79).map (·.size)=Δ (trA t.cell (Β (Δ ⟨H,0,Γ⟩) 1 1) (Β (Δ ⟨M,0,Γ⟩) 1 1)).size:=by rw[Dw];exact Cp
  have fq:ϖ.size=(trA t.cell (Β (Δ ⟨H,0,Γ⟩) 1 1) (Β (Δ ⟨M,0,Γ⟩) 1 1)).size:=by rw[Fe,Dw]
  have fs:=Gy t.cell (Β (Δ ⟨H,0,Γ⟩) 1 1) (Β (Δ ⟨M,0,Γ⟩) 1 1) rfl rfl;go_upto_region 2 with (refine Φ rfl 79 (η 5) (η 20) rfl _ (trA t.cell (Β (Δ ⟨H,0,Γ⟩) 1 1) (Β (Δ ⟨M,0,Γ⟩) 1 1)) rfl rfl _ _ H5 fp fq fs ?_)
  clear fp fq fs H5 fj fk fl fo e0;obtain⟨w6,cw⟩:∃ X,w5.setRow g5 (trA t.cell (Β (Δ ⟨H,0,Γ⟩) 1 1) (Β (Δ ⟨M,0,Γ⟩) 1 1))=X:=⟨_,rfl⟩;rw[cw] at D;simp only[cw];clear cw;go_wp2_with (fail);obtain⟨br,b6,cr,fu,fv⟩:=ev.out w (Ι w) s hs;have fw:=Α fu;have ia:=Α fv;have b7:=Α (λW (E:Ext w1 W)=>Ay (b0.out W E) hx.out);have fx:=Α (λs (hs:s<t.n.length) k (hk:k<t.cells)=>HV.out.tgt s hs k hk);clear fu fv;go_loopw [6] (λvi W=>∃ (r:List Nat) (gq cq k:Nat),k<=t.cells/\vi=.int ζ k/\Hp w1 W [.row 3 1 (Β (Δ ⟨gq,0,Γ⟩) r.length cq) r.length (r.map iv),.row 68 1 (Β (Δ ⟨H,0,Γ⟩) 1 1) 1 [Β (Δ ⟨gq,0,Γ⟩) r.length cq],.row 4 1 (Β (Δ ⟨M,0,Γ⟩) 1 1) 1 [.bool ok],.obj g5 (Ε (trA t.cell (Β (Δ ⟨H,0,Γ⟩) 1 1) (Β (Δ ⟨M,0,Γ⟩) 1 1)) 79 (0,0))]/\Ϻ (r=(ι k).map λj=>t.ent2 s j+1))
   (λvi _=>t.cells-(intOf vi).toNat)
  case atStart=>exact⟨[],g',0,0,by omega,rfl,D,Α rfl⟩
  case round=>
   clear D;obtain⟨r,gq,cq,k,hk,rfl,D,HR⟩:=hrel;have fy:r.length<=256:=by rw[HR.out];simp;omega
   have c1:=b7.out wr D.ext;have c2:=(a1.out.trans D.ext).cell fw.out;by_cases fz:k<t.cells
   ·have ib:(k:Int)<(t.cells:Int):=by omega
    go_upto_region 5 with (fail)
    clear c1 c2;have bh:=ia.out k fz;have hz:=fx.out s hs k fz;obtain⟨z,bc⟩:∃ x,t.ent2 s k=x:=⟨_,rfl⟩;rw[bc] at bh hz;have ic:(z:Int)<65535:=by omega
    have ju:ç.wrap ((z:Int)+1)=(z:Int)+1:=Ý _ ⟨by omega,by omega⟩;have cz:Ϻ (r++[z+1]=(ι (k+1)).map λj=>t.ent2 s j+1):=Α (by rw[List.range_succ,ϔ,<-HR.out,<-bc];rfl);have ao:=Α (λ(X:Κ) (ch:Ch) (h:Hp w1 X [ch,.row 68 1 (Β (Δ ⟨H,0,Γ⟩) 1 1) 1 [Β (Δ ⟨gq,0,Γ⟩) r.length cq],.row 4 1 (Β (Δ ⟨M,0,Γ⟩) 1 1) 1 [.bool ok],.obj g5 (Ε (trA t.cell (Β (Δ ⟨H,0,Γ⟩) 1 1) (Β (Δ ⟨M,0,Γ⟩) 1 1)) 79 (0,0))])=>
     (show X.cell? ⟨g5,256,Γ⟩=Δ (Β (Δ ⟨H,0,Γ⟩) 1 1)/\X.cell? ⟨H,0,Γ⟩=Δ (Β (Δ ⟨gq,0,Γ⟩) r.length cq)/\X.cell? ⟨U,256,Γ⟩=Δ (Β (Δ ⟨bn,on,Γ⟩) t.n.length cn)/\X.cell? ⟨bn,on+s,Γ⟩=Δ (Β (Δ ⟨br,b6,Γ⟩) t.cells cr)/\X.cell? ⟨br,b6+k,Γ⟩=Δ (iv z) from
      ⟨Ay (h.obj 3 rfl) (F9 _ _ _),(ϛ.cellAt (h.row 1 rfl) 0 (by omega)).trans rfl,b7.out X h.ext,(a1.out.trans h.ext).cell fw.out,(a1.out.trans h.ext).cell bh⟩))
    clear bc bh;have T:=D.extW (Ι wr).drew;refine B0 18 [(0,Ξ),(1,Ξ),(2,Ξ),(3,Ξ),(4,Ξ),(5,Ξ),(6,Ξ),(7,Ξ),(8,Ξ),(9,Ξ),(10,Ξ),(11,Ξ),(12,Ξ),(13,Ξ),(14,Ξ),(15,Τ),(16,Τ),(17,Ξ),(18,Τ)] (by kernel_rfl) (by kernel_rfl) (λ_ _ _ _ h=>h)
     (λW=>W.cell? ⟨g5,256,Γ⟩=Δ (Β (Δ ⟨H,0,Γ⟩) 1 1)/\W.cell? ⟨H,0,Γ⟩=Δ (Β (Δ ⟨gq,0,Γ⟩) r.length cq)/\W.cell? ⟨U,256,Γ⟩=Δ (Β (Δ ⟨bn,on,Γ⟩) t.n.length cn)/\W.cell? ⟨bn,on+s,Γ⟩=Δ (Β (Δ ⟨br,b6,Γ⟩) t.cells cr)/\W.cell? ⟨br,b6+k,Γ⟩=Δ (iv z)) (ao.out _ _ T) ?_
    clear D;obtain⟨wq,bd⟩:∃ X,wr.drew=X:=⟨_,rfl⟩;rw[bd] at T;rw[bd];clear bd;iterate 15
     refine Ao (v:=?_) rfl rfl (λV hV=>?_) ?_
     rotate_left
     ·obtain⟨k0,k1,k2,k3,k4⟩:=hV;go_simp;first|done|with_reducible rfl
     simp only[Ϛ,Θ,Χ,Ψ]
    have c4:=T.size;refine A4 rfl (λKq J=>?_);go_simp;refine J _ _ (λ_=>ao.out _ _ (T.alloc _)) ?_;clear J Kq;refine A4 rfl (λKq J=>?_);refine step_append_lies _ rfl _ _ 68 rfl w1.heap.size 3 i0 (.int ζ 0) 1 8 ϓ hi eh ei ej rfl (by decide) _ _ _ rfl ((T.row 0 rfl).alloc _) _ 1 1 [.int ζ ((z:Int)+1)] rfl rfl (Ϫ _ _ _) (by simp[ϊ]) (by decide) (by unfold ϙ;omega) (by omega) (by simp;omega) _ rfl ?_;intro g7 c7 w7 bm ax ay _;have ak:=(T.alloc (Ε #[.int ζ ((z:Int)+1)] 3)).app 0 rfl bm ax ay;have c6:=Α (ao.out _ _ ak);clear bm ax ay T c4;refine J _ _ (λ_=>c6.out) ?_;clear J Kq;refine Ao (v:=?_) rfl rfl (λV hV=>?_) ?_
    rotate_left
    ·clear hV;go_simp;first|done|with_reducible rfl
    simp only[Ϛ,Θ,Χ,Ψ];have k2:=c6.out.2.1;have f2:=(ak.row 1 rfl).frozenAt 0;refine A4 rfl (λKq J=>?_);go_simp;refine J _ _ (λh=>absurd h (by omega)) ?_;clear J Kq k2 f2;refine B2 ?_;have bj:=ak.put 1 rfl 0 (Β (Δ ⟨g7,0,Γ⟩) (r.length+1) c7);clear ak c6 ao;go_wp2;go_roundw
    case rel=>exact⟨r++[z+1],g7,c7,k+1,by omega,by go_num,by rw[Ο,ϔ];exact bj,cz⟩
    case measure=>simp[intOf];omega
   ·obtain rfl:k=t.cells:=by omega
    have c9:=D.park;have gb:Ϻ (r=(t.n.getD s []).map (·+1)):=Α (by
     rw[HR.out];exact Sn _ _ (eu.out s hs))
    obtain⟨r0,gd⟩:∃ x,x=r:=⟨_,rfl⟩;rw[<-gd] at gb c9 fy;clear D HR gd;go_wp2_with (fail);go_loopw [7] (λvi W=>∃ (N:List (List Nat)) (I:List Ρ) (Ac:List Bool) (vn va:Ρ) (q:Nat),q<=t.n.length/\vi=.int ζ q/\Hp w1 W (.row 68 1 vn I.length I::.row 4 1 va Ac.length (Ac.map ο)::.obj g5 (Ε (trA t.cell vn va) 79 (0,0))::C1 I N)/\
      Ϻ (I.length=N.length/\N=r0::(ι q).map (λj=>(t.n.getD j []).map (·+1))/\Ac=ok::(ι q).map t.ok))
     (λvi _=>t.n.length-(intOf vi).toNat)
    case atStart=>exact⟨[r0],[Β (Δ ⟨gq,0,Γ⟩) r0.length cq],[ok],(Β (Δ ⟨H,0,Γ⟩) 1 1),(Β (Δ ⟨M,0,Γ⟩) 1 1),0,by omega,rfl,c9,Α ⟨rfl,rfl,rfl⟩⟩
    case round=>
     clear c9;obtain⟨N,I,Ac,vn,va,q,hq,rfl,D,HN⟩:=hrel;have jw:I.length<=65537:=by rw[HN.out.1,HN.out.2.1];simp;omega
     have jx:Ac.length<=65537:=by rw[HN.out.2.2];simp;omega
     have cN:=b7.out wr D.ext;by_cases cb:q<t.n.length
     ·have jy:(q:Int)<(t.n.length:Int):=by omega
      have da:=D.lit 3 1 #[] 0 (by unfold ϙ;omega) rfl;go_upto_region 10 with (fail)
      obtain⟨w4,db⟩:∃ X,wr.alloc (Ε #[] 3)=X:=⟨_,rfl⟩;obtain⟨ij,dc⟩:∃ y,wr.heap.size=y:=⟨_,rfl⟩;rw[db,dc] at da;simp only[db,dc];clear db dc D cN;obtain⟨j0,j1,j2,gg,gh⟩:=ev.out w (Ι w) q cb;have ik:=Α gg;have il:=Α gh;clear gg gh;go_wp2_with (fail);go_loopw [8,9] (λvr vk W=>∃ (r:List Nat) (g8 c8 k:Nat),k<=t.cells/\vr=Β (Δ ⟨g8,0,Γ⟩) r.length c8/\vk=.int ζ k/\Hp w1 W (.row 3 1 (Β (Δ ⟨g8,0,Γ⟩) r.length c8) r.length (r.map iv)::.row 68 1 vn I.length I::.row 4 1 va Ac.length (Ac.map ο)::.obj g5 (Ε (trA t.cell vn va) 79 (0,0))::C1 I N)/\Ϻ (r=(ι k).map λj=>t.ent2 q j+1))
       (λ_ vk _=>t.cells-(intOf vk).toNat)
      case atStart=>exact⟨[],ij,0,0,by omega,rfl,rfl,da,Α rfl⟩
      case round=>
       clear da;obtain⟨r,g8,c8,k,hk,rfl,rfl,D,HR⟩:=hrel;have fy:r.length<=256:=by rw[HR.out];simp;omega
       have c1:=b7.out wr D.ext;have c2:=(a1.out.trans D.ext).cell ik.out;have iq:=D.size;by_cases gi:k<t.cells
       ·have ib:(k:Int)<(t.cells:Int):=by omega
        have bh:=(a1.out.trans D.ext).cell (il.out k gi);have hz:=fx.out q cb k gi;obtain⟨z,bc⟩:∃ x,t.ent2 q k=x:=⟨_,rfl⟩;rw[bc] at bh hz;have ic:(z:Int)<65535:=by omega
        have cz:Ϻ (r++[z+1]=(ι (k+1)).map λj=>t.ent2 q j+1):=Α (by rw[List.range_succ,ϔ,<-HR.out,<-bc];rfl);clear bc;go_upto_region 13 with (fail)
        go_upto_region 12 with (at_builtin;refine ϐ _ rfl _ _ 68 rfl w1.heap.size 3 i0 (.int ζ 0) 1 8 ϓ hi eh ei ej rfl (by decide) _ _ _ rfl ((D.row 0 rfl).alloc _) _ 1 1 [.int ζ ((z:Int)+1)] rfl rfl (Ϫ _ _ _) (by simp[ϊ]) (by decide) (by unfold ϙ;omega) (by omega) (by simp;omega) _ rfl ?_;intro g7 c7 w7 bm ax ay _)
        have ak:=(D.alloc (Ε #[.int ζ ((z:Int)+1)] 3)).app 0 rfl bm ax ay;clear bm ax ay D c1 c2 bh iq;go_wp2;go_roundw
        case rel=>exact⟨r++[z+1],g7,c7,k+1,by omega,by rw[Ο];rfl,by go_num,by rw[Ο,ϔ];exact ak,cz⟩
        case measure=>simp[intOf];omega
       ·obtain rfl:k=t.cells:=by omega
        have ir:Ϻ (r=(t.n.getD q []).map (·+1)):=Α (by
         rw[HR.out];exact Sn _ _ (eu.out q cb))
        have c3:=Ay (D.obj 3 rfl) (F9 _ _ _);go_upto_region 15 with (at_builtin;refine ϐ _ rfl _ _ 27 rfl w1.heap.size 68 i6 (Β Γ 0 0) 1 24 ê er et bu hl rfl (by decide) vn I.length I rfl ((D.row 1 rfl).alloc _) _ 1 1 [Β (Δ ⟨g8,0,Γ⟩) r.length c8] rfl rfl (Ϫ _ _ _) (by simp[ϊ]) (by decide) (by unfold ϙ;omega) (by omega) (by simp;omega) _ rfl ?_;intro de c7 w7 gj ax ay _;have ak:=(D.alloc (Ε #[Β (Δ ⟨g8,0,Γ⟩) r.length c8] 68)).app 1 rfl gj ax ay;have iw:=Ay (ak.obj 3 rfl) (F9 _ _ _);have f17:=ak.frozen 3 rfl 256)
        have bj:=(ak.cell 3 rfl 256 (Β (Δ ⟨de,0,Γ⟩) (I.length+1) c7) (Nl _ _ _ _)).park;clear c1 c2 c3 iw f17 gj ax ay ak D;obtain⟨wx,df⟩:∃ X,w7.setCell ⟨g5,256,Γ⟩ (Β (Δ ⟨de,0,Γ⟩) (I.length+1) c7)=X:=⟨_,rfl⟩;rw[df] at bj;simp only[df];clear df;obtain⟨dg,dh⟩:∃ v,ϟ (Δ ⟨de,0,Γ⟩) (I.length+1) c7=v:=⟨_,rfl⟩;rw[dh] at bj;simp only[dh];clear dh;obtain⟨az,dk⟩:∃ b,t.ok q=b:=⟨_,rfl⟩;have dm:=ht.out w (Ι w) q cb;rw[dk] at dm;have ix:=Α dk;have cd:(Ac.map ο).length=Ac.length:=Ϗ _;have ao:=Α (λ(X:Κ) (vz:Ρ) (xs:List Ρ) (h:Hp w1 X (.row 68 1 dg (I.length+1) (I++[Β (Δ ⟨g8,0,Γ⟩) r.length c8])::.row 4 1 vz xs.length xs::.obj g5 (Ε (trA t.cell dg va) 79 (0,0))::C1 I N++[.row 3 1 (Β (Δ ⟨g8,0,Γ⟩) r.length c8) r.length (r.map iv)]))=>
         (show X.cell? ⟨g5,257,Γ⟩=Δ va/\X.cell? ⟨U,257,Γ⟩=Δ (Β (Δ ⟨ba,oa,Γ⟩) t.n.length ca)/\X.cell? ⟨ba,oa+q,Γ⟩=Δ (.bool az) from
          ⟨Ay (h.obj 2 rfl) (Jr _ _ _),Ay (b0.out X h.ext) ew.out,(a1.out.trans h.ext).cell dm⟩))
        have T:=bj.extW (Ι wx).drew;refine B0 10 [(0,Ξ),(1,Ξ),(2,Ξ),(3,Ξ),(4,Ξ),(5,Ξ),(6,Ξ),(7,Τ),(8,Τ),(9,Ξ),(10,Τ)] (by kernel_rfl) (by kernel_rfl) (λ_ _ _ _ h=>h)
         (λW=>W.cell? ⟨g5,257,Γ⟩=Δ va/\W.cell? ⟨U,257,Γ⟩=Δ (Β (Δ ⟨ba,oa,Γ⟩) t.n.length ca)/\W.cell? ⟨ba,oa+q,Γ⟩=Δ (.bool az)) (ao.out _ _ (Ac.map ο) (by rw[cd];exact T)) ?_
        clear bj dm dk;obtain⟨wq,bd⟩:∃ X,wx.drew=X:=⟨_,rfl⟩;rw[bd] at T;rw[bd];clear bd;iterate 7
         refine Ao (v:=?_) rfl rfl (λV hV=>?_) ?_
         rotate_left
         ·obtain⟨k0,k1,k2⟩:=hV;go_simp;first|done|with_reducible rfl
         simp only[Ϛ,Θ,Χ,Ψ]
        have c4:=T.size;refine A4 rfl (λKq J=>?_);go_simp;refine J _ _ (λ_=>ao.out _ _ (Ac.map ο) (by rw[cd];exact T.alloc _)) ?_;clear J Kq;refine A4 rfl (λKq J=>?_);refine step_append_lies _ rfl _ _ 28 rfl w1.heap.size 4 i4 (.bool Τ) 1 1 Ã en eo bt hh rfl (by decide) va Ac.length (Ac.map ο) rfl ((T.row 1 rfl).alloc _) _ 1 1 [.bool az] rfl rfl (Ϫ _ _ _) (by simp[ϊ]) (by decide) (by unfold ϙ;omega) (by omega) (by simp;omega) _ rfl ?_;intro gl gm dn gp gr gu _;have cf:=(T.alloc (Ε #[.bool az] 4)).app 1 rfl gp gr gu;clear gp gr gu T c4;have dp:Ϻ (dn.cell? ⟨g5,257,Γ⟩=Δ va/\dn.cell? ⟨U,257,Γ⟩=Δ (Β (Δ ⟨ba,oa,Γ⟩) t.n.length ca)/\dn.cell? ⟨ba,oa+q,Γ⟩=Δ (.bool az)):=Α (ao.out _ _ (Ac.map ο++[.bool az]) (by rw[Ο,cd];exact cf));refine J _ _ (λ_=>dp.out) ?_;clear J Kq;refine Ao (v:=?_) rfl rfl (λV hV=>?_) ?_
        rotate_left
        ·clear hV;go_simp;first|done|with_reducible rfl
        simp only[Ϛ,Θ,Χ,Ψ];have k2:=dp.out.1;have f2:=cf.frozen 2 rfl 257;refine A4 rfl (λKq J=>?_);go_simp;refine J _ _ (λh=>absurd h (by omega)) ?_;clear J Kq k2 f2;refine B2 ?_;have iz:=cf.cell 2 rfl 257 (Β (Δ ⟨gl,0,Γ⟩) (Ac.length+1) gm) (Nm _ _ _ _);clear cf dp ao cd;have ja:Ϻ ((I++[ϟ (Δ ⟨g8,0,Γ⟩) r.length c8]).length=(N++[r]).length/\N++[r]=r0::(ι (q+1)).map (λj=>(t.n.getD j []).map (·+1))/\Ac++[az]=ok::(ι (q+1)).map t.ok):=
         Α ⟨by rw[Ο,Ο,HN.out.1];rfl,by rw[List.range_succ,ϔ,HN.out.2.1,ir.out];rfl,by rw[List.range_succ,ϔ,HN.out.2.2,<-ix.out];rfl⟩
        go_wp2;go_roundw
        case rel=>exact⟨N++[r],I++[Β (Δ ⟨g8,0,Γ⟩) r.length c8],Ac++[az],dg,Β (Δ ⟨gl,0,Γ⟩) (Ac.length+1) gm,q+1,by omega,by go_num,by rw[Lt HN.out.1,Ο,Ο,ϔ];exact iz,ja⟩
        case measure=>simp[intOf];omega
     ·obtain rfl:q=t.n.length:=by omega
      obtain⟨Af,cg⟩:∃ X,trA t.cell vn va=X:=⟨_,rfl⟩;have jb:(Η.info? 79).map (·.size)=Δ Af.size:=by rw[<-cg,Dw];exact Cp
      have HO:=Α (D.obj 2 rfl);rw[cg] at HO;have bo:N=(Ci t s).n:=by
       rw[HN.out.2.1,gb.out];show _=(t.n.getD s []).map (·+1)::t.n.map λr=>r.map (·+1)
       congr 1
       refine List.ext_getElem (by simp) λi h1 h2=>?_
       have cu:i<t.n.length:=by simpa using h2
       rw[List.getElem_map,List.getElem_map,List.getElem_range,Ζ,Μ cu];rfl
      have gw:Ac=(Ci t s).acc:=by
       rw[HN.out.2.2,<-hr.out];show _=t.ok s::t.acc
       congr 1
       refine List.ext_getElem (by simp[HV.out.accL]) λi h1 h2=>?_
       rw[List.getElem_map,List.getElem_range];unfold Tbl.ok;rw[Ζ,Μ h2];rfl
      have gx:IsR wr Af (Ci t s):=⟨vn,va,cg.symm,by
       rw[<-bo];exact D.rows 0 3 rfl (λj=>rfl) HN.out.1 (by rw[<-HN.out.1];omega) (λj hj=>by
        have:(Ci t s).n.getD j []∈(Ci t s).n:=D9 _ _ _ (by rw[<-bo];exact hj);rw[bo,(Wv HV.out hs).row j (by rw[<-bo];exact hj)];show t.cells<=_;omega),by
       rw[<-gw];exact OwnB.bools (D.row 1 rfl) (by omega)⟩
      have f57:=Α (ho.out Af wr gx);have jd:=a1.out.trans D.ext;have je:=Α (D.ext.heap h7.out);clear gx gw bo cg;go_upto_region 16 with (fail)
      clear cN;go_wp2_with (first
       | (refine Υ rfl 79 (η 5) rfl _ rfl _ _ _ _ HO.out Â rfl jb ?_)
       | (go_at_call 57;with_reducible refine f57.out.mono ?_;rintro e w9 ⟨v,d,rfl,hD,hb,jg,hc⟩;obtain⟨ac,lc,cc,an,dv,aa,la,dy,rfl⟩:=hD.agg;have ea:=Α (hc.heap je.out))
       | (refine Φ rfl 30 (η 4) (η 96) rfl _ (dA (Β ac lc cc) (Β an d.n.length dv) (Β aa la dy)) rfl rfl _ _ ea.out Ad rfl (Ap _ _ _ rfl rfl rfl) ?_))
      refine ϋ (v:=.agg (dA (Β ac lc cc) (Β an d.n.length dv) (Β aa la dy))) (results_cell_row rfl _ _ _ _ _ _ _ rfl (μ w9 _ _ (dA (Β ac lc cc) (Β an d.n.length dv) (Β aa la dy)) 30 (0,0) ea.out) Ν rfl Ad) rfl ?_;exact⟨_,d,rfl,hD.setRow hb.val ea.out _,hb,λu=>by rw[jg,hp.out],(jd.trans hc).setRow h6.out _⟩
def Fn (l:List Cls) (b i:Nat):Nat:=((l.take i).filter λc=>Az c b).length
theorem X3 (l:List Cls) (b i:Nat) (hi:i<l.length):Fn l b (i+1)=Fn l b i+if Az (l.getD i 0#256) b then 1 else 0:=by
 unfold Fn;rw[Å hi,List.filter_append,Ο];have e:l.getD i 0#256=l[i]:=by rw[Ζ,Μ hi];rfl
 rw[e]
 congr 1
 by_cases h:Az l[i] b=Ξ<;>simp[h]
def La (l:List Cls):Prop:=1<=l.length/\l.length<=256/\(∀ i,i<l.length->l.getD i 0#256≠0#256)/\∀ b,b<256->Fn l b l.length=1
theorem Ek {r:Bool} {p:Prop} (h:r=Ξ↔p) (hn:¬ p):r=Τ:=by
 cases r with
 | false=>rfl
 | true=>exact absurd (h.1 rfl) hn
theorem Ae4 (l:List Cls) (r:Bool) (H:r=Ξ↔La l) (v:Ρ) (w:Κ) (h:Cs w v l) :
  Ϝ Η 132 #[v] w λe w'=>e=ν (.bool r)/\Ext w w':=by
 have J:=Α H;by_cases h1:l.length<1
 ·obtain rfl:=Ek H (λh=>absurd h.1 (by omega));obtain⟨a,aq,rfl⟩:=Sl.len h;have M:decide ((l.length:Int)<1)=Ξ:=by simp;omega
  clear H h J;go_enter Tryz.func132,Tryz.ntmps132;go_wp2;go_ret;exact⟨rfl,Ι w⟩
 ·by_cases h2:256<l.length
  ·obtain rfl:=Ek H (λh=>absurd h.2.1 (by omega));obtain⟨a,aq,rfl⟩:=Sl.len h;have M:decide ((l.length:Int)<1)=Τ:=by simp;omega
   have e2:decide ((256:Int)<(l.length:Int))=Ξ:=by simp;omega
   clear H h J;go_enter Tryz.func132,Tryz.ntmps132;go_wp2;go_ret;exact⟨rfl,Ι w⟩
  ·obtain⟨a,bk,aq,rfl,hc⟩:=ä h (by omega);have M:decide ((l.length:Int)<1)=Τ:=by simp;omega
   have e2:decide ((256:Int)<(l.length:Int))=Τ:=by simp;omega
   have HC:=Α (λW (hW:Ext w W) i (hi:i<l.length)=>Gq (W:=W) (λj E=>hW.cell (hc j E)) i hi);have ad:=Α (show 1<=l.length/\l.length<=256 by omega);clear H h hc;obtain⟨n,hn⟩:∃ n,l.length=n:=⟨_,rfl⟩;have G:=Α hn;rw[hn] at h1 h2 M e2 HC ad;rw[hn];clear hn;have au:=Ι w;go_enter Tryz.func132,Tryz.ntmps132;go_wp2_with (fail);clear M e2;go_loopw [3] (λvi W=>∃ i:Nat,i<=n/\vi=.int ζ i/\Ext w W/\Ϻ (∀ j,j<i->l.getD j 0#256≠0#256))
    (λvi _=>n-(intOf vi).toNat)
   case atStart=>exact⟨0,by omega,rfl,au,Α λj E=>by omega⟩
   case round=>
    clear au;obtain⟨i,hi,rfl,D,HZ⟩:=hrel;by_cases ax:i<n
    ·have bl:(i:Int)<(n:Int):=by omega
     obtain⟨a0,a1,a2,a3⟩:=HC.out wr D i ax;obtain⟨c,I⟩:∃ c,l.getD i 0#256=c:=⟨_,rfl⟩;rw[I] at a0 a1 a2 a3;have ay:=Α I;clear I;obtain⟨z,hz⟩:∃ z,(c==0#256)=z:=⟨_,rfl⟩;have g1:=Km c z hz;have az:=Α hz;clear hz;cases z with
     | true=>
      obtain rfl:=Ek J.out (λh=>h.2.2.1 i (by rw[G.out];exact ax) (by rw[ay.out];simpa using az.out));go_wp2;go_ret;exact⟨rfl,D⟩
     | false=>
      have bf:Ϻ (∀ j,j<i+1->l.getD j 0#256≠0#256):=Α λj E=>by
       by_cases e:j=i
       ·rw[e,ay.out];simpa using az.out
       ·exact HZ.out j (by omega)
      go_wp2;go_roundw
      case rel=>exact⟨i+1,by omega,by go_num,D,bf⟩
      case measure=>simp[intOf];omega
    ·obtain rfl:i=n:=by omega
     go_wp2_with (fail);go_loopw [4] (λvb W=>∃ b:Nat,b<=256/\vb=.int ζ b/\Ext w W/\Ϻ (∀ j,j<b->Fn l j i=1))
      (λvb _=>256-(intOf vb).toNat)
     case atStart=>exact⟨0,by omega,rfl,D,Α λj E=>by omega⟩
     case round=>
      clear D;obtain⟨b,hb,rfl,D,HB⟩:=hrel;by_cases bg:b<256
      ·have bn:(b:Int)<256:=by omega
       go_wp2_with (fail);go_loopw [5,6] (λvn vk W=>∃ (m k:Nat),k<=i/\m<=k/\vn=.int ζ m/\vk=.int ζ k/\Ext w W/\Ϻ (m=Fn l b k))
        (λ_ vk _=>i-(intOf vk).toNat)
       case atStart=>exact⟨0,0,by omega,by omega,rfl,rfl,D,Α rfl⟩
       case round=>
        clear D;obtain⟨m,k,hk,hm,rfl,rfl,D,T⟩:=hrel;by_cases a8:k<i
        ·have bp:(k:Int)<(i:Int):=by omega
         obtain⟨a0,a1,a2,a3⟩:=HC.out wr D k a8;have U:=Α (X3 l b k (by rw[G.out];exact a8));obtain⟨c,I⟩:∃ c,l.getD k 0#256=c:=⟨_,rfl⟩;rw[I] at a0 a1 a2 a3 U;clear I;have f:=Α (Wo c b (by omega) (by omega) wr);obtain⟨q,hq⟩:∃ q,Az c b=q:=⟨_,rfl⟩;rw[hq] at f U;clear hq;cases q with
         | true=>
          have al:Ϻ (m+1=Fn l b (k+1)):=Α (by rw[U.out,T.out];rfl);go_wp2_with (first
           | (go_at_call 133;(with_reducible refine f.out.mono ?_);rintro e wy ⟨rfl,an⟩))
          have ao:=D.trans an;go_roundw
          case rel=>exact⟨m+1,k+1,by omega,by omega,by go_num,by go_num,ao,al⟩
          case measure=>simp[intOf];omega
         | false=>
          have al:Ϻ (m=Fn l b (k+1)):=Α (by rw[U.out,T.out];rfl);go_wp2_with (first
           | (go_at_call 133;(with_reducible refine f.out.mono ?_);rintro e wy ⟨rfl,an⟩))
          have ao:=D.trans an;go_roundw
          case rel=>exact⟨m,k+1,by omega,by omega,rfl,by go_num,ao,al⟩
          case measure=>simp[intOf];omega
        ·obtain rfl:k=i:=by omega
         by_cases bb:m=1
         ·subst bb;have bj:Ϻ (∀ j,j<b+1->Fn l j k=1):=Α λj E=>by
           by_cases e:j=b
           ·rw[e];exact T.out.symm
           ·exact HB.out j (by omega)
          go_wp2;go_roundw
          case rel=>exact⟨b+1,by omega,by go_num,D,bj⟩
          case measure=>simp[intOf];omega
         ·have bq:((m:Int) != 1)=Ξ:=by simp;omega
          obtain rfl:=Ek J.out (λh=>bb (by
           have:=h.2.2.2 b bg;rw[G.out,<-T.out] at this;exact this))
          go_wp2;go_ret;exact⟨rfl,D⟩
      ·obtain rfl:b=256:=by omega
       obtain rfl:r=Ξ:=J.out.2 ⟨by rw[G.out];exact ad.out.1,by rw[G.out];exact ad.out.2,λj E=>HZ.out j (by rw[<-G.out];exact E),λb hb=>by rw[G.out];exact HB.out b hb⟩;go_wp2;go_ret;exact⟨rfl,D⟩
structure Dz where
 cls:List Cls
 n:List (List Int)
 acc:List Bool
def SlW (W:Κ) (v:Ρ) (k n:Nat) (f:Nat->Ρ):Prop:=(n=0/\∃ a D,v=Β a 0 D)\/
  (0<n/\∃ b E D,v=Β (Δ ⟨b,E,Γ⟩) n D/\b<W.heap.size/\∀ i,i<n*k->W.cell? ⟨b,E+i,Γ⟩=Δ (f i))
theorem SlW.form {W:Κ} {v:Ρ} {k n:Nat} {f:Nat->Ρ} (h:SlW W v k n f) (H:0<n) :
  ∃ b D E,v=Β (Δ ⟨b,D,Γ⟩) n E/\∀ i,i<n*k->W.cell? ⟨b,D+i,Γ⟩=Δ (f i):=by
 obtain⟨hn,_⟩|⟨_,b,D,E,hv,_,G⟩:=h
 ·omega
 ·exact⟨b,D,E,hv,G⟩
theorem SlW.len {W:Κ} {v:Ρ} {k n:Nat} {f:Nat->Ρ} (h:SlW W v k n f):∃ a D,v=Β a n D:=by
 obtain⟨hn,a,D,rfl⟩|⟨_,b,E,D,rfl,_⟩:=h
 ·exact⟨a,D,by rw[hn]⟩
 ·exact⟨_,D,rfl⟩
theorem SlW.ext {W W':Κ} {v:Ρ} {k n:Nat} {f:Nat->Ρ} (h:SlW W v k n f) (D:Ext W W'):SlW W' v k n f:=by
 obtain h|⟨hn,b,E,G,hv,H,I⟩:=h
 ·exact .inl h
 ·exact .inr ⟨hn,b,E,G,hv,Nat.lt_of_lt_of_le H D.size,λi hi=>D.cell (I i hi)⟩
def Anl (W:Κ) (v:Ρ) (l:List Int):Prop:=SlW W v 1 l.length (λi=>.int ζ (l.getD i 0))
def Anm (W:Κ) (v:Ρ) (l:List Bool):Prop:=SlW W v 1 l.length (λi=>.bool (l.getD i Τ))
def RowsZ (W:Κ) (v:Ρ) (N:List (List Int)):Prop:=
 ∃ vs:List Ρ,vs.length=N.length/\Sl W v 1 N.length (λi=>vs.getD i ς)/\∀ i,i<N.length->Anl W (vs.getD i ς) (N.getD i [])
def IsDz (W:Κ) (v:Ρ) (z:Dz):Prop:=∃ D vn va,v=.agg #[D,vn,va]/\Cs W D z.cls/\RowsZ W vn z.n/\Anm W va z.acc
theorem RowsZ.ext {W W':Κ} {v:Ρ} {N:List (List Int)} (h:RowsZ W v N) (D:Ext W W'):RowsZ W' v N:=by
 obtain⟨vs,E,G,H⟩:=h;exact⟨vs,E,Sl.ext G D,λi hi=>SlW.ext (H i hi) D⟩
theorem IsDz.ext {W W':Κ} {v:Ρ} {z:Dz} (h:IsDz W v z) (D:Ext W W'):IsDz W' v z:=by
 obtain⟨E,vn,va,hv,G,H,I⟩:=h;exact⟨E,vn,va,hv,Sl.ext G D,H.ext D,SlW.ext I D⟩
def Eq (z:Dz) (s k:Nat):Int:=(z.n.getD s []).getD k 0
def K8 (z:Dz):Prop:=0<z.n.length/\z.acc.length=z.n.length/\La z.cls/\∀ s,s<z.n.length->(z.n.getD s []).length=z.cls.length/\∀ k,k<z.cls.length->0<=Eq z s k/\Eq z s k<z.n.length
def dz (d:Dfa):Dz:=⟨d.cls,d.n.map λr=>r.map Int.ofNat,d.acc⟩
theorem Ql (d:Dfa) (s:Nat):(dz d).n.getD s []=(d.n.getD s []).map Int.ofNat:=by
 unfold dz;simp only[Ζ,Ϟ];cases d.n[s]?<;>rfl
theorem Aku (d:Dfa) (s k:Nat):Eq (dz d) s k=d.ent2 s k:=by
 unfold Eq Dfa.ent2;rw[Ql];simp only[Ζ,Ϟ];cases (d.n[s]?.getD [])[k]?<;>rfl
theorem IsD.dz {W:Κ} {v:Ρ} {d:Dfa} (h:IsD W v d):IsDz W v (dz d):=by
 obtain⟨E,vn,va,hv,G,⟨vs,H,I,J⟩,M⟩:=h;have D:(d.n.map λr=>r.map Int.ofNat).length=d.n.length:=Ϗ _;refine⟨E,vn,va,hv,G,⟨vs,by rw[H];exact D.symm,by show Sl W vn 1 (d.n.map _).length _;rw[D];exact I,λi hi=>?_⟩,M.2⟩;have T:i<d.n.length:=by rw[<-D];exact hi
 have:=J i T;rw[Ql];show SlW W _ 1 ((d.n.getD i []).map Int.ofNat).length _;rw[Ϗ];refine (Sl.congr this λk _=>?_).2;simp only[Ζ,Ϟ];cases (d.n[i]?.getD [])[k]?<;>rfl
theorem Alg {l:List Cls} (h:Parts l) (b:Nat) (E:b<256):∀ i,i<=l.length->Fn l b i=if Ak l b<i then 1 else 0:=by
 intro i;induction i with
 | zero=>intro _;rfl
 | succ i H=>
  intro hi;rw[X3 l b i (by omega),H (by omega)];have hm:Az (l.getD i 0#256) b=decide (Ak l b=i):=by
   have e:Az (l.getD i 0#256) b=(l.getD i 0#256).getLsbD b:=by unfold Az;simp
   rw[e];by_cases D:Ak l b=i
   ·rw[decide_eq_true D,<-D];exact E9 h E
   ·rw[decide_eq_false D,<-Bool.not_eq_true];exact λhm=>D (E1 h E (by omega) hm)
  rw[hm];by_cases D:Ak l b=i
  ·rw[if_neg (by omega),if_pos (by simpa using D),if_pos (by omega)]
  ·by_cases G:Ak l b<i
   ·rw[if_pos G,if_neg (by simpa using D),if_pos (by omega)]
   ·rw[if_neg G,if_neg (by simpa using D),if_neg (by omega)]
theorem Parts.z {l:List Cls} (h:Parts l):La l:=
 ⟨h.pos,h.le,λi hi=>h.nz _ (D9 l i 0#256 hi),λb D=>by rw[Alg h b D _ (θ _),if_pos (cell_lt h D)]⟩
theorem Val.z {d:Dfa} (h:Val d):K8 (dz d):=by
 have D:(dz d).n.length=d.n.length:=Ϗ _;refine⟨by rw[D];exact h.pos,by rw[D];exact h.accL,h.parts.z,λs hs=>?_⟩;rw[D] at hs;refine⟨by rw[Ql,Ϗ];exact h.row s hs,λk E=>?_⟩;rw[Aku,D];have:=h.tgt s hs k E;exact⟨by omega,by omega⟩
theorem Ab6 (z:Dz) (r:Bool) (hr:r=Ξ↔K8 z) (v:Ρ) (w:Κ) (h:IsDz w v z) :
  Ϝ Η 96 #[v] w λe w'=>e=ν (.bool r)/\Ext w w':=by
 obtain⟨vc,vn,va,rfl,hC,⟨vs,cb,hN,bj⟩,hA⟩:=h;have J:=Α hr;have bl:=Α hC;obtain⟨ac,cc,rfl⟩:=Sl.len hC;obtain⟨M,T,rfl⟩:=Sl.len hN;obtain⟨U,ca,rfl⟩:=SlW.len hA;have bm:=Α hN;have ax:=Α bj;have cd:z.n.length<=4611686018427387904:=hN.1;clear hC hN hA bj hr;obtain⟨n,hn⟩:∃ n,z.n.length=n:=⟨_,rfl⟩;obtain⟨m,hm⟩:∃ n,z.cls.length=n:=⟨_,rfl⟩;obtain⟨G,ay⟩:∃ n,z.acc.length=n:=⟨_,rfl⟩;have I:=Α hn;have HM:=Α hm;have bo:=Α ay;rw[hn] at bm ax cd;rw[hm] at bl;rw[hn,hm,ay];clear hn hm ay cb;have az:=(Ι w).alloc (Ε #[Β ac m cc,Β M n T,Β U G ca] 30);have H0:=Ab w (Ε #[Β ac m cc,Β M n T,Β U G ca] 30);obtain⟨p,hp⟩:∃ p:Bool,(p=Ξ↔La z.cls):=by
  by_cases h:La z.cls
  ·exact⟨Ξ,by simp[h]⟩
  ·exact⟨Τ,by simp[h]⟩
 have HP:=Α hp;clear hp;go_enter Tryz.func96,Tryz.ntmps96;go_upto_region 1 with (fail)
 obtain⟨w1,a1⟩:∃ W,w.alloc (Ε #[Β ac m cc,Β M n T,Β U G ca] 30)=W:=⟨_,rfl⟩;obtain⟨g0,a6⟩:∃ y,w.heap.size=y:=⟨_,rfl⟩;rw[a1] at az H0;rw[a6] at H0;simp only[a1,a6];clear a1 a6;have bq:=Α (λW (hW:Ext w1 W)=>Ay (hW.heap H0) (show (#[Β ac m cc,Β M n T,Β U G ca]:Array Ρ)[0]? = Δ (Β ac m cc) from rfl));have a8:=Α (λW (hW:Ext w1 W)=>Ay (hW.heap H0) (show (#[Β ac m cc,Β M n T,Β U G ca]:Array Ρ)[1]? = Δ (Β M n T) from rfl));have k1:=a8.out w1 (Ι w1);have k2:=Ay H0 (show (#[Β ac m cc,Β M n T,Β U G ca]:Array Ρ)[2]? = Δ (Β U G ca) from rfl);have k0:=bq.out w1 (Ι w1);have D:=Α az;clear H0 az;by_cases h1:n<1
 ·obtain rfl:=Ek J.out (λh=>absurd h.1 (by rw[I.out];omega));have e1:decide ((n:Int)<1)=Ξ:=by simp;omega
  go_wp2;go_ret;exact⟨rfl,D.out⟩
 ·have e1:decide ((n:Int)<1)=Τ:=by simp;omega
  by_cases h2:G=n
  ·have e2:((G:Int) != (n:Int))=Τ:=by simp;omega
   have f132:=Α (Ae4 z.cls p HP.out (Β ac m cc) w1 (by
    have:=bl.out.ext D.out;rw[<-HM.out] at this ⊢;exact this))
   cases p with
   | false=>
    obtain rfl:=Ek J.out (λh=>by have:=HP.out.2 h.2.2.1;cases this);go_wp2_with (first
     | (go_at_call 132;(with_reducible refine f132.out.mono ?_);rintro e w2 ⟨rfl,ao⟩))
    go_ret;exact⟨rfl,D.out.trans ao⟩
   | true=>
    have ba:=Α (HP.out.1 rfl);clear HP;go_wp2_with (first
     | (go_at_call 132;(with_reducible refine f132.out.mono ?_);rintro e w2 ⟨rfl,ao⟩))
    clear f132 k0 k1 k2 e1 e2;obtain⟨bn,on,df,cj,bx⟩:=ä bm.out (by omega);injection cj with ck cl cm
    subst ck;clear cl;have bz:=Α bx;clear bx cm;go_loopw [4] (λvi W=>∃ s:Nat,s<=n/\vi=.int ζ s/\Ext w1 W/\Ϻ (∀ q,q<s->(z.n.getD q []).length=m/\∀ k,k<m->0<=Eq z q k/\Eq z q k<n))
     (λvi _=>n-(intOf vi).toNat)
    case atStart=>exact⟨0,by omega,rfl,ao,Α λq hq=>by omega⟩
    case round=>
     clear ao;obtain⟨s,hs,rfl,E,HQ⟩:=hrel;by_cases ah:s<n
     ·have dg:(s:Int)<(n:Int):=by omega
      go_upto_region 7 with (fail)
      have hd:=(Ι wr).drew;have af:=E.trans hd;have c0:=bq.out _ af;have c1:=a8.out _ af;have c2:=(D.out.trans af).cell (bz.out s (by omega));obtain⟨ar,cr,aj⟩:=SlW.len (ax.out s ah);rw[aj] at c2;obtain⟨H,bb⟩:∃ x,(z.n.getD s []).length=x:=⟨_,rfl⟩;rw[bb] at c2 aj;have au:=Α bb;have bc:=ax.out s ah;rw[aj] at bc;have cp:=Α bc;have cq:=Α aj;clear bb aj bc;by_cases b5:H=m
      ·have e3:((H:Int) != (m:Int))=Τ:=by simp;omega
       subst b5;have dm:1<=H:=by have:=ba.out.1;rw[HM.out] at this;exact this
       have dn:H<=256:=by have:=ba.out.2.1;rw[HM.out] at this;exact this
       obtain⟨br,cu,dp,cv,bd⟩:=SlW.form cp.out (by rw[au.out];omega);rw[au.out] at bd;injection cv with cw cx cy
       subst cw;clear cx cy;have cz:=Α bd;clear bd;go_region
       clear c0 c1 c2 e3;obtain⟨wo,be⟩:∃ W,wr.drew=W:=⟨_,rfl⟩;rw[be] at af hd;simp only[be];clear be;go_wp2_with (fail);go_loopw [5] (λvi W=>∃ k:Nat,k<=H/\vi=.int ζ k/\Ext w1 W/\Ϻ (∀ j,j<k->0<=Eq z s j/\Eq z s j<n))
        (λvi _=>H-(intOf vi).toNat)
       case atStart=>exact⟨0,by omega,rfl,af,Α λj hj=>by omega⟩
       case round=>
        clear af hd E;obtain⟨k,hk,rfl,E,HJ⟩:=hrel;have c1:=a8.out _ E;have c2:=(D.out.trans E).cell (bz.out s (by omega));rw[cq.out] at c2;by_cases b8:k<H
        ·have dt:(k:Int)<(H:Int):=by omega
         have ce:=(D.out.trans E).cell (cz.out k (by omega));obtain⟨x,hx⟩:∃ x,Eq z s k=x:=⟨_,rfl⟩;have HX:=Α hx;replace ce:wr.cell? ⟨br,cu+k,Γ⟩=Δ (.int ζ x):=by rw[<-hx];exact ce
         clear hx;by_cases c4:x<0
         ·have e4:decide (x<0)=Ξ:=by simp;omega
          obtain rfl:=Ek J.out (λh=>absurd c4 (by
           have:=((h.2.2.2 s (by rw[I.out];exact ah)).2 k (by rw[HM.out];exact b8)).1;rw[HX.out] at this;omega))
          go_wp2;go_ret;exact⟨rfl,D.out.trans E⟩
         ·have e4:decide (x<0)=Τ:=by simp;omega
          by_cases c6:(n:Int)<=x
          ·have e5:decide ((n:Int)<=x)=Ξ:=by simp;omega
           obtain rfl:=Ek J.out (λh=>absurd c6 (by
            have:=((h.2.2.2 s (by rw[I.out];exact ah)).2 k (by rw[HM.out];exact b8)).2;rw[HX.out,I.out] at this;omega))
           go_wp2;go_ret;exact⟨rfl,D.out.trans E⟩
          ·have e5:decide ((n:Int)<=x)=Τ:=by simp;omega
           have c8:Ϻ (∀ j,j<k+1->0<=Eq z s j/\Eq z s j<n):=Α λj hj=>by
            by_cases e:j=k
            ·rw[e,HX.out];omega
            ·exact HJ.out j (by omega)
           go_wp2;go_roundw
           case rel=>exact⟨k+1,by omega,by go_num,E,c8⟩
           case measure=>simp[intOf];omega
        ·obtain rfl:k=H:=by omega
         have c9:Ϻ (∀ q,q<s+1->(z.n.getD q []).length=k/\∀ j,j<k->0<=Eq z q j/\Eq z q j<n):=Α λq hq=>by
          by_cases e:q=s
          ·rw[e];exact⟨au.out,HJ.out⟩
          ·exact HQ.out q (by omega)
         go_wp2;go_roundw
         case rel=>exact⟨s+1,by omega,by go_num,E,c9⟩
         case measure=>simp[intOf];omega
      ·have e3:((H:Int) != (m:Int))=Ξ:=by simp;omega
       obtain rfl:=Ek J.out (λh=>b5 (by
        have:=(h.2.2.2 s (by rw[I.out];exact ah)).1;rw[au.out,HM.out] at this;exact this))
       go_region
       go_wp2;go_ret;exact⟨rfl,D.out.trans af⟩
     ·obtain rfl:s=n:=by omega
      obtain rfl:r=Ξ:=J.out.2 ⟨by rw[I.out];omega,by rw[bo.out,I.out];exact h2,ba.out,λq hq=>by
       rw[I.out] at hq ⊢;rw[HM.out];exact HQ.out q hq⟩
      go_wp2;go_ret;exact⟨rfl,D.out.trans E⟩
  ·have e2:((G:Int) != (n:Int))=Ξ:=by simp;omega
   obtain rfl:=Ek J.out (λh=>h2 (by
    have:=h.2.1;rw[I.out,bo.out] at this;exact this))
   go_wp2;go_ret;exact⟨rfl,D.out⟩
def Anj (z:Dz):Prop:=z.n.length<=64/\K8 z
theorem IsDz.agg {W:Κ} {v:Ρ} {z:Dz} (h:IsDz W v z):∃ ac I cc D E G J H,v=.agg (dA (Β ac I cc) (Β D z.n.length E) (Β G J H)):=by
 obtain⟨vc,vn,va,rfl,M,⟨vs,_,T,_⟩,U⟩:=h;obtain⟨ac,cc,rfl⟩:=Sl.len M;obtain⟨D,E,rfl⟩:=Sl.len T;obtain⟨G,H,rfl⟩:=SlW.len U;exact⟨_,_,_,_,_,_,_,_,rfl⟩
theorem Aam (z:Dz) (r:Bool) (U:r=Ξ↔Anj z) (v:Ρ) (w:Κ) (h:IsDz w v z) :
  Ϝ Η 50 #[v] w λe w'=>e=ν (.bool r)/\Ext w w':=by
 have HD:=Α h;have H:=Α U;obtain⟨p,hp⟩:∃ p:Bool,(p=Ξ↔K8 z):=by
  by_cases h:K8 z
  ·exact⟨Ξ,by simp[h]⟩
  ·exact⟨Τ,by simp[h]⟩
 have I:=Α hp;have aj:z.n.length<=4611686018427387904:=by
  obtain⟨_,_,_,_,_,⟨_,_,hN,_⟩,_⟩:=h;exact hN.1
 obtain⟨ac,lc,cc,an,cn,aa,la,ca,rfl⟩:=h.agg;obtain⟨V,E⟩:∃ X,dA (Β ac lc cc) (Β an z.n.length cn) (Β aa la ca)=X:=⟨_,rfl⟩;have ag:V[1]? = Δ (Β an z.n.length cn):=by rw[<-E];rfl
 have hi:(Η.info? 30).map (·.size)=Δ V.size:=by rw[<-E];exact Ad
 rw[E] at HD ⊢;have G:=(Ι w).alloc (Ε V 30);have D:=Ab w (Ε V 30);clear h hp U E;obtain⟨J,M⟩:∃ n,z.n.length=n:=⟨_,rfl⟩;have ah:=Α M;rw[M] at ag aj;clear M;have f96:=λW (hW:Ext w W)=>Α (Ab6 z p I.out _ W (HD.out.ext hW))
 go_enter Tryz.func50,Tryz.ntmps50;go_upto_region 1 with (fail)
 obtain⟨w1,T⟩:∃ X,w.alloc (Ε V 30)=X:=⟨_,rfl⟩;rw[T] at G D;simp only[T];clear T;have c1:=Ay D ag;have D:=Α D;have f96:=f96 w1 G;by_cases ai:J<=64
 ·have aw:(J:Int)<=64:=by omega
  obtain rfl:r=p:=by
   cases r with
   | true=>exact ((I.out.2 (H.out.1 rfl).2)).symm
   | false=>
    cases p with
    | false=>rfl
    | true=>exact H.out.2 ⟨by rw[ah.out];exact ai,I.out.1 rfl⟩
  go_wp2_with (first
   | (refine Jn rfl 30 (η 1) rfl _ rfl _ _ _ _ D.out Ν rfl hi ?_)
   | (go_at_call 96;(with_reducible refine f96.out.mono ?_);rintro e w2 ⟨rfl,ax⟩))
  go_ret;exact⟨rfl,G.trans ax⟩
 ·obtain rfl:=Ek H.out (λh=>ai (by rw[<-ah.out];exact h.1));have aw:¬ (J:Int)<=64:=by omega
  go_wp2;go_ret;exact⟨rfl,G⟩
theorem Gx (d:Dfa) (hv:Val d) (hn:d.n.length<=64) (v:Ρ) (w:Κ) (h:IsD w v d) :
  Ϝ Η 50 #[v] w λe w'=>e=ν (.bool Ξ)/\Ext w w':=
 Aam (dz d) Ξ ⟨λ_=>⟨by show (d.n.map _).length<=64;rw[Ϗ];exact hn,hv.z⟩,λ_=>rfl⟩ v w h.dz
theorem Ane (t:Tbl) (hv:TVal t) (A:Array Ρ) (hs:0<t.n.length) (l:List UInt8) (u:Ρ) (w:Κ) (h:IsR w A t) (D:By w u l) :
  Ϝ Η 53 #[.agg A,.int ζ 0,u] w λe w'=>e=ν (iv (t.run 0 l))/\Ext w w':=Anf t hv A 0 hs l u w h D
theorem Ad7 (d:Dfa) (hv:Val d) (hn:d.n.length<=64) (v:Ρ) (l:List UInt8) (u:Ρ) (w:Κ) (h:IsD w v d) (hb:By w u l) :
  Ϝ Η 15 #[v,u] w λe w'=>∃ r,ResOf w' e (Δ r)/\Cano r/\(∀ x,r.has x=d.has (l++x))/\Ext w w':=by
 have HD:=Α h;have b7:=Α hb;have f50:=λW (T:Ext w W)=>Α (Gx d hv hn _ W (HD.out.ext T))
 have f51:=λW (T:Ext w W)=>Α (J5 d hv hv.parts.le _ W (HD.out.ext T))
 have ae:=Α (Bm hv);have HV:=Α hv;have bj:=Α (Sd d);obtain⟨ac,lc,cc,an,cn,aa,la,ca,rfl⟩:=h.agg;obtain⟨V,U⟩:∃ X,dA (Β ac lc cc) (Β an d.n.length cn) (Β aa la ca)=X:=⟨_,rfl⟩;have hi:(Η.info? 30).map (·.size)=Δ V.size:=by rw[<-U];exact Ad
 rw[U] at HD f50 f51 ⊢;have ao:=((Ι w).alloc (Ε V 30)).alloc (Ε #[Β Γ 0 0,Β Γ 0 0,Β Γ 0 0] 30);have H0:=Ag (Ab w (Ε V 30)) (Ε #[Β Γ 0 0,Β Γ 0 0,Β Γ 0 0] 30);have H1:=Ϙ w (Ε V 30) (Ε #[Β Γ 0 0,Β Γ 0 0,Β Γ 0 0] 30);obtain⟨ub,uc,rfl⟩:=hb.len;clear h hb U;go_enter Tryz.func15,Tryz.ntmps15;go_upto_region 1 with (fail)
 obtain⟨w1,aq⟩:∃ X,(w.alloc (Ε V 30)).alloc (Ε #[Β Γ 0 0,Β Γ 0 0,Β Γ 0 0] 30)=X:=⟨_,rfl⟩;rw[aq] at ao H0 H1;simp only[aq];clear aq;obtain⟨g2,ar⟩:∃ y,w.heap.size=y:=⟨_,rfl⟩;obtain⟨g4,au⟩:∃ y,g2+1=y:=⟨_,rfl⟩;have ck:Ϻ (w.heap.size<=g4):=Α (by omega);rw[ar] at H0 H1;rw[au] at H1;simp only[ar,au];clear ar au;have ad:=Α H0;have E:=Α H1;have aw:=Α ao;clear H0 H1 ao;go_upto_region 3 with (first
  | (refine Υ rfl 30 (η 2) rfl _ rfl _ _ _ _ ad.out Ν rfl hi ?_)
  | (go_at_call 50;(with_reducible refine (f50 _ aw.out).out.mono ?_);rintro e w2 ⟨rfl,ag⟩;have ax:=Α (aw.out.trans ag);have ad:=Α (ag.heap ad.out);have E:=Α (ag.heap E.out);clear ag))
 go_upto_region 4 with (first
  | (refine Υ rfl 30 (η 2) rfl _ rfl _ _ _ _ ad.out Ν rfl hi ?_)
  | (go_at_call 51;(with_reducible refine (f51 _ ax.out).out.mono ?_);rintro e G ⟨A,rfl,hA,az⟩;have bl:=Α (ax.out.trans az);have E:=Α (az.heap E.out);have HA:=Α hA;clear az;obtain⟨_,_,_,_,_,_,bm,cl,_⟩:=hA.opened ae.out;have bn:(Η.info? 79).map (·.size)=Δ A.size:=(by rw[bm];exact Cp);have bo:ϖ.size=A.size:=(by rw[Fe,bm]))
  | (refine Φ rfl 79 (η 6) (η 12) rfl _ A rfl rfl _ _ (Ab G _) bn bo cl ?_))
 have I:=((Ι G).alloc (Ε ϖ 79)).setRow (θ _) A;have J:=μ (G.alloc (Ε ϖ 79)) G.heap.size _ A _ _ (Ab G _);obtain⟨w4,ai⟩:∃ X,(G.alloc (Ε ϖ 79)).setRow G.heap.size A=X:=⟨_,rfl⟩;obtain⟨g6,a1⟩:∃ y,G.heap.size=y:=⟨_,rfl⟩;rw[a1] at ai J I;rw[ai] at I J;simp only[a1];simp only[ai];clear ai a1 hA bo f50 f51;have br:=Α (bl.out.trans I);have E:=Α (I.heap E.out);have HA:=Α (HA.out.ext I);have J:=Α J;have bt:0<(Ae d).n.length:=HV.out.pos;have hd:=(Ι w4).drew;have aj:=hd.heap J.out;clear ax bl aw ad I;refine B0 6 [(0,Ξ),(1,Ξ),(2,Ξ),(3,Τ),(4,Τ),(5,Τ),(6,Τ)] (by kernel_rfl) (by kernel_rfl) (λ_ _ _ _ h=>h)
  (λW=>W.heap[g6]? = Δ (Ε A 79 (0,0))) aj ?_
 obtain⟨wq,a6⟩:∃ X,w4.drew=X:=⟨_,rfl⟩;rw[a6] at hd aj;rw[a6];clear a6;iterate 2
  refine Ao (v:=.agg A) rfl rfl (λW T=>D2 79 (η 6) rfl _ rfl _ _ _ _ T Â rfl bn) ?_;simp only[Ϛ,Θ,Χ,Ψ]
 refine Ao (v:=?_) rfl rfl (λV U=>?_) ?_
 rotate_left
 ·clear U;go_simp;first|done|with_reducible rfl
 simp only[Ϛ,Θ,Χ,Ψ];refine A4 rfl (λH D=>?_);go_simp;with_reducible refine (Ane (Ae d) ae.out A bt l _ wq (HA.out.ext hd) (b7.out.ext (br.out.trans hd))).mono ?_
 rintro e w5 ⟨rfl,a7⟩;have bu:=hd.trans a7;refine D _ _ (λ_=>a7.heap aj) ?_;clear D H;have bw:=ae.out.run_lt l bt;have HS:Ϻ ((Ae d).run 0 l=d.run 0 l):=Α (bj.out l 0);have cq:(Ae d).n.length<=65535:=by show d.n.length<=_;omega
 obtain⟨s,hs⟩:∃ x,(Ae d).run 0 l=x:=⟨_,rfl⟩;rw[hs] at bw HS;simp only[hs];clear hs;refine A4 rfl (λH D=>?_);go_simp;with_reducible refine (Ajn (Ae d) ae.out cq A s bw w5 (HA.out.ext bu)).mono ?_
 rintro e w6 ⟨v6,d6,rfl,bz,b0,ct,b4⟩;have b5:=bu.trans b4;have b6:=b4.heap (a7.heap aj);have cu:g6≠g4:=λe=>by
  have M:=E.out;rw[<-e,J.out] at M;injection M with M
  injection M with _ M
  cases M
 refine D _ _ (λ_=>b6) ?_;clear D H;obtain⟨a8,ba,bb,bc,bd,be,bf,bg,rfl⟩:=bz.agg;have bh:=Α (b5.heap E.out);refine A4 rfl (λH D=>?_);refine Gc 30 (η 4) (η 17) rfl rfl _ (dA (Β a8 ba bb) (Β bc d6.n.length bd) (Β be bf bg)) rfl rfl _ _ bh.out Ad rfl (Ap _ _ _ rfl rfl rfl) ?_;refine D _ _ (λ_=>(setRow_other _ _ _ _ cu).trans b6) ?_;clear D H;refine A4 rfl (λH D=>?_);go_simp;refine D _ _ (λh=>absurd h (by omega)) ?_;clear D H;refine B2 ?_;go_wp2;refine ϋ (v:=.tuple #[.agg (dA (Β a8 ba bb) (Β bc d6.n.length bd) (Β be bf bg)),.int ζ 0]) (Ba rfl _ _ _ _ _ _ _ rfl _ rfl (μ w6 _ _ (dA (Β a8 ba bb) (Β bc d6.n.length bd) (Β be bf bg)) 30 (0,0) bh.out) Ν rfl Ad) rfl ?_;exact⟨d6,⟨_,rfl,bz.setRow b0.val bh.out _⟩,b0,λx=>by
  rw[ct];show (Ae d).ok ((Ae d).run s x)=d.ok (d.run 0 (l++x));rw[bj.out,B6,HS.out];rfl,(br.out.trans b5).setRow ck.out _⟩
def AtW (t:Tbl) (s i q:Nat):Prop:=∃ w:List UInt8,w.length=i/\t.run s w=q
structure TgI (t:Tbl) (Z:List Bool) (q k:Nat) (X:List Bool):Prop where
 len:X.length=t.n.length
 at_:∀ p,X.getD p Τ=Ξ↔(∃ q' k',q'<q/\Z.getD q' Τ=Ξ/\k'<t.cells/\t.ent2 q' k'=p)\/∃ k',k'<k/\Z.getD q Τ=Ξ/\t.ent2 q k'=p
theorem Aa0 (t:Tbl) (Z:List Bool):TgI t Z 0 0 (δ t.n.length Τ) where
 len:=Î
 at_:=λp=>by
  have:(δ t.n.length Τ).getD p Τ=Τ:=by
   rw[Ζ,ϧ];split<;>rfl
  rw[this];constructor
  ·intro h;cases h
  ·rintro (⟨q',_,h,_⟩|⟨k',h,_⟩)<;>omega
theorem Aa3 {t:Tbl} (hv:TVal t) {Z X:List Bool} {q k:Nat} (h:TgI t Z q k X) (H:q<t.n.length) (I:k<t.cells) (J:Z.getD q Τ=Ξ):TgI t Z q (k+1) (X.set (t.ent2 q k) Ξ) where
 len:=by rw[List.length_set];exact h.len
 at_:=λp=>by
  rw[Bb _ _ _ _ _ (by rw[h.len];exact hv.tgt q H k I)];by_cases e:p=t.ent2 q k
  ·rw[if_pos e];exact⟨λ_=>.inr ⟨k,by omega,J,e.symm⟩,λ_=>rfl⟩
  ·rw[if_neg e,h.at_ p];constructor
   ·rintro (D|⟨k',D,E⟩)
    ·exact .inl D
    ·exact .inr ⟨k',by omega,E⟩
   ·rintro (D|⟨k',D,E,G⟩)
    ·exact .inl D
    ·refine .inr ⟨k',?_,E,G⟩;have:k'≠k:=λM=>e (by rw[<-G,M])
     omega
theorem Aa1 {t:Tbl} {Z X:List Bool} {q k:Nat} (h:TgI t Z q k X) (E:Z.getD q Τ=Τ):TgI t Z (q+1) 0 X where
 len:=h.len
 at_:=λp=>by
  rw[h.at_ p];constructor
  ·rintro (⟨q',k',G,D⟩|⟨k',_,D,_⟩)
   ·exact .inl ⟨q',k',by omega,D⟩
   ·rw[E] at D;cases D
  ·rintro (⟨q',k',G,D⟩|⟨k',G,_⟩)
   ·refine .inl ⟨q',k',?_,D⟩;have:q'≠q:=λe=>by rw[e,E] at D;cases D.1
    omega
   ·omega
theorem Aa2 {t:Tbl} {Z X:List Bool} {q:Nat} (h:TgI t Z q t.cells X) (I:Z.getD q Τ=Ξ):TgI t Z (q+1) 0 X where
 len:=h.len
 at_:=λp=>by
  rw[h.at_ p];constructor
  ·rintro (⟨q',k',E,D⟩|⟨k',E,D,G⟩)
   ·exact .inl ⟨q',k',by omega,D⟩
   ·exact .inl ⟨q,k',by omega,D,E,G⟩
  ·rintro (⟨q',k',E,D,G,H⟩|⟨k',E,_⟩)
   ·by_cases e:q'=q
    ·subst e;exact .inr ⟨k',G,D,H⟩
    ·exact .inl ⟨q',k',by omega,D,G,H⟩
   ·omega
theorem Aa4 {t:Tbl} (hv:TVal t) {Z X:List Bool} {s i:Nat} (hs:s<t.n.length) (h:TgI t Z t.n.length 0 X) (E:∀ q,Z.getD q Τ=Ξ↔AtW t s i q) (p:Nat):X.getD p Τ=Ξ↔AtW t s (i+1) p:=by
 rw[h.at_ p];constructor
 ·rintro (⟨q',k',G,H,I,J⟩|⟨k',G,_⟩)
  ·obtain⟨w,D,rfl⟩:=(E q').1 H;obtain⟨b,M,rfl⟩:=hv.onto k' I;exact⟨w++[χ b],by simp[D],by rw[Fr,u8n b M];exact J⟩
  ·omega
 ·rintro⟨w,D,rfl⟩;rcases List.eq_nil_or_concat w with rfl|⟨w',x,rfl⟩
  ·simp at D
  ·rw[List.concat_eq_append] at D ⊢;rw[Fr];refine .inl ⟨t.run s w',t.cell x.toNat,hv.run_lt w' hs,(E _).2 ⟨w',by simpa using D,rfl⟩,hv.cell_lt _ x.toNat_lt,rfl⟩
theorem Amy {t:Tbl} {s:Nat} (hs:s<t.n.length) (q:Nat):((δ t.n.length Τ).set s Ξ).getD q Τ=Ξ↔AtW t s 0 q:=by
 rw[Bb _ _ _ _ _ (by rw[Î];exact hs)];have:(δ t.n.length Τ).getD q Τ=Τ:=by
  rw[Ζ,ϧ];split<;>rfl
 rw[this];constructor
 ·intro h;split at h
  ·rename_i e;exact⟨[],rfl,e.symm⟩
  ·cases h
 ·rintro⟨w,D,rfl⟩;obtain rfl:w=[]:=Ñ D;exact if_pos rfl
theorem Tv (t:Tbl) (hv:TVal t) (hn:t.n.length<=65536) (A:Array Ρ) (s n:Nat) (hs:s<t.n.length) (c6:n<=64) (r:Bool) (hr:r=Ξ↔∃ w:List UInt8,w.length=n/\t.ok (t.run s w)=Ξ) (w:Κ) (h:IsR w A t) :
  Ϝ Η 108 #[.agg A,.int ζ s,.int ζ n] w λe w'=>e=ν (.bool r)/\Ext w w':=by
 obtain⟨bn,on,cn,ba,oa,ca,b8,b9,cb,az,a1,a6,a7⟩:=h.opened hv;obtain⟨i4,bb,bc,bd,be⟩:=ϕ Dt;have dd:=hv.cle;have de:=hv.pos;have ah:=(Ι w).alloc (Ε A 79);have H0:=Ab w (Ε A 79);have HR:=Α hr;have HV:=Α hv;have cd:=Α (λW (I:Ext w W)=>a6.ext I);have cf:=Α (λW (I:Ext w W) s (hs:s<t.n.length)=>I.cell (a7 s hs));have df:(s:Int)<(t.n.length:Int):=by omega
 clear h hv hr a6 a7 cb b9 b8;go_enter Tryz.func108,Tryz.ntmps108;go_upto_region 1 with (fail)
 obtain⟨w1,ai⟩:∃ X,w.alloc (Ε A 79)=X:=⟨_,rfl⟩;obtain⟨g3,aj⟩:∃ y,w.heap.size=y:=⟨_,rfl⟩;rw[ai] at ah H0;rw[aj] at H0;simp only[ai,aj];clear ai aj;have bg:=Α (λW (I:Ext w1 W)=>Ay (I.heap H0) az);have cg:=Α (λW (I:Ext w1 W)=>Ay (I.heap H0) a1);have ad:=Α ah;have k1:=bg.out w1 (Ι w1);clear ah H0 az a1;go_upto_region 2 with (at_make;refine ϫ _ rfl _ _ 28 rfl w1.heap.size 4 i4 (.bool Τ) 1 Ã bb bc bd ζ ζ _ _ t.n.length rfl rfl rfl rfl (by rw[be];omega) (by unfold ϙ;omega) (θ _) ?_;intro w2 bh bj)
 have D:=(Hp.nil w1).made (show w2.ownsRow w1.heap.size 4 1 (Β (Δ ⟨w1.heap.size,0,Γ⟩) t.n.length t.n.length) t.n.length ((δ t.n.length Τ).map ο) by rw[<-B7];exact bh) bj;obtain⟨ga,ak⟩:∃ y,w1.heap.size=y:=⟨_,rfl⟩;rw[ak] at D;simp only[ak];clear ak bh bj k1;have co:=Am Τ (D.row 0 rfl) (by simp) s (by simpa using hs);have fo:=(D.row 0 rfl).frozenAt s;have G:=D.putf 0 rfl s Ξ;have bk:=Α (Amy hs);clear D;go_wp2_with (fail);clear co fo;go_loopw [7,8] (λvc vi W=>∃ (Z:List Bool) (g i:Nat),i<=n/\vc=Β (Δ ⟨g,0,Γ⟩) t.n.length t.n.length/\vi=.int ζ i/\Hp w1 W [.row 4 1 (Β (Δ ⟨g,0,Γ⟩) t.n.length t.n.length) t.n.length (Z.map ο)]/\Ϻ (Z.length=t.n.length/\∀ q,Z.getD q Τ=Ξ↔AtW t s i q))
  (λ_ vi _=>n-(intOf vi).toNat)
 case atStart=>exact⟨_,ga,0,by omega,rfl,rfl,G,Α ⟨by simp,bk.out⟩⟩
 case round=>
  clear G bk;obtain⟨Z,gz,i,dh,rfl,rfl,D,J⟩:=hrel;by_cases dk:i<n
  ·have dm:(i:Int)<(n:Int):=by omega
   have bm:=D.size;go_upto_region 7 with (at_make;refine ϫ _ rfl _ _ 28 rfl w1.heap.size 4 i4 (.bool Τ) 1 Ã bb bc bd ζ ζ _ _ t.n.length rfl rfl rfl rfl (by rw[be];omega) (by unfold ϙ;omega) bm ?_;intro w4 bo bp)
   have G:=D.made (show w4.ownsRow w1.heap.size 4 1 (Β (Δ ⟨wr.heap.size,0,Γ⟩) t.n.length t.n.length) t.n.length ((δ t.n.length Τ).map ο) by rw[<-B7];exact bo) bp;obtain⟨gx,ao⟩:∃ y,wr.heap.size=y:=⟨_,rfl⟩;rw[ao] at G;simp only[ao];clear ao bo bp D bm;go_wp2_with (fail);go_loopw [10] (λM W=>∃ (X:List Bool) (q:Nat),q<=t.n.length/\M=.int ζ q/\Hp w1 W [.row 4 1 (Β (Δ ⟨gx,0,Γ⟩) t.n.length t.n.length) t.n.length (X.map ο),.row 4 1 (Β (Δ ⟨gz,0,Γ⟩) t.n.length t.n.length) t.n.length (Z.map ο)]/\Ϻ (TgI t Z q 0 X))
    (λM _=>t.n.length-(intOf M).toNat)
   case atStart=>exact⟨_,0,by omega,rfl,G,Α (Aa0 t Z)⟩
   case round=>
    clear G;obtain⟨X,q,hq,rfl,D,E⟩:=hrel;by_cases T:q<t.n.length
    ·have ct:(q:Int)<(t.n.length:Int):=by omega
     obtain⟨br,dp,cr,bq,bt⟩:=cd.out w (Ι w) q T;have cu:=Α bq;have cv:=Α bt;clear bq bt;obtain⟨b,hb⟩:∃ b,Z.getD q Τ=b:=⟨_,rfl⟩;have U:=Α hb;clear hb;go_wp2_with (fail);go_loopw [11] (λvk W=>∃ (X:List Bool) (k:Nat),k<=t.cells/\vk=.int ζ k/\Hp w1 W [.row 4 1 (Β (Δ ⟨gx,0,Γ⟩) t.n.length t.n.length) t.n.length (X.map ο),.row 4 1 (Β (Δ ⟨gz,0,Γ⟩) t.n.length t.n.length) t.n.length (Z.map ο)]/\Ϻ (TgI t Z q k X))
      (λvk _=>t.cells-(intOf vk).toNat)
     case atStart=>exact⟨X,0,by omega,rfl,D,E⟩
     case round=>
      clear D E;obtain⟨X,k,hk,rfl,D,E⟩:=hrel;have cz:=Am Τ (D.row 1 rfl) J.out.1.symm q (by rw[J.out.1];exact T);rw[U.out] at cz;cases b with
      | false=>
       have H:=Α (Aa1 E.out U.out);clear E;go_wp2;go_roundw
       case rel=>exact⟨X,q+1,by omega,by go_num,D,H⟩
       case measure=>simp[intOf];omega
      | true=>
       have c1:=bg.out wr D.ext;have c2:=(ad.out.trans D.ext).cell cu.out;by_cases au:k<t.cells
       ·have dv:(k:Int)<(t.cells:Int):=by omega
        have H:=Α (Aa3 HV.out E.out T au U.out);have bu:=Α E.out.len;have ce:=(ad.out.trans D.ext).cell (cv.out k au);have bw:=HV.out.tgt q T k au;obtain⟨x,hx⟩:∃ x,t.ent2 q k=x:=⟨_,rfl⟩;rw[hx] at ce bw H;clear hx;have dw:(x:Int)<(t.n.length:Int):=by omega
        have cx:=Am Τ (D.row 0 rfl) bu.out.symm x (by rw[bu.out];exact bw);have fx:=(D.row 0 rfl).frozenAt x;have G:=D.putf 0 rfl x Ξ;clear D E;go_wp2;go_roundw
        case rel=>exact⟨_,k+1,by omega,by go_num,G,H⟩
        case measure=>simp[intOf];omega
       ·obtain rfl:k=t.cells:=by omega
        have H:=Α (Aa2 E.out U.out);clear E;go_wp2;go_roundw
        case rel=>exact⟨X,q+1,by omega,by go_num,D,H⟩
        case measure=>simp[intOf];omega
    ·obtain rfl:q=t.n.length:=by omega
     have H:Ϻ (X.length=t.n.length/\∀ q,X.getD q Τ=Ξ↔AtW t s (i+1) q):=Α ⟨E.out.len,Aa4 HV.out hs E.out J.out.2⟩;have cy:=D.swap.tail;clear D E;go_wp2;go_roundw
     case rel=>exact⟨X,gx,i+1,by omega,rfl,by go_num,cy,H⟩
     case measure=>simp[intOf];omega
  ·obtain rfl:i=n:=by omega
   go_wp2_with (fail);go_loopw [12] (λM W=>∃ q:Nat,q<=t.n.length/\M=.int ζ q/\Ext wr W/\Ϻ (∀ p,p<q->¬ (Z.getD p Τ=Ξ/\t.ok p=Ξ)))
    (λM _=>t.n.length-(intOf M).toNat)
   case atStart=>exact⟨0,by omega,rfl,Ι wr,Α λp hp=>by omega⟩
   case round=>
    obtain⟨wo,c4⟩:∃ W,W=wr:=⟨_,rfl⟩;subst c4;obtain⟨q,hq,rfl,hE,HQ⟩:=hrel;have ae:=D.extW hE;by_cases T:q<t.n.length
    ·have ct:(q:Int)<(t.n.length:Int):=by omega
     have cz:=Am Τ (ae.row 0 rfl) J.out.1.symm q (by rw[J.out.1];exact T);have ea:=cg.out wo ae.ext;have ck:=cf.out wo (ad.out.trans ae.ext) q T;obtain⟨b,hb⟩:∃ b,Z.getD q Τ=b:=⟨_,rfl⟩;obtain⟨b2,aw⟩:∃ b,t.ok q=b:=⟨_,rfl⟩;rw[hb] at cz;rw[aw] at ck;have U:=Α hb;have b5:=Α aw;clear hb aw;by_cases af:b=Ξ/\b2=Ξ
     ·obtain⟨rfl,rfl⟩:=af;obtain rfl:r=Ξ:=HR.out.2 (by
       obtain⟨u,hu,e⟩:=(J.out.2 q).1 U.out;exact⟨u,hu,by rw[e];exact b5.out⟩)
      have ax:=ad.out.trans ae.ext;go_wp2;go_ret;exact⟨rfl,ax⟩
     ·have b6:Ϻ (∀ p,p<q+1->¬ (Z.getD p Τ=Ξ/\t.ok p=Ξ)):=Α λp hp=>by
       by_cases e:p=q
       ·rw[e,U.out,b5.out];exact af
       ·exact HQ.out p (by omega)
      have b7:=hE;cases b with
      | false=>
       clear af;go_wp2;go_roundw
       case rel=>exact⟨q+1,by omega,by go_num,b7,b6⟩
       case measure=>simp[intOf];omega
      | true=>
       cases b2 with
       | true=>exact absurd ⟨rfl,rfl⟩ af
       | false=>
        clear af;go_wp2;go_roundw
        case rel=>exact⟨q+1,by omega,by go_num,b7,b6⟩
        case measure=>simp[intOf];omega
    ·obtain rfl:q=t.n.length:=by omega
     obtain rfl:=Ek HR.out (by
      rintro⟨u,hu,e⟩;exact HQ.out _ (HV.out.run_lt u hs) ⟨(J.out.2 _).2 ⟨u,hu,rfl⟩,e⟩)
     have ax:=ad.out.trans ae.ext;go_wp2;go_ret;exact⟨rfl,ax⟩
theorem Ch.weak {b b':Nat} {W:Κ} {c:Ch} (h:c.At b W) (D:b'<=b):c.At b' W:=by
 cases c with
 | row e size v n xs=>exact L9 h D
 | obj g o=>exact⟨Nat.le_trans D h.1,h.2⟩
theorem Hp.join {w0 W W':Κ} {L G:List Ch} (h:Hp w0 W L) (E:Hp W W' G):Hp w0 W' (G++L):=by
 refine⟨h.ext.trans E.ext,λc D=>?_,List.pairwise_append.2 ⟨E.far,h.far,λc D d hd g H I=>?_⟩⟩
 ·rcases List.mem_append.1 D with D|D
  ·exact Ch.weak (E.at_ c D) h.ext.size
  ·exact Ch.kept (h.at_ c D) (E.ext.grownBy Γ) (λ_ _=>by simp)
 ·have:=(Ch.lt (E.at_ c D) g H).1;have:=(Ch.lt (h.at_ d hd) g I).2;omega
theorem Hp.sub {w0 W:Κ} {L D:List Ch} (h:Hp w0 W L) (hs:D.Sublist L):Hp w0 W D:=⟨h.ext,λc E=>h.at_ c (hs.subset E),h.far.sublist hs⟩
def Cq (D:List Ρ) (E:List (List UInt8)):List Ch:=List.zipWith (λv (l:List UInt8)=>Ch.row 5 1 v l.length (l.map bv)) D E
theorem Aab {D:List Ρ} {E:List (List UInt8)} (h:D.length=E.length) (v:Ρ) (l:List UInt8):Cq (D++[v]) (E++[l])=Cq D E++[.row 5 1 v l.length (l.map bv)]:=by
 unfold Cq;rw[List.zipWith_append h];rfl
theorem Ro {E:List Ρ} {D:List (List UInt8)} (h:E.length=D.length) (j:Nat) (G:j<D.length):(Cq E D)[j]? = Δ (.row 5 1 (E.getD j ς) (D.getD j []).length ((D.getD j []).map bv)):=by
 unfold Cq;rw[List.getElem?_zipWith,Μ (by omega),Μ G];simp[Ζ,G,h]
theorem Aac {E:List Ρ} {D:List (List UInt8)} (h:E.length=D.length):(Cq E D).length=D.length:=by
 unfold Cq;rw[List.length_zipWith,h,Nat.min_self]
def Som (E:List Ρ) (D:List (List UInt8)):Prop:=E.length=D.length/\∀ i,i<D.length->∃ g c,E.getD i ς=Β (Δ ⟨g,0,Γ⟩) (D.getD i []).length c
theorem Aca {E:List Ρ} {D:List (List UInt8)} (h:Som E D) (g c:Nat) (l:List UInt8):Som (E++[Β (Δ ⟨g,0,Γ⟩) l.length c]) (D++[l]):=by
 refine⟨by simp[h.1],λi hi=>?_⟩;rw[Ο,List.length_singleton] at hi;by_cases e:i<D.length
 ·rw[Bt _ _ _ _ e,Bt _ _ _ _ (by rw[h.1];exact e)];exact h.2 i e
 ·obtain rfl:i=D.length:=by omega
  refine⟨g,c,?_⟩;rw[Cm,<-h.1,Cm]
theorem Ajl (L:List UInt8->Bool) (n:Nat) {k k':Nat} (h:k<=k'):(Dm L n k).length<=(Dm L n k').length:=by
 induction h with
 | refl=>exact θ _
 | step _ D=>rw[I0,Ο];omega
theorem Ajm (L:List UInt8->Bool) (n b:Nat) (D:b<256):(Dm L n b).length+(Bp (λw=>L (χ b::w)) n).length<=A5 L (n+1):=by
 have:=Ajl L n (show b+1<=256 by omega);rw[I0,Ο,Ϗ,Ww] at this;exact this
theorem Zh (b o j:Nat):(⟨b,o,Γ⟩:Addr).add j=⟨b,o+j,Γ⟩:=by
 unfold Addr.add;by_cases D:j=0
 ·subst D;rfl
 ·simp[D]
theorem Ae0 (r o g:Ch) (A B:List Ch):(o::r::g::(A++B)).Perm ((r::A)++(o::g::B)):=by
 have D:((r::A)++(o::g::B)).Perm (o::((r::A)++(g::B))):=List.perm_middle;have E:(A++g::B).Perm (g::(A++B)):=List.perm_middle;exact (D.trans ((E.cons r).cons o)).symm
abbrev wfs (t:Tbl) (s n:Nat):List (List UInt8):=Bp (λu=>t.ok (t.run s u)) n
theorem Aae (t:Tbl) (hv:TVal t) (hn:t.n.length<=65536) (A:Array Ρ):∀ (n:Nat) (s:Nat) (w:Κ),n<=8->s<t.n.length->IsR w A t->A5 (λu=>t.ok (t.run s u)) n<=4096->
  Ϝ Η 65 #[.agg A,.int ζ s,.int ζ n] w λe w'=>∃ g c H,e=ν (Β (Δ ⟨g,0,Γ⟩) H.length c)/\Hp w w' (.row 22 1 (Β (Δ ⟨g,0,Γ⟩) H.length c) H.length H::Cq H (wfs t s n))/\Som H (wfs t s n):=by
 obtain⟨i5,ep,er,et,eu⟩:=ϕ (show (Η.info? 5).map (λi=>(i.zero,i.size,i.bytes))=Δ (Δ (.int .u8 0),1,1) by kernel_rfl);obtain⟨c2,c3,c4,c5,c6⟩:=ϕ (show (Η.info? 22).map (λi=>(i.zero,i.size,i.bytes))=Δ (Δ (Β Γ 0 0),1,24) by kernel_rfl);have HV:=Α hv;have fk:=hv.cle;clear hv;intro n;induction n with
 | zero=>
  intro s w _ hs h aw;obtain⟨_,_,_,_,_,_,a8,b0,_⟩:=h.opened HV.out;have ax:(Η.info? 79).map (·.size)=Δ A.size:=by rw[a8];exact Cp
  have D:=(Hp.nil w).new (Ε A 79);have ay:=λW (I:Ext w W)=>h.ext I
  obtain⟨r,hr⟩:∃ r:Bool,(r=Ξ↔∃ u:List UInt8,u.length=0/\t.ok (t.run s u)=Ξ):=by
   by_cases h:∃ u:List UInt8,u.length=0/\t.ok (t.run s u)=Ξ
   ·exact⟨Ξ,⟨λ_=>h,λ_=>rfl⟩⟩
   ·exact⟨Τ,⟨λh'=>(by cases h'),λh'=>absurd h' h⟩⟩
  have HR:=Α hr;have f108:=λW (I:Ext w W)=>Α (show Ϝ Η 108 #[.agg A,.int ζ s,.int ζ 0] W _ from Tv t HV.out hn A s 0 hs (by omega) r HR.out W (ay W I))
  show Ϝ Η 65 #[.agg A,.int ζ s,.int ζ 0] w _;clear h hr ay b0 a8;go_enter Tryz.func65,Tryz.ntmps65;go_upto_region 1 with (fail)
  obtain⟨w1,aj⟩:∃ X,w.alloc (Ε A 79)=X:=⟨_,rfl⟩;obtain⟨g3,ak⟩:∃ y,w.heap.size=y:=⟨_,rfl⟩;rw[aj,ak] at D;simp only[aj,ak];clear aj ak;have M:=D.lit 22 1 #[] 0 (by unfold ϙ;omega) rfl;go_upto_region 2 with (fail)
  obtain⟨w2,al⟩:∃ X,w1.alloc (Ε #[] 22)=X:=⟨_,rfl⟩;obtain⟨g7,an⟩:∃ y,w1.heap.size=y:=⟨_,rfl⟩;rw[al,an] at M;simp only[al,an];clear al an D;have HO:=Α (M.obj 1 rfl);have f108:=f108 w2 M.ext;cases r with
  | false=>
   have bc:wfs t s 0=[]:=Lg λu hu=>by
    rw[<-Bool.not_eq_true];exact λe=>by
     have:=HR.out.2 ⟨u,hu,e⟩;cases this
   go_wp2_with (first
    | (refine Υ rfl 79 (η 3) rfl _ rfl _ _ _ _ HO.out Â rfl ax ?_)
    | (go_at_call 108;(with_reducible refine f108.out.mono ?_);rintro e w3 ⟨rfl,ad⟩))
   go_ret;exact⟨g7,0,[],rfl,(by rw[bc];exact (M.extW ad).sub (List.Sublist.cons_cons _ (List.Sublist.cons _ List.Sublist.slnil))),(by rw[bc];exact⟨rfl,λi hi=>by simp at hi⟩)⟩
  | true=>
   have da:wfs t s 0=[[]]:=by
    obtain⟨u,hu,e⟩:=HR.out.1 rfl;obtain rfl:u=[]:=Ñ hu;show (if t.ok (t.run s []) then [[]] else [])=_;rw[if_pos e]
   have db:=Α da;clear HR da;go_upto_region 5 with (first
    | (refine Υ rfl 79 (η 3) rfl _ rfl _ _ _ _ HO.out Â rfl ax ?_)
    | (go_at_call 108;(with_reducible refine f108.out.mono ?_);rintro e w3 ⟨rfl,ad⟩))
   have bd:=(M.extW ad).lit 5 1 #[] 0 (by unfold ϙ;omega) rfl;have b5:=bd.alloc (Ε #[Β (Δ ⟨w3.heap.size,0,Γ⟩) 0 0] 22);have bl:=b5.size;have dc:=Ϫ (w3.alloc (Ε #[] 5)) (Β (Δ ⟨w3.heap.size,0,Γ⟩) 0 0) 22;rw[Λ] at dc;clear M bd f108 HO ad;go_wp2_with (at_builtin;refine ϐ _ rfl _ _ 38 rfl w.heap.size 22 c2 (Β Γ 0 0) 1 24 Tryz.underlying38 c3 c4 c5 c6 rfl (by decide) _ _ _ rfl (b5.row 1 rfl) _ 1 1 [Β (Δ ⟨w3.heap.size,0,Γ⟩) 0 0] rfl rfl dc (by simp[ϊ]) (by decide) (by unfold ϙ;omega) (by omega) bl _ rfl ?_;intro gq c7 w7 be bm bo _);have ag:=(b5.app 1 rfl be bm bo).swap;go_ret;exact⟨gq,c7,[Β (Δ ⟨w3.heap.size,0,Γ⟩) 0 0],rfl,(by rw[db.out];exact ag.sub (List.Sublist.cons_cons _ (List.Sublist.cons_cons _ (List.Sublist.cons _ List.Sublist.slnil)))),(by rw[db.out];exact⟨rfl,λi hi=>by
    obtain rfl:i=0:=by simpa using hi
    exact⟨_,_,rfl⟩⟩)⟩
 | succ m ih=>
  intro s w hm hs h aw;obtain⟨bn,on,cn,ba,oa,ca,a8,b0,dh,dk,ey,dm,ez⟩:=h.opened HV.out;have ax:(Η.info? 79).map (·.size)=Δ A.size:=by rw[a8];exact Cp
  have D:=(Hp.nil w).new (Ε A 79);have ay:=λW (I:Ext w W)=>h.ext I
  obtain⟨r,hr⟩:∃ r:Bool,(r=Ξ↔∃ u:List UInt8,u.length=m+1/\t.ok (t.run s u)=Ξ):=by
   by_cases h:∃ u:List UInt8,u.length=m+1/\t.ok (t.run s u)=Ξ
   ·exact⟨Ξ,⟨λ_=>h,λ_=>rfl⟩⟩
   ·exact⟨Τ,⟨λh'=>(by cases h'),λh'=>absurd h' h⟩⟩
  have HR:=Α hr;have f108:=λW (I:Ext w W)=>Α (Tv t HV.out hn A s (m+1) hs (by omega) r HR.out W (ay W I))
  have IH:=Α (λb (hb:b<256) W (I:Ext w W)=>ih (t.stp s b) W (by omega) (HV.out.stp_lt hs hb) (ay W I));have e1:=Α dh;have e2:=Α dk;have bp:=Α aw;obtain⟨br,dq,cr,dr,dt⟩:=dm s hs;have e4:=Α dr;have e5:=Α dt;clear h hr ay b0 a8 dh dk ey dm ez aw ih dr dt;have fp:(s:Int)<(t.n.length:Int):=by omega
  obtain⟨n,bq⟩:∃ n:Nat,m+1=n:=⟨_,rfl⟩;have bf:=Α bq;have fq:1<=n:=by omega
  have fs:n<=8:=by omega
  rw[bq] at f108 bp;simp only[bq];have ft:((n:Int)==0)=Τ:=by simp;omega
  have fu:(n:Int)-1=(m:Int):=by omega
  clear bq;go_enter Tryz.func65,Tryz.ntmps65;go_upto_region 1 with (fail)
  obtain⟨w1,aj⟩:∃ X,w.alloc (Ε A 79)=X:=⟨_,rfl⟩;obtain⟨g3,ak⟩:∃ y,w.heap.size=y:=⟨_,rfl⟩;rw[aj,ak] at D;simp only[aj,ak];clear aj ak;have M:=D.lit 22 1 #[] 0 (by unfold ϙ;omega) rfl;go_upto_region 2 with (fail)
  obtain⟨w2,al⟩:∃ X,w1.alloc (Ε #[] 22)=X:=⟨_,rfl⟩;obtain⟨g7,an⟩:∃ y,w1.heap.size=y:=⟨_,rfl⟩;rw[al,an] at M;simp only[al,an];clear al an D;have HO:=Α (M.obj 1 rfl);have f108:=f108 w2 M.ext;cases r with
  | false=>
   have bc:wfs t s n=[]:=Lg λu hu=>by
    rw[<-Bool.not_eq_true];exact λe=>by
     have:=HR.out.2 ⟨u,by rw[bf.out];exact hu,e⟩;cases this
   go_wp2_with (first
    | (refine Υ rfl 79 (η 3) rfl _ rfl _ _ _ _ HO.out Â rfl ax ?_)
    | (go_at_call 108;(with_reducible refine f108.out.mono ?_);rintro e w3 ⟨rfl,ad⟩))
   go_ret;exact⟨g7,0,[],rfl,(by rw[bc];exact (M.extW ad).sub (List.Sublist.cons_cons _ (List.Sublist.cons _ List.Sublist.slnil))),(by rw[bc];exact⟨rfl,λi hi=>by simp at hi⟩)⟩
  | true=>
   clear HR;go_wp2_with (first
    | (refine Υ rfl 79 (η 3) rfl _ rfl _ _ _ _ HO.out Â rfl ax ?_)
    | (go_at_call 108;(with_reducible refine f108.out.mono ?_);rintro e w3 ⟨rfl,ad⟩))
   have bd:=M.extW ad;clear M f108 HO ad;go_loopw [7,8] (λvo vb W=>∃ (H:List Ρ) (ws:List (List UInt8)) (g c b:Nat),b<=256/\vo=Β (Δ ⟨g,0,Γ⟩) H.length c/\vb=.int ζ b/\Hp w W (.row 22 1 (Β (Δ ⟨g,0,Γ⟩) H.length c) H.length H::.obj g3 (Ε A 79 (0,0))::Cq H ws)/\Ϻ (Som H ws/\ws=Dm (λu=>t.ok (t.run s u)) m b))
    (λ_ vb _=>256-(intOf vb).toNat)
   case atStart=>exact⟨[],[],g7,0,0,by omega,rfl,rfl,bd,Α ⟨⟨rfl,λi hi=>by simp at hi⟩,rfl⟩⟩
   case round=>
    clear bd;obtain⟨H,ws,g,c,b,hb,rfl,rfl,D,J⟩:=hrel;by_cases ao:b<256
    ·have fv:(b:Int)<256:=by omega
     have b9:=Α (Ajm (λu=>t.ok (t.run s u)) m b ao);have aw:A5 (λu=>t.ok (t.run (t.stp s b) u)) m<=4096:=by
      have h1:=b9.out;have h2:=bp.out;have e:(λw=>t.ok (t.run s (χ b::w)))=λu=>t.ok (t.run (t.stp s b) u):=funext λu=>by
       show t.ok (t.run (t.stp s (χ b).toNat) u)=_;rw[u8n b ao]
      rw[e] at h1;rw[bf.out] at h1;unfold A5 at h2 ⊢;unfold A5 at h1;omega
     have a6:=Α (show wfs t (t.stp s b) m=Bp (λw=>t.ok (t.run s (χ b::w))) m by
      have e:(λw=>t.ok (t.run s (χ b::w)))=λu=>t.ok (t.run (t.stp s b) u):=funext λu=>by
       show t.ok (t.run (t.stp s (χ b).toNat) u)=_;rw[u8n b ao]
      rw[e])
     have cd:=Α aw;clear aw;go_upto_region 9 with (fail)
     have du:=HV.out.cell_lt b ao;have cf:Ϻ (t.ent2 s (t.cell b)=t.stp s b):=Α rfl;obtain⟨q,hq⟩:∃ x,t.cell b=x:=⟨_,rfl⟩;rw[hq] at du cf;obtain⟨x,hx⟩:∃ y,t.ent2 s q=y:=⟨_,rfl⟩;rw[hx] at cf;have fw:(q:Int)<(t.cells:Int):=by omega
     have HF:=Α (λW (I:Ext wr W)=>(show W.cell? ⟨g3,256,Γ⟩=Δ (Β (Δ ⟨bn,on,Γ⟩) t.n.length cn)/\W.cell? ⟨bn,on+s,Γ⟩=Δ (Β (Δ ⟨br,dq,Γ⟩) t.cells cr)/\W.cell? ⟨g3,b,Γ⟩=Δ (iv q)/\W.cell? ⟨br,dq+q,Γ⟩=Δ (iv x) from
      ⟨Ay (I.heap (D.obj 1 rfl)) e2.out,(D.ext.trans I).cell e4.out,by rw[<-hq];exact Ay (I.heap (D.obj 1 rfl)) (e1.out b ao),by rw[<-hx];exact (D.ext.trans I).cell (e5.out q du)⟩))
     have HO:=Α (D.obj 1 rfl);have cj:=Α (IH.out b ao);rw[<-cf.out] at cj cd a6;have hd:=(Ι wr).drew;clear hq hx;refine B0 15 [(0,Ξ),(1,Ξ),(2,Ξ),(3,Ξ),(4,Ξ),(5,Ξ),(6,Ξ),(7,Ξ),(8,Ξ),(9,Ξ),(10,Ξ),(11,Ξ),(12,Ξ),(13,Ξ),(14,Τ),(15,Τ)] (by kernel_rfl) (by kernel_rfl) (λ_ _ _ _ h=>h)
      (λW=>Ext wr W) hd ?_
     obtain⟨wq,ck⟩:∃ X,wr.drew=X:=⟨_,rfl⟩;rw[ck] at hd;rw[ck];clear ck;refine Ao (v:=.agg A) rfl rfl (λW I=>D2 79 (η 3) rfl _ rfl _ _ _ _ (I.heap HO.out) Â rfl ax) ?_;simp only[Ϛ,Θ,Χ,Ψ];iterate 12
      refine Ao (v:=?_) rfl rfl (λV hV=>?_) ?_
      rotate_left
      ·obtain⟨k0,k1,k2,k3⟩:=HF.out V hV;clear hV;go_simp;first|done|with_reducible rfl
      simp only[Ϛ,Θ,Χ,Ψ]
     refine Ao (v:=iv m) rfl rfl (λV hV=>?_) ?_
     ·have cl:ç.wrap (m:Int)=(m:Int):=Ý _ ⟨by omega,by omega⟩;clear hV;go_simp
     simp only[Ϛ,Θ,Χ,Ψ];refine A4 rfl (λKq bg=>?_);go_simp;with_reducible refine (cj.out wq (D.ext.trans hd) cd.out).mono ?_
     rintro e w7 ⟨g9,c9,E,rfl,cp,dy⟩;refine bg _ _ (λ_=>hd.trans cp.ext) ?_;clear bg Kq;refine A4 rfl (λKq bg=>?_);go_simp;refine bg _ _ (λh=>absurd h (by omega)) ?_;clear bg Kq;refine B2 ?_;have cq:=((D.extW hd).join cp).perm (Ae0 _ _ _ _ _);have ar:=Α dy;clear D hd cp dy HF HO cj cd;obtain⟨T,ea⟩:∃ y,wfs t x m=y:=⟨_,rfl⟩;rw[ea] at cq ar a6;clear ea;have fz:E.length<=4096:=by
      have h1:=b9.out;rw[<-a6.out,bf.out] at h1;have h2:=bp.out;have h3:=ar.out.1;omega
     go_wp2_with (fail);go_loopw [7,10] (λvo vi W=>∃ (G:List Ρ) (U:List (List UInt8)) (g c i:Nat),i<=E.length/\vo=Β (Δ ⟨g,0,Γ⟩) G.length c/\vi=.int ζ i/\Hp w W (.row 22 1 (Β (Δ ⟨g,0,Γ⟩) G.length c) G.length G::.row 22 1 (Β (Δ ⟨g9,0,Γ⟩) E.length c9) E.length E::.obj g3 (Ε A 79 (0,0))::(Cq E T++Cq G U))/\Ϻ (Som G U/\U=Dm (λu=>t.ok (t.run s u)) m b++(T.take i).map (χ b::·)))
      (λ_ vi _=>E.length-(intOf vi).toNat)
     case atStart=>exact⟨H,ws,g,c,0,by omega,rfl,rfl,cq,Α ⟨J.out.1,by rw[J.out.2];simp⟩⟩
     case round=>
      clear cq J;obtain⟨G,U,g,c,i,gb,rfl,rfl,D,J⟩:=hrel;have gd:G.length<=4096:=by
       have h1:=b9.out;rw[<-a6.out,bf.out] at h1;have h2:=bp.out;rw[J.out.1.1,J.out.2,Ο,Ϗ,List.length_take];omega
      by_cases cu:i<E.length
      ·have gf:(i:Int)<(E.length:Int):=by omega
       have a7:i<T.length:=by rw[<-ar.out.1];exact cu
       obtain⟨gi,ci,cx⟩:=ar.out.2 i a7;have cR:=(ϛ.cellAt (D.row 1 rfl) i (by omega)).trans (Μ cu);have eb:E[i]=Β (Δ ⟨gi,0,Γ⟩) (T.getD i []).length ci:=by
        rw[<-cx,Ζ,Μ cu];rfl
       rw[eb] at cR;have bw:=D.row (i+3) (show (.row 22 1 (Β (Δ ⟨g,0,Γ⟩) G.length c) G.length G::.row 22 1 (Β (Δ ⟨g9,0,Γ⟩) E.length c9) E.length E::.obj g3 (Ε A 79 (0,0))::(Cq E T++Cq G U))[i+3]? = Δ (.row 5 1 (E.getD i ς) (T.getD i []).length ((T.getD i []).map bv)) from by
        show (Cq E T++Cq G U)[i]? = _;rw[List.getElem?_append_left (by rw[Aac ar.out.1];exact a7)];exact Ro ar.out.1 i a7)
       rw[cx] at bw;have e8:=Α (Å a7);have ec:Ϻ (T[i]=T.getD i []):=Α (by rw[Ζ,Μ a7];rfl);obtain⟨wi,cy⟩:∃ y,T.getD i []=y:=⟨_,rfl⟩;rw[cy] at bw cR ec;have gg:wi.length<=8:=by
        have:wi∈Bp (λw=>t.ok (t.run s (χ b::w))) m:=by rw[<-a6.out,<-cy];exact D9 _ _ _ a7
        have:=((F7 m _ wi).1 this).1;omega
       clear cx eb cy;have e9:IntKind.u8.wrap (b:Int)=(b:Int):=by
        simp[IntKind.wrap,IntKind.signed,IntKind.bits];omega
       have ed:bv (χ b)=.int .u8 (b:Int):=by show Ρ.int .u8 ((χ b).toNat:Int)=_;rw[u8n b ao]
       have bx:=D.lit 5 1 #[.int .u8 (b:Int)] 1 (by unfold ϙ;omega) rfl;have bl:=bx.size;have ee:∀ j v,(wi.map bv)[j]? = Δ v->(wr.alloc (Ε #[.int .u8 (b:Int)] 5)).cell? ((⟨gi,0,Γ⟩:Addr).add j)=Δ v:=λj v hj=>by
        rw[Zh,î,ϛ.cellAt (bw.alloc _) j (by have:=(ό.1 hj).1;simpa using this)];exact hj
       have eg:=Α ee;have fa:=((Ι wr).alloc (Ε #[.int .u8 (b:Int)] 5)).cell cR;have eh:∀ u∈wi.map bv,u.oneCell'=Ξ:=λu hu=>by
        obtain⟨b,_,rfl⟩:=List.mem_map.1 hu;rfl
       clear bw ee cR D;go_upto_region 14 with (at_builtin;refine wpList_append_own_at _ rfl _ _ 22 rfl w.heap.size 5 i5 (.int .u8 0) 1 1 Tryz.underlying22 ep er et eu rfl (by decide) _ _ _ rfl (bx.row 0 rfl) ⟨gi,0,Γ⟩ wi.length _ (wi.map bv) rfl (by simp) eg.out eh (by unfold ϙ;omega) (by omega) bl ?_;intro v7 w7 be bm _ bo)
       obtain⟨gw,cw,rfl,_,_⟩:=ϛ.form be (by omega);have ag:=bx.app 0 rfl be bm (by
        rcases bo with e|e
        ·exact .inl e.symm
        ·exact .inr (ω e))
       have cz:(1+wi.length)=(χ b::wi).length:=by rw[Ϲ];omega
       have cl:(#[.int .u8 (b:Int)]:Array Ρ).toList++wi.map bv=(χ b::wi).map bv:=by
        rw[Ç,ed];rfl
       rw[cz,cl] at ag;have fb:(χ b::wi).length<=9:=by rw[Ϲ];omega
       simp only[cz];obtain⟨wz,bz⟩:∃ y,χ b::wi=y:=⟨_,rfl⟩;have fc:=Α bz;rw[bz] at ag fb;simp only[bz];clear be bm bo bx eg eh bl fa e9 ed cz cl bz;have fe:=ag.size;go_upto_region 12 with (at_builtin;refine ϐ _ rfl _ _ 38 rfl w.heap.size 22 c2 (Β Γ 0 0) 1 24 Tryz.underlying38 c3 c4 c5 c6 rfl (by decide) _ _ _ rfl ((ag.row 1 rfl).alloc _) _ 1 1 [Β (Δ ⟨gw,0,Γ⟩) wz.length cw] rfl rfl (Ϫ _ _ _) (by simp[ϊ]) (by decide) (by unfold ϙ;omega) (by omega) (by simp;omega) _ rfl ?_;intro gq c8 w8 ei ej ek _)
       have fg:=((ag.alloc (Ε #[Β (Δ ⟨gw,0,Γ⟩) wz.length cw] 22)).app 1 rfl ei ej ek).park;clear ei ej ek ag fe;have c1:Ϻ (Som (G++[Β (Δ ⟨gw,0,Γ⟩) wz.length cw]) (U++[wz])/\U++[wz]=Dm (λu=>t.ok (t.run s u)) m b++(T.take (i+1)).map (χ b::·)):=Α ⟨Aca J.out.1 gw cw wz,by
        rw[e8.out,ϔ,<-Ò,<-J.out.2,ec.out,<-fc.out];rfl⟩
       have fh:=Α J.out.1.1;clear J;go_wp2;go_roundw
       case rel=>exact⟨G++[Β (Δ ⟨gw,0,Γ⟩) wz.length cw],U++[wz],gq,c8,i+1,by omega,by rw[Ο];rfl,by go_num,by
        rw[Aab fh.out,<-Ò,Ο];exact fg,c1⟩
       case measure=>simp[intOf];omega
      ·obtain rfl:i=E.length:=by omega
       have fj:=D.sub (List.Sublist.cons_cons _ (List.Sublist.cons _ (List.Sublist.cons_cons _ (List.sublist_append_right (Cq E T) (Cq G U)))));have c1:Ϻ (Som G U/\U=Dm (λu=>t.ok (t.run s u)) m (b+1)):=Α ⟨J.out.1,by rw[J.out.2,I0,ar.out.1,List.take_length,a6.out]⟩;clear D J;go_wp2;go_roundw
       case rel=>exact⟨G,U,g,c,b+1,by omega,rfl,by go_num,fj,c1⟩
       case measure=>simp[intOf];omega
    ·obtain rfl:b=256:=by omega
     have en:Ϻ (ws=wfs t s n):=Α (by rw[J.out.2,Ww,bf.out]);go_wp2;go_ret;exact⟨g,c,H,rfl,(by rw[<-en.out];exact D.sub (List.Sublist.cons_cons _ (List.Sublist.cons _ (List.Sublist.refl _)))),(by rw[<-en.out];exact J.out.1)⟩
end Go.Proofs.YtaiogolidlamiaaGreatDoor
