import Derived.Test.YtilncahcpjlfnaaGreatDoorM13
import Derived.Test.YtilncahcpjlfnaaGreatDoorM09
import Derived.Test.YtilncahcpjlfnaaGreatDoorM10
import Derived.Test.YtilncahcpjlfnaaGreatDoorM05
set_option linter.unusedVariables false
set_option linter.unusedSimpArgs false
set_option maxRecDepth 100000
set_option maxHeartbeats 8000000
open And renaming intro → ï
open Array renaming getD_eq_getD_getElem? → ϕ, getElem?_eq_getElem → Ϛ, replicate → í, getElem?_toList → Ç
open BitVec renaming getLsbD_zero → û
open Bool renaming false → Ε, eq_iff_iff → Ϸ, true → Α, false_eq_true → Ó, and_eq_true → ψ
open Go renaming World → Γ, Value → Δ, undef → Ω, info_parts → ϓ, maxLen → ϐ, wpList_append_lies → Ϙ, Program → Þ, Oper → ϳ, Act → ø, Operand → Ñ, getD_replicate_false → Ϡ, wpList_load_mid → å, setRow_heap → Χ, cell_of_row → Τ
open Go.Act renaming put → η, eval → á
open Go.Ending renaming returned → Ψ
open Go.IntKind renaming u8 → é, i64 → Φ, i64 → Ü
open Go.Lib renaming hid → Z
open Go.Obj renaming cells → Β
open Go.Operand renaming tmp → δ
open Go.Proofs.Tryz renaming prog → Η, underlying40 → Ο
open Go.Region renaming wanted → ϧ, ready → ϻ
open Go.RowKit renaming Hid → ϟ
open Go.Value renaming slice → U, slice → Ϗ, oneCell' → ξ, int → Â
open Go.World renaming ownsRow_lit → Á, size_alloc → Ρ, ownsRow_nil → À
open List renaming length_append → Ν, length_singleton → Ϩ, getD_eq_getElem?_getD → Ζ, getElem?_append_left → χ, getElem?_eq_getElem → Ι, getElem?_append_right → ς, getElem?_cons_zero → Å, getElem?_cons_succ → Æ, setIfInBounds_toArray → Θ, set_cons_zero → Μ, set_cons_succ → Λ, take_succ_eq_append_getElem → Õ, map_append → ϩ, take_of_length_le → ß, length_eq_zero_iff → ϭ, mem_singleton → ϙ, mem_cons_self → Ð, mem_cons_of_mem → ò, length_nil → ç, mem_append → Ê, not_mem_nil → ô, getElem_mem → ϣ, length_map → ι, length_take → Ö, append_nil → õ, length_cons → ϑ
open List.cons renaming injEq → ì
open Nat renaming zero_add → ϖ, le_refl → Υ, lt_of_lt_of_le → Ξ, le_trans → μ, add_zero → è
open Option renaming some → J, none → I, getD_some → ϱ
namespace Go.Proofs.YtilncahcpjlfnaaGreatDoor
open Go.RowKit Go.Shelf
def ptQ (y:UInt8):PtN:=⟨exQ y.toNat,decide (y.toNat / 10 % 2=1)⟩
def Ce (l:List UInt8):List PtN:=if l.length=0 then [⟨exQ 1,Ε⟩] else (l.take 3).map ptQ
def PtRow (W:Γ) (xs:List Δ) (ps:List PtN):Prop:=∀ i,i<ps.length->∃ g,xs.getD (i*2) Ω=U (J ⟨g,0,I⟩) (ps.getD i pN).xs.length (ps.getD i pN).xs.length/\xs.getD (i*2+1) Ω=.bool (ps.getD i pN).lz/\W.heap[g]? = J (Β (flR (ps.getD i pN).xs).toArray 96 (0,0))
theorem PtRow.ext {W W':Γ} {xs:List Δ} {ps:List PtN} (h:PtRow W xs ps) (E:Ext W W'):PtRow W' xs ps:=λi hi=>by obtain⟨g,h1,G,H⟩:=h i hi;exact⟨g,h1,G,E.heap H⟩
theorem PtRow.kept {W W':Γ} {xs:List Δ} {ps:List PtN} (h:PtRow W xs ps) {base n s:Nat} {v:Δ} {ys:List Δ} (H:W.ownsRow base 48 s v n ys) (hg:W.grownBy W' v.ownBlock):PtRow W' xs ps:=λi hi=>by
 obtain⟨g,h1,T,G⟩:=h i hi;refine⟨g,h1,T,(hg.block g (Al G) λe=>?_).trans G⟩;rcases H.2 with⟨rfl,_⟩|⟨X,aa,cur,rfl,_,E,_⟩
 ·cases e
 injection e with e
 subst e;rw[G] at E;injection E with E
 injection E with _ E _
 exact absurd E (by decide)
theorem PtRow.snoc {W:Γ} {xs:List Δ} {ps:List PtN} (hx:xs.length=ps.length*2) (h:PtRow W xs ps) {p:PtN} {g:Nat} (hg:W.heap[g]? = J (Β (flR p.xs).toArray 96 (0,0))):PtRow W (xs++[U (J ⟨g,0,I⟩) p.xs.length p.xs.length,.bool p.lz]) (ps++[p]):=λi hi=>by
 rw[Ν,Ϩ] at hi;by_cases e:i<ps.length
 ·obtain⟨E,h1,G,H⟩:=h i e;refine⟨E,?_,?_,?_⟩
  ·rw[Ζ,χ (by omega),<-Ζ,h1,Ζ,Ι e];simp[χ e,Ι e]
  ·rw[Ζ,χ (by omega),<-Ζ,G,Ζ,Ι e];simp[χ e,Ι e]
  rw[H,Ζ,Ι e];simp[χ e,Ι e]
 obtain rfl:i=ps.length:=by omega
 refine⟨g,?_,?_,?_⟩
 ·rw[Ζ,ς (by omega),hx,Nat.sub_self];simp
 ·rw[Ζ,ς (by omega),hx,Nat.add_sub_cancel_left];simp
 rw[hg];simp
theorem PtRow.at_ {W:Γ} {xs:List Δ} {ps:List PtN} (h:PtRow W xs ps) (hx:xs.length=ps.length*2) {g:Nat} (hc:∀ j,j<xs.length->W.cell? ⟨g,j,I⟩=J (xs.getD j Ω)):PatAt W g 0 ps:=λi hi=>by
 obtain⟨G,h1,H,T⟩:=h i hi;refine⟨G,0,(ps.getD i pN).xs.length,λj v E=>?_,JD T⟩;rw[ϖ];rcases j with _|_|j
 ·have:=hc (i*2) (by omega);rw[h1] at this;have E:Ϗ (J ⟨G,0,I⟩) (ps.getD i pN).xs.length (ps.getD i pN).xs.length=v:=by simpa only [Å,Option.some.injEq] using E
  rw[<-E];exact this
 ·have:=hc (i*2+1) (by omega);rw[H] at this;have E:Δ.bool (ps.getD i pN).lz=v:=by simpa only [Å,Æ,Option.some.injEq,ϖ] using E
  rw[<-E];exact this
 simp at E
theorem OL (y:UInt8):((é.wrap ((y.toNat:Int) / 10)).tmod 2==1)=decide (y.toNat / 10 % 2=1):=by
 have h:=y.toNat_lt;have e:é.wrap ((y.toNat:Int) / 10)=((y.toNat / 10:Nat):Int):=by rw[IntKind.wrap_u8];omega
 rw[e,Int.tmod_eq_emod_of_nonneg (by omega),Ϸ];simp
 omega
theorem Tm (v:Δ) (a:Option Addr) (n c:Nat) (E:v=U a n c) (b:Bool):Η.built 48 [(0,v),(1,.bool b)]=J #[v,.bool b]:=by subst E;kernel_rfl
theorem WZ (a:Option Addr) (n c:Nat):Η.built 48 [(0,U a n c)]=J #[U a n c,.bool Ε]:=by kernel_rfl
theorem X8 (l:List UInt8) (v:Δ) (w:Γ) (hl:ByW w v l) :
  Calls Η 10 #[v] w λe w'=>∃ g c,e=Ψ (U (J ⟨g,0,I⟩) (Ce l).length c)/\PatAt w' g 0 (Ce l)/\Ext w w':=by
 obtain⟨j0,hj,bk,bl,bm⟩:=ϓ (show (Η.info? 48).map (λi=>(i.zero,i.size,i.bytes))=J (J (.agg #[U I 0 0,.bool Ε]),2,32) by kernel_rfl);obtain⟨a,b,o,ca,rfl,bn,_,bo⟩:=hl.split;have da:=hl.1;have HC:=Z (λ(W:Γ) (hW:Ext w W) i (hi:i<l.length)=>hW.cell (bo i hi));have HA:=Z bn;clear hl bn bo;have bp:=(Κ w).alloc (Β #[] 48);have bq:Γ.ownsRow (w.alloc (Β #[] 48)) w.heap.size 48 2 (U (J ⟨w.heap.size,0,I⟩) 0 0) 0 []:=Á (base:=w.heap.size) (e:=48) (size:=2) w #[] 0 (Υ _) (by unfold ϐ;omega) rfl;go_enter Tryz.func10,Tryz.ntmps10;go_wp2_with (fail);go_loopw [3,4] (λvx vi W=>∃ (ps:List PtN) (xs:List Δ) (g c:Nat),ps.length<=3/\ps.length<=l.length/\vx=U (J ⟨g,0,I⟩) ps.length c/\vi=.int Φ ps.length/\Ext w W/\W.ownsRow w.heap.size 48 2 (U (J ⟨g,0,I⟩) ps.length c) ps.length xs/\ϟ (ps=(l.take ps.length).map ptQ/\PtRow W xs ps))
  (λ_ vi _=>3-(intOf vi).toNat)
 case atStart=>exact⟨[],[],_,_,by simp,by simp,rfl,rfl,bp,bq,Z ⟨by simp,λi hi=>absurd hi (by simp)⟩⟩
 clear bp bq;obtain⟨ps,xs,g,c,br,bt,rfl,rfl,hE,hO,HI⟩:=hrel;have db:=hE.size;obtain⟨i,hi⟩:=Xq (ps.length);rw[hi] at br bt hO;have G:=Z hi;simp only[hi];clear hi;by_cases bu:i<l.length/\i<3
 ·obtain⟨h1,h2⟩:=bu;have dc:(i:Int)<(l.length:Int):=by omega
  have dd:(i:Int)<3:=by omega
  obtain rfl:=HA.o (by omega);have bw:=Z (λV (hV:Ext w V)=>HC.o V hV i h1);obtain⟨y,X⟩:=Xq (l.getD i 0);rw[X] at bw;have de:=y.toNat_lt;have HY:=Z X;clear X;have f105:=λW=>Z (Z5 y.toNat (by omega) W)
  have df:(0:Int)<=(i:Int):=by omega
  go_upto_region 5 with (fail)
  refine Bl 17 [(0,Α),(1,Α),(2,Α),(3,Α),(4,Α),(5,Α),(7,Α),(8,Α),(9,Α),(10,Α),(11,Α),(12,Α),(13,Α),(6,Ε),(14,Α),(15,Ε),(16,Ε),(17,Ε)] (by kernel_rfl) (by kernel_rfl) (λ_ _ _ _ h=>h) (λV=>Ext w V) (hE.t (Κ wr).drew) ?_;have bb:=hE.t (Κ wr).drew;have bc:=Aa hO (Κ wr).drew;have bz:=Z (HI.o.2.ext (Κ wr).drew);obtain⟨wy,bd⟩:=Xq (wr.drew);rw[bd] at bb bc bz;rw[bd];clear bd hE hO;iterate 13
   refine Af (v:=?_) rfl rfl (λV hV=>?_) ?_
   rotate_left
   ·have k1:=bw.o V hV;clear hV;go_simp;first|done|with_reducible rfl
   simp only[η,Θ,Μ,Λ]
  rw[OL,show Ü.wrap (y.toNat:Int)=(y.toNat:Int) from IntKind.wrap_i64_id (by omega) (by omega)];refine Ao rfl (λKk hK=>?_);go_simp
  (with_reducible refine (f105 wy).o.mono ?_)
  rintro e w5 ⟨E,rfl,an,ae⟩;have af:=Z an;have aa:=bb.t ae;have T:=Aa bc ae;have cu:=Z (bz.o.ext ae);refine hK _ _ (λ_=>aa) ?_;clear hK Kk f105 an ae bc bb;obtain⟨nx,ag⟩:=Xq ((exQ y.toNat).length);have be:=Z ag;simp only[ag];clear ag;obtain⟨lz,bf⟩:=Xq (decide (y.toNat / 10 % 2=1));have cv:=Z bf;simp only[bf];clear bf;have au:=Z (Tm (U (J ⟨E,0,I⟩) nx nx) _ _ _ rfl lz);refine Af (v:=.agg #[U (J ⟨E,0,I⟩) nx nx,.bool lz]) rfl rfl (λV _=>?_) ?_
  ·exact Fy 48 _ rfl (by simpa [á] using au.o) V
  simp only[η,Θ,Μ,Λ];refine Ao rfl (λKk hK=>?_);go_simp;refine hK _ _ (λ_=>aa.alloc _) ?_;clear hK Kk;refine Ao rfl (λKk hK=>?_);refine step_append_lies _ rfl _ _ 25 rfl w.heap.size 48 j0 (.agg #[U I 0 0,.bool Ε]) 2 32 Tryz.underlying25 hj bk bl bm rfl (by decide) (U (J ⟨g,0,I⟩) i c) _ _ rfl (T.alloc _) _ 1 1 [U (J ⟨E,0,I⟩) nx nx,.bool lz] rfl rfl (Hs _ _ _ _) (by simp[ξ]) (by decide) (by unfold ϐ;omega) (by omega) (by have:=aa.size;simp;omega) _ rfl ?_;intro g7 c7 w7 bg ah b4 _;have ay:=(aa.alloc (Β #[U (J ⟨E,0,I⟩) nx nx,.bool lz] 48)).grown ah (λk e=>(T.lt k e).1);refine hK _ _ (λ_=>ay) ?_;clear hK Kk;refine Ao rfl (λKk hK=>?_);go_simp;refine hK _ _ (λh=>absurd h (by omega)) ?_;clear hK Kk;refine Bj ?_;have az:=cu.o.ext ((Κ w5).alloc (Β #[U (J ⟨E,0,I⟩) nx nx,.bool lz] 48));have az:=az.kept (T.alloc _) ah;have b5:xs.length=ps.length*2:=by rw[G.o];exact T.1
  have a1:w7.heap[E]? = J (Β (flR (ptQ y).xs).toArray 96 (0,0)):=by
   refine (ah.block E (Ξ (Al af.o) (by rw[Ρ];omega)) λe=>?_).trans (Ah af.o _);rcases (T.alloc (Β #[U (J ⟨E,0,I⟩) nx nx,.bool lz] 48)).2 with⟨hv,_⟩|⟨g',cy,cur,hv,_,H,_⟩
   ·cases hv
   rw[hv] at e;injection e with e
   subst e;rw[Ah af.o] at H;injection H with H
   injection H with _ H _
   exact absurd H (by decide)
  have bh:=az.snoc b5 (p:=ptQ y) a1;have e1:(ptQ y).xs.length=nx:=be.o;have e2:(ptQ y).lz=lz:=cv.o;rw[e1,e2] at bh;have HF:ϟ (ps++[ptQ y]=(l.take (ps++[ptQ y]).length).map ptQ/\PtRow w7 (xs++[U (J ⟨E,0,I⟩) nx nx,.bool lz]) (ps++[ptQ y])):=Z ⟨by rw[Ν,Ϩ,G.o,Õ h1,ϩ];have h0:=HI.o.1;rw[G.o] at h0;rw[<-h0];have X:=HY.o;rw[Ζ,Ι h1] at X;have X:l[i]=y:=X;rw[X];rfl,bh⟩
  clear b5 a1 bh e1 e2 az ah b4 T aa au;go_wp2_with (fail);go_roundw
  case rel=>exact⟨ps++[ptQ y],_,g7,c7,by rw[Ν,G.o];simp;omega,by rw[Ν,G.o];simp;omega,by rw[Ν,G.o];rfl,by rw[Ν,G.o];go_num,ay,by rw[Ν,G.o];exact bg,HF⟩
  case measure=>simp[intOf]<;>omega
 have b8:ϟ (0<i->Ce l=ps):=Z λh0=>by
  unfold Ce;have h3:=HI.o.1;rw[G.o] at h3;rw[if_neg (by omega),h3]
  congr 1
  by_cases e:i=3
  ·rw[e]
  rw[ß (by omega),ß (by omega)]
 have cb:∀ W (g c:Nat) (ps:List PtN) (xs:List Δ),W.ownsRow w.heap.size 48 2 (U (J ⟨g,0,I⟩) ps.length c) ps.length xs->PtRow W xs ps->PatAt W g 0 ps:=λW g c ps xs ho hp=>by
  have c4:xs.length=ps.length*2:=ho.1;refine hp.at_ c4 λj hj=>?_
  rw[ho.cellAt j (by omega),Ζ,Ι hj];rfl
 have cd:=Z cb;clear cb;by_cases h0:i=0
 ·subst h0;have cf:l.length=0:=by omega
  have cg:ϟ (Ce l=[⟨exQ 1,Ε⟩]):=Z (by unfold Ce;rw[if_pos cf]);have c5:ps=[]:=ϭ.1 G.o;have c6:xs=[]:=ϭ.1 (by have:xs.length=0*2:=hO.1;omega);subst c5 c6;have f105:∀ W,ϟ (Calls Η 27 #[.int Φ 1] W λe w'=>∃ g,e=Ψ (U (J ⟨g,0,I⟩) (exQ 1).length (exQ 1).length)/\w'.heap[g]? = J (Β (flR (exQ 1)).toArray 96 (0,0))/\Ext W w'):=λW=>Z (Z5 1 (by omega) W)
  obtain⟨nx,ag⟩:=Xq ((exQ 1).length);rw[ag] at f105;have be:=Z ag;clear ag br bt;rw[cf];go_upto_region 7 with (fail)
  go_wp2_with (first
   | (go_at_call 27;(with_reducible refine (f105 _).o.mono ?_);rintro e w5 ⟨E,rfl,an,ae⟩;have af:=Z an;have T:=Aa hO ae;have aa:=hE.t ae;clear an;have au:=Z (WZ (J ⟨E,0,I⟩) nx nx))
   | (refine Bk rfl 48 _ rfl #[U (J ⟨E,0,I⟩) nx nx,.bool Ε] ?_ ?_;(simp[á,η];with_reducible exact au.o))
   | (at_builtin;refine Ϙ _ rfl _ _ 25 rfl w.heap.size 48 j0 (.agg #[U I 0 0,.bool Ε]) 2 32 Tryz.underlying25 hj bk bl bm rfl (by decide) (U (J ⟨g,0,I⟩) 0 c) _ _ rfl (T.alloc _) _ 1 1 [U (J ⟨E,0,I⟩) nx nx,.bool Ε] rfl rfl (Hs _ _ _ _) (by simp[ξ]) (by decide) (by unfold ϐ;omega) (by omega) (by have:=aa.size;simp;omega) _ rfl ?_;intro g7 c7 w7 bg ah b4 _))
  have ay:=(aa.alloc (Β #[U (J ⟨E,0,I⟩) nx nx,.bool Ε] 48)).grown ah (λk e=>(T.lt k e).1);have a1:w7.heap[E]? = J (Β (flR (exQ 1)).toArray 96 (0,0)):=by
   refine (ah.block E (Ξ (Al af.o) (by rw[Ρ];omega)) λe=>?_).trans (Ah af.o _);rcases (T.alloc (Β #[U (J ⟨E,0,I⟩) nx nx,.bool Ε] 48)).2 with⟨hv,_⟩|⟨g',cy,cur,hv,_,H,_⟩
   ·cases hv
   rw[hv] at e;injection e with e
   subst e;rw[Ah af.o] at H;injection H with H
   injection H with _ H _
   exact absurd H (by decide)
  have c8:PtRow w7 ([]++[U (J ⟨E,0,I⟩) nx nx,.bool Ε]) ([]++[⟨exQ 1,Ε⟩]):=by rw[<-be.o];exact PtRow.snoc (xs:=[]) (ps:=[]) rfl (λi hi=>absurd hi (by simp)) (p:=⟨exQ 1,Ε⟩) a1
  have a6:=Z (cd.o w7 g7 c7 [⟨exQ 1,Ε⟩] _ bg c8);go_ret;exact⟨g7,c7,by rw[cg.o];rfl,by rw[cg.o];exact a6.o,ay⟩
 have hP:=b8.o (by omega);have a6:=Z (cd.o wr g c ps xs (by rw[G.o];exact hO) HI.o.2);have HP:=Z hP;clear b8 hP;by_cases h1:i<l.length
 ·have h2:¬ i<3:=λh=>bu ⟨h1,h⟩
  go_wp2_with (fail);go_ret;exact⟨g,c,by rw[HP.o,G.o];rfl,by rw[HP.o];exact a6.o,hE⟩
 go_wp2_with (fail);go_ret;exact⟨g,c,by rw[HP.o,G.o];rfl,by rw[HP.o];exact a6.o,hE⟩
theorem Qt {lz:Bool} {A B:Ag} {os:List Opt} (h:OptsOf lz A B os) {w0:List UInt8} (h0:A w0) (h1:∃ v,Adm lz A B w0 v) (hu:∀ w,A w->(∃ v,Adm lz A B w v)->∀ v,Adm lz A B w v↔Adm lz A B w0 v) :
  ∃ o,os=[o]/\(∀ w,o.head.has w=Α↔A w/\∃ v,Adm lz A B w v)/\∀ v,o.rest.has v=Α↔Adm lz A B w0 v:=by
 have G:∀ o∈os,∀ v,o.rest.has v=Α↔Adm lz A B w0 v:=λo E v=>by obtain⟨⟨w,T⟩,X,aa⟩:=h.J o E;obtain⟨k1,H⟩:=(h.head o E w).1 T;rw[H v];exact hu w k1 ⟨X,(H X).1 aa⟩ v
 obtain⟨o,E,T⟩:=h.all w0 h0 h1;have hl:os=[o]:=by
  match os,E,h,G with
  | [a],E,_,_=>rw[ϙ.1 E]
  | a::b::t,_,h,G=>
   exfalso
   have hd:=h.dis;rw[List.pairwise_cons] at hd;refine hd.1 b (Ð) (E8 (h.hc a Ð).2 (h.hc b (ò _ Ð)).2 λv=>?_);rw[Ϸ,G a Ð,G b (ò _ Ð)]
 refine⟨o,hl,λw=>?_,G o E⟩;constructor
 ·intro T;obtain⟨k1,H⟩:=(h.head o E w).1 T;obtain⟨v,hv⟩:=h1;exact⟨k1,v,(H v).1 ((G o E v).2 hv)⟩
 rintro⟨k1,H⟩;refine (h.head o E w).2 ⟨k1,λv=>?_⟩;rw[G o E v,hu w k1 H v]
theorem Kp (w v:List UInt8) (E:exL 1 w):Adm Ε (exL 1) (λu=>u=[]) w v↔v=[]:=by
 unfold Adm Pf;simp only[Ó,if_false];constructor
 ·exact λh=>h.1
 rintro rfl;refine⟨rfl,?_⟩;rintro⟨x,y,hx,e,_⟩;have:=congrArg List.length e;rw[Ν,ç] at this;exact hx (ϭ.1 (by omega))
theorem Mu (w v:List UInt8) (G:exL 0 w):Adm Ε (exL 0) (exL 1) w v↔exL 1 v/\∀ u,v≠97::u:=by
 unfold Adm Pf;simp only[Ó,if_false];constructor
 ·rintro⟨h1,E⟩;refine⟨h1,λu e=>E ⟨[97],u,by simp,e,λx hx=>?_,λx hx=>h1 x (by rw[e];exact ò _ hx)⟩⟩;rcases Ê.1 hx with h|h
  ·exact G x h
  rw[ϙ.1 h]
 rintro⟨h1,E⟩;refine⟨h1,?_⟩;rintro⟨x,y,hx,e,H,_⟩;cases x with
 | nil=>exact hx rfl
 | cons c x=>have:c=97:=H c (List.mem_append_right _ Ð);subst this;exact E _ e
theorem Ko (w v:List UInt8) (E:exL 0 w):Adm Α (exL 0) (exL 1) w v↔w=[]/\exL 1 v:=by
 unfold Adm T6;simp only[if_true];constructor
 ·rintro⟨h1,G⟩;refine⟨?_,h1⟩;by_cases e:w=[]
  ·exact e
  refine absurd ⟨[],w,e,rfl,λx hx=>absurd hx ô,λx hx=>?_⟩ G;rcases Ê.1 hx with h|h
  ·exact .inl (E x h)
  exact h1 x h
 rintro⟨rfl,h1⟩;refine⟨h1,?_⟩;rintro⟨x,y,H,e,_⟩;have:=congrArg List.length e;rw[Ν,ç] at this;exact H (ϭ.1 (by omega))
theorem LL {os:List Opt} (h:OptsOf Ε (exL 0) (exL 1) os):∃ o,os=[o]/\(∀ w,o.head.has w=Α↔exL 0 w)/\∀ v,o.rest.has v=Α↔exL 1 v/\∀ u,v≠97::u:=by
 have E:exL 0 []:=λx hx=>absurd hx ô
 have H:∀ w,exL 0 w->∃ v,Adm Ε (exL 0) (exL 1) w v:=λw G=>⟨[],(Mu w [] G).2 ⟨λx hx=>absurd hx ô,λu=>by simp⟩⟩
 obtain⟨o,h1,T,X⟩:=Qt h E (H [] E) λw G _ v=>by rw[Mu w v G,Mu [] v E]
 exact⟨o,h1,λw=>(T w).trans ⟨λh=>h.1,λh=>⟨h,H w h⟩⟩,λv=>(X v).trans (Mu [] v E)⟩
theorem W9 {os:List Opt} (h:OptsOf Ε (exL 1) (λu=>u=[]) os):∃ o,os=[o]/\(∀ w,o.head.has w=Α↔exL 1 w)/\∀ v,o.rest.has v=Α↔v=[]:=by
 have E:exL 1 []:=λx hx=>absurd hx ô
 have H:∀ w,exL 1 w->∃ v,Adm Ε (exL 1) (λu=>u=[]) w v:=λw G=>⟨[],(Kp w [] G).2 rfl⟩
 obtain⟨o,h1,T,X⟩:=Qt h E (H [] E) λw G _ v=>by rw[Kp w v G,Kp [] v E]
 exact⟨o,h1,λw=>(T w).trans ⟨λh=>h.1,λh=>⟨h,H w h⟩⟩,λv=>(X v).trans (Kp [] v E)⟩
theorem LK {os:List Opt} (h:OptsOf Α (exL 0) (exL 1) os):∃ o,os=[o]/\(∀ w,o.head.has w=Α↔w=[])/\∀ v,o.rest.has v=Α↔exL 1 v:=by
 have E:exL 0 []:=λx hx=>absurd hx ô
 have G:exL 1 []:=λx hx=>absurd hx ô
 obtain⟨o,h1,H,T⟩:=Qt h E ⟨[],(Ko [] [] E).2 ⟨rfl,G⟩⟩ λw X ⟨v',ab⟩ v=>by obtain⟨rfl,_⟩:=(Ko w v' X).1 ab;exact Iff.rfl
 refine⟨o,h1,λw=>(H w).trans ⟨?_,?_⟩,λv=>(T v).trans ((Ko [] v E).trans ⟨λh=>h.2,λh=>⟨rfl,h⟩⟩)⟩
 ·rintro⟨k1,v,k2⟩;exact ((Ko w v k1).1 k2).1
 rintro rfl;exact⟨E,[],(Ko [] [] E).2 ⟨rfl,G⟩⟩
theorem Ec {d:Dfa} {L:Ag} (h:Fit d L):wd1 d=L:=funext λw=>propext (h.2 w)
theorem Ml (d:Dfa):Bp [d]=wd1 d:=funext λw=>propext (I0 _ w)
section
variable {d0 d1:Dfa} (f0:Fit d0 (exL 0)) (f1:Fit d1 (exL 1))
include f0 f1
theorem IP:Cb [⟨d0,Ε⟩,⟨d1,Ε⟩] [97,97,98] 0 [(0,2),(2,3)]:=by
 have h0:∀ w,d0.has w=Α↔exL 0 w:=f0.2;have h1:∀ w,d1.has w=Α↔exL 1 w:=f1.2;have E:InR [⟨d0,Ε⟩,⟨d1,Ε⟩] [[97,97],[98]]:=⟨[97,97],[[98]],rfl,(h0 _).2 (by simp[exL,D9]),[98],[],rfl,(h1 _).2 (by simp[exL,D9]),rfl⟩;refine (Q4 [] E).2 ⟨[97,97],[[98]],rfl,?_,[98],[],rfl,?_,rfl⟩
 ·show Adm Ε (wd1 d0) (Bp [d1]) [97,97] [98];rw[Ml,Ec f0,Ec f1];exact (Mu _ _ (by simp[exL,D9])).2 ⟨by simp[exL,D9],λu=>by simp⟩
 show Adm Ε (wd1 d1) (λw=>w=[]) [98] [];rw[Ec f1];exact (Kp _ _ (by simp[exL,D9])).2 rfl
theorem IO1:Cb [⟨d0,Α⟩,⟨d1,Ε⟩] [97,97,98] 0 [(0,0),(0,3)]:=by
 have h0:∀ w,d0.has w=Α↔exL 0 w:=f0.2;have h1:∀ w,d1.has w=Α↔exL 1 w:=f1.2;have E:InR [⟨d0,Α⟩,⟨d1,Ε⟩] [[],[97,97,98]]:=⟨[],[[97,97,98]],rfl,(h0 _).2 (by simp[exL,D9]),[97,97,98],[],rfl,(h1 _).2 (by simp[exL,D9]),rfl⟩;refine (Q4 [] E).2 ⟨[],[[97,97,98]],rfl,?_,[97,97,98],[],rfl,?_,rfl⟩
 ·show Adm Α (wd1 d0) (Bp [d1]) [] [97,97,98];rw[Ml,Ec f0,Ec f1];exact (Ko _ _ (by simp[exL,D9])).2 ⟨rfl,by simp[exL,D9]⟩
 show Adm Ε (wd1 d1) (λw=>w=[]) [97,97,98] [];rw[Ec f1];exact (Kp _ _ (by simp[exL,D9])).2 rfl
theorem IQ:¬ Bp [d0,d1] [99]:=by
 rintro⟨u,v,e,hu,H⟩;have E:Bp [d1] v:=H;rw[Ml,Ec f1] at E;have G:wd1 d0 u:=hu;rw[Ec f0] at G;have hm:(99:UInt8)∈u++v:=by rw[<-e];simp
 rcases Ê.1 hm with h|h
 ·have:=G _ h;exact absurd this (by decide)
 have:=E _ h;exact absurd this (by decide)
theorem Vv {l:List (List Opt)} (h:Ef [⟨d0,Ε⟩,⟨d1,Ε⟩] l):∃ a b,Ar l=[[a,b]]/\a.rest.has []=Α/\a.rest.has [98,97]=Α/\a.rest.has [97,98]=Ε/\∀ v,b.rest.has v=Α↔v=[]:=by
 obtain⟨os,t,rfl,h0,T,X,rfl,h1,ht⟩:=h;have ab:X=[]:=ht;subst ab;have G:OptsOf Ε (wd1 d0) (Bp [d1]) os:=h0;rw[Ml,Ec f0,Ec f1] at G;have H:OptsOf Ε (wd1 d1) (λu=>u=[]) T:=h1;rw[Ec f1] at H;obtain⟨a,rfl,_,E⟩:=LL G;obtain⟨b,rfl,_,hb⟩:=W9 H;refine⟨a,b,rfl,(E _).2 ⟨by simp[exL,D9],λu=>by simp⟩,(E _).2 ⟨by simp[exL,D9],λu=>by simp⟩,?_,hb⟩;cases hh:a.rest.has [97,98]
 ·rfl
 exact absurd rfl (((E _).1 hh).2 [98])
theorem Vu {l:List (List Opt)} (h:Ef [⟨d0,Α⟩,⟨d1,Ε⟩] l):∃ a b,Ar l=[[a,b]]/\∀ v,a.head.has v=Α↔v=[]:=by obtain⟨os,t,rfl,h0,H,T,rfl,h1,X⟩:=h;have aa:T=[]:=X;subst aa;have E:OptsOf Α (wd1 d0) (Bp [d1]) os:=h0;rw[Ml,Ec f0,Ec f1] at E;have G:OptsOf Ε (wd1 d1) (λu=>u=[]) H:=h1;rw[Ec f1] at G;obtain⟨a,rfl,ha,_⟩:=LK E;obtain⟨b,rfl,_,_⟩:=W9 G;exact⟨a,b,rfl,ha⟩
end
theorem OQ (x:UInt8):(Bw 1).getLsbD x.toNat=Α↔isA x:=by
 have hx:=x.toNat_lt;show (Ay 0#256 ((97:Nat):Int)).getLsbD x.toNat=Α↔_;rw[J4 _ 97 x.toNat (by omega)];simp only[û,Bool.false_or,decide_eq_true_eq];constructor
 ·intro h;exact UInt8.toNat_inj.1 h
 rintro rfl;rfl
theorem OO (x:UInt8):(Bw 2).getLsbD x.toNat=Α↔isB x:=by
 have hx:=x.toNat_lt;show (Ay 0#256 ((98:Nat):Int)).getLsbD x.toNat=Α↔_;rw[J4 _ 98 x.toNat (by omega)];simp only[û,Bool.false_or,decide_eq_true_eq];constructor
 ·intro h;exact UInt8.toNat_inj.1 h
 rintro rfl;rfl
theorem OP (x:UInt8):(Bw 3).getLsbD x.toNat=Α↔D9 x:=by
 have hx:=x.toNat_lt;show (Ay (Ay 0#256 ((97:Nat):Int)) ((98:Nat):Int)).getLsbD x.toNat=Α↔_;rw[J4 _ 98 x.toNat (by omega),J4 _ 97 x.toNat (by omega)];simp only[û,Bool.false_or,Bool.or_eq_true,decide_eq_true_eq];constructor
 ·rintro (h|h)
  ·exact .inl (UInt8.toNat_inj.1 h)
  exact .inr (UInt8.toNat_inj.1 h)
 rintro (rfl|rfl)
 ·exact .inl rfl
 exact .inr rfl
theorem To (n:Nat) {r:Option Dfa} (h:Dn (exQ n) [] r):∃ d,r=J d/\Fit d (exL (n % 10))/\d.n.length<=5:=XT OQ OO OP (n % 10) h
theorem Io {α:Type} {l:List α} {i:Nat} {d:α} (h:i<l.length):l.getD i d∈l:=by rw[Ζ,Ι h];exact ϣ h
theorem F4 {k l r:Nat} {c:Cls} {mn:Nat} {mx:Int} {i:Nat} (h1:1<=k/\k<=8) (E:(0<arK k->l<i)/\(arK k=0->l=0)/\(1<arK k->r<i)/\(arK k<2->r=0)) (G:k≠3->c=0#256) (H:k≠8->mn=0/\mx=0) (T:k=8->mn<=16/\mx<=16/\-1<=mx/\(mx≠-1->(mn:Int)<=mx)):VNode k l r c mn mx i:=
 ⟨h1.1,h1.2,E.1,E.2.1,E.2.2.1,E.2.2.2,G,H,T⟩
theorem EU (A B T:Cls) (k:Nat) (hk:k<10):VRx (exN A B T k):=by
 have X:k=0\/k=1\/k=2\/k=3\/k=4\/k=5\/k=6\/k=7\/k=8\/k=9:=by omega
 have one:∀ i,i<1->i=0:=λi h=>by omega
 have two:∀ i,i<2->i=0\/i=1:=λi h=>by omega
 have G:∀ i,i<3->i=0\/i=1\/i=2:=λi h=>by omega
 have H:∀ i,i<4->i=0\/i=1\/i=2\/i=3:=λi h=>by omega
 rcases X with rfl|rfl|rfl|rfl|rfl|rfl|rfl|rfl|rfl|rfl
 ·refine⟨by simp[exN],by simp[exN],λi hi=>?_,λj E=>?_⟩
  ·rcases two i hi with rfl|rfl<;>exact F4 (of_decide_eq_true rfl) (of_decide_eq_true rfl) (by intro h;first|rfl|exact absurd rfl h) (of_decide_eq_true rfl) (of_decide_eq_true rfl)
  have E:j+1<2:=E;rcases one j (by omega) with rfl<;>rfl
 ·refine⟨by simp[exN],by simp[exN],λi hi=>?_,λj E=>?_⟩
  ·rcases two i hi with rfl|rfl<;>exact F4 (of_decide_eq_true rfl) (of_decide_eq_true rfl) (by intro h;first|rfl|exact absurd rfl h) (of_decide_eq_true rfl) (of_decide_eq_true rfl)
  have E:j+1<2:=E;rcases one j (by omega) with rfl<;>rfl
 ·refine⟨by simp[exN],by simp[exN],λi hi=>?_,λj E=>?_⟩
  ·rcases one i hi with rfl<;>exact F4 (of_decide_eq_true rfl) (of_decide_eq_true rfl) (by intro h;first|rfl|exact absurd rfl h) (of_decide_eq_true rfl) (of_decide_eq_true rfl)
  have E:j+1<1:=E;omega
 ·refine⟨by simp[exN],by simp[exN],λi hi=>?_,λj E=>?_⟩
  ·rcases H i hi with rfl|rfl|rfl|rfl<;>exact F4 (of_decide_eq_true rfl) (of_decide_eq_true rfl) (by intro h;first|rfl|exact absurd rfl h) (of_decide_eq_true rfl) (of_decide_eq_true rfl)
  have E:j+1<4:=E;rcases G j (by omega) with rfl|rfl|rfl<;>rfl
 ·refine⟨by simp[exN],by simp[exN],λi hi=>?_,λj E=>?_⟩
  ·rcases two i hi with rfl|rfl<;>exact F4 (of_decide_eq_true rfl) (of_decide_eq_true rfl) (by intro h;first|rfl|exact absurd rfl h) (of_decide_eq_true rfl) (of_decide_eq_true rfl)
  have E:j+1<2:=E;rcases one j (by omega) with rfl<;>rfl
 ·refine⟨by simp[exN],by simp[exN],λi hi=>?_,λj E=>?_⟩
  ·rcases G i hi with rfl|rfl|rfl<;>exact F4 (of_decide_eq_true rfl) (of_decide_eq_true rfl) (by intro h;first|rfl|exact absurd rfl h) (of_decide_eq_true rfl) (of_decide_eq_true rfl)
  have E:j+1<3:=E;rcases two j (by omega) with rfl|rfl<;>rfl
 ·refine⟨by simp[exN],by simp[exN],λi hi=>?_,λj E=>?_⟩
  ·rcases H i hi with rfl|rfl|rfl|rfl<;>exact F4 (of_decide_eq_true rfl) (of_decide_eq_true rfl) (by intro h;first|rfl|exact absurd rfl h) (of_decide_eq_true rfl) (of_decide_eq_true rfl)
  have E:j+1<4:=E;rcases G j (by omega) with rfl|rfl|rfl<;>rfl
 ·refine⟨by simp[exN],by simp[exN],λi hi=>?_,λj E=>?_⟩
  ·rcases one i hi with rfl<;>exact F4 (of_decide_eq_true rfl) (of_decide_eq_true rfl) (by intro h;first|rfl|exact absurd rfl h) (of_decide_eq_true rfl) (of_decide_eq_true rfl)
  have E:j+1<1:=E;omega
 ·refine⟨by simp[exN],by simp[exN],λi hi=>?_,λj E=>?_⟩
  ·rcases two i hi with rfl|rfl<;>exact F4 (of_decide_eq_true rfl) (of_decide_eq_true rfl) (by intro h;first|rfl|exact absurd rfl h) (of_decide_eq_true rfl) (of_decide_eq_true rfl)
  have E:j+1<2:=E;rcases one j (by omega) with rfl<;>rfl
 refine⟨by simp[exN],by simp[exN],λi hi=>?_,λj E=>?_⟩
 ·rcases G i hi with rfl|rfl|rfl<;>exact F4 (of_decide_eq_true rfl) (of_decide_eq_true rfl) (by intro h;first|rfl|exact absurd rfl h) (of_decide_eq_true rfl) (of_decide_eq_true rfl)
 have E:j+1<3:=E;rcases two j (by omega) with rfl|rfl<;>rfl
theorem ET (n:Nat):VRx (exQ n):=EU _ _ _ _ (Nat.mod_lt _ (by omega))
theorem OF (l:List UInt8):∀ p∈Ce l,∃ n lz,p=⟨exQ n,lz⟩:=λp E=>by
 unfold Ce at E;split at E
 ·rw[ϙ] at E;exact⟨1,Ε,E⟩
 obtain⟨y,_,rfl⟩:=List.mem_map.1 E;exact⟨_,_,rfl⟩
theorem Ya (l:List UInt8):0<(Ce l).length/\(Ce l).length<=3:=by
 unfold Ce;split
 ·simp
 rw[ι,Ö];omega
theorem N4 (l:List UInt8):PatOk (Ce l):=by obtain⟨h1,T⟩:=Ya l;refine⟨h1,by omega,λi hi=>?_⟩;obtain⟨n,lz,e⟩:=OF l _ (Io (d:=pN) hi);rw[e];refine⟨ET n,λr E=>?_⟩;obtain⟨d,G,H,X⟩:=To n E;exact⟨d,G,H.1,by omega⟩
def Cj:List Dfa->Option Dfa->Prop
 | [],r=>Fb (λw=>w=[]) r
 | [d],r=>r=J d
 | d::e::ds,r=>∃ q,Cj (e::ds) q/\Eo q (λx r=>Cp d x r) r
theorem Ng:∀ (ds:List Dfa) {r G:Option Dfa},Cj ds r->Cj ds G->r=G
 | [],_,_,h,E=>Mn h E
 | [_],_,_,h,E=>h.trans E.symm
 | d::e::ds,_,_,⟨q,h1,H⟩,⟨q',T,X⟩=>by obtain rfl:=Ng (e::ds) h1 T;exact Kh (f:=λx r=>Cp d x r) (λ_ _ _ h E=>Mk h E) H X
theorem He:∀ (ds:List Dfa) (_:∀ d∈ds,Cano d) {r:Dfa},Cj ds (J r)->Fit r (Bp ds)
 | [],_,r,⟨d,e,h1,E⟩=>by
  injection e with e
  subst e;exact⟨h1,E⟩
 | [d],hc,r,h=>by
  injection h with h
  subst h;exact⟨hc _ Ð,λw=>(I0 (wd1 r) w).symm⟩
 | d::e::ds,hc,r,⟨q,h1,E⟩=>by
  cases q with
  | none=>cases E
  | some q=>have G:=He (e::ds) (λx hx=>hc x (ò _ hx)) h1;have H:Cp d q (J r):=E;obtain⟨T,_⟩:=I3 H (L:=wd1 d) (λ_=>Iff.rfl) (λw=>G.2 w);exact T
theorem Nh:∀ (ds:List Dfa) (_:∀ d∈ds,d.n.length<=64) {r:Dfa},Cj ds (J r)->Cano r->r.n.length<=64
 | [],_,r,⟨d,e,h1,E⟩,hc=>by
  injection e with e
  subst e;have:=Gl (d:=r) ⟨h1,E⟩;omega
 | [d],G,r,h,_=>by
  injection h with h
  subst h;exact G _ Ð
 | d::e::ds,G,r,⟨q,h1,E⟩,_=>by
  cases q with
  | none=>cases E
  | some q=>have H:Cp d q (J r):=E;exact (I3 H (L:=wd1 d) (M:=wd1 q) (λ_=>Iff.rfl) (λ_=>Iff.rfl)).2
theorem JJ {a b:Dfa} (E:Cano a) (hb:Cano b) (h1:a.n.length<=2) (G:b.n.length<=2) {r:Option Dfa} (h:Cj [a,b] r):∃ d,r=J d/\Fit d (Cat (wd1 a) (wd1 b)):=by obtain⟨q,H,T⟩:=h;have X:q=J b:=H;subst X;have aa:Cp a b r:=T;have hp:2 ^ b.n.length<=4:=μ (Nat.pow_le_pow_right (by omega) G) (by decide);exact I1 aa ⟨E,λ_=>Iff.rfl⟩ ⟨hb,λ_=>Iff.rfl⟩ (μ (Nat.mul_le_mul h1 hp) (by decide)) λd hd=>by have:=Tb E.val hb.val G hd;omega
theorem AQ (os:List Opt):∀ l:List (List Opt),Ar (l++[os])=(Ar l).flatMap λc=>os.map λo=>c++[o]
 | []=>by
  show os.flatMap (λo=>[[o]])=[[]].flatMap λc=>os.map λo=>c++[o]
  rw[List.flatMap_cons,List.flatMap_nil,õ];induction os with
  | nil=>rfl
  | cons o os E=>rw[List.flatMap_cons,E];rfl
 | a::l=>by
  show a.flatMap (λo=>(Ar (l++[os])).map (o::·))=(a.flatMap λo=>(Ar l).map (o::·)).flatMap λc=>os.map λo=>c++[o]
  rw[List.flatMap_assoc];refine congrArg (λf=>List.flatMap f a) (funext λo=>?_);rw[AQ os l,List.flatMap_map,List.map_flatMap];refine congrArg (λf=>List.flatMap f (Ar l)) (funext λc=>?_);rw[List.map_map];rfl
theorem S1 (os:List Opt) (t:List (List Opt)):(Ar (os::t)).length=os.length*(Ar t).length:=by
 show (os.flatMap λo=>(Ar t).map (o::·)).length=_;induction os with
 | nil=>simp
 | cons o os E=>rw[List.flatMap_cons,Ν,E,ι,ϑ,Nat.succ_mul,Nat.add_comm]
theorem Sz (l:List (List Opt)) (os:List Opt):(Ar (l++[os])).length=(Ar l).length*os.length:=by
 induction l with
 | nil=>rw[List.nil_append,S1];show os.length*1=1*os.length;omega
 | cons a l E=>rw[List.cons_append,S1,S1,E,Nat.mul_assoc]
theorem AR:∀ (l:List (List Opt)) (k:Nat),k<l.length->l.getD k []=[]->Ar l=[]
 | [],_,h,_=>absurd h (by simp)
 | os::t,0,_,h=>by have:os=[]:=h;subst this;rfl
 | os::t,k+1,h,he=>by have:=AR t k (by simpa using h) (by simpa using he);show os.flatMap (λo=>(Ar t).map (o::·))=[];rw[this];simp
theorem NP {P n:Nat} (E:0<n):min (min P 257*n) 257=min (P*n) 257:=by
 by_cases h:P<=257
 ·rw[Nat.min_eq_left h]
 rw[Nat.min_eq_right (by omega:257<=P)];have h1:257<=257*n:=Nat.le_mul_of_pos_right 257 E;have G:P<=P*n:=Nat.le_mul_of_pos_right P E;rw[Nat.min_eq_right h1,Nat.min_eq_right (by omega)]
theorem DC:∀ (ps:List Pt) (L:List (List Opt)),L.length=ps.length->(∀ i,i<ps.length->OptsOf (ps.getD i ⟨dN,Ε⟩).lz (wd1 (ps.getD i ⟨dN,Ε⟩).d) (Bp ((ps.drop (i+1)).map (·.d))) (L.getD i []))->Ef ps L
 | [],L,E,_=>(ϭ.1 E:L=[])
 | p::ps,[],E,_=>by cases E
 | p::ps,os::t,E,h=>by
  refine⟨os,t,rfl,h 0 (by simp),DC ps t (by simpa using E) λi hi=>?_⟩;have:=h (i+1) (by simpa using hi)
  simpa using this
def Gy (ps:List PtN) (ds:List Dfa):Prop:=(∃ i,i<=ds.length/\Cj (ds.drop i) I)\/(∃ i,i<ds.length/\∃ b,Cj (ds.drop (i+1)) (J b)/\(if (ps.getD i pN).lz=Α then I6 (ds.getD i dN) b else I7 (ds.getD i dN) b))\/∃ l,Ef (pts ps ds) l/\256<(Ar l).length
theorem Md {n m:Nat} {x y:Bool} {ds:List Dfa} (h:DsOf [⟨exQ n,x⟩,⟨exQ m,y⟩] ds):∃ d0 d1,ds=[d0,d1]/\Fit d0 (exL (n % 10))/\Fit d1 (exL (m % 10)):=by
 have H:ds.length=2:=h.len
 match ds,H,h with
 | [d0,d1],_,h=>
  obtain⟨a,E,f0,_⟩:=To n (h.at_ 0 (by simp)).1;obtain⟨b,G,f1,_⟩:=To m (h.at_ 1 (by simp)).1;injection E with E
  injection G with G
  refine⟨d0,d1,rfl,?_,?_⟩
  ·have:d0=a:=E;rw[this];exact f0
  have:d1=b:=G;rw[this];exact f1
theorem Vt {d0 d1:Dfa} (f0:Fit d0 (exL 0)) (f1:Fit d1 (exL 1)) {x:Bool} {n m:List RNode} (hc:∀ l,Ef (pts [⟨n,x⟩,⟨m,Ε⟩] [d0,d1]) l->(Ar l).length=1):¬ Gy [⟨n,x⟩,⟨m,Ε⟩] [d0,d1]:=by
 have h0:d0.n.length<=2:=Kj f0;have h1:d1.n.length<=2:=Kj f1;rintro (⟨i,hi,h⟩|⟨i,hi,b,hb,h⟩|⟨l,T,h⟩)
 ·have hi:i<=2:=hi;have:i=0\/i=1\/i=2:=by omega
  rcases this with rfl|rfl|rfl
  ·obtain⟨d,e,_⟩:=JJ f0.1 f1.1 h0 h1 h;cases e
  ·have X:(I:Option Dfa)=J d1:=h;cases X
  obtain⟨d,e,_⟩:=h;cases e
 ·have hi:i<2:=hi;have:i=0\/i=1:=by omega
  rcases this with rfl|rfl
  ·have E:J b=J d1:=hb;injection E with E
   subst E;split at h
   ·exact Yr f0.1 f1.1 h0 h1 h
   exact Zo f0.1 f1.1 h0 h1 h
  obtain⟨e,he,G,h3⟩:=hb;injection he with he
  subst he;have H:=Gl (d:=b) ⟨G,h3⟩;split at h
  ·exact Yr f1.1 G h1 H h
  exact Zo f1.1 G h1 H h
 rw[hc l T] at h;omega
theorem JE {P:Þ} (w:Γ) (H sT ty elem:TypeId) (k b o T ae:Nat) (E:Option Addr) (X af N:Nat) (cs:List Δ)
  (hu:P.underlying H=J (.slice elem)) (hs:(P.info? elem).map (·.size)=J k) (hN:Nat.min X T=N) (hn:cs.length=N*k)
  (ah:∀ a,E=J a->∀ j v,cs[j]? = J v->w.cell? (a.add j)=J v) (ai:E=I->cs=[]) (hc:∀ j,j<cs.length->(w.cell? ⟨b,o+j,I⟩).isSome=Α) (hf:∀ j,j<cs.length->w.frozen? ⟨b,o+j,I⟩=Ε) (h1:∀ v∈cs,v.oneCell'=Α) :
  (Builtin.copy_ #[H,sT] ty #[U (J ⟨b,o,I⟩) T ae,U E X af]).run P w=.ok (goInt N) (w.setCells b o cs):=by
 have ak:=run_storeCells_cells (P:=P) b o cs 0 w (by simpa using hc) (by simpa using hf) h1;cases G:P.info? elem with
 | none=>simp[G] at hs
 | some i=>
  have hi:i.size=k:=by simpa [G] using hs
  cases E with
  | none=>obtain rfl:=ai rfl;simp[Builtin.copy_,run_underlying hu,Builtin.lenOf,Builtin.firstCells,sizeOf,typeInfo,G,hi,hN,storeCells,Γ.setCells]
  | some a=>have hl:=run_loadCells_list (P:=P) w a cs (ah a rfl);simp[Builtin.copy_,run_underlying hu,Builtin.lenOf,Builtin.firstCells,sizeOf,typeInfo,G,hi,hN,<-hn,hl,ak]
theorem Ue {P:Þ} {w:Γ} {ops:Array ϳ} {rest:List ϳ} {o:ϳ} {a:ø} {Q:Exit->ø->Γ->Prop} (ae:o.guard=I) (d s:Ñ) (H sT:TypeId)
  (ho:o.op=.call { callee:=.builtin .copy,args:=#[d,s],argTypes:=#[H,sT] }) (elem:TypeId) (k:Nat) (hu:P.underlying H=J (.slice elem)) (ag:(P.info? elem).map (·.size)=J k)
  (g E T ab:Nat) (G:Option Addr) (X ad N:Nat) (hd:a.eval d=U (J ⟨g,E,I⟩) T ab) (hs:a.eval s=U G X ad) (hN:Nat.min X T=N) (cs:List Δ) (hn:cs.length=N*k)
  (ak:∀ a,G=J a->∀ j v,cs[j]? = J v->w.cell? (a.add j)=J v) (an:G=I->cs=[]) (hc:∀ j,j<cs.length->(w.cell? ⟨g,E+j,I⟩).isSome=Α) (hf:∀ j,j<cs.length->w.frozen? ⟨g,E+j,I⟩=Ε) (h1:∀ v∈cs,v.oneCell'=Α)
  (h:wpList P ops Q rest (a.put o.dst (goInt N)) (w.setCells g E cs)):wpList P ops Q (o::rest) a w:=by
 refine wpList_plain ae λK hK=>?_
 have aq:=JE (P:=P) w H sT o.type elem k g E T ab G X ad N cs hu ag hN hn ak an hc hf h1;unfold ϳ.wp;simp[execOp,ho,resolve,invoke,builtin,hd,hs,aq,Result.andThen];exact hK _ _ h
def HdO (W:Γ) (Bo:Nat) (v:Δ) (ds:List Dfa):Prop:=∃ xs:List Δ,W.ownsRow Bo 40 3 v ds.length xs/\∀ i,i<ds.length->OwnD W Bo (.agg #[xs.getD (i*3) Ω,xs.getD (i*3+1) Ω,xs.getD (i*3+2) Ω]) (ds.getD i dN)
theorem HdO.ext {W W':Γ} {Bo:Nat} {v:Δ} {ds:List Dfa} (h:HdO W Bo v ds) (E:Ext W W'):HdO W' Bo v ds:=by obtain⟨xs,h1,G⟩:=h;exact⟨xs,Aa h1 E,λi hi=>(G i hi).ext E⟩
theorem HdO.nil (W:Γ) (Bo:Nat):HdO W Bo (U I 0 0) []:=⟨[],À _ _ _ _,λi hi=>absurd hi (by simp)⟩
theorem HdO.keptT {W W':Γ} {Bo:Nat} {v:Δ} {ds:List Dfa} (h:HdO W Bo v ds) {b' s' m:Nat} {u:Δ} {ys:List Δ} (E:W.ownsRow b' 33 s' u m ys) (hg:W.grownBy W' u.ownBlock):HdO W' Bo v ds:=by obtain⟨xs,h1,G⟩:=h;exact⟨xs,h1.kept hg (Aj h1 E (by decide)),λi hi=>(G i hi).keptT E (by decide) hg⟩
theorem HdO.mk' {W:Γ} {Bo k:Nat} {v:Δ} {ds:List Dfa} {d:Dfa} {E xs:List Δ} {A:Array Δ} (H:ds.length=k) (X:E.length=(k+1)*3) (hx:xs.length=k*3) (hA:A.size=3) (ho:W.ownsRow Bo 40 3 v (k+1) (Dt (Dt E 0 xs) (k*3) A.toList))
  (h1:∀ i,i<k->OwnD W Bo (.agg #[xs.getD (i*3) Ω,xs.getD (i*3+1) Ω,xs.getD (i*3+2) Ω]) (ds.getD i dN)) (h2:OwnD W Bo (.agg A) d):HdO W Bo v (ds++[d]):=by
 have G:A.toList.length=3:=by simpa using hA
 have ab:(Dt E 0 xs).length=(k+1)*3:=by rw[Jf,X]
 refine⟨_,by rw[Ν,H];exact ho,λi hi=>?_⟩;rw[Ν,Ϩ,H] at hi;have T:∀ j,j<k*3->(Dt (Dt E 0 xs) (k*3) A.toList).getD j Ω=xs.getD j Ω:=λj hj=>by rw[Jg _ _ _ _ (by rw[ab,G];omega),if_neg (by omega),Jg _ _ _ _ (by rw[X,hx];omega),if_pos (by omega),Nat.sub_zero]
 have new:∀ o,o<3->(Dt (Dt E 0 xs) (k*3) A.toList).getD (k*3+o) Ω=A.toList.getD o Ω:=λo ho=>by rw[Jg _ _ _ _ (by rw[ab,G];omega),if_pos (by rw[G];omega),Nat.add_sub_cancel_left]
 by_cases e:i<k
 ·rw[Ca _ _ _ _ (by omega),T _ (by omega),T _ (by omega),T _ (by omega)];exact h1 i e
 obtain rfl:i=ds.length:=by omega
 rw[Dx,<-è (ds.length*3),H,new 0 (by omega),è,new 1 (by omega),new 2 (by omega)];have e:(#[A.toList.getD 0 Ω,A.toList.getD 1 Ω,A.toList.getD 2 Ω]:Array Δ)=A:=by
  obtain⟨l⟩:=A
  match l,G with
  | [a,b,c],_=>rfl
 rw[e];exact h2
def CaO (W:Γ) (E Bo:Nat) (v:Δ) (cs:List (List Opt)):Prop:=∃ xs:List Δ,W.ownsRow E 33 2 v cs.length xs/\∀ i,i<cs.length->HdO W Bo (xs.getD (i*2) Ω) ((cs.getD i []).map (·.head))/\HdO W Bo (xs.getD (i*2+1) Ω) ((cs.getD i []).map (·.rest))
theorem CaO.ext {W W':Γ} {G Bo:Nat} {v:Δ} {cs:List (List Opt)} (h:CaO W G Bo v cs) (E:Ext W W'):CaO W' G Bo v cs:=by obtain⟨xs,h1,H⟩:=h;exact⟨xs,Aa h1 E,λi hi=>⟨(H i hi).1.ext E,(H i hi).2.ext E⟩⟩
theorem CaO.nil (W:Γ) (E Bo:Nat):CaO W E Bo (U I 0 0) []:=⟨[],À _ _ _ _,λi hi=>absurd hi (by simp)⟩
theorem CaO.base {W:Γ} {E G Bo:Nat} {v:Δ} {cs:List (List Opt)} (h:CaO W E Bo v cs) (hb:G<=E):CaO W G Bo v cs:=by obtain⟨xs,h1,H⟩:=h;exact⟨xs,Ff h1 hb,H⟩
theorem CaO.one {W:Γ} {H Bo g:Nat} {E G:Δ} {c:List Opt} (T:W.ownsRow H 33 2 (U (J ⟨g,0,I⟩) 1 1) 1 [E,G]) (h1:HdO W Bo E (c.map (·.head))) (X:HdO W Bo G (c.map (·.rest))):CaO W H Bo (U (J ⟨g,0,I⟩) 1 1) [c]:=
 ⟨[E,G],T,λi hi=>by
  obtain rfl:i=0:=by simpa using hi
  exact⟨h1,X⟩⟩
theorem CaO.snoc {W W':Γ} {H Bo k g c:Nat} {v E G:Δ} {cs:List (List Opt)} {xs:List Δ} {co:List Opt} (T:cs.length=k) (h0:W.ownsRow H 33 2 v k xs) (h:∀ i,i<k->HdO W Bo (xs.getD (i*2) Ω) ((cs.getD i []).map (·.head))/\HdO W Bo (xs.getD (i*2+1) Ω) ((cs.getD i []).map (·.rest)))
  (hg:W.grownBy W' v.ownBlock) (ho:W'.ownsRow H 33 2 (U (J ⟨g,0,I⟩) (k+1) c) (k+1) (xs++[E,G])) (h1:HdO W Bo E (co.map (·.head))) (h2:HdO W Bo G (co.map (·.rest))):CaO W' H Bo (U (J ⟨g,0,I⟩) (k+1) c) (cs++[co]):=by
 have X:xs.length=k*2:=h0.1;refine⟨xs++[E,G],by rw[Ν,T];exact ho,λi hi=>?_⟩;rw[Ν,Ϩ,T] at hi;by_cases e:i<k
 ·have ap:∀ j,j<k*2->(xs++[E,G]).getD j Ω=xs.getD j Ω:=λj hj=>by rw[Ζ,χ (by omega),<-Ζ]
  rw[Ca _ _ _ _ (by omega),ap _ (by omega),ap _ (by omega)];exact⟨(h i e).1.keptT h0 hg,(h i e).2.keptT h0 hg⟩
 obtain rfl:i=k:=by omega
 have e1:(xs++[E,G]).getD (i*2) Ω=E:=by rw[Ζ,ς (by omega),X,Nat.sub_self];rfl
 have e2:(xs++[E,G]).getD (i*2+1) Ω=G:=by rw[Ζ,ς (by omega),X,show i*2+1-i*2=1 by omega];rfl
 have e3:(cs++[co]).getD i []=co:=by rw[<-T];exact Dx _ _ _
 rw[e1,e2,e3];exact⟨h1.keptT h0 hg,h2.keptT h0 hg⟩
def DT (W:Γ) (b o:Nat) (L:List (List Opt)):Prop:=∀ i,i<L.length->∃ u,W.cell? ⟨b,o+i,I⟩=J u/\OpsV W u (L.getD i [])
def CasV (W:Γ) (v:Δ) (cs:List (List Opt)):Prop:=∃ E Bo,CaO W E Bo v cs
theorem Jo {W:Γ} {base e size g n c:Nat} {xs:List Δ} (h:W.ownsRow base e size (U (J ⟨g,0,I⟩) n c) n xs) (o j:Nat) (E:o+j<n*size):(W.cell? ⟨g,o+j,I⟩).isSome=Α/\W.frozen? ⟨g,o+j,I⟩=Ε:=by have G:xs.length=n*size:=h.1;refine⟨?_,h.frozenAt _⟩;rw[h.cellAt _ E,Ι (by omega)];rfl
open Go
section
variable {P:Program} {ops:Array Oper} {Q:Exit->Act->World->Prop} {n:Nat}
def Mz (P:Þ) (ops:Array ϳ) (Q:Exit->ø->Γ->Prop) (n:Nat) (F:Nat->Δ->Γ->Prop) (Ne:Nat->Nat->Δ->Δ->Prop) (a0:ø) (w1:Γ) (i:Nat):Prop:=
 ∀ o d,ops[i]? = J o->o.dst=J d->∀ a w,Ext w1 w->a.defers=a0.defers->a.tmps.size=a0.tmps.size->(∀ j oj dj,j<n->ops[j]? = J oj->oj.dst=J dj->(∃ e∈o.after,Region.binds .any e=Α/\e.on=j)->F j (a.tmps.getD dj Ω) w)->(∀ e,(∀ j oj,j<n->ops[j]? = J oj->oj.dst≠J e)->a.tmps.getD e Ω=a0.tmps.getD e Ω)->(∀ j k oj ok dj E,j<n->k<n->j≠k->ops[j]? = J oj->ops[k]? = J ok->oj.dst=J dj->ok.dst=J E->(∃ e∈o.after,Region.binds .any e=Α/\e.on=j)->(∃ e∈o.after,Region.binds .any e=Α/\e.on=k)->Ne j k (a.tmps.getD dj Ω) (a.tmps.getD E Ω))->ϧ o (yielded ops a.tmps)=Α/\o.wp P a w (λG w'=>∃ v,G=a.put (J d) v/\Ext w w'/\F i v w'/\∀ j u,j<n->j≠i->F j u w->Ne i j v u) Q
theorem TI {F:Nat->Δ->Γ->Prop} {Ne:Nat->Nat->Δ->Δ->Prop} (bb:∀ i j v u,Ne i j v u->Ne j i u v) (hF:∀ i v w w',F i v w->Ext w w'->F i v w') {a0:ø} {w1:Γ} {sz:Nat} (bd:a0.tmps.size=sz) (hd:E6 ops n sz=Α) {listed:Array Bool} {a:ø} {w:Γ} (X:FInvR ops n F Ne a0 w1 listed a w)
  {i:Nat} (hi:i∈ϻ .any ops listed) (ax:i<n) (H:Mz P ops Q n F Ne a0 w1 i):∃ o,ops[i]? = J o/\ϧ o (yielded ops a.tmps)=Α/\o.wp P a w (λa' w'=>FInvR ops n F Ne a0 w1 (listed.setIfInBounds i Α) a' w') Q:=by
 obtain⟨o,d,ho,ak,be,az⟩:=Iz hd i ax;obtain⟨bf,o',an,au⟩:=mem_ready.1 hi;rw[ho] at an;injection an with an
 subst an;have a1:i<listed.size:=by
  rcases Nat.lt_or_ge i listed.size with h|h
  ·exact h
  simp[Array.getElem?_eq_none h] at bf
 have hg:∀ j,(listed.setIfInBounds i Α).getD j Ε=Α->j=i\/listed.getD j Ε=Α:=λj G=>by
  by_cases e:i=j
  ·exact .inl e.symm
  rw[getD_set_ne Ε e] at G;exact .inr G
 obtain⟨hw,bh⟩:=H o d ho ak a w X.ext X.defers X.size (λj oj dj G E T ⟨e,he,hb,aw⟩=>X.done j oj dj G E T (by rw[<-aw];exact au e he hb)) (λe he=>X.rest e λj oj G E _=>he j oj G E) (λj k oj ok dj dk G hk ao E ae T af ⟨e,he,hb,aw⟩ ⟨e',bj,bk,bl⟩=>X.ne j k oj ok dj dk G hk ao E ae T af (by rw[<-aw];exact au e he hb) (by rw[<-bl];exact au e' bj bk));refine⟨o,ho,hw,ϳ.wp_mono (λa' w' h=>?_) bh⟩;obtain⟨v,rfl,hE,hv,a7⟩:=h;have ar:d<a.tmps.size:=by rw[X.size,bd];exact be
 refine⟨X.ext.trans hE,X.defers,by rw[Nm];exact X.size,λj oj dj G E T ai=>?_,λe he=>?_,λj k oj ok dj dk G hk ao E ae T af ai a8=>?_⟩
 ·rw[D6 _ _ _ _ ar];by_cases e:j=i
  ·subst e;rw[ho] at E;injection E with E
   subst E;rw[ak] at T;injection T with T
   rw[if_pos T.symm];exact hv
  rw[if_neg (λh=>az j oj G e E (by rw[T,h]))];rcases hg j ai with h|h
  ·exact absurd h e
  exact hF _ _ _ _ (X.done j oj dj G E T h) hE
 ·rw[D6 _ _ _ _ ar];have bn:e≠d:=λh=>he i o ax ho (by simp[a1]) (by rw[ak,h])
  rw[if_neg bn];refine X.rest e λj oj G E ai=>he j oj G E ?_
  by_cases e':i=j
  ·subst e';simp[a1]
  rw[getD_set_ne Ε e'];exact ai
 rw[D6 _ _ _ _ ar,D6 _ _ _ _ ar];have aj:∀ j oj dj,j<n->ops[j]? = J oj->oj.dst=J dj->(j=i->dj=d)/\(j≠i->dj≠d):=λj oj dj G E T=>by
  constructor
  ·rintro rfl;rw[ho] at E;injection E with E
   subst E;rw[ak] at T;injection T with T
   exact T.symm
  intro e h;exact az j oj G e E (by rw[T,h])
 by_cases e1:j=i
 ·have e2:k≠i:=λh=>ao (by rw[e1,h])
  rw[if_pos ((aj j oj dj G E T).1 e1),if_neg ((aj k ok dk hk ae af).2 e2)];rcases hg k a8 with h|h
  ·exact absurd h e2
  rw[e1];exact a7 k _ hk e2 (X.done k ok dk hk ae af h)
 rw[if_neg ((aj j oj dj G E T).2 e1)];rcases hg j ai with h|ba
 ·exact absurd h e1
 by_cases e2:k=i
 ·rw[if_pos ((aj k ok dk hk ae af).1 e2)];rw[e2];exact bb _ _ _ _ (a7 j _ G e1 (X.done j oj dj G E T ba))
 rw[if_neg ((aj k ok dk hk ae af).2 e2)];rcases hg k a8 with h|bo
 ·exact absurd h e2
 exact X.ne j k oj ok dj dk G hk ao E ae T af ba bo
theorem TJ {F:Nat->Δ->Γ->Prop} {Ne:Nat->Nat->Δ->Δ->Prop} (E:∀ i j v u,Ne i j v u->Ne j i u v) (G:∀ i v w w',F i v w->Ext w w'->F i v w') {a0:ø} {w1:Γ} {sz:Nat} (T:a0.tmps.size=sz) (hd:E6 ops n sz=Α) {listed:Array Bool} {a:ø} {w:Γ} (X:FInvR ops n F Ne a0 w1 listed a w)
  {i:Nat} (hi:i∈ϻ .any ops listed) (aa:i<n) (H:Mz P ops Q n F Ne a0 w1 i):wpOp P ops Q i (λa' w'=>FInvR ops n F Ne a0 w1 (listed.setIfInBounds i Α) a' w') a w:=by
 obtain⟨o,ho,hw,h⟩:=TI E G T hd X hi aa H;unfold wpOp;rw[ho];simp only[hw,if_true];exact .inl h
theorem Zu {F:Nat->Δ->Γ->Prop} {Ne:Nat->Nat->Δ->Δ->Prop} (X:∀ i j v u,Ne i j v u->Ne j i u v) (hF:∀ i v w w',F i v w->Ext w w'->F i v w') {a0:ø} {w1:Γ} {sz g:Nat} (ab:a0.tmps.size=sz) (hd:E6 ops n sz=Α) (hs:Region.sinkB .any ops n=Α) (hc:Region.chainB .any ops n=Α) (hn:n<ops.size) (hE:Fn ops n=Α)
  (ag:∀ i,i<n->Mz P ops Q n F Ne a0 w1 i) (ah:∀ listed a w,HeadInv .any ops n listed->(∀ i,i<n->listed.getD i Ε=Α)->FInvR ops n F Ne a0 w1 listed a w->wpAny P .any ops Q g listed a w) :
  ∀ (f:Nat) (listed:Array Bool) (a:ø) (w:Γ),HeadInv .any ops n listed->FInvR ops n F Ne a0 w1 listed a w->unl n listed=f->wpAny P .any ops Q (f+g) listed a w
 | 0,listed,a,w,E,H,hu=>by rw[ϖ];exact ah listed a w E (Ib n listed hu) H
 | f+1,listed,a,w,E,H,hu=>by
  obtain⟨k,hk,an,ao⟩:=J0 n listed (by omega);have T:=L3 hE E.size (by omega) k hk ao an;have aq:=(mem_ready.1 T).1;rw[show f+1+g=(f+g)+1 by omega];refine⟨λh0=>(by rw[h0] at T;cases T),λi hi=>?_⟩;have G:i<n:=Nat.lt_of_not_le λh=>tail_waits hs hc hn E _ k rfl hk aq i h hi
  have aj:=(mem_ready.1 hi).1;have ak:i<listed.size:=by rw[E.size];omega
  have ar:listed.getD i Ε=Ε:=by rw[ϕ,Ϛ ak] at aj ⊢;exact aj
  refine wpOp_mono (λa' w' h=>Zu X hF ab hd hs hc hn hE ag ah f _ a' w' (E.set hi G) h ?_) (TJ X hF ab hd H hi G (ag i G));have:=I9 n listed i G ak ar;omega
theorem EI {id:Nat} {l:List ϳ} {a0:ø} {w:Γ} (n sz:Nat) (hm:P.follows .mixedOrders=Α) (T:Oh l.toArray n sz=Α) (X:a0.tmps.size=sz) (F:Nat->Δ->Γ->Prop) (Ne:Nat->Nat->Δ->Δ->Prop) (af:∀ i j v u,Ne i j v u->Ne j i u v) (hF:∀ i v w w',F i v w->Ext w w'->F i v w')
  (ah:∀ i,i<n->Mz P l.toArray Q n F Ne a0 w.drew i) (ai:∀ (vs:Nat->Δ) (w':Γ),Ext w.drew w'->(∀ i,i<n->F i (vs i) w')->(∀ i j,i<n->j<n->i≠j->Ne i j (vs i) (vs j))->wpList P l.toArray Q (l.drop n) (Bq l.toArray vs n a0) w'):(Code.region id l.toArray Α).wp P Q a0 w:=by
 simp only[Oh,ψ,decide_eq_true_eq] at T;obtain⟨⟨⟨⟨⟨hd,hs⟩,hc⟩,hn⟩,hE⟩,ab⟩:=T;refine wp_region_any hm ?_;have an:HeadInv .any l.toArray n (í l.toArray.size Ε):=
  ⟨by simp,λj oj _ E=>(by rw[Ϡ] at E;cases E),λt _ ht=>getD_in (by simpa using ht) (Ϡ _ _)⟩
 have aq:FInvR l.toArray n F Ne a0 w.drew (í l.toArray.size Ε) a0 w.drew:=
  ⟨Κ _,rfl,rfl,λi o d _ _ _ E=>(by rw[Ϡ] at E;cases E),λd _=>rfl,λi j _ _ _ _ _ _ _ _ _ _ _ E=>(by rw[Ϡ] at E;cases E)⟩
 have hu:∀ m,unl m (í l.toArray.size Ε)=m:=λm=>by
  induction m with
  | zero=>rfl
  | succ m ih=>rw[Fq,ih,Ϡ];simp
 have H:=Zu (P:=P) (Q:=Q) (g:=(l.drop n).length) af hF X hd hs hc hn hE ah (λlisted a w' G ad hI=>by
  obtain⟨vs,rfl,hv,aw⟩:=R7 X hd hI ad;have hL:listed=Ew l.toArray.size n:=by
   apply Array.ext
   ·rw[G.size];simp[Ew]
   intro i h1 h2;have h3:(Ew l.toArray.size n)[i]=decide (i<n):=by simp[Ew]
   rw[h3];by_cases hi:i<n
   ·have:=ad i hi;rw[ϕ,Ϛ h1] at this;simp only[ϱ] at this;rw[this];simp[hi]
   have:=G.tail i (by omega) (by rw[<-G.size];exact h1);rw[ϕ,Ϛ h1] at this;simp only[ϱ] at this;rw[this];simp[hi]
  have az:l.toArray.size-n=(l.drop n).length:=by simp
  rw[az] at ab;exact wpAny_of_seq (l.drop n) n listed _ w' (λj=>by simp[List.getElem?_drop]) (by rw[hL];exact ab) (ai vs w' hI.ext hv aw)) n _ a0 w.drew an aq (hu n)
 have e:n+(l.drop n).length=l.toArray.size:=by
  have:n<l.length:=by simpa using hn
  simp;omega
 rw[e] at H;exact H
theorem Hq {F:Nat->Δ->Γ->Prop} {Ne:Nat->Nat->Δ->Δ->Prop} {a0:ø} {w1:Γ} {i:Nat} (o:ϳ) (d:Tmp) (h0:ops.toList[i]? = J o) (hd:o.dst=J d) (hg:o.guard=I)
  (H:∀ a w,Ext w1 w->(∀ j dj,Gt ops n i j dj=Α->F j (a.tmps.getD dj Ω) w)->(∀ e,Nu ops n e=Α->a.tmps.getD e Ω=a0.tmps.getD e Ω)->(∀ j k dj T,j≠k->Gt ops n i j dj=Α->Gt ops n i k T=Α->Ne j k (a.tmps.getD dj Ω) (a.tmps.getD T Ω))->
   o.wp P a w (λa' w'=>∃ v,a'=a.put (J d) v/\Ext w w'/\F i v w'/\∀ j u,j<n->j≠i->F j u w->Ne i j v u) Q):Mz P ops Q n F Ne a0 w1 i:=by
 intro o' d' X aa a w hE _ _ ah ai aj;rw[<-Ç,h0] at X;injection X with X
 subst X;rw[hd] at aa;injection aa with aa
 subst aa;have ad:∀ j dj,Gt ops n i j dj=Α->j<n/\∃ oj,ops[j]? = J oj/\oj.dst=J dj/\∃ e∈o.after,Region.binds .any e=Α/\e.on=j:=λj dj h=>by
  unfold Gt at h;simp only[ψ,decide_eq_true_eq] at h;obtain⟨⟨G,h1⟩,h2⟩:=h;cases E:ops[j]? with
  | none=>rw[E] at h1;cases h1
  | some oj=>
   rw[E] at h1;obtain⟨oi,ab,e,he,hb,an⟩:=Region.waitsFor_spec h2;rw[<-Ç,h0] at ab;injection ab with ab
   subst ab;exact⟨G,oj,rfl,of_decide_eq_true h1,e,he,hb,an⟩
 refine⟨by simp[ϧ,hg],H a w hE (λj dj h=>?_) (λe h=>ai e λj oj G E=>?_) (λj k dj T ao h h'=>?_)⟩
 ·obtain⟨G,oj,E,ae,he⟩:=ad j dj h;exact ah j oj dj G E ae he
 ·unfold Nu at h;rw[List.all_eq_true] at h;have:=h j (List.mem_range.2 G);rw[E] at this
  simpa using this
 obtain⟨G,oj,E,ae,he⟩:=ad j dj h;obtain⟨hk,ok,au,aw,ax⟩:=ad k T h';exact aj j k oj ok dj T G hk ao E au ae aw he ax
end
theorem XA:Η.built 33 []=J #[U I 0 0,U I 0 0]:=by kernel_rfl
theorem XB (a E:Option Addr) (n c G H:Nat):Η.built 33 [(0,U a n c),(1,U E G H)]=J #[U a n c,U E G H]:=by kernel_rfl
theorem Rp:(Η.info? 33).map (·.size)=J 2:=by kernel_rfl
theorem QY (E G:Δ):(Η.info? 33).map (·.size)=J [E,G].length:=by kernel_rfl
theorem QZ:(Η.info? 33).map (λi=>(i.zero,i.size,i.bytes))=J (J (.agg #[U I 0 0,U I 0 0]),2,48):=by kernel_rfl
theorem Ze:(Η.info? 40).map (λi=>(i.zero,i.size,i.bytes))=J (J (.agg #[U I 0 0,U I 0 0,U I 0 0]),3,72):=by kernel_rfl
theorem RD (E G H T X v6 v7:Δ):(Η.info? 141).map (·.size)=J [E,G,H,T,X,v6,v7].length:=by kernel_rfl
theorem RC:(Η.info? 141).map (·.size)=J 7:=by kernel_rfl
theorem W5 {W:Γ} {base e size n c:Nat} {a:Option Addr} {xs:List Δ} (h:W.ownsRow base e size (U a n c) n xs):(∀ G,a=J G->∀ j v,xs[j]? = J v->W.cell? (G.add j)=J v)/\(a=I->xs=[]):=by
 have H:xs.length=n*size:=h.1;have X:=h;rcases h.2 with⟨E,h0⟩|⟨g,aa,cur,E,_⟩
 ·injection E with E _ _
  subst E;refine⟨λG e=>(by cases e),λ_=>?_⟩;first
   | exact h0
   | (rw[h0,Nat.zero_mul] at H;exact ϭ.1 H)
 injection E with E _ hc
 subst E hc;refine⟨λG e j v T=>?_,λe=>(by cases e)⟩;injection e with e
 rw[<-e,Kq,ϖ,X.cellAt j (by rw[<-H];exact (List.getElem?_eq_some_iff.1 T).1)];exact T
theorem Zm {W:Γ} {Bo:Nat} {xs:List Δ} {ds:List Dfa} (T:xs.length=ds.length*3) (h:∀ i,i<ds.length->OwnD W Bo (.agg #[xs.getD (i*3) Ω,xs.getD (i*3+1) Ω,xs.getD (i*3+2) Ω]) (ds.getD i dN)):∀ v∈xs,v.oneCell'=Α:=λv H=>by
 obtain⟨j,X,rfl⟩:=List.mem_iff_getElem.1 H;obtain⟨A,E,_,h1⟩:=(h (j / 3) (by omega)).agg;injection E with E
 rw[<-E] at h1;have hg:∀ k (G:k<xs.length),xs.getD k Ω=xs[k]:=λk G=>by rw[Ζ,Ι G];rfl
 simp only[List.all_toArray,List.all_cons,List.all_nil,Bool.and_true,ψ] at h1;have hm:j % 3=0\/j % 3=1\/j % 3=2:=by omega
 rcases hm with hm|hm|hm
 ·have:=h1.1;rw[hg _ (by omega)] at this
  simpa [show j / 3*3=j by omega] using this
 ·have:=h1.2.1;rw[hg _ (by omega)] at this
  simpa [show j / 3*3+1=j by omega] using this
 have:=h1.2.2;rw[hg _ (by omega)] at this
 simpa [show j / 3*3+2=j by omega] using this
def S4 (G k:Nat):Nat->Δ->Γ->Prop
 | 0,v,_=>v=iv k
 | 1,v,_=>v=iv (k+1)
 | 2,v,W=>∃ g,v=U (J ⟨g,0,I⟩) (k+1) (k+1)/\∃ E,W.ownsRow G 40 3 v (k+1) E
 | 3,v,_=>v=iv k
 | 4,v,_=>v=iv (k+1)
 | 5,v,W=>∃ g,v=U (J ⟨g,0,I⟩) (k+1) (k+1)/\∃ E,W.ownsRow G 40 3 v (k+1) E
 | 6,v,W=>∃ H T,H≠T/\v=.agg #[U (J ⟨H,0,I⟩) (k+1) (k+1),U (J ⟨T,0,I⟩) (k+1) (k+1)]/\(∃ E,W.ownsRow G 40 3 (U (J ⟨H,0,I⟩) (k+1) (k+1)) (k+1) E)/\∃ E,W.ownsRow G 40 3 (U (J ⟨T,0,I⟩) (k+1) (k+1)) (k+1) E
 | _,v,W=>∃ g,v=.pointer (J ⟨g,0,I⟩)/\W.heap[g]? = J (Β #[U I 0 0,U I 0 0] 33 (0,0))/\G<=g
theorem VL (X k:Nat):∀ (i:Nat) (v:Δ) (w w':Γ),S4 X k i v w->Ext w w'->S4 X k i v w'
 | 0,_,_,_,h,_=>h
 | 1,_,_,_,h,_=>h
 | 2,_,_,_,⟨g,h1,H,G⟩,E=>⟨g,h1,H,Aa G E⟩
 | 3,_,_,_,h,_=>h
 | 4,_,_,_,h,_=>h
 | 5,_,_,_,⟨g,h1,H,G⟩,E=>⟨g,h1,H,Aa G E⟩
 | 6,_,_,_,⟨g1,g2,ad,h1,⟨H,G⟩,⟨ae,T⟩⟩,E=>⟨g1,g2,ad,h1,⟨H,Aa G E⟩,⟨ae,Aa T E⟩⟩
 | _+7,_,_,_,⟨g,h1,G,T⟩,E=>⟨g,h1,E.heap G,T⟩
def S3 (i j:Nat) (v u:Δ):Prop:=(i=2/\j=5\/i=5/\j=2)->v≠u
theorem VK (i j:Nat) (v u:Δ) (h:S3 i j v u):S3 j i u v:=λE=>(h (by omega)).symm
def Fz (cs:List (List Opt)) (os:List Opt):List (List Opt):=cs.flatMap λc=>os.map λo=>c++[o]
theorem VG (cs:List (List Opt)) (c:List Opt) (os:List Opt):Fz (cs++[c]) os=Fz cs os++os.map λo=>c++[o]:=by unfold Fz;rw[List.flatMap_append];simp
theorem VH (cs:List (List Opt)) (os:List Opt):(Fz cs os).length=cs.length*os.length:=by
 unfold Fz;induction cs with
 | nil=>simp
 | cons c cs E=>rw[List.flatMap_cons,Ν,E,ι,ϑ,Nat.succ_mul,Nat.add_comm]
theorem Lm {W:Γ} {base e size n:Nat} {v:Δ} {xs:List Δ} (h:W.ownsRow base e size v n xs):∃ a c,v=U a n c:=by
 rcases h.2 with⟨E,h0⟩|⟨g,T,cur,E,_⟩
 ·have G:=h.1;subst E;have H:n=0:=by
   first
    | exact h0
    | (subst h0;rw[ç] at G;rcases Nat.mul_eq_zero.1 G.symm with h|h<;>omega)
  rw[H];exact⟨_,_,rfl⟩
 exact⟨_,_,E⟩
theorem KF (L:List (List Opt)) (l8:L.length<=6) (iz:∀ os∈L,∀ o∈os,(Val o.head/\o.head.n.length<=64)/\Val o.rest/\o.rest.n.length<=64) (ja:∀ j,j<=L.length->(Ar (L.take j)).length<=256) (b o c:Nat) (w:Γ) (h:DT w b o L) :
  Calls Η 32 #[U (J ⟨b,o,I⟩) L.length c] w λe w'=>∃ v,e=Ψ v/\CaO w' w.heap.size w.heap.size v (Ar L)/\Ext w w':=by
 have HV:=Z h;have ma:=Z iz;have jb:=Z ja;obtain⟨m0,hm,jc,dc,jd⟩:=ϓ Ze;obtain⟨j0,hj,me,mf,mg⟩:=ϓ QZ;obtain⟨n,hn⟩:=Xq (L.length);have HN:=Z hn;rw[hn] at l8;rw[hn];clear h iz ja hn;have jf:=Z XA;go_enter Tryz.func32,Tryz.ntmps32;go_upto_region 2 with (refine Bk rfl 33 _ rfl #[U I 0 0,U I 0 0] ?_ ?_;(simp;with_reducible exact jf.o))
 have fb:=(Κ w).alloc (Β #[U I 0 0,U I 0 0] 33);have fc:CaO (w.alloc (Β #[U I 0 0,U I 0 0] 33)) w.heap.size w.heap.size (U (J ⟨w.heap.size,0,I⟩) 1 1) [[]]:=
  CaO.one (Á (base:=w.heap.size) (e:=33) (size:=2) w #[U I 0 0,U I 0 0] 1 (Υ _) (by unfold ϐ;omega) rfl) (HdO.nil _ _) (HdO.nil _ _)
 obtain⟨w1,fe⟩:=Xq (w.alloc (Β #[U I 0 0,U I 0 0] 33));rw[fe] at fb fc;simp only[fe];clear fe jf;have ay:=Z fc;clear fc;go_wp2_with (fail);go_loopw [3,17] (λz vi W=>∃ (j:Nat) (vo:Δ),j<=n/\vi=.int Φ j/\vo=z/\Ext w W/\ϟ (CaO W w.heap.size w.heap.size vo (Ar (L.take j))))
  (λ_ vi _=>n-(intOf vi).toNat)
 case atStart=>exact⟨0,_,by omega,rfl,rfl,fb,ay⟩
 clear fb ay;obtain⟨j,vo,oc,rfl,rfl,hE,HC⟩:=hrel;by_cases mh:j<n
 ·have od:(j:Int)<(n:Int):=by omega
  have ff:j<L.length:=by rw[HN.o];exact mh
  obtain⟨u,jg,jh⟩:=HV.o j ff;have fg:=Z (Ig L j [] ff);have fh:L.getD j []∈L:=Io ff;obtain⟨os,ji⟩:=Xq (L.getD j []);rw[ji] at jh fg fh;obtain⟨ao,co,rfl,jj⟩:=jh;have mi:=Z jj;have mj:=Z fh;have cu:=hE.cell jg;obtain⟨cs,de⟩:=Xq (Ar (L.take j));have jl:=Z de;have jm:=Z (show cs.length*os.length<=256 from by have h:=jb.o (j+1) (by omega);rw[fg.o,Sz,de] at h;exact h)
  rw[de] at HC;have ml:cs.length<=256:=by rw[<-de];exact jb.o j (by omega)
  clear de ji jj fh jg;obtain⟨xs,hx,fj⟩:=HC.o;obtain⟨av,cv,mm⟩:=Lm hx;subst mm;obtain⟨M,hM⟩:=Xq (cs.length);have HM:=Z hM;rw[hM] at hx fj ml;simp only[hM];have ed:=Z hx;have mo:=Z fj;clear HC hM hx fj;obtain⟨wL,mq⟩:∃ W,W=wr:=⟨_,rfl⟩;subst mq;obtain⟨N,fk⟩:=Xq (os.length);have dg:=Z fk;rw[fk] at cu;have oh:0<M->N<=256:=λh0=>by have h:=jm.o;rw[HM.o,fk] at h;exact μ (Nat.le_mul_of_pos_left N h0) h
  go_wp2_with (fail);clear cu;go_loopw [6,23] (λz vi W=>∃ (i:Nat) (vm:Δ),i<=M/\vi=.int Φ i/\vm=z/\Ext wL W/\ϟ (CaO W wL.heap.size w.heap.size vm (Fz (cs.take i) os)))
   (λ_ vi _=>M-(intOf vi).toNat)
  case atStart=>exact⟨0,_,by omega,rfl,rfl,Κ _,Z (CaO.nil _ _ _)⟩
  obtain⟨i,vm,om,rfl,rfl,ai,HC⟩:=hrel;by_cases ee:i<M
  ·have oo:(i:Int)<(M:Int):=by omega
   obtain⟨ca,dh⟩:=Xq (cs.getD i []);obtain⟨cg,jn⟩:=mo.o i ee;rw[dh] at cg jn;obtain⟨gO,mr⟩:∃ g,av=J ⟨g,0,I⟩:=by
    rcases ed.o.2 with⟨X,h0⟩|⟨g,ot,cur,X,_⟩
    ·exfalso
     injection X with _ X _
     omega
    injection X with X _ _
    exact⟨g,X⟩
   subst mr;obtain⟨x1,cj,ef⟩:=cg;obtain⟨x2,ck,eg⟩:=jn;rw[ι] at cj ck ef eg;obtain⟨k,hk⟩:=Xq (ca.length);have HK:=Z hk;have ou:=Z dh;rw[hk] at cj ck ef eg;obtain⟨a1,c1,cm⟩:=Lm cj;obtain⟨a2,c2,cp⟩:=Lm ck;have mu:=ed.o.1;have jq:wr.rangeAt gO (i*2) [U a1 k c1,U a2 k c2]:=λq v X=>by
    match q,X with
    | 0,X=>have X:J (Ϗ a1 k c1)=J v:=X;rw[<-X,<-cm];have h:=(Aa ed.o ai).cellAt (i*2) (by omega);rw[è,h,Ζ,Ι (by omega)];rfl
    | 1,X=>have X:J (Ϗ a2 k c2)=J v:=X;rw[<-X,<-cp];have h:=(Aa ed.o ai).cellAt (i*2+1) (by omega);rw[h,Ζ,Ι (by omega)];rfl
    | q+2,X=>simp at X
   rw[cm] at cj;rw[cp] at ck;have jr:=Z cj;have fm:=Z ck;have js:=Z ef;have jt:=Z eg;have ow:k<=6:=by
    have h1:ca∈Ar (L.take j):=by rw[jl.o,<-dh];exact Io (by rw[HM.o];exact ee)
    have h2:=(Kb _ _ h1).1;rw[Ö] at h2;omega
   have ju:ϟ (Fz (cs.take (i+1)) os=Fz (cs.take i) os++os.map λo=>ca++[o]):=Z (by rw[Ig cs i [] (by rw[HM.o];exact ee),dh,VG]);have mv:(Fz (cs.take i) os).length<=i*N:=by rw[VH,Ö,dg.o];exact Nat.mul_le_mul_right _ (Nat.min_le_left _ _)
   have oy:i*N+N<=256:=by have h:=jm.o;rw[HM.o,dg.o] at h;have h2:(i+1)*N<=M*N:=Nat.mul_le_mul_right _ ee;rw[Nat.succ_mul] at h2;omega
   clear mu dh cj ck ef eg cm cp hk;go_upto_region 9 with (first
    | (refine å rfl 33 (δ 25) rfl gO (i*2) rfl _ _ jq Tryz.underlying33 rfl (QY _ _) ?_)
    | (refine Sr 33 (δ 8) (δ 26) rfl (Ad wr (Β #[U I 0 0,U I 0 0] 33)) Rp rfl (by simp[ξ]) ?_))
   clear jq;have eh:=((Κ wr).alloc (Β #[U I 0 0,U I 0 0] 33)).setRow (Υ _) #[U a1 k c1,U a2 k c2];have ei:=Χ (wr.alloc (Β #[U I 0 0,U I 0 0] 33)) wr.heap.size _ #[U a1 k c1,U a2 k c2] _ _ (Ad wr _);have fo:((wr.alloc (Β #[U I 0 0,U I 0 0] 33)).setRow wr.heap.size #[U a1 k c1,U a2 k c2]).heap.size=wr.heap.size+1:=by rw[size_setRow,Ρ]
   obtain⟨w5,ej⟩:=Xq ((wr.alloc (Β #[U I 0 0,U I 0 0] 33)).setRow wr.heap.size #[U a1 k c1,U a2 k c2]);have jw:(wr.alloc (Β #[U I 0 0,U I 0 0] 33)).setRow wr.heap.size [Ϗ a1 k c1,Ϗ a2 k c2].toArray=w5:=ej;rw[ej] at eh ei fo;simp only[ej,jw];have fp:ϟ (vm.ownBlock≠J wr.heap.size):=Z (λe=>by obtain⟨ys,hy,_⟩:=HC.o;have:=(hy.lt _ e).2;omega)
   obtain⟨gC,fq⟩:=Xq (wr.heap.size);rw[fq] at ei fo fp;simp only[fq];have ek:gC<w5.heap.size:=by omega
   have oz:wL.heap.size<=gC:=by have:=ai.size;omega
   clear ej jw fq fo;have jx:=Z ei;have fs:=Z (HC.o.ext eh);have jy:=ai.t eh;clear ei HC ai eh;obtain⟨ms,jz⟩:=Xq (Fz (cs.take i) os);rw[jz] at fs ju mv;clear jz;go_wp2_with (fail);go_loopw [6,29] (λz vi W=>∃ (q:Nat) (vm:Δ),q<=N/\vi=.int Φ q/\vm=z/\Ext wL W/\gC<W.heap.size/\ϟ (W.heap[gC]? = J (Β #[U a1 k c1,U a2 k c2] 33 (0,0)))/\ϟ (vm.ownBlock≠J gC)/\ϟ (CaO W wL.heap.size w.heap.size vm (ms++(os.take q).map λo=>ca++[o])))
    (λ_ vi _=>N-(intOf vi).toNat)
   case atStart=>exact⟨0,_,by omega,rfl,rfl,jy,ek,jx,fp,Z (by rw[List.take_zero,List.map_nil,õ];exact fs.o)⟩
   clear jy ek jx fp fs;obtain⟨q,vm,o2,rfl,rfl,ai,ek,HB,j1,HC⟩:=hrel;by_cases my:q<N
   ·have o3:(q:Int)<(N:Int):=by omega
    obtain⟨wB,mz⟩:∃ W,W=wr:=⟨_,rfl⟩;subst mz;have fu:q<os.length:=by rw[dg.o];exact my
    obtain⟨gp,h1,h2,h3,r1,r2,r3,la,ln,lc,nc,hr,cq,ct⟩:=mi.o q fu;subst nc;have cw:=hE.t ai;have j4:wB.rangeAt gp (q*7) [h1,h2,h3,r1,r2,r3,U la ln lc]:=λx v hx=>cw.cell (hr x v hx)
    have cq:=cq.ext cw;have ct:=ct.ext cw;have fv:os[q]∈os:=ϣ fu;have j5:ϟ ((os.take (q+1)).map (λo=>ca++[o])=(os.take q).map (λo=>ca++[o])++[ca++[os[q]]]):=Z (by rw[Õ fu,ϩ];rfl);obtain⟨T,j6⟩:=Xq (os[q]);rw[j6] at cq ct fv j5;obtain⟨⟨cm,j7⟩,cp,j8⟩:=ma.o os mj.o T fv;obtain⟨ac,ba,cc,an,cn,aa,bf,bg,j9⟩:=cq.agg;obtain⟨bh,bj,bk,bl,bm,bn,bo,bp,ka⟩:=ct.agg;simp only[dA,Δ.agg.injEq,Array.mk.injEq,ì,and_true] at j9 ka;obtain⟨rfl,rfl,rfl⟩:=j9;obtain⟨rfl,rfl,rfl⟩:=ka;have o4:=cw.size;clear hr fv j6;go_upto_region 12 with (first
     | (refine å rfl 141 (δ 31) rfl gp (q*7) rfl _ _ j4 Tryz.underlying141 rfl (RD _ _ _ _ _ _ _) ?_)
     | (refine Sr 141 (δ 10) (δ 32) rfl (Ad wB (Β #[U I 0 0,U I 0 0,U I 0 0,U I 0 0,U I 0 0,U I 0 0,U I 0 0] 141)) RC rfl (by simp[ξ]) ?_))
    have en:=((Κ wB).alloc (Β #[U I 0 0,U I 0 0,U I 0 0,U I 0 0,U I 0 0,U I 0 0,U I 0 0] 141)).setRow (Υ _) #[U ac ba cc,U an T.head.n.length cn,U aa bf bg,U bh bj bk,U bl T.rest.n.length bm,U bn bo bp,U la ln lc];have eo:=Χ (wB.alloc (Β #[U I 0 0,U I 0 0,U I 0 0,U I 0 0,U I 0 0,U I 0 0,U I 0 0] 141)) wB.heap.size _ #[U ac ba cc,U an T.head.n.length cn,U aa bf bg,U bh bj bk,U bl T.rest.n.length bm,U bn bo bp,U la ln lc] _ _ (Ad wB _);obtain⟨w6,ep⟩:=Xq ((wB.alloc (Β #[U I 0 0,U I 0 0,U I 0 0,U I 0 0,U I 0 0,U I 0 0,U I 0 0] 141)).setRow wB.heap.size #[U ac ba cc,U an T.head.n.length cn,U aa bf bg,U bh bj bk,U bl T.rest.n.length bm,U bn bo bp,U la ln lc]);rw[ep] at en eo;simp only[ep];obtain⟨gX,fw⟩:=Xq (wB.heap.size);rw[fw] at eo;simp only[fw];clear ep fw j4;have nd:=Z eo;have nf:=Z cq;have ng:=Z ct;have fx:=Z (en.heap HB.o);have bq:=Z en;clear eo cq ct;have k8:w6.cell? ⟨gC,0,I⟩=J (U a1 k c1):=Τ w6 gC 0 _ _ _ fx.o;go_upto_region 13 with (fail)
    clear k8 en;refine EI 8 76 (by kernel_rfl) (by kernel_rfl) rfl (S4 w6.heap.size k) S3 VK (VL _ _) (λi nh=>?_) (λvs w7 kb hF hN=>?_)
    ·have cg:=(Κ w6).drew
     match i,nh with
     | 0,_=>
      refine Hq _ _ rfl rfl rfl λc W hW ak bt bz=>?_
      have h3:c.tmps.getD 11 Ω=iv k:=bt 11 (by kernel_rfl);go_simp;exact⟨_,rfl,Κ W,rfl,λ_ _ _ _ _ aq=>absurd aq (by omega)⟩
     | 1,_=>
      refine Hq _ _ rfl rfl rfl λc W hW ak bt bz=>?_
      have h3:c.tmps.getD 36 Ω=iv k:=ak 0 36 (by kernel_rfl);have kc:(k:Int)<7:=by omega
      go_simp;exact⟨_,rfl,Κ W,(by show Â Ü (Ü.wrap ((k:Int)+1))=iv (k+1);rw[IntWalk.i64_in _ ⟨by omega,by omega⟩];rfl),λ_ _ _ _ _ aq=>absurd aq (by omega)⟩
     | 2,_=>
      refine Hq _ _ rfl rfl rfl λc W hW ak bt bz=>?_
      have h3:c.tmps.getD 37 Ω=iv (k+1):=ak 1 37 (by kernel_rfl);refine Gz W _ _ 31 rfl w6.heap.size 40 m0 (.agg #[U I 0 0,U I 0 0,U I 0 0]) 3 Tryz.underlying31 hm jc dc Φ Φ _ _ (k+1) h3 h3 rfl rfl (by rw[jd];omega) (by unfold ϐ;omega) (cg.t hW).size ?_;intro W' fy fz;refine⟨_,rfl,(Κ W).grown fz (λk e=>by cases e),⟨_,rfl,_,fy⟩,λj u hj nj ga aq=>?_⟩;obtain rfl:j=5:=by omega
      obtain⟨g,h4,zs,h5⟩:=ga;rw[h4] at h5 ⊢;intro e;injection e with e _ _
      injection e with e
      injection e with e
      have:=(h5.lt g rfl).2;omega
     | 3,_=>
      refine Hq _ _ rfl rfl rfl λc W hW ak bt bz=>?_
      have h3:c.tmps.getD 11 Ω=iv k:=bt 11 (by kernel_rfl);go_simp;exact⟨_,rfl,Κ W,rfl,λ_ _ _ _ _ aq=>absurd aq (by omega)⟩
     | 4,_=>
      refine Hq _ _ rfl rfl rfl λc W hW ak bt bz=>?_
      have h3:c.tmps.getD 39 Ω=iv k:=ak 3 39 (by kernel_rfl);have kc:(k:Int)<7:=by omega
      go_simp;exact⟨_,rfl,Κ W,(by show Â Ü (Ü.wrap ((k:Int)+1))=iv (k+1);rw[IntWalk.i64_in _ ⟨by omega,by omega⟩];rfl),λ_ _ _ _ _ aq=>absurd aq (by omega)⟩
     | 5,_=>
      refine Hq _ _ rfl rfl rfl λc W hW ak bt bz=>?_
      have h3:c.tmps.getD 40 Ω=iv (k+1):=ak 4 40 (by kernel_rfl);refine Gz W _ _ 31 rfl w6.heap.size 40 m0 (.agg #[U I 0 0,U I 0 0,U I 0 0]) 3 Tryz.underlying31 hm jc dc Φ Φ _ _ (k+1) h3 h3 rfl rfl (by rw[jd];omega) (by unfold ϐ;omega) (cg.t hW).size ?_;intro W' fy fz;refine⟨_,rfl,(Κ W).grown fz (λk e=>by cases e),⟨_,rfl,_,fy⟩,λj u hj nj ga aq=>?_⟩;obtain rfl:j=2:=by omega
      obtain⟨g,h4,zs,h5⟩:=ga;rw[h4] at h5 ⊢;intro e;injection e with e _ _
      injection e with e
      injection e with e
      have:=(h5.lt g rfl).2;omega
     | 6,_=>
      refine Hq _ _ rfl rfl rfl λc W hW ak bt bz=>?_
      obtain⟨E,kd,gd,cy⟩:∃ g,c.tmps.getD 38 Ω=U (J ⟨g,0,I⟩) (k+1) (k+1)/\∃ zs,W.ownsRow w6.heap.size 40 3 (c.tmps.getD 38 Ω) (k+1) zs:=ak 2 38 (by kernel_rfl);obtain⟨G,ke,gf,cz⟩:∃ g,c.tmps.getD 41 Ω=U (J ⟨g,0,I⟩) (k+1) (k+1)/\∃ zs,W.ownsRow w6.heap.size 40 3 (c.tmps.getD 41 Ω) (k+1) zs:=ak 5 41 (by kernel_rfl);have gg:c.tmps.getD 38 Ω≠c.tmps.getD 41 Ω:=bz 2 5 38 41 (by omega) (by kernel_rfl) (by kernel_rfl) (.inl ⟨rfl,rfl⟩);rw[kd] at cy gg;rw[ke] at cz gg;refine Cr (Fy 33 _ rfl (A:=#[U (J ⟨E,0,I⟩) (k+1) (k+1),U (J ⟨G,0,I⟩) (k+1) (k+1)]) ?_ W) ?_
      ·have e:(Array.map (λ(i,x)=>(i,c.eval x)) #[(0,Ñ.tmp 38),(1,Ñ.tmp 41)]).toList=[(0,c.eval (δ 38)),(1,c.eval (δ 41))]:=by simp
       rw[e,show c.eval (δ 38)=_ from kd,show c.eval (δ 41)=_ from ke];exact XB _ _ _ _ _ _
      exact⟨_,rfl,Κ W,⟨E,G,λe=>gg (by rw[e]),rfl,⟨gd,cy⟩,⟨gf,cz⟩⟩,λ_ _ _ _ _ aq=>absurd aq (by omega)⟩
     | 7,_=>
      refine Hq _ _ rfl rfl rfl λc W hW ak bt bz=>?_
      go_simp;exact⟨_,rfl,(Κ W).alloc _,⟨_,rfl,Ad W _,(cg.t hW).size⟩,λ_ _ _ _ _ aq=>absurd aq (by omega)⟩
    have kf:vs 0=iv k:=hF 0 (by omega);have kg:vs 1=iv (k+1):=hF 1 (by omega);obtain⟨_,kh,-⟩:∃ g,vs 2=U (J ⟨g,0,I⟩) (k+1) (k+1)/\_:=hF 2 (by omega);have ki:vs 3=iv k:=hF 3 (by omega);have kj:vs 4=iv (k+1):=hF 4 (by omega);obtain⟨_,kk,-⟩:∃ g,vs 5=U (J ⟨g,0,I⟩) (k+1) (k+1)/\_:=hF 5 (by omega);obtain⟨E,G,er,kl,⟨gd,cy⟩,gf,cz⟩:∃ E G,E≠G/\vs 6=.agg #[U (J ⟨E,0,I⟩) (k+1) (k+1),U (J ⟨G,0,I⟩) (k+1) (k+1)]/\(∃ zs,w7.ownsRow w6.heap.size 40 3 (U (J ⟨E,0,I⟩) (k+1) (k+1)) (k+1) zs)/\∃ zs,w7.ownsRow w6.heap.size 40 3 (U (J ⟨G,0,I⟩) (k+1) (k+1)) (k+1) zs:=hF 6 (by omega);obtain⟨gY,km,H7,kn⟩:∃ g,vs 7=.pointer (J ⟨g,0,I⟩)/\_/\_:=hF 7 (by omega);simp only[Bq,List.drop_succ_cons,List.drop_zero,kf,kg,kh,ki,kj,kk,kl,km,List.getElem?_toArray,Å,Æ,Option.bind_some,η,Θ,Μ,Λ];clear hF hN kf kg kh ki kj kk kl km;go_upto_region 14 with (refine Sr 33 (δ 12) (δ 42) rfl H7 Rp rfl (by simp[ξ]) ?_)
    have c3:=((Κ w6).drew.t kb).setRow kn #[U (J ⟨E,0,I⟩) (k+1) (k+1),U (J ⟨G,0,I⟩) (k+1) (k+1)];have c4:=Z (Χ w7 gY _ #[U (J ⟨E,0,I⟩) (k+1) (k+1),U (J ⟨G,0,I⟩) (k+1) (k+1)] _ _ H7);have gi:=Cc w7 gY #[U (J ⟨E,0,I⟩) (k+1) (k+1),U (J ⟨G,0,I⟩) (k+1) (k+1)];have b9:=cy.kept gi (B3 cy H7 (by decide));have c5:=cz.kept gi (B3 cz H7 (by decide));obtain⟨w8,gj⟩:=Xq (w7.setRow gY #[U (J ⟨E,0,I⟩) (k+1) (k+1),U (J ⟨G,0,I⟩) (k+1) (k+1)]);rw[gj] at c3 c4 b9 c5;simp only[gj];clear gj gi cy cz H7 kb kn;have o5:=ai;have nk:=c3;have gk:=(ai.t bq.o).trans c3;have ko:=Aa jr.o gk;have nl:=Aa fm.o gk;have gl:x1.length=k*3:=jr.o.1;have gm:x2.length=k*3:=fm.o.1;have kq:Nat.min k (k+1)=k:=Nat.min_eq_left (by omega);have ay:=Z (λj (hj:j<x1.length)=>Jo b9 0 j (by omega));have dq:=Z (λj (hj:j<x1.length)=>(ay.o j hj).1);have dr:=Z (λj (hj:j<x1.length)=>(ay.o j hj).2);have kr:=Z (Zm (ds:=ca.map (·.head)) (by rw[ι,HK.o];exact gl) (λi hi=>js.o i (by rw[ι,HK.o] at hi;exact hi)));have ks:=Z (Zm (ds:=ca.map (·.rest)) (by rw[ι,HK.o];exact gm) (λi hi=>jt.o i (by rw[ι,HK.o] at hi;exact hi)));have gq:=Z (W5 ko);have gu:w8.cell? ⟨gY,0,I⟩=J (U (J ⟨E,0,I⟩) (k+1) (k+1)):=Τ w8 gY 0 _ _ _ c4.o;have gv:w8.cell? ⟨gC,0,I⟩=J (U a1 k c1):=Τ w8 gC 0 _ _ _ (c3.heap fx.o);have kt:=Z gl;have gw:=Z gm;have ku:=Z kq;clear gl gm kq;go_upto_region 15 with (with_reducible refine Ue rfl (δ 44) (δ 46) 31 31 rfl 40 3 Tryz.underlying31 Ae E 0 (k+1) (k+1) a1 k c1 k rfl rfl ku.o x1 kt.o gq.o.1 gq.o.2 dq.o dr.o kr.o ?_)
    clear gu gv ay dq dr gq;obtain⟨et,eu⟩:=Il x1 w8 gd 0 b9;have o6:w6.heap.size<=E:=(b9.lt E rfl).1;have o7:w6.heap.size<=G:=(c5.lt G rfl).1;have dt:=c3.grown eu (λk e=>by injection e;omega);have du:=c5.kept eu (Cd c5 (Ne.symm er));have c7:=Z ((eu.block gY (Al c4.o) (Fh b9 c4.o (by decide))).trans c4.o);have dc:=b9.1;have kv:=c5.1;obtain⟨w9,gx⟩:=Xq (w8.setCells E 0 x1);rw[gx] at et dt du c7;simp only[gx];have kx:=(ai.t bq.o).trans dt;clear gx eu b9 c5 c4 c3 nk gk ko nl;have ky:=Aa fm.o kx;have nm:=Z dc;have nn:=Z kv;clear dc kv;have ay:=Z (λj (hj:j<x2.length)=>Jo du 0 j (by have:=gw.o;omega));have dq:=Z (λj (hj:j<x2.length)=>(ay.o j hj).1);have dr:=Z (λj (hj:j<x2.length)=>(ay.o j hj).2);have gy:=Z (W5 ky);have gu:w9.cell? ⟨gY,1,I⟩=J (U (J ⟨G,0,I⟩) (k+1) (k+1)):=Τ w9 gY 1 _ _ _ c7.o;have gv:w9.cell? ⟨gC,1,I⟩=J (U a2 k c2):=Τ w9 gC 1 _ _ _ (dt.heap fx.o);clear ky;go_upto_region 16 with (with_reducible refine Ue rfl (δ 49) (δ 51) 31 31 rfl 40 3 Tryz.underlying31 Ae G 0 (k+1) (k+1) a2 k c2 k rfl rfl ku.o x2 gw.o gy.o.1 gy.o.2 dq.o dr.o ks.o ?_)
    clear gu gv ay dq dr gy kr ks;obtain⟨gz,ev⟩:=Il x2 w9 gf 0 du;have ew:=dt.grown ev (λk e=>by injection e;omega);have ha:=et.kept ev (Cd et er);have hf:=Z ((ev.block gY (Al c7.o) (Fh du c7.o (by decide))).trans c7.o);obtain⟨ey,hh⟩:=Xq (w9.setCells G 0 x2);rw[hh] at gz ew ha hf;simp only[hh];clear hh ev et du c7 dt kx;have kz:∀ V,Ext w6 V->Ext wL V:=λV H=>(ai.t bq.o).trans H
    have np:=Z kz;have nq:=Z cm;have nr:=Z cp;have ns:=Z j7;have nt:=Z j8;have ep:=bq.o.size;clear kz cm cp j7 j8;have nu:=Z (λ(V:Γ) (H:V.heap[gY]? = J (Β #[U (J ⟨E,0,I⟩) (k+1) (k+1),U (J ⟨G,0,I⟩) (k+1) (k+1)] 33 (0,0))/\V.heap[gX]? = J (Β #[U ac ba cc,U an T.head.n.length cn,U aa bf bg,U bh bj bk,U bl T.rest.n.length bm,U bn bo bp,U la ln lc] 141 (0,0)))=>ï (Τ V gY 0 _ _ _ H.1) (Τ V gY 1 _ _ _ H.1));have k0:=Z (λ(V:Γ) (H:V.heap[gX]? = J (Β #[U ac ba cc,U an T.head.n.length cn,U aa bf bg,U bh bj bk,U bl T.rest.n.length bm,U bn bo bp,U la ln lc] 141 (0,0)))=>ï
     (show V.rangeAt gX 0 [U ac ba cc,U an T.head.n.length cn,U aa bf bg] from λx v hx=>by
      match x,hx with
      | 0,hx=>exact (Τ V gX 0 _ _ _ H).trans hx
      | 1,hx=>exact (Τ V gX 1 _ _ _ H).trans hx
      | 2,hx=>exact (Τ V gX 2 _ _ _ H).trans hx
      | x+3,hx=>simp at hx)
     (show V.rangeAt gX 3 [U bh bj bk,U bl T.rest.n.length bm,U bn bo bp] from λx v hx=>by
      match x,hx with
      | 0,hx=>exact (Τ V gX 3 _ _ _ H).trans hx
      | 1,hx=>exact (Τ V gX 4 _ _ _ H).trans hx
      | 2,hx=>exact (Τ V gX 5 _ _ _ H).trans hx
      | x+3,hx=>simp at hx))
    have ez:=(Κ ey).drew.heap (ew.heap nd.o);have e0:=(Κ ey).drew.heap hf.o;refine Bl 15 [(0,Α),(1,Α),(2,Α),(3,Α),(4,Α),(5,Α),(6,Α),(7,Α),(9,Α),(10,Α),(8,Ε),(11,Ε),(12,Α),(13,Ε),(14,Α),(15,Ε)] (by kernel_rfl) (by kernel_rfl) (λ_ _ _ _ h=>h)
     (λV=>V.heap[gY]? = J (Β #[U (J ⟨E,0,I⟩) (k+1) (k+1),U (J ⟨G,0,I⟩) (k+1) (k+1)] 33 (0,0))/\V.heap[gX]? = J (Β #[U ac ba cc,U an T.head.n.length cn,U aa bf bg,U bh bj bk,U bl T.rest.n.length bm,U bn bo bp,U la ln lc] 141 (0,0))) ⟨e0,ez⟩ ?_
    have dv:=(Κ ey).drew;obtain⟨wy,hl⟩:=Xq (ey.drew);rw[hl] at dv ez e0;rw[hl];have e1:=ew.t dv;have k5:=Z (Aa ha dv);have k6:=Z (Aa gz dv);clear hl dv ew ha gz hf;have ho:=Z ez;have hp:=Z e0;clear ez e0;have kc:(k:Int)<(k:Int)+1:=by omega
    iterate 7
     refine Af (v:=?_) rfl rfl (λV H=>?_) ?_
     rotate_left
     ·obtain⟨y0,y1⟩:=nu.o V H;clear H;go_simp;first|done|with_reducible rfl
     simp only[η,Θ,Μ,Λ]
    refine Af (v:=.agg #[U ac ba cc,U an T.head.n.length cn,U aa bf bg]) rfl rfl (λV H=>Cg 40 (δ 59) rfl gX 0 rfl _ _ (k0.o V H.2).1 Ο rfl (Dk _ _ _)) ?_;simp only[η,Θ,Μ,Λ];refine Af (v:=?_) rfl rfl (λV H=>?_) ?_
    rotate_left
    ·clear H;go_simp;first|done|with_reducible rfl
    simp only[η,Θ,Μ,Λ];refine Af (v:=.agg #[U bh bj bk,U bl T.rest.n.length bm,U bn bo bp]) rfl rfl (λV H=>Cg 40 (δ 62) rfl gX 3 rfl _ _ (k0.o V H.2).2 Ο rfl (Dk _ _ _)) ?_;simp only[η,Θ,Μ,Λ];have f154:=Z (Wv T.head nq.o ns.o (.agg #[U ac ba cc,U an T.head.n.length cn,U aa bf bg]) wy (nf.o.ext (bq.o.t e1)));refine Ao rfl (λK hK=>?_);go_simp
    (with_reducible refine f154.o.mono ?_)
    rintro e wz ⟨v1,rfl,hq,b0⟩;obtain⟨A1,rfl,k9,lb⟩:=hq.agg;refine hK _ _ (λ_=>⟨b0.heap hp.o,b0.heap ho.o⟩) ?_;clear hK K f154;have e3:=e1.t b0;have hs:=Z (b0.heap hp.o);have ht:=Z (b0.heap ho.o);have lf:=Z (Aa k5.o b0);have lg:=Z (Aa k6.o b0);have lh:=Z (hq.base (show w.heap.size<=wy.heap.size by have:=(cw.trans (bq.o.t e1)).size;omega));have hz:=Z k9;have nv:=Z lb;clear hq b0 hp ho k5 k6 e1 k9 lb;have f154:=Z (Wv T.rest nr.o nt.o (.agg #[U bh bj bk,U bl T.rest.n.length bm,U bn bo bp]) wz (ng.o.ext (bq.o.t e3)));refine Ao rfl (λK hK=>?_);go_simp
    (with_reducible refine f154.o.mono ?_)
    rintro e wu ⟨v2,rfl,h7,bw⟩;obtain⟨A2,rfl,lj,lk⟩:=h7.agg;refine hK _ _ (λ_=>⟨bw.heap hs.o,bw.heap ht.o⟩) ?_;clear hK K f154;have ll:=e3.t bw;have e5:=bw.heap hs.o;have e6:=bw.heap ht.o;have cb:=Aa lf.o bw;have h8:=Aa lg.o bw;have lo:=lh.o.ext bw;have lp:=h7.base (show w.heap.size<=wz.heap.size by have:=(cw.trans (bq.o.t e3)).size;omega);have h9:=Z lj;have nw:=Z lk;clear h7 bw hs ht lf lg e3 lh lj lk;refine Af (v:=?_) rfl rfl (λV H=>?_) ?_
    rotate_left
    ·clear H;go_simp;first|done|with_reducible rfl
    simp only[η,Θ,Μ,Λ];have lq:=Z (show wu.there E (k*3) A1.size from λx hx=>Jo cb (k*3) x (by have:=hz.o;omega));obtain⟨e7,cd⟩:=Il A1.toList wu _ (k*3) cb;refine Ao rfl (λK hK=>?_);refine La 40 (δ 65) (δ 61) rfl rfl E (k*3) A1 (by first|rfl|(go_simp;done)) rfl lq.o (by rw[hz.o];exact Ae) nv.o ?_;have c9:=(cd.block gY (Al e5) (Fh cb e5 (by decide))).trans e5;have ia:=(cd.block gX (Al e6) (Fh cb e6 (by decide))).trans e6;refine hK _ _ (λ_=>⟨c9,ia⟩) ?_;clear hK K lq;have ib:=ll.grown cd (λk e=>by injection e;omega);have cf:=h8.kept cd (Cd h8 (Ne.symm er));have ic:=lo.keptT cb (by decide) cd;have ie:=lp.keptT cb (by decide) cd;obtain⟨wv,ih⟩:=Xq (wu.setCells E (k*3) A1.toList);rw[ih] at e7 c9 ia ib cf ic ie;rw[ih];clear ih cd ll e5 e6 cb h8 lo lp;refine Af (v:=?_) rfl rfl (λV H=>?_) ?_
    rotate_left
    ·clear H;go_simp;first|done|with_reducible rfl
    simp only[η,Θ,Μ,Λ];have lr:=Z (show wv.there G (k*3) A2.size from λx hx=>Jo cf (k*3) x (by have:=h9.o;omega));obtain⟨ij,da⟩:=Il A2.toList wv _ (k*3) cf;refine Ao rfl (λK hK=>?_);refine La 40 (δ 66) (δ 64) rfl rfl G (k*3) A2 (by first|rfl|(go_simp;done)) rfl lr.o (by rw[h9.o];exact Ae) nw.o ?_;refine hK _ _ (λh=>absurd h (by omega)) ?_;clear hK K lr;refine Bj ?_;have ik:=(da.block gY (Al c9) (Fh cf c9 (by decide))).trans c9;have e8:=ib.grown da (λk e=>by injection e;omega);have il:=e7.kept da (Cd e7 er);have im:=ic.keptT cf (by decide) da;have ir:=ie.keptT cf (by decide) da;obtain⟨wf,iu⟩:=Xq (wv.setCells G (k*3) A2.toList);rw[iu] at ij ik e8 il im ir;rw[iu];clear iu da ib c9 ia e7 cf ic ie;have dw:=np.o wf e8;have e9:=bq.o.t e8;have lu:w.heap.size<=w6.heap.size:=by omega
    have lv:ϟ (HdO wf w.heap.size (U (J ⟨E,0,I⟩) (k+1) (k+1)) ((ca++[T]).map (·.head))):=Z (by rw[ϩ];exact HdO.mk' (by rw[ι,HK.o]) nm.o kt.o hz.o (Ff il lu) (λi hi=>(js.o i hi).ext dw) im)
    have lx:ϟ (HdO wf w.heap.size (U (J ⟨G,0,I⟩) (k+1) (k+1)) ((ca++[T]).map (·.rest))):=Z (by rw[ϩ];exact HdO.mk' (by rw[ι,HK.o]) nn.o gw.o h9.o (Ff ij lu) (λi hi=>(jt.o i hi).ext dw) ir)
    have ly:=Z ik;obtain⟨xm,dx,iw⟩:=HC.o.ext e9;obtain⟨cnt,fa⟩:=Xq ((ms++(os.take q).map λo=>ca++[o]).length);have pc:cnt<=256:=by rw[<-fa,Ν,ι,Ö];have:=dg.o;omega
    have n0:=Z fa;rw[fa] at dx iw;have l2:=Z iw;have l3:gC<wf.heap.size:=Ξ ek e9.size;have ix:=Z (e9.heap HB.o);have n1:=dw.size;clear ik e8 il ij im ir fa iw HB HC e9;go_upto_region 18 with (first
     | (refine Lr 33 (δ 12) ly.o Tryz.underlying33 Rp ?_)
     | (at_builtin;refine Ϙ _ rfl _ _ 27 rfl wL.heap.size 33 j0 (.agg #[U I 0 0,U I 0 0]) 2 48 Tryz.underlying27 hj me mf mg rfl (by decide) vm cnt xm rfl (dx.alloc _) _ 1 1 [U (J ⟨E,0,I⟩) (k+1) (k+1),U (J ⟨G,0,I⟩) (k+1) (k+1)] rfl rfl (Γ.news_of_block (Ad wf _)) (by simp[ξ]) (by decide) (by unfold ϐ;omega) (by omega) (by rw[Ρ];omega) _ rfl ?_;intro gn l4 wn l5 dy l6 n2))
    have al:=(Κ wf).alloc (Β #[Ϗ (J ⟨E,0,I⟩) (k+1) (k+1),Ϗ (J ⟨G,0,I⟩) (k+1) (k+1)] 33);have l7:=Aa dx al;have n3:ϟ (CaO wn wL.heap.size w.heap.size (U (J ⟨gn,0,I⟩) (cnt+1) l4) (ms++(os.take (q+1)).map λo=>ca++[o])):=Z (by rw[j5.o,<-List.append_assoc];exact CaO.snoc n0.o l7 (λi hi=>⟨(l2.o i hi).1.ext al,(l2.o i hi).2.ext al⟩) dy l5 (lv.o.ext al) (lx.o.ext al))
    have n4:=(dw.trans al).grown dy (λx e=>(dx.lt x e).1);have n5:=Z ((dy.block gC (Al (al.heap ix.o)) (λe=>j1.o e.symm)).trans (al.heap ix.o));have n9:ϟ ((Ϗ (J ⟨gn,0,I⟩) (cnt+1) l4).ownBlock≠J gC):=Z (λe=>by
     have e:J gn=J gC:=e;injection e with e
     subst e;rcases l6 with h|h
     ·exact j1.o h
     have:=al.size;omega)
    have oa:gC<wn.heap.size:=Ξ (Ξ l3 al.size) dy.size;clear dy l5 l6 n2 al l7 dx ix l3 dw ly lv lx n1;go_wp2_with (fail);go_roundw
    case rel=>exact⟨q+1,_,by omega,by go_num,rfl,n4,oa,n5,n9,n3⟩
    simp[intOf]<;>omega
   obtain rfl:N=q:=by omega
   have dz:ϟ (CaO wr wL.heap.size w.heap.size vm (Fz (cs.take (i+1)) os)):=Z (by have h:=HC.o;rw[ß (by rw[dg.o];exact Υ _)] at h;rw[ju.o];exact h)
   clear HC;go_wp2_with (fail);go_roundw
   case rel=>exact⟨i+1,_,by omega,by go_num,rfl,ai,dz⟩
   simp[intOf]<;>omega
  obtain rfl:M=i:=by omega
  have hC:CaO wr w.heap.size w.heap.size vm (Ar (L.take (j+1))):=by have h:=HC.o;rw[ß (by rw[HM.o];exact Υ _)] at h;rw[fg.o,AQ,jl.o];exact h.base hE.size
  have dz:=Z hC;have ob:=hE.t ai;clear hC HC;go_wp2_with (fail);go_roundw
  case rel=>exact⟨j+1,_,by omega,by go_num,rfl,ob,dz⟩
  simp[intOf]<;>omega
 obtain rfl:n=j:=by omega
 have hC:CaO wr w.heap.size w.heap.size vo (Ar L):=by have h:=HC.o;rw[ß (by rw[HN.o];exact Υ _)] at h;exact h
 have dz:=Z hC;clear hC HC;go_wp2_with (fail);go_ret;exact⟨_,rfl,dz.o,hE⟩
end Go.Proofs.YtilncahcpjlfnaaGreatDoor
