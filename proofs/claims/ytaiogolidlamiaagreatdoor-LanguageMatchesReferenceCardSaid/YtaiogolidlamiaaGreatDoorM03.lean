import Derived.Shelf.SlSortCmp.WholeK
import Derived.Test.YtaiogolidlamiaaGreatDoorM02
import Derived.Test.YtaiogolidlamiaaGreatDoorM01
import Derived.Laws.IdiomStrings
import Derived.Deep.AppendLies
import Derived.Deep.MidRow
import Derived.Deep.RegionHeldLaw
import Derived.Maps.OwnSet
import Derived.WideKeyPair
import Derived.DeepKeys4
set_option linter.unusedVariables false
set_option linter.unusedSimpArgs false
open Array renaming toList_setIfInBounds → è
open Bool renaming false → Τ, false_eq_true → â, true → Ξ
open Go renaming Value → Ρ, World → Κ, Calls → Ϝ, info_parts → ϕ, maxLen → ϙ, TypeId → Á, wpList_append_lies → ϐ, cell_one_new → Ϫ, undef → ς, Operand → ϻ, heap_alloc2_new → Ϙ, cell_of_row → Ω, wpList_store_row → Φ, setRow_heap → μ, wpList_load_row → Υ, frozen_of_row → Ϯ, setCell_eq_setRow → Ϥ, bodyPost_ret → ϋ
open Go.Ending renaming returned → ν
open Go.IntKind renaming u64 → π, i64 → ζ, i64 → ç
open Go.Lib renaming hid → Α
open Go.Obj renaming cells → Ε
open Go.Operand renaming tmp → η
open Go.Proofs.Tryz renaming prog → Η, underlying22 → Ϸ, zeroCells108 → ξ, underlying62 → ϗ, underlying108 → Ϭ, zeroCells77 → ώ
open Go.RowKit renaming Hid → Ϻ
open Go.Value renaming slice → Β, tuple → ϥ, oneCell' → ϊ, slice → ϟ
open Go.World renaming ownsRow_nil → Í, size_alloc → Λ, ownsRow → ϛ
open List renaming size_toArray → ø, getD_eq_getElem?_getD → Ζ, pairwise_iff_getElem → ϯ, length_append → Ο, ext_getElem? → ϡ, getElem?_set → ϲ, length_set → ύ, getElem?_eq_none → Ϩ, map_append → ϔ, range → ι, getElem?_append_left → Ϣ, getElem?_append_right → ϑ, map_congr_left → Ð, mem_range → υ, mem_append → Ó, mem_map → À, mem_cons → Û, not_mem_nil → ô, replicate → δ, take_succ_eq_append_getElem → Å, getElem?_eq_getElem → Μ, mem_singleton → ϳ, getElem_mem → á, getElem?_map → Ϟ
open Nat renaming le_refl → θ, lt_of_lt_of_le → ε, le_trans → ψ
open Option renaming some → Δ, none → Γ
open UInt8 renaming ofNat → χ
namespace Go.Proofs.YtaiogolidlamiaaGreatDoor
set_option maxRecDepth 100000
set_option maxHeartbeats 4000000
open Go.RowKit Go.Shelf
theorem ltC (x y:Cls):ltOf Kt x y=decide (Bv (Al x 256)<Bv (Al y 256)):=by
 unfold ltOf Kt;by_cases h:Bv (Al x 256)<Bv (Al y 256)
 ·simp only[h,decide_true,decide_eq_true_eq];omega
 ·simp only[h,decide_false,decide_eq_false_iff_not];omega
theorem Abf:Go.Sort.SWO (ltOf Kt) where
 irrefl x:=by rw[ltC];simp
 trans x y z D E:=by rw[ltC] at *;simp at *;omega
 ntrans x y z D E:=by rw[ltC] at *;simp at *;omega
theorem S2 {α:Type} [Inhabited α] (D:α->List Ρ) (k:Nat) (w:Κ) (blk E m:Nat) (G:Array α) (os:Array Obj):w.grownBy (sortWorldK D k w blk E m G os) (Δ blk):=by
 refine⟨rfl,rfl,rfl,Go.Proofs.size_sortWorldK_c D k w blk E m G os,λi hi H=>?_⟩;have I:i≠blk:=λe=>H (by rw[e])
 unfold sortWorldK Go.Sort.putRowK Go.Sort.putRow Go.Sort.mapBlock;show ((w.heap.modify blk _)++os)[i]? = _;rw[Array.getElem?_append,if_pos (by simpa using hi),Array.getElem?_modify,if_neg (λe=>I e.symm)]
theorem Ab7 (l:List Cls) (blk D T:Nat) (w:Κ) (hT:Tab w) (a1:0<blk) (U:blk<w.heap.size) (ah:l.length<4611686018427387904)
  (hc:∀ i,i<l.length*4->w.cell? ⟨blk,D+i,Γ⟩=Δ (.int π (wd (l.getD (i / 4) 0#256) (i % 4)))) (hf:∀ i,w.frozen? ⟨blk,i,Γ⟩=Τ) :
  Ϝ Η 155 #[Β (Δ ⟨blk,D,Γ⟩) l.length T,.func (.func 156) #[] #[]] w λe w'=>e=ν (ϥ #[])/\w.grownBy w' (Δ blk)/\
   ∃ H:List Cls,H.length=l.length/\H.Perm l/\H.Pairwise (λa b=>Bv (Al a 256)<=Bv (Al b 256))/\∀ i,i<H.length*4->w'.cell? ⟨blk,D+i,Γ⟩=Δ (.int π (wd (H.getD (i / 4) 0#256) (i % 4))):=by
 have hk:∀ x,(Cj x).length=4:=λ_=>rfl
 have hH:Go.Sort.HoldsK Cj 4 w blk D l.toArray:=λj G=>by
  rw[Go.Sort.size_flatK] at G;simp only[ø] at G;refine⟨?_,hf _⟩;rw[hc j G,Go.Sort.get_flatK _ _ _ _ (by simpa using G),Xm _ _ (by omega)]
  congr 2
  have:j / 4<l.length:=by omega
  simp[Ζ,this]
 have eg:∀ args w,(callFunc 156 args).run Η w=.ok (.enter 156 args) w:=enters_of Tryz.func156 (by kernel_rfl) rfl;have an:CmpLays Η 156 #[] Cj 4 Kt blk D l.toArray.size w:=λm os dk _ x y=>by
  have hg:=S2 Cj 4 w blk D m dk os;have ao:Tab (sortWorldK Cj 4 w blk D m dk os):=λj G=>by
   rw[Κ.cell?_of_block (hg.block 0 (by omega) (λe=>by injection e with e;omega))];exact hT j G
  exact (Alj x y _ ao (by have:=hg.size;omega)).mono λe w' ⟨he,hE,hd⟩=>⟨he,Akg hE hd⟩
 have ad:=AnyQ.slices_SortFunc Tryz.l155 4 Tryz.isAgg62 Tryz.sizeOf62 Cj hk (λx v hv=>by simp[Cj] at hv;rcases hv with rfl|rfl|rfl|rfl<;>rfl) Kt Abf 156 #[] blk D T l.toArray w eg an hH U (by simpa using ah);change Ϝ Η 155 _ _ _ at ad
 refine ad.mono ?_;rintro e w' ⟨he,E,n,os,hp,hs,rfl⟩;have au:=S2 Cj 4 w blk D n E os;refine⟨he,au,E.toList,?_⟩;obtain⟨I,_,J⟩:=hp;simp only[ø] at I J hs;have aw:=holdsK_sortWorldK_c Cj 4 w blk D l.toArray E n os hH U (by simpa using I);have ae:E.toList.length=l.length:=by simpa using I
 refine⟨ae,?_,?_,λi hi=>?_⟩
 ·have M:(l.toArray.extract 0 l.length)=l.toArray:=by simp
  have e3:(E.extract 0 l.length)=E:=by rw[<-I];simp
  rw[M,e3] at J;exact J
 ·rw[ϯ];intro i j hi G ay;have:=hs i j (Nat.zero_le _) ay (by rw[<-ae];exact G);rw[ltC,decide_eq_false_iff_not] at this;have e1:E[i]! = E.toList[i]:=by simp at hi;simp[hi]
  have M:E[j]! = E.toList[j]:=by simp at G;simp[G]
  rw[e1,M] at this;omega
 ·have h1:i / 4<E.size:=by simp at hi;omega
  have:=(aw.cell (i:=i / 4) (c:=i % 4) h1 (by omega)).1;rw[show D+i / 4*4+i % 4=D+i by omega,Xm _ _ (by omega)] at this;rw[this]
  congr 3
  simp[Ζ,h1]
set_option maxRecDepth 100000 in
theorem X9 (l:List Cls) (hl:l.length<=4611686018427387904) (a:Option Addr) (b a7 br:Nat) (w:Κ) (hT:Tab w) (bu:0<w.heap.size) (ha:0<l.length->a=Δ ⟨b,a7,Γ⟩)
  (hc:∀ i,i<l.length*4->w.cell? ⟨b,a7+i,Γ⟩=Δ (.int π (wd (l.getD (i / 4) 0#256) (i % 4)))) :
  Ϝ Η 143 #[Β a l.length br] w λe w'=>∃ v L,e=ν v/\Cs w' v L/\L.Perm (Ej l)/\L.Pairwise (λa b=>Bv (Al a 256)<=Bv (Al b 256))/\Ext w w':=by
 have hN:=Α (Af9 w);obtain⟨i0,hi,bb,bc,bd⟩:=ϕ Pu;go_enter Tryz.func143,Tryz.ntmps143;go_wp2_with (first|(go_at_call 94;refine hN.out.mono ?_;rintro e w1 ⟨rfl,be⟩));clear hN;go_loopw [3,16] (λv i W=>∃ k:Nat,k<=l.length/\i=.int ζ k/\Ext w W/\Row W w.heap.size v (Ej (l.take k)))
  (λ_ i _=>l.length-(intOf i).toNat)
 case atStart=>
  refine⟨0,by omega,rfl,be.alloc _,?_⟩;exact⟨rfl,.inr ⟨w1.heap.size,1,Aa allC,rfl,be.size,heap_alloc_new w1 _,θ _,by unfold ϙ;omega,rfl,rfl⟩⟩
 case round=>
  obtain⟨k,hk,rfl,hE,D⟩:=hrel;by_cases bf:k<l.length
  ·have e:=ha (by omega);obtain⟨a0,T,U,a3⟩:=Gq (W:=wr) (λi hi=>hE.cell (hc i hi)) k bf;have HC:=Α hc;have HA:=Α ha;clear ha hc;subst e;have bg:=Α (Alr l k bf);have H:=Α (Wu (l.take k));generalize Ej (l.take k)=C at *;obtain⟨c,bh⟩:∃ c,l.getD k 0#256=c:=⟨_,rfl⟩;rw[bh] at a0 T U a3 bg;clear bh;obtain⟨g,al,rfl,bj,bk,ah,ae⟩:=D.cells H.out.pos;have cx:=H.out.len;have b4:=H.out.pos;clear D ah;go_wp2;obtain⟨E,ai⟩:∃ W,wr.alloc (Ε (Aa c) 62)=W:=⟨_,rfl⟩;simp only[ai];have an:Ext wr E:=ai▸(Ι wr).alloc _;have h5:E.heap[wr.heap.size]? = Δ (Ε (Aa c) 62 (0,0)):=ai▸Ab wr _;have H5:=Α h5;clear ai h5 a0 T U a3;have b6:=Α (λ(i:Nat) (hi:i<C.length*4)=>an.cell (ae i hi));clear ae;go_loopw [6,22] (λu i W=>∃ j:Nat,j<=C.length/\i=.int ζ j/\Ext E W/\Row W E.heap.size u (Dd c (C.take j)))
    (λ_ i _=>C.length-(intOf i).toNat)
   case atStart=>exact⟨0,by omega,rfl,Ι E,Í _ _ _ _⟩
   case round=>
    obtain⟨j,hj,rfl,I,D⟩:=hrel;by_cases bl:j<C.length
    ·obtain⟨a0,T,U,a3⟩:=Gq (W:=wr) (λi hi=>I.cell (b6.out i hi)) j bl;have bm:=Α (Aby c C j bl);have b7:=Abz c (C.take j);rw[List.length_take] at b7;generalize Dd c (C.take j)=S at *;obtain⟨d,hd⟩:∃ d,C.getD j 0#256=d:=⟨_,rfl⟩;rw[hd] at a0 T U a3 bm;simp only[Nat.zero_add] at a0 T U a3;clear hd;go_upto_region 9 with (fail)
     obtain⟨w2,aj⟩:∃ W,wr.alloc (Ε (Aa d) 62)=W:=⟨_,rfl⟩;simp only[aj];have ar:Ext wr w2:=aj▸(Ι wr).alloc _;have h8:w2.heap[wr.heap.size]? = Δ (Ε (Aa d) 62 (0,0)):=aj▸Ab wr _;clear aj;obtain⟨b0,b1,b2,b3⟩:=Kl h8;obtain⟨c0,c1,c2,c3⟩:=Kl ((I.trans ar).heap H5.out);clear h8 a0 T U a3;have D:=Ah D ar;have I:=I.trans ar;have h1:=λ(W:Κ)=>Α (Wa d c W)
     have h2:=λ(W:Κ)=>Α (Agq d c W)
     have HX:=Α (Nw c d);generalize D5 c d=sp at *;generalize d &&& c=x at *;generalize d &&& ~~~c=y at *;go_cut [32,33] (λv m W=>v=.agg #[.int π (wd x 0),.int π (wd x 1),.int π (wd x 2),.int π (wd x 3),.int π (wd y 0),.int π (wd y 1),.int π (wd y 2),.int π (wd y 3)]/\m=.int ζ 0/\∃ e:EW w2,W=e.W)
     case first=>
      refine Dx (by kernel_rfl) (by kernel_rfl) ?_;iterate 8 (refine wpQuiet_step (λK hK=>?_);go_simp;first|(refine hK _ ?_;clear hK K)|(apply Exists.intro;refine⟨λ_=>?_,hK _ ?_⟩;(first|(with_reducible exact F4 (h1 _).out)|(with_reducible exact F4 (h2 _).out));clear hK K))
      refine wpQuiet_nil ?_;rintro _ ⟨e,rfl⟩;go_wp2;go_meet
      exact⟨rfl,rfl,e,rfl⟩
     case rest=>
      obtain⟨rfl,rfl,e,rfl⟩:=hcut;have D:=Ah D e.ext;have I:=I.trans e.ext;clear b0 b1 b2 b3 c0 c1 c2 c3 h1 h2;generalize e.W=w3 at *;go_wp2_with (fail);go_loopw [6,33] (λu m W=>∃ q:Nat,q<=2/\m=.int ζ q/\Ext E W/\Row W E.heap.size u (S++D7 x y q))
       (λ_ m _=>2-(intOf m).toNat)
      case atStart=>exact⟨0,by omega,rfl,I,by rw[Aes,List.append_nil];exact D⟩
      case round=>
       obtain⟨q,hq,rfl,J,D⟩:=hrel;obtain rfl|rfl|rfl:q=0\/q=1\/q=2:=by omega
       ·have ix:=Ai9 (wd x 0) (wd x 1) (wd x 2) (wd x 3) (wd y 0) (wd y 1) (wd y 2) (wd y 3) wr;have M:=λW=>Ls x 0#256 W
        rw[Gn] at M;have cg:=Kh;have ch:=J.size;have aw:=T9 S x y 0;have G:=Α (Aer S x y);generalize S++D7 x y 0=P at D aw G;generalize (x==0#256)=bx at M G;cases bx
        ·go_wp2_with (at_builtin;(refine wpList_append_own _ rfl _ _ 26 rfl E.heap.size 62 i0 (.agg zA) 4 32 Tryz.underlying26 hi bb bc bd rfl (by decide) _ _ _ rfl ((D.alloc _).alloc _) _ 1 1 (Cj x) rfl rfl ?_ (by simp[Cj,ϊ]) (by unfold ϙ;omega) (by omega) (by simp;omega) ?_))
         ·have:=Lw (wr.alloc (Ε (Aa x) 62)) x
          rwa [Λ] at this
         ·intro v' w4 af ag _;have az:Ext E w4:=((J.alloc _).alloc _).grown ag (λg e=>(D.lt g e).1);clear D ag M ix;go_wp2;go_roundw
          case rel=>
           refine⟨1,by omega,rfl,az,?_⟩;rw[G.out];simp only[â,if_false];show ϛ _ _ _ _ _ _ _;rw[Ο,Ms,Mr];exact af
          case measure=>simp[intOf]
        ·go_wp2;refine⟨⟨1,by omega,rfl,J.alloc _,?_⟩,by simp[intOf]⟩;rw[G.out];simp only[if_true,List.append_nil];exact D.alloc _
       ·have ix:=Ai8 (wd x 0) (wd x 1) (wd x 2) (wd x 3) (wd y 0) (wd y 1) (wd y 2) (wd y 3) wr;have M:=λW=>Ls y 0#256 W
        rw[Gn] at M;have cg:=Kh;have ch:=J.size;have aw:=T9 S x y 1;have G:=Α (Aeq S x y);generalize S++D7 x y 1=P at D aw G;generalize (y==0#256)=bx at M G;cases bx
        ·go_wp2_with (at_builtin;(refine wpList_append_own _ rfl _ _ 26 rfl E.heap.size 62 i0 (.agg zA) 4 32 Tryz.underlying26 hi bb bc bd rfl (by decide) _ _ _ rfl ((D.alloc _).alloc _) _ 1 1 (Cj y) rfl rfl ?_ (by simp[Cj,ϊ]) (by unfold ϙ;omega) (by omega) (by simp;omega) ?_))
         ·have:=Lw (wr.alloc (Ε (Aa y) 62)) y
          rwa [Λ] at this
         ·intro v' w4 af ag _;have az:Ext E w4:=((J.alloc _).alloc _).grown ag (λg e=>(D.lt g e).1);clear D ag M ix;go_wp2;go_roundw
          case rel=>
           refine⟨2,by omega,rfl,az,?_⟩;rw[G.out];simp only[â,if_false];show ϛ _ _ _ _ _ _ _;rw[Ο,Ms,Mr];exact af
          case measure=>simp[intOf]
        ·go_wp2;refine⟨⟨2,by omega,rfl,J.alloc _,?_⟩,by simp[intOf]⟩;rw[G.out];simp only[if_true,List.append_nil];exact D.alloc _
       ·have G:Ϻ (S++D7 x y 2=S++sp):=Α (by rw[HX.out];rfl);rw[G.out,<-bm.out] at D;go_wp2;go_roundw
        case rel=>exact⟨j+1,by omega,by go_num,J,D⟩
        case measure=>simp[intOf];omega
    ·obtain rfl:j=C.length:=by omega
     rw[List.take_length,<-bg.out] at D;have cj:=(hE.trans an).trans I;have af:Row wr w.heap.size u6 (Ej (l.take (k+1))):=D.mono (hE.trans an).size;have ha:=HA.out;have hc:=HC.out;go_wp2;go_roundw
     case rel=>exact⟨k+1,by omega,by go_num,cj,af⟩
     case measure=>simp[intOf];omega
  ·obtain rfl:k=l.length:=by omega
   rw[List.take_length] at D;have H:=Wu l;obtain⟨C,hC⟩:∃ C,Ej l=C:=⟨_,rfl⟩;rw[hC] at D H;have HU:=Α hC;clear hC;obtain⟨g,al,rfl,bj,bk,ah,ae⟩:=D.cells H.pos;have cl:=Α (Ab7 C g 0 al wr (hT.below hE.below bu) (by omega) bk (by have:=H.len;omega) ae ah);have cm:=Α H.len;clear D ah ae ha hc;go_wp2_with (go_at_call 155;refine cl.out.mono ?_;rintro e w5 ⟨rfl,bq,L,cp,cq,cr,ct⟩);go_ret;have cu:Ext w w5:=hE.grown bq (λk e=>by cases e;exact bj);refine⟨_,L,rfl,?_,by rw[HU.out];exact cq,cr,cu⟩;have h5:=cm.out;have h6:=bq.size;have b4:=H.pos;rw[<-cp];exact⟨by omega,.inr ⟨by omega,g,0,al,rfl,by omega,ct⟩⟩
theorem Yb (l:List Cls) (v:Ρ) (w:Κ) (E:Tab w) (G:0<w.heap.size) (h:Cs w v l) :
  Ϝ Η 143 #[v] w λe w'=>∃ v' L,e=ν v'/\Cs w' v' L/\L.Perm (Ej l)/\L.Pairwise (λa b=>Bv (Al a 256)<=Bv (Al b 256))/\Ext w w':=by
 obtain⟨H,⟨hn,a,D,rfl⟩|⟨hn,b,I,D,rfl,M,J⟩⟩:=h
 ·have:=X9 l H a 0 0 D w E G (by omega) (λi hi=>by omega)
  rwa [hn] at this
 ·exact X9 l H (Δ ⟨b,I,Γ⟩) b I D w E G (λ_=>rfl) J
theorem Ib (v:Ρ) (l:List UInt8) (W:Κ) (h:By W v l):(convert 22 9 v).run Η W=.ok (.string ⟨l.toArray⟩) W:=by
 obtain⟨I,⟨hn,a,D,rfl⟩|⟨hn,b,G,D,rfl,J,H⟩⟩:=h
 ·obtain rfl:l=[]:=List.eq_nil_of_length_eq_zero hn;cases a with
  | some a=>exact run_convert_bytes_back W 22 9 5 a D [] Ϸ Tryz.underlying5 Tryz.underlying9 (λj E=>by simp at E)
  | none=>
   rw[run_convert_bytes_string W 22 9 5 Γ 0 D Ϸ Tryz.underlying5 Tryz.underlying9]
   kernel_rfl
 ·refine run_convert_bytes_back W 22 9 5 ⟨b,G,Γ⟩ D l Ϸ Tryz.underlying5 Tryz.underlying9 (λj E=>?_);rw[Addr.add_lit,H j (by omega)];simp[Ζ,E]
def q0:Cls:= ~~~(Ly 97 100)
def q1:Cls:=Ly 97 97
def q2:Cls:=Ly 98 99
def q3:Cls:=Ly 100 100
def k4:Cls:=ofL [97,98,99,97]
def k3:Cls:=ofL [99,97,98]
open Go
theorem Xi {w W':Κ} {e:EW w} (h:Ext e.W W'):∃ D:EW w,W'=D.W:=⟨⟨W',e.ext.trans h⟩,rfl⟩
theorem Ako (w:Κ):∃ e:EW w,w=e.W:=⟨⟨w,Ι w⟩,rfl⟩
theorem Ai {W:Κ} {b b':Nat} {e E:Á} {s s' n m:Nat} {v u:Ρ} {xs G:List Ρ} (h:W.ownsRow b e s v n xs) (H:W.ownsRow b' E s' u m G) (I:e≠E):v.ownBlock=Γ\/v.ownBlock≠u.ownBlock:=by
 obtain⟨_,⟨rfl,_⟩|⟨g,T,cur,rfl,_,hg,_⟩⟩:=h
 ·exact .inl rfl
 ·obtain⟨_,⟨rfl,_⟩|⟨J,U,aa,rfl,_,D,_⟩⟩:=H
  ·exact .inr (by simp[Ρ.ownBlock])
  ·refine .inr λM=>?_
   have:g=J:=by simpa [Ρ.ownBlock] using M
   subst this;rw[hg] at D;simp at D;exact I D.2
theorem Ajq (L:List Cls) (k:Nat) (c:Cls) (E:k<L.length) :
  Cy (L.set k c)=((((Cy L).set (k*4) (.int π (wd c 0))).set (k*4+1) (.int π (wd c 1))).set (k*4+1+1) (.int π (wd c 2))).set (k*4+1+1+1) (.int π (wd c 3)):=by
 have D:=P1 L;apply ϡ;intro i;by_cases hi:i<L.length*4
 ·rw[I2 _ i (by simpa using hi)];simp only[ϲ,ύ,D];by_cases hd:i / 4=k
  ·subst hd;rw[Wr _ _ _ _ E];have:i % 4=0\/i % 4=1\/i % 4=2\/i % 4=3:=by omega
   rcases this with h|h|h|h
   ·rw[if_neg (by omega),if_neg (by omega),if_neg (by omega),if_pos (by omega),if_pos (by omega),h]
   ·rw[if_neg (by omega),if_neg (by omega),if_pos (by omega),if_pos (by omega),h]
   ·rw[if_neg (by omega),if_pos (by omega),if_pos (by omega),h]
   ·rw[if_pos (by omega),if_pos (by omega),h]
  ·rw[Ws _ _ _ _ _ (Ne.symm hd),if_neg (by omega),if_neg (by omega),if_neg (by omega),if_neg (by omega),I2 _ i hi]
 ·rw[Ϩ (by rw[P1,ύ];omega),Ϩ (by simp only[ύ,D];omega)]
theorem J0 {W:Κ} {base g D:Nat} {L:List Cls} (h:Row W base (Β (Δ ⟨g,0,Γ⟩) L.length D) L) (k:Nat) (J:k<L.length) (c:Cls) :
  Row (W.setCells g (k*4) (Aa c).toList) base (Β (Δ ⟨g,0,Γ⟩) L.length D) (L.set k c)/\W.grownBy (W.setCells g (k*4) (Aa c).toList) (Δ g):=by
 have e:W.setCells g (k*4) (Aa c).toList=(((W.setCell ⟨g,k*4,Γ⟩ (.int π (wd c 0))).setCell ⟨g,k*4+1,Γ⟩ (.int π (wd c 1))).setCell ⟨g,k*4+1+1,Γ⟩ (.int π (wd c 2))).setCell ⟨g,k*4+1+1+1,Γ⟩ (.int π (wd c 3)):=rfl;have E:=h.stored (k*4) (.int π (wd c 0));have G:=E.1.stored (k*4+1) (.int π (wd c 1));have H:=G.1.stored (k*4+1+1) (.int π (wd c 2));have I:=H.1.stored (k*4+1+1+1) (.int π (wd c 3));rw[e];refine⟨?_,E.2.trans (G.2.trans (H.2.trans I.2))⟩;show ϛ _ _ _ _ _ _ _;rw[Ajq L k c J,ύ];exact I.1
theorem Lv {W:Κ} {base g D:Nat} {L:List Cls} (h:Row W base (Β (Δ ⟨g,0,Γ⟩) L.length D) L) (k:Nat) (E:k<L.length):W.there g (k*4) 4:=by
 intro j G;refine⟨?_,h.frozenAt _⟩;rw[h.cellAt _ (by omega),I2 _ _ (by omega)];rfl
abbrev RowB (W:Κ) (base:Nat) (v:Ρ) (l:List UInt8):Prop:=W.ownsRow base 5 1 v l.length (l.map bv)
theorem RowB.cell {W:Κ} {base g n D:Nat} {l:List UInt8} (h:W.ownsRow base 5 1 (Β (Δ ⟨g,0,Γ⟩) n D) l.length (l.map bv)) (hn:n=l.length) (k:Nat) (E:k<l.length):W.cell? ⟨g,k,Γ⟩=Δ (bv (l.getD k 0)):=by
 subst hn;rw[ϛ.cellAt h k (by omega)];simp[Ζ,E]
theorem Dr {W:Κ} {b:Nat} {e:Á} {s n:Nat} {v:Ρ} {xs:List Ρ} (h:W.ownsRow b e s v n xs):∃ a D,v=Β a n D:=by
 obtain⟨_,⟨rfl,rfl⟩|⟨g,D,cur,rfl,_⟩⟩:=h
 ·exact⟨_,_,rfl⟩
 ·exact⟨_,_,rfl⟩
theorem Oq {W:Κ} {b:Nat} {e:Á} {s n m D:Nat} {a:Option Addr} {xs:List Ρ} (h:W.ownsRow b e s (Β a m D) n xs) (hn:0<n):∃ g,a=Δ ⟨g,0,Γ⟩:=by
 obtain⟨_,⟨_,E⟩|⟨g,D,cur,hv,_⟩⟩:=h
 ·omega
 ·simp at hv;exact⟨g,hv.1⟩
theorem Kj {W:Κ} {base g D:Nat} {L:List Cls} (h:Row W base (Β (Δ ⟨g,0,Γ⟩) L.length D) L) (k:Nat) (E:k<L.length) :
  W.cell? ⟨g,k*4,Γ⟩=Δ (.int π (wd (L.getD k 0#256) 0))/\W.cell? ⟨g,k*4+1,Γ⟩=Δ (.int π (wd (L.getD k 0#256) 1))/\
  W.cell? ⟨g,k*4+2,Γ⟩=Δ (.int π (wd (L.getD k 0#256) 2))/\W.cell? ⟨g,k*4+3,Γ⟩=Δ (.int π (wd (L.getD k 0#256) 3)):=by
 have H:∀ j,j<4->W.cell? ⟨g,k*4+j,Γ⟩=Δ (.int π (wd (L.getD k 0#256) j)):=λj G=>by
  rw[h.cellAt _ (by omega),I2 _ _ (by omega),show (k*4+j) / 4=k by omega,show (k*4+j) % 4=j by omega]
 exact⟨H 0 (by omega),H 1 (by omega),H 2 (by omega),H 3 (by omega)⟩
set_option maxRecDepth 100000 in
theorem Ad5 (l:List Cls) (v:Ρ) (w:Κ) (h:Cs w v l) :
  Ϝ Η 91 #[v] w λe w'=>∃ v',e=ν v'/\Cs w' v' (Ku l)/\Ext w w':=by
 have HL:=Α h;clear h;obtain⟨i0,hi,bm,bn,bo⟩:=ϕ Pu;obtain⟨j0,hj,br,bt,bu⟩:=ϕ Pt;go_enter Tryz.func91,Tryz.ntmps91;go_wp2_with (fail);go_loopw [3,4,5] (λo t i W=>∃ (k:Nat) (out:List Cls) (le:List UInt8),k<=256/\i=.int ζ k/\Ext w W/\Row W w.heap.size o out/\RowB W w.heap.size t le/\Ϻ (RInv l k out le))
  (λ_ _ i _=>256-(intOf i).toNat)
 case atStart=>
  refine⟨0,[],[],by omega,rfl,((Ι w).alloc _).alloc _,?_,?_,Α (Adf l)⟩
  ·exact (Κ.ownsRow_made (base:=w.heap.size) (e:=62) (size:=4) w #[] 0 (by simp) (by unfold ϙ;omega) rfl).alloc _
  ·have h:=Κ.ownsRow_made (base:=w.heap.size) (e:=5) (size:=1) (w.alloc (Ε #[] 62)) #[] 0 (by simp) (by unfold ϙ;omega) rfl
   rwa [Λ] at h
 case round=>
  obtain⟨k,out,le,hk,rfl,hE,D,E,I⟩:=hrel;by_cases bw:k<256
  ·have U:=Α I.out.len;have ca:=I.out.bound;have cb:out.length<=k:=by have:=U.out;omega
   obtain⟨ao,co,rfl⟩:=Dr D;obtain⟨al,cl,rfl⟩:=Dr E;have hw:IntKind.u8.wrap (k:Int)=k:=IntWalk.u8_in _ ⟨by omega,by omega⟩;obtain⟨wo,bx⟩:∃ W,W=wr:=⟨_,rfl⟩;subst bx;have hd:decide ((k:Int)<256)=Ξ:=by simp;omega
   go_wp2_with (fail);go_loopw [6] (λj W=>∃ m:Nat,m<=out.length/\j=.int ζ m/\Ext wo W/\Ϻ (∀ q,q<m->¬ Alk l (le.getD q 0).toNat k))
    (λj _=>out.length-(intOf j).toNat)
   case atStart=>exact⟨0,by omega,rfl,Ι wo,Α (λq hq=>by omega)⟩
   case round=>
    obtain⟨m,hm,rfl,aa,ba⟩:=hrel;have ab:=hE.trans aa;have D:=Ah D aa;have E:=Ah E aa;have ch:=ab.size;by_cases aj:m<out.length
    ·have bb:m<le.length:=by have:=U.out;omega
     obtain⟨g,rfl⟩:=Oq D (by omega);obtain⟨g',rfl⟩:=Oq E (by have:=U.out;omega);have cl:=RowB.cell E rfl m bb;obtain⟨x,ak⟩:∃ x,le.getD m 0=x:=⟨_,rfl⟩;rw[ak] at cl;have bc:=Α ak;clear ak;have an:=Α (Am9 l x.toNat k);have hx:=x.toNat_lt;have hA:=Α (Ana l v (x.toNat:Int) (k:Int) (by omega) (by omega) (by omega) (by omega) wr (HL.out.ext ab));generalize (l.all λc=>Az c (x.toNat:Int)==Az c (k:Int))=b at hA an;cases b
     ·go_wp2_with (go_at_call 123;with_reducible refine hA.out.mono ?_;rintro e w1 ⟨rfl,G⟩);clear hA cl;go_roundw
      case rel=>exact⟨m+1,by omega,by go_num,aa.trans G,Α λq hq=>by
       by_cases b0:q=m
       ·rw[b0,bc.out];exact λha=>Bool.false_ne_true (an.out.2 ha)
       ·exact ba.out q (by omega)⟩
      case measure=>simp[intOf];omega
     ·have cm:((m:Int)==(out.length:Int))=Τ:=by simp;omega
      have HS:=Α (Adg I.out (by omega) m bb (by rw[bc.out];exact an.out.1 rfl));obtain⟨a0,a1,a2,a3⟩:=Kj D m aj;generalize out.getD m 0#256=d at *;have hW:=λW=>Α (Rw d (k:Int) (by omega) (by omega) W)
      go_wp2_with (first
       | (go_at_call 123;with_reducible refine hA.out.mono ?_;rintro e w1 ⟨rfl,G⟩;have a0:=G.cell a0;have a1:=G.cell a1;have a2:=G.cell a2;have a3:=G.cell a3;have au:=Ah D G)
       | (go_at_call 124;with_reducible refine (hW _).out.mono ?_;rintro e w2 ⟨rfl,J⟩)
       | (refine wpList_store_mid rfl 62 (η 52) (η 51) rfl g (m*4) (Aa (Bf d (k:Int))) rfl rfl (Lv (Ah au J) m aj) Bg (Eb _) ?_))
      go_roundw
      case rel=>
       have H:=J0 (Ah au J) m aj (Bf d (k:Int));have aw:=(D.lt g rfl).1;refine⟨k+1,_,le,by omega,by go_num,((ab.trans G).trans J).grown H.2 (λq e=>by cases e;exact aw),?_,?_,HS⟩
       ·have:=H.1;show ϛ _ _ _ _ _ _ _;rw[ύ];rw[show Row _ _ _ _=ϛ _ _ _ _ _ _ _ from rfl,ύ] at this;exact this
       ·exact (Ah (Ah E G) J).kept H.2 (Ai (Ah (Ah E G) J) (Ah au J) (by decide))
      case measure=>simp[intOf];omega
    ·obtain rfl:m=out.length:=by omega
     have cp:((out.length:Int)==(out.length:Int))=Ξ:=by simp
     have HS:=Α (Adh I.out (by omega) (by rw[<-U.out];exact ba.out));have ax:=Lw wr 0#256;rw[Gn] at ax;have hW:=λW=>Α (Rw 0#256 (k:Int) (by omega) (by omega) W)
     have HN:=Α ax;clear ax;go_wp2_with (at_builtin;(refine ϐ _ rfl _ _ 26 rfl w.heap.size 62 i0 (.agg zA) 4 32 Tryz.underlying26 hi bm bn bo rfl (by decide) _ _ _ rfl (D.alloc _) _ 1 1 (Cj 0#256) rfl rfl HN.out (by simp[Cj,ϊ]) (by decide) (by unfold ϙ;omega) (by omega) (by simp;omega) _ rfl ?_));intro g b4 w3 ay az _ cq;have be:Ext w w3:=(ab.alloc _).grown az (λq e=>by have:=(D.lt q e).1;omega);have ah:=(E.alloc _).kept az (Ai E D (by decide));have cr:=be.size;clear HN az E;go_wp2_with (at_builtin;(refine ϐ _ rfl _ _ 22 rfl w.heap.size 5 j0 (.int .u8 0) 1 1 Ϸ hj br bt bu rfl (by decide) _ _ _ rfl (ah.alloc _) _ 1 1 [.int .u8 (k:Int)] rfl rfl (Ϫ _ _ _) (by simp[ϊ]) (by decide) (by unfold ϙ;omega) (by omega) (by simp;omega) _ rfl ?_));intro g4 cu w4 bg a6 _ cv;have b6:Ext w w4:=(be.alloc _).grown a6 (λq e=>by have:=(ah.lt q e).1;omega);have bh:=(ay.alloc _).kept a6 (Ai ay ah (by decide));have T:Ϻ (Row w4 w.heap.size (Β (Δ ⟨g,0,Γ⟩) (out++[0#256]).length b4) (out++[0#256])):=Α (by
      show ϛ _ _ _ _ _ _ _;rw[Ms,Mr,Ο];exact bh)
     obtain⟨a0,a1,a2,a3⟩:=Kj T.out out.length (by simp);rw[Cm] at a0 a1 a2 a3;have hu:((χ k).toNat:Int)=k:=by rw[u8n k bw]
     have HU:=Α hu;clear hu a6 ah ay bh;go_wp2_with (first
      | (go_at_call 124;with_reducible refine (hW _).out.mono ?_;rintro e w5 ⟨rfl,M⟩)
      | (refine wpList_store_mid rfl 62 (η 52) (η 51) rfl g (out.length*4) (Aa (Bf 0#256 (k:Int))) rfl rfl (Lv (Ah T.out M) out.length (by simp)) Bg (Eb _) ?_))
     go_roundw
     case rel=>
      have H:=J0 (Ah T.out M) out.length (by simp) (Bf 0#256 (k:Int));have aw:=(T.out.lt g rfl).1;have es:(out++[0#256]).set out.length (Bf 0#256 (k:Int))=out++[Bf 0#256 (k:Int)]:=by simp
      rw[es] at H;refine⟨k+1,out++[Bf 0#256 (k:Int)],le++[χ k],by omega,by go_num,(b6.trans M).grown H.2 (λq e=>by cases e;exact aw),?_,?_,HS⟩
      ·have:=H.1;simp only[Ο,List.length_singleton] at this ⊢;exact this
      ·have:=(Ah bg M).kept H.2 (Ai (Ah bg M) (Ah T.out M) (by decide));show ϛ _ _ _ _ _ _ _;rw[Ο,ϔ,List.map_singleton,bv,HU.out];exact this
     case measure=>simp[intOf];omega
  ·obtain rfl:k=256:=by omega
   have he:=Adi I.out;have bj:=D.toCs (by have:=I.out.len;have:=I.out.bound;omega);rw[he] at bj;go_wp2;go_ret;exact⟨_,rfl,bj,hE⟩
abbrev iv (x:Nat):Ρ:=.int ζ (x:Int)
def Ints (W:Κ) (v:Ρ) (l:List Nat):Prop:=Sl W v 1 l.length (λi=>iv (l.getD i 0))
def Bools (W:Κ) (v:Ρ) (l:List Bool):Prop:=Sl W v 1 l.length (λi=>.bool (l.getD i Τ))
def Rows (W:Κ) (v:Ρ) (N:List (List Nat)):Prop:=
 ∃ vs:List Ρ,vs.length=N.length/\Sl W v 1 N.length (λi=>vs.getD i ς)/\∀ i,i<N.length->Ints W (vs.getD i ς) (N.getD i [])
theorem Ints.ext {W W':Κ} {v:Ρ} {l:List Nat} (h:Ints W v l) (D:Ext W W'):Ints W' v l:=Sl.ext h D
theorem Bools.ext {W W':Κ} {v:Ρ} {l:List Bool} (h:Bools W v l) (D:Ext W W'):Bools W' v l:=Sl.ext h D
theorem Rows.ext {W W':Κ} {v:Ρ} {N:List (List Nat)} (h:Rows W v N) (D:Ext W W'):Rows W' v N:=by
 obtain⟨vs,E,G,H⟩:=h;exact⟨vs,E,G.ext D,λi hi=>(H i hi).ext D⟩
theorem ä {W:Κ} {v:Ρ} {k n:Nat} {f:Nat->Ρ} (h:Sl W v k n f) (G:0<n) :
  ∃ b off D,v=Β (Δ ⟨b,off,Γ⟩) n D/\∀ i,i<n*k->W.cell? ⟨b,off+i,Γ⟩=Δ (f i):=by
 obtain⟨_,⟨hn,_⟩|⟨_,b,off,D,hv,_,E⟩⟩:=h
 ·omega
 ·exact⟨b,off,D,hv,E⟩
theorem Sl.len {W:Κ} {v:Ρ} {k n:Nat} {f:Nat->Ρ} (h:Sl W v k n f):∃ a D,v=Β a n D:=by
 obtain⟨_,⟨hn,a,D,rfl⟩|⟨_,b,E,D,rfl,_⟩⟩:=h
 ·exact⟨a,D,by rw[hn]⟩
 ·exact⟨_,D,rfl⟩
def IsD (W:Κ) (v:Ρ) (d:Dfa):Prop:=∃ D vn va,v=.agg #[D,vn,va]/\Cs W D d.cls/\Rows W vn d.n/\Bools W va d.acc
theorem IsD.ext {W W':Κ} {v:Ρ} {d:Dfa} (h:IsD W v d) (D:Ext W W'):IsD W' v d:=by
 obtain⟨E,vn,va,hv,G,H,I⟩:=h;exact⟨E,vn,va,hv,G.ext D,H.ext D,I.ext D⟩
def Ei (c:Nat->Nat) (n:Nat) (vn va:Ρ):List Ρ:=(ι 256).map (λb=>iv (c b))++[iv n,vn,va]
def Aj (c:Nat->Nat) (n:Nat) (vn va:Ρ):Array Ρ:=(Ei c n vn va).toArray
theorem Em (c:Nat->Nat) (n:Nat) (vn va:Ρ):(Aj c n vn va).size=259:=by simp[Aj,Ei]
theorem Nq (c:Nat->Nat) (n:Nat) (vn va:Ρ) (b:Nat) (D:b<256):(Aj c n vn va)[b]? = Δ (iv (c b)):=by
 simp[Aj,Ei,Ϣ,D]
theorem Aa6 (c:Nat->Nat) (n:Nat) (vn va:Ρ):(Aj c n vn va)[256]? = Δ (iv n):=by
 simp[Aj,Ei,ϑ]
theorem Js (c:Nat->Nat) (n:Nat) (vn va:Ρ):(Aj c n vn va)[257]? = Δ vn:=by
 simp[Aj,Ei,ϑ]
theorem G1 (c:Nat->Nat) (n:Nat) (vn va:Ρ):(Aj c n vn va)[258]? = Δ va:=by
 simp[Aj,Ei,ϑ]
theorem G0 {c c':Nat->Nat} (h:∀ b,b<256->c b=c' b) (n:Nat) (vn va:Ρ):Aj c n vn va=Aj c' n vn va:=by
 unfold Aj Ei
 congr 2
 exact Ð λb D=>by rw[h b (υ.1 D)]
theorem Sb (c:Nat->Nat) (n:Nat) (vn va:Ρ) (b x:Nat) (D:b<256):(Aj c n vn va).setIfInBounds b (iv x)=Aj (λy=>if y=b then x else c y) n vn va:=by
 apply Array.ext';rw[è];unfold Aj;simp only;apply ϡ;intro i;unfold Ei;rw[ϲ];by_cases hi:i<256
 ·by_cases e:b=i
  ·subst e;simp[Ϣ,D];omega
  ·simp[Ϣ,hi,e,Ne.symm e]
 ·have:b≠i:=by omega
  rw[if_neg this,ϑ (by simp;omega),ϑ (by simp;omega)];simp
theorem Gz (c:Nat->Nat) (n:Nat) (vn va:Ρ) (hn:vn.oneCell'=Ξ) (ha:va.oneCell'=Ξ):(Aj c n vn va).all (·.oneCell')=Ξ:=by
 rw[Array.all_eq_true_iff_forall_mem];intro x D;simp only[Aj,Ei,List.mem_toArray,Ó,À,Û,ô,or_false] at D;rcases D with⟨b,_,rfl⟩|rfl|rfl|rfl
 ·rfl
 ·rfl
 ·exact hn
 ·exact ha
theorem Cd:(Η.info? 108).map (·.size)=Δ 259:=by kernel_rfl
def IsT (W:Κ) (A:Array Ρ) (t:Tbl):Prop:=∃ vn va,A=Aj t.cell t.cells vn va/\Rows W vn t.n/\Bools W va t.acc
theorem IsT.ext {W W':Κ} {A:Array Ρ} {t:Tbl} (h:IsT W A t) (D:Ext W W'):IsT W' A t:=by
 obtain⟨vn,va,hv,E,G⟩:=h;exact⟨vn,va,hv,E.ext D,G.ext D⟩
theorem Amm (n:Int) (a:Option Addr) (l c:Nat) (D:Option Addr) (E G:Nat):Η.built 108 [(1,.int ζ n),(2,Β a l c),(3,Β D E G)]=Δ ((δ 256 (Ρ.int ζ 0)++[Ρ.int ζ n,ϟ a l c,ϟ D E G]).toArray):=by kernel_rfl
theorem Aa5 (n:Nat) (vn va:Ρ):Aj (λ_=>0) n vn va=(δ 256 (Ρ.int ζ 0)++[iv n,vn,va]).toArray:=by
 unfold Aj Ei;simp[List.map_const']
theorem By.split {W:Κ} {v:Ρ} {l:List UInt8} (h:By W v l):∃ a b E D,v=Β a l.length D/\(0<l.length->a=Δ ⟨b,E,Γ⟩)/\∀ i,i<l.length->W.cell? ⟨b,E+i,Γ⟩=Δ (bv (l.getD i 0)):=by
 obtain⟨H,⟨hn,a,D,rfl⟩|⟨hn,b,E,D,rfl,I,G⟩⟩:=h
 ·exact⟨a,0,0,D,by rw[hn],by omega,by omega⟩
 ·exact⟨_,b,E,D,rfl,λ_=>rfl,λi hi=>G i (by omega)⟩
theorem Aa7 (c:Nat->Nat) (n:Nat) (a:Option Addr) (l E:Nat) (G:Option Addr) (H I:Nat) (i:Nat) (x:Int):(Aj c n (Β a l E) (Β G H I))[i]?≠Δ (.int .u8 x):=by
 intro h;have:=Array.mem_of_getElem? h;simp only[Aj,Ei,List.mem_toArray,Ó,À,Û,ô,or_false] at this;rcases this with⟨b,_,D⟩|D|D|D<;>simp at D
theorem Yc (w:Κ) (g:Nat) (cs:Array Ρ) (p:Addr) (h:p.block≠g):(w.setRow g cs).cell? p=w.cell? p:=Κ.cell?_of_block (setRow_other w g p.block cs h)
theorem B3 {P:Program} {ops:Array Oper} {rest:List Oper} {o:Oper} {a:Act} {w:Κ} {Q:Exit->Act->Κ->Prop} (hg:o.guard=Γ) (t:Á) (parts:Array (Nat × ϻ)) (E:o.op=.build t parts)
  (A:Array Ρ) (D:P.built t (parts.map λ(i,x)=>(i,a.eval x)).toList=Δ A) (h:wpList P ops Q rest (a.put o.dst (.agg A)) w):wpList P ops Q (o::rest) a w:=
 wpList_build hg t parts E (by rw[D];rfl) (by rw[D];exact h)
theorem Db:ξ.size=259:=by kernel_rfl
theorem Nr (d:Dfa) (hv:Val d) (v:Ρ) (w:Κ) (hT:Tab w) (bo:0<w.heap.size) (h:IsD w v d) :
  Ϝ Η 68 #[v] w λe w'=>∃ A,e=ν (.agg A)/\(∀ W,IsD W v d->IsT W A (Ae d))/\Ext w w':=by
 obtain⟨vc,vn,va,rfl,hC,hN,hA⟩:=h;obtain⟨bc,oc,cc,rfl,hc⟩:=ä hC (by obtain⟨c,hc,_⟩:=hv.parts.cov 0 (by omega);exact List.length_pos_of_mem hc);obtain⟨G,H,I,rfl⟩:∃ a n c,vn=Β a n c:=by obtain⟨vs,_,hs,_⟩:=hN;obtain⟨a,c,rfl⟩:=hs.len;exact⟨_,_,_,rfl⟩
 obtain⟨J,M,T,rfl⟩:∃ a n c,va=Β a n c:=by obtain⟨a,c,rfl⟩:=Sl.len hA;exact⟨_,_,_,rfl⟩
 have eb:d.cls.length<=4611686018427387904:=hC.1;have HN:=Α hN;have HA:=Α hA;have HC:=Α hc;clear hN hA hc hC;have hB:Ϻ (Η.built 108 [(1,.int ζ (d.cls.length:Int)),(2,Β G H I),(3,Β J M T)]=Δ (Aj (λ_=>0) d.cls.length (Β G H I) (Β J M T))):=Α (by rw[Amm,Aa5]);go_enter Tryz.func68,Tryz.ntmps68;go_upto_region 1 with (fail)
 have bq:=((Ι w).alloc (Ε #[Β (Δ ⟨bc,oc,Γ⟩) d.cls.length cc,Β G H I,Β J M T] 30)).alloc (Ε ξ 108);have H0:=Α (Ag (Ab w (Ε #[Β (Δ ⟨bc,oc,Γ⟩) d.cls.length cc,Β G H I,Β J M T] 30)) (Ε ξ 108));have H1:=Α (Ϙ w (Ε #[Β (Δ ⟨bc,oc,Γ⟩) d.cls.length cc,Β G H I,Β J M T] 30) (Ε ξ 108));obtain⟨D,br⟩:∃ W,(w.alloc (Ε #[Β (Δ ⟨bc,oc,Γ⟩) d.cls.length cc,Β G H I,Β J M T] 30)).alloc (Ε ξ 108)=W:=⟨_,rfl⟩;simp only[br] at *;clear br;have c0:D.cell? ⟨w.heap.size,0,Γ⟩=Δ (Β (Δ ⟨bc,oc,Γ⟩) d.cls.length cc):=(Ω D _ 0 _ _ _ H0.out).trans rfl;have c1:D.cell? ⟨w.heap.size,1,Γ⟩=Δ (Β G H I):=(Ω D _ 1 _ _ _ H0.out).trans rfl;have c2:D.cell? ⟨w.heap.size,2,Γ⟩=Δ (Β J M T):=(Ω D _ 2 _ _ _ H0.out).trans rfl;obtain⟨U,ak⟩:∃ A,Aj (λ_=>0) d.cls.length (Β G H I) (Β J M T)=A:=⟨_,rfl⟩;have a8:U.size=259:=by rw[<-ak,Em]
 have bt:U.all (·.oneCell')=Ξ:=by rw[<-ak];exact Gz _ _ _ _ rfl rfl
 rw[ak] at hB;have c9:=Α ak;have HS:=Α (show ξ.size=U.size by rw[Db,a8]);clear ak;go_upto_region 2 with (first
  | (refine B3 rfl 108 _ rfl U ?_ ?_;(simp[Act.eval];with_reducible exact hB.out))
  | (refine Φ rfl 108 (η 3) (η 15) rfl D.heap.size U rfl rfl _ _ (Ab D (Ε ξ 108)) (by rw[a8];exact Cd) HS.out bt ?_))
 have bu:=bq.size;have da:Ext w ((D.alloc (Ε ξ 108)).setRow D.heap.size U):=(bq.alloc _).setRow bu _;have H3:=μ (D.alloc (Ε ξ 108)) _ _ U 108 (0,0) (Ab D (Ε ξ 108));have bw:=B8 (Ag H0.out (Ε ξ 108)) (g:=D.heap.size) (by have:=An H0.out;omega) U;have ee:=An H1.out;have ba:=B8 (Ag H1.out (Ε ξ 108)) (g:=D.heap.size) (by omega) U;obtain⟨w3,bz⟩:∃ W,(D.alloc (Ε ξ 108)).setRow D.heap.size U=W:=⟨_,rfl⟩;simp only[bz] at *;clear bz;have c0:w3.cell? ⟨w.heap.size,0,Γ⟩=Δ (Β (Δ ⟨bc,oc,Γ⟩) d.cls.length cc):=(Ω w3 _ 0 _ _ _ bw).trans rfl;rw[<-c9.out] at H3;have H3:=Α H3;have ba:=Α ba;clear c1 c2 bw HS a8 bt H0 H1;generalize D.heap.size=B at *;go_wp2_with (fail);clear c0;go_loopw [19] (λi W=>∃ k:Nat,k<=d.cls.length/\i=.int ζ k/\Ext w W/\W.heap[B]? = Δ (Ε (Aj (λb=>if Ak d.cls b<k then Ak d.cls b else 0) d.cls.length (Β G H I) (Β J M T)) 108 (0,0))/\W.heap[w.heap.size+1]? = Δ (Ε ξ 108 (0,0)))
  (λi _=>d.cls.length-(intOf i).toNat)
 case atStart=>
  refine⟨0,by omega,rfl,da,?_,ba.out⟩;rw[H3.out,G0 (c:=λb=>if Ak d.cls b<0 then Ak d.cls b else 0) (c':=λ_=>0) (λb _=>by simp)]
 case round=>
  obtain⟨k,hk,rfl,hE,b0,b4⟩:=hrel;have HB:=Α b0;have HR:=Α b4;clear b0 b4;by_cases b5:k<d.cls.length
  ·obtain⟨a0,a1,a2,a3⟩:=Gq (W:=wr) (λi hi=>hE.cell (HC.out i hi)) k b5;have HK:=Α (λb E=>E1 hv.parts (b:=b) E b5);have cd:=Α (λb E=>E9 hv.parts (b:=b) E);obtain⟨c,bf⟩:∃ c,d.cls.getD k 0#256=c:=⟨_,rfl⟩;rw[bf] at a0 a1 a2 a3;have cf:=Α bf;have bg:Ϻ (∀ b,b<256->(χ b∈Al c 256↔Ak d.cls b=k)):=Α λb E=>by
    rw[Mf,u8n b E,<-cf.out];exact⟨HK.out b E,λe=>by rw[<-e];exact cd.out b E⟩
   clear bf cf HK cd;have db:=hT.below hE.below bo;have cg:0<wr.heap.size:=ε bo hE.size;have dc:=Α (Kz c 256);have eg:=An HB.out;go_upto_region 5 with (fail)
   obtain⟨wi,ax⟩:∃ W,wr.alloc (Ε (Aa c) 62)=W:=⟨_,rfl⟩;simp only[ax];have ao:Ext wr wi:=ax▸(Ι wr).alloc _;have H5:=Α (show wi.heap[wr.heap.size]? = Δ (Ε (Aa c) 62 (0,0)) from ax▸Ab wr _);clear ax a0 a1 a2 a3;have f109:=Α (Al6 c wi (db.below ao.below cg) (ε cg ao.size));generalize Al c 256=l at *;go_wp2_with (first
    | (refine Υ rfl 62 (η 5) rfl _ rfl _ _ _ _ H5.out ϗ rfl Bg ?_)
    | (go_at_call 109;with_reducible refine f109.out.mono ?_;rintro e w5 ⟨vb,rfl,ck,bj⟩;obtain⟨ab,bb,ob,cb,cm,cp,bk⟩:=ck.split;rw[cm]))
   clear f109 H5 ck cm;have df:=(hE.trans ao).trans bj;have cq:=Α (bj.heap (ao.heap HB.out));have dg:=Α (bj.heap (ao.heap HR.out));have cr:=Α bk;have ct:=Α cp;have cu:Ϻ (0<l.length->bb≠B):=Α λh0 e=>by
    have h1:=bk 0 h0;rw[e,Ω w5 B _ _ _ _ cq.out] at h1;exact Aa7 _ _ _ _ _ _ _ _ _ _ h1
   clear bk cp;go_loopw [27] (λi W=>∃ j:Nat,j<=l.length/\i=.int ζ j/\Ext w W/\Ϻ (∀ i,i<l.length->W.cell? ⟨bb,ob+i,Γ⟩=Δ (bv (l.getD i 0)))/\
     W.heap[B]? = Δ (Ε (Aj (λb=>if χ b∈l.take j then k else if Ak d.cls b<k then Ak d.cls b else 0) d.cls.length (Β G H I) (Β J M T)) 108 (0,0))/\W.heap[w.heap.size+1]? = Δ (Ε ξ 108 (0,0)))
    (λi _=>l.length-(intOf i).toNat)
   case atStart=>exact⟨0,by omega,rfl,df,cr,by simpa using cq.out,dg.out⟩
   case round=>
    obtain⟨j,hj,rfl,cv,bl,cw,cx⟩:=hrel;have ag:=Α cw;have cy:=Α cx;clear cw cx;by_cases bm:j<l.length
    ·have e:=ct.out (by omega);subst e;have cj:=bl.out j bm;have en:=dc.out;have dm:=Α (Å bm);have cz:Ϻ (l.getD j 0=l[j]):=Α (by rw[Ζ,Μ bm];rfl);obtain⟨x,c3⟩:∃ x,l.getD j 0=x:=⟨_,rfl⟩;rw[c3] at cj cz;clear c3;have hx:=x.toNat_lt;have eo:=(Ω wr B x.toNat _ _ _ ag.out).trans (Nq _ _ _ _ x.toNat hx);have ep:=Ϯ wr B x.toNat _ _ ag.out;generalize (if χ x.toNat∈l.take j then k else if Ak d.cls x.toNat<k then Ak d.cls x.toNat else 0)=old at *;go_wp2;go_roundw
     case rel=>
      rw[Ϥ wr _ _ _ _ _ _ ag.out,Sb _ _ _ _ _ _ hx];refine⟨j+1,by omega,by go_num,cv.setRow bu _,Α λi hi=>?_,?_,B8 cy.out (by omega) _⟩
      ·rw[Yc _ _ _ _ (cu.out (by omega))];exact bl.out i hi
      ·have hq:=G0 (c:=λb=>if χ b∈l.take (j+1) then k else if Ak d.cls b<k then Ak d.cls b else 0) (c':=λy=>if y=x.toNat then k else if χ y∈l.take j then k else if Ak d.cls y<k then Ak d.cls y else 0) (λb E=>by
        rw[dm.out,<-cz.out];have dp:χ b=x↔b=x.toNat:=by rw[<-UInt8.toNat_inj,u8n b E]
        simp only[Ó,ϳ,dp];by_cases h1:b=x.toNat<;>by_cases h2:χ b∈l.take j<;>simp[h1,h2]) d.cls.length (Β G H I) (Β J M T)
       rw[hq];exact μ wr _ _ _ _ _ ag.out
     case measure=>simp[intOf];omega
    ·obtain rfl:j=l.length:=by omega
     rw[List.take_length] at ag;have ad:=ag.out;rw[G0 (c':=λb=>if Ak d.cls b<k+1 then Ak d.cls b else 0) (λb E=>by
      by_cases h1:χ b∈l
      ·have:=(bg.out b E).1 h1;simp[h1,this]
      ·have:Ak d.cls b≠k:=λe=>h1 ((bg.out b E).2 e)
       have h2:Ak d.cls b<k+1↔Ak d.cls b<k:=by omega
       simp[h1,h2])] at ad
     have ad:=Α ad;clear ag bg cr bl ct cu;go_wp2;go_roundw
     case rel=>exact⟨k+1,by omega,by go_num,cv,ad.out,cy.out⟩
     case measure=>simp[intOf];omega
  ·obtain rfl:k=d.cls.length:=by omega
   have ad:=HB.out;rw[G0 (c':=Ak d.cls) (λb E=>by rw[if_pos (cell_lt hv.parts E)])] at ad;obtain⟨A,hA⟩:∃ A,Aj (Ak d.cls) d.cls.length (Β G H I) (Β J M T)=A:=⟨_,rfl⟩;have ay:A.size=259:=by rw[<-hA,Em]
   have dq:A.all (·.oneCell')=Ξ:=by rw[<-hA];exact Gz _ _ _ _ rfl rfl
   rw[hA] at ad;have ad:=Α ad;have dr:=Α hA;have HS:=Α (show ξ.size=A.size by rw[Db,ay]);clear hA HB;go_wp2_with (first
    | (refine Υ rfl 108 (η 3) rfl _ rfl _ _ _ _ ad.out Ϭ rfl (by rw[ay];exact Cd) ?_)
    | (refine Φ rfl 108 (η 2) (η 37) rfl _ A rfl rfl _ _ HR.out (by rw[ay];exact Cd) HS.out dq ?_))
   refine ϋ (v:=.agg A) (results_cell_row rfl _ _ _ _ _ _ _ rfl (μ wr _ _ A 108 (0,0) HR.out) Ϭ rfl (by rw[ay];exact Cd)) rfl ?_;have dt:=hE.setRow (g:=w.heap.size+1) (by omega) A;exact⟨A,rfl,λW hW=>by
    obtain⟨er,et,eu,he,_,dv,dw⟩:=hW;injection he with he
    injection he with he
    injection he with e0 he
    injection he with e1 he
    injection he with e2 he
    subst e1;subst e2
    exact⟨_,_,dr.out.symm,dv,dw⟩,dt⟩
theorem Jt (d:Dfa) (hv:Val d) (v:Ρ) (w0 w:Κ) (D:Ext w0 w) (E:Tab w) (G:0<w.heap.size) (h:IsD w0 v d) :
  Ϝ Η 68 #[v] w λe w'=>∃ A,e=ν (.agg A)/\IsT w0 A (Ae d)/\Ext w w':=
 (Nr d hv v w E G (h.ext D)).mono λ_ _ ⟨A,he,H,I⟩=>⟨A,he,H w0 h,I⟩
theorem Ju (d:Dfa) (hv:Val d) (v:Ρ) (w:Κ) (E:Tab w) (G:0<w.heap.size) (h:IsD w v d) :
  Ϝ Η 68 #[v] w λe w'=>∃ A,e=ν (.agg A)/\IsT w' A (Ae d)/\Ext w w':=
 (Jt d hv v w w (Ι w) E G h).mono λ_ _ ⟨A,he,H,D⟩=>⟨A,he,H.ext D,D⟩
def uTo (p:Cls->Bool) (L:List Cls) (i:Nat):Cls:=(L.take i).foldl (λd c=>if p c then d ||| c else d) 0#256
theorem Aaq (p:Cls->Bool) (L:List Cls):uTo p L 0=0#256:=rfl
theorem Aar (p:Cls->Bool) (L:List Cls) (i:Nat) (h:i<L.length):uTo p L (i+1)=if p (L.getD i 0#256) then uTo p L i ||| L.getD i 0#256 else uTo p L i:=by
 unfold uTo;rw[Å h,List.foldl_append];simp[Ζ,h]
theorem Wz (p:Cls->Bool) (b:Nat):∀ (L:List Cls) (d:Cls),(L.foldl (λd c=>if p c then d ||| c else d) d).getLsbD b=(d.getLsbD b||L.any λc=>p c&&c.getLsbD b)
 | [],d=>by simp
 | c::L,d=>by
  rw[List.foldl_cons,Wz p b L,List.any_cons];cases D:p c
  ·simp
  ·rw[if_pos rfl,BitVec.getLsbD_or];simp[Bool.or_assoc]
theorem R5 (p:Cls->Bool) (L:List Cls) (i b:Nat):(uTo p L i).getLsbD b=(L.take i).any λc=>p c&&c.getLsbD b:=by
 unfold uTo;rw[Wz];simp
theorem Ae2 {l L:List Cls} (h:IsCells l L) (i:Nat) (hi:i<L.length):uTo (λ_=>Ξ) L i &&& L.getD i 0#256=0#256:=by
 apply BitVec.eq_of_getLsbD_eq;intro b I;rw[BitVec.getLsbD_and,R5,BitVec.getLsbD_zero,<-Bool.not_eq_true];intro E;rw[Bool.and_eq_true,List.any_eq_true] at E;obtain⟨⟨c,G,D⟩,hd⟩:=E;rw[Bool.true_and] at D;obtain⟨j,H,rfl⟩:=List.mem_iff_getElem.1 G;rw[List.length_take] at H;rw[List.getElem_take] at D;rw[Ζ,Μ hi] at hd;exact (ϯ.1 h.dis j i (by omega) hi (by omega)) b ⟨D,hd⟩
theorem Ae3 {l L:List Cls} (h:IsCells l L):uTo (λ_=>Ξ) L L.length=allC:=by
 apply BitVec.eq_of_getLsbD_eq;intro b D;rw[R5,List.take_length];have E:allC.getLsbD b=Ξ:=by unfold allC;rw[BitVec.getLsbD_not,BitVec.getLsbD_zero];simp[D]
 rw[E,List.any_eq_true];obtain⟨c,G,H⟩:=h.cover b D;exact⟨c,G,by simp[H]⟩
theorem Km (x:Cls) (m:Bool) (h:(x==0#256)=m) (W:Κ):(Op.equalIn 10000 62 (.agg (Aa x)) (.agg zA)).run Η W=.ok m W:=by
 have:=Ls x 0#256 W;rw[Gn,h] at this;exact this
theorem Parts.pos {L:List Cls} (h:Parts L):0<L.length:=by
 obtain⟨c,D,_⟩:=h.cov 0 (by omega);exact List.length_pos_of_mem D
theorem Parts.le {L:List Cls} (h:Parts L):L.length<=256:=by
 have:=Ij (λb=>Ak L b) 256 L.length λj D=>by
  obtain⟨b,E,e⟩:=Jd h D;exact⟨b,E,e⟩
 exact this
theorem Af5 : ~~~allC=0#256:=by decide
theorem Eg (d:Dfa) (hv:Val d) (hn:d.n.length<=64) (v:Ρ) (w:Κ) (h:IsD w v d) :
  Ϝ Η 47 #[v] w λe w'=>e=ν (.bool Ξ)/\Ext w w':=by
 obtain⟨vc,vn,va,rfl,hC,⟨vs,b8,hN,ba⟩,hA⟩:=h;have bd:=hv.parts.pos;have c1:=hv.parts.le;have b9:=hv.pos;obtain⟨M,T,cc,rfl,hc⟩:=ä hC bd;obtain⟨U,on,cn,rfl,bf⟩:=ä hN b9;obtain⟨aa,ca,rfl⟩:=Sl.len hA;rw[hv.accL];have HC:=Α hc;have cd:=Α bf;have cf:=Α (λs (hs:s<d.n.length)=>by
  obtain⟨b,ag,an,cg,ch⟩:=ä (ba s hs) (by rw[hv.row s hs];exact bd);exact (⟨b,ag,an,by rw[<-hv.row s hs];exact cg,λk hk=>by rw[ch k (by rw[hv.row s hs];omega)];rfl⟩:∃ b ag an,vs.getD s ς=Β (Δ ⟨b,ag,Γ⟩) d.cls.length an/\∀ k,k<d.cls.length->w.cell? ⟨b,ag+k,Γ⟩=Δ (iv (d.ent2 s k))))
 have ck:=Α hv.tgt;have HP:=Α hv.parts;clear hc bf hN hA hC ba b8 hv;have d1:decide ((d.n.length:Int)<1)=Τ:=by simp;omega
 have d2:decide ((64:Int)<(d.n.length:Int))=Τ:=by simp;omega
 have dn:((d.n.length:Int) != (d.n.length:Int))=Τ:=by simp
 have d3:decide ((d.cls.length:Int)<1)=Τ:=by simp;omega
 have d4:decide ((256:Int)<(d.cls.length:Int))=Τ:=by simp;omega
 have ah:=(Ι w).alloc (Ε #[Β (Δ ⟨M,T,Γ⟩) d.cls.length cc,Β (Δ ⟨U,on,Γ⟩) d.n.length cn,Β aa d.n.length ca] 30);have H0:=Ab w (Ε #[Β (Δ ⟨M,T,Γ⟩) d.cls.length cc,Β (Δ ⟨U,on,Γ⟩) d.n.length cn,Β aa d.n.length ca] 30);go_enter Tryz.func47,Tryz.ntmps47;go_upto_region 1 with (fail)
 obtain⟨w1,bg⟩:∃ W,w.alloc (Ε #[Β (Δ ⟨M,T,Γ⟩) d.cls.length cc,Β (Δ ⟨U,on,Γ⟩) d.n.length cn,Β aa d.n.length ca] 30)=W:=⟨_,rfl⟩;simp only[bg] at *;clear bg;have HK:=Α (λ(W:Κ) (hW:Ext w1 W)=>(⟨(Ω W _ 0 _ _ _ (hW.heap H0)).trans rfl,(Ω W _ 1 _ _ _ (hW.heap H0)).trans rfl,(Ω W _ 2 _ _ _ (hW.heap H0)).trans rfl⟩ :
  W.cell? ⟨w.heap.size,0,Γ⟩=Δ (Β (Δ ⟨M,T,Γ⟩) d.cls.length cc)/\W.cell? ⟨w.heap.size,1,Γ⟩=Δ (Β (Δ ⟨U,on,Γ⟩) d.n.length cn)/\W.cell? ⟨w.heap.size,2,Γ⟩=Δ (Β aa d.n.length ca)))
 clear H0;obtain⟨E,k1,G⟩:=HK.out w1 (Ι w1);go_upto_region 4 with (fail)
 clear E k1 G;go_upto_region 5 with (fail)
 have bh:=(Ι w1).alloc (Ε zA 62);have cl:=Α (Ab w1 (Ε zA 62));obtain⟨w2,bj⟩:∃ W,w1.alloc (Ε zA 62)=W:=⟨_,rfl⟩;simp only[bj] at *;clear bj;obtain⟨E,k1,G⟩:=HK.out w2 bh;go_wp2_with (fail);clear E k1 G d1 d2 d3 d4;go_loopw [42] (λi W=>∃ k:Nat,k<=d.cls.length/\i=.int ζ k/\Ext w1 W/\W.heap[w1.heap.size]? = Δ (Ε (Aa (uTo (λ_=>Ξ) d.cls k)) 62 (0,0)))
  (λi _=>d.cls.length-(intOf i).toNat)
 case atStart=>exact⟨0,by omega,rfl,bh,by rw[Aaq,Gn];exact cl.out⟩
 case round=>
  obtain⟨k,hk,rfl,hE,bk⟩:=hrel;have D:=Α bk;clear bk;by_cases H:k<d.cls.length
  ·obtain⟨a0,a1,a2,a3⟩:=Gq (W:=wr) (λi hi=>(ah.trans hE).cell (HC.out i hi)) k H;have au:=Ae2 (Mm HP.out) k H;have aw:=HP.out.nz (d.cls.getD k 0#256) (by rw[Ζ,Μ H];exact á H);have ax:=Aar (λ_=>Ξ) d.cls k H;rw[if_pos rfl] at ax;have bp:=Α ax;clear ax;obtain⟨c,bq⟩:∃ c,d.cls.getD k 0#256=c:=⟨_,rfl⟩;rw[bq] at a0 a1 a2 a3 au aw bp;clear bq;generalize uTo (λ_=>Ξ) d.cls k=A at *;have f92:=λW=>Α (Wa A c W)
   have f93:=λW=>Α (R4 A c W)
   have g1:=Km c Τ (by simpa using aw);have g2:=Km (A &&& c) Ξ (by rw[au];rfl);have g3:=Kh;clear au aw;generalize A &&& c=x at *;have c4:=An D.out;go_upto_region 8 with (fail)
   obtain⟨wi,al⟩:∃ W,wr.alloc (Ε (Aa c) 62)=W:=⟨_,rfl⟩;simp only[al];have bw:Ext wr wi:=al▸(Ι wr).alloc _;have H6:=Α (show wi.heap[wr.heap.size]? = Δ (Ε (Aa c) 62 (0,0)) from al▸Ab wr _);have D:=Α (bw.heap D.out);clear al a0 a1 a2 a3;obtain⟨x0,x1,x2,x3⟩:=Kl H6.out;obtain⟨y0,y1,y2,y3⟩:=Kl D.out;obtain⟨e0,bx⟩:=Ako wi;rw[bx];clear bx;go_wp2_with (first
    | (go_at_call 92;with_reducible refine (f92 _).out.mono ?_;rintro e w' ⟨rfl,az⟩;obtain⟨I,rfl⟩:=Xi az)
    | (go_at_call 93;with_reducible refine (f93 _).out.mono ?_;rintro e w' ⟨rfl,az⟩;obtain⟨I,rfl⟩:=Xi az)
    | (refine Φ rfl 62 (η 4) (η 58) rfl _ _ rfl rfl _ _ (I.ext.heap D.out) Bg rfl (Eb _) ?_))
   go_roundw
   case rel=>exact⟨k+1,by omega,by go_num,((hE.trans bw).trans I.ext).setRow (θ _) _,by rw[bp.out];exact μ I.W _ _ _ _ _ (I.ext.heap D.out)⟩
   case measure=>simp[intOf];omega
  ·obtain rfl:k=d.cls.length:=by omega
   rw[Ae3 (Mm HP.out)] at D;have f94:=λW=>Α (Uz allC W)
   have g1:=Km (~~~allC) Ξ (by rw[Af5];rfl);have g3:=Kh;generalize ~~~allC=x at *;generalize allC=uA at *;go_wp2_with (first
    | (refine Υ rfl 62 (η 4) rfl _ rfl _ _ _ _ D.out ϗ rfl Bg ?_)
    | (go_at_call 94;with_reducible refine (f94 _).out.mono ?_;rintro e w5 ⟨rfl,bz⟩;obtain⟨E,k1,G⟩:=HK.out w5 (hE.trans bz)))
   clear E k1 G f94 g1 g3 D;have ct:=hE.trans bz;go_loopw [67] (λi W=>∃ s:Nat,s<=d.n.length/\i=.int ζ s/\Ext w1 W) (λi _=>d.n.length-(intOf i).toNat)
   case atStart=>exact⟨0,by omega,rfl,ct⟩
   case round=>
    obtain⟨s,hs,rfl,J⟩:=hrel;by_cases b0:s<d.n.length
    ·have cs:=(ah.trans J).cell (cd.out s (by omega));obtain⟨br,or',cr,b4,b5⟩:=cf.out s b0;rw[b4] at cs;have cu:=Α (λk hk=>(ah.trans J).cell (b5 k hk));have HT:=Α (ck.out s b0);have dm:((d.cls.length:Int) != (d.cls.length:Int))=Τ:=by simp
     have ds:decide ((s:Int)<(d.n.length:Int))=Ξ:=by simp;omega
     obtain⟨E,k1,G⟩:=HK.out wr J;clear b4 b5;obtain⟨wo,cx⟩:∃ W,W=wr:=⟨_,rfl⟩;subst cx;go_wp2_with (fail);clear E k1 G cs dm ds;go_loopw [79] (λi W=>∃ j:Nat,j<=d.cls.length/\i=.int ζ j/\Ext wo W) (λi _=>d.cls.length-(intOf i).toNat)
     case atStart=>exact⟨0,by omega,rfl,Ι wo⟩
     case round=>
      obtain⟨j,hj,rfl,a6⟩:=hrel;by_cases b7:j<d.cls.length
      ·have cj:=a6.cell (cu.out j b7);have ht:=HT.out j b7;generalize d.ent2 s j=t at *;have e1:decide ((t:Int)<0)=Τ:=by simp
       have e2:decide ((d.n.length:Int)<=(t:Int))=Τ:=by simp;omega
       go_wp2;go_roundw
       case rel=>exact⟨j+1,by omega,by go_num,a6⟩
       case measure=>simp[intOf];omega
      ·obtain rfl:j=d.cls.length:=by omega
       have cy:=J.trans a6;go_wp2;go_roundw
       case rel=>exact⟨s+1,by omega,by go_num,cy⟩
       case measure=>simp[intOf];omega
    ·obtain rfl:s=d.n.length:=by omega
     go_wp2;go_ret;exact⟨rfl,ah.trans J⟩
structure BInv (t:Tbl) (l:List Nat) (k q:Nat):Prop where
 pos:0<l.length
 head:l.getD 0 0=0
 nodup:l.Nodup
 lt:∀ s∈l,s<t.n.length
 all:∀ s∈l,∃ w,t.run 0 w=s
 done:∀ j,j<k->∀ c,c<t.cells->t.ent2 (l.getD j 0) c∈l
 cur:∀ c,c<q->t.ent2 (l.getD k 0) c∈l
theorem D9 {α:Type} (l:List α) (k:Nat) (d:α) (h:k<l.length):l.getD k d∈l:=by
 rw[Ζ,Μ h];exact á h
theorem Yy {t:Tbl} (hv:TVal t):BInv t [0] 0 0 where
 pos:=by simp
 head:=rfl
 nodup:=by simp
 lt:=λs hs=>by rw[ϳ] at hs;subst hs;exact hv.pos
 all:=λs hs=>by rw[ϳ] at hs;subst hs;exact⟨[],rfl⟩
 done:=λj D=>by omega
 cur:=λc E=>by omega
theorem Yz {t:Tbl} {l:List Nat} {k q:Nat} (h:BInv t l k q) (hm:t.ent2 (l.getD k 0) q∈l):BInv t l k (q+1):=
 ⟨h.pos,h.head,h.nodup,h.lt,h.all,h.done,λc D=>by
  by_cases e:c=q
  ·subst e;exact hm
  ·exact h.cur c (by omega)⟩
theorem Y1 {t:Tbl} (hv:TVal t) {l:List Nat} {k q:Nat} (h:BInv t l k q) (H:k<l.length) (I:q<t.cells) (hm:t.ent2 (l.getD k 0) q∉l):BInv t (l++[t.ent2 (l.getD k 0) q]) k (q+1):=by
 have hs:=D9 l k 0 H;have hg:∀ j,j<l.length->(l++[t.ent2 (l.getD k 0) q]).getD j 0=l.getD j 0:=λj G=>Bt _ _ _ _ G
 refine⟨by simp,by rw[hg 0 h.pos];exact h.head,?_,λs D=>?_,λs D=>?_,λj G c J=>?_,λc J=>?_⟩
 ·rw[List.nodup_append];exact⟨h.nodup,by simp,λa ha b E=>by rw[ϳ] at E;subst E;rintro rfl;exact hm ha⟩
 ·rw[Ó,ϳ] at D;rcases D with D|rfl
  ·exact h.lt s D
  ·exact hv.tgt _ (h.lt _ hs) q I
 ·rw[Ó,ϳ] at D;rcases D with D|rfl
  ·exact h.all s D
  ·obtain⟨w,M⟩:=h.all _ hs;obtain⟨b,E,T⟩:=hv.onto q I;refine⟨w++[χ b],?_⟩;rw[Fr,M,u8n b E];unfold Tbl.stp;rw[T]
 ·have U:j<l.length:=by omega
  rw[hg j U,Ó];exact .inl (h.done j G c J)
 ·rw[hg k H,Ó,ϳ];by_cases e:c=q
  ·subst e;exact .inr rfl
  ·exact .inl (h.cur c (by omega))
theorem Y0 {t:Tbl} {l:List Nat} {k:Nat} (h:BInv t l k t.cells):BInv t l (k+1) 0:=
 ⟨h.pos,h.head,h.nodup,h.lt,h.all,λj E c D=>by
  by_cases e:j=k
  ·subst e;exact h.cur c D
  ·exact h.done j (by omega) c D,λc D=>by omega⟩
theorem Y2 {t:Tbl} {l:List Nat} (h:BInv t l l.length 0):Reached t l where
 head:=h.head
 ne:=h.pos
 nodup:=h.nodup
 lt:=h.lt
 closed:=λs hs k D=>by
  obtain⟨j,E,rfl⟩:=Gj (d:=0) hs;exact h.done j E k D
 all:=h.all
theorem BInv.le {t:Tbl} {l:List Nat} {k q:Nat} (h:BInv t l k q):l.length<=t.n.length:=by
 have:=Dy l (ι t.n.length) h.nodup λs hs=>υ.2 (h.lt s hs)
 simpa using this
def D6 (n:Nat) (l:List Nat):List Bool:=(ι n).map λs=>decide (s∈l)
theorem Gd (n:Nat) (l:List Nat):(D6 n l).length=n:=by simp[D6]
theorem Tc (n:Nat) (l:List Nat) (s:Nat) (h:s<n):(D6 n l).getD s Τ=decide (s∈l):=by
 simp[D6,Ζ,h]
theorem Tb (n:Nat):D6 n []=δ n Τ:=by
 unfold D6;rw[List.eq_replicate_iff];exact⟨by simp,λx D=>by obtain⟨b,_,rfl⟩:=À.1 D;simp⟩
theorem Lo (n:Nat) (l:List Nat) (s:Nat):(D6 n l).set s Ξ=D6 n (l++[s]):=by
 unfold D6;apply ϡ;intro i;rw[ϲ];by_cases hi:i<n
 ·by_cases e:s=i
  ·subst e;simp[hi]
  ·simp[hi,e,Ne.symm e]
 ·by_cases e:s=i
  ·subst e;simp[hi]
  ·simp[hi,e]
def RowsAt (W:Κ) (E G n m:Nat) (f:Nat->Nat->Nat):Prop:=
 ∀ s,s<n->∃ b D H,W.cell? ⟨E,G+s,Γ⟩=Δ (Β (Δ ⟨b,D,Γ⟩) m H)/\∀ k,k<m->W.cell? ⟨b,D+k,Γ⟩=Δ (iv (f s k))
theorem RowsAt.ext {W W':Κ} {D E n m:Nat} {f:Nat->Nat->Nat} (h:RowsAt W D E n m f) (G:Ext W W'):RowsAt W' D E n m f:=λs hs=>by
 obtain⟨b,H,I,J,M⟩:=h s hs;exact⟨b,H,I,G.cell J,λk T=>G.cell (M k T)⟩
theorem Lu {W:Κ} {v:Ρ} {N:List (List Nat)} (h:Rows W v N) (m:Nat) (I:0<N.length) (hm:0<m) (G:∀ s,s<N.length->(N.getD s []).length=m) :
  ∃ D E H,v=Β (Δ ⟨D,E,Γ⟩) N.length H/\RowsAt W D E N.length m (λs k=>(N.getD s []).getD k 0):=by
 obtain⟨vs,_,J,M⟩:=h;obtain⟨D,E,H,rfl,T⟩:=ä J I;refine⟨D,E,H,rfl,λs hs=>?_⟩;obtain⟨b,U,aa,ab,ad⟩:=ä (M s hs) (by rw[G s hs];exact hm);refine⟨b,U,aa,?_,λk hk=>ad k (by rw[G s hs];omega)⟩;rw[T s (by omega),ab,G s hs]
theorem K2 {W:Κ} {v:Ρ} {l:List Bool} (h:Bools W v l) (G:0<l.length):∃ D E H,v=Β (Δ ⟨D,E,Γ⟩) l.length H/\∀ s,s<l.length->W.cell? ⟨D,E+s,Γ⟩=Δ (.bool (l.getD s Τ)):=by
 obtain⟨b,o,c,rfl,I⟩:=ä h G;exact⟨b,o,c,rfl,λs hs=>I s (by omega)⟩
theorem TVal.cpos {t:Tbl} (hv:TVal t):0<t.cells:=by have:=hv.cell_lt 0 (by omega);omega
theorem TVal.cle {t:Tbl} (hv:TVal t):t.cells<=256:=Ij t.cell 256 t.cells hv.onto
theorem IsT.opened {W:Κ} {A:Array Ρ} {t:Tbl} (h:IsT W A t) (hv:TVal t):∃ D E I G H J,A.size=259/\A.all (·.oneCell')=Ξ/\(∀ b,b<256->A[b]? = Δ (iv (t.cell b)))/\A[256]? = Δ (iv t.cells)/\
  A[257]? = Δ (Β (Δ ⟨D,E,Γ⟩) t.n.length I)/\A[258]? = Δ (Β (Δ ⟨G,H,Γ⟩) t.n.length J)/\RowsAt W D E t.n.length t.cells t.ent2/\∀ s,s<t.n.length->W.cell? ⟨G,H+s,Γ⟩=Δ (.bool (t.ok s)):=by
 obtain⟨vn,va,rfl,M,T⟩:=h;obtain⟨D,E,I,rfl,U⟩:=Lu M t.cells hv.pos hv.cpos hv.row;obtain⟨G,H,J,rfl,ha⟩:=K2 T (by rw[hv.accL];exact hv.pos);refine⟨D,E,I,G,H,J,Em _ _ _ _,Gz _ _ _ _ rfl rfl,λb hb=>Nq _ _ _ _ b hb,Aa6 _ _ _ _,Js _ _ _ _,by rw[G1,hv.accL],U,λs hs=>ha s (by rw[hv.accL];exact hs)⟩
abbrev OwnI (W:Κ) (base:Nat) (v:Ρ) (l:List Nat):Prop:=W.ownsRow base 3 1 v l.length (l.map iv)
abbrev OwnB (W:Κ) (base:Nat) (v:Ρ) (l:List Bool):Prop:=W.ownsRow base 4 1 v l.length (l.map Ρ.bool)
theorem Am {α:Type} {W:Κ} {base e g n D:Nat} {l:List α} {f:α->Ρ} (d:α) (h:W.ownsRow base e 1 (Β (Δ ⟨g,0,Γ⟩) n D) n (l.map f)) (hn:n=l.length) (k:Nat) (E:k<l.length) :
  W.cell? ⟨g,k,Γ⟩=Δ (f (l.getD k d)):=by
 subst hn;rw[ϛ.cellAt h k (by omega)];simp[Ζ,E]
theorem Bj {α:Type} {W:Κ} {base e g n D:Nat} {l:List α} {f:α->Ρ} (h:W.ownsRow base e 1 (Β (Δ ⟨g,0,Γ⟩) n D) n (l.map f)) (k:Nat) (x:α) :
  (W.setCell ⟨g,k,Γ⟩ (f x)).ownsRow base e 1 (Β (Δ ⟨g,0,Γ⟩) n D) n ((l.set k x).map f)/\W.grownBy (W.setCell ⟨g,k,Γ⟩ (f x)) (Δ g):=by
 have:=h.stored k (f x);rw[List.map_set];exact this
theorem OwnI.ints {W:Κ} {base:Nat} {v:Ρ} {l:List Nat} (h:OwnI W base v l) (hn:l.length<=4611686018427387904):Ints W v l:=
 (Sl.of_owns h hn (iv 0)).congr λi hi=>by
  simp only[Ζ,Ϟ];cases l[i]?<;>rfl
theorem OwnB.bools {W:Κ} {base:Nat} {v:Ρ} {l:List Bool} (h:OwnB W base v l) (hn:l.length<=4611686018427387904):Bools W v l:=
 (Sl.of_owns h hn (.bool Τ)).congr λi hi=>by
  simp only[Ζ,Ϟ];cases l[i]?<;>rfl
theorem Cg:(Η.info? 3).map (λi=>(i.zero,i.size,i.bytes))=Δ (Δ (.int ζ 0),1,8):=by kernel_rfl
theorem Dt:(Η.info? 4).map (λi=>(i.zero,i.size,i.bytes))=Δ (Δ (.bool Τ),1,1):=by kernel_rfl
theorem B7 {α:Type} (f:α->Ρ) (x:α) (n:Nat):(madeCells #[f x] (n*1)).toList=(δ n x).map f:=by
 rw[Nat.mul_one,toList_madeCells_one,List.map_replicate]
open Go.Maps (Keyed)
def IsMp {κ:Type} (W:Κ) (k:Á) (key:κ->Ρ) (b n:Nat) (f:κ->Option Nat):Prop:=
 ∃ D:DataW Unit,W.ownsMap Η k (plainElem Η 3) b n D/\∀ x l,keyOf Η k (key x)=Δ l->Maps.has D l=(f x).isSome/\D.atKey l (.lit (.int ζ 0))=.lit (.int ζ ((f x).getD 0:Nat))
section
variable {κ:Type} {W:World} {k:TypeId} {key:κ->Value} {b n:Nat} {f:κ->Option Nat}
theorem Ke (W:Κ) (k:Á) (key:κ->Ρ):IsMp (W.alloc (.map #[] 0)) k key W.heap.size 0 (λ_=>Γ):=
 ⟨.map [],Κ.ownsMap_made W _ _ _,λ_ _ _=>⟨rfl,rfl⟩⟩
theorem IsMp.kept {W':Κ} {row:Option Nat} (h:IsMp W k key b n f) (hg:W.grownBy W' row) (E:Δ b≠row):IsMp W' k key b n f:=by
 obtain⟨D,G,H⟩:=h;exact⟨D,G.kept hg E,H⟩
theorem IsMp.ext {W':Κ} (h:IsMp W k key b n f) (D:Ext W W'):IsMp W' k key b n f:=h.kept (D.grownBy Γ) (by simp)
theorem IsMp.alloc (h:IsMp W k key b n f) (o:Obj):IsMp (W.alloc o) k key b n f:=by
 obtain⟨D,E,G⟩:=h;exact⟨D,E.alloc o,G⟩
theorem IsMp.ne_row {base e size:Nat} {v:Ρ} {m:Nat} {xs:List Ρ} (h:IsMp W k key b n f) (E:W.ownsRow base e size v m xs):Δ b≠v.ownBlock:=by
 obtain⟨_,⟨G,H,D,_⟩,_⟩:=h;obtain⟨I,⟨rfl,rfl⟩|⟨g,J,cur,rfl,_,hg,_⟩⟩:=E
 ·simp[Ρ.ownBlock]
 ·intro e;simp only[Ρ.ownBlock,Option.some.injEq] at e;rw[e,hg] at D;cases D
theorem Aq {W:Κ} {base e size:Nat} {v:Ρ} {m:Nat} {xs:List Ρ} (D:W.ownsRow base e size v m xs) {g:Nat} (hg:g<base):v.ownBlock=Γ\/v.ownBlock≠Δ g:=
 .inr λe=>by have:=(D.lt _ e).1;omega
theorem IsMp.far {base e size:Nat} {v:Ρ} {m:Nat} {xs:List Ρ} (h:IsMp W k key b n f) (D:W.ownsRow base e size v m xs):v.ownBlock=Γ\/v.ownBlock≠Δ b:=.inr (λe=>h.ne_row D e.symm)
theorem Cb {W W':Κ} {base e size:Nat} {v:Ρ} {m:Nat} {xs:List Ρ} (D:W.ownsRow base e size v m xs) (hg:W.grownBy W' Γ):W'.ownsRow base e size v m xs:=D.kept hg (by cases v.ownBlock<;>simp)
theorem Zv (W:Κ):(zeroValue 3).run Η W=.ok (.int ζ 0) W:=by kernel_rfl
end
section
variable {κ:Type} {W:World} {k:TypeId} {key:κ->Value} {b n:Nat} {f:κ->Option Nat} {ops:Array Oper} {rest:List Oper} {o:Oper} {a:Act} {Q:Exit->Act->World->Prop}
theorem Er (hg:o.guard=Γ) (m x:ϻ) (t:Á) (H:o.op=Op.lookup t m x Ξ) (K:Keyed Η k) (I:Η.underlying t=Δ (.map k 3)) (hm:a.eval m=.map (Δ b)) (h:IsMp W k key b n f)
  (y:κ) (J:a.eval x=key y) (G:∃ l,keyOf Η k (key y)=Δ l) (M:wpList Η ops Q rest (a.put o.dst (ϥ #[iv ((f y).getD 0),.bool (f y).isSome])) W):wpList Η ops Q (o::rest) a W:=by
 obtain⟨D,T,U⟩:=h;obtain⟨l,G⟩:=G;obtain⟨e1,e2⟩:=U y l G;refine wpList_lookup_own_ok_int W hg m x t H k 3 ζ K I Tryz.underlying3 (Zv W) b n D hm T (key y) l J G ?_;intro c E _;rw[e2] at E;rw[e1];injection E with E
 injection E with _ E
 rw[<-E];exact M
theorem Jm [DecidableEq κ] (hg:o.guard=Γ) (m x v:ϻ) (t:Á) (M:o.op=Op.mapUpdate t m x v) (K:Keyed Η k) (T:Η.underlying t=Δ (.map k 3)) (hm:a.eval m=.map (Δ b)) (h:IsMp W k key b n f) (hn:n<ϙ)
  (U:∀ y z,key y=key z->y=z) (y:κ) (hx:a.eval x=key y) (E:∃ l,keyOf Η k (key y)=Δ l) (i:Nat) (hv:a.eval v=iv i) (hi:i<9223372036854775808)
  (hK:∀ W',IsMp W' k key b (n+1) (λz=>if z=y then Δ i else f z)->W.grownBy W' (Δ b)->wpList Η ops Q rest (a.put o.dst ς) W'):wpList Η ops Q (o::rest) a W:=by
 obtain⟨D,H,h2⟩:=h;obtain⟨l,E⟩:=E;have ae:(Lit.int ζ (i:Int)).wf=Ξ:=by
  have e1:ç.min=-9223372036854775808:=rfl;simp[Lit.wf,IntKind.wrap,IntKind.signed,IntKind.bits,e1];omega
 refine wpList_mapUpdate_own W hg m x v t M k 3 K T (plainElem Η 3) b n D hm H hn (key y) (iv i) l hx hv E (.lit (.int ζ i)) [] (plainElem_int Tryz.underlying3 ae) ?_;intro W' hW ah;refine hK W' ⟨_,hW,λz I G=>?_⟩ ah;by_cases e:z=y
 ·subst e;rw[E] at G;cases G
  simp only[if_true];exact⟨Maps.has_put_same H.isMap (K.key E) _,Maps.atKey_put_same H.isMap (K.key E) _ _⟩
 ·have J:I≠l:=λe'=>e (U _ _ (K.inj G (e'▸E)))
  simp only[e,if_false];rw[Maps.has_put_other J,Maps.atKey_put_other J];exact h2 z I G
end
open Go.RowKit Go.Shelf Go.WideMaps
theorem Pn:laidOutB Η=Ξ:=by kernel_rfl
theorem Amz:ArrKey Η 166 3 2:=⟨Tryz.underlying166,by kernel_rfl,by kernel_rfl,by kernel_rfl⟩
theorem Ace:∃ m,Η.types.size=m+1:=⟨_,(Nat.succ_pred_eq_of_pos (of_decide_eq_true (by kernel_rfl))).symm⟩
theorem Pj:Keyed Η 166:=Keyed.of_law (deep_law_laid Pn (m:=2) (by omega) (of_decide_eq_true (by kernel_rfl)) (by kernel_rfl) (by rw[Tryz.underlying166]))
def Ii (x:Nat × Nat):Ρ:=.agg #[iv x.1,iv x.2]
theorem Afb (x y:Nat × Nat) (h:Ii x=Ii y):x=y:=by
 simp[Ii] at h;exact Prod.ext (by omega) (by omega)
theorem Jo (i:Nat) (hi:i<9223372036854775808):(Lit.int ζ (i:Int)).wf=Ξ:=by
 have D:ç.min=-9223372036854775808:=rfl;simp[Lit.wf,IntKind.wrap,IntKind.signed,IntKind.bits,D];omega
theorem Afa (x:Nat × Nat) (D:x.1<9223372036854775808) (E:x.2<9223372036854775808):∃ l,keyOf Η 166 (Ii x)=Δ l:=
 ⟨_,keyOf_pair Amz Tryz.underlying3 Ace (Jo _ D) (Jo _ E)⟩
theorem Fy:Keyed Η 9:=Go.Maps.string_keyed Tryz.underlying9
structure JInv (a b:Nat->Nat) (x:Nat) (c:Nat->Nat) (bs:List Nat) (f:Nat × Nat->Option Nat):Prop where
 le:bs.length<=x
 lt:∀ y,y<x->c y<bs.length
 byte:∀ k,k<bs.length->bs.getD k 0<x/\c (bs.getD k 0)=k
 same:∀ y z,y<x->z<x->(c y=c z↔a y=a z/\b y=b z)
 has:∀ y,y<x->f (a y,b y)=Δ (c y)
 from_:∀ p i,f p=Δ i->∃ y,y<x/\p=(a y,b y)/\i=c y
theorem Ain (a b:Nat->Nat):JInv a b 0 (λ_=>0) [] (λ_=>Γ) where
 le:=by simp
 lt:=λy D=>by omega
 byte:=λk E=>by simp at E
 same:=λy z D=>by omega
 has:=λy D=>by omega
 from_:=λp i h=>by simp at h
theorem Aio {a b:Nat->Nat} {x:Nat} {c:Nat->Nat} {bs:List Nat} {f:Nat × Nat->Option Nat} (h:JInv a b x c bs f) (i:Nat) (hi:f (a x,b x)=Δ i):JInv a b (x+1) (λy=>if y=x then i else c y) bs f:=by
 obtain⟨z,G,D,rfl⟩:=h.from_ _ _ hi;simp only[Prod.mk.injEq] at D;refine⟨by have:=h.le;omega,λy H=>?_,λk T=>?_,λy I H U=>?_,λy H=>?_,λp i D=>?_⟩
 ·split
  ·exact h.lt z G
  ·exact h.lt y (by omega)
 ·obtain⟨M,J⟩:=h.byte k T;rw[if_neg (by omega)];exact⟨by omega,J⟩
 ·by_cases e:y=x<;>by_cases E:I=x
  ·subst e;subst E;simp
  ·subst e;rw[if_pos rfl,if_neg E,h.same z I G (by omega),D.1,D.2]
  ·subst E;rw[if_neg e,if_pos rfl,h.same y z (by omega) G,D.1,D.2]
  ·rw[if_neg e,if_neg E];exact h.same y I (by omega) (by omega)
 ·by_cases e:y=x
  ·subst e;rw[if_pos rfl];exact hi
  ·rw[if_neg e];exact h.has y (by omega)
 ·obtain⟨y,H,M,J⟩:=h.from_ p i D;exact⟨y,by omega,M,by rw[if_neg (by omega)];exact J⟩
theorem Aip {a b:Nat->Nat} {x:Nat} {c:Nat->Nat} {bs:List Nat} {f:Nat × Nat->Option Nat} (h:JInv a b x c bs f) (hi:f (a x,b x)=Γ) :
  JInv a b (x+1) (λy=>if y=x then bs.length else c y) (bs++[x]) (λp=>if p=(a x,b x) then Δ bs.length else f p):=by
 have M:∀ y,y<x->¬ (a y=a x/\b y=b x):=λy G he=>by
  have:=h.has y G;rw[he.1,he.2,hi] at this;cases this
 have T:(bs++[x]).length=bs.length+1:=by simp
 refine⟨by have:=h.le;omega,λy G=>?_,λk hk=>?_,λy H G ab=>?_,λy G=>?_,λp i I=>?_⟩
 ·rw[T];split
  ·omega
  ·have:=h.lt y (by omega);omega
 ·rw[T] at hk;by_cases e:k=bs.length
  ·subst e;have:(bs++[x]).getD bs.length 0=x:=by simp[Ζ]
   rw[this,if_pos rfl];exact⟨by omega,rfl⟩
  ·have U:k<bs.length:=by omega
   obtain⟨E,D⟩:=h.byte k U;rw[Bt _ _ _ _ U,if_neg (by omega)];exact⟨by omega,D⟩
 ·by_cases e:y=x<;>by_cases J:H=x
  ·subst e;subst J;simp
  ·subst e;have E:=h.lt H (by omega);rw[if_pos rfl,if_neg J];exact⟨λD=>by omega,λD=>absurd ⟨D.1.symm,D.2.symm⟩ (M H (by omega))⟩
  ·subst J;have E:=h.lt y (by omega);rw[if_neg e,if_pos rfl];exact⟨λD=>by omega,λD=>absurd D (M y (by omega))⟩
  ·rw[if_neg e,if_neg J];exact h.same y H (by omega) (by omega)
 ·by_cases e:y=x
  ·subst e;simp
  ·have E:=M y (by omega);rw[if_neg e,if_neg (by simpa using E)];exact h.has y (by omega)
 ·by_cases e:p=(a x,b x)
  ·simp only[e,if_true] at I;cases I
   exact⟨x,by omega,e,by rw[if_pos rfl]⟩
  ·simp only[e,if_false] at I;obtain⟨y,G,E,D⟩:=h.from_ p i I;exact⟨y,by omega,E,by rw[if_neg (by omega)];exact D⟩
theorem Aiq {a b c:Nat->Nat} {bs:List Nat} {f:Nat × Nat->Option Nat} (h:JInv a b 256 c bs f):Joint a b c bs:=
 ⟨h.lt,h.byte,h.same⟩
def Au (c:Nat->Nat):Array Ρ:=((ι 256).map (λb=>iv (c b))).toArray
theorem F6:ώ=Au (λ_=>0):=by kernel_rfl
theorem C3 (c:Nat->Nat):(Au c).size=256:=by simp[Au]
theorem Hm (c:Nat->Nat) (b:Nat) (D:b<256):(Au c)[b]? = Δ (iv (c b)):=by simp[Au,D]
theorem Qs (c:Nat->Nat) (b x:Nat) (D:b<256):(Au c).setIfInBounds b (iv x)=Au (λy=>if y=b then x else c y):=by
 apply Array.ext';rw[è];unfold Au;simp only;apply ϡ;intro i;rw[ϲ];by_cases hi:i<256
 ·by_cases e:b=i
  ·subst e;simp[D]
  ·simp[hi,e,Ne.symm e]
 ·have:b≠i:=by omega
  rw[if_neg this];simp[hi]
theorem Hl (c:Nat->Nat):(Au c).all (·.oneCell')=Ξ:=by
 rw[Array.all_eq_true_iff_forall_mem];intro x D;simp only[Au,List.mem_toArray,À] at D;obtain⟨b,_,rfl⟩:=D;rfl
theorem Alw {c D:Nat->Nat} (h:∀ b,b<256->c b=D b):Au c=Au D:=by
 unfold Au
 congr 1
 exact Ð λb E=>by rw[h b (υ.1 E)]
theorem Fj:(Η.info? 77).map (·.size)=Δ 256:=by kernel_rfl
theorem Pv:(Η.info? 166).map (·.size)=Δ 2:=by kernel_rfl
theorem Ba {P:Program} {fn:Func} {p u:Tmp} {ty:Á} (h:fn.results=#[.cell p ty,.tmp u]) (D:Array Ρ) (w:Κ) (g:Nat) (t:Á) (cs:Array Ρ) (fr:Nat × Nat) (d:TypeDesc)
  (E:D.getD p ς=.pointer (Δ ⟨g,0,Γ⟩)) (v:Ρ) (G:D.getD u ς=v) (hg:w.heap[g]? = Δ (Ε cs t fr))
  (hu:P.underlying ty=Δ d) (hd:(match d with|.struct _|.array _ _=>Ξ|_=>Τ)=Ξ) (hi:(P.info? ty).map (·.size)=Δ cs.size) :
  (results fn D).run P w=.ok (ϥ #[.agg cs,v]) w:=by
 rw[results_cell_tmp h,E,G];simp[asAddr,run_loadVar_row w g t ty cs fr d hg hu hd hi,Result.andThen]
theorem Pp (t u:Tbl) (ht:TVal t) (hu:TVal u) (A B:Array Ρ) (w:Κ) (hA:IsT w A t) (hB:IsT w B u) :
  Ϝ Η 70 #[.agg A,.agg B] w λe w'=>∃ c bs v,e=ν (ϥ #[.agg (Au c),v])/\Joint t.cell u.cell c bs/\Ints w' v bs/\Ext w w':=by
 obtain⟨_,_,_,_,_,_,b4,b5,be,_⟩:=hA.opened ht;obtain⟨_,_,_,_,_,_,b6,b7,bf,_⟩:=hB.opened hu;clear hA hB;obtain⟨i0,hi,b9,cd,cf⟩:=ϕ Cg;have cg:=@run_makeMap Η;have ch:=((Ι w).alloc (Ε A 108)).alloc (Ε B 108);have H0:=Ag (Ab w (Ε A 108)) (Ε B 108);have H1:=Ϙ w (Ε A 108) (Ε B 108);go_enter Tryz.func70,Tryz.ntmps70;go_upto_region 3 with (fail)
 obtain⟨w0,ay⟩:∃ W,(w.alloc (Ε A 108)).alloc (Ε B 108)=W:=⟨_,rfl⟩;have az:w0.heap.size=w.heap.size+1+1:=by rw[<-ay,Λ,Λ]
 simp only[ay] at *;clear ay;have cj:=Α (λ(W:Κ) (hW:Ext w0 W) (b:Nat) (T:b<256)=>(Ω W w.heap.size b _ _ _ (hW.heap H0)).trans (be b T));have ck:=Α (λ(W:Κ) (hW:Ext w0 W) (b:Nat) (T:b<256)=>(Ω W (w.heap.size+1) b _ _ _ (hW.heap H1)).trans (bf b T));have cl:=Α (λ(b:Nat) (T:b<256)=>And.intro (ε (ht.cell_lt b T) ht.cle) (ε (hu.cell_lt b T) hu.cle));clear H0 H1 b4 b5 be b6 b7 bf ht hu;go_upto_region 4 with (fail)
 clear cg;have R2:=Ag (Ag (Ab w0 (Ε ώ 77)) (Ε ώ 77)) (.map #[] 0);have R3:=Ag (Ϙ w0 (Ε ώ 77) (Ε ώ 77)) (.map #[] 0);have H:=Ke ((w0.alloc (Ε ώ 77)).alloc (Ε ώ 77)) 166 Ii;have cm:=(((Ι w0).alloc (Ε ώ 77)).alloc (Ε ώ 77)).alloc (.map #[] 0);have c9:(((w0.alloc (Ε ώ 77)).alloc (Ε ώ 77)).alloc (.map #[] 0)).heap.size=w.heap.size+1+1+1+1+1:=by
  rw[Λ,Λ,Λ,az]
 rw[Λ,Λ,az] at H;rw[az] at R2 R3;obtain⟨w1,bj⟩:∃ W,((w0.alloc (Ε ώ 77)).alloc (Ε ώ 77)).alloc (.map #[] 0)=W:=⟨_,rfl⟩;simp only[bj] at *;clear bj;have G:=Í w1 w1.heap.size 3 1;have R2:=Α R2;have R3:Ϻ (w1.heap[w.heap.size+1+1+1]? = Δ (Ε (Au λ_=>0) 77 (0,0))):=Α (by rw[R3,F6]);go_wp2_with (fail);go_loopw [7,14] (λv i W=>∃ (x:Nat) (bs:List Nat) (a:Option Addr) (cp:Nat) (c:Nat->Nat) (f:Nat × Nat->Option Nat),x<=256/\i=.int ζ x/\v=Β a bs.length cp/\Ext w0 W/\w1.heap.size<=W.heap.size/\OwnI W w1.heap.size v bs/\
   IsMp W 166 Ii (w.heap.size+1+1+1+1) bs.length f/\W.heap[w.heap.size+1+1]? = Δ (Ε ώ 77 (0,0))/\W.heap[w.heap.size+1+1+1]? = Δ (Ε (Au c) 77 (0,0))/\Ϻ (JInv t.cell u.cell x c bs f))
  (λ_ i _=>256-(intOf i).toNat)
 case atStart=>exact⟨0,[],Γ,0,_,_,by omega,rfl,rfl,cm,θ _,G,H,R2.out,R3.out,Α (Ain _ _)⟩
 case round=>
  obtain⟨x,bs,a,cp,c,f,hx,rfl,rfl,hE,bk,G,H,bl,bm,U⟩:=hrel;have db:=U.out.le;have E:=Α bl;have D:=Α bm;clear bl bm;by_cases aa:x<256
  ·have dc:(x:Int)<256:=by omega
   have ka:=cj.out wr hE x aa;have kb:=ck.out wr hE x aa;obtain⟨ha,T⟩:=cl.out x aa;have a6:=Afa (t.cell x,u.cell x) (by show t.cell x<_;omega) (by show u.cell x<_;omega);generalize bp:t.cell x=I at *;generalize bq:u.cell x=J at *;have a7:=Α bp;have a8:=Α bq;clear bp bq;go_upto_region 7 with (fail)
   have na:=Κ.new_ne wr _ ka;have nb:=Κ.new_ne wr _ kb;go_region_held (λW=>W.cell? ⟨w.heap.size,x,Γ⟩=Δ (iv I)/\W.cell? ⟨w.heap.size+1,x,Γ⟩=Δ (iv J)) (go_keep) (fail)
   have e5:Ext wr (wr.alloc (Ε #[iv I,iv J] 166)).drew:=((Ι wr).alloc _).drew;have K5:Ϻ ((wr.alloc (Ε #[iv I,iv J] 166)).drew.heap[wr.heap.size]? = Δ (Ε #[iv I,iv J] 166 (0,0))):=Α (Ab wr _);obtain⟨w5,br⟩:∃ W,(wr.alloc (Ε #[iv I,iv J] 166)).drew=W:=⟨_,rfl⟩;simp only[br] at *;clear br ka kb na nb;rename_i cr
   clear cr;have bt:=hE.trans e5;have bu:=ψ bk e5.size;have G:=Ah G e5;have H:=H.ext e5;have E:=Α (e5.heap E.out);have D:=Α (e5.heap D.out);have dd:w1.heap.size<=wr.heap.size:=bk;cases hf:f (I,J) with
   | some i=>
    have ct:=U.out;have HN:=Α (Aio U.out i (by rw[a7.out,a8.out];exact hf));have de:i<bs.length:=by
     obtain⟨z,hz,_,rfl⟩:=U.out.from_ _ _ hf;exact U.out.lt z hz
    clear ct;have c3:=(Ω w5 (w.heap.size+1+1+1) x _ _ _ D.out).trans (Hm c x aa);have f3:=Ϯ w5 (w.heap.size+1+1+1) x _ _ D.out;go_wp2_with (first
     | (refine Υ rfl 166 (η 10) rfl _ rfl _ _ _ _ K5.out Tryz.underlying166 rfl Pv ?_)
     | (at_lookup;refine Er rfl _ _ 165 rfl Pj Tryz.underlying165 rfl H (I,J) rfl a6 ?_;rw[hf];dsimp only [Option.isSome,Option.getD]))
    go_roundw
    case rel=>
     rw[Ϥ w5 _ _ _ _ _ _ D.out,Qs _ _ _ aa];have ad:=Bx w5 (w.heap.size+1+1+1) (Au λy=>if y=x then i else c y);refine⟨x+1,bs,a,cp,_,f,by omega,by go_num,rfl,bt.setRow (by omega) _,by rw[size_setRow];exact bu,G.kept ad (Aq G (by omega)),H.kept ad (by simp),B8 E.out (by omega) _,μ w5 _ _ _ _ _ D.out,HN⟩
    case measure=>simp[intOf];omega
   | none=>
    have HN:=Aip U.out (by rw[a7.out,a8.out];exact hf);rw[a7.out,a8.out] at HN;have HN:=Α HN;have cw:=K5;go_upto_region 11 with (first
     | (refine Υ rfl 166 (η 10) rfl _ rfl _ _ _ _ K5.out Tryz.underlying166 rfl Pv ?_)
     | (at_lookup;refine Er rfl _ _ 165 rfl Pj Tryz.underlying165 rfl H (I,J) rfl a6 ?_;rw[hf];dsimp only [Option.isSome,Option.getD]))
    go_upto_region 12 with (first
     | (refine Υ rfl 166 (η 10) rfl _ rfl _ _ _ _ K5.out Tryz.underlying166 rfl Pv ?_)
     | (at_mapUpdate;refine Jm rfl _ _ _ 165 rfl Pj Tryz.underlying165 rfl H (by unfold ϙ;omega) Afb (I,J) rfl a6 bs.length rfl (by omega) ?_;intro w6 bw af))
    clear H cw;have ag:=G.kept af (Aq G (by omega));have E:Ϻ (w6.heap[w.heap.size+1+1]? = _):=Α ((af.block _ (An E.out) (by simp)).trans E.out);have D:Ϻ (w6.heap[w.heap.size+1+1+1]? = _):=Α ((af.block _ (An D.out) (by simp)).trans D.out);have cx:=bt.grown af (λk e=>by cases e;omega);have cy:w1.heap.size<=w6.heap.size:=ψ bu af.size;clear af G K5 e5;go_upto_region 13 with (at_builtin;refine ϐ _ rfl _ _ 68 rfl w1.heap.size 3 i0 (.int ζ 0) 1 8 Tryz.underlying68 hi b9 cd cf rfl (by decide) _ _ _ rfl (ag.alloc _) _ 1 1 [iv x] rfl rfl (Ϫ _ _ _) (by simp[ϊ]) (by decide) (by unfold ϙ;omega) (by omega) (by simp;omega) _ rfl ?_;intro g7 c7 M au ah _ _)
    have c1:=An D.out;have c2:=An E.out;have E:Ϻ (M.heap[w.heap.size+1+1]? = _):=Α ((ah.block _ (ε c2 (by rw[Λ];omega)) (λe=>by have:=(ag.lt _ e.symm).1;omega)).trans (Ag E.out _));have D:Ϻ (M.heap[w.heap.size+1+1+1]? = _):=Α ((ah.block _ (ε c1 (by rw[Λ];omega)) (λe=>by have:=(ag.lt _ e.symm).1;omega)).trans (Ag D.out _));have c4:=(bw.alloc (Ε #[iv x] 3)).kept ah (λe=>by have:=(ag.lt _ e.symm).1;omega);have c5:=(cx.alloc (Ε #[iv x] 3)).grown ah (λk e=>by have:=(ag.lt k e).1;omega);have c6:w1.heap.size<=M.heap.size:=ψ cy (by have:=ah.size;rw[Λ] at this;omega);clear ah ag bw;have au:OwnI M w1.heap.size (Β (Δ ⟨g7,0,Γ⟩) (bs.length+1) c7) (bs++[x]):=by
     show ϛ _ _ _ _ _ _ _;rw[Ο,ϔ];exact au
    have c3:=(Ω M (w.heap.size+1+1+1) x _ _ _ D.out).trans (Hm c x aa);have f3:=Ϯ M (w.heap.size+1+1+1) x _ _ D.out;go_wp2;go_roundw
    case rel=>
     rw[Ϥ M _ _ _ _ _ _ D.out,Qs _ _ _ aa];have ad:=Bx M (w.heap.size+1+1+1) (Au λy=>if y=x then bs.length else c y);refine⟨x+1,bs++[x],_,c7,_,_,by omega,by go_num,by rw[Ο];rfl,c5.setRow (by omega) _,by rw[size_setRow];exact c6,au.kept ad (Aq au (by omega)),IsMp.kept (by rw[Ο];exact c4) ad (by simp),B8 E.out (by omega) _,μ M _ _ _ _ _ D.out,HN⟩
    case measure=>simp[intOf];omega
  ·obtain rfl:x=256:=by omega
   have HC:=Α (show (ώ).size=(Au c).size by rw[F6,C3,C3]);have HO:=Α (Hl c);have aw:=Α (show (Η.info? 77).map (·.size)=Δ (Au c).size by rw[C3];exact Fj);obtain⟨A',bb⟩:∃ X,Au c=X:=⟨_,rfl⟩;rw[bb] at HC HO aw D;have c8:=Α bb;clear bb;go_wp2_with (first
    | (refine Υ rfl 77 (η 6) rfl _ rfl _ _ _ _ D.out Tryz.underlying77 rfl aw.out ?_)
    | (refine Φ rfl 77 (η 4) (η 47) rfl _ A' rfl rfl _ _ E.out aw.out HC.out HO.out ?_))
   refine ϋ (v:=ϥ #[.agg A',Β a bs.length cp]) (Ba rfl _ _ _ _ _ _ _ rfl _ rfl (μ wr _ _ A' 77 (0,0) E.out) Tryz.underlying77 rfl aw.out) rfl ?_;have ad:=Bx wr (w.heap.size+1+1) A';refine⟨c,bs,_,by rw[c8.out],Aiq U.out,OwnI.ints (G.kept ad (Aq G (by omega))) (by omega),(ch.trans hE).setRow (by omega) _⟩
end Go.Proofs.YtaiogolidlamiaaGreatDoor
