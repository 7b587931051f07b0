import Derived.Shelf.SlSortCmp.WholeK
import Derived.Test.YtaiogolidlamiaaGreatDoorN02
import Derived.Test.YtaiogolidlamiaaGreatDoorN01
import Derived.Laws.IdiomStrings
import Derived.Deep.AppendLies
import Derived.Deep.MidRow
import Derived.Deep.RegionHeldLaw
import Derived.Maps.OwnSet
import Derived.WideKeyPair
import Derived.DeepKeys4
set_option linter.unusedVariables false
set_option linter.unusedSimpArgs false
open Array renaming toList_setIfInBounds → â
open BitVec renaming getLsbD_zero → õ
open Bool renaming false → Τ, false_eq_true → Þ, true → Ξ
open Go renaming Value → Ν, World → Λ, Calls → ϓ, info_parts → Ϟ, maxLen → ϛ, TypeId → Á, wpList_append_lies → Ϙ, cell_one_new → ϭ, undef → ς, Operand → ϵ, heap_alloc2_new → Ϗ, cell_of_row → γ, wpList_store_row → Φ, setRow_heap → μ, wpList_load_row → Ο, frozen_of_row → Ϸ, setCell_eq_setRow → Ϧ, bodyPost_ret → ω
open Go.Ending renaming returned → θ
open Go.IntKind renaming u64 → π, i64 → ε, i64 → þ
open Go.Lib renaming hid → Α
open Go.Obj renaming cells → Ε
open Go.Operand renaming tmp → η
open Go.Proofs.Tryz renaming prog → Ζ, underlying22 → ϻ, zeroCells108 → ξ, underlying62 → ϑ, underlying108 → Ϫ, zeroCells77 → ώ
open Go.RowKit renaming Hid → À
open Go.Value renaming slice → Β, tuple → ϙ, oneCell' → ό, int → ö, slice → Ϥ
open Go.World renaming ownsRow_nil → Ô, size_alloc → Ρ, ownsRow → Ϡ
open List renaming size_toArray → ð, getD_eq_getElem?_getD → Η, pairwise_iff_getElem → Ϯ, length_append → Υ, ext_getElem? → ϥ, getElem?_set → Ï, length_set → ϒ, getElem?_eq_none → Ϩ, map_append → ϝ, range → ι, getElem?_append_left → Ϣ, getElem?_append_right → ϗ, map_congr_left → Í, mem_range → υ, mem_append → Ó, mem_map → ϸ, mem_cons → Ú, not_mem_nil → ù, replicate → ζ, take_succ_eq_append_getElem → Ä, getElem?_eq_getElem → Μ, mem_singleton → ϴ, getElem_mem → í, getElem?_map → ϕ
open Nat renaming le_refl → ν, lt_of_lt_of_le → δ, le_trans → ψ
open Option renaming some → Δ, none → Γ
open UInt8 renaming ofNat → χ
namespace Go.Proofs.YtaiogolidlamiaaGreatDoor
set_option maxRecDepth 100000
set_option maxHeartbeats 4000000
open Go.RowKit Go.Shelf
theorem ltC (x y:Cls):ltOf K3 x y=decide (Bv (Al x 256)<Bv (Al y 256)):=by
 unfold ltOf K3;by_cases h:Bv (Al x 256)<Bv (Al y 256)
 ·simp only[h,decide_true,decide_eq_true_eq];omega
 ·simp only[h,decide_false,decide_eq_false_iff_not];omega
theorem Abg:Go.Sort.SWO (ltOf K3) where
 irrefl x:=by rw[ltC];simp
 trans x y z D E:=by rw[ltC] at *;simp at *;omega
 ntrans x y z D E:=by rw[ltC] at *;simp at *;omega
theorem Th {α:Type} [Inhabited α] (enc:α->List Ν) (k:Nat) (w:Λ) (blk D m:Nat) (E:Array α) (os:Array Obj):w.grownBy (sortWorldK enc k w blk D m E os) (Δ blk):=by
 refine⟨rfl,rfl,rfl,Go.Proofs.size_sortWorldK_c enc k w blk D m E os,λi hi G=>?_⟩;have I:i≠blk:=λe=>G (by rw[e])
 unfold sortWorldK Go.Sort.putRowK Go.Sort.putRow Go.Sort.mapBlock;show ((w.heap.modify blk _)++os)[i]? = _;rw[Array.getElem?_append,if_pos (by simpa using hi),Array.getElem?_modify,if_neg (λe=>I e.symm)]
theorem Ab8 (l:List Cls) (blk D U:Nat) (w:Λ) (hT:Tab w) (a6:0<blk) (aa:blk<w.heap.size) (ai:l.length<4611686018427387904)
  (hc:∀ i,i<l.length*4->w.cell? ⟨blk,D+i,Γ⟩=Δ (.int π (wd (l.getD (i / 4) 0#256) (i % 4)))) (hf:∀ i,w.frozen? ⟨blk,i,Γ⟩=Τ) :
  ϓ Ζ 155 #[Β (Δ ⟨blk,D,Γ⟩) l.length U,.func (.func 156) #[] #[]] w λe w'=>e=θ (ϙ #[])/\w.grownBy w' (Δ blk)/\
   ∃ I:List Cls,I.length=l.length/\I.Perm l/\I.Pairwise (λa b=>Bv (Al a 256)<=Bv (Al b 256))/\∀ i,i<I.length*4->w'.cell? ⟨blk,D+i,Γ⟩=Δ (.int π (wd (I.getD (i / 4) 0#256) (i % 4))):=by
 have hk:∀ x,(Cj x).length=4:=λ_=>rfl
 have hH:Go.Sort.HoldsK Cj 4 w blk D l.toArray:=λj G=>by
  rw[Go.Sort.size_flatK] at G;simp only[ð] at G;refine⟨?_,hf _⟩;rw[hc j G,Go.Sort.get_flatK _ _ _ _ (by simpa using G),Xt _ _ (by omega)]
  congr 2
  have:j / 4<l.length:=by omega
  simp[Η,this]
 have eg:∀ args w,(callFunc 156 args).run Ζ w=.ok (.enter 156 args) w:=enters_of Tryz.func156 (by kernel_rfl) rfl;have ao:CmpLays Ζ 156 #[] Cj 4 K3 blk D l.toArray.size w:=λm os dk _ x y=>by
  have hg:=Th Cj 4 w blk D m dk os;have aq:Tab (sortWorldK Cj 4 w blk D m dk os):=λj G=>by
   rw[Λ.cell?_of_block (hg.block 0 (by omega) (λe=>by injection e with e;omega))];exact hT j G
  exact (Al5 x y _ aq (by have:=hg.size;omega)).mono λe w' ⟨he,hE,hd⟩=>⟨he,Akx hE hd⟩
 have ae:=AnyQ.slices_SortFunc Tryz.l155 4 Tryz.isAgg62 Tryz.sizeOf62 Cj hk (λx v hv=>by simp[Cj] at hv;rcases hv with rfl|rfl|rfl|rfl<;>rfl) K3 Abg 156 #[] blk D U l.toArray w eg ao hH aa (by simpa using ai);change ϓ Ζ 155 _ _ _ at ae
 refine ae.mono ?_;rintro e w' ⟨he,E,n,os,hp,hs,rfl⟩;have aw:=Th Cj 4 w blk D n E os;refine⟨he,aw,E.toList,?_⟩;obtain⟨J,_,M⟩:=hp;simp only[ð] at J M hs;have ax:=holdsK_sortWorldK_c Cj 4 w blk D l.toArray E n os hH aa (by simpa using J);have af:E.toList.length=l.length:=by simpa using J
 refine⟨af,?_,?_,λi hi=>?_⟩
 ·have T:(l.toArray.extract 0 l.length)=l.toArray:=by simp
  have e3:(E.extract 0 l.length)=E:=by rw[<-J];simp
  rw[T,e3] at M;exact M
 ·rw[Ϯ];intro i j hi G az;have:=hs i j (Nat.zero_le _) az (by rw[<-af];exact G);rw[ltC,decide_eq_false_iff_not] at this;have e1:E[i]! = E.toList[i]:=by simp at hi;simp[hi]
  have T:E[j]! = E.toList[j]:=by simp at G;simp[G]
  rw[e1,T] at this;omega
 ·have h1:i / 4<E.size:=by simp at hi;omega
  have:=(ax.cell (i:=i / 4) (c:=i % 4) h1 (by omega)).1;rw[show D+i / 4*4+i % 4=D+i by omega,Xt _ _ (by omega)] at this;rw[this]
  congr 3
  simp[Η,h1]
set_option maxRecDepth 100000 in
theorem Yf (l:List Cls) (hl:l.length<=4611686018427387904) (a:Option Addr) (b a8 bt:Nat) (w:Λ) (hT:Tab w) (bw:0<w.heap.size) (ha:0<l.length->a=Δ ⟨b,a8,Γ⟩)
  (hc:∀ i,i<l.length*4->w.cell? ⟨b,a8+i,Γ⟩=Δ (.int π (wd (l.getD (i / 4) 0#256) (i % 4)))) :
  ϓ Ζ 143 #[Β a l.length bt] w λe w'=>∃ v L,e=θ v/\Cs w' v L/\L.Perm (Ek l)/\L.Pairwise (λa b=>Bv (Al a 256)<=Bv (Al b 256))/\Ext w w':=by
 have hN:=Α (Agm w);obtain⟨i0,hi,bc,bd,be⟩:=Ϟ Qe;go_enter Tryz.func143,Tryz.ntmps143;go_wp2_with (first|(go_at_call 94;refine hN.out.mono ?_;rintro e w1 ⟨rfl,bf⟩));clear hN;go_loopw [3,16] (λv i W=>∃ k:Nat,k<=l.length/\i=.int ε k/\Ext w W/\Row W w.heap.size v (Ek (l.take k)))
  (λ_ i _=>l.length-(intOf i).toNat)
 case atStart=>
  refine⟨0,by omega,rfl,bf.alloc _,?_⟩;exact⟨rfl,.inr ⟨w1.heap.size,1,Ab allC,rfl,bf.size,heap_alloc_new w1 _,ν _,by unfold ϛ;omega,rfl,rfl⟩⟩
 case round=>
  obtain⟨k,hk,rfl,hE,D⟩:=hrel;by_cases bg:k<l.length
  ·have e:=ha (by omega);obtain⟨a0,U,a2,a3⟩:=F6 (W:=wr) (λi hi=>hE.cell (hc i hi)) k bg;have HC:=Α hc;have HA:=Α ha;clear ha hc;subst e;have bh:=Α (Amd l k bg);have I:=Α (W4 (l.take k));generalize Ek (l.take k)=C at *;obtain⟨c,bj⟩:∃ c,l.getD k 0#256=c:=⟨_,rfl⟩;rw[bj] at a0 U a2 a3 bh;clear bj;obtain⟨g,an,rfl,bk,bl,ai,af⟩:=D.cells I.out.pos;have cy:=I.out.len;have b5:=I.out.pos;clear D ai;go_wp2;obtain⟨E,aj⟩:∃ W,wr.alloc (Ε (Ab c) 62)=W:=⟨_,rfl⟩;simp only[aj];have ao:Ext wr E:=aj▸(Θ wr).alloc _;have h5:E.heap[wr.heap.size]? = Δ (Ε (Ab c) 62 (0,0)):=aj▸Aa wr _;have H5:=Α h5;clear aj h5 a0 U a2 a3;have b7:=Α (λ(i:Nat) (hi:i<C.length*4)=>ao.cell (af i hi));clear af;go_loopw [6,22] (λu i W=>∃ j:Nat,j<=C.length/\i=.int ε j/\Ext E W/\Row W E.heap.size u (Dd c (C.take j)))
    (λ_ i _=>C.length-(intOf i).toNat)
   case atStart=>exact⟨0,by omega,rfl,Θ E,Ô _ _ _ _⟩
   case round=>
    obtain⟨j,hj,rfl,J,D⟩:=hrel;by_cases bm:j<C.length
    ·obtain⟨a0,U,a2,a3⟩:=F6 (W:=wr) (λi hi=>J.cell (b7.out i hi)) j bm;have bn:=Α (Abz c C j bm);have b8:=Ab0 c (C.take j);rw[List.length_take] at b8;generalize Dd c (C.take j)=S at *;obtain⟨d,hd⟩:∃ d,C.getD j 0#256=d:=⟨_,rfl⟩;rw[hd] at a0 U a2 a3 bn;simp only[Nat.zero_add] at a0 U a2 a3;clear hd;go_upto_region 9 with (fail)
     obtain⟨w2,ak⟩:∃ W,wr.alloc (Ε (Ab d) 62)=W:=⟨_,rfl⟩;simp only[ak];have au:Ext wr w2:=ak▸(Θ wr).alloc _;have h8:w2.heap[wr.heap.size]? = Δ (Ε (Ab d) 62 (0,0)):=ak▸Aa wr _;clear ak;obtain⟨b0,b1,b2,b3⟩:=Hn h8;obtain⟨c0,c1,c2,c3⟩:=Hn ((J.trans au).heap H5.out);clear h8 a0 U a2 a3;have D:=Ah D au;have J:=J.trans au;have h1:=λ(W:Λ)=>Α (Qa d c W)
     have h2:=λ(W:Λ)=>Α (Ag3 d c W)
     have HX:=Α (Oh c d);generalize D5 c d=sp at *;generalize d &&& c=x at *;generalize d &&& ~~~c=y at *;go_cut [32,33] (λv m W=>v=.agg #[.int π (wd x 0),.int π (wd x 1),.int π (wd x 2),.int π (wd x 3),.int π (wd y 0),.int π (wd y 1),.int π (wd y 2),.int π (wd y 3)]/\m=.int ε 0/\∃ e:EW w2,W=e.W)
     case first=>
      refine Dx (by kernel_rfl) (by kernel_rfl) ?_;iterate 8 (refine wpQuiet_step (λK hK=>?_);go_simp;first|(refine hK _ ?_;clear hK K)|(apply Exists.intro;refine⟨λ_=>?_,hK _ ?_⟩;(first|(with_reducible exact F7 (h1 _).out)|(with_reducible exact F7 (h2 _).out));clear hK K))
      refine wpQuiet_nil ?_;rintro _ ⟨e,rfl⟩;go_wp2;go_meet
      exact⟨rfl,rfl,e,rfl⟩
     case rest=>
      obtain⟨rfl,rfl,e,rfl⟩:=hcut;have D:=Ah D e.ext;have J:=J.trans e.ext;clear b0 b1 b2 b3 c0 c1 c2 c3 h1 h2;generalize e.W=w3 at *;go_wp2_with (fail);go_loopw [6,33] (λu m W=>∃ q:Nat,q<=2/\m=.int ε q/\Ext E W/\Row W E.heap.size u (S++D7 x y q))
       (λ_ m _=>2-(intOf m).toNat)
      case atStart=>exact⟨0,by omega,rfl,J,by rw[Ae9,List.append_nil];exact D⟩
      case round=>
       obtain⟨q,hq,rfl,M,D⟩:=hrel;obtain rfl|rfl|rfl:q=0\/q=1\/q=2:=by omega
       ·have ix:=Ajn (wd x 0) (wd x 1) (wd x 2) (wd x 3) (wd y 0) (wd y 1) (wd y 2) (wd y 3) wr;have T:=λW=>L3 x 0#256 W
        rw[F2] at T;have ch:=Hj;have cj:=M.size;have ax:=Uo S x y 0;have G:=Α (Ae8 S x y);generalize S++D7 x y 0=P at D ax G;generalize (x==0#256)=bx at T G;cases bx
        ·go_wp2_with (at_builtin;(refine wpList_append_own _ rfl _ _ 26 rfl E.heap.size 62 i0 (.agg zA) 4 32 Tryz.underlying26 hi bc bd be rfl (by decide) _ _ _ rfl ((D.alloc _).alloc _) _ 1 1 (Cj x) rfl rfl ?_ (by simp[Cj,ό]) (by unfold ϛ;omega) (by omega) (by simp;omega) ?_))
         ·have:=L7 (wr.alloc (Ε (Ab x) 62)) x
          rwa [Ρ] at this
         ·intro v' w4 ag ah _;have a6:Ext E w4:=((M.alloc _).alloc _).grown ah (λg e=>(D.lt g e).1);clear D ah T ix;go_wp2;go_roundw
          case rel=>
           refine⟨1,by omega,rfl,a6,?_⟩;rw[G.out];simp only[Þ,if_false];show Ϡ _ _ _ _ _ _ _;rw[Υ,M5,M4];exact ag
          case measure=>simp[intOf]
        ·go_wp2;refine⟨⟨1,by omega,rfl,M.alloc _,?_⟩,by simp[intOf]⟩;rw[G.out];simp only[if_true,List.append_nil];exact D.alloc _
       ·have ix:=Ajm (wd x 0) (wd x 1) (wd x 2) (wd x 3) (wd y 0) (wd y 1) (wd y 2) (wd y 3) wr;have T:=λW=>L3 y 0#256 W
        rw[F2] at T;have ch:=Hj;have cj:=M.size;have ax:=Uo S x y 1;have G:=Α (Ae7 S x y);generalize S++D7 x y 1=P at D ax G;generalize (y==0#256)=bx at T G;cases bx
        ·go_wp2_with (at_builtin;(refine wpList_append_own _ rfl _ _ 26 rfl E.heap.size 62 i0 (.agg zA) 4 32 Tryz.underlying26 hi bc bd be rfl (by decide) _ _ _ rfl ((D.alloc _).alloc _) _ 1 1 (Cj y) rfl rfl ?_ (by simp[Cj,ό]) (by unfold ϛ;omega) (by omega) (by simp;omega) ?_))
         ·have:=L7 (wr.alloc (Ε (Ab y) 62)) y
          rwa [Ρ] at this
         ·intro v' w4 ag ah _;have a6:Ext E w4:=((M.alloc _).alloc _).grown ah (λg e=>(D.lt g e).1);clear D ah T ix;go_wp2;go_roundw
          case rel=>
           refine⟨2,by omega,rfl,a6,?_⟩;rw[G.out];simp only[Þ,if_false];show Ϡ _ _ _ _ _ _ _;rw[Υ,M5,M4];exact ag
          case measure=>simp[intOf]
        ·go_wp2;refine⟨⟨2,by omega,rfl,M.alloc _,?_⟩,by simp[intOf]⟩;rw[G.out];simp only[if_true,List.append_nil];exact D.alloc _
       ·have G:À (S++D7 x y 2=S++sp):=Α (by rw[HX.out];rfl);rw[G.out,<-bn.out] at D;go_wp2;go_roundw
        case rel=>exact⟨j+1,by omega,by go_num,M,D⟩
        case measure=>simp[intOf];omega
    ·obtain rfl:j=C.length:=by omega
     rw[List.take_length,<-bh.out] at D;have ck:=(hE.trans ao).trans J;have ag:Row wr w.heap.size u6 (Ek (l.take (k+1))):=D.mono (hE.trans ao).size;have ha:=HA.out;have hc:=HC.out;go_wp2;go_roundw
     case rel=>exact⟨k+1,by omega,by go_num,ck,ag⟩
     case measure=>simp[intOf];omega
  ·obtain rfl:k=l.length:=by omega
   rw[List.take_length] at D;have I:=W4 l;obtain⟨C,hC⟩:∃ C,Ek l=C:=⟨_,rfl⟩;rw[hC] at D I;have HU:=Α hC;clear hC;obtain⟨g,an,rfl,bk,bl,ai,af⟩:=D.cells I.pos;have cm:=Α (Ab8 C g 0 an wr (hT.below hE.below bw) (by omega) bl (by have:=I.len;omega) af ai);have cn:=Α I.len;clear D ai af ha hc;go_wp2_with (go_at_call 155;refine cm.out.mono ?_;rintro e w5 ⟨rfl,br,L,cq,cr,ct,cu⟩);go_ret;have cv:Ext w w5:=hE.grown br (λk e=>by cases e;exact bk);refine⟨_,L,rfl,?_,by rw[HU.out];exact cr,ct,cv⟩;have h5:=cn.out;have h6:=br.size;have b5:=I.pos;rw[<-cq];exact⟨by omega,.inr ⟨by omega,g,0,an,rfl,by omega,cu⟩⟩
theorem Yh (l:List Cls) (v:Ν) (w:Λ) (E:Tab w) (G:0<w.heap.size) (h:Cs w v l) :
  ϓ Ζ 143 #[v] w λe w'=>∃ v' L,e=θ v'/\Cs w' v' L/\L.Perm (Ek l)/\L.Pairwise (λa b=>Bv (Al a 256)<=Bv (Al b 256))/\Ext w w':=by
 obtain⟨I,⟨hn,a,D,rfl⟩|⟨hn,b,J,D,rfl,T,M⟩⟩:=h
 ·have:=Yf l I a 0 0 D w E G (by omega) (λi hi=>by omega)
  rwa [hn] at this
 ·exact Yf l I (Δ ⟨b,J,Γ⟩) b J D w E G (λ_=>rfl) M
theorem Ik (v:Ν) (l:List UInt8) (W:Λ) (h:By W v l):(convert 22 9 v).run Ζ W=.ok (.string ⟨l.toArray⟩) W:=by
 obtain⟨J,⟨hn,a,D,rfl⟩|⟨hn,b,G,D,rfl,M,I⟩⟩:=h
 ·obtain rfl:l=[]:=List.eq_nil_of_length_eq_zero hn;cases a with
  | some a=>exact run_convert_bytes_back W 22 9 5 a D [] ϻ Tryz.underlying5 Tryz.underlying9 (λj E=>by simp at E)
  | none=>
   rw[run_convert_bytes_string W 22 9 5 Γ 0 D ϻ Tryz.underlying5 Tryz.underlying9]
   kernel_rfl
 ·refine run_convert_bytes_back W 22 9 5 ⟨b,G,Γ⟩ D l ϻ Tryz.underlying5 Tryz.underlying9 (λj E=>?_);rw[Addr.add_lit,I j (by omega)];simp[Η,E]
def q0:Cls:= ~~~(L9 97 100)
def q1:Cls:=L9 97 97
def q2:Cls:=L9 98 99
def q3:Cls:=L9 100 100
def k4:Cls:=ofL [97,98,99,97]
def k3:Cls:=ofL [99,97,98]
open Go
theorem Kx {w W':Λ} {e:EW w} (h:Ext e.W W'):∃ D:EW w,W'=D.W:=⟨⟨W',e.ext.trans h⟩,rfl⟩
theorem Xp (w:Λ):∃ e:EW w,w=e.W:=⟨⟨w,Θ w⟩,rfl⟩
theorem Aj {W:Λ} {b b':Nat} {e E:Á} {s s' n m:Nat} {v u:Ν} {xs G:List Ν} (h:W.ownsRow b e s v n xs) (I:W.ownsRow b' E s' u m G) (J:e≠E):v.ownBlock=Γ\/v.ownBlock≠u.ownBlock:=by
 obtain⟨_,⟨rfl,_⟩|⟨g,U,cur,rfl,_,hg,_⟩⟩:=h
 ·exact .inl rfl
 ·obtain⟨_,⟨rfl,_⟩|⟨M,aa,ab,rfl,_,D,_⟩⟩:=I
  ·exact .inr (by simp[Ν.ownBlock])
  ·refine .inr λT=>?_
   have:g=M:=by simpa [Ν.ownBlock] using T
   subst this;rw[hg] at D;simp at D;exact J D.2
theorem Aj7 (L:List Cls) (k:Nat) (c:Cls) (E:k<L.length) :
  Cy (L.set k c)=((((Cy L).set (k*4) (.int π (wd c 0))).set (k*4+1) (.int π (wd c 1))).set (k*4+1+1) (.int π (wd c 2))).set (k*4+1+1+1) (.int π (wd c 3)):=by
 have D:=Qj L;apply ϥ;intro i;by_cases hi:i<L.length*4
 ·rw[Ja _ i (by simpa using hi)];simp only[Ï,ϒ,D];by_cases hd:i / 4=k
  ·subst hd;rw[Wx _ _ _ _ E];have:i % 4=0\/i % 4=1\/i % 4=2\/i % 4=3:=by omega
   rcases this with h|h|h|h
   ·rw[if_neg (by omega),if_neg (by omega),if_neg (by omega),if_pos (by omega),if_pos (by omega),h]
   ·rw[if_neg (by omega),if_neg (by omega),if_pos (by omega),if_pos (by omega),h]
   ·rw[if_neg (by omega),if_pos (by omega),if_pos (by omega),h]
   ·rw[if_pos (by omega),if_pos (by omega),h]
  ·rw[Wy _ _ _ _ _ (Ne.symm hd),if_neg (by omega),if_neg (by omega),if_neg (by omega),if_neg (by omega),Ja _ i hi]
 ·rw[Ϩ (by rw[Qj,ϒ];omega),Ϩ (by simp only[ϒ,D];omega)]
theorem L6 {W:Λ} {base g D:Nat} {L:List Cls} (h:Row W base (Β (Δ ⟨g,0,Γ⟩) L.length D) L) (k:Nat) (M:k<L.length) (c:Cls) :
  Row (W.setCells g (k*4) (Ab c).toList) base (Β (Δ ⟨g,0,Γ⟩) L.length D) (L.set k c)/\W.grownBy (W.setCells g (k*4) (Ab c).toList) (Δ g):=by
 have e:W.setCells g (k*4) (Ab c).toList=(((W.setCell ⟨g,k*4,Γ⟩ (.int π (wd c 0))).setCell ⟨g,k*4+1,Γ⟩ (.int π (wd c 1))).setCell ⟨g,k*4+1+1,Γ⟩ (.int π (wd c 2))).setCell ⟨g,k*4+1+1+1,Γ⟩ (.int π (wd c 3)):=rfl;have E:=h.stored (k*4) (.int π (wd c 0));have G:=E.1.stored (k*4+1) (.int π (wd c 1));have I:=G.1.stored (k*4+1+1) (.int π (wd c 2));have J:=I.1.stored (k*4+1+1+1) (.int π (wd c 3));rw[e];refine⟨?_,E.2.trans (G.2.trans (I.2.trans J.2))⟩;show Ϡ _ _ _ _ _ _ _;rw[Aj7 L k c M,ϒ];exact J.1
theorem Oo {W:Λ} {base g D:Nat} {L:List Cls} (h:Row W base (Β (Δ ⟨g,0,Γ⟩) L.length D) L) (k:Nat) (E:k<L.length):W.there g (k*4) 4:=by
 intro j G;refine⟨?_,h.frozenAt _⟩;rw[h.cellAt _ (by omega),Ja _ _ (by omega)];rfl
abbrev RowB (W:Λ) (base:Nat) (v:Ν) (l:List UInt8):Prop:=W.ownsRow base 5 1 v l.length (l.map bv)
theorem RowB.cell {W:Λ} {base g n D:Nat} {l:List UInt8} (h:W.ownsRow base 5 1 (Β (Δ ⟨g,0,Γ⟩) n D) l.length (l.map bv)) (hn:n=l.length) (k:Nat) (E:k<l.length):W.cell? ⟨g,k,Γ⟩=Δ (bv (l.getD k 0)):=by
 subst hn;rw[Ϡ.cellAt h k (by omega)];simp[Η,E]
theorem Eo {W:Λ} {b:Nat} {e:Á} {s n:Nat} {v:Ν} {xs:List Ν} (h:W.ownsRow b e s v n xs):∃ a D,v=Β a n D:=by
 obtain⟨_,⟨rfl,rfl⟩|⟨g,D,cur,rfl,_⟩⟩:=h
 ·exact⟨_,_,rfl⟩
 ·exact⟨_,_,rfl⟩
theorem Pb {W:Λ} {b:Nat} {e:Á} {s n m D:Nat} {a:Option Addr} {xs:List Ν} (h:W.ownsRow b e s (Β a m D) n xs) (hn:0<n):∃ g,a=Δ ⟨g,0,Γ⟩:=by
 obtain⟨_,⟨_,E⟩|⟨g,D,cur,hv,_⟩⟩:=h
 ·omega
 ·simp at hv;exact⟨g,hv.1⟩
theorem M7 {W:Λ} {base g D:Nat} {L:List Cls} (h:Row W base (Β (Δ ⟨g,0,Γ⟩) L.length D) L) (k:Nat) (E:k<L.length) :
  W.cell? ⟨g,k*4,Γ⟩=Δ (.int π (wd (L.getD k 0#256) 0))/\W.cell? ⟨g,k*4+1,Γ⟩=Δ (.int π (wd (L.getD k 0#256) 1))/\
  W.cell? ⟨g,k*4+2,Γ⟩=Δ (.int π (wd (L.getD k 0#256) 2))/\W.cell? ⟨g,k*4+3,Γ⟩=Δ (.int π (wd (L.getD k 0#256) 3)):=by
 have H:∀ j,j<4->W.cell? ⟨g,k*4+j,Γ⟩=Δ (.int π (wd (L.getD k 0#256) j)):=λj G=>by
  rw[h.cellAt _ (by omega),Ja _ _ (by omega),show (k*4+j) / 4=k by omega,show (k*4+j) % 4=j by omega]
 exact⟨H 0 (by omega),H 1 (by omega),H 2 (by omega),H 3 (by omega)⟩
set_option maxRecDepth 100000 in
theorem Aea (l:List Cls) (v:Ν) (w:Λ) (h:Cs w v l) :
  ϓ Ζ 91 #[v] w λe w'=>∃ v',e=θ v'/\Cs w' v' (K4 l)/\Ext w w':=by
 have HL:=Α h;clear h;obtain⟨i0,hi,bn,bo,bp⟩:=Ϟ Qe;obtain⟨j0,hj,bt,bu,bw⟩:=Ϟ Qd;go_enter Tryz.func91,Tryz.ntmps91;go_wp2_with (fail);go_loopw [3,4,5] (λo t i W=>∃ (k:Nat) (out:List Cls) (le:List UInt8),k<=256/\i=.int ε k/\Ext w W/\Row W w.heap.size o out/\RowB W w.heap.size t le/\À (RInv l k out le))
  (λ_ _ i _=>256-(intOf i).toNat)
 case atStart=>
  refine⟨0,[],[],by omega,rfl,((Θ w).alloc _).alloc _,?_,?_,Α (Adf l)⟩
  ·exact (Λ.ownsRow_made (base:=w.heap.size) (e:=62) (size:=4) w #[] 0 (by simp) (by unfold ϛ;omega) rfl).alloc _
  ·have h:=Λ.ownsRow_made (base:=w.heap.size) (e:=5) (size:=1) (w.alloc (Ε #[] 62)) #[] 0 (by simp) (by unfold ϛ;omega) rfl
   rwa [Ρ] at h
 case round=>
  obtain⟨k,out,le,hk,rfl,hE,D,E,J⟩:=hrel;by_cases bx:k<256
  ·have aa:=Α J.out.len;have cb:=J.out.bound;have cd:out.length<=k:=by have:=aa.out;omega
   obtain⟨ao,co,rfl⟩:=Eo D;obtain⟨al,cl,rfl⟩:=Eo E;have hw:IntKind.u8.wrap (k:Int)=k:=IntWalk.u8_in _ ⟨by omega,by omega⟩;obtain⟨wo,bz⟩:∃ W,W=wr:=⟨_,rfl⟩;subst bz;have hd:decide ((k:Int)<256)=Ξ:=by simp;omega
   go_wp2_with (fail);go_loopw [6] (λj W=>∃ m:Nat,m<=out.length/\j=.int ε m/\Ext wo W/\À (∀ q,q<m->¬ Alk l (le.getD q 0).toNat k))
    (λj _=>out.length-(intOf j).toNat)
   case atStart=>exact⟨0,by omega,rfl,Θ wo,Α (λq hq=>by omega)⟩
   case round=>
    obtain⟨m,hm,rfl,ab,bb⟩:=hrel;have ad:=hE.trans ab;have D:=Ah D ab;have E:=Ah E ab;have cj:=ad.size;by_cases ak:m<out.length
    ·have bc:m<le.length:=by have:=aa.out;omega
     obtain⟨g,rfl⟩:=Pb D (by omega);obtain⟨g',rfl⟩:=Pb E (by have:=aa.out;omega);have cl:=RowB.cell E rfl m bc;obtain⟨x,an⟩:∃ x,le.getD m 0=x:=⟨_,rfl⟩;rw[an] at cl;have bd:=Α an;clear an;have aq:=Α (An1 l x.toNat k);have hx:=x.toNat_lt;have hA:=Α (An2 l v (x.toNat:Int) (k:Int) (by omega) (by omega) (by omega) (by omega) wr (HL.out.ext ad));generalize (l.all λc=>Aw c (x.toNat:Int)==Aw c (k:Int))=b at hA aq;cases b
     ·go_wp2_with (go_at_call 123;with_reducible refine hA.out.mono ?_;rintro e w1 ⟨rfl,G⟩);clear hA cl;go_roundw
      case rel=>exact⟨m+1,by omega,by go_num,ab.trans G,Α λq hq=>by
       by_cases b4:q=m
       ·rw[b4,bd.out];exact λha=>Bool.false_ne_true (aq.out.2 ha)
       ·exact bb.out q (by omega)⟩
      case measure=>simp[intOf];omega
     ·have cn:((m:Int)==(out.length:Int))=Τ:=by simp;omega
      have HS:=Α (Adg J.out (by omega) m bc (by rw[bd.out];exact aq.out.1 rfl));obtain⟨a0,a1,a2,a3⟩:=M7 D m ak;generalize out.getD m 0#256=d at *;have hW:=λW=>Α (Si d (k:Int) (by omega) (by omega) W)
      go_wp2_with (first
       | (go_at_call 123;with_reducible refine hA.out.mono ?_;rintro e w1 ⟨rfl,G⟩;have a0:=G.cell a0;have a1:=G.cell a1;have a2:=G.cell a2;have a3:=G.cell a3;have aw:=Ah D G)
       | (go_at_call 124;with_reducible refine (hW _).out.mono ?_;rintro e w2 ⟨rfl,M⟩)
       | (refine wpList_store_mid rfl 62 (η 52) (η 51) rfl g (m*4) (Ab (Bp d (k:Int))) rfl rfl (Oo (Ah aw M) m ak) Bf (Eq _) ?_))
      go_roundw
      case rel=>
       have I:=L6 (Ah aw M) m ak (Bp d (k:Int));have ax:=(D.lt g rfl).1;refine⟨k+1,_,le,by omega,by go_num,((ad.trans G).trans M).grown I.2 (λq e=>by cases e;exact ax),?_,?_,HS⟩
       ·have:=I.1;show Ϡ _ _ _ _ _ _ _;rw[ϒ];rw[show Row _ _ _ _=Ϡ _ _ _ _ _ _ _ from rfl,ϒ] at this;exact this
       ·exact (Ah (Ah E G) M).kept I.2 (Aj (Ah (Ah E G) M) (Ah aw M) (by decide))
      case measure=>simp[intOf];omega
    ·obtain rfl:m=out.length:=by omega
     have cq:((out.length:Int)==(out.length:Int))=Ξ:=by simp
     have HS:=Α (Adh J.out (by omega) (by rw[<-aa.out];exact bb.out));have ay:=L7 wr 0#256;rw[F2] at ay;have hW:=λW=>Α (Si 0#256 (k:Int) (by omega) (by omega) W)
     have HN:=Α ay;clear ay;go_wp2_with (at_builtin;(refine Ϙ _ rfl _ _ 26 rfl w.heap.size 62 i0 (.agg zA) 4 32 Tryz.underlying26 hi bn bo bp rfl (by decide) _ _ _ rfl (D.alloc _) _ 1 1 (Cj 0#256) rfl rfl HN.out (by simp[Cj,ό]) (by decide) (by unfold ϛ;omega) (by omega) (by simp;omega) _ rfl ?_));intro g b5 w3 az a6 _ cr;have bf:Ext w w3:=(ad.alloc _).grown a6 (λq e=>by have:=(D.lt q e).1;omega);have ai:=(E.alloc _).kept a6 (Aj E D (by decide));have ct:=bf.size;clear HN a6 E;go_wp2_with (at_builtin;(refine Ϙ _ rfl _ _ 22 rfl w.heap.size 5 j0 (.int .u8 0) 1 1 ϻ hj bt bu bw rfl (by decide) _ _ _ rfl (ai.alloc _) _ 1 1 [.int .u8 (k:Int)] rfl rfl (ϭ _ _ _) (by simp[ό]) (by decide) (by unfold ϛ;omega) (by omega) (by simp;omega) _ rfl ?_));intro g4 cv w4 bh a7 _ cw;have b7:Ext w w4:=(bf.alloc _).grown a7 (λq e=>by have:=(ai.lt q e).1;omega);have bj:=(az.alloc _).kept a7 (Aj az ai (by decide));have U:À (Row w4 w.heap.size (Β (Δ ⟨g,0,Γ⟩) (out++[0#256]).length b5) (out++[0#256])):=Α (by
      show Ϡ _ _ _ _ _ _ _;rw[M5,M4,Υ];exact bj)
     obtain⟨a0,a1,a2,a3⟩:=M7 U.out out.length (by simp);rw[Cm] at a0 a1 a2 a3;have hu:((χ k).toNat:Int)=k:=by rw[u8n k bx]
     have HU:=Α hu;clear hu a7 ai az bj;go_wp2_with (first
      | (go_at_call 124;with_reducible refine (hW _).out.mono ?_;rintro e w5 ⟨rfl,T⟩)
      | (refine wpList_store_mid rfl 62 (η 52) (η 51) rfl g (out.length*4) (Ab (Bp 0#256 (k:Int))) rfl rfl (Oo (Ah U.out T) out.length (by simp)) Bf (Eq _) ?_))
     go_roundw
     case rel=>
      have I:=L6 (Ah U.out T) out.length (by simp) (Bp 0#256 (k:Int));have ax:=(U.out.lt g rfl).1;have es:(out++[0#256]).set out.length (Bp 0#256 (k:Int))=out++[Bp 0#256 (k:Int)]:=by simp
      rw[es] at I;refine⟨k+1,out++[Bp 0#256 (k:Int)],le++[χ k],by omega,by go_num,(b7.trans T).grown I.2 (λq e=>by cases e;exact ax),?_,?_,HS⟩
      ·have:=I.1;simp only[Υ,List.length_singleton] at this ⊢;exact this
      ·have:=(Ah bh T).kept I.2 (Aj (Ah bh T) (Ah U.out T) (by decide));show Ϡ _ _ _ _ _ _ _;rw[Υ,ϝ,List.map_singleton,bv,HU.out];exact this
     case measure=>simp[intOf];omega
  ·obtain rfl:k=256:=by omega
   have he:=Adi J.out;have bk:=D.toCs (by have:=J.out.len;have:=J.out.bound;omega);rw[he] at bk;go_wp2;go_ret;exact⟨_,rfl,bk,hE⟩
abbrev iv (x:Nat):Ν:=.int ε (x:Int)
def Ints (W:Λ) (v:Ν) (l:List Nat):Prop:=Sl W v 1 l.length (λi=>iv (l.getD i 0))
def Bools (W:Λ) (v:Ν) (l:List Bool):Prop:=Sl W v 1 l.length (λi=>.bool (l.getD i Τ))
def Rows (W:Λ) (v:Ν) (N:List (List Nat)):Prop:=
 ∃ vs:List Ν,vs.length=N.length/\Sl W v 1 N.length (λi=>vs.getD i ς)/\∀ i,i<N.length->Ints W (vs.getD i ς) (N.getD i [])
theorem Ints.ext {W W':Λ} {v:Ν} {l:List Nat} (h:Ints W v l) (D:Ext W W'):Ints W' v l:=Sl.ext h D
theorem Bools.ext {W W':Λ} {v:Ν} {l:List Bool} (h:Bools W v l) (D:Ext W W'):Bools W' v l:=Sl.ext h D
theorem Rows.ext {W W':Λ} {v:Ν} {N:List (List Nat)} (h:Rows W v N) (D:Ext W W'):Rows W' v N:=by
 obtain⟨vs,E,G,I⟩:=h;exact⟨vs,E,G.ext D,λi hi=>(I i hi).ext D⟩
theorem Û {W:Λ} {v:Ν} {k n:Nat} {f:Nat->Ν} (h:Sl W v k n f) (G:0<n) :
  ∃ b off D,v=Β (Δ ⟨b,off,Γ⟩) n D/\∀ i,i<n*k->W.cell? ⟨b,off+i,Γ⟩=Δ (f i):=by
 obtain⟨_,⟨hn,_⟩|⟨_,b,off,D,hv,_,E⟩⟩:=h
 ·omega
 ·exact⟨b,off,D,hv,E⟩
theorem Sl.len {W:Λ} {v:Ν} {k n:Nat} {f:Nat->Ν} (h:Sl W v k n f):∃ a D,v=Β a n D:=by
 obtain⟨_,⟨hn,a,D,rfl⟩|⟨_,b,E,D,rfl,_⟩⟩:=h
 ·exact⟨a,D,by rw[hn]⟩
 ·exact⟨_,D,rfl⟩
def IsD (W:Λ) (v:Ν) (d:Dfa):Prop:=∃ D vn va,v=.agg #[D,vn,va]/\Cs W D d.cls/\Rows W vn d.n/\Bools W va d.acc
theorem IsD.ext {W W':Λ} {v:Ν} {d:Dfa} (h:IsD W v d) (D:Ext W W'):IsD W' v d:=by
 obtain⟨E,vn,va,hv,G,I,J⟩:=h;exact⟨E,vn,va,hv,G.ext D,I.ext D,J.ext D⟩
def Eh (c:Nat->Nat) (n:Nat) (vn va:Ν):List Ν:=(ι 256).map (λb=>iv (c b))++[iv n,vn,va]
def Ai (c:Nat->Nat) (n:Nat) (vn va:Ν):Array Ν:=(Eh c n vn va).toArray
theorem Em (c:Nat->Nat) (n:Nat) (vn va:Ν):(Ai c n vn va).size=259:=by simp[Ai,Eh]
theorem Ob (c:Nat->Nat) (n:Nat) (vn va:Ν) (b:Nat) (D:b<256):(Ai c n vn va)[b]? = Δ (iv (c b)):=by
 simp[Ai,Eh,Ϣ,D]
theorem Aa7 (c:Nat->Nat) (n:Nat) (vn va:Ν):(Ai c n vn va)[256]? = Δ (iv n):=by
 simp[Ai,Eh,ϗ]
theorem J4 (c:Nat->Nat) (n:Nat) (vn va:Ν):(Ai c n vn va)[257]? = Δ vn:=by
 simp[Ai,Eh,ϗ]
theorem Ha (c:Nat->Nat) (n:Nat) (vn va:Ν):(Ai c n vn va)[258]? = Δ va:=by
 simp[Ai,Eh,ϗ]
theorem G9 {c c':Nat->Nat} (h:∀ b,b<256->c b=c' b) (n:Nat) (vn va:Ν):Ai c n vn va=Ai c' n vn va:=by
 unfold Ai Eh
 congr 2
 exact Í λb D=>by rw[h b (υ.1 D)]
theorem Sv (c:Nat->Nat) (n:Nat) (vn va:Ν) (b x:Nat) (D:b<256):(Ai c n vn va).setIfInBounds b (iv x)=Ai (λy=>if y=b then x else c y) n vn va:=by
 apply Array.ext';rw[â];unfold Ai;simp only;apply ϥ;intro i;unfold Eh;rw[Ï];by_cases hi:i<256
 ·by_cases e:b=i
  ·subst e;simp[Ϣ,D];omega
  ·simp[Ϣ,hi,e,Ne.symm e]
 ·have:b≠i:=by omega
  rw[if_neg this,ϗ (by simp;omega),ϗ (by simp;omega)];simp
theorem G5 (c:Nat->Nat) (n:Nat) (vn va:Ν) (hn:vn.oneCell'=Ξ) (ha:va.oneCell'=Ξ):(Ai c n vn va).all (·.oneCell')=Ξ:=by
 rw[Array.all_eq_true_iff_forall_mem];intro x D;simp only[Ai,Eh,List.mem_toArray,Ó,ϸ,Ú,ù,or_false] at D;rcases D with⟨b,_,rfl⟩|rfl|rfl|rfl
 ·rfl
 ·rfl
 ·exact hn
 ·exact ha
theorem Cc:(Ζ.info? 108).map (·.size)=Δ 259:=by kernel_rfl
def IsT (W:Λ) (A:Array Ν) (t:Tbl):Prop:=∃ vn va,A=Ai t.cell t.cells vn va/\Rows W vn t.n/\Bools W va t.acc
theorem IsT.ext {W W':Λ} {A:Array Ν} {t:Tbl} (h:IsT W A t) (D:Ext W W'):IsT W' A t:=by
 obtain⟨vn,va,hv,E,G⟩:=h;exact⟨vn,va,hv,E.ext D,G.ext D⟩
theorem Am9 (n:Int) (a:Option Addr) (l c:Nat) (D:Option Addr) (E G:Nat):Ζ.built 108 [(1,.int ε n),(2,Β a l c),(3,Β D E G)]=Δ ((ζ 256 (ö ε 0)++[ö ε n,Ϥ a l c,Ϥ D E G]).toArray):=by kernel_rfl
theorem Aa6 (n:Nat) (vn va:Ν):Ai (λ_=>0) n vn va=(ζ 256 (ö ε 0)++[iv n,vn,va]).toArray:=by
 unfold Ai Eh;simp[List.map_const']
theorem By.split {W:Λ} {v:Ν} {l:List UInt8} (h:By W v l):∃ a b E D,v=Β a l.length D/\(0<l.length->a=Δ ⟨b,E,Γ⟩)/\∀ i,i<l.length->W.cell? ⟨b,E+i,Γ⟩=Δ (bv (l.getD i 0)):=by
 obtain⟨I,⟨hn,a,D,rfl⟩|⟨hn,b,E,D,rfl,J,G⟩⟩:=h
 ·exact⟨a,0,0,D,by rw[hn],by omega,by omega⟩
 ·exact⟨_,b,E,D,rfl,λ_=>rfl,λi hi=>G i (by omega)⟩
theorem Aa8 (c:Nat->Nat) (n:Nat) (a:Option Addr) (l E:Nat) (G:Option Addr) (I J:Nat) (i:Nat) (x:Int):(Ai c n (Β a l E) (Β G I J))[i]?≠Δ (.int .u8 x):=by
 intro h;have:=Array.mem_of_getElem? h;simp only[Ai,Eh,List.mem_toArray,Ó,ϸ,Ú,ù,or_false] at this;rcases this with⟨b,_,D⟩|D|D|D<;>simp at D
theorem Yi (w:Λ) (g:Nat) (cs:Array Ν) (p:Addr) (h:p.block≠g):(w.setRow g cs).cell? p=w.cell? p:=Λ.cell?_of_block (setRow_other w g p.block cs h)
theorem Bw {P:Program} {ops:Array Oper} {rest:List Oper} {o:Oper} {a:Act} {w:Λ} {Q:Exit->Act->Λ->Prop} (hg:o.guard=Γ) (t:Á) (parts:Array (Nat × ϵ)) (E:o.op=.build t parts)
  (A:Array Ν) (D:P.built t (parts.map λ(i,x)=>(i,a.eval x)).toList=Δ A) (h:wpList P ops Q rest (a.put o.dst (.agg A)) w):wpList P ops Q (o::rest) a w:=
 wpList_build hg t parts E (by rw[D];rfl) (by rw[D];exact h)
theorem Da:ξ.size=259:=by kernel_rfl
theorem Oc (d:Dfa) (hv:Val d) (v:Ν) (w:Λ) (hT:Tab w) (bp:0<w.heap.size) (h:IsD w v d) :
  ϓ Ζ 68 #[v] w λe w'=>∃ A,e=θ (.agg A)/\(∀ W,IsD W v d->IsT W A (Ae d))/\Ext w w':=by
 obtain⟨vc,vn,va,rfl,hC,hN,hA⟩:=h;obtain⟨bc,oc,cc,rfl,hc⟩:=Û hC (by obtain⟨c,hc,_⟩:=hv.parts.cov 0 (by omega);exact List.length_pos_of_mem hc);obtain⟨G,I,J,rfl⟩:∃ a n c,vn=Β a n c:=by obtain⟨vs,_,hs,_⟩:=hN;obtain⟨a,c,rfl⟩:=hs.len;exact⟨_,_,_,rfl⟩
 obtain⟨M,T,U,rfl⟩:∃ a n c,va=Β a n c:=by obtain⟨a,c,rfl⟩:=Sl.len hA;exact⟨_,_,_,rfl⟩
 have ec:d.cls.length<=4611686018427387904:=hC.1;have HN:=Α hN;have HA:=Α hA;have HC:=Α hc;clear hN hA hc hC;have hB:À (Ζ.built 108 [(1,.int ε (d.cls.length:Int)),(2,Β G I J),(3,Β M T U)]=Δ (Ai (λ_=>0) d.cls.length (Β G I J) (Β M T U))):=Α (by rw[Am9,Aa6]);go_enter Tryz.func68,Tryz.ntmps68;go_upto_region 1 with (fail)
 have br:=((Θ w).alloc (Ε #[Β (Δ ⟨bc,oc,Γ⟩) d.cls.length cc,Β G I J,Β M T U] 30)).alloc (Ε ξ 108);have H0:=Α (Ag (Aa w (Ε #[Β (Δ ⟨bc,oc,Γ⟩) d.cls.length cc,Β G I J,Β M T U] 30)) (Ε ξ 108));have H1:=Α (Ϗ w (Ε #[Β (Δ ⟨bc,oc,Γ⟩) d.cls.length cc,Β G I J,Β M T U] 30) (Ε ξ 108));obtain⟨D,bt⟩:∃ W,(w.alloc (Ε #[Β (Δ ⟨bc,oc,Γ⟩) d.cls.length cc,Β G I J,Β M T U] 30)).alloc (Ε ξ 108)=W:=⟨_,rfl⟩;simp only[bt] at *;clear bt;have c0:D.cell? ⟨w.heap.size,0,Γ⟩=Δ (Β (Δ ⟨bc,oc,Γ⟩) d.cls.length cc):=(γ D _ 0 _ _ _ H0.out).trans rfl;have c1:D.cell? ⟨w.heap.size,1,Γ⟩=Δ (Β G I J):=(γ D _ 1 _ _ _ H0.out).trans rfl;have c2:D.cell? ⟨w.heap.size,2,Γ⟩=Δ (Β M T U):=(γ D _ 2 _ _ _ H0.out).trans rfl;obtain⟨A0,al⟩:∃ A,Ai (λ_=>0) d.cls.length (Β G I J) (Β M T U)=A:=⟨_,rfl⟩;have ba:A0.size=259:=by rw[<-al,Em]
 have bu:A0.all (·.oneCell')=Ξ:=by rw[<-al];exact G5 _ _ _ _ rfl rfl
 rw[al] at hB;have da:=Α al;have HS:=Α (show ξ.size=A0.size by rw[Da,ba]);clear al;go_upto_region 2 with (first
  | (refine Bw rfl 108 _ rfl A0 ?_ ?_;(simp[Act.eval];with_reducible exact hB.out))
  | (refine Φ rfl 108 (η 3) (η 15) rfl D.heap.size A0 rfl rfl _ _ (Aa D (Ε ξ 108)) (by rw[ba];exact Cc) HS.out bu ?_))
 have bw:=br.size;have db:Ext w ((D.alloc (Ε ξ 108)).setRow D.heap.size A0):=(br.alloc _).setRow bw _;have H3:=μ (D.alloc (Ε ξ 108)) _ _ A0 108 (0,0) (Aa D (Ε ξ 108));have bx:=B7 (Ag H0.out (Ε ξ 108)) (g:=D.heap.size) (by have:=An H0.out;omega) A0;have ef:=An H1.out;have bd:=B7 (Ag H1.out (Ε ξ 108)) (g:=D.heap.size) (by omega) A0;obtain⟨w3,b0⟩:∃ W,(D.alloc (Ε ξ 108)).setRow D.heap.size A0=W:=⟨_,rfl⟩;simp only[b0] at *;clear b0;have c0:w3.cell? ⟨w.heap.size,0,Γ⟩=Δ (Β (Δ ⟨bc,oc,Γ⟩) d.cls.length cc):=(γ w3 _ 0 _ _ _ bx).trans rfl;rw[<-da.out] at H3;have H3:=Α H3;have bd:=Α bd;clear c1 c2 bx HS ba bu H0 H1;generalize D.heap.size=B at *;go_wp2_with (fail);clear c0;go_loopw [19] (λi W=>∃ k:Nat,k<=d.cls.length/\i=.int ε k/\Ext w W/\W.heap[B]? = Δ (Ε (Ai (λb=>if Ak d.cls b<k then Ak d.cls b else 0) d.cls.length (Β G I J) (Β M T U)) 108 (0,0))/\W.heap[w.heap.size+1]? = Δ (Ε ξ 108 (0,0)))
  (λi _=>d.cls.length-(intOf i).toNat)
 case atStart=>
  refine⟨0,by omega,rfl,db,?_,bd.out⟩;rw[H3.out,G9 (c:=λb=>if Ak d.cls b<0 then Ak d.cls b else 0) (c':=λ_=>0) (λb _=>by simp)]
 case round=>
  obtain⟨k,hk,rfl,hE,b4,b5⟩:=hrel;have HB:=Α b4;have HR:=Α b5;clear b4 b5;by_cases b6:k<d.cls.length
  ·obtain⟨a0,a1,a2,a3⟩:=F6 (W:=wr) (λi hi=>hE.cell (HC.out i hi)) k b6;have HK:=Α (λb E=>E6 hv.parts (b:=b) E b6);have cf:=Α (λb E=>E7 hv.parts (b:=b) E);obtain⟨c,bg⟩:∃ c,d.cls.getD k 0#256=c:=⟨_,rfl⟩;rw[bg] at a0 a1 a2 a3;have cg:=Α bg;have bh:À (∀ b,b<256->(χ b∈Al c 256↔Ak d.cls b=k)):=Α λb E=>by
    rw[Mr,u8n b E,<-cg.out];exact⟨HK.out b E,λe=>by rw[<-e];exact cf.out b E⟩
   clear bg cg HK cf;have dc:=hT.below hE.below bp;have ch:0<wr.heap.size:=δ bp hE.size;have dd:=Α (La c 256);have eh:=An HB.out;go_upto_region 5 with (fail)
   obtain⟨wi,ay⟩:∃ W,wr.alloc (Ε (Ab c) 62)=W:=⟨_,rfl⟩;simp only[ay];have aq:Ext wr wi:=ay▸(Θ wr).alloc _;have H5:=Α (show wi.heap[wr.heap.size]? = Δ (Ε (Ab c) 62 (0,0)) from ay▸Aa wr _);clear ay a0 a1 a2 a3;have f109:=Α (Amt c wi (dc.below aq.below ch) (δ ch aq.size));generalize Al c 256=l at *;go_wp2_with (first
    | (refine Ο rfl 62 (η 5) rfl _ rfl _ _ _ _ H5.out ϑ rfl Bf ?_)
    | (go_at_call 109;with_reducible refine f109.out.mono ?_;rintro e w5 ⟨vb,rfl,cl,bk⟩;obtain⟨ab,bb,ob,cb,cp,cq,bl⟩:=cl.split;rw[cp]))
   clear f109 H5 cl cp;have dg:=(hE.trans aq).trans bk;have cr:=Α (bk.heap (aq.heap HB.out));have dh:=Α (bk.heap (aq.heap HR.out));have ct:=Α bl;have cu:=Α cq;have cv:À (0<l.length->bb≠B):=Α λh0 e=>by
    have h1:=bl 0 h0;rw[e,γ w5 B _ _ _ _ cr.out] at h1;exact Aa8 _ _ _ _ _ _ _ _ _ _ h1
   clear bl cq;go_loopw [27] (λi W=>∃ j:Nat,j<=l.length/\i=.int ε j/\Ext w W/\À (∀ i,i<l.length->W.cell? ⟨bb,ob+i,Γ⟩=Δ (bv (l.getD i 0)))/\
     W.heap[B]? = Δ (Ε (Ai (λb=>if χ b∈l.take j then k else if Ak d.cls b<k then Ak d.cls b else 0) d.cls.length (Β G I J) (Β M T U)) 108 (0,0))/\W.heap[w.heap.size+1]? = Δ (Ε ξ 108 (0,0)))
    (λi _=>l.length-(intOf i).toNat)
   case atStart=>exact⟨0,by omega,rfl,dg,ct,by simpa using cr.out,dh.out⟩
   case round=>
    obtain⟨j,hj,rfl,cw,bm,cx,cy⟩:=hrel;have ah:=Α cx;have cz:=Α cy;clear cx cy;by_cases bn:j<l.length
    ·have e:=cu.out (by omega);subst e;have cj:=bm.out j bn;have eo:=dd.out;have dn:=Α (Ä bn);have c3:À (l.getD j 0=l[j]):=Α (by rw[Η,Μ bn];rfl);obtain⟨x,c4⟩:∃ x,l.getD j 0=x:=⟨_,rfl⟩;rw[c4] at cj c3;clear c4;have hx:=x.toNat_lt;have ep:=(γ wr B x.toNat _ _ _ ah.out).trans (Ob _ _ _ _ x.toNat hx);have er:=Ϸ wr B x.toNat _ _ ah.out;generalize (if χ x.toNat∈l.take j then k else if Ak d.cls x.toNat<k then Ak d.cls x.toNat else 0)=old at *;go_wp2;go_roundw
     case rel=>
      rw[Ϧ wr _ _ _ _ _ _ ah.out,Sv _ _ _ _ _ _ hx];refine⟨j+1,by omega,by go_num,cw.setRow bw _,Α λi hi=>?_,?_,B7 cz.out (by omega) _⟩
      ·rw[Yi _ _ _ _ (cv.out (by omega))];exact bm.out i hi
      ·have hq:=G9 (c:=λb=>if χ b∈l.take (j+1) then k else if Ak d.cls b<k then Ak d.cls b else 0) (c':=λy=>if y=x.toNat then k else if χ y∈l.take j then k else if Ak d.cls y<k then Ak d.cls y else 0) (λb E=>by
        rw[dn.out,<-c3.out];have dq:χ b=x↔b=x.toNat:=by rw[<-UInt8.toNat_inj,u8n b E]
        simp only[Ó,ϴ,dq];by_cases h1:b=x.toNat<;>by_cases h2:χ b∈l.take j<;>simp[h1,h2]) d.cls.length (Β G I J) (Β M T U)
       rw[hq];exact μ wr _ _ _ _ _ ah.out
     case measure=>simp[intOf];omega
    ·obtain rfl:j=l.length:=by omega
     rw[List.take_length] at ah;have ae:=ah.out;rw[G9 (c':=λb=>if Ak d.cls b<k+1 then Ak d.cls b else 0) (λb E=>by
      by_cases h1:χ b∈l
      ·have:=(bh.out b E).1 h1;simp[h1,this]
      ·have:Ak d.cls b≠k:=λe=>h1 ((bh.out b E).2 e)
       have h2:Ak d.cls b<k+1↔Ak d.cls b<k:=by omega
       simp[h1,h2])] at ae
     have ae:=Α ae;clear ah bh ct bm cu cv;go_wp2;go_roundw
     case rel=>exact⟨k+1,by omega,by go_num,cw,ae.out,cz.out⟩
     case measure=>simp[intOf];omega
  ·obtain rfl:k=d.cls.length:=by omega
   have ae:=HB.out;rw[G9 (c':=Ak d.cls) (λb E=>by rw[if_pos (cell_lt hv.parts E)])] at ae;obtain⟨A,hA⟩:∃ A,Ai (Ak d.cls) d.cls.length (Β G I J) (Β M T U)=A:=⟨_,rfl⟩;have az:A.size=259:=by rw[<-hA,Em]
   have dr:A.all (·.oneCell')=Ξ:=by rw[<-hA];exact G5 _ _ _ _ rfl rfl
   rw[hA] at ae;have ae:=Α ae;have dt:=Α hA;have HS:=Α (show ξ.size=A.size by rw[Da,az]);clear hA HB;go_wp2_with (first
    | (refine Ο rfl 108 (η 3) rfl _ rfl _ _ _ _ ae.out Ϫ rfl (by rw[az];exact Cc) ?_)
    | (refine Φ rfl 108 (η 2) (η 37) rfl _ A rfl rfl _ _ HR.out (by rw[az];exact Cc) HS.out dr ?_))
   refine ω (v:=.agg A) (results_cell_row rfl _ _ _ _ _ _ _ rfl (μ wr _ _ A 108 (0,0) HR.out) Ϫ rfl (by rw[az];exact Cc)) rfl ?_;have du:=hE.setRow (g:=w.heap.size+1) (by omega) A;exact⟨A,rfl,λW hW=>by
    obtain⟨et,eu,ev,he,_,dw,dx⟩:=hW;injection he with he
    injection he with he
    injection he with e0 he
    injection he with e1 he
    injection he with e2 he
    subst e1;subst e2
    exact⟨_,_,dt.out.symm,dw,dx⟩,du⟩
theorem J5 (d:Dfa) (hv:Val d) (v:Ν) (w0 w:Λ) (D:Ext w0 w) (E:Tab w) (G:0<w.heap.size) (h:IsD w0 v d) :
  ϓ Ζ 68 #[v] w λe w'=>∃ A,e=θ (.agg A)/\IsT w0 A (Ae d)/\Ext w w':=
 (Oc d hv v w E G (h.ext D)).mono λ_ _ ⟨A,he,I,J⟩=>⟨A,he,I w0 h,J⟩
theorem J6 (d:Dfa) (hv:Val d) (v:Ν) (w:Λ) (E:Tab w) (G:0<w.heap.size) (h:IsD w v d) :
  ϓ Ζ 68 #[v] w λe w'=>∃ A,e=θ (.agg A)/\IsT w' A (Ae d)/\Ext w w':=
 (J5 d hv v w w (Θ w) E G h).mono λ_ _ ⟨A,he,I,D⟩=>⟨A,he,I.ext D,D⟩
def uTo (p:Cls->Bool) (L:List Cls) (i:Nat):Cls:=(L.take i).foldl (λd c=>if p c then d ||| c else d) 0#256
theorem N6 (p:Cls->Bool) (L:List Cls):uTo p L 0=0#256:=rfl
theorem Sm (p:Cls->Bool) (L:List Cls) (i:Nat) (h:i<L.length):uTo p L (i+1)=if p (L.getD i 0#256) then uTo p L i ||| L.getD i 0#256 else uTo p L i:=by
 unfold uTo;rw[Ä h,List.foldl_append];simp[Η,h]
theorem W9 (p:Cls->Bool) (b:Nat):∀ (L:List Cls) (d:Cls),(L.foldl (λd c=>if p c then d ||| c else d) d).getLsbD b=(d.getLsbD b||L.any λc=>p c&&c.getLsbD b)
 | [],d=>by simp
 | c::L,d=>by
  rw[List.foldl_cons,W9 p b L,List.any_cons];cases D:p c
  ·simp
  ·rw[if_pos rfl,BitVec.getLsbD_or];simp[Bool.or_assoc]
theorem Sn (p:Cls->Bool) (L:List Cls) (i b:Nat):(uTo p L i).getLsbD b=(L.take i).any λc=>p c&&c.getLsbD b:=by
 unfold uTo;rw[W9];simp
theorem Anl (c:Cls) (b:Nat) (h:256<=b):c.getLsbD b=Τ:=BitVec.getLsbD_of_ge _ _ (by omega)
theorem Afj {l L:List Cls} (h:IsCells l L) (i:Nat) (hi:i<L.length):uTo (λ_=>Ξ) L i &&& L.getD i 0#256=0#256:=by
 apply BitVec.eq_of_getLsbD_eq;intro b J;rw[BitVec.getLsbD_and,Sn,õ,<-Bool.not_eq_true];intro E;rw[Bool.and_eq_true,List.any_eq_true] at E;obtain⟨⟨c,G,D⟩,hd⟩:=E;rw[Bool.true_and] at D;obtain⟨j,I,rfl⟩:=List.mem_iff_getElem.1 G;rw[List.length_take] at I;rw[List.getElem_take] at D;rw[Η,Μ hi] at hd;exact (Ϯ.1 h.dis j i (by omega) hi (by omega)) b ⟨D,hd⟩
theorem Afk {l L:List Cls} (h:IsCells l L):uTo (λ_=>Ξ) L L.length=allC:=by
 apply BitVec.eq_of_getLsbD_eq;intro b D;rw[Sn,List.take_length];have E:allC.getLsbD b=Ξ:=by unfold allC;rw[BitVec.getLsbD_not,õ];simp[D]
 rw[E,List.any_eq_true];obtain⟨c,G,I⟩:=h.cover b D;exact⟨c,G,by simp[I]⟩
theorem Gr (x:Cls) (m:Bool) (h:(x==0#256)=m) (W:Λ):(Op.equalIn 10000 62 (.agg (Ab x)) (.agg zA)).run Ζ W=.ok m W:=by
 have:=L3 x 0#256 W;rw[F2,h] at this;exact this
theorem Parts.pos {L:List Cls} (h:Parts L):0<L.length:=by
 obtain⟨c,D,_⟩:=h.cov 0 (by omega);exact List.length_pos_of_mem D
theorem Parts.le {L:List Cls} (h:Parts L):L.length<=256:=by
 have:=Is (λb=>Ak L b) 256 L.length λj D=>by
  obtain⟨b,E,e⟩:=Jl h D;exact⟨b,E,e⟩
 exact this
theorem Agi : ~~~allC=0#256:=by decide
theorem Ef (d:Dfa) (hv:Val d) (hn:d.n.length<=64) (v:Ν) (w:Λ) (h:IsD w v d) :
  ϓ Ζ 47 #[v] w λe w'=>e=θ (.bool Ξ)/\Ext w w':=by
 obtain⟨vc,vn,va,rfl,hC,⟨vs,b9,hN,bb⟩,hA⟩:=h;have be:=hv.parts.pos;have c2:=hv.parts.le;have cb:=hv.pos;obtain⟨T,U,cc,rfl,hc⟩:=Û hC be;obtain⟨bn,on,cn,rfl,bg⟩:=Û hN cb;obtain⟨aa,ca,rfl⟩:=Sl.len hA;rw[hv.accL];have HC:=Α hc;have cf:=Α bg;have cg:=Α (λs (hs:s<d.n.length)=>by
  obtain⟨b,ah,ao,ch,ck⟩:=Û (bb s hs) (by rw[hv.row s hs];exact be);exact (⟨b,ah,ao,by rw[<-hv.row s hs];exact ch,λk hk=>by rw[ck k (by rw[hv.row s hs];omega)];rfl⟩:∃ b ah ao,vs.getD s ς=Β (Δ ⟨b,ah,Γ⟩) d.cls.length ao/\∀ k,k<d.cls.length->w.cell? ⟨b,ah+k,Γ⟩=Δ (iv (d.ent2 s k))))
 have cl:=Α hv.tgt;have HP:=Α hv.parts;clear hc bg hN hA hC bb b9 hv;have d1:decide ((d.n.length:Int)<1)=Τ:=by simp;omega
 have d2:decide ((64:Int)<(d.n.length:Int))=Τ:=by simp;omega
 have dn:((d.n.length:Int) != (d.n.length:Int))=Τ:=by simp
 have d3:decide ((d.cls.length:Int)<1)=Τ:=by simp;omega
 have d4:decide ((256:Int)<(d.cls.length:Int))=Τ:=by simp;omega
 have ai:=(Θ w).alloc (Ε #[Β (Δ ⟨T,U,Γ⟩) d.cls.length cc,Β (Δ ⟨bn,on,Γ⟩) d.n.length cn,Β aa d.n.length ca] 30);have H0:=Aa w (Ε #[Β (Δ ⟨T,U,Γ⟩) d.cls.length cc,Β (Δ ⟨bn,on,Γ⟩) d.n.length cn,Β aa d.n.length ca] 30);go_enter Tryz.func47,Tryz.ntmps47;go_upto_region 1 with (fail)
 obtain⟨w1,bh⟩:∃ W,w.alloc (Ε #[Β (Δ ⟨T,U,Γ⟩) d.cls.length cc,Β (Δ ⟨bn,on,Γ⟩) d.n.length cn,Β aa d.n.length ca] 30)=W:=⟨_,rfl⟩;simp only[bh] at *;clear bh;have HK:=Α (λ(W:Λ) (hW:Ext w1 W)=>(⟨(γ W _ 0 _ _ _ (hW.heap H0)).trans rfl,(γ W _ 1 _ _ _ (hW.heap H0)).trans rfl,(γ W _ 2 _ _ _ (hW.heap H0)).trans rfl⟩ :
  W.cell? ⟨w.heap.size,0,Γ⟩=Δ (Β (Δ ⟨T,U,Γ⟩) d.cls.length cc)/\W.cell? ⟨w.heap.size,1,Γ⟩=Δ (Β (Δ ⟨bn,on,Γ⟩) d.n.length cn)/\W.cell? ⟨w.heap.size,2,Γ⟩=Δ (Β aa d.n.length ca)))
 clear H0;obtain⟨E,k1,G⟩:=HK.out w1 (Θ w1);go_upto_region 4 with (fail)
 clear E k1 G;go_upto_region 5 with (fail)
 have bj:=(Θ w1).alloc (Ε zA 62);have cm:=Α (Aa w1 (Ε zA 62));obtain⟨w2,bk⟩:∃ W,w1.alloc (Ε zA 62)=W:=⟨_,rfl⟩;simp only[bk] at *;clear bk;obtain⟨E,k1,G⟩:=HK.out w2 bj;go_wp2_with (fail);clear E k1 G d1 d2 d3 d4;go_loopw [42] (λi W=>∃ k:Nat,k<=d.cls.length/\i=.int ε k/\Ext w1 W/\W.heap[w1.heap.size]? = Δ (Ε (Ab (uTo (λ_=>Ξ) d.cls k)) 62 (0,0)))
  (λi _=>d.cls.length-(intOf i).toNat)
 case atStart=>exact⟨0,by omega,rfl,bj,by rw[N6,F2];exact cm.out⟩
 case round=>
  obtain⟨k,hk,rfl,hE,bl⟩:=hrel;have D:=Α bl;clear bl;by_cases I:k<d.cls.length
  ·obtain⟨a0,a1,a2,a3⟩:=F6 (W:=wr) (λi hi=>(ai.trans hE).cell (HC.out i hi)) k I;have aw:=Afj (My HP.out) k I;have ax:=HP.out.nz (d.cls.getD k 0#256) (by rw[Η,Μ I];exact í I);have ay:=Sm (λ_=>Ξ) d.cls k I;rw[if_pos rfl] at ay;have bq:=Α ay;clear ay;obtain⟨c,bt⟩:∃ c,d.cls.getD k 0#256=c:=⟨_,rfl⟩;rw[bt] at a0 a1 a2 a3 aw ax bq;clear bt;generalize uTo (λ_=>Ξ) d.cls k=A at *;have f92:=λW=>Α (Qa A c W)
   have f93:=λW=>Α (N5 A c W)
   have g1:=Gr c Τ (by simpa using ax);have g2:=Gr (A &&& c) Ξ (by rw[aw];rfl);have g3:=Hj;clear aw ax;generalize A &&& c=x at *;have c5:=An D.out;go_upto_region 8 with (fail)
   obtain⟨wi,an⟩:∃ W,wr.alloc (Ε (Ab c) 62)=W:=⟨_,rfl⟩;simp only[an];have bx:Ext wr wi:=an▸(Θ wr).alloc _;have H6:=Α (show wi.heap[wr.heap.size]? = Δ (Ε (Ab c) 62 (0,0)) from an▸Aa wr _);have D:=Α (bx.heap D.out);clear an a0 a1 a2 a3;obtain⟨x0,x1,x2,x3⟩:=Hn H6.out;obtain⟨y0,y1,y2,y3⟩:=Hn D.out;obtain⟨e0,bz⟩:=Xp wi;rw[bz];clear bz;go_wp2_with (first
    | (go_at_call 92;with_reducible refine (f92 _).out.mono ?_;rintro e w' ⟨rfl,a6⟩;obtain⟨J,rfl⟩:=Kx a6)
    | (go_at_call 93;with_reducible refine (f93 _).out.mono ?_;rintro e w' ⟨rfl,a6⟩;obtain⟨J,rfl⟩:=Kx a6)
    | (refine Φ rfl 62 (η 4) (η 58) rfl _ _ rfl rfl _ _ (J.ext.heap D.out) Bf rfl (Eq _) ?_))
   go_roundw
   case rel=>exact⟨k+1,by omega,by go_num,((hE.trans bx).trans J.ext).setRow (ν _) _,by rw[bq.out];exact μ J.W _ _ _ _ _ (J.ext.heap D.out)⟩
   case measure=>simp[intOf];omega
  ·obtain rfl:k=d.cls.length:=by omega
   rw[Afk (My HP.out)] at D;have f94:=λW=>Α (Pk allC W)
   have g1:=Gr (~~~allC) Ξ (by rw[Agi];rfl);have g3:=Hj;generalize ~~~allC=x at *;generalize allC=uA at *;go_wp2_with (first
    | (refine Ο rfl 62 (η 4) rfl _ rfl _ _ _ _ D.out ϑ rfl Bf ?_)
    | (go_at_call 94;with_reducible refine (f94 _).out.mono ?_;rintro e w5 ⟨rfl,b0⟩;obtain⟨E,k1,G⟩:=HK.out w5 (hE.trans b0)))
   clear E k1 G f94 g1 g3 D;have cu:=hE.trans b0;go_loopw [67] (λi W=>∃ s:Nat,s<=d.n.length/\i=.int ε s/\Ext w1 W) (λi _=>d.n.length-(intOf i).toNat)
   case atStart=>exact⟨0,by omega,rfl,cu⟩
   case round=>
    obtain⟨s,hs,rfl,M⟩:=hrel;by_cases b4:s<d.n.length
    ·have cs:=(ai.trans M).cell (cf.out s (by omega));obtain⟨br,or',cr,b5,b6⟩:=cg.out s b4;rw[b5] at cs;have cv:=Α (λk hk=>(ai.trans M).cell (b6 k hk));have HT:=Α (cl.out s b4);have dm:((d.cls.length:Int) != (d.cls.length:Int))=Τ:=by simp
     have ds:decide ((s:Int)<(d.n.length:Int))=Ξ:=by simp;omega
     obtain⟨E,k1,G⟩:=HK.out wr M;clear b5 b6;obtain⟨wo,cy⟩:∃ W,W=wr:=⟨_,rfl⟩;subst cy;go_wp2_with (fail);clear E k1 G cs dm ds;go_loopw [79] (λi W=>∃ j:Nat,j<=d.cls.length/\i=.int ε j/\Ext wo W) (λi _=>d.cls.length-(intOf i).toNat)
     case atStart=>exact⟨0,by omega,rfl,Θ wo⟩
     case round=>
      obtain⟨j,hj,rfl,a7⟩:=hrel;by_cases b8:j<d.cls.length
      ·have cj:=a7.cell (cv.out j b8);have ht:=HT.out j b8;generalize d.ent2 s j=t at *;have e1:decide ((t:Int)<0)=Τ:=by simp
       have e2:decide ((d.n.length:Int)<=(t:Int))=Τ:=by simp;omega
       go_wp2;go_roundw
       case rel=>exact⟨j+1,by omega,by go_num,a7⟩
       case measure=>simp[intOf];omega
      ·obtain rfl:j=d.cls.length:=by omega
       have cz:=M.trans a7;go_wp2;go_roundw
       case rel=>exact⟨s+1,by omega,by go_num,cz⟩
       case measure=>simp[intOf];omega
    ·obtain rfl:s=d.n.length:=by omega
     go_wp2;go_ret;exact⟨rfl,ai.trans M⟩
structure BInv (t:Tbl) (l:List Nat) (k q:Nat):Prop where
 pos:0<l.length
 head:l.getD 0 0=0
 nodup:l.Nodup
 lt:∀ s∈l,s<t.n.length
 all:∀ s∈l,∃ w,t.run 0 w=s
 done:∀ j,j<k->∀ c,c<t.cells->t.ent2 (l.getD j 0) c∈l
 cur:∀ c,c<q->t.ent2 (l.getD k 0) c∈l
theorem D9 {α:Type} (l:List α) (k:Nat) (d:α) (h:k<l.length):l.getD k d∈l:=by
 rw[Η,Μ h];exact í h
theorem Y4 {t:Tbl} (hv:TVal t):BInv t [0] 0 0 where
 pos:=by simp
 head:=rfl
 nodup:=by simp
 lt:=λs hs=>by rw[ϴ] at hs;subst hs;exact hv.pos
 all:=λs hs=>by rw[ϴ] at hs;subst hs;exact⟨[],rfl⟩
 done:=λj D=>by omega
 cur:=λc E=>by omega
theorem Y5 {t:Tbl} {l:List Nat} {k q:Nat} (h:BInv t l k q) (hm:t.ent2 (l.getD k 0) q∈l):BInv t l k (q+1):=
 ⟨h.pos,h.head,h.nodup,h.lt,h.all,h.done,λc D=>by
  by_cases e:c=q
  ·subst e;exact hm
  ·exact h.cur c (by omega)⟩
theorem Y7 {t:Tbl} (hv:TVal t) {l:List Nat} {k q:Nat} (h:BInv t l k q) (I:k<l.length) (J:q<t.cells) (hm:t.ent2 (l.getD k 0) q∉l):BInv t (l++[t.ent2 (l.getD k 0) q]) k (q+1):=by
 have hs:=D9 l k 0 I;have hg:∀ j,j<l.length->(l++[t.ent2 (l.getD k 0) q]).getD j 0=l.getD j 0:=λj G=>Bt _ _ _ _ G
 refine⟨by simp,by rw[hg 0 h.pos];exact h.head,?_,λs D=>?_,λs D=>?_,λj G c M=>?_,λc M=>?_⟩
 ·rw[List.nodup_append];exact⟨h.nodup,by simp,λa ha b E=>by rw[ϴ] at E;subst E;rintro rfl;exact hm ha⟩
 ·rw[Ó,ϴ] at D;rcases D with D|rfl
  ·exact h.lt s D
  ·exact hv.tgt _ (h.lt _ hs) q J
 ·rw[Ó,ϴ] at D;rcases D with D|rfl
  ·exact h.all s D
  ·obtain⟨w,T⟩:=h.all _ hs;obtain⟨b,E,U⟩:=hv.onto q J;refine⟨w++[χ b],?_⟩;rw[Ft,T,u8n b E];unfold Tbl.stp;rw[U]
 ·have aa:j<l.length:=by omega
  rw[hg j aa,Ó];exact .inl (h.done j G c M)
 ·rw[hg k I,Ó,ϴ];by_cases e:c=q
  ·subst e;exact .inr rfl
  ·exact .inl (h.cur c (by omega))
theorem Y6 {t:Tbl} {l:List Nat} {k:Nat} (h:BInv t l k t.cells):BInv t l (k+1) 0:=
 ⟨h.pos,h.head,h.nodup,h.lt,h.all,λj E c D=>by
  by_cases e:j=k
  ·subst e;exact h.cur c D
  ·exact h.done j (by omega) c D,λc D=>by omega⟩
theorem Y8 {t:Tbl} {l:List Nat} (h:BInv t l l.length 0):Reached t l where
 head:=h.head
 ne:=h.pos
 nodup:=h.nodup
 lt:=h.lt
 closed:=λs hs k D=>by
  obtain⟨j,E,rfl⟩:=Gm (d:=0) hs;exact h.done j E k D
 all:=h.all
theorem BInv.le {t:Tbl} {l:List Nat} {k q:Nat} (h:BInv t l k q):l.length<=t.n.length:=by
 have:=Dy l (ι t.n.length) h.nodup λs hs=>υ.2 (h.lt s hs)
 simpa using this
def D6 (n:Nat) (l:List Nat):List Bool:=(ι n).map λs=>decide (s∈l)
theorem Gg (n:Nat) (l:List Nat):(D6 n l).length=n:=by simp[D6]
theorem Tr (n:Nat) (l:List Nat) (s:Nat) (h:s<n):(D6 n l).getD s Τ=decide (s∈l):=by
 simp[D6,Η,h]
theorem Tq (n:Nat):D6 n []=ζ n Τ:=by
 unfold D6;rw[List.eq_replicate_iff];exact⟨by simp,λx D=>by obtain⟨b,_,rfl⟩:=ϸ.1 D;simp⟩
theorem L0 (n:Nat) (l:List Nat) (s:Nat):(D6 n l).set s Ξ=D6 n (l++[s]):=by
 unfold D6;apply ϥ;intro i;rw[Ï];by_cases hi:i<n
 ·by_cases e:s=i
  ·subst e;simp[hi]
  ·simp[hi,e,Ne.symm e]
 ·by_cases e:s=i
  ·subst e;simp[hi]
  ·simp[hi,e]
def RowsAt (W:Λ) (E G n m:Nat) (f:Nat->Nat->Nat):Prop:=
 ∀ s,s<n->∃ b D I,W.cell? ⟨E,G+s,Γ⟩=Δ (Β (Δ ⟨b,D,Γ⟩) m I)/\∀ k,k<m->W.cell? ⟨b,D+k,Γ⟩=Δ (iv (f s k))
theorem RowsAt.ext {W W':Λ} {D E n m:Nat} {f:Nat->Nat->Nat} (h:RowsAt W D E n m f) (G:Ext W W'):RowsAt W' D E n m f:=λs hs=>by
 obtain⟨b,I,J,M,T⟩:=h s hs;exact⟨b,I,J,G.cell M,λk U=>G.cell (T k U)⟩
theorem L5 {W:Λ} {v:Ν} {N:List (List Nat)} (h:Rows W v N) (m:Nat) (J:0<N.length) (hm:0<m) (G:∀ s,s<N.length->(N.getD s []).length=m) :
  ∃ D E I,v=Β (Δ ⟨D,E,Γ⟩) N.length I/\RowsAt W D E N.length m (λs k=>(N.getD s []).getD k 0):=by
 obtain⟨vs,_,M,T⟩:=h;obtain⟨D,E,I,rfl,U⟩:=Û M J;refine⟨D,E,I,rfl,λs hs=>?_⟩;obtain⟨b,aa,ab,ad,ae⟩:=Û (T s hs) (by rw[G s hs];exact hm);refine⟨b,aa,ab,?_,λk hk=>ae k (by rw[G s hs];omega)⟩;rw[U s (by omega),ad,G s hs]
theorem Le {W:Λ} {v:Ν} {l:List Bool} (h:Bools W v l) (G:0<l.length):∃ D E I,v=Β (Δ ⟨D,E,Γ⟩) l.length I/\∀ s,s<l.length->W.cell? ⟨D,E+s,Γ⟩=Δ (.bool (l.getD s Τ)):=by
 obtain⟨b,o,c,rfl,J⟩:=Û h G;exact⟨b,o,c,rfl,λs hs=>J s (by omega)⟩
theorem TVal.cpos {t:Tbl} (hv:TVal t):0<t.cells:=by have:=hv.cell_lt 0 (by omega);omega
theorem TVal.cle {t:Tbl} (hv:TVal t):t.cells<=256:=Is t.cell 256 t.cells hv.onto
theorem IsT.opened {W:Λ} {A:Array Ν} {t:Tbl} (h:IsT W A t) (hv:TVal t):∃ D E J G I M,A.size=259/\A.all (·.oneCell')=Ξ/\(∀ b,b<256->A[b]? = Δ (iv (t.cell b)))/\A[256]? = Δ (iv t.cells)/\
  A[257]? = Δ (Β (Δ ⟨D,E,Γ⟩) t.n.length J)/\A[258]? = Δ (Β (Δ ⟨G,I,Γ⟩) t.n.length M)/\RowsAt W D E t.n.length t.cells t.ent2/\∀ s,s<t.n.length->W.cell? ⟨G,I+s,Γ⟩=Δ (.bool (t.ok s)):=by
 obtain⟨vn,va,rfl,T,U⟩:=h;obtain⟨D,E,J,rfl,hr⟩:=L5 T t.cells hv.pos hv.cpos hv.row;obtain⟨G,I,M,rfl,ha⟩:=Le U (by rw[hv.accL];exact hv.pos);refine⟨D,E,J,G,I,M,Em _ _ _ _,G5 _ _ _ _ rfl rfl,λb hb=>Ob _ _ _ _ b hb,Aa7 _ _ _ _,J4 _ _ _ _,by rw[Ha,hv.accL],hr,λs hs=>ha s (by rw[hv.accL];exact hs)⟩
abbrev OwnI (W:Λ) (base:Nat) (v:Ν) (l:List Nat):Prop:=W.ownsRow base 3 1 v l.length (l.map iv)
abbrev OwnB (W:Λ) (base:Nat) (v:Ν) (l:List Bool):Prop:=W.ownsRow base 4 1 v l.length (l.map Ν.bool)
theorem Am {α:Type} {W:Λ} {base e g n D:Nat} {l:List α} {f:α->Ν} (d:α) (h:W.ownsRow base e 1 (Β (Δ ⟨g,0,Γ⟩) n D) n (l.map f)) (hn:n=l.length) (k:Nat) (E:k<l.length) :
  W.cell? ⟨g,k,Γ⟩=Δ (f (l.getD k d)):=by
 subst hn;rw[Ϡ.cellAt h k (by omega)];simp[Η,E]
theorem Bk {α:Type} {W:Λ} {base e g n D:Nat} {l:List α} {f:α->Ν} (h:W.ownsRow base e 1 (Β (Δ ⟨g,0,Γ⟩) n D) n (l.map f)) (k:Nat) (x:α) :
  (W.setCell ⟨g,k,Γ⟩ (f x)).ownsRow base e 1 (Β (Δ ⟨g,0,Γ⟩) n D) n ((l.set k x).map f)/\W.grownBy (W.setCell ⟨g,k,Γ⟩ (f x)) (Δ g):=by
 have:=h.stored k (f x);rw[List.map_set];exact this
theorem OwnI.ints {W:Λ} {base:Nat} {v:Ν} {l:List Nat} (h:OwnI W base v l) (hn:l.length<=4611686018427387904):Ints W v l:=
 (Sl.of_owns h hn (iv 0)).congr λi hi=>by
  simp only[Η,ϕ];cases l[i]?<;>rfl
theorem OwnB.bools {W:Λ} {base:Nat} {v:Ν} {l:List Bool} (h:OwnB W base v l) (hn:l.length<=4611686018427387904):Bools W v l:=
 (Sl.of_owns h hn (.bool Τ)).congr λi hi=>by
  simp only[Η,ϕ];cases l[i]?<;>rfl
theorem Cp:(Ζ.info? 3).map (λi=>(i.zero,i.size,i.bytes))=Δ (Δ (.int ε 0),1,8):=by kernel_rfl
theorem D8:(Ζ.info? 4).map (λi=>(i.zero,i.size,i.bytes))=Δ (Δ (.bool Τ),1,1):=by kernel_rfl
theorem B6 {α:Type} (f:α->Ν) (x:α) (n:Nat):(madeCells #[f x] (n*1)).toList=(ζ n x).map f:=by
 rw[Nat.mul_one,toList_madeCells_one,List.map_replicate]
open Go.Maps (Keyed)
def IsMp {κ:Type} (W:Λ) (k:Á) (key:κ->Ν) (b n:Nat) (f:κ->Option Nat):Prop:=
 ∃ D:DataW Unit,W.ownsMap Ζ k (plainElem Ζ 3) b n D/\∀ x l,keyOf Ζ k (key x)=Δ l->Maps.has D l=(f x).isSome/\D.atKey l (.lit (.int ε 0))=.lit (.int ε ((f x).getD 0:Nat))
section
variable {κ:Type} {W:World} {k:TypeId} {key:κ->Value} {b n:Nat} {f:κ->Option Nat}
theorem Kt (W:Λ) (k:Á) (key:κ->Ν):IsMp (W.alloc (.map #[] 0)) k key W.heap.size 0 (λ_=>Γ):=
 ⟨.map [],Λ.ownsMap_made W _ _ _,λ_ _ _=>⟨rfl,rfl⟩⟩
theorem IsMp.kept {W':Λ} {row:Option Nat} (h:IsMp W k key b n f) (hg:W.grownBy W' row) (E:Δ b≠row):IsMp W' k key b n f:=by
 obtain⟨D,G,I⟩:=h;exact⟨D,G.kept hg E,I⟩
theorem IsMp.ext {W':Λ} (h:IsMp W k key b n f) (D:Ext W W'):IsMp W' k key b n f:=h.kept (D.grownBy Γ) (by simp)
theorem IsMp.alloc (h:IsMp W k key b n f) (o:Obj):IsMp (W.alloc o) k key b n f:=by
 obtain⟨D,E,G⟩:=h;exact⟨D,E.alloc o,G⟩
theorem IsMp.ne_row {base e size:Nat} {v:Ν} {m:Nat} {xs:List Ν} (h:IsMp W k key b n f) (E:W.ownsRow base e size v m xs):Δ b≠v.ownBlock:=by
 obtain⟨_,⟨G,I,D,_⟩,_⟩:=h;obtain⟨J,⟨rfl,rfl⟩|⟨g,M,cur,rfl,_,hg,_⟩⟩:=E
 ·simp[Ν.ownBlock]
 ·intro e;simp only[Ν.ownBlock,Option.some.injEq] at e;rw[e,hg] at D;cases D
theorem Ay {W:Λ} {base e size:Nat} {v:Ν} {m:Nat} {xs:List Ν} (D:W.ownsRow base e size v m xs) {g:Nat} (hg:g<base):v.ownBlock=Γ\/v.ownBlock≠Δ g:=
 .inr λe=>by have:=(D.lt _ e).1;omega
theorem IsMp.far {base e size:Nat} {v:Ν} {m:Nat} {xs:List Ν} (h:IsMp W k key b n f) (D:W.ownsRow base e size v m xs):v.ownBlock=Γ\/v.ownBlock≠Δ b:=.inr (λe=>h.ne_row D e.symm)
theorem Cb {W W':Λ} {base e size:Nat} {v:Ν} {m:Nat} {xs:List Ν} (D:W.ownsRow base e size v m xs) (hg:W.grownBy W' Γ):W'.ownsRow base e size v m xs:=D.kept hg (by cases v.ownBlock<;>simp)
theorem Zy (W:Λ):(zeroValue 3).run Ζ W=.ok (.int ε 0) W:=by kernel_rfl
end
section
variable {κ:Type} {W:World} {k:TypeId} {key:κ->Value} {b n:Nat} {f:κ->Option Nat} {ops:Array Oper} {rest:List Oper} {o:Oper} {a:Act} {Q:Exit->Act->World->Prop}
theorem Er (hg:o.guard=Γ) (m x:ϵ) (t:Á) (I:o.op=Op.lookup t m x Ξ) (K:Keyed Ζ k) (J:Ζ.underlying t=Δ (.map k 3)) (hm:a.eval m=.map (Δ b)) (h:IsMp W k key b n f)
  (y:κ) (M:a.eval x=key y) (G:∃ l,keyOf Ζ k (key y)=Δ l) (T:wpList Ζ ops Q rest (a.put o.dst (ϙ #[iv ((f y).getD 0),.bool (f y).isSome])) W):wpList Ζ ops Q (o::rest) a W:=by
 obtain⟨D,U,h2⟩:=h;obtain⟨l,G⟩:=G;obtain⟨e1,e2⟩:=h2 y l G;refine wpList_lookup_own_ok_int W hg m x t I k 3 ε K J Tryz.underlying3 (Zy W) b n D hm U (key y) l M G ?_;intro c E _;rw[e2] at E;rw[e1];injection E with E
 injection E with _ E
 rw[<-E];exact T
theorem Jw [DecidableEq κ] (hg:o.guard=Γ) (m x v:ϵ) (t:Á) (T:o.op=Op.mapUpdate t m x v) (K:Keyed Ζ k) (U:Ζ.underlying t=Δ (.map k 3)) (hm:a.eval m=.map (Δ b)) (h:IsMp W k key b n f) (hn:n<ϛ)
  (aa:∀ y z,key y=key z->y=z) (y:κ) (hx:a.eval x=key y) (E:∃ l,keyOf Ζ k (key y)=Δ l) (i:Nat) (hv:a.eval v=iv i) (hi:i<9223372036854775808)
  (hK:∀ W',IsMp W' k key b (n+1) (λz=>if z=y then Δ i else f z)->W.grownBy W' (Δ b)->wpList Ζ ops Q rest (a.put o.dst ς) W'):wpList Ζ ops Q (o::rest) a W:=by
 obtain⟨D,I,h2⟩:=h;obtain⟨l,E⟩:=E;have af:(Lit.int ε (i:Int)).wf=Ξ:=by
  have e1:þ.min=-9223372036854775808:=rfl;simp[Lit.wf,IntKind.wrap,IntKind.signed,IntKind.bits,e1];omega
 refine wpList_mapUpdate_own W hg m x v t T k 3 K U (plainElem Ζ 3) b n D hm I hn (key y) (iv i) l hx hv E (.lit (.int ε i)) [] (plainElem_int Tryz.underlying3 af) ?_;intro W' hW ai;refine hK W' ⟨_,hW,λz J G=>?_⟩ ai;by_cases e:z=y
 ·subst e;rw[E] at G;cases G
  simp only[if_true];exact⟨Maps.has_put_same I.isMap (K.key E) _,Maps.atKey_put_same I.isMap (K.key E) _ _⟩
 ·have M:J≠l:=λe'=>e (aa _ _ (K.inj G (e'▸E)))
  simp only[e,if_false];rw[Maps.has_put_other M,Maps.atKey_put_other M];exact h2 z J G
end
open Go.RowKit Go.Shelf Go.WideMaps
theorem P6:laidOutB Ζ=Ξ:=by kernel_rfl
theorem Anr:ArrKey Ζ 166 3 2:=⟨Tryz.underlying166,by kernel_rfl,by kernel_rfl,by kernel_rfl⟩
theorem Ace:∃ m,Ζ.types.size=m+1:=⟨_,(Nat.succ_pred_eq_of_pos (of_decide_eq_true (by kernel_rfl))).symm⟩
theorem P1:Keyed Ζ 166:=Keyed.of_law (deep_law_laid P6 (m:=2) (by omega) (of_decide_eq_true (by kernel_rfl)) (by kernel_rfl) (by rw[Tryz.underlying166]))
def Ir (x:Nat × Nat):Ν:=.agg #[iv x.1,iv x.2]
theorem Aft (x y:Nat × Nat) (h:Ir x=Ir y):x=y:=by
 simp[Ir] at h;exact Prod.ext (by omega) (by omega)
theorem Jz (i:Nat) (hi:i<9223372036854775808):(Lit.int ε (i:Int)).wf=Ξ:=by
 have D:þ.min=-9223372036854775808:=rfl;simp[Lit.wf,IntKind.wrap,IntKind.signed,IntKind.bits,D];omega
theorem Afs (x:Nat × Nat) (D:x.1<9223372036854775808) (E:x.2<9223372036854775808):∃ l,keyOf Ζ 166 (Ir x)=Δ l:=
 ⟨_,keyOf_pair Anr Tryz.underlying3 Ace (Jz _ D) (Jz _ E)⟩
theorem Fz:Keyed Ζ 9:=Go.Maps.string_keyed Tryz.underlying9
structure JInv (a b:Nat->Nat) (x:Nat) (c:Nat->Nat) (bs:List Nat) (f:Nat × Nat->Option Nat):Prop where
 le:bs.length<=x
 lt:∀ y,y<x->c y<bs.length
 byte:∀ k,k<bs.length->bs.getD k 0<x/\c (bs.getD k 0)=k
 same:∀ y z,y<x->z<x->(c y=c z↔a y=a z/\b y=b z)
 has:∀ y,y<x->f (a y,b y)=Δ (c y)
 from_:∀ p i,f p=Δ i->∃ y,y<x/\p=(a y,b y)/\i=c y
theorem Ai2 (a b:Nat->Nat):JInv a b 0 (λ_=>0) [] (λ_=>Γ) where
 le:=by simp
 lt:=λy D=>by omega
 byte:=λk E=>by simp at E
 same:=λy z D=>by omega
 has:=λy D=>by omega
 from_:=λp i h=>by simp at h
theorem Ai3 {a b:Nat->Nat} {x:Nat} {c:Nat->Nat} {bs:List Nat} {f:Nat × Nat->Option Nat} (h:JInv a b x c bs f) (i:Nat) (hi:f (a x,b x)=Δ i):JInv a b (x+1) (λy=>if y=x then i else c y) bs f:=by
 obtain⟨z,G,D,rfl⟩:=h.from_ _ _ hi;simp only[Prod.mk.injEq] at D;refine⟨by have:=h.le;omega,λy I=>?_,λk U=>?_,λy J I aa=>?_,λy I=>?_,λp i D=>?_⟩
 ·split
  ·exact h.lt z G
  ·exact h.lt y (by omega)
 ·obtain⟨T,M⟩:=h.byte k U;rw[if_neg (by omega)];exact⟨by omega,M⟩
 ·by_cases e:y=x<;>by_cases E:J=x
  ·subst e;subst E;simp
  ·subst e;rw[if_pos rfl,if_neg E,h.same z J G (by omega),D.1,D.2]
  ·subst E;rw[if_neg e,if_pos rfl,h.same y z (by omega) G,D.1,D.2]
  ·rw[if_neg e,if_neg E];exact h.same y J (by omega) (by omega)
 ·by_cases e:y=x
  ·subst e;rw[if_pos rfl];exact hi
  ·rw[if_neg e];exact h.has y (by omega)
 ·obtain⟨y,I,T,M⟩:=h.from_ p i D;exact⟨y,by omega,T,by rw[if_neg (by omega)];exact M⟩
theorem Ai4 {a b:Nat->Nat} {x:Nat} {c:Nat->Nat} {bs:List Nat} {f:Nat × Nat->Option Nat} (h:JInv a b x c bs f) (hi:f (a x,b x)=Γ) :
  JInv a b (x+1) (λy=>if y=x then bs.length else c y) (bs++[x]) (λp=>if p=(a x,b x) then Δ bs.length else f p):=by
 have T:∀ y,y<x->¬ (a y=a x/\b y=b x):=λy G he=>by
  have:=h.has y G;rw[he.1,he.2,hi] at this;cases this
 have U:(bs++[x]).length=bs.length+1:=by simp
 refine⟨by have:=h.le;omega,λy G=>?_,λk hk=>?_,λy I G ad=>?_,λy G=>?_,λp i J=>?_⟩
 ·rw[U];split
  ·omega
  ·have:=h.lt y (by omega);omega
 ·rw[U] at hk;by_cases e:k=bs.length
  ·subst e;have:(bs++[x]).getD bs.length 0=x:=by simp[Η]
   rw[this,if_pos rfl];exact⟨by omega,rfl⟩
  ·have aa:k<bs.length:=by omega
   obtain⟨E,D⟩:=h.byte k aa;rw[Bt _ _ _ _ aa,if_neg (by omega)];exact⟨by omega,D⟩
 ·by_cases e:y=x<;>by_cases M:I=x
  ·subst e;subst M;simp
  ·subst e;have E:=h.lt I (by omega);rw[if_pos rfl,if_neg M];exact⟨λD=>by omega,λD=>absurd ⟨D.1.symm,D.2.symm⟩ (T I (by omega))⟩
  ·subst M;have E:=h.lt y (by omega);rw[if_neg e,if_pos rfl];exact⟨λD=>by omega,λD=>absurd D (T y (by omega))⟩
  ·rw[if_neg e,if_neg M];exact h.same y I (by omega) (by omega)
 ·by_cases e:y=x
  ·subst e;simp
  ·have E:=T y (by omega);rw[if_neg e,if_neg (by simpa using E)];exact h.has y (by omega)
 ·by_cases e:p=(a x,b x)
  ·simp only[e,if_true] at J;cases J
   exact⟨x,by omega,e,by rw[if_pos rfl]⟩
  ·simp only[e,if_false] at J;obtain⟨y,G,E,D⟩:=h.from_ p i J;exact⟨y,by omega,E,by rw[if_neg (by omega)];exact D⟩
theorem Ai5 {a b c:Nat->Nat} {bs:List Nat} {f:Nat × Nat->Option Nat} (h:JInv a b 256 c bs f):Joint a b c bs:=
 ⟨h.lt,h.byte,h.same⟩
def Ar (c:Nat->Nat):Array Ν:=((ι 256).map (λb=>iv (c b))).toArray
theorem F9:ώ=Ar (λ_=>0):=by kernel_rfl
theorem C3 (c:Nat->Nat):(Ar c).size=256:=by simp[Ar]
theorem Hu (c:Nat->Nat) (b:Nat) (D:b<256):(Ar c)[b]? = Δ (iv (c b)):=by simp[Ar,D]
theorem Q6 (c:Nat->Nat) (b x:Nat) (D:b<256):(Ar c).setIfInBounds b (iv x)=Ar (λy=>if y=b then x else c y):=by
 apply Array.ext';rw[â];unfold Ar;simp only;apply ϥ;intro i;rw[Ï];by_cases hi:i<256
 ·by_cases e:b=i
  ·subst e;simp[D]
  ·simp[hi,e,Ne.symm e]
 ·have:b≠i:=by omega
  rw[if_neg this];simp[hi]
theorem Ht (c:Nat->Nat):(Ar c).all (·.oneCell')=Ξ:=by
 rw[Array.all_eq_true_iff_forall_mem];intro x D;simp only[Ar,List.mem_toArray,ϸ] at D;obtain⟨b,_,rfl⟩:=D;rfl
theorem Ami {c D:Nat->Nat} (h:∀ b,b<256->c b=D b):Ar c=Ar D:=by
 unfold Ar
 congr 1
 exact Í λb E=>by rw[h b (υ.1 E)]
theorem Fj:(Ζ.info? 77).map (·.size)=Δ 256:=by kernel_rfl
theorem Qf:(Ζ.info? 166).map (·.size)=Δ 2:=by kernel_rfl
theorem A3 {P:Program} {fn:Func} {p u:Tmp} {ty:Á} (h:fn.results=#[.cell p ty,.tmp u]) (D:Array Ν) (w:Λ) (g:Nat) (t:Á) (cs:Array Ν) (fr:Nat × Nat) (d:TypeDesc)
  (E:D.getD p ς=.pointer (Δ ⟨g,0,Γ⟩)) (v:Ν) (G:D.getD u ς=v) (hg:w.heap[g]? = Δ (Ε cs t fr))
  (hu:P.underlying ty=Δ d) (hd:(match d with|.struct _|.array _ _=>Ξ|_=>Τ)=Ξ) (hi:(P.info? ty).map (·.size)=Δ cs.size) :
  (results fn D).run P w=.ok (ϙ #[.agg cs,v]) w:=by
 rw[results_cell_tmp h,E,G];simp[asAddr,run_loadVar_row w g t ty cs fr d hg hu hd hi,Result.andThen]
theorem P8 (t u:Tbl) (ht:TVal t) (hu:TVal u) (A B:Array Ν) (w:Λ) (hA:IsT w A t) (hB:IsT w B u) :
  ϓ Ζ 70 #[.agg A,.agg B] w λe w'=>∃ c bs v,e=θ (ϙ #[.agg (Ar c),v])/\Joint t.cell u.cell c bs/\Ints w' v bs/\Ext w w':=by
 obtain⟨_,_,_,_,_,_,b5,b6,bf,_⟩:=hA.opened ht;obtain⟨_,_,_,_,_,_,b7,b8,bg,_⟩:=hB.opened hu;clear hA hB;obtain⟨i0,hi,cd,cf,cg⟩:=Ϟ Cp;have ch:=@run_makeMap Ζ;have cj:=((Θ w).alloc (Ε A 108)).alloc (Ε B 108);have H0:=Ag (Aa w (Ε A 108)) (Ε B 108);have H1:=Ϗ w (Ε A 108) (Ε B 108);go_enter Tryz.func70,Tryz.ntmps70;go_upto_region 3 with (fail)
 obtain⟨w0,az⟩:∃ W,(w.alloc (Ε A 108)).alloc (Ε B 108)=W:=⟨_,rfl⟩;have a1:w0.heap.size=w.heap.size+1+1:=by rw[<-az,Ρ,Ρ]
 simp only[az] at *;clear az;have ck:=Α (λ(W:Λ) (hW:Ext w0 W) (b:Nat) (U:b<256)=>(γ W w.heap.size b _ _ _ (hW.heap H0)).trans (bf b U));have cl:=Α (λ(W:Λ) (hW:Ext w0 W) (b:Nat) (U:b<256)=>(γ W (w.heap.size+1) b _ _ _ (hW.heap H1)).trans (bg b U));have cm:=Α (λ(b:Nat) (U:b<256)=>And.intro (δ (ht.cell_lt b U) ht.cle) (δ (hu.cell_lt b U) hu.cle));clear H0 H1 b5 b6 bf b7 b8 bg ht hu;go_upto_region 4 with (fail)
 clear ch;have R2:=Ag (Ag (Aa w0 (Ε ώ 77)) (Ε ώ 77)) (.map #[] 0);have R3:=Ag (Ϗ w0 (Ε ώ 77) (Ε ώ 77)) (.map #[] 0);have I:=Kt ((w0.alloc (Ε ώ 77)).alloc (Ε ώ 77)) 166 Ir;have cn:=(((Θ w0).alloc (Ε ώ 77)).alloc (Ε ώ 77)).alloc (.map #[] 0);have da:(((w0.alloc (Ε ώ 77)).alloc (Ε ώ 77)).alloc (.map #[] 0)).heap.size=w.heap.size+1+1+1+1+1:=by
  rw[Ρ,Ρ,Ρ,a1]
 rw[Ρ,Ρ,a1] at I;rw[a1] at R2 R3;obtain⟨w1,bk⟩:∃ W,((w0.alloc (Ε ώ 77)).alloc (Ε ώ 77)).alloc (.map #[] 0)=W:=⟨_,rfl⟩;simp only[bk] at *;clear bk;have G:=Ô w1 w1.heap.size 3 1;have R2:=Α R2;have R3:À (w1.heap[w.heap.size+1+1+1]? = Δ (Ε (Ar λ_=>0) 77 (0,0))):=Α (by rw[R3,F9]);go_wp2_with (fail);go_loopw [7,14] (λv i W=>∃ (x:Nat) (bs:List Nat) (a:Option Addr) (cp:Nat) (c:Nat->Nat) (f:Nat × Nat->Option Nat),x<=256/\i=.int ε x/\v=Β a bs.length cp/\Ext w0 W/\w1.heap.size<=W.heap.size/\OwnI W w1.heap.size v bs/\
   IsMp W 166 Ir (w.heap.size+1+1+1+1) bs.length f/\W.heap[w.heap.size+1+1]? = Δ (Ε ώ 77 (0,0))/\W.heap[w.heap.size+1+1+1]? = Δ (Ε (Ar c) 77 (0,0))/\À (JInv t.cell u.cell x c bs f))
  (λ_ i _=>256-(intOf i).toNat)
 case atStart=>exact⟨0,[],Γ,0,_,_,by omega,rfl,rfl,cn,ν _,G,I,R2.out,R3.out,Α (Ai2 _ _)⟩
 case round=>
  obtain⟨x,bs,a,cp,c,f,hx,rfl,rfl,hE,bl,G,I,bm,bn,HJ⟩:=hrel;have dc:=HJ.out.le;have E:=Α bm;have D:=Α bn;clear bm bn;by_cases ab:x<256
  ·have dd:(x:Int)<256:=by omega
   have ka:=ck.out wr hE x ab;have kb:=cl.out wr hE x ab;obtain⟨ha,U⟩:=cm.out x ab;have a7:=Afs (t.cell x,u.cell x) (by show t.cell x<_;omega) (by show u.cell x<_;omega);generalize bq:t.cell x=J at *;generalize br:u.cell x=M at *;have a8:=Α bq;have ba:=Α br;clear bq br;go_upto_region 7 with (fail)
   have na:=Λ.new_ne wr _ ka;have nb:=Λ.new_ne wr _ kb;go_region_held (λW=>W.cell? ⟨w.heap.size,x,Γ⟩=Δ (iv J)/\W.cell? ⟨w.heap.size+1,x,Γ⟩=Δ (iv M)) (go_keep) (fail)
   have e5:Ext wr (wr.alloc (Ε #[iv J,iv M] 166)).drew:=((Θ wr).alloc _).drew;have K5:À ((wr.alloc (Ε #[iv J,iv M] 166)).drew.heap[wr.heap.size]? = Δ (Ε #[iv J,iv M] 166 (0,0))):=Α (Aa wr _);obtain⟨w5,bt⟩:∃ W,(wr.alloc (Ε #[iv J,iv M] 166)).drew=W:=⟨_,rfl⟩;simp only[bt] at *;clear bt ka kb na nb;rename_i ct
   clear ct;have bu:=hE.trans e5;have bw:=ψ bl e5.size;have G:=Ah G e5;have I:=I.ext e5;have E:=Α (e5.heap E.out);have D:=Α (e5.heap D.out);have de:w1.heap.size<=wr.heap.size:=bl;cases hf:f (J,M) with
   | some i=>
    have cu:=HJ.out;have HN:=Α (Ai3 HJ.out i (by rw[a8.out,ba.out];exact hf));have df:i<bs.length:=by
     obtain⟨z,hz,_,rfl⟩:=HJ.out.from_ _ _ hf;exact HJ.out.lt z hz
    clear cu;have c3:=(γ w5 (w.heap.size+1+1+1) x _ _ _ D.out).trans (Hu c x ab);have f3:=Ϸ w5 (w.heap.size+1+1+1) x _ _ D.out;go_wp2_with (first
     | (refine Ο rfl 166 (η 10) rfl _ rfl _ _ _ _ K5.out Tryz.underlying166 rfl Qf ?_)
     | (at_lookup;refine Er rfl _ _ 165 rfl P1 Tryz.underlying165 rfl I (J,M) rfl a7 ?_;rw[hf];dsimp only [Option.isSome,Option.getD]))
    go_roundw
    case rel=>
     rw[Ϧ w5 _ _ _ _ _ _ D.out,Q6 _ _ _ ab];have ae:=Cd w5 (w.heap.size+1+1+1) (Ar λy=>if y=x then i else c y);refine⟨x+1,bs,a,cp,_,f,by omega,by go_num,rfl,bu.setRow (by omega) _,by rw[size_setRow];exact bw,G.kept ae (Ay G (by omega)),I.kept ae (by simp),B7 E.out (by omega) _,μ w5 _ _ _ _ _ D.out,HN⟩
    case measure=>simp[intOf];omega
   | none=>
    have HN:=Ai4 HJ.out (by rw[a8.out,ba.out];exact hf);rw[a8.out,ba.out] at HN;have HN:=Α HN;have cx:=K5;go_upto_region 11 with (first
     | (refine Ο rfl 166 (η 10) rfl _ rfl _ _ _ _ K5.out Tryz.underlying166 rfl Qf ?_)
     | (at_lookup;refine Er rfl _ _ 165 rfl P1 Tryz.underlying165 rfl I (J,M) rfl a7 ?_;rw[hf];dsimp only [Option.isSome,Option.getD]))
    go_upto_region 12 with (first
     | (refine Ο rfl 166 (η 10) rfl _ rfl _ _ _ _ K5.out Tryz.underlying166 rfl Qf ?_)
     | (at_mapUpdate;refine Jw rfl _ _ _ 165 rfl P1 Tryz.underlying165 rfl I (by unfold ϛ;omega) Aft (J,M) rfl a7 bs.length rfl (by omega) ?_;intro w6 bx ag))
    clear I cx;have ah:=G.kept ag (Ay G (by omega));have E:À (w6.heap[w.heap.size+1+1]? = _):=Α ((ag.block _ (An E.out) (by simp)).trans E.out);have D:À (w6.heap[w.heap.size+1+1+1]? = _):=Α ((ag.block _ (An D.out) (by simp)).trans D.out);have cy:=bu.grown ag (λk e=>by cases e;omega);have cz:w1.heap.size<=w6.heap.size:=ψ bw ag.size;clear ag G K5 e5;go_upto_region 13 with (at_builtin;refine Ϙ _ rfl _ _ 68 rfl w1.heap.size 3 i0 (.int ε 0) 1 8 Tryz.underlying68 hi cd cf cg rfl (by decide) _ _ _ rfl (ah.alloc _) _ 1 1 [iv x] rfl rfl (ϭ _ _ _) (by simp[ό]) (by decide) (by unfold ϛ;omega) (by omega) (by simp;omega) _ rfl ?_;intro g7 c7 T aw ai _ _)
    have c2:=An D.out;have c4:=An E.out;have E:À (T.heap[w.heap.size+1+1]? = _):=Α ((ai.block _ (δ c4 (by rw[Ρ];omega)) (λe=>by have:=(ah.lt _ e.symm).1;omega)).trans (Ag E.out _));have D:À (T.heap[w.heap.size+1+1+1]? = _):=Α ((ai.block _ (δ c2 (by rw[Ρ];omega)) (λe=>by have:=(ah.lt _ e.symm).1;omega)).trans (Ag D.out _));have c5:=(bx.alloc (Ε #[iv x] 3)).kept ai (λe=>by have:=(ah.lt _ e.symm).1;omega);have c6:=(cy.alloc (Ε #[iv x] 3)).grown ai (λk e=>by have:=(ah.lt k e).1;omega);have c8:w1.heap.size<=T.heap.size:=ψ cz (by have:=ai.size;rw[Ρ] at this;omega);clear ai ah bx;have aw:OwnI T w1.heap.size (Β (Δ ⟨g7,0,Γ⟩) (bs.length+1) c7) (bs++[x]):=by
     show Ϡ _ _ _ _ _ _ _;rw[Υ,ϝ];exact aw
    have c3:=(γ T (w.heap.size+1+1+1) x _ _ _ D.out).trans (Hu c x ab);have f3:=Ϸ T (w.heap.size+1+1+1) x _ _ D.out;go_wp2;go_roundw
    case rel=>
     rw[Ϧ T _ _ _ _ _ _ D.out,Q6 _ _ _ ab];have ae:=Cd T (w.heap.size+1+1+1) (Ar λy=>if y=x then bs.length else c y);refine⟨x+1,bs++[x],_,c7,_,_,by omega,by go_num,by rw[Υ];rfl,c6.setRow (by omega) _,by rw[size_setRow];exact c8,aw.kept ae (Ay aw (by omega)),IsMp.kept (by rw[Υ];exact c5) ae (by simp),B7 E.out (by omega) _,μ T _ _ _ _ _ D.out,HN⟩
    case measure=>simp[intOf];omega
  ·obtain rfl:x=256:=by omega
   have HC:=Α (show (ώ).size=(Ar c).size by rw[F9,C3,C3]);have HO:=Α (Ht c);have ax:=Α (show (Ζ.info? 77).map (·.size)=Δ (Ar c).size by rw[C3];exact Fj);obtain⟨A',bc⟩:∃ X,Ar c=X:=⟨_,rfl⟩;rw[bc] at HC HO ax D;have c9:=Α bc;clear bc;go_wp2_with (first
    | (refine Ο rfl 77 (η 6) rfl _ rfl _ _ _ _ D.out Tryz.underlying77 rfl ax.out ?_)
    | (refine Φ rfl 77 (η 4) (η 47) rfl _ A' rfl rfl _ _ E.out ax.out HC.out HO.out ?_))
   refine ω (v:=ϙ #[.agg A',Β a bs.length cp]) (A3 rfl _ _ _ _ _ _ _ rfl _ rfl (μ wr _ _ A' 77 (0,0) E.out) Tryz.underlying77 rfl ax.out) rfl ?_;have ae:=Cd wr (w.heap.size+1+1) A';refine⟨c,bs,_,by rw[c9.out],Ai5 HJ.out,OwnI.ints (G.kept ae (Ay G (by omega))) (by omega),(cj.trans hE).setRow (by omega) _⟩
end Go.Proofs.YtaiogolidlamiaaGreatDoor
