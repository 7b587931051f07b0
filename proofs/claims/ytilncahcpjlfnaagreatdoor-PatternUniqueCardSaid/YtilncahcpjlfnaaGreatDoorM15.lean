import Derived.Test.YtilncahcpjlfnaaGreatDoorM02
import Derived.Test.YtilncahcpjlfnaaGreatDoorM08
import Derived.Test.YtilncahcpjlfnaaGreatDoorM12
import Derived.Test.YtilncahcpjlfnaaGreatDoorM13
import Derived.Test.YtilncahcpjlfnaaGreatDoorM14
import Derived.Test.YtilncahcpjlfnaaGreatDoorM09
import Derived.Test.YtilncahcpjlfnaaGreatDoorM11
set_option linter.unusedVariables false
set_option linter.unusedSimpArgs false
set_option maxRecDepth 100000
set_option maxHeartbeats 8000000
open BitVec renaming getLsbD_zero → û
open Bool renaming true → Α, false → Ε
open Go renaming World → Γ, Calls → ϛ, info_parts → ϓ, heap_alloc2_new → ϒ, cell_of_row → Τ, maxLen → ϐ, wpList_append_lies → Ϙ, cell_one_new → Ý, frozen_of_row → È, setCell_eq_setRow → Ϭ, setRow_heap → Χ, Value → Δ, bodyPost_ret → ω, Program → Þ, wpList_make_full → Ϟ, wpQuiet_step → Ϧ, wpQuiet_nil → ϵ, wpList_load_mid → å
open Go.Act renaming put → η
open Go.Ending renaming returned → Ψ
open Go.IntKind renaming u64 → ζ, i64 → Φ, i64 → Ü
open Go.Lib renaming hid → Z
open Go.Obj renaming cells → Β
open Go.Operand renaming tmp → δ
open Go.Proofs.Tryz renaming prog → Η, underlying40 → Ο
open Go.RowKit renaming Hid → ϟ
open Go.Value renaming slice → U, pointer → ε, tuple → ϗ, int → Â, oneCell' → ξ, slice → Ϗ, bool → ϊ
open Go.World renaming size_alloc → Ρ, ownsRow_nil → À, ownsRow → ϥ, block_lt_of_cell? → Ϻ
open List renaming getD_eq_getElem?_getD → Ζ, getElem?_append_left → χ, getElem?_append_right → ς, getElem?_cons_zero → Å, getElem?_eq_getElem → Ι, ext_getElem? → Ϯ, length_set → υ, setIfInBounds_toArray → Θ, set_cons_zero → Μ, set_cons_succ → Λ, length_append → Ν, length_map → ι, getElem?_map → ν, drop_zero → ϰ, drop_succ_cons → Ä, take_succ_cons → ú, replicate → θ, drop_eq_getElem_cons → Ϝ, mem_range → ϔ
open Nat renaming lt_of_lt_of_le → Ξ, le_refl → Υ, le_trans → μ, pow_le_pow_right → Ϲ, le_of_eq → Ô
open Option renaming getD_some → ϱ, some → J, none → I, isSome → ñ
open Option.some renaming inj → ό
open UInt8 renaming ofNat → ώ
namespace Go.Proofs.YtilncahcpjlfnaaGreatDoor
open Go.RowKit Go.Shelf
structure KInv (x:Nat) (c:Nat->Nat) (n:Nat) (C:List Cls):Prop where
 len:C.length=n
 bit:∀ k,k<n->∀ b,b<256->((C.getD k 0#256).getLsbD b=Α↔b<x/\c b=k)
theorem QK (c:Nat->Nat):KInv 0 c 0 []:=⟨rfl,λk E=>by omega⟩
theorem QM {x:Nat} {c:Nat->Nat} {n:Nat} {C:List Cls} (h:KInv x c n C) (hc:∀ y,y<x->c y<n):KInv x c (n+1) (C++[0#256]):=by
 refine⟨by simp[h.len],λk G b hb=>?_⟩;have E:=h.len;by_cases e:k<n
 ·rw[<-h.bit k e b hb,Ζ,χ (by omega),<-Ζ]
 obtain rfl:k=n:=by omega
 rw[Ζ,ς (by omega),E,Nat.sub_self];simp only[Å,ϱ,û];constructor
 ·intro h;cases h
 rintro⟨h1,H⟩;have:=hc b h1;omega
theorem Yx {x:Nat} {c:Nat->Nat} {n:Nat} {C:List Cls} (h:KInv x c n C) (hx:x<256) (i:Nat) (hi:i<n):KInv (x+1) (λy=>if y=x then i else c y) n (C.set i (Ay (C.getD i 0#256) (x:Int))):=by
 have H:=h.len;refine⟨by simp[H],λk T b hb=>?_⟩;by_cases e:i=k
 ·subst e;rw[Rz _ _ _ _ (by omega),J4 _ _ _ hx,Bool.or_eq_true,h.bit i hi b hb,decide_eq_true_eq];constructor
  ·rintro (⟨h1,E⟩|h1)
   ·exact⟨by omega,by rw[if_neg (by omega)];exact E⟩
   subst h1;exact⟨by omega,if_pos rfl⟩
  rintro⟨h1,E⟩;by_cases e:b=x
  ·exact .inr e
  rw[if_neg e] at E;exact .inl ⟨by omega,E⟩
 rw[R4 _ _ _ _ _ e,h.bit k T b hb];constructor
 ·rintro⟨h1,E⟩;exact⟨by omega,by rw[if_neg (by omega)];exact E⟩
 rintro⟨h1,E⟩;by_cases G:b=x
 ·rw[if_pos G] at E;exact absurd E e
 rw[if_neg G] at E;exact⟨by omega,E⟩
theorem QL {a b c:Nat->Nat} {bs:List Nat} {C:List Cls} (h:KInv 256 c bs.length C) (H:Joint a b c bs):Parts C/\(∀ y,y<256->Am C y=c y)/\Joint a b (Am C) bs:=by
 have hl:=h.len;have hP:Parts C:=by
  refine⟨λz hz e=>?_,?_,λy E=>?_⟩
  ·obtain⟨k,T,rfl⟩:=List.getElem_of_mem hz;have h1:=H.byte k (by omega);have G:=(h.bit k (by omega) _ h1.1).2 ⟨h1.1,h1.2⟩;rw[Ζ,Ι T,ϱ,e,û] at G;cases G
  ·rw[List.pairwise_iff_getElem];rintro i k hi T ae y ⟨h1,G⟩;have E:y<256:=by
    rcases Nat.lt_or_ge y 256 with h|h
    ·exact h
    rw[BitVec.getLsbD_of_ge _ _ h] at h1;cases h1
   have e1:=(h.bit i (by omega) y E).1 (by rw[Ζ,Ι hi];exact h1);have e2:=(h.bit k (by omega) y E).1 (by rw[Ζ,Ι T];exact G);omega
  have h1:=H.lt y E;have G:=(h.bit (c y) h1 y E).2 ⟨E,rfl⟩;refine⟨C.getD (c y) 0#256,?_,G⟩;rw[Ζ,Ι (by omega)];exact List.getElem_mem _
 have X:∀ y,y<256->Am C y=c y:=λy E=>((h.bit _ (by rw[<-hl];exact cell_lt hP E) y E).1 (Gx hP E)).2.symm
 refine⟨hP,X,⟨λy E=>by rw[X y E];exact H.lt y E,λk T=>?_,λy z E hz=>by rw[X y E,X z hz];exact H.same y z E hz⟩⟩;have h1:=H.byte k T;exact⟨h1.1,by rw[X _ h1.1];exact h1.2⟩
theorem Zx (C:List Cls) (i x:Nat) (hi:i<C.length) (hx:x<256) :
  (Cm C).set (i*4+x / 64) (.int ζ (wd (Ay (C.getD i 0#256) (x:Int)) (x / 64)))=Cm (C.set i (Ay (C.getD i 0#256) (x:Int))):=by
 have G:=Iu C;apply Ϯ;intro j;by_cases E:j<C.length*4
 ·rw[Fx _ j (by simpa using E),List.getElem?_set,G];by_cases hd:j / 4=i
  ·subst hd;rw[Rz _ _ _ _ hi];by_cases e:j % 4=x / 64
   ·rw[if_pos (by omega),if_pos (by omega),e]
   rw[if_neg (by omega),Fx _ _ E]
   congr 2
   unfold wd;rw[T5 _ _ _ (by omega) (by omega),if_neg e]
  rw[R4 _ _ _ _ _ (Ne.symm hd),if_neg (by omega),Fx _ j E]
 rw[List.getElem?_eq_none (by rw[υ,G];omega),List.getElem?_eq_none (by rw[Iu,υ];omega)]
theorem EP (d1 d2:Dfa) (b9:Val d1) (cd:Val d2) (ga gb:Nat) (w:Γ) (h1:MachAt w ga d1) (h2:MachAt w gb d2) :
  ϛ Η 58 #[ε (J ⟨ga,0,I⟩),ε (J ⟨gb,0,I⟩)] w λe w'=>∃ vc v C bs,e=Ψ (ϗ #[.agg #[vc,U I 0 0],v])/\Cs w' vc C/\Parts C/\C.length=bs.length/\Joint (Am d1.cls) (Am d2.cls) (Am C) bs/\By w' v (bs.map ώ)/\Ext w w':=by
 obtain⟨_,_,_,_,_,_,-,-,eb,-,-⟩:=h1.opened b9;obtain⟨_,_,_,_,_,_,-,-,ec,-,-⟩:=h2.opened cd;have ed:=(λ(b:Nat) (hb:b<256)=>And.intro (Ξ (cell_lt b9.parts hb) b9.parts.le) (Ξ (cell_lt cd.parts hb) cd.parts.le));clear h1 h2 b9 cd;generalize Am d1.cls=cg at *;generalize Am d2.cls=cj at *;have e4:=Z ed;clear ed;obtain⟨i0,hi,e8,e9,fa⟩:=ϓ L7;obtain⟨j0,hj,fe,ff,fg⟩:=ϓ Rq;have fh:=@run_makeMap Η;have ee:=((Κ w).alloc (Β #[U I 0 0,U I 0 0] 128)).alloc (Β #[U I 0 0,U I 0 0] 128);have H0:=Ah (Ad w (Β #[U I 0 0,U I 0 0] 128)) (Β #[U I 0 0,U I 0 0] 128);have H1:=ϒ w (Β #[U I 0 0,U I 0 0] 128) (Β #[U I 0 0,U I 0 0] 128);have fj:=Z (λ(W:Γ) (hW:Ext w W) (b:Nat) (hb:b<256)=>hW.cell (eb b hb));have fk:=Z (λ(W:Γ) (hW:Ext w W) (b:Nat) (hb:b<256)=>hW.cell (ec b hb));clear eb ec;go_enter Tryz.func58,Tryz.ntmps58;go_upto_region 4 with (fail)
 clear fh;have R0:=Ah H0 (.map #[] 0);have R1:=Ah H1 (.map #[] 0);have ad:=It ((w.alloc (Β #[U I 0 0,U I 0 0] 128)).alloc (Β #[U I 0 0,U I 0 0] 128)) 158 C6;have fl:=ee.alloc (.map #[] 0);have gi:((((w.alloc (Β #[U I 0 0,U I 0 0] 128)).alloc (Β #[U I 0 0,U I 0 0] 128)).alloc (.map #[] 0))).heap.size=w.heap.size+1+1+1:=by rw[Ρ,Ρ,Ρ]
 rw[Ρ,Ρ] at ad;obtain⟨w1,eh⟩:=Xq (((w.alloc (Β #[U I 0 0,U I 0 0] 128)).alloc (Β #[U I 0 0,U I 0 0] 128)).alloc (.map #[] 0));simp only[eh] at *;clear eh H0 H1 ee;have hI:=À w1 w1.heap.size 5 1;have G:=À w1 w1.heap.size 91 4;have R0:=Z R0;have R1:=Z R1;go_wp2_with (fail);go_loopw [7,14] (λv i W=>∃ (x:Nat) (bs:List Nat) (C:List Cls) (a:Option Addr) (cp:Nat) (ac:Option Addr) (cc:Nat) (c:Nat->Nat) (f:Nat × Nat->Option Nat),x<=256/\i=.int Φ x/\v=U a bs.length cp/\Ext w W/\w1.heap.size<=W.heap.size/\W.ownsRow w1.heap.size 5 1 v bs.length (bs.map λ(z:Nat)=>Â .u8 z)/\Row W w1.heap.size (U ac C.length cc) C/\IsMp W 158 C6 (w.heap.size+1+1) bs.length f/\ϟ (W.heap[w.heap.size]? = J (Β #[U I 0 0,U I 0 0] 128 (0,0)))/\ϟ (W.heap[w.heap.size+1]? = J (Β #[U ac C.length cc,U I 0 0] 128 (0,0)))/\ϟ (JInv cg cj x c bs f)/\ϟ (KInv x c bs.length C))
  (λ_ i _=>256-(intOf i).toNat)
 case atStart=>exact⟨0,[],[],I,0,I,0,_,_,by omega,rfl,rfl,fl,Υ _,hI,G,ad,R0,R1,Z (Yy _ _),Z (QK _)⟩
 clear hI G ad R0 R1;obtain⟨x,bs,C,a,cp,ac,cc,c,f,hx,rfl,rfl,hE,ei,hI,G,ad,H,E,HJ,aq⟩:=hrel;have gj:=HJ.o.le;have bm:=aq.o.len;by_cases be:x<256
 ·have ej:(x:Int)<256:=by omega
  have ka:=fj.o wr hE x be;have kb:=fk.o wr hE x be;obtain⟨ha,hb⟩:=e4.o x be;have c4:=Wy (cg x,cj x) (by show cg x<_;omega) (by show cj x<_;omega);generalize eo:cg x=ca at *;generalize ep:cj x=cb at *;have c5:=Z eo;have c6:=Z ep;clear eo ep;go_upto_region 7 with (fail)
  have na:=Γ.new_ne wr _ ka;have nb:=Γ.new_ne wr _ kb;go_region_held (λW=>W.cell? ⟨ga,3+x,I⟩=J (iv ca)/\W.cell? ⟨gb,3+x,I⟩=J (iv cb)) (go_keep) (fail)
  have e5:Ext wr (wr.alloc (Β #[iv ca,iv cb] 158)).drew:=((Κ wr).alloc _).drew;have K5:ϟ ((wr.alloc (Β #[iv ca,iv cb] 158)).drew.heap[wr.heap.size]? = J (Β #[iv ca,iv cb] 158 (0,0))):=Z (Ad wr _);obtain⟨w5,er⟩:=Xq ((wr.alloc (Β #[iv ca,iv cb] 158)).drew);simp only[er] at *;clear er ka kb na nb;rename_i fp
  clear fp;have bo:=hE.t e5;have bp:=μ ei e5.size;have hI:=Aa hI e5;have G:=Aa G e5;have ad:=ad.ext e5;have H:=Z (e5.heap H.o);have E:=Z (e5.heap E.o);have gl:w1.heap.size<=wr.heap.size:=ei;cases bq:f (ca,cb) with
  | some i=>
   have HN:=Z (Yz HJ.o i (by rw[c5.o,c6.o];exact bq));have gm:i<bs.length:=by obtain⟨z,hz,_,rfl⟩:=HJ.o.from_ _ _ bq;exact HJ.o.lt z hz
   clear HJ;obtain⟨g,gn,he,fs,gp,-,-⟩:=Row.cells G (by omega);injection he with he _ ft
   subst he ft;go_upto_region 14 with (first
    | (refine Lr 158 (δ 10) K5.o Tryz.underlying158 J2 ?_)
    | (at_lookup;refine D0 rfl _ _ 157 rfl J1 Tryz.underlying157 rfl ad (ca,cb) rfl c4 ?_;rw[bq];dsimp only [ñ,Option.getD]))
   have c1:w5.drew.cell? ⟨w.heap.size+1,0,I⟩=J (U (J ⟨g,0,I⟩) C.length cc):=Τ w5.drew (w.heap.size+1) 0 _ _ _ E.o;have c2:w5.drew.cell? ⟨g,i*4+x / 64,I⟩=J (.int ζ (wd (C.getD i 0#256) (x / 64))):=(by have h1:=G.cellAt (i*4+x / 64) (by omega);rw[Fx _ _ (by omega)] at h1;rw[show (i*4+x / 64) / 4=i by omega,show (i*4+x / 64) % 4=x / 64 by omega] at h1;exact h1)
   have hf:=G.frozenAt (i*4+x / 64);have aj:=G.stored (i*4+x / 64) (.int ζ (wd (Ay (C.getD i 0#256) (x:Int)) (x / 64)));rw[Zx C i x (by omega) be] at aj;have da:Ü.wrap ((x:Int) / 64)=((x / 64:Nat):Int):=by simp[IntKind.wrap,IntKind.signed,IntKind.bits];omega
   have db:(x:Int).tmod 64=(x:Int) % 64:=Int.tmod_eq_emod_of_nonneg (by omega);have dc:0<=(x:Int) % 64:=by omega
   have dd:(x:Int) % 64<=64:=by omega
   have de:((x / 64:Nat):Int)<4:=by omega
   have br:=O8 (C.getD i 0#256) (x:Int) (by omega) ej;rw[show ((x:Int) / 64).toNat=x / 64 by omega] at br;have ⟨df,dg⟩:=G1 (C.getD i 0#256) (x / 64);have dh:=Z (Yx aq.o be i (by omega));have bt:=Z (show (C.set i (Ay (C.getD i 0#256) (x:Int))).length=C.length by simp);have dk:(i:Int)<(C.length:Int):=by omega
   generalize Ay (C.getD i 0#256) (x:Int)=zz at *;generalize C.getD i 0#256=z at *;have aj:=Z aj;have bu:=Z G;have bg:=Z hI;have bw:=Z ad;clear G hI ad;generalize hq:x / 64=q at *;refine Bl 14 [(0,Α),(1,Α),(2,Α),(3,Α),(4,Α),(5,Α),(6,Α),(7,Α),(8,Α),(9,Α),(10,Α),(11,Α),(12,Α),(13,Α),(14,Ε)] (by kernel_rfl) (by kernel_rfl) (λ_ _ _ _ h=>h)
    (λX=>X.cell? ⟨w.heap.size+1,0,I⟩=J (U (J ⟨g,0,I⟩) C.length cc)/\X.cell? ⟨g,i*4+q,I⟩=J (.int ζ (wd z q))) ⟨c1,c2⟩ ?_
   iterate 14
    refine Af (v:=?_) rfl rfl (λX hX=>?_) ?_
    rotate_left
    ·obtain⟨k1,k2⟩:=hX;go_simp;first|done|with_reducible rfl
    simp only[η,Θ,Μ,Λ]
   refine Ao rfl (λK hK=>?_);go_simp;refine hK _ _ (λh=>absurd h (by omega)) ?_;clear hK K hf;refine Bj ?_;clear br da db dc dd de df dg dk c1 c2;obtain⟨ax,af⟩:=aj.o;have a8:=bo.grown af (λk e=>by cases e;omega);have ai:=bg.o.kept af (Aj bg.o bu.o (by decide));have ba:=bw.o.kept af (λe=>by injection e;omega);have bz:=(af.block _ (Al H.o) (λe=>by injection e;omega)).trans H.o;have b0:=(af.block _ (Al E.o) (λe=>by injection e;omega)).trans E.o;have e6:=(Κ (w5.setCell ⟨g,i*4+q,I⟩ (.int ζ (wd zz q)))).drew;have bb:w1.heap.size<=(w5.setCell ⟨g,i*4+q,I⟩ (.int ζ (wd zz q))).drew.heap.size:=μ (μ bp af.size) e6.size;have bc:=a8.t e6;have ay:=Aa ai e6;have ag:=Aa ax e6;have bd:=ba.ext e6;have b4:=Z (e6.heap bz);have b5:=Z (e6.heap b0);clear ax af a8 ai ba bz b0 e6 aj bu bg bw;obtain⟨w7,bh⟩:=Xq ((w5.setCell ⟨g,i*4+q,I⟩ (.int ζ (wd zz q))).drew);rw[bh] at bb bc ay ag bd b4 b5;rw[bh];clear bh;go_wp2;go_roundw
   case rel=>
    refine⟨x+1,bs,C.set i zz,_,_,J ⟨g,0,I⟩,cc,_,_,by omega,by go_num,rfl,bc,bb,ay,?_,bd,b4,?_,HN,dh⟩
    ·show ϥ _ _ _ _ _ _ _;rw[bt.o];exact ag
    rw[bt.o];exact b5
   case measure=>simp[intOf]<;>omega
  | none=>
   have HN:=Y2 HJ.o (by rw[c5.o,c6.o];exact bq);rw[c5.o,c6.o] at HN;have HN:=Z HN;have aq:=Z (QM aq.o (λy hy=>HJ.o.lt y hy));clear HJ;go_upto_region 11 with (first
    | (refine Lr 158 (δ 10) K5.o Tryz.underlying158 J2 ?_)
    | (at_lookup;refine D0 rfl _ _ 157 rfl J1 Tryz.underlying157 rfl ad (ca,cb) rfl c4 ?_;rw[bq];dsimp only [ñ,Option.getD]))
   go_upto_region 12 with (first
    | (refine Lr 158 (δ 10) K5.o Tryz.underlying158 J2 ?_)
    | (at_mapUpdate;refine G0 rfl _ _ _ 157 rfl J1 Tryz.underlying157 rfl ad (by unfold ϐ;omega) Qn (ca,cb) rfl c4 bs.length rfl (by omega) ?_;intro w6 ba bj))
   clear ad;have ai:=hI.kept bj (A3 hI (by omega));have ax:=G.kept bj (A3 G (by omega));have H:ϟ (w6.heap[w.heap.size]? = _):=Z ((bj.block _ (Al H.o) (by simp;omega)).trans H.o);have E:ϟ (w6.heap[w.heap.size+1]? = _):=Z ((bj.block _ (Al E.o) (by simp)).trans E.o);have a8:=bo.grown bj (λk e=>by cases e;omega);have bb:w1.heap.size<=w6.heap.size:=μ bp bj.size;clear bj hI G K5 e5;go_upto_region 13 with (at_builtin;refine Ϙ _ rfl _ _ 22 rfl w1.heap.size 5 i0 (.int .u8 0) 1 1 Tryz.underlying22 hi e8 e9 fa rfl (by decide) _ _ _ rfl (ai.alloc _) _ 1 1 [.int .u8 x] rfl rfl (Ý _ _ _) (by simp[ξ]) (by decide) (by unfold ϐ;omega) (by omega) (by simp;omega) _ rfl ?_;intro g7 c7 w7 ay bk _ _)
   have et:=Al H.o;have dp:=Al E.o;have H:ϟ (w7.heap[w.heap.size]? = _):=Z ((bk.block _ (Ξ et (by rw[Ρ];omega)) (λe=>by have:=(ai.lt _ e.symm).1;omega)).trans (Ah H.o _));have E:ϟ (w7.heap[w.heap.size+1]? = _):=Z ((bk.block _ (Ξ dp (by rw[Ρ];omega)) (λe=>by have:=(ai.lt _ e.symm).1;omega)).trans (Ah E.o _));have bd:=(ba.alloc (Β #[.int .u8 x] 5)).kept bk (λe=>by have:=(ai.lt _ e.symm).1;omega);have bc:=(a8.alloc (Β #[.int .u8 x] 5)).grown bk (λk e=>by have:=(ai.lt k e).1;omega);have ag:=(ax.alloc (Β #[.int .u8 x] 5)).kept bk (Aj (ax.alloc (Β #[.int .u8 x] 5)) (ai.alloc (Β #[.int .u8 x] 5)) (by decide));have eu:w1.heap.size<=w7.heap.size:=μ bb (by have:=bk.size;rw[Ρ] at this;omega);clear bk ai ba ax et dp;have ag:w7.ownsRow w1.heap.size 91 4 (U ac bs.length cc) bs.length (Cm C):=by rw[<-bm];exact ag
   have E:ϟ (w7.heap[w.heap.size+1]? = J (Β #[U ac bs.length cc,U I 0 0] 128 (0,0))):=by rw[<-bm];exact E
   have k7:w7.cell? ⟨w.heap.size+1,0,I⟩=J (U ac bs.length cc):=Τ w7 (w.heap.size+1) 0 _ _ _ E.o;have dq:=Z bm;clear bm;go_upto_region 14 with (at_builtin;refine Ϙ _ rfl _ _ 36 rfl w1.heap.size 91 j0 (.agg zA) 4 32 Tryz.underlying36 hj fe ff fg rfl (by decide) (U ac bs.length cc) _ _ rfl (ag.alloc _) _ 1 1 [.int ζ 0,.int ζ 0,.int ζ 0,.int ζ 0] rfl rfl (Γ.news_of_block (Ad _ _)) (by simp[ξ]) (by decide) (by unfold ϐ;omega) (by omega) (by simp;omega) _ rfl ?_;intro T c8 w8 dr bl _ _;have b6:=(bl.block _ (Ξ (Al E.o) (by rw[Ρ];omega)) (λe=>by have:=(ag.lt _ e.symm).1;omega)).trans (Ah E.o _);have k8:=Τ w8 (w.heap.size+1) 0 _ _ _ b6;have f8:=È w8 (w.heap.size+1) 0 _ _ b6)
   rw[Ϭ w8 _ _ _ _ _ _ b6];have cq:=Cc w8 (w.heap.size+1) (#[U (J ⟨T,0,I⟩) (bs.length+1) c8,U I 0 0]);have a1:=(Κ w7).alloc (Β #[Â ζ 0,Â ζ 0,Â ζ 0,Â ζ 0] 91);have ev:=(bc.t a1).grown bl (λk e=>by have:=(ag.lt k e).1;omega);have dt:=(Aa ay a1).kept bl (Aj (Aa ay a1) (Aa ag a1) (by decide));have ew:=(bd.ext a1).kept bl (λe=>by have:=(ag.lt _ e.symm).1;omega);have ey:=(bl.block _ (Ξ (Al H.o) a1.size) (λe=>by have:=(ag.lt _ e.symm).1;omega)).trans (a1.heap H.o);have ez:w1.heap.size<=w8.heap.size:=μ (μ eu a1.size) bl.size;have du:=ev.setRow (show w.heap.size<=w.heap.size+1 by omega) (#[U (J ⟨T,0,I⟩) (bs.length+1) c8,U I 0 0]);have dv:=dt.kept cq (A3 dt (by omega));have ct:=dr.kept cq (A3 dr (by omega));have dw:=ew.kept cq (by simp);have dx:=Bm ey (show w.heap.size≠w.heap.size+1 by omega) (#[U (J ⟨T,0,I⟩) (bs.length+1) c8,U I 0 0]);have cu:=Χ w8 (w.heap.size+1) _ (#[U (J ⟨T,0,I⟩) (bs.length+1) c8,U I 0 0]) _ _ b6;have dy:w1.heap.size<=(w8.setRow (w.heap.size+1) (#[U (J ⟨T,0,I⟩) (bs.length+1) c8,U I 0 0])).heap.size:=by rw[size_setRow];exact ez
   clear bl a1 ev dt ew ey ez k8 f8 b6 dr cq bc ay bd ag E H a8 bo bp bb eu k7;obtain⟨w9,dz⟩:=Xq (w8.setRow (w.heap.size+1) (#[U (J ⟨T,0,I⟩) (bs.length+1) c8,U I 0 0]));have e0:w8.setRow (w.heap.size+1) ((#[U ac bs.length cc,U I 0 0]:Array Δ).setIfInBounds 0 (U (J ⟨T,0,I⟩) (bs.length+1) c8))=w9:=dz;rw[e0];rw[dz] at du dv ct dw dx cu dy;clear dz e0;have fs:w1.heap.size<=T:=(ct.lt T rfl).1;obtain⟨b7,b8⟩:=Xq (bs++[x]);have ea:b7.length=bs.length+1:=by rw[<-b8,Ν];rfl
   obtain⟨C9,cv⟩:=Xq (C++[0#256]);have e1:C9.length=bs.length+1:=by rw[<-cv,Ν,dq.o];rfl
   have dp:(bs.length:Int)<(bs.length:Int)+1:=by omega
   have hI:w9.ownsRow w1.heap.size 5 1 (U (J ⟨g7,0,I⟩) (bs.length+1) c7) b7.length (b7.map λ(z:Nat)=>Â .u8 z):=by rw[<-b8,Ν,List.map_append];exact dv
   have G:Row w9 w1.heap.size (U (J ⟨T,0,I⟩) C9.length c8) C9:=by show ϥ _ _ _ _ _ _ _;rw[e1,<-cv,Oj,Oi];unfold Cq;rw[Kz,Kz,Kz,Kz];exact ct
   have ad:=dw;rw[<-ea] at ad;have aq:ϟ (KInv x c b7.length C9):=by rw[ea,<-cv];exact aq
   rw[<-e1] at cu;have H:=Z dx;have E:=Z cu;rw[b8] at HN;have gq:=Z b8;have bo:=du;have bp:=dy;clear b8 dv ct dw dx cu cv du dy;have c1:w9.drew.cell? ⟨w.heap.size+1,0,I⟩=J (U (J ⟨T,0,I⟩) C9.length c8):=Τ w9.drew (w.heap.size+1) 0 _ _ _ E.o;have c2:w9.drew.cell? ⟨T,bs.length*4+x / 64,I⟩=J (.int ζ (wd (C9.getD bs.length 0#256) (x / 64))):=(by have h1:=G.cellAt (bs.length*4+x / 64) (by omega);rw[Fx _ _ (by omega)] at h1;rw[show (bs.length*4+x / 64) / 4=bs.length by omega,show (bs.length*4+x / 64) % 4=x / 64 by omega] at h1;exact h1)
   have hf:=G.frozenAt (bs.length*4+x / 64);have aj:=G.stored (bs.length*4+x / 64) (.int ζ (wd (Ay (C9.getD bs.length 0#256) (x:Int)) (x / 64)));rw[Zx C9 bs.length x (by omega) be] at aj;have da:Ü.wrap ((x:Int) / 64)=((x / 64:Nat):Int):=by simp[IntKind.wrap,IntKind.signed,IntKind.bits];omega
   have db:(x:Int).tmod 64=(x:Int) % 64:=Int.tmod_eq_emod_of_nonneg (by omega);have dc:0<=(x:Int) % 64:=by omega
   have dd:(x:Int) % 64<=64:=by omega
   have de:((x / 64:Nat):Int)<4:=by omega
   have br:=O8 (C9.getD bs.length 0#256) (x:Int) (by omega) ej;rw[show ((x:Int) / 64).toNat=x / 64 by omega] at br;have ⟨df,dg⟩:=G1 (C9.getD bs.length 0#256) (x / 64);have dh:=Z (Yx aq.o be bs.length (by omega));have bt:=Z (show (C9.set bs.length (Ay (C9.getD bs.length 0#256) (x:Int))).length=C9.length by simp);have dk:(bs.length:Int)<(C9.length:Int):=by omega
   generalize Ay (C9.getD bs.length 0#256) (x:Int)=zz at *;generalize C9.getD bs.length 0#256=z at *;have aj:=Z aj;have bu:=Z G;have bg:=Z hI;have bw:=Z ad;clear G hI ad;generalize hq:x / 64=q at *;refine Bl 14 [(0,Α),(1,Α),(2,Α),(3,Α),(4,Α),(5,Α),(6,Α),(7,Α),(8,Α),(9,Α),(10,Α),(11,Α),(12,Α),(13,Α),(14,Ε)] (by kernel_rfl) (by kernel_rfl) (λ_ _ _ _ h=>h)
    (λX=>X.cell? ⟨w.heap.size+1,0,I⟩=J (U (J ⟨T,0,I⟩) C9.length c8)/\X.cell? ⟨T,bs.length*4+q,I⟩=J (.int ζ (wd z q))) ⟨c1,c2⟩ ?_
   iterate 14
    refine Af (v:=?_) rfl rfl (λX hX=>?_) ?_
    rotate_left
    ·obtain⟨k1,k2⟩:=hX;go_simp;first|done|with_reducible rfl
    simp only[η,Θ,Μ,Λ]
   refine Ao rfl (λK hK=>?_);go_simp;refine hK _ _ (λh=>absurd h (by omega)) ?_;clear hK K hf;refine Bj ?_;clear br da db dc dd de df dg dk c1 c2;obtain⟨ax,af⟩:=aj.o;have a8:=bo.grown af (λk e=>by cases e;omega);have ai:=bg.o.kept af (Aj bg.o bu.o (by decide));have ba:=bw.o.kept af (λe=>by injection e;omega);have bz:=(af.block _ (Al H.o) (λe=>by injection e;omega)).trans H.o;have b0:=(af.block _ (Al E.o) (λe=>by injection e;omega)).trans E.o;have e6:=(Κ (w9.setCell ⟨T,bs.length*4+q,I⟩ (.int ζ (wd zz q)))).drew;have bb:w1.heap.size<=(w9.setCell ⟨T,bs.length*4+q,I⟩ (.int ζ (wd zz q))).drew.heap.size:=μ (μ bp af.size) e6.size;have bc:=a8.t e6;have ay:=Aa ai e6;have ag:=Aa ax e6;have bd:=ba.ext e6;have b4:=Z (e6.heap bz);have b5:=Z (e6.heap b0);clear ax af a8 ai ba bz b0 e6 aj bu bg bw;obtain⟨w7,bh⟩:=Xq ((w9.setCell ⟨T,bs.length*4+q,I⟩ (.int ζ (wd zz q))).drew);rw[bh] at bb bc ay ag bd b4 b5;rw[bh];clear bh;go_wp2;go_roundw
   case rel=>
    refine⟨x+1,b7,C9.set bs.length zz,_,_,J ⟨T,0,I⟩,c8,_,_,by omega,by go_num,by rw[ea],bc,bb,ay,?_,bd,b4,?_,HN,dh⟩
    ·show ϥ _ _ _ _ _ _ _;rw[bt.o];exact ag
    rw[bt.o];exact b5
   case measure=>simp[intOf]<;>omega
 obtain rfl:x=256:=by omega
 have dq:=Z bm;clear bm;have e2:=Y3 HJ.o;obtain⟨hP,_,hJ⟩:=QL aq.o e2;have gu:=H.o;have gv:=E.o;go_wp2_with (first
  | (refine Lr 128 (δ 6) E.o Tryz.underlying128 Fv ?_)
  | (refine Sr 128 (δ 4) (δ 69) rfl H.o Fv rfl (by simp[ξ]) ?_))
 refine ω (v:=ϗ #[.agg #[U ac C.length cc,U I 0 0],U a bs.length cp]) (Bi rfl _ _ _ _ _ _ _ rfl _ rfl (Χ wr _ _ _ 128 (0,0) H.o) Tryz.underlying128 rfl Fv) rfl ?_;have e3:=Cc wr w.heap.size #[U ac C.length cc,U I 0 0];refine⟨_,_,C,bs,rfl,Row.toCs (G.kept e3 (A3 G (by omega))) (by rw[dq.o];omega),hP,aq.o.len,hJ,?_,hE.setRow (by omega) _⟩;have h1:=hI.kept e3 (A3 hI (by omega));have h2:=Sl.of_owns h1 (by omega) (.int .u8 0);unfold By;rw[ι];refine Sl.congr h2 (λi hi=>?_);have hi:i<bs.length:=by omega
 have h3:=e2.byte i hi;rw[Ζ,Ζ,ν,ν] at *;rw[Ι hi] at *;simp at h3 ⊢;omega
open Go.RowKit Go.Shelf Go.WideMaps
open Go.Maps (Keyed)
def Gh (x:Nat × Nat):List Δ:=[iv x.1,.int ζ (x.2:Int)]
def Ha (x:Nat × Nat):Array Δ:=#[iv x.1,.int ζ (x.2:Int)]
def stK (x:Nat × Nat):Δ:=.agg (Ha x)
theorem Px (x y:Nat × Nat) (h:stK x=stK y):x=y:=by
 cases x;cases y
 simp[stK,Ha] at h;simp;omega
theorem Is:Keyed Η 134:=Keyed.of_law (deep_law_laid N9 (m:=3) (by omega) (of_decide_eq_true (by kernel_rfl)) (by kernel_rfl) (by rw[Tryz.underlying134]))
theorem QH:Η.keyType 134=Α:=by kernel_rfl
theorem AY:Η.cellsOf 134=2:=by kernel_rfl
theorem Pw (x:Nat × Nat) (h1:x.1<9223372036854775808) (E:x.2<18446744073709551616):∃ l,keyOf Η 134 (stK x)=J l:=by
 obtain⟨m,hm⟩:=P4;refine⟨.string (keyBytes [.int Φ x.1,.int ζ x.2]),?_⟩;unfold keyOf;simp only[Tryz.underlying134];rw[if_pos (by simp[QH,Δ.formed,stK,Ha,Tryz.underlying134,AY]),hm];have e:(stK x).cells.toList=[iv x.1,.int ζ (x.2:Int)]:=rfl;rw[e];have:Η.keyLits (m+3+1) 134 [iv x.1,.int ζ (x.2:Int)]=J [.int Φ x.1,.int ζ x.2]:=by show Þ.keyLits Η ((m+3)+1) 134 _=_;unfold Þ.keyLits;simp only[Tryz.underlying134];rw[if_pos (by rw[AY];exact⟨rfl,by kernel_rfl⟩)];rw[List.mapM_cons,List.mapM_cons,List.mapM_nil];simp only[co3,AW,ϰ,Ä,ú,List.take_zero];rw[show m+3=(m+2)+1 by omega,kl3 _ _ h1,Yw _ _ E];rfl
 rw[this];rfl
theorem Gp:(Η.info? 134).map (·.size)=J 2:=by kernel_rfl
theorem RF:(Η.info? 134).map (λi=>(i.zero,i.size,i.bytes))=J (J (.agg #[.int Φ 0,.int ζ 0]),2,16):=by kernel_rfl
theorem U9 (x:Nat × Nat):(Ha x).all (·.oneCell')=Α:=by simp[Ha,ξ]
theorem CE:Η.built 134 []=J #[.int Φ 0,.int ζ 0]:=by kernel_rfl
theorem XI (p:Int):Η.built 134 [(0,.int Φ p)]=J #[.int Φ p,.int ζ 0]:=by kernel_rfl
def flK (l:List (Nat × Nat)):List Δ:=l.flatMap Gh
theorem TF (l m:List (Nat × Nat)):flK (l++m)=flK l++flK m:=by simp[flK]
theorem TD (x:Nat × Nat):flK [x]=Gh x:=by simp[flK]
theorem TE (l:List (Nat × Nat)) (k:Nat) (x:Nat × Nat) (h:l[k]? = J x):(flK l)[k*2]? = J (iv x.1)/\(flK l)[k*2+1]? = J (.int ζ (x.2:Int)):=by
 induction l generalizing k with
 | nil=>simp at h
 | cons y l G=>
  have e:flK (y::l)=Gh y++flK l:=rfl;cases k with
  | zero=>
   have:y=x:=by simpa using h
   subst this;rw[e];exact⟨rfl,rfl⟩
  | succ k=>
   have H:l[k]? = J x:=by simpa using h
   obtain⟨h1,T⟩:=G k H;have E:(Gh y).length=2:=rfl;rw[e];refine⟨?_,?_⟩
   ·rw[ς (by rw[E];omega),E,show (k+1)*2-2=k*2 by omega];exact h1
   rw[ς (by rw[E];omega),E,show (k+1)*2+1-2=k*2+1 by omega];exact T
abbrev Ks (W:Γ) (base:Nat) (v:Δ) (l:List (Nat × Nat)):Prop:=W.ownsRow base 134 2 v l.length (flK l)
theorem U6 {W:Γ} {base g E:Nat} {l:List (Nat × Nat)} (h:Ks W base (U (J ⟨g,0,I⟩) l.length E) l) (k:Nat) (x:Nat × Nat) (hx:l[k]? = J x) :
  W.cell? ⟨g,k*2,I⟩=J (iv x.1)/\W.cell? ⟨g,k*2+1,I⟩=J (.int ζ (x.2:Int)):=by
 have H:k<l.length:=(List.getElem?_eq_some_iff.1 hx).1;obtain⟨h1,G⟩:=TE l k x hx;rw[h.cellAt _ (by omega),h.cellAt _ (by omega)];exact⟨h1,G⟩
theorem Js {κ:Type} {W:Γ} {k:TypeId} {key:κ->Δ} {b n:Nat} {f:κ->Option Δ} {base e size:Nat} {v:Δ} {m:Nat} {xs:List Δ} (h:IsMv W k key b n f) (T:W.ownsRow base e size v m xs):J b≠v.ownBlock:=λE=>by
 obtain⟨es,c,hb⟩:=h.block;rcases T.2 with⟨G,_⟩|⟨X,aa,cur,G,_,H,_⟩
 ·rw[G] at E;cases E
 rw[G] at E;have E:J b=J X:=E;injection E with E
 subst E;rw[hb] at H;cases H
theorem Nw {κ:Type} {W:Γ} {k:TypeId} {key:κ->Δ} {b n:Nat} {f:κ->Option Nat} (h:IsMp W k key b n f):∃ es c,W.heap[b]? = J (.map es c):=by obtain⟨_,⟨es,c,hb,_⟩,_⟩:=h;exact⟨es,c,hb⟩
structure LzO (W:Γ) (Bo gW bI bR:Nat) (vc:Δ) (cnt:Nat) (l:List (Nat × Nat)) (f:Nat × Nat->Option Nat) (go co:Nat) (vnx:Δ) (vs:List Δ) (N:List (List Nat)) (av:Option Nat->Prop):Prop where
 mp:IsMp W 134 stK bI cnt f
 L:Ks W Bo (U (J ⟨go,0,I⟩) l.length co) l
 D:W.heap[gW]? = J (Β #[vc,vnx] 128 (0,0))
 Nx:W.ownsRow Bo 54 1 vnx vs.length vs
 V:RowsO W Bo vs N av
 MR:IsMv W 3 iv bR 0 (λ_=>I)
 sz:Bo<=W.heap.size
section
variable {W W':World} {Bo gW bI bR cnt go co:Nat} {vc vnx:Value} {l:List (Nat × Nat)} {f:Nat × Nat->Option Nat} {vs:List Value} {N:List (List Nat)} {av:Option Nat->Prop}
theorem LzO.ext (h:LzO W Bo gW bI bR vc cnt l f go co vnx vs N av) (E:Ext W W'):LzO W' Bo gW bI bR vc cnt l f go co vnx vs N av:=
 ⟨h.mp.ext E,Aa h.L E,E.heap h.D,Aa h.Nx E,h.V.kept (E.grownBy I) (λv l _ _=>by cases v.ownBlock<;>simp),h.MR.ext E,μ h.sz E.size⟩
theorem LzO.avs {av':Option Nat->Prop} (h:LzO W Bo gW bI bR vc cnt l f go co vnx vs N av) (E:∀ v l,OwnI W Bo v l->¬ av v.ownBlock->¬ av' v.ownBlock):LzO W Bo gW bI bR vc cnt l f go co vnx vs N av':=
 ⟨h.mp,h.L,h.D,h.Nx,h.V.av E,h.MR,h.sz⟩
theorem LzO.keptQ {gr m c:Nat} {xs:List Δ} (h:LzO W Bo gW bI bR vc cnt l f go co vnx vs N (λo=>o=J gr)) (E:W.ownsRow Bo 3 1 (U (J ⟨gr,0,I⟩) m c) m xs) (hg:W.grownBy W' (J gr)):LzO W' Bo gW bI bR vc cnt l f go co vnx vs N (λo=>o=J gr):=
 ⟨h.mp.kept hg (h.mp.ne_row E),h.L.kept hg (Aj h.L E (by decide)),(hg.block gW (Al h.D) (Fh E h.D (by decide))).trans h.D,h.Nx.kept hg (Aj h.Nx E (by decide)),h.V.kept hg (λv l _ G=>.inr G),h.MR.kept hg (Js h.MR E),μ h.sz hg.size⟩
theorem LzO.mput {E:Nat} {G:Nat × Nat->Option Nat} (h:LzO W Bo gW bI bR vc cnt l f go co vnx vs N av) (hb:bR≠bI) (H:IsMp W' 134 stK bI E G) (hg:W.grownBy W' (J bI)):LzO W' Bo gW bI bR vc E l G go co vnx vs N av:=
 ⟨H,h.L.kept hg (h.mp.far h.L),Du hg (Nw h.mp) h.D,h.Nx.kept hg (h.mp.far h.Nx),h.V.kept hg (λv l T _=>h.mp.far T),h.MR.kept hg (λe=>hb (ό e)),μ h.sz hg.size⟩
theorem LzO.app {y:Nat × Nat} {E G:Nat} (h:LzO W Bo gW bI bR vc cnt l f go co vnx vs N av) (hg:W.grownBy W' (Ϗ (J ⟨go,0,I⟩) l.length co).ownBlock) (H:W'.ownsRow Bo 134 2 (U (J ⟨E,0,I⟩) (l.length+1) G) (l.length+1) (flK l++Gh y)):LzO W' Bo gW bI bR vc cnt (l++[y]) f E G vnx vs N av where
 mp:=h.mp.kept hg (h.mp.ne_row h.L)
 L:=by show ϥ _ _ _ _ _ _ _;rw[Ν,TF,TD];exact H
 D:=(hg.block gW (Al h.D) (Fh h.L h.D (by decide))).trans h.D
 Nx:=h.Nx.kept hg (Aj h.Nx h.L (by decide))
 V:=h.V.kept hg (λv l T _=>Aj T h.L (by decide))
 MR:=h.MR.kept hg (Js h.MR h.L)
 sz:=μ h.sz hg.size
theorem LzO.keptN (h:LzO W Bo gW bI bR vc cnt l f go co vnx vs N av) (hg:W.grownBy W' vnx.ownBlock):IsMp W' 134 stK bI cnt f/\Ks W' Bo (U (J ⟨go,0,I⟩) l.length co) l/\W'.heap[gW]? = J (Β #[vc,vnx] 128 (0,0))/\RowsO W' Bo vs N av/\IsMv W' 3 iv bR 0 (λ_=>I)/\Bo<=W'.heap.size:=
 ⟨h.mp.kept hg (h.mp.ne_row h.Nx),h.L.kept hg (Aj h.L h.Nx (by decide)),(hg.block gW (Al h.D) (Fh h.Nx h.D (by decide))).trans h.D,h.V.kept hg (λv l E _=>Aj E h.Nx (by decide)),h.MR.kept hg (Js h.MR h.Nx),μ h.sz hg.size⟩
theorem LzO.row {gr m c:Nat} {r:List Nat} {G:Δ} {H:List Δ} (h1:IsMp W 134 stK bI cnt f) (T:Ks W Bo (U (J ⟨go,0,I⟩) l.length co) l) (E:W.heap[gW]? = J (Β #[vc,vnx] 128 (0,0))) (h4:RowsO W Bo vs N (λo=>o=J gr)) (X:IsMv W 3 iv bR 0 (λ_=>I)) (h6:Bo<=W.heap.size)
  (hQ:W.ownsRow Bo 3 1 (U (J ⟨gr,0,I⟩) m c) m (r.map iv)) (hr:r.length=m) (hN:W.ownsRow Bo 54 1 G H.length H) (ag:H=vs++[U (J ⟨gr,0,I⟩) m c]) :
  LzO (W.setRow gW #[vc,G]) Bo gW bI bR vc cnt l f go co G H (N++[r]) (λ_=>False):=by
 have hg:=Cc W gW #[vc,G];refine⟨h1.kept hg (λe=>?_),T.kept hg (B3 T E (by decide)),Χ W gW _ _ _ _ E,hN.kept hg (B3 hN E (by decide)),?_,X.kept hg (λe=>?_),μ h6 hg.size⟩
 ·obtain⟨es,c',hb⟩:=Nw h1;injection e with e
  rw[e,E] at hb;cases hb
 ·rw[ag];have h7:OwnI W Bo (U (J ⟨gr,0,I⟩) m c) r:=by show W.ownsRow Bo 3 1 _ r.length _;rw[hr];exact hQ
  exact ((h4.av (av':=λ_=>False) (λ_ _ _ _ h=>h)).snoc h7 (λh=>h)).kept hg (λv l ho _=>B3 ho E (by decide))
 obtain⟨es,c',hb⟩:=X.block;injection e with e
 rw[e,E] at hb;cases hb
end
def Rg (E G:Array Δ) (a b:Dfa):Nat->Δ->Γ->Prop
 | 0,v,_=>v=.agg E
 | 1,v,W=>∃ g,v=ε (J ⟨g,0,I⟩)/\MachAt W g a
 | 2,v,_=>v=.agg G
 | 3,v,W=>∃ g,v=ε (J ⟨g,0,I⟩)/\MachAt W g b
 | 4,v,W=>∃ g,v=ε (J ⟨g,0,I⟩)/\MachAt W g a
 | _,v,W=>∃ g,v=ε (J ⟨g,0,I⟩)/\MachAt W g b
theorem PW (H T:Array Δ) (a b:Dfa):∀ (i:Nat) (v:Δ) (w w':Γ),Rg H T a b i v w->Ext w w'->Rg H T a b i v w'
 | 0,_,_,_,h,_=>h
 | 1,_,_,_,⟨g,h1,E⟩,G=>⟨g,h1,E.ext G⟩
 | 2,_,_,_,h,_=>h
 | 3,_,_,_,⟨g,h1,E⟩,G=>⟨g,h1,E.ext G⟩
 | 4,_,_,_,⟨g,h1,E⟩,G=>⟨g,h1,E.ext G⟩
 | _+5,_,_,_,⟨g,h1,E⟩,G=>⟨g,h1,E.ext G⟩
def LazOut (W:Γ) (e:Ending) (a b:Dfa):Prop:=
 (∃ os v,e=Ψ (ϗ #[v,.int Φ 0])/\OptsOf Α (wd1 a) (wd1 b) os/\(os.length<=65536/\∀ o∈os,o.head.n.length<=64/\o.rest.n.length<=64)/\OpsV W v os)\/
 (e=Ψ (ϗ #[U I 0 0,.int Φ 2])/\I6 a b)
theorem PU (a b:Dfa) (ha:Cano a) (hb:Cano b) (j7:a.n.length<=64) (j8:b.n.length<=64) (va vb:Δ) (w:Γ) (hT:Tab w) (gl:0<w.heap.size) (gm:IsD w va a) (fa:IsD w vb b) :
  ϛ Η 31 #[va,vb] w λe w'=>LazOut w' e a b/\Ext w w':=by
 have kb:=Z (λW (hW:Ext w W)=>hT.below hW.below gl);have cv:=Z ha;have ao:=Z hb;have kc:=Z gm;have gn:=Z fa;have oz:=Z j7;have cl:=Z j8;obtain⟨bc,oc,cc,bn,on,cn,ba,oa,ca,rfl,hC,hR,kg⟩:=gm.opened ha.val;obtain⟨pa,pb,pc,kh,ki,kj,pd,pe,pf,rfl,-,-,-⟩:=fa.opened hb.val;have HA:=Z kg;have pg:=ha.val.pos;obtain⟨i0,hi,pj,pk,pn⟩:=ϓ Dw;obtain⟨k0,hk,pr,pt,px⟩:=ϓ L6;obtain⟨j0,hj,kl,km,kn⟩:=ϓ RF;obtain⟨n,fb⟩:=Xq (a.n.length);obtain⟨nb,fc⟩:=Xq (b.n.length);have HN:=Z fb;have dz:=Z fc;rw[fb] at j7 HA;rw[fc] at j8;obtain⟨Va,ea⟩:=Xq (dA (U (J ⟨bc,oc,I⟩) a.cls.length cc) (U (J ⟨bn,on,I⟩) a.n.length cn) (U (J ⟨ba,oa,I⟩) a.n.length ca));obtain⟨Vb,eb⟩:=Xq (dA (U (J ⟨pa,pb,I⟩) b.cls.length pc) (U (J ⟨kh,ki,I⟩) b.n.length kj) (U (J ⟨pd,pe,I⟩) b.n.length pf));have py:(Η.info? 40).map (·.size)=J Va.size:=by rw[<-ea];exact Ae
 have kq:(Η.info? 40).map (·.size)=J Vb.size:=by rw[<-eb];exact Ae
 have kr:Va[2]? = J (U (J ⟨ba,oa,I⟩) n ca):=by rw[<-ea,<-fb];rfl
 have ks:Vb[1]? = J (U (J ⟨kh,ki,I⟩) nb kj):=by rw[<-eb,<-fc];rfl
 rw[ea] at kc;rw[eb] at gn;rw[ea,eb];clear ea eb hT ha hb gm fa hC hR kg fb fc pg;have gq:=((Κ w).alloc (Β Va 40)).alloc (Β Vb 40);have H2:=Ah (Ad w (Β Va 40)) (Β Vb 40);have H3:=ϒ w (Β Va 40) (Β Vb 40);have gu:=@run_makeMap Η;go_enter Tryz.func31,Tryz.ntmps31;go_upto_region 1 with (fail)
 obtain⟨w0,cm⟩:=Xq ((w.alloc (Β Va 40)).alloc (Β Vb 40));rw[cm] at gq H2 H3;simp only[cm];clear cm;have ec:=Z gq;have kt:=Z (λV (hV:Ext w0 V)=>(Τ V w.heap.size 2 _ _ _ (hV.heap H2)).trans kr);have pz:=Z (λV (hV:Ext w0 V)=>(Τ V (w.heap.size+1) 1 _ _ _ (hV.heap H3)).trans ks);have p0:=Z (λV (hV:Ext w0 V)=>hV.heap H2);have ku:=Z (λV (hV:Ext w0 V)=>hV.heap H3);clear H2 H3 gq ks kr;refine Ia 4 171 (by kernel_rfl) (by kernel_rfl) rfl (Rg Va Vb a b) Hk Jr (PW _ _ _ _) (λi p1=>?_) (λvs w2 fg hF hN=>?_)
 ·have fh:=(Κ w0).drew
  match i,p1 with
  | 0,_=>
   refine Ap _ _ rfl rfl rfl λc W hW ee ef=>?_
   have h3:c.tmps.getD 2 undef=ε (J ⟨w.heap.size,0,I⟩):=ef 2 (by kernel_rfl);refine Cr (Em 40 (δ 2) rfl w.heap.size h3 _ _ _ _ (p0.o W (fh.t hW)) Ο rfl py) ?_;exact⟨_,rfl,Κ W,rfl,λ_ _ _ _ _=>trivial⟩
  | 1,_=>
   refine Ap _ _ rfl rfl rfl λc W hW ee ef=>?_
   have h3:c.tmps.getD 25 undef=.agg Va:=ee 0 25 (by kernel_rfl);have f111:=Q5 a cv.o.val (.agg Va) W (kc.o.ext (ec.o.t (fh.t hW)));go_simp
   (with_reducible refine f111.mono ?_)
   rintro e W' ⟨g,rfl,hM,gv⟩;exact⟨_,rfl,gv,⟨g,rfl,hM⟩,λ_ _ _ _ _=>trivial⟩
  | 2,_=>
   refine Ap _ _ rfl rfl rfl λc W hW ee ef=>?_
   have h3:c.tmps.getD 3 undef=ε (J ⟨w.heap.size+1,0,I⟩):=ef 3 (by kernel_rfl);refine Cr (Em 40 (δ 3) rfl (w.heap.size+1) h3 _ _ _ _ (ku.o W (fh.t hW)) Ο rfl kq) ?_;exact⟨_,rfl,Κ W,rfl,λ_ _ _ _ _=>trivial⟩
  | 3,_=>
   refine Ap _ _ rfl rfl rfl λc W hW ee ef=>?_
   have h3:c.tmps.getD 27 undef=.agg Vb:=ee 2 27 (by kernel_rfl);have f111:=Q5 b ao.o.val (.agg Vb) W (gn.o.ext (ec.o.t (fh.t hW)));go_simp
   (with_reducible refine f111.mono ?_)
   rintro e W' ⟨g,rfl,hM,gv⟩;exact⟨_,rfl,gv,⟨g,rfl,hM⟩,λ_ _ _ _ _=>trivial⟩
 have kv:vs 0=.agg Va:=hF 0 (by omega);obtain⟨ga,ky,gw⟩:∃ g,vs 1=ε (J ⟨g,0,I⟩)/\MachAt w2 g a:=hF 1 (by omega);have kz:vs 2=.agg Vb:=hF 2 (by omega);obtain⟨gb,k9,gz⟩:∃ g,vs 3=ε (J ⟨g,0,I⟩)/\MachAt w2 g b:=hF 3 (by omega);simp only[Bq,Ä,ϰ,kv,ky,kz,k9,List.getElem?_toArray,Å,List.getElem?_cons_succ,Option.bind_some,η,Θ,Μ,Λ];clear hF hN kv ky kz k9;have la:=(Κ w0).drew.t fg;have p3:=Z (λV (hV:Ext w2 V)=>gw.ext hV);have lb:=Z (λV (hV:Ext w2 V)=>gz.ext hV);have f151:=Z (EP a b cv.o.val ao.o.val ga gb w2 gw gz);clear gw gz fg;go_upto_region 2 with (fail)
 go_upto_region 3 with (first
  | (go_at_call 58;(with_reducible refine f151.o.mono ?_);rintro e wJ ⟨vc,vb,C,bs,rfl,hh,hP,lg,hJ,lj,lk⟩;obtain⟨ac,au,rfl⟩:=Sl.len hh;obtain⟨ab,bb,ob,cb,rfl,ll,ln⟩:=lj.split;have lo:=Z hh;have HP:=Z hP;have lq:=Z lg;have HJ:=Z hJ;have lr:=Z ll;have lu:=Z ln;have fj:=Z lk;clear hh hP lg hJ ll ln lk lj)
  | (refine Sr 128 (δ 8) (δ 33) rfl (Ad wJ (Β #[U I 0 0,U I 0 0] 128)) Fv rfl (by simp[ξ]) ?_))
 clear f151;have lv:0<bs.length:=by have:=HJ.o.lt 0 (by omega);omega
 have p6:bs.length<=256:=by have h1:=HP.o.le;rw[lq.o] at h1;exact h1
 obtain⟨m,hm⟩:=Xq (bs.length);obtain⟨lc,fk⟩:=Xq (C.length);have fl:(bs.map ώ).length=m:=by rw[ι,hm]
 have HM:=Z hm;have rv:=Z fk;have p7:=lr.o (by rw[fl,<-hm];exact lv);subst p7;have p8:=Z (λV (hV:Ext wJ V) k (dp:k<m)=>show V.cell? ⟨bb,ob+k,I⟩=J (bv (ώ (bs.getD k 0))) from by
  have h:=hV.cell (lu.o k (by rw[fl];exact dp));rw[h]
  congr 2
  rw[Ζ,ν,Ι (by rw[hm];exact dp),Ζ,Ι (by rw[hm];exact dp)];rfl)
 have hp:=Z (λk (dp:k<m)=>(HJ.o.byte k (by rw[hm];exact dp)).1);rw[fk] at lo;rw[hm] at lv p6;simp only[fl,hm,fk];clear fl hm fk lr lu;have lx:=la.t fj.o;have cw:=Z lx;have hs:=((Κ wJ).alloc (Β #[U I 0 0,U I 0 0] 128)).setRow (Υ _) #[U ac lc au,U I 0 0];have ht:=Χ (wJ.alloc (Β #[U I 0 0,U I 0 0] 128)) wJ.heap.size _ #[U ac lc au,U I 0 0] _ _ (Ad wJ _);have fm:((wJ.alloc (Β #[U I 0 0,U I 0 0] 128)).setRow wJ.heap.size #[U ac lc au,U I 0 0]).heap.size=wJ.heap.size+1:=by rw[size_setRow,Ρ]
 obtain⟨wW,hz⟩:=Xq ((wJ.alloc (Β #[U I 0 0,U I 0 0] 128)).setRow wJ.heap.size #[U ac lc au,U I 0 0]);rw[hz] at hs ht fm;simp only[hz];clear hz la lx;have eg:=It wW 134 stK;have h7:=hs.alloc (.map #[] 0);have eh:=Ah ht (.map #[] 0);have h8:(wW.alloc (.map #[] 0)).heap.size=wJ.heap.size+1+1:=by rw[Ρ,fm]
 rw[fm] at eg;obtain⟨gW,h9⟩:=Xq (wJ.heap.size);obtain⟨wb,ly⟩:=Xq (wW.alloc (.map #[] 0));rw[ly] at eg h7 eh h8;rw[h9] at eg eh h8;have l3:=Pw (0,0) (by decide) (by decide);have ei:=Z CE;go_upto_region 4 with (first
  | (refine Bk rfl 134 _ rfl #[.int Φ 0,.int ζ 0] ?_ ?_;(simp;with_reducible exact ei.o))
  | (refine Ud rfl _ _ _ 135 rfl Is Tryz.underlying135 rfl eg (by unfold ϐ;omega) Px (0,0) rfl l3 0 rfl (by omega) ?_;intro wc l4 fo))
 clear gu ly eg ei fm;have l5:=h7.grown fo (λk e=>by injection e;omega);have l6:=(fo.block gW (Al eh) (by simp)).trans eh;have l7:gW+2<=wc.heap.size:=by have:=fo.size;omega
 clear fo eh h7 h8 hs ht;have ei:=Z CE;go_upto_region 5 with (refine Bk rfl 134 _ rfl #[.int Φ 0,.int ζ 0] ?_ ?_;(simp;with_reducible exact ei.o))
 have ia:=l5.alloc (Β #[.int Φ 0,.int ζ 0] 134);have ib:=Ah l6 (Β #[.int Φ 0,.int ζ 0] 134);have fp:=l4.alloc (Β #[.int Φ 0,.int ζ 0] 134);have fs:Ks (wc.alloc (Β #[.int Φ 0,.int ζ 0] 134)) (gW+2) (U (J ⟨wc.heap.size,0,I⟩) 1 1) [(0,0)]:=Γ.ownsRow_lit (base:=gW+2) (e:=134) (size:=2) wc #[.int Φ 0,.int ζ 0] 1 l7 (by unfold ϐ;omega) rfl;obtain⟨dq,ft⟩:=Xq (wc.alloc (Β #[.int Φ 0,.int ζ 0] 134));have p9:gW+2<=dq.heap.size:=by rw[<-ft,Ρ];omega
 obtain⟨l8,ic⟩:=Xq (wc.heap.size);rw[ft] at ia ib fp fs;rw[ic] at fs;simp only[ft,ic];clear ft ic ei l5 l6 l4 l7 l3;have l9:=Rl dq 3 iv;have qa:=fp.lt;have gu:=@run_makeMap Η;have ie:=ia.alloc (.map #[] 0);have hO:LzO (dq.alloc (.map #[] 0)) (gW+2) gW (gW+1) dq.heap.size (U ac lc au) 1 [(0,0)] (λx=>if x=(0,0) then J 0 else I) l8 1 (U I 0 0) [] [] (λ_=>False):=
  ⟨fp.alloc _,fs.alloc _,Ah ib _,À _ _ _ _,⟨rfl,λj hj=>by simp at hj⟩,l9,by rw[Ρ];omega⟩
 obtain⟨bR,ig⟩:=Xq (dq.heap.size);have rz:gW+2<=bR:=by omega
 have ma:bR≠gW+1:=by omega
 go_upto_region 6 with (fail)
 clear gu;obtain⟨we,ih⟩:=Xq (dq.alloc (.map #[] 0));rw[ih] at ie hO;rw[ig] at hO;simp only[ih,ig];clear ih ig l9 qa ia ib fp fs p9;have mc:=Z hO;have ij:=Z h9;clear hO h9;go_wp2_with (fail);go_loopw [11,13] (λvo vi W=>∃ (i:Nat) (l:List (Nat × Nat)) (f:Nat × Nat->Option Nat) (N:List (List Nat)) (vs:List Δ) (go co:Nat) (vnx:Δ),i<=l.length/\l.length<=4096/\vi=.int Φ i/\vo=U (J ⟨go,0,I⟩) l.length co/\Ext wJ W/\ϟ (LzO W (gW+2) gW (gW+1) bR (U ac lc au) l.length l f go co vnx vs N (λ_=>False))/\ϟ (EInv bs (0,0) (lnx a b) i 0 l f N (θ bs.length 0)))
  (λ_ vi _=>4096-(intOf vi).toNat)
 case atStart=>exact⟨0,[(0,0)],_,[],[],l8,1,_,by omega,by simp,rfl,rfl,ie,mc,Z (AE bs (0,0) (lnx a b) _ (by simp))⟩
 clear ie mc;obtain⟨i,l,f,N,vs,go,co,vnx,r2,qb,rfl,rfl,E,HO,HI⟩:=hrel;by_cases me:i<l.length
 ·obtain⟨wo,qc⟩:∃ W,W=wr:=⟨_,rfl⟩;subst qc;obtain⟨⟨p,S⟩,cp⟩:∃ s,l[i]? = J s:=⟨l[i],by simp[me]⟩;have fu:=Z cp;obtain⟨dt,ek⟩:p<a.n.length/\S<2 ^ b.n.length:=by obtain⟨u,hu⟩:=HI.o.reach (p,S) (List.mem_of_getElem? cp);have h:=Yg cv.o.val ao.o.val u;rw[hu] at h;exact h
  have mf:=Z dt;have il:S<18446744073709551616:=Ξ ek (Ϲ (by omega) cl.o);have im:p<n:=by rw[<-HN.o];exact dt
  clear cp dt ek;go_upto_region 10 with (at_make;refine Ϟ _ rfl _ _ 54 rfl (gW+2) 3 i0 (.int Φ 0) 1 Tryz.underlying54 hi pj pk Φ Φ _ _ m rfl rfl rfl rfl (by rw[pn];omega) (by unfold ϐ;omega) HO.o.sz ?_;intro w5 mg ir)
  have ae:=E.grown ir (λk e=>by cases e);have iu:w5.ownsRow (gW+2) 3 1 (U (J ⟨wo.heap.size,0,I⟩) m m) m ((θ m 0).map iv):=by rw[<-B8];exact mg
  have mh:=Z ((HO.o.avs (av':=λo=>o=J wo.heap.size) (λv l ho r4 e=>by have:=(ho.lt _ e).2;omega)).ext ((Κ wo).grown ir (λk e=>by cases e)))
  have r5:=(iu.lt wo.heap.size rfl).1;generalize wo.heap.size=gr at *;clear mg ir HO E;go_wp2_with (fail);go_loopw [11,52] (λvo vi W=>∃ (k:Nat) (G:List (Nat × Nat)) (f2:Nat × Nat->Option Nat) (r:List Nat) (b0 cy:Nat),k<=m/\G.length<=4096+k/\vi=.int Φ k/\vo=U (J ⟨b0,0,I⟩) G.length cy/\Ext wJ W/\ϟ (LzO W (gW+2) gW (gW+1) bR (U ac lc au) G.length G f2 b0 cy vnx vs N (λo=>o=J gr))/\W.ownsRow (gW+2) 3 1 (U (J ⟨gr,0,I⟩) m m) m (r.map iv)/\ϟ (EInv bs (0,0) (lnx a b) i k G f2 N r/\i<G.length/\∀ j,j<=i->G[j]? = l[j]?))
   (λ_ vi _=>m-(intOf vi).toNat)
  case atStart=>exact⟨0,l,f,_,go,co,by omega,by omega,rfl,rfl,ae,mh,iu,Z ⟨by have h:=HI.o;rw[HM.o] at h;exact h,me,λ_ _=>rfl⟩⟩
  clear ae mh iu;obtain⟨k,G,f2,r,b0,cy,dp,r6,rfl,rfl,E,HO,hQ,aq⟩:=hrel;have b4:ϟ (r.length=m):=Z (by rw[<-HM.o];exact aq.o.1.lenr);have qd:=aq.o.2.1;have eo:ϟ (G[i]? = J (p,S)):=Z (by rw[aq.o.2.2 i (Υ _)];exact fu.o);obtain⟨wq,qe⟩:∃ W,W=wr:=⟨_,rfl⟩;subst qe;by_cases bq:k<m
  ·have cb:=p8.o wq E k bq;obtain⟨x,ix⟩:=Xq (ώ (bs.getD k 0));have mi:ϟ (x.toNat=bs.getD k 0):=Z (by rw[<-ix];exact u8n _ (hp.o k bq));rw[ix] at cb;clear ix;have du:=x.toNat_lt;obtain⟨s0,s1⟩:=U6 HO.o.L i (p,S) eo.o;replace s0:wq.cell? ⟨b0,i*2,I⟩=J (iv p):=s0;replace s1:wq.cell? ⟨b0,i*2+1,I⟩=J (.int ζ (S:Int)):=s1;have mj:=Z s1;have ml:=Z s0;have f152:=Z (K3 a cv.o.val ga p mf.o x wq (p3.o wq (fj.o.t E)));obtain⟨p',iy⟩:=Xq (a.stp p x.toNat);have iz:=Z iy;rw[iy] at f152;clear iy s1;have mm:=Z (XI (p':Int));go_upto_region 14 with (first
    | (go_at_call 59;(with_reducible refine f152.o.mono ?_);rintro e w6 ⟨rfl,a8⟩)
    | (refine Bk rfl 134 _ rfl #[iv p',.int ζ 0] ?_ ?_;(simp;with_reducible exact mm.o))
    | (refine wpList_store_row rfl 134 (δ 17) (δ 65) rfl _ #[iv p',.int ζ 0] rfl rfl _ _ (Ad w6 (Β #[.int Φ 0,.int ζ 0] 134)) Gp rfl (U9 (p',0)) ?_))
   clear f152 mm s0 cb;have mo:=Z (HO.o.ext a8);have mq:=Z (Aa hQ a8);have c5:=E.t a8;have qf:=Z (a8.cell mj.o);have qg:=Z (a8.cell ml.o);have c6:=((Κ w6).alloc (Β #[.int Φ 0,.int ζ 0] 134)).setRow (Υ _) #[iv p',.int ζ 0];have fv:=Χ (w6.alloc (Β #[.int Φ 0,.int ζ 0] 134)) w6.heap.size _ #[iv p',.int ζ 0] _ _ (Ad w6 _);obtain⟨w7,ja⟩:=Xq ((w6.alloc (Β #[.int Φ 0,.int ζ 0] 134)).setRow w6.heap.size #[iv p',.int ζ 0]);obtain⟨H,jb⟩:=Xq (w6.heap.size);have mr:w6.heap.size<=H:=by omega
   rw[ja] at c6 fv;simp only[ja];rw[jb] at fv;simp only[jb];clear ja jb ml mj HO hQ E a8;have mu:ϟ (w7.heap[H]? = J (Β #[iv p',.int ζ (B9 b S x.toNat 0:Nat)] 134 (0,0))):=Z fv;clear fv;have k1:=pz.o w7 (cw.o.t (c5.t c6));go_wp2_with (fail);clear k1;go_loopw [69] (λvi W=>∃ q:Nat,q<=nb/\vi=.int Φ q/\Ext w6 W/\ϟ (W.heap[H]? = J (Β #[iv p',.int ζ (B9 b S x.toNat q:Nat)] 134 (0,0))))
    (λvi _=>nb-(intOf vi).toNat)
   case atStart=>exact⟨0,by omega,rfl,c6,mu⟩
   clear c6 mu;obtain⟨q,r7,rfl,E,HY⟩:=hrel;by_cases mv:q<nb
   ·have r8:(q:Int)<(nb:Int):=by omega
    have r9:(q:Int)<64:=by omega
    have s1:=E.cell qf.o;have fw:=P5 S q il;obtain⟨bt,mw⟩:=Xq (S.testBit q);have ep:=Z (show B9 b S x.toNat (q+1)=if S.testBit q=Α then B9 b S x.toNat q ||| 2 ^ b.stp q x.toNat else B9 b S x.toNat q from by rw[B9]);rw[mw] at fw ep;clear mw;have qi:B9 b S x.toNat q<18446744073709551616:=Ξ (Oc ao.o.val S x.toNat du q (by rw[dz.o];omega)) (Ϲ (by omega) cl.o);have my:(0:Int)<=(S:Int):=by omega
    have mz:(S:Int)<18446744073709551616:=by omega
    cases bt with
    | false=>
     generalize (S:Int)=qj at s1 fw my mz;go_wp2_with (fail);go_roundw
     case rel=>exact⟨q+1,by omega,by go_num,E,by rw[ep.o];exact HY⟩
     simp[intOf]<;>omega
    | true=>
     have f152:=λ(e:EW wr)=>Z (K3 b ao.o.val gb q (by rw[dz.o];exact mv) x e.W (lb.o e.W (fj.o.t (c5.t (E.t e.ext)))))
     have hr:=ao.o.val.stp_lt (show q<b.n.length by rw[dz.o];exact mv) du;obtain⟨rr,et⟩:=Xq (b.stp q x.toNat);rw[et] at hr ep f152;clear et;have jc:rr<64:=by have:=cl.o;omega
     have qk:(rr:Int)<=64:=by omega
     have ql:=Z (show B9 b S x.toNat (q+1)=B9 b S x.toNat q ||| 2 ^ rr from ep.o.trans (if_pos rfl));clear ep hr;have eu:=Z (Ns (B9 b S x.toNat q) rr qi jc);generalize jd:B9 b S x.toNat q=cu at *;clear jd;generalize (S:Int)=qj at s1 fw my mz;go_upto_region 18 with (fail)
     clear s1 fw;have co:=Aw (Τ wr H 1 _ _ _ HY.o);replace co:∀ e:EW wr,e.W.cell? ⟨H,1,I⟩=J (.int ζ (cu:Nat)):=co;refine Jk 9 (by kernel_rfl) (by kernel_rfl) ?_;simp only[ú,List.take_zero,Ä,ϰ];iterate 9 (with_reducible refine Ϧ (λK hK=>?_);go_simp;first|(refine hK _ ?_;clear hK K)|(apply Exists.intro;refine⟨λ_=>?_,hK _ ?_⟩;(with_reducible exact Ev (f152 _).o);clear hK K))
     refine ϵ ?_;rintro _ ⟨e,rfl⟩;have ae:=E.t e.ext;have bd:=Z (e.ext.heap HY.o);clear f152 co E HY;obtain⟨w8,an⟩:=Xq (e.W);rw[an] at ae bd;simp only[an];clear an;have k8:w8.cell? ⟨H,1,I⟩=J (.int ζ (cu:Nat)):=Τ w8 H 1 _ _ _ bd.o;have f8:=È w8 H 1 _ _ bd.o;have c8:w8.setCell ⟨H,1,I⟩ (.int ζ ((cu ||| 2 ^ rr:Nat):Int))=w8.setRow H #[iv p',.int ζ ((cu ||| 2 ^ rr:Nat):Int)]:=by rw[Ϭ w8 _ _ _ _ _ _ bd.o];rfl
     have qm:ϟ (Ext w6 (w8.setCell ⟨H,1,I⟩ (.int ζ ((cu ||| 2 ^ rr:Nat):Int)))):=Z (by rw[c8];exact ae.setRow mr _);have c9:ϟ ((w8.setCell ⟨H,1,I⟩ (.int ζ ((cu ||| 2 ^ rr:Nat):Int))).heap[H]? = J (Β #[iv p',.int ζ ((cu ||| 2 ^ rr:Nat):Int)] 134 (0,0))):=Z (by rw[c8];exact Χ w8 H _ _ _ _ bd.o);clear c8 ae bd;go_wp2_with (fail);go_roundw
     case rel=>exact⟨q+1,by omega,by go_num,by rw[eu.o];exact qm.o,by rw[eu.o,ql.o];exact c9⟩
     simp[intOf]<;>omega
   obtain rfl:nb=q:=by omega
   have qo:(p:Int)<(n:Int):=by omega
   have c2:=Aw (kt.o wr (cw.o.t (c5.t E)));have c3:=Aw ((ec.o.t (cw.o.t (c5.t E))).cell (HA.o p im));have c4:=Aw (E.cell qg.o);obtain⟨fx,da⟩:=Xq (a.ok p);rw[da] at c3;have fy:=Z da;clear da;go_upto_region 20 with (fail)
   refine B2 (by kernel_rfl) (by kernel_rfl) ?_;iterate 9 (with_reducible refine Ϧ (λK hK=>?_);go_simp;(refine hK _ ?_;clear hK K))
   refine ϵ ?_;rintro _ ⟨e,rfl⟩;have ae:=E.t e.ext;have bd:=Z (e.ext.heap HY.o);clear c2 c3 c4 E HY;obtain⟨w5,bk⟩:=Xq (e.W);rw[bk] at ae bd;simp only[bk];clear bk;have je:wJ.heap.size<=gW:=Ô ij.o;have qq:ϟ (Ey a b p S x.toNat<18446744073709551616):=Z (Ξ (N5 ao.o.val p S x.toNat du) (Ϲ (by omega) cl.o));have nc:ϟ (p'<9223372036854775808):=Z (by have h:=cv.o.val.stp_lt mf.o du;rw[iz.o] at h;have:=oz.o;omega)
   have fz:B9 b S x.toNat nb<18446744073709551616:=Ξ (Oc ao.o.val S x.toNat du nb (by rw[dz.o];exact Υ _)) (Ϲ (by omega) cl.o);have dw:ϟ (Ey a b p S x.toNat=if fx=Α then B9 b S x.toNat nb ||| 2 ^ b.stp 0 x.toNat else B9 b S x.toNat nb):=Z (by rw[<-fy.o,<-dz.o,Ey]);generalize jd:B9 b S x.toNat nb=cu at *;clear jd;cases fx with
   | false=>
    obtain⟨y,bl⟩:=Xq ((p',cu));have db:ϟ (lnx a b (p,S) (bs.getD k 0)=y):=Z (by rw[<-mi.o,<-bl];show (a.stp p x.toNat,Ey a b p S x.toNat)=_;rw[iz.o,dw.o];rfl)
    have dc:=Pw y (by rw[<-bl];exact nc.o) (by rw[<-bl];exact fz);have b6:ϟ (w5.heap[H]? = J (Β #[iv y.1,.int ζ (y.2:Int)] 134 (0,0))):=Z (by rw[<-bl];exact bd.o);obtain⟨w8,an⟩:∃ W,W=w5:=⟨_,rfl⟩;subst an;have T:=ae;clear bl bd ae fz dw;have be:=mo.o.ext T;have a1:=Aa mq.o T;have bf:=c5.t T;clear T;cases hf:f2 y with
    | some v=>
     have dd:=Z (So aq.o.1 (by rw[HM.o];exact bq) eo.o v (by rw[db.o];exact hf));have cq:=Au 0 a1 b4.o.symm k (by rw[b4.o];exact bq);have fq:=a1.frozenAt k;obtain⟨b8,ah⟩:=Ba a1 k v;have b9:=bf.grown ah (λk e=>by injection e;omega);have cd:=Z (be.keptQ a1 ah);have X:=be.mp;clear ah a1 be bf;go_wp2_with (first
      | (refine Lr 134 (δ 17) b6.o Tryz.underlying134 Gp ?_)
      | (at_lookup;refine D0 rfl _ _ 135 rfl Is Tryz.underlying135 rfl X y rfl dc ?_;rw[hf];dsimp only [ñ,Option.getD]))
     go_roundw
     case rel=>exact⟨k+1,G,f2,r.set k v,b0,cy,by omega,by omega,by go_num,rfl,b9,cd,b8,Z ⟨dd.o,aq.o.2⟩⟩
     simp[intOf]<;>omega
    | none=>
     have de:=Ss aq.o.1 (by rw[HM.o];exact bq) (λq hq=>hp.o q (by rw[<-HM.o];exact hq)) eo.o (by rw[db.o];exact hf);rw[db.o] at de;have dd:=Z de;clear de;have X:=be.mp;have ct:=Z be;have df:=Z a1;clear be a1;go_upto_region 26 with (first
      | (refine Lr 134 (δ 17) b6.o Tryz.underlying134 Gp ?_)
      | (at_lookup;refine D0 rfl _ _ 135 rfl Is Tryz.underlying135 rfl X y rfl dc ?_;rw[hf];dsimp only [ñ,Option.getD])
      | (at_mapUpdate;refine G0 rfl _ _ _ 135 rfl Is Tryz.underlying135 rfl X (by unfold ϐ;omega) Px y rfl dc G.length rfl (by omega) ?_;intro w9 ew ah))
     have cf:=ct.o.mput ma ew ah;have b8:=df.o.kept ah (X.far df.o);have b9:=bf.grown ah (λk e=>by injection e;omega);have c9:=Z (Du ah (Nw X) b6.o);have cg:=cf.L;have ji:=cf.sz;have cd:=Z cf;have dg:=Z b8;clear ah ew X ct df b6 bf cf b8;go_upto_region 27 with (first
      | (refine Lr 134 (δ 17) c9.o Tryz.underlying134 Gp ?_)
      | (at_builtin;refine Ϙ _ rfl _ _ 136 rfl (gW+2) 134 j0 (.agg #[.int Φ 0,.int ζ 0]) 2 16 Tryz.underlying136 hj kl km kn rfl (by decide) _ _ _ rfl (cg.alloc _) _ 1 1 (Gh y) rfl rfl (Γ.news_of_block (Ad w9 _)) (by simp[Gh,ξ]) (by decide) (by unfold ϐ;omega) (by omega) (by rw[Ρ];omega) _ rfl ?_;intro jj jk qs ey cj _ _))
     have al:=(Κ w9).alloc (Β #[iv y.1,.int ζ (y.2:Int)] 134);have ez:=(cd.o.ext al).app cj ey;have bm:=(Aa dg.o al).kept cj (Aj (Aa dg.o al) (Aa cg al) (by decide));have e0:=(b9.t al).grown cj (λk e=>by have:=(cg.lt k e).1;omega);clear cj al cg ji cd dg c9 b9 ey;have cq:=Au 0 bm b4.o.symm k (by rw[b4.o];exact bq);have fq:=bm.frozenAt k;obtain⟨jl,dh⟩:=Ba bm k G.length;have jm:=e0.grown dh (λk e=>by injection e;omega);have jn:=Z (ez.keptQ bm dh);clear dh bm ez e0;go_wp2_with (fail);go_roundw
     case rel=>
      refine⟨k+1,G++[y],_,r.set k G.length,jj,jk,by omega,by rw[Ν];simp;omega,by go_num,by rw[Ν];rfl,jm,?_,jl,Z ⟨dd.o,?_,λj hj=>?_⟩⟩
      ·rw[Ν];exact jn
      ·rw[Ν];have:=aq.o.2.1;omega
      rw[χ (by have:=aq.o.2.1;omega)];exact aq.o.2.2 j hj
     case measure=>simp[intOf]<;>omega
   | true=>
    have f152:=λ(e:EW w5)=>Z (K3 b ao.o.val gb 0 ao.o.val.pos x e.W (lb.o e.W (fj.o.t (c5.t (ae.t e.ext)))))
    have hr:=ao.o.val.stp_lt ao.o.val.pos du;obtain⟨rr,et⟩:=Xq (b.stp 0 x.toNat);rw[et] at hr dw f152;clear et;have jc:rr<64:=by have:=cl.o;omega
    have qk:(rr:Int)<=64:=by omega
    clear hr;have eu:=Z (Ns cu rr fz jc);go_upto_region 21 with (fail)
    have co:=Aw (Τ w5 H 1 _ _ _ bd.o);replace co:∀ e:EW w5,e.W.cell? ⟨H,1,I⟩=J (.int ζ (cu:Nat)):=co;refine Jk 8 (by kernel_rfl) (by kernel_rfl) ?_;simp only[ú,List.take_zero,Ä,ϰ];iterate 8 (with_reducible refine Ϧ (λK hK=>?_);go_simp;first|(refine hK _ ?_;clear hK K)|(apply Exists.intro;refine⟨λ_=>?_,hK _ ?_⟩;(with_reducible exact Ev (f152 _).o);clear hK K))
    refine ϵ ?_;rintro _ ⟨e2,rfl⟩;have a8:=ae.t e2.ext;have dx:=Z (e2.ext.heap bd.o);clear f152 co ae bd;obtain⟨bu,jq⟩:=Xq (e2.W);rw[jq] at a8 dx;simp only[jq];clear jq;have k8:bu.cell? ⟨H,1,I⟩=J (.int ζ (cu:Nat)):=Τ bu H 1 _ _ _ dx.o;have f8:=È bu H 1 _ _ dx.o;have c8:bu.setCell ⟨H,1,I⟩ (.int ζ ((cu ||| 2 ^ rr:Nat):Int))=bu.setRow H #[iv p',.int ζ ((cu ||| 2 ^ rr:Nat):Int)]:=by rw[Ϭ bu _ _ _ _ _ _ dx.o];rfl
    have T:Ext w6 (bu.setCell ⟨H,1,I⟩ (.int ζ ((cu ||| 2 ^ rr:Nat):Int))):=by rw[c8];exact a8.setRow mr _
    have jr:(bu.setCell ⟨H,1,I⟩ (.int ζ ((cu ||| 2 ^ rr:Nat):Int))).heap[H]? = J (Β #[iv p',.int ζ ((cu ||| 2 ^ rr:Nat):Int)] 134 (0,0)):=by rw[c8];exact Χ bu H _ _ _ _ dx.o
    clear c8 a8 dx;obtain⟨w8,an⟩:=Xq (bu.setCell ⟨H,1,I⟩ (.int ζ ((cu ||| 2 ^ rr:Nat):Int)));rw[an] at T jr;have nd:=Z an;have nf:=Z T;have ng:=Z jr;clear an T jr;go_upto_region 22 with (fail)
    rw[eu.o,nd.o];have T:=nf.o;clear k8 f8 nd nf;obtain⟨y,bl⟩:=Xq ((p',cu ||| 2 ^ rr));have db:ϟ (lnx a b (p,S) (bs.getD k 0)=y):=Z (by rw[<-mi.o,<-bl];show (a.stp p x.toNat,Ey a b p S x.toNat)=_;rw[iz.o,dw.o];rfl)
    have dc:=Pw y (by rw[<-bl];exact nc.o) (by rw[<-bl];have h:=qq.o;rw[dw.o] at h;exact h)
    have b6:ϟ (w8.heap[H]? = J (Β #[iv y.1,.int ζ (y.2:Int)] 134 (0,0))):=Z (by rw[<-bl];exact ng.o);clear bl ng dw eu fz;have be:=mo.o.ext T;have a1:=Aa mq.o T;have bf:=c5.t T;clear T;cases hf:f2 y with
    | some v=>
     have dd:=Z (So aq.o.1 (by rw[HM.o];exact bq) eo.o v (by rw[db.o];exact hf));have cq:=Au 0 a1 b4.o.symm k (by rw[b4.o];exact bq);have fq:=a1.frozenAt k;obtain⟨b8,ah⟩:=Ba a1 k v;have b9:=bf.grown ah (λk e=>by injection e;omega);have cd:=Z (be.keptQ a1 ah);have X:=be.mp;clear ah a1 be bf;go_wp2_with (first
      | (refine Lr 134 (δ 17) b6.o Tryz.underlying134 Gp ?_)
      | (at_lookup;refine D0 rfl _ _ 135 rfl Is Tryz.underlying135 rfl X y rfl dc ?_;rw[hf];dsimp only [ñ,Option.getD]))
     go_roundw
     case rel=>exact⟨k+1,G,f2,r.set k v,b0,cy,by omega,by omega,by go_num,rfl,b9,cd,b8,Z ⟨dd.o,aq.o.2⟩⟩
     simp[intOf]<;>omega
    | none=>
     have de:=Ss aq.o.1 (by rw[HM.o];exact bq) (λq hq=>hp.o q (by rw[<-HM.o];exact hq)) eo.o (by rw[db.o];exact hf);rw[db.o] at de;have dd:=Z de;clear de;have X:=be.mp;have ct:=Z be;have df:=Z a1;clear be a1;go_upto_region 26 with (first
      | (refine Lr 134 (δ 17) b6.o Tryz.underlying134 Gp ?_)
      | (at_lookup;refine D0 rfl _ _ 135 rfl Is Tryz.underlying135 rfl X y rfl dc ?_;rw[hf];dsimp only [ñ,Option.getD])
      | (at_mapUpdate;refine G0 rfl _ _ _ 135 rfl Is Tryz.underlying135 rfl X (by unfold ϐ;omega) Px y rfl dc G.length rfl (by omega) ?_;intro w9 ew ah))
     have cf:=ct.o.mput ma ew ah;have b8:=df.o.kept ah (X.far df.o);have b9:=bf.grown ah (λk e=>by injection e;omega);have c9:=Z (Du ah (Nw X) b6.o);have cg:=cf.L;have ji:=cf.sz;have cd:=Z cf;have dg:=Z b8;clear ah ew X ct df b6 bf cf b8;go_upto_region 27 with (first
      | (refine Lr 134 (δ 17) c9.o Tryz.underlying134 Gp ?_)
      | (at_builtin;refine Ϙ _ rfl _ _ 136 rfl (gW+2) 134 j0 (.agg #[.int Φ 0,.int ζ 0]) 2 16 Tryz.underlying136 hj kl km kn rfl (by decide) _ _ _ rfl (cg.alloc _) _ 1 1 (Gh y) rfl rfl (Γ.news_of_block (Ad w9 _)) (by simp[Gh,ξ]) (by decide) (by unfold ϐ;omega) (by omega) (by rw[Ρ];omega) _ rfl ?_;intro jj jk qs ey cj _ _))
     have al:=(Κ w9).alloc (Β #[iv y.1,.int ζ (y.2:Int)] 134);have ez:=(cd.o.ext al).app cj ey;have bm:=(Aa dg.o al).kept cj (Aj (Aa dg.o al) (Aa cg al) (by decide));have e0:=(b9.t al).grown cj (λk e=>by have:=(cg.lt k e).1;omega);clear cj al cg ji cd dg c9 b9 ey;have cq:=Au 0 bm b4.o.symm k (by rw[b4.o];exact bq);have fq:=bm.frozenAt k;obtain⟨jl,dh⟩:=Ba bm k G.length;have jm:=e0.grown dh (λk e=>by injection e;omega);have jn:=Z (ez.keptQ bm dh);clear dh bm ez e0;go_wp2_with (fail);go_roundw
     case rel=>
      refine⟨k+1,G++[y],_,r.set k G.length,jj,jk,by omega,by rw[Ν];simp;omega,by go_num,by rw[Ν];rfl,jm,?_,jl,Z ⟨dd.o,?_,λj hj=>?_⟩⟩
      ·rw[Ν];exact jn
      ·rw[Ν];have:=aq.o.2.1;omega
      rw[χ (by have:=aq.o.2.1;omega)];exact aq.o.2.2 j hj
     case measure=>simp[intOf]<;>omega
  obtain rfl:m=k:=by omega
  have nh:EInv bs (0,0) (lnx a b) i bs.length G f2 N r:=by rw[HM.o];exact aq.o.1
  have gd:=Z nh;have HW:=Z (λh:4096<G.length=>show I6 a b from .inl ⟨G,gd.o.nodup,gd.o.reach,h⟩);clear nh;have k1:wq.cell? ⟨gW,1,I⟩=J vnx:=Τ wq gW 1 _ _ _ HO.o.D;have e1:=HO.o.Nx;have sa:=HO.o.sz;have fa:vs.length<=4096:=by rw[HO.o.V.1,gd.o.lenN];omega
  have je:wJ.heap.size<=gW:=Ô ij.o;by_cases qt:4096<G.length
  ·have qu:(4096:Int)<(G.length:Int):=by omega
   have js:=Z ((ec.o.t cw.o).trans E);clear E k1 e1;go_wp2_with (fail);go_ret2;exact⟨.inr ⟨rfl,HW.o qt⟩,js.o⟩
  have qu:¬ (4096:Int)<(G.length:Int):=by omega
  clear HW;go_upto_region 8 with (at_builtin;refine Ϙ _ rfl _ _ 37 rfl (gW+2) 54 k0 (U I 0 0) 1 24 Tryz.underlying37 hk pr pt px rfl (by decide) vnx vs.length vs rfl (e1.alloc _) _ 1 1 [U (J ⟨gr,0,I⟩) m m] rfl rfl (Ý _ _ _) (by simp[ξ]) (by decide) (by unfold ϐ;omega) (by omega) (by rw[Ρ];omega) _ rfl ?_;intro g7 c7 w7 nj gf _ _;obtain⟨h1,h2,h3,h4,h5,h6⟩:=(HO.o.ext ((Κ wq).alloc (Β #[Ϗ (J ⟨gr,0,I⟩) m m] 54))).keptN gf;have k7:w7.cell? ⟨gW,1,I⟩=J vnx:=Τ w7 gW 1 _ _ _ h3;have f7:=È w7 gW 1 _ _ h3)
  have nn:=(Aa hQ ((Κ wq).alloc (Β #[Ϗ (J ⟨gr,0,I⟩) m m] 54))).kept gf (Aj hQ e1 (by decide));have np:∀ k,vnx.ownBlock=J k->gW+2<=k:=λk e=>(e1.lt k e).1
  have c6:=(E.alloc (Β #[Ϗ (J ⟨gr,0,I⟩) m m] 54)).grown gf (λk e=>by have:=np k e;omega);rw[Ϭ w7 _ _ _ _ _ _ h3];have T:=c6.setRow je #[U ac lc au,U (J ⟨g7,0,I⟩) (vs.length+1) c7];have ct:ϟ (LzO (w7.setRow gW #[U ac lc au,U (J ⟨g7,0,I⟩) (vs.length+1) c7]) (gW+2) gW (gW+1) bR (U ac lc au) G.length G f2 b0 cy (U (J ⟨g7,0,I⟩) (vs.length+1) c7) (vs++[U (J ⟨gr,0,I⟩) m m]) (N++[r]) (λ_=>False)):=
   Z (LzO.row h1 h2 h3 h4 h5 h6 nn b4.o (by rw[Ν];exact nj) rfl)
  have qw:ϟ (EInv bs (0,0) (lnx a b) (i+1) 0 G f2 (N++[r]) (θ bs.length 0)):=Z (AF gd.o qd _ (by simp));clear h1 h2 h3 h4 h5 h6 nn np c6 gf k7 f7 nj e1 k1 E hQ HO;obtain⟨w8,an⟩:=Xq (w7.setRow gW #[U ac lc au,U (J ⟨g7,0,I⟩) (vs.length+1) c7]);have nq:w7.setRow gW ((#[U ac lc au,vnx]:Array Δ).setIfInBounds 1 (U (J ⟨g7,0,I⟩) (vs.length+1) c7))=w8:=an;rw[nq];rw[an] at T ct;clear an nq;go_wp2_with (fail);go_roundw
  case rel=>exact⟨i+1,G,f2,N++[r],_,b0,cy,_,by omega,by omega,by go_num,rfl,T,ct,qw⟩
  simp[intOf]<;>omega
 obtain rfl:i=l.length:=by omega
 have dy:=Z (PQ cv.o.val ao.o.val HI.o HP.o lq.o HJ.o);obtain⟨ws,qx⟩:∃ W,W=wr:=⟨_,rfl⟩;subst qx;have je:wJ.heap.size<=gW:=Ô ij.o;have nr:=E;have hO:=HO.o;have qy:=Z (λV (hV:ws.grownBy V (J bR))=>show Ks V (gW+2) (U (J ⟨go,0,I⟩) l.length co) l from hO.L.kept hV (.inr λe=>Js hO.MR hO.L e.symm));have qz:=Z (λV (hV:ws.grownBy V (J bR))=>Du hV hO.MR.block hO.D);have ns:N.length=l.length:=HI.o.lenN;have q4:vs.length=N.length:=hO.V.1;have q5:=Z (λV (hV:ws.grownBy V (J bR)) (q6:Ext wJ V)=>show IsW V #[U ac lc au,vnx] C N from by refine⟨_,_,rfl,lo.o.ext q6,?_⟩;have h1:=hO.Nx.kept hV (.inr λe=>Js hO.MR hO.Nx e.symm);have h2:=hO.V.kept hV (λv l ho _=>.inr λe=>Js hO.MR ho e.symm);exact h2.rows h1 (by omega) (λj hj=>by rw[HI.o.rows j (by omega),HM.o];omega))
 have nt:=Z qb;have dk:=hO.MR;have gg:=Z ((ec.o.t cw.o));have jt:=Z ns;clear hO HO E HI ns q4;go_wp2_with (fail);go_loopw [141] (λvi W=>∃ (j cnt:Nat) (f4:Nat->Option Δ) (ρ:Nat->Option Dfa),j<=l.length/\cnt<=j/\vi=iv j/\Ext wJ W/\ws.grownBy W (J bR)/\IsMv W 3 iv bR cnt f4/\ϟ (MpD W f4 ρ)/\ϟ (LRho a b l j ρ))
  (λvi _=>l.length-(intOf vi).toNat)
 case atStart=>exact⟨0,0,_,_,by omega,Υ _,rfl,nr,Γ.grownBy.refl _ _,dk,Z (Xw ws),Z (QB a b l)⟩
 clear nr dk;obtain⟨j,cnt,f4,ρ,sb,sc,rfl,E,hg,dk,ju,HG⟩:=hrel;by_cases nu:j<l.length
 ·obtain⟨⟨p,S⟩,cp⟩:∃ s,l[j]? = J s:=⟨l[j],by simp[nu]⟩;have fu:=Z cp;obtain⟨dt,ek⟩:p<a.n.length/\S<2 ^ b.n.length:=by
   obtain⟨u,hu⟩:=dy.o.reach j (by rw[jt.o];exact nu);have h:=dy.o.run u;rw[hu,cp] at h;injection h with h
   have h2:=Yg cv.o.val ao.o.val u;rw[<-h] at h2;exact h2
  have il:S<18446744073709551616:=Ξ ek (Ϲ (by omega) cl.o);have im:p<n:=by rw[<-HN.o];exact dt
  clear ek dt;obtain⟨s0,s1⟩:=U6 (qy.o wr hg) j (p,S) cp;have nv:wr.rangeAt go (j*2) [iv p,.int ζ (S:Int)]:=λo v hv=>by
   match o,hv with
   | 0,hv=>
    have hv:J (iv p)=J v:=hv;injection hv with hv
    rw[<-hv];exact s0
   | 1,hv=>
    have hv:J (Â ζ (S:Int))=J v:=hv;injection hv with hv
    rw[<-hv];exact s1
   | o+2,hv=>simp at hv
  clear cp s0 s1;go_upto_region 35 with (first
   | (refine å rfl 134 (δ 144) rfl go (j*2) rfl _ _ nv Tryz.underlying134 rfl Gp ?_)
   | (refine Sr 134 (δ 22) (δ 145) rfl (Ad wr (Β #[.int Φ 0,.int ζ 0] 134)) Gp rfl (U9 (p,S)) ?_))
  clear nv;have ae:=((Κ wr).alloc (Β #[.int Φ 0,.int ζ 0] 134)).setRow (Υ _) (Ha (p,S));have gj:=Χ (wr.alloc (Β #[.int Φ 0,.int ζ 0] 134)) wr.heap.size _ (Ha (p,S)) _ _ (Ad wr _);obtain⟨w5,bk⟩:=Xq ((wr.alloc (Β #[.int Φ 0,.int ζ 0] 134)).setRow wr.heap.size (Ha (p,S)));have nw:(wr.alloc (Β #[.int Φ 0,.int ζ 0] 134)).setRow wr.heap.size #[iv p,.int ζ (S:Int)]=w5:=bk;rw[bk] at ae gj;obtain⟨e6,jv⟩:=Xq (wr.heap.size);rw[jv] at gj;rw[nw];simp only[jv];clear bk nw jv;have ny:ϟ (w5.heap[e6]? = J (Β #[iv p,.int ζ (S:Int)] 134 (0,0))):=Z gj;clear gj;have dm:=E.t ae;have k2:=kt.o w5 (cw.o.t dm);have k3:w5.cell? ⟨e6,0,I⟩=J (iv p):=Τ w5 e6 0 _ _ _ ny.o;have k4:=(gg.o.trans dm).cell (HA.o p im);have qo:(p:Int)<(n:Int):=by omega
  have jw:=hg.trans (ae.grownBy (J bR));have jx:=dk.ext ae;have jy:=Z (ju.o.ext ae);have bk:=gg.o.trans dm;clear E ae hg dk ju;obtain⟨fx,da⟩:=Xq (a.ok p);rw[da] at k4;have fy:=Z da;clear da;cases fx with
  | false=>
   go_wp2_with (fail);go_roundw
   case rel=>exact⟨j+1,cnt,f4,ρ,by omega,by omega,by go_num,dm,jw,jx,jy,Z (QC HG.o fu.o fy.o)⟩
   simp[intOf]<;>omega
  | true=>
   have f153:=Z (ZB b ao.o cl.o S il (.agg Vb) w5 (kb.o w5 bk) (Ξ gl bk.size) (gn.o.ext bk));have k5:=ku.o w5 (cw.o.t dm);have k6:w5.cell? ⟨e6,1,I⟩=J (.int ζ (S:Int)):=Τ w5 e6 1 _ _ _ ny.o;go_upto_region 37 with (first
    | (refine Lr 40 (δ 3) k5 Ο kq ?_)
    | (go_at_call 60;(with_reducible refine f153.o.mono ?_);rintro e w6 ⟨r1,jz,n2,a8⟩;obtain⟨n3,n4,n5,n9,od,oe,og,oh,om,k1,rfl⟩:=jz.form;have oo:=Z jz;have oq:=Z n2;have ot:=Z a8;clear jz n2 a8)
    | (refine Sr 40 (δ 23) (δ 157) rfl (Ad w6 (Β #[U I 0 0,U I 0 0,U I 0 0] 40)) Ae rfl (Av _ _ _ rfl rfl rfl) ?_))
   clear f153 k5 k6 k2 k3 k4;obtain⟨j1,e7⟩:=Dv w6 (dA (U n3 n4 n5) (U n9 od oe) (U og oh om));have gk:=Z (oo.o.ext j1);have T:=ot.o.t j1;obtain⟨D1,j3⟩:=Xq (dA (U n3 n4 n5) (U n9 od oe) (U og oh om));have q8:(Η.info? 40).map (·.size)=J D1.size:=by rw[<-j3];exact Ae
   simp only[j3] at e7 T gk ⊢;obtain⟨w8,an⟩:=Xq ((w6.alloc (Β #[U I 0 0,U I 0 0,U I 0 0] 40)).setRow w6.heap.size D1);rw[an] at e7 T gk;simp only[an];obtain⟨g9,j4⟩:=Xq (w6.heap.size);rw[j4] at e7;simp only[j4];clear an j4 j1 ot oo j3;have q9:=Z e7;have bf:=dm.t T;have j5:=jw.trans (T.grownBy (J bR));have X:=jx.ext T;have ra:=Z (jy.o.ext T);clear e7 T jw jx jy dm;cases r1 with
   | none=>obtain⟨rfl,-⟩:=gk.o.none_inv;have rb:=Z (show I6 a b from .inr (.inl oq.o));have js:=Z (gg.o.trans bf);clear bf j5 X;go_wp2_with (fail);go_ret2;exact⟨.inr ⟨rfl,rb.o⟩,js.o⟩
   | some d=>
    obtain⟨rfl,ou⟩:=gk.o.some_inv;have re:=Z (QD HG.o fu.o fy.o oq.o);have rf:=Z ou;have rh:=Rn j (by have:=nt.o;omega);clear ou;go_wp2_with (first
     | (refine Lr 40 (δ 23) q9.o Ο q8 ?_)
     | (refine Ub rfl (δ 162) (δ 163) (δ 164) 126 rfl N7 Tryz.underlying126 rfl X (by unfold ϐ;have:=nt.o;omega) Y6 j rfl rh (.agg D1) rfl ?_;intro se ri e8))
    have rj:=bf.grown e8 (λk e=>by injection e with e;omega);have rl:=Z ((ra.o.keptm e8 X.block).put j (rf.o.keptm e8 X.block));have rm:=j5.trans e8;clear e8 X j5;go_roundw
    case rel=>exact⟨j+1,cnt+1,_,_,by omega,by omega,by go_num,rj,rm,ri,rl,re⟩
    simp[intOf]<;>omega
 obtain rfl:j=l.length:=by omega
 have cm:=gg.o.trans E;have sf:(#[U ac lc au,vnx]:Array Δ).size=2:=rfl;have ow:∀ s d,ρ s=J d->s<N.length/\Cano d/\d.n.length<=64:=by rw[jt.o];exact QF HG.o
 have f150:=Z (AS C N dy.o.wval (by rw[jt.o];omega) #[U ac lc au,vnx] bR cnt f4 ρ ow dy.o.reach wr (kb.o wr cm) (Ξ gl cm.size) (q5.o wr hg E) dk (λx _=>ju.o x));have oy:=qz.o wr hg;have rn:=Z oy;have rp:=Z cm;clear ow oy dk cm E hg;go_wp2_with (first
  | (refine Lr 128 (δ 8) rn.o Tryz.underlying128 Fv ?_)
  | (go_at_call 57;(with_reducible refine f150.o.mono ?_);rintro e w2 ⟨j6,fg⟩;obtain⟨v2,k2,rfl⟩:=j6.form;have rq:=Z j6;clear j6))
 go_ret2;refine⟨?_,rp.o.trans fg⟩;rcases rq.o with⟨os,v,he,h1,h2,h3⟩|⟨he,d,hb⟩
 ·exact .inl ⟨os,v,he,QE ao.o.val dy.o HG.o h1,h2,h3⟩
 exact .inr ⟨he,PS dy.o hb⟩
theorem GB {P:Þ} {ops:Array Oper} {Q:Exit->Act->Γ->Prop} {C:Γ->Prop} {n i:Nat} {is:List (Nat × Bool)} {o:Oper} {v:Δ} {a:Act} {w:Γ} (h0:ops.toList[i]? = J o) (E:Region.wanted o (yielded ops a.tmps)=Α) (hx:(execOp a.eval o).run P w=.ok (.value v) w)
  (G:C w) (h:Df P ops Q C n is (a.put o.dst v) w):Df P ops Q C n ((i,Ε)::is) a w:=by
 show wpOp P ops Q i _ a w;exact YieldsIf.wpOp (S:=λV=>V=w) (by rw[<-Array.getElem?_toList];exact h0) (.inl ⟨E,λW e=>by subst e;exact hx⟩) rfl ⟨λ_=>G,h⟩
theorem V4 {ds:List Dfa} {i:Nat} (hi:i+1<ds.length) {q:Dfa} {r:Option Dfa} (h:Cj (ds.drop (i+1)) (J q)) (hc:Cp (ds.getD i dN) q r):Cj (ds.drop i) r:=by
 have e:ds.drop i=ds.getD i dN::ds.drop (i+1):=by rw[Ϝ (by omega),Ζ,Ι (by omega)];rfl
 have E:ds.drop (i+1)=ds.getD (i+1) dN::ds.drop (i+2):=by rw[Ϝ hi,Ζ,Ι hi];rfl
 rw[e,E];rw[E] at h;exact⟨J q,h,hc⟩
theorem V5 {ds:List Dfa}:∀ {i:Nat},i<ds.length->Cj (ds.drop i) I->Cj ds I
 | 0,_,h=>h
 | i+1,hi,h=>by
  refine V5 (i:=i) (by omega) ?_;have e:ds.drop i=ds.getD i dN::ds.drop (i+1):=by rw[Ϝ (by omega),Ζ,Ι (by omega)];rfl
  have E:ds.drop (i+1)=ds.getD (i+1) dN::ds.drop (i+2):=by rw[Ϝ hi,Ζ,Ι hi];rfl
  rw[e,E];rw[E] at h;exact⟨I,h,rfl⟩
theorem Qf (ds:List Dfa) (hd:∀ i,i<ds.length->Cano (ds.getD i dN)/\(ds.getD i dN).n.length<=64) (c7:ds.length<=200) (a:Option Addr) (b o c8:Nat) (ha:0<ds.length->a=J ⟨b,o,I⟩) (w:Γ) (hT:Tab w) (ca:0<w.heap.size) (hD:DsAt w b o ds) :
  ϛ Η 29 #[U a ds.length c8] w λe w'=>∃ r,ResOf w' e r/\Cj ds r/\Ext w w':=by
 have c9:=Z (λW (hW:Ext w W)=>hT.below hW.below ca);have cc:=Z hD;have bk:=Z hd;have au:=(Κ w).alloc (Β #[U I 0 0,U I 0 0,U I 0 0] 40);have E:=Ad w (Β #[U I 0 0,U I 0 0,U I 0 0] 40);clear hD hd hT;go_enter Tryz.func29,Tryz.ntmps29;go_upto_region 1 with (fail)
 obtain⟨w1,bl⟩:=Xq (w.alloc (Β #[U I 0 0,U I 0 0,U I 0 0] 40));rw[bl] at au E;simp only[bl];clear bl;have E:=Z E;by_cases h0:ds.length=0
 ·have f54:=Z (Kx [] (by decide) (U I 0 0) w1 (by refine⟨by simp,.inl ⟨rfl,_,_,rfl⟩⟩));have da:ϟ (ds=[]):=Z (List.length_eq_zero_iff.1 h0);have du:((ds.length:Int)==0)=Α:=by simp[h0]
  clear ha;go_wp2_with (first
   | (go_at_call 16;(with_reducible refine f54.o.mono ?_);rintro e w5 ⟨r,aj,cd,hw,ah⟩;obtain⟨G,H,T,X,aa,ab,ad,ae,af,k1,rfl⟩:=aj.form;have ba:=Z aj;have cg:=Z cd;have HW:=Z hw;have ax:=Z (ah.heap E.o);clear aj cd hw)
   | (refine Sr 40 (δ 2) (δ 11) rfl ax.o Ae rfl (Av _ _ _ rfl rfl rfl) ?_))
  refine ω (v:=ϗ #[.agg (dA (U G H T) (U X aa ab) (U ad ae af)),.int Φ k1]) (Bi rfl _ _ _ _ _ _ _ rfl _ rfl (Χ w5 _ _ (dA (U G H T) (U X aa ab) (U ad ae af)) 40 (0,0) ax.o) Ο rfl Ae) rfl ?_;exact⟨J r,ba.o.setRow (λq e=>by injection e with e;rw[<-e];exact cg.o.val) ax.o _,by rw[da.o];exact⟨r,rfl,cg.o,HW.o⟩,(au.t ah).setRow (Υ _) _⟩
 have ha:=ha (by omega);subst ha;obtain⟨m,hm⟩:∃ m,ds.length=m+1:=⟨ds.length-1,by omega⟩;have HM:=Z hm;rw[hm] at c7;simp only[hm];obtain⟨x1,x2,x3,cj,bm⟩:=cc.o m (by omega);have ck:=Z (show w1.rangeAt b (o+m*3) [x1,x2,x3] from λj v hj=>au.cell (cj j v hj));have cl:(#[x1,x2,x3]:Array Δ).all (·.oneCell')=Α:=by
  obtain⟨_,_,_,_,_,_,_,_,he⟩:=bm.agg;injection he with he
  rw[he];exact Av _ _ _ rfl rfl rfl
 have cm:=Z bm;clear hm h0 cj bm;go_upto_region 4 with (first
  | (refine å rfl 40 (δ 17) rfl b (o+m*3) rfl _ _ ck.o Ο rfl (Dk _ _ _) ?_)
  | (refine Sr 40 (δ 4) (δ 18) rfl (Ad w1 _) Ae rfl cl ?_))
 have bb:=(au.alloc (Β #[U I 0 0,U I 0 0,U I 0 0] 40)).setRow (g:=w1.heap.size) au.size #[x1,x2,x3];have G4:=Χ _ _ _ #[x1,x2,x3] 40 (0,0) (Ad w1 (Β #[U I 0 0,U I 0 0,U I 0 0] 40));have dc:=Al E.o;have G2:=Bm (Ah E.o (Β #[U I 0 0,U I 0 0,U I 0 0] 40)) (g:=w1.heap.size) (by omega) #[x1,x2,x3];have bo:=cm.o.ext bb;obtain⟨w3,bp⟩:=Xq ((w1.alloc (Β #[U I 0 0,U I 0 0,U I 0 0] 40)).setRow w1.heap.size #[x1,x2,x3]);rw[bp] at bb G4 G2 bo;simp only[bp];obtain⟨g4,bq⟩:=Xq (w1.heap.size);have cn:ϟ (w.heap.size<g4):=Z (by omega);rw[bq] at G4;simp only[bq];clear bp bq E ck cl cm dc;have cp:ϟ (Cj (ds.drop m) (J (ds.getD m dN))):=Z (by rw[Ϝ (by rw[HM.o];omega),List.drop_eq_nil_of_le (by rw[HM.o];omega),Ζ,Ι (by rw[HM.o];omega)];rfl)
 go_wp2_with (fail);go_loopw [5] (λvi W=>∃ (z:Int) (k:Nat) (q:Dfa) (A:Array Δ),z+1=(k:Int)/\k<=m/\vi=.int Φ z/\Ext w W/\ϟ (W.heap[g4]? = J (Β A 40 (0,0)))/\ϟ (W.heap[w.heap.size]? = J (Β #[U I 0 0,U I 0 0,U I 0 0] 40 (0,0)))/\ϟ (A.size=3)/\ϟ (IsD W (.agg A) q)/\ϟ (Val q/\q.n.length<=64)/\ϟ (Cj (ds.drop k) (J q)))
  (λvi _=>(intOf vi+1).toNat)
 case atStart=>exact⟨(m:Int)-1,m,_,_,by omega,by omega,by go_num,bb,Z G4,Z G2,Z rfl,Z bo,Z ⟨(bk.o m (by rw[HM.o];omega)).1.val,(bk.o m (by rw[HM.o];omega)).2⟩,cp⟩
 clear bb G4 G2 bo cp;obtain⟨z,k,q,A,hz,dw,rfl,hE,H4,E,HA,HI,HQ,HP⟩:=hrel;have bf:(Η.info? 40).map (·.size)=J A.size:=by rw[HA.o];exact Ae
 obtain⟨dx,dy,dz,ea,eb,ec,ed,ee,az⟩:=HI.o.agg;injection az with az
 by_cases dd:z<0
 ·obtain rfl:k=0:=by omega
  have ef:¬ (0:Int)<=z:=by omega
  have de:A.all (·.oneCell')=Α:=by rw[az];exact Av _ _ _ rfl rfl rfl
  clear az hz;go_wp2_with (first
   | (refine Lr 40 (δ 4) H4.o Ο bf ?_)
   | (refine Sr 40 (δ 2) (δ 39) rfl E.o bf HA.o.symm de ?_))
  refine ω (v:=ϗ #[.agg A,.int Φ 0]) (Bi rfl _ _ _ _ _ _ _ rfl _ rfl (Χ wr _ _ A 40 (0,0) E.o) Ο rfl bf) rfl ?_;exact⟨J q,⟨_,rfl,IsD.setRow HQ.o.1 HI.o E.o _⟩,HP.o,hE.setRow (Υ _) _⟩
 obtain⟨i,rfl⟩:∃ i:Nat,z=i:=⟨z.toNat,by omega⟩;obtain rfl:k=i+1:=by omega
 have eg:(i:Int)<(m:Int)+1:=by omega
 have eh:(0:Int)<=(i:Int):=by omega
 obtain⟨y1,y2,y3,cv,cw⟩:=cc.o i (by rw[HM.o];omega);have df:=Z (λV (hV:Ext w V)=>(show V.rangeAt b (o+i*3) [y1,y2,y3] from λj v hj=>hV.cell (cv j v hj)));have cy:=Z (bk.o i (by rw[HM.o];omega));have fc:=λW (hW:Ext w W) (hI:IsD W (.agg A) q)=>Z (Ka (ds.getD i dN) q cy.o.1.val HQ.o.1 cy.o.2 HQ.o.2 _ _ W (c9.o W hW) (Ξ ca hW.size) (cw.ext hW) hI)
 clear az hz dd cv cw;go_upto_region 8 with (fail)
 refine Bl 10 [(0,Α),(1,Α),(2,Α),(3,Α),(4,Ε),(5,Ε),(6,Α),(7,Α),(8,Α),(9,Ε),(10,Ε)] (by kernel_rfl) (by kernel_rfl) (λ_ _ _ _ h=>h)
  (λV=>Ext w V) (hE.t (Κ wr).drew) ?_
 have a6:=hE.t (Κ wr).drew;have bg:=Z ((Κ wr).drew.heap H4.o);have b0:=Z ((Κ wr).drew.heap E.o);have bh:=Z (HI.o.ext (Κ wr).drew);obtain⟨wy,b4⟩:=Xq (wr.drew);rw[b4] at a6 bg b0 bh;rw[b4];clear b4 H4 E HI;iterate 3
  refine Af (v:=?_) rfl rfl (λV hV=>?_) ?_
  rotate_left
  ·clear hV;go_simp;first|done|with_reducible rfl
  simp only[η,Θ,Μ,Λ]
 refine Af (v:=.agg #[y1,y2,y3]) rfl rfl (λV hV=>?_) ?_
 ·exact Cg 40 (δ 29) rfl b (o+i*3) rfl _ _ (df.o V hV) Ο rfl (Dk _ _ _)
 simp only[η,Θ,Μ,Λ];refine GB (v:=.agg A) rfl rfl (Em 40 (δ 4) rfl g4 rfl 40 A (0,0) _ bg.o Ο rfl bf) a6 ?_;simp only[η,Θ,Μ,Λ];refine Ao rfl (λKk hK=>?_);go_simp
 (with_reducible refine (fc wy a6 bh.o).o.mono ?_)
 rintro e w5 ⟨r,aj,hrel,ah⟩;obtain⟨G,H,T,X,aa,ab,ad,ae,af,k1,rfl⟩:=aj.form;have b5:=Z (ah.heap bg.o);have ax:=Z (ah.heap b0.o);have ba:=Z aj;have b6:=Z hrel;have c3:=Z (a6.t ah);have c4:=Z (λ(q':Dfa) (dk:Val q') (h:IsD w5 (.agg (dA (U G H T) (U X aa ab) (U ad ae af))) q')=>IsD.setBox dk h HQ.o.1 (bh.o.ext ah) b5.o (dA (U G H T) (U X aa ab) (U ad ae af)));clear aj hrel fc bg b0 a6 bh ah;refine hK _ _ (λ_=>c3.o) ?_;clear hK Kk;refine Af (v:=?_) rfl rfl (λV _=>?_) ?_
 rotate_left
 ·go_simp;first|done|with_reducible rfl
 simp only[η,Θ,Μ,Λ];refine Af (v:=.agg (dA (U G H T) (U X aa ab) (U ad ae af))) rfl rfl (λV _=>?_) ?_
 ·go_simp
 simp only[η,Θ,Μ,Λ];refine Af (v:=.int Φ k1) rfl rfl (λV _=>?_) ?_
 ·go_simp
 simp only[η,Θ,Μ,Λ];refine Ao rfl (λKk hK=>?_);refine Ik 40 (δ 4) (δ 33) rfl rfl _ _ rfl rfl _ _ b5.o Ae HA.o (Av _ _ _ rfl rfl rfl) ?_;have bj:=c3.o.setRow (Nat.le_of_lt cn.o) (dA (U G H T) (U X aa ab) (U ad ae af));have G4:=Χ w5 _ _ (dA (U G H T) (U X aa ab) (U ad ae af)) 40 (0,0) b5.o;have G2:=Bm ax.o (show w.heap.size≠g4 from Nat.ne_of_lt cn.o) (dA (U G H T) (U X aa ab) (U ad ae af));refine hK _ _ (λ_=>bj) ?_;clear hK Kk;obtain⟨w6,b7⟩:=Xq (w5.setRow g4 (dA (U G H T) (U X aa ab) (U ad ae af)));rw[b7] at bj G4 G2 c4;simp only[b7];clear b7;refine Ao rfl (λKk hK=>?_);go_simp;refine hK _ _ (λh=>absurd h (by omega)) ?_;clear hK Kk;refine Bj ?_;have b8:=Z G2;cases r with
 | none=>
  obtain⟨rfl,hz⟩:=ba.o.none_inv;have dn:=Z Ga;have HF:=Z (V5 (ds:=ds) (i:=i) (by rw[HM.o];omega) (V4 (by rw[HM.o];omega) HP.o b6.o));clear hz G4 G2;go_wp2_with (first
   | (refine Bk rfl 40 _ rfl #[U I 0 0,U I 0 0,U I 0 0] ?_ ?_;(simp;with_reducible exact dn.o))
   | (refine Sr 40 (δ 2) (δ 37) rfl b8.o Ae rfl Fg ?_))
  refine ω (v:=ϗ #[zD,.int Φ 2]) (Bi rfl _ _ _ _ _ _ _ rfl _ rfl (Χ w6 _ _ #[U I 0 0,U I 0 0,U I 0 0] 40 (0,0) b8.o) Ο rfl Ae) rfl ?_;exact⟨I,rfl,HF.o,bj.setRow (Υ _) _⟩
 | some q'=>
  obtain⟨rfl,c5⟩:=ba.o.some_inv;obtain⟨c6,dq⟩:=I2 b6.o q' rfl;have dr:=Z (c4.o q' c6 c5);have dt:=Z (V4 (by rw[HM.o];omega) HP.o b6.o);clear c5;go_wp2;go_roundw
  case rel=>exact⟨(i:Int)-1,i,q',_,by omega,by omega,by go_num,bj,Z G4,b8,Z rfl,dr,Z ⟨c6,dq⟩,dt⟩
  simp[intOf]<;>omega
theorem Rj (ps:List PtN) (H:PatOk ps) (b o aj:Nat) (w:Γ) (hT:Tab w) (T:0<w.heap.size) (h:PatAt w b o ps) :
  ϛ Η 15 #[U (J ⟨b,o,I⟩) ps.length aj] w λe w'=>∃ ds r,DsOf ps ds/\Cj ds r/\ResOf w' e r/\Ext w w':=by
 have bf:=Z (λW (E:Ext w W)=>hT.below E.below T);have ad:=(Κ w).alloc (Β #[U I 0 0,U I 0 0,U I 0 0] 40);have X:=Ad w (Β #[U I 0 0,U I 0 0,U I 0 0] 40);have f106:=λW (E:Ext w W)=>Z (O6 ps H b o aj W (hT.below E.below T) (Ξ T E.size) (h.ext E))
 have bg:=H.le;have bh:=H.pos;obtain⟨N,hN⟩:=Xq (ps.length);rw[hN] at f106 bg bh;rw[hN];have HN:=Z hN;clear h H hN hT;go_enter Tryz.func15,Tryz.ntmps15;go_upto_region 1 with (fail)
 obtain⟨w1,ae⟩:=Xq (w.alloc (Β #[U I 0 0,U I 0 0,U I 0 0] 40));rw[ae] at ad X;simp only[ae];clear ae;have X:=Z X;have an:=Z ad;clear ad;go_upto_region 4 with (go_at_call 28;(with_reducible refine (f106 _ an.o).o.mono ?_);rintro e w2 ⟨g6,ds,rfl,G,ar,af⟩)
 have ag:=Z (an.o.t af);have bj:=Z (af.heap X.o);have au:=Z G;have f107:=Qf ds (λi hi=>(G.at_ i hi).2) (by rw[G.len,HN.o];omega) (J ⟨g6,0,I⟩) g6 0 N (λ_=>rfl) w2 (bf.o w2 ag.o) (Ξ T ag.o.size) ar;have aw:ds.length=N:=by rw[G.len,HN.o]
 rw[aw] at f107;have f107:=Z f107;clear af G ar f106 aw;go_wp2_with (first
  | (go_at_call 29;(with_reducible refine f107.o.mono ?_);rintro e w5 ⟨r,ah,ax,ay⟩;obtain⟨az,a1,a6,a7,a8,ba,bb,bc,bd,k1,rfl⟩:=ah.form;have bl:=Z ah;have be:=Z ax;have ai:=Z (ay.heap bj.o);clear ah ax)
  | (refine Sr 40 (δ 2) (δ 17) rfl ai.o Ae rfl (Av _ _ _ rfl rfl rfl) ?_))
 refine ω (v:=ϗ #[.agg (dA (U az a1 a6) (U a7 a8 ba) (U bb bc bd)),.int Φ k1]) (Bi rfl _ _ _ _ _ _ _ rfl _ rfl (Χ w5 _ _ (dA (U az a1 a6) (U a7 a8 ba) (U bb bc bd)) 40 (0,0) ai.o) Ο rfl Ae) rfl ?_;refine⟨ds,r,au.o,be.o,bl.o.setRow (λq e=>?_) ai.o _,(ag.o.t ay).setRow (Υ _) _⟩;subst e;exact (He ds (λd hd=>by
  obtain⟨i,hi,rfl⟩:=List.mem_iff_getElem.1 hd;have:=(au.o.at_ i hi).2.1
  rwa [Ζ,Ι hi] at this) be.o).1.val
def RowAt (W:Γ) (g:Nat) (l:List Bool):Prop:=∀ i,i<l.length->W.cell? ⟨g,i,I⟩=J (.bool (l.getD i Ε))
theorem RowAt.of_owns {W:Γ} {base g n c:Nat} {l:List Bool} (h:W.ownsRow base 4 1 (U (J ⟨g,0,I⟩) n c) n (l.map ϊ)) (E:n=l.length):RowAt W g l:=λi hi=>by rw[h.cellAt i (by omega),ν,Ι hi,Ζ,Ι hi];rfl
theorem Lo {W:Γ} {g k:Nat} {p:Addr} {v:Δ} (E:p.block=g) (hc:W.cell? p=J v) (hm:∃ es c,W.heap[k]? = J (.map es c)):g≠k:=λe=>by obtain⟨es,c,hm⟩:=hm;subst e;simp[Γ.cell?,E,hm] at hc
theorem RowAt.keptm {W W':Γ} {g k:Nat} {l:List Bool} (h:RowAt W g l) (hg:W.grownBy W' (J k)) (E:g≠k):RowAt W' g l:=λi hi=>by have hc:=h i hi;rw[hg.cell_far ⟨g,i,I⟩ (Ϻ W _ hc) (by simp;exact E)];exact hc
theorem RowAt.ext {W W':Γ} {g:Nat} {l:List Bool} (h:RowAt W g l) (E:Ext W W'):RowAt W' g l:=λi hi=>E.cell (h i hi)
theorem RowAt.lt {W:Γ} {g:Nat} {l:List Bool} (h:RowAt W g l) (h0:0<l.length):g<W.heap.size:=Ϻ W _ (h 0 h0)
def Mh (N M:Nat) (f:Nat × Nat->Option Δ):Nat:=Dy (N*M) λq=>(f (q / M,q % M)).isSome
theorem VX {N M:Nat} {f:Nat × Nat->Option Δ} {y:Nat × Nat} (h1:y.1<N) (E:y.2<M) (T:f y=I) (v:Δ):Mh N M f+1<=Mh N M λz=>if z=y then J v else f z:=by
 unfold Mh;refine S8 _ (λx _ hx=>?_) ⟨y.1*M+y.2,?_,?_,?_⟩
 ·simp only;split
  ·rfl
  exact hx
 ·have:(y.1+1)*M<=N*M:=Nat.mul_le_mul_right M h1;rw[Nat.add_mul,Nat.one_mul] at this;omega
 ·have G:(y.1*M+y.2) / M=y.1:=by rw[Nat.mul_comm,Nat.mul_add_div (by omega),Nat.div_eq_of_lt E];rfl
  have H:(y.1*M+y.2) % M=y.2:=by rw[Nat.mul_comm,Nat.mul_add_mod,Nat.mod_eq_of_lt E]
  rw[G,H];simp
 have G:(y.1*M+y.2) / M=y.1:=by rw[Nat.mul_comm,Nat.mul_add_div (by omega),Nat.div_eq_of_lt E];rfl
 have H:(y.1*M+y.2) % M=y.2:=by rw[Nat.mul_comm,Nat.mul_add_mod,Nat.mod_eq_of_lt E]
 rw[G,H,T];rfl
structure Mq where
 xs:List RNode
 b:List UInt8
 W0:Γ
 gM:Nat
 gK:Nat
 bx:Nat
 ox:Nat
 cx:Nat
 vb:Δ
structure Mq.ok (q:Mq):Prop where
 hx:VRx q.xs
 hb:q.b.length<=1000
 hM:q.W0.heap[q.gM]? = J (Β #[U (J ⟨q.bx,q.ox,I⟩) q.xs.length q.cx,q.vb,.map (J q.gK)] 123 (0,0))
 hK:q.gK<q.W0.heap.size
 rx:RxAt q.W0 q.bx q.ox q.xs
 by_:By q.W0 q.vb q.b
 ne:∃ es c,q.W0.heap[q.gK]? = J (.map es c)
structure Mt (q:Mq) (A:Nat->Prop) (W:Γ) (n:Nat) (f:Nat × Nat->Option Δ):Prop where
 gr:q.W0.grownBy W (J q.gK)
 mp:IsMv W 164 C6 q.gK n f
 le:n<=Mh q.xs.length (q.b.length+1) f
 al:∀ k,A k->q.W0.heap.size<=k/\k<W.heap.size
 ent:∀ y v,f y=J v->∃ g,v=U (J ⟨g,0,I⟩) (q.b.length+1) (q.b.length+1)/\¬ A g/\RowAt W g (Bh (A4 q.xs y.1) q.b y.2)
theorem Fd (L:Ag) (b:List UInt8) (i:Nat):(Bh L b i).length=b.length+1:=Ck _ _
theorem SD {W E G:Γ} {r:Option Nat} (h:W.grownBy E r) (k:E.grownBy G r):W.grownBy G r:=h.trans k
theorem Eb {W E:Γ} {r:Option Nat} (h:W.grownBy E I):W.grownBy E r:=⟨h.os,h.tape,h.output,h.size,λk G _=>h.block k G (by simp)⟩
theorem Gq {W E G:Γ} {r:Option Nat} (h:W.grownBy E r) {g:Nat} (k:E.grownBy G (J g)) (hg:W.heap.size<=g):W.grownBy G r:=
 ⟨k.os.trans h.os,k.tape.trans h.tape,k.output.trans h.output,μ h.size k.size,λj H T=>(k.block j (Ξ H h.size) (λe=>by injection e with e;omega)).trans (h.block j H T)⟩
theorem Mt.ext {q:Mq} {A:Nat->Prop} {W W':Γ} {n:Nat} {f:Nat × Nat->Option Δ} (h:Mt q A W n f) (E:Ext W W'):Mt q A W' n f:=
 ⟨h.gr.trans (Eb (E.grownBy I)),h.mp.ext E,h.le,λk G=>⟨(h.al k G).1,Ξ (h.al k G).2 E.size⟩,λy v H=>by obtain⟨g,e,hg,T⟩:=h.ent y v H;exact⟨g,e,hg,T.ext E⟩⟩
theorem Mt.weak {q:Mq} {A B:Nat->Prop} {W:Γ} {n:Nat} {f:Nat × Nat->Option Δ} (h:Mt q A W n f) (E:∀ k,B k->A k):Mt q B W n f:=
 ⟨h.gr,h.mp,h.le,λk G=>h.al k (E k G),λy v H=>by obtain⟨g,e,hg,T⟩:=h.ent y v H;exact⟨g,e,λX=>hg (E g X),T⟩⟩
theorem Mt.map {q:Mq} {A:Nat->Prop} {W:Γ} {n:Nat} {f:Nat × Nat->Option Δ} (h:Mt q A W n f):∃ es c,W.heap[q.gK]? = J (.map es c):=h.mp.block
theorem Mt.fresh {q:Mq} {A:Nat->Prop} {W W':Γ} {n:Nat} {f:Nat × Nat->Option Δ} (h:Mt q A W n f) (H:Ext W W') (X:W.heap.size<W'.heap.size):Mt q (λk=>A k\/k=W.heap.size) W' n f:=by
 have G:=h.ext H;refine⟨G.gr,G.mp,G.le,λk E=>?_,λy v hv=>?_⟩
 ·rcases E with E|rfl
  ·exact G.al k E
  exact⟨h.gr.size,X⟩
 obtain⟨g,e,hg,T⟩:=h.ent y v hv;refine⟨g,e,λE=>?_,T.ext H⟩;rcases E with E|E
 ·exact hg E
 have:=T.lt (by rw[Fd];omega);omega
theorem Mt.own {q:Mq} (T:q.ok) {A:Nat->Prop} {W W':Γ} {n:Nat} {f:Nat × Nat->Option Δ} {g:Nat} (h:Mt q A W n f) (hg:W.grownBy W' (J g)) (E:A g):Mt q A W' n f:=by
 obtain⟨h1,h2⟩:=h.al g E;have X:q.gK≠g:=λe=>by have:=T.hK;omega
 refine⟨Gq h.gr hg h1,h.mp.kept hg (by simp;exact X),h.le,λk G=>⟨(h.al k G).1,Ξ (h.al k G).2 hg.size⟩,λy v hv=>?_⟩;obtain⟨g',e,H,hr⟩:=h.ent y v hv;exact⟨g',e,H,hr.keptm hg (λe=>H (by rw[e];exact E))⟩
theorem Mt.box {q:Mq} (E:q.ok) {A:Nat->Prop} {W:Γ} {n:Nat} {f:Nat × Nat->Option Δ} (h:Mt q A W n f):W.heap[q.gM]? = J (Β #[U (J ⟨q.bx,q.ox,I⟩) q.xs.length q.cx,q.vb,.map (J q.gK)] 123 (0,0)):=
 Du h.gr E.ne E.hM
theorem Mt.node {q:Mq} (E:q.ok) {A:Nat->Prop} {W:Γ} {n:Nat} {f:Nat × Nat->Option Δ} (h:Mt q A W n f) (i:Nat) (hi:i<q.xs.length):W.rangeAt q.bx (q.ox+i*9) (rnC (q.xs.getD i ⟨0,0,0,0#256,0,0⟩)).toList:=λj v G=>by have hc:=E.rx i hi j v G;rw[h.gr.cell_far _ (Ϻ q.W0 _ hc) (by simp;exact Lo rfl hc E.ne)];exact hc
theorem Mt.word {q:Mq} (E:q.ok) {A:Nat->Prop} {W:Γ} {n:Nat} {f:Nat × Nat->Option Δ} (h:Mt q A W n f):By W q.vb q.b:=Sl.keptm E.by_ (by decide) h.gr E.ne
def DQ (q:Mq) (A:Nat->Prop) (W:Γ) (f:Nat × Nat->Option Δ) (node:Nat) (row:List Bool) (e:Ending) (w':Γ):Prop:=
 ∃ g G E,e=Ψ (U (J ⟨g,0,I⟩) (q.b.length+1) (q.b.length+1))/\¬ A g/\RowAt w' g row/\Mt q A w' G E/\(∀ y,node<y.1->E y=f y)/\W.grownBy w' (J q.gK)
def Pe (q:Mq) (node:Nat):Prop:=∀ (A:Nat->Prop) (W:Γ) n f i,i<=q.b.length->Mt q A W n f->ϛ Η 53 #[ε (J ⟨q.gM,0,I⟩),iv node,iv i] W λe w'=>DQ q A W f node (Bh (A4 q.xs node) q.b i) e w'
def ZF (q:Mq) (A:Nat->Prop) (W:Γ) (f:Nat × Nat->Option Δ) (node:Nat) (row:List Bool) (e:Ending) (w':Γ):Prop:=
 ∃ g G E,e=Ψ (U (J ⟨g,0,I⟩) (q.b.length+1) (q.b.length+1))/\W.heap.size<=g/\w'.ownsRow W.heap.size 4 1 (U (J ⟨g,0,I⟩) (q.b.length+1) (q.b.length+1)) (q.b.length+1) (row.map ϊ)/\Mt q (λk=>A k\/k=g) w' G E/\(∀ y,node<y.1->E y=f y)/\W.grownBy w' (J q.gK)
noncomputable def Bv (L:Ag) (b:List UInt8) (S:List Bool) (n j:Nat):Bool:=(List.range n).any λm=>S.getD m Ε&&An L b m j
theorem ZA (L:Ag) (b:List UInt8) (S:List Bool) (n j:Nat):Bv L b S (n+1) j=(Bv L b S n j||(S.getD n Ε&&An L b n j)):=by unfold Bv;rw[List.range_succ,List.any_append,List.any_cons,List.any_nil,Bool.or_false]
theorem YZ {L:Ag} {b:List UInt8} {S:List Bool} {n j:Nat}:Bv L b S n j=Α↔∃ m,m<n/\S.getD m Ε=Α/\hit L b m j:=by
 unfold Bv;rw[List.any_eq_true];constructor
 ·rintro⟨m,h1,E⟩;simp only[Bool.and_eq_true] at E;exact⟨m,ϔ.1 h1,E.1,hitB_true.1 E.2⟩
 rintro⟨m,h1,E,G⟩;exact⟨m,ϔ.2 h1,by rw[E,hitB_true.2 G];rfl⟩
noncomputable def Kn (L:Ag) (b:List UInt8) (S:List Bool):List Bool:=Bd (b.length+1) (Bv L b S (b.length+1))
def DU (q:Mq) (node:Nat):Prop:=∀ (A:Nat->Prop) (W:Γ) n f (E:Nat) (S:List Bool),Mt q A W n f->S.length=q.b.length+1->RowAt W E S->ϛ Η 103 #[ε (J ⟨q.gM,0,I⟩),iv node,U (J ⟨E,0,I⟩) (q.b.length+1) (q.b.length+1)] W λe w'=>ZF q A W f node (Kn (A4 q.xs node) q.b S) e w'
theorem DI (q:Mq) (hq:q.ok) (node:Nat) (hE:Pe q node):DU q node:=by
 intro A W n f gs S hM hS hR;have cc:=Z hE;have cd:=Z hM;have HQ:=Z hq;have hb:=hq.hb;obtain⟨i0,hi,cg,cj,ck⟩:=ϓ Fi;have cl:=Lo rfl (hR 0 (by omega)) hM.map;have HS:=Z hS;have HR:=Z hR;obtain⟨N,hN⟩:=Xq (q.b.length+1);have H:=Z hN;have c9:N<=1001:=by omega
 have da:0<N:=by omega
 rw[hN];clear hE hM hq hS hR hN hb;go_enter Tryz.func103,Tryz.ntmps103;go_upto_region 2 with (at_make;refine Ϟ _ rfl _ _ 38 rfl W.heap.size 4 i0 (.bool Ε) 1 Tryz.underlying38 hi cg cj Φ Φ _ _ N rfl rfl rfl rfl (by rw[ck];omega) (by unfold ϐ;omega) (Υ _) ?_;intro w1 au aw)
 have bh:Ext W w1:=(Κ W).grown aw (λk e=>by cases e);have bj:W.heap.size<w1.heap.size:=by have:=(au.lt W.heap.size rfl).2;exact this
 have ax:=cd.o.fresh bh bj;have bk:W.grownBy w1 (J q.gK):=Eb aw;have ae:w1.ownsRow W.heap.size 4 1 (U (J ⟨W.heap.size,0,I⟩) N N) N ((Bd N (Bv (A4 q.xs node) q.b S 0)).map ϊ):=by
  have:Bd N (Bv (A4 q.xs node) q.b S 0)=θ N Ε:=by
   apply Ϯ;intro j;simp only[Bd,ν,List.getElem?_replicate];by_cases hj:j<N
   ·simp[hj,Bv]
   simp[hj]
  rw[this,<-B8];exact au
 obtain⟨L,hL⟩:=Xq (A4 q.xs node);rw[hL] at ae;obtain⟨E,ag⟩:=Xq (W.heap.size);have az:ϟ (W.heap.size=E):=Z ag;rw[ag] at ae ax;have HL:=Z hL;simp only[ag];clear au aw bh bj hL ag;go_wp2_with (fail);go_loopw [17] (λvi W'=>∃ (i n':Nat) (f':Nat × Nat->Option Δ),i<=N/\vi=.int Φ i/\ϟ (Mt q (λk=>A k\/k=E) W' n' f')/\W'.ownsRow E 4 1 (U (J ⟨E,0,I⟩) N N) N ((Bd N (Bv L q.b S i)).map ϊ)/\ϟ (∀ y,node<y.1->f' y=f y)/\ϟ (W.grownBy W' (J q.gK)))
  (λvi _=>N-(intOf vi).toNat)
 case atStart=>exact⟨0,n,f,by omega,rfl,Z ax,ae,Z λ_ _=>rfl,Z bk⟩
 clear ax ae bk;obtain⟨i,n1,f1,db,rfl,HM,X,HF,HG⟩:=hrel;by_cases cq:i<N
 ·have dc:(i:Int)<(N:Int):=by omega
  have cS:=(HR.o.keptm HG.o cl) i (by rw[HS.o,H.o];exact cq);have bo:=Z (λj=>ZA L q.b S i j);obtain⟨s,hs⟩:=Xq (S.getD i Ε);rw[hs] at cS;have bp:=Z hs;clear hs;cases s with
  | false=>
   have aj:wr.ownsRow E 4 1 (U (J ⟨E,0,I⟩) N N) N ((Bd N (Bv L q.b S (i+1))).map ϊ):=by rw[Cz (λj _=>by rw[bo.o j,bp.o];simp:∀ j,j<N->Bv L q.b S (i+1) j=Bv L q.b S i j)];exact X
   clear X;go_wp2;go_roundw
   case rel=>exact⟨i+1,n1,f1,by omega,by go_num,HM,aj,HF,HG⟩
   simp[intOf];omega
  | true=>
   have f89:=Z (cc.o _ wr n1 f1 i (by have:=H.o;omega) HM.o);rw[HL.o] at f89;go_wp2_with (go_at_call 53;(with_reducible refine f89.o.mono ?_);rintro e w2 ⟨ge,n2,f2,rfl,bt,bu,bw,bz,b0⟩;rw[H.o];have cu:=Z bt;have aa:=Z bu;have b4:=Z bw;have cv:=Z bz;have b5:=Z b0;clear bt bu bw bz b0);have cw:ϟ (ge≠E):=Z λe=>cu.o (.inr e)
   have cy:ϟ (W.heap.size<=E):=Z (Ô az.o);have aj:=X.kept b5.o (.inr λe=>by have h1:=(HM.o.al E (.inr rfl)).1;have h2:=HQ.o.hK;simp[Δ.ownBlock] at e;omega)
   have G:w2.ownsRow E 4 1 (U (J ⟨E,0,I⟩) N N) N ((Bd N (λx=>if x<0 then Bv L q.b S (i+1) x else Bv L q.b S i x)).map ϊ):=by rw[Cz (λj _=>by rw[if_neg (by omega)]:∀ j,j<N->(if j<0 then Bv L q.b S (i+1) j else Bv L q.b S i j)=Bv L q.b S i j)];exact aj
   have ab:=Z (SD HG.o b5.o);have cz:ϟ (∀ y,node<y.1->f2 y=f y):=Z λy T=>(cv.o y T).trans (HF.o y T)
   clear X aj f89 cS;go_loopw [28] (λvj W'=>∃ j:Nat,j<=N/\vj=.int Φ j/\ϟ (Mt q (λk=>A k\/k=E) W' n2 f2)/\W'.ownsRow E 4 1 (U (J ⟨E,0,I⟩) N N) N ((Bd N (λx=>if x<j then Bv L q.b S (i+1) x else Bv L q.b S i x)).map ϊ)/\ϟ (RowAt W' ge (Bh L q.b i))/\ϟ (W.grownBy W' (J q.gK)))
    (λvj _=>N-(intOf vj).toNat)
   case atStart=>exact⟨0,by omega,rfl,b4,G,aa,ab⟩
   clear G b4 aa ab;obtain⟨j,de,rfl,b6,G,aa,ab⟩:=hrel;by_cases ak:j<N
   ·have df:(j:Int)<(N:Int):=by omega
    have cL:=Au Ε G (Ck _ _).symm j (by rw[Ck];exact ak);rw[Fr _ _ _ ak,if_neg (by omega)] at cL;have cE:=aa.o j (by rw[Fd,H.o];exact ak);unfold Bh at cE;rw[Fr _ _ _ (by rw[H.o];exact ak)] at cE;have fz:=G.frozenAt j;have b8:∀ v,Bv L q.b S (i+1) j=v->∀ x,x<N->(if x=j then v else if x<j then Bv L q.b S (i+1) x else Bv L q.b S i x)=if x<j+1 then Bv L q.b S (i+1) x else Bv L q.b S i x:=λv hv x _=>by
     by_cases e1:x=j
     ·subst e1;rw[if_pos rfl,if_pos (by omega),hv]
     by_cases e2:x<j
     ·rw[if_neg e1,if_pos e2,if_pos (by omega)]
     rw[if_neg e1,if_neg e2,if_neg (by omega)]
    obtain⟨x,hx⟩:=Xq (Bv L q.b S i j);obtain⟨y,T⟩:=Xq (An L q.b i j);rw[hx] at cL;rw[T] at cE;have HX:=Z hx;have HY:=Z T;clear hx T;obtain⟨v,hv⟩:=Xq ((x||y));obtain⟨hP,an⟩:=Ba (f:=ϊ) G j v;have c3:(wr.setCell ⟨E,j,I⟩ (.bool v)).ownsRow E 4 1 (U (J ⟨E,0,I⟩) N N) N ((Bd N (λx=>if x<j+1 then Bv L q.b S (i+1) x else Bv L q.b S i x)).map ϊ):=by rw[Gk,Cz (b8 v (by rw[bo.o,bp.o,HX.o,HY.o];exact hv))] at hP;exact hP
    have c4:=Z (b6.o.own HQ.o an (.inr rfl));have c5:=Z (aa.o.keptm an cw.o);have c6:=Z (Gq ab.o an cy.o);clear hP an G b8 HX HY;cases x<;>cases y
    all_goals
     first
     | (obtain rfl:Α=v:=hv)
     | (obtain rfl:Ε=v:=hv)
     go_wp2;go_roundw
     case rel=>exact⟨j+1,by omega,by go_num,c4,c3,c5,c6⟩
     simp[intOf];omega
   obtain rfl:N=j:=by omega
   have c7:wr.ownsRow E 4 1 (U (J ⟨E,0,I⟩) N N) N ((Bd N (Bv L q.b S (i+1))).map ϊ):=by rw[Cz (λj hj=>by rw[if_pos hj]:∀ j,j<N->(if j<N then Bv L q.b S (i+1) j else Bv L q.b S i j)=Bv L q.b S (i+1) j)] at G;exact G
   clear G;go_wp2;go_roundw
   case rel=>exact⟨i+1,n2,f2,by omega,by go_num,b6,c7,cz,ab⟩
   simp[intOf];omega
 obtain rfl:N=i:=by omega
 go_wp2;go_ret;refine⟨E,n1,f1,by rw[H.o];rfl,Ô az.o,?_,HM.o,HF.o,HG.o⟩;rw[H.o,az.o];unfold Kn;rw[H.o,HL.o];exact X
open Go Go.RowKit
theorem W4 {W:Γ} {base e size:Nat} {v:Δ} {n:Nat} {xs:List Δ} (h:W.ownsRow base e size v n xs):W.ownsRow 0 e size v n xs:=by
 obtain⟨E,h|⟨g,G,cur,H,hb,h⟩⟩:=h
 ·exact⟨E,.inl h⟩
 exact⟨E,.inr ⟨g,G,cur,H,Nat.zero_le _,h⟩⟩
variable {n:Nat} {P:Program}
end Go.Proofs.YtilncahcpjlfnaaGreatDoor
