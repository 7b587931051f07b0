import Derived.OrdersHeld
import Derived.Test.YtilncahcpjlfnaaGreatDoorN01
import Derived.Deep.DeepCutAuto
import Derived.Test.YtilncahcpjlfnaaGreatDoorN02
set_option linter.unusedVariables false
set_option linter.unusedSimpArgs false
set_option maxRecDepth 100000
set_option maxHeartbeats 4000000
open Array renaming replicate → ä
open Bool renaming true → Α, false → Ε, and_eq_true → ς
open Go renaming Oper → Ϭ, Act → ë, World → Γ, Value → Δ, getD_replicate_false → ϛ, yielded → ð, cell_of_row → Τ, info_parts → ϑ, wpList_make_full → Ϛ, maxLen → ϐ, wpList_append_lies → ϕ, cell_one_new → Õ
open Go.IntKind renaming i64 → Χ, u8 → â, u64 → γ
open Go.Lib renaming hid → Z
open Go.Obj renaming cells → Β
open Go.Proofs.Tryz renaming prog → Ι, underlying54 → ϝ, underlying22 → ϡ
open Go.Region renaming ready → Ϯ, wanted → Ϡ
open Go.RowKit renaming Hid → ϟ
open Go.Value renaming slice → U, oneCell' → ξ, bool → ψ
open Go.World renaming size_alloc → Ο, ownsRow_nil → ϰ, ownsRow → ϣ
open List renaming range → π, replicate → ζ, ext_getElem? → Ϩ, getElem?_map → υ, getElem?_replicate → Ì, map_cons → ÿ, map_append → ϥ, length_append → Ν, length_set → ο, length_map → ι, getD_eq_getElem?_getD → Ζ, nodup_iff_pairwise_ne → Ù, pairwise_iff_getElem → Ϧ, getElem?_eq_getElem → Θ, mem_range → ώ, getElem?_eq_some_iff → ν, mem_singleton → ϖ, mem_append → Ä, mem_map → Ϫ, drop_eq_getElem_cons → ϱ
open Nat renaming le_refl → Υ, lt_of_lt_of_le → Ξ, le_of_eq → Ñ
open Option renaming some → I, none → J, isSome → æ, getD_some → Ç
open UInt8 renaming ofNat → ϔ
namespace Go.Proofs.YtilncahcpjlfnaaGreatDoor
open Go
section
variable {P:Program} {md:Region.Mode} {ops:Array Oper} {Q:Exit->Act->World->Prop} {C:World->Prop} {n:Nat}
def Jw (P:Program) (md:Region.Mode) (ops:Array Ϭ) (Q:Exit->ë->Γ->Prop) (C:Γ->Prop) (n:Nat):Nat->Array Bool->ë->Γ->Prop
 | 0,listed,a,w=>Ϯ md ops listed=[]/\Q .normal a w
 | f+1,listed,a,w=>(Ϯ md ops listed=[]->Q .normal a w)/\∀ i∈Ϯ md ops listed,wpOp P ops Q i (λE w'=>(i<n->C w')/\Jw P md ops Q C n f (listed.setIfInBounds i Α) E w') a w
theorem Sj:∀ (f:Nat) (listed:Array Bool) (a:ë) (w:Γ),Jw P md ops Q C n f listed a w->wpAny P md ops Q f listed a w
 | 0,_,_,_,h=>h
 | f+1,_,_,_,h=>⟨h.1,λi hi=>wpOp_mono (λ_ _ E=>Sj f _ _ _ E.2) (h.2 i hi)⟩
theorem BA {i:Nat} {oi:Ϭ} {v:Δ} (hi:ops[i]? = I oi) (af:∀ (j:Nat) (o:Ϭ) cs b,ops[j]? = I o->o.op≠.select cs b)
  (hs:Region.sinkB md ops n=Α) (hc:Region.chainB md ops n=Α) (hn:n<ops.size) (ar:i<n)
  (hQ:∀ c a w,Q (.panic c) (a.put oi.dst v) w->Q (.panic c) a w) :
  ∀ (f:Nat) (listed:Array Bool) (a:ë) (w:Γ),HeadInv md ops n listed->(∀ j oj,ops[j]? = I oj->j≠i->listed.getD j Α=Ε->(∀ e∈oj.after,Region.binds md e=Α->e.on≠i)->oi.apart ops oj=Α)->i∈Ϯ md ops listed->YieldsIf P ops C oi v a->C w->
   Jw P md ops Q C n f (listed.setIfInBounds i Α) (a.put oi.dst v) w->Jw P md ops Q C n (f+1) listed a w:=by
 intro f;induction f with
 | zero=>
  intro listed a w _ _ G hy X H;refine⟨λh=>(by rw[h] at G;cases G),λj T=>?_⟩;by_cases E:j=i
  ·subst E;exact hy.wpOp hi X ⟨λ_=>X,H⟩
  have:=ready_mono T E;rw[H.1] at this;cases this
 | succ f ih=>
  intro listed a w ag ah G hy X H;have ai:=(mem_ready.1 G).1;refine⟨λh=>(by rw[h] at G;cases G),λj T=>?_⟩;by_cases E:j=i
  ·subst E;exact hy.wpOp hi X ⟨λ_=>X,H⟩
  have ad:j<n:=Nat.lt_of_not_le λh=>tail_waits hs hc hn ag _ i rfl ar ai j h T
  have h1:=H.2 j (ready_mono T E);obtain⟨aj,oj,ae,ax⟩:=mem_ready.1 T;have ay:∀ e∈oj.after,Region.binds md e=Α->e.on≠i:=λe he hb az=>by have h1:=ax e he hb;rw[az,getD_both ai] at h1;cases h1
  have h2:=wpOp_putIf ae (ah j oj ae E aj ay) (λcs b=>af i oi cs b hi) (λcs b=>af j oj cs b ae) hQ hy h1;have a6:∀ k ok,ops[k]? = I ok->k≠i->(listed.setIfInBounds j Α).getD k Α=Ε->
    (∀ e∈ok.after,Region.binds md e=Α->e.on≠i)->oi.apart ops ok=Α:=λk ok hk a8 ak ba=>by
   refine ah k ok hk a8 ?_ ba;by_cases an:j=k
   ·subst an;exact aj
   rw[getD_set_ne Α an] at ak;exact ak
  refine wpOp_mono (λa' w' h3=>⟨λ_=>h3.2.1 ad,ih (listed.setIfInBounds j Α) a' w' (ag.set T ad) a6 (ready_mono G (Ne.symm E)) h3.1 (h3.2.1 ad) ?_⟩) h2;rw[Array.setIfInBounds_comm _ _ E];exact h3.2.2
def Db (P:Program) (ops:Array Ϭ) (Q:Exit->ë->Γ->Prop) (C:Γ->Prop) (n:Nat):List (Nat × Bool)->ë->Γ->Prop
 | [],a,w=>Q .normal a w
 | (i,Α)::is,a,w=>∃ o v,ops[i]? = I o/\YieldsIf P ops C o v a/\Db P ops Q C n is (a.put o.dst v) w
 | (i,Ε)::is,a,w=>wpOp P ops Q i (λE w'=>(i<n->C w')/\Db P ops Q C n is E w') a w
def Ht (md:Region.Mode) (ops:Array Ϭ) (n:Nat):List (Nat × Bool)->Array Bool->Bool
 | [],listed=>(Ϯ md ops listed).isEmpty
 | (i,Α)::is,listed=>(Ϯ md ops listed).contains i&&decide (i<n)&&Region.free md ops listed i&&Ht md ops n is (listed.setIfInBounds i Α)
 | (i,Ε)::is,listed=>decide (Ϯ md ops listed=[i])&&(is.isEmpty||decide (i<n))&&Ht md ops n is (listed.setIfInBounds i Α)
theorem Sk (ad:Region.noSelect ops=Α) (hs:Region.sinkB md ops n=Α) (hc:Region.chainB md ops n=Α) (hn:n<ops.size)
  (hQ:∀ c a tm w,Q (.panic c) { tmps:=tm,defers:=a.defers } w->Q (.panic c) a w):∀ (is:List (Nat × Bool)) (listed:Array Bool) (a:ë) (w:Γ),(is≠[]->HeadInv md ops n listed)->Ht md ops n is listed=Α->(is≠[]->C w)->Db P ops Q C n is a w->Jw P md ops Q C n is.length listed a w
 | [],listed,a,w,_,E,_,h=>⟨by simpa [Ht] using E,h⟩
 | (i,Α)::is,listed,a,w,G,E,H,⟨o,v,ho,hy,h⟩=>by
  simp only[Ht,ς,decide_eq_true_eq] at E;obtain⟨⟨⟨T,X⟩,hf⟩,ah⟩:=E;have aa:i∈Ϯ md ops listed:=by simpa using T
  have G:=G (by simp);have H:=H (by simp);exact BA ho (Region.noSelect_spec ad) hs hc hn X (λc a w hp=>by
    cases hd:o.dst with
    | none=>rw[hd] at hp;exact hp
    | some t=>rw[hd] at hp;exact hQ c a _ w hp) _ listed a w G (Region.free_spec ho hf) aa hy H
   (Sk ad hs hc hn hQ is _ _ w (λ_=>G.set aa X) ah (λ_=>H) h)
 | (i,Ε)::is,listed,a,w,G,E,H,h=>by
  simp only[Ht,ς,decide_eq_true_eq,Bool.or_eq_true,List.isEmpty_iff] at E;obtain⟨⟨T,X⟩,ah⟩:=E;have aa:i∈Ϯ md ops listed:=by rw[T];simp
  refine⟨λh1=>(by rw[T] at h1;cases h1),λj hj=>?_⟩;rw[T] at hj;have:j=i:=by simpa using hj
  subst this;refine wpOp_mono (λa' w' h'=>⟨h'.1,Sk ad hs hc hn hQ is _ a' w' (λaj=>?_) ah (λaj=>?_) h'.2⟩) h
  ·rcases X with h0|h0
   ·exact absurd h0 aj
   exact (G (by simp)).set aa h0
  rcases X with h0|h0
  ·exact absurd h0 aj
  exact h'.1 h0
def Uy (md:Region.Mode) (ops:Array Ϭ) (n:Nat) (is:List (Nat × Bool)):Bool:=
 Region.noSelect ops&&Region.sinkB md ops n&&Region.chainB md ops n&&decide (n<ops.size)&&decide (is.length=ops.size)&&Ht md ops n is (ä ops.size Ε)
theorem Bq {id:Nat} {a:ë} {w:Γ} (n:Nat) (is:List (Nat × Bool)) (hm:P.follows .mixedOrders=Α) (E:Uy .any ops n is=Α) (T:∀ c a X w,Q (.panic c) { tmps:=X,defers:=a.defers } w->Q (.panic c) a w)
  (C:Γ->Prop) (hC:C w.drew) (h:Db P ops Q C n is a w.drew):(Code.region id ops Α).wp P Q a w:=by
 simp only[Uy,ς,decide_eq_true_eq] at E;obtain⟨⟨⟨⟨⟨ab,hs⟩,hc⟩,hn⟩,G⟩,E⟩:=E;refine wp_region_any hm (Sj (C:=C) (n:=n) _ _ _ _ ?_);rw[<-G];have af:HeadInv .any ops n (ä is.length Ε):=by rw[G];exact⟨by simp,λj oj _ H=>(by rw[ϛ] at H;cases H),λt _ ht=>getD_in (by simpa using ht) (ϛ _ _)⟩
 exact Sk ab hs hc hn T is _ a _ (λ_=>af) (by rw[G];exact E) (λ_=>hC) h
theorem Bn {a:ë} {w:Γ} (h:Q .normal a w):Db P ops Q C n [] a w:=h
theorem Gt {i:Nat} {is:List (Nat × Bool)} {o:Ϭ} {v:Δ} {a:ë} {w:Γ} (h0:ops[i]? = I o) (E:Ϡ o (ð ops a.tmps)=Α) (G:∀ W,C W->(execOp a.eval o).run P W=.ok (.value v) W)
  (h:Db P ops Q C n is (a.put o.dst v) w):Db P ops Q C n ((i,Α)::is) a w:=⟨o,v,h0,.inl ⟨E,G⟩,h⟩
theorem Dz {i:Nat} {is:List (Nat × Bool)} {o:Ϭ} {a:ë} {w:Γ} (h0:ops[i]? = I o)
  (h:∀ K:ë->Γ->Prop,(∀ E w',(i<n->C w')->Db P ops Q C n is E w'->K E w')->if Ϡ o (ð ops a.tmps)=Α then Ϭ.wp P o a w K Q else K (a.put o.dst undef) w):Db P ops Q C n ((i,Ε)::is) a w:=by
 show wpOp P ops Q i _ a w;unfold wpOp;rw[h0];have:=h _ (λE w' hc H=>And.intro hc H);show if _ then _ else _
 by_cases G:Ϡ o (ð ops a.tmps)=Α
 ·rw[if_pos G] at this ⊢;exact .inl this
 rw[if_neg G] at this ⊢;exact this
end
open Go.RowKit Go.Shelf
def ov:Option Nat->Δ
 | none=>.int Χ (-1)
 | some i=>iv i
theorem IW (o:Option Nat):∃ z:Int,ov o=.int Χ z/\(o=J->z=-1)/\∀ i,o=I i->z=(i:Int):=by
 cases o with
 | none=>exact⟨-1,rfl,λ_=>rfl,λi h=>by cases h⟩
 | some i=>exact⟨i,rfl,(by intro h;cases h),λj h=>by cases h;rfl⟩
def Eh (n k:Nat):List (Option Nat):=(π n).map λq=>if q<k then J else I 0
theorem Ii (n k:Nat):(Eh n k).length=n:=by simp[Eh]
theorem Q0 (n:Nat):Eh n 0=ζ n (I 0):=by
 apply Ϩ;intro i;simp only[Eh,υ,Ì,Nat.not_lt_zero,if_false];by_cases h:i<n
 ·simp[h]
 simp[h]
theorem Q2 (n:Nat):Eh n n=ζ n J:=by
 apply Ϩ;intro i;simp only[Eh,υ,Ì];by_cases h:i<n
 ·simp[h]
 simp[h]
theorem Q1 (n k:Nat) (E:k<n):(Eh n k).set k J=Eh n (k+1):=by
 apply Ϩ;intro i;rw[List.getElem?_set,Ii];simp only[Eh,υ];by_cases h:i<n
 ·rw[List.getElem?_range h];by_cases e:k=i
  ·subst e;simp[E]
  simp only[e,if_false,Option.map_some];by_cases h1:i<k
  ·rw[if_pos h1,if_pos (by omega)]
  rw[if_neg h1,if_neg (by omega)]
 rw[if_neg (by omega)];simp[h]
theorem JU (x:UInt8) (y:Nat) (E:y<256):(ofL [x]).getLsbD y=Α↔y=x.toNat:=by show (Ax 0#256 (x.toNat:Int)).getLsbD y=Α↔_;rw[Jk _ _ _ x.toNat_lt];simp
theorem MJ (z:Nat) (E:z<65536):(Bp z).map bv=[.int .u8 ((z:Int) % 256),.int .u8 ((z:Int) / 256)]:=by simp only[Bp,ÿ,List.map_nil,bv,UInt8.toNat_ofNat'];rw[show z / 256 % 2 ^ 8=z / 256 by omega];simp
theorem UB (w:Γ) (x:UInt8):By (w.alloc (Β #[bv x] 5)) (U (I ⟨w.heap.size,0,J⟩) 1 1) [x]:=by
 refine⟨by simp,.inr ⟨by simp,w.heap.size,0,1,rfl,by rw[Ο];omega,λi hi=>?_⟩⟩;have:i<1:=by simpa using hi
 obtain rfl:i=0:=by omega
 exact Τ _ w.heap.size 0 _ _ _ (Ad w _)
theorem UA (w:Γ) (b:Nat):By (w.alloc (Β #[.int .u8 (â.wrap (b:Int))] 5)) (U (I ⟨w.heap.size,0,J⟩) 1 1) [ϔ b]:=
 UB w (ϔ b)
theorem LI (t:Tbl) (hv:TVal t) (hn:t.n.length<=65536) (N R:List Nat) (hN:N.length=t.n.length) (ht:0<R.length) (jn:R.length<=65536) (ep:∀ i,i<R.length->R.getD i 0<t.n.length)
  (hB:∀ i,i<R.length->∀ k,k<t.cells->N.getD (t.ent2 (R.getD i 0) k) 0<65536) (A:Array Δ) (vN vR:Δ) (w:Γ) (h:IsT w A t) (eu:Ints w vN N) (ev:Ints w vR R) :
  Calls Ι 69 #[.agg A,vN,vR] w λe w'=>∃ vK vC K C,e=.returned (.tuple #[vK,vC])/\Merged t (λs=>N.getD s 0) R K C/\Ints w' vK K/\Cs w' vC C/\Ext w w':=by
 obtain⟨bn,on,cn,ba,oa,ca,h2,h3,ez,e0,e1,_,hR,_⟩:=h.opened hv;have e3:Sl w vN 1 t.n.length (λi=>iv (N.getD i 0)):=by rw[<-hN];exact eu
 obtain⟨bN,oN,cN,rfl,e4⟩:=Ü e3 hv.pos;obtain⟨bR,oR,cR,rfl,e5⟩:=Ü ev ht;have jz:=hv.pos;have j0:=hv.cpos;have j1:=hv.cle;have HR:=Z hR;have HV:=Z hv;have e6:=Z hB;have h5:=Z ep;have h6:=Z (λk (hk:k<t.n.length)=>e4 k (by omega));have h7:=Z (λk (hk:k<R.length)=>e5 k (by omega));obtain⟨i0,hi,e8,e9,fa⟩:=ϑ Ds;obtain⟨i5,fc,fe,ff,fg⟩:=ϑ (show (Ι.info? 5).map (λi=>(i.zero,i.size,i.bytes))=I (I (.int .u8 0),1,1) by kernel_rfl);obtain⟨i6,ia,ib,ic,ie⟩:=ϑ (show (Ι.info? 91).map (λi=>(i.zero,i.size,i.bytes))=I (I (.agg zA),4,32) by kernel_rfl);have b7:=(Κ w).alloc (Β A 84);have H0:=Ad w (Β A 84);have HK:=Z (λ(W:Γ) (E:Ext (w.alloc (Β A 84)) W)=>(Τ W w.heap.size 257 _ _ _ (E.heap H0)).trans e1);have fj:=Z (λ(W:Γ) (E:Ext (w.alloc (Β A 84)) W)=>(Τ W w.heap.size 256 _ _ _ (E.heap H0)).trans e0);have fk:=Z (λ(W:Γ) (E:Ext (w.alloc (Β A 84)) W) (b:Nat) (hb:b<256)=>(Τ W w.heap.size b _ _ _ (E.heap H0)).trans (ez b hb));clear hR hv h H0 e0 e1 ez h3 h2 e4 e5 eu e3 ev ep hB hN;have ig:=@run_makeMap Ι;go_enter Tryz.func69,Tryz.ntmps69;go_upto_region 1 with (fail)
 obtain⟨w1,dg⟩:=Xq (w.alloc (Β A 84));rw[dg] at b7 HK fj fk;simp only[dg];clear dg;go_upto_region 2 with (fail)
 clear ig;have dh:=(Κ w1).alloc (.map #[] 0);have fl:=Ig w1 9 Co;have fm:(w1.alloc (.map #[] 0)).heap.size=w1.heap.size+1:=Ο _ _;obtain⟨w3,fp⟩:=Xq (w1.alloc (.map #[] 0));simp only[fp] at *;clear fp;have k6:=fj.o w3 dh;go_upto_region 5 with (at_make;refine Ϛ _ rfl _ _ 54 rfl w3.heap.size 3 i0 (.int Χ 0) 1 ϝ hi e8 e9 Χ Χ _ _ t.cells rfl rfl rfl rfl (by rw[fa];omega) (by unfold ϐ;omega) (Υ _) ?_;intro w4 fq dk)
 have ae:=dh.grown dk (λk e=>by cases e);have G:w4.ownsRow w3.heap.size 3 1 (U (I ⟨w3.heap.size,0,J⟩) t.cells t.cells) t.cells ((Eh t.cells 0).map ov):=by rw[Q0,<-B7];exact fq
 have af:=fl.kept dk (by simp);have ah:w1.heap.size+1<w4.heap.size:=by have:w3.heap.size<w4.heap.size:=(G.lt _ rfl).2;omega
 rw[fm] at G;clear fq dk fl dh k6;generalize j2:w3.heap.size=gn at *;obtain rfl:gn=w1.heap.size+1:=fm;go_wp2_with (fail);go_loopw [27] (λi W=>∃ k:Nat,k<=t.cells/\i=.int Χ k/\Ext w1 W/\w1.heap.size+1<W.heap.size/\W.ownsRow (w1.heap.size+1) 3 1 (U (I ⟨w1.heap.size+1,0,J⟩) t.cells t.cells) t.cells ((Eh t.cells k).map ov)/\IsMp W 9 Co w1.heap.size 0 (λ_=>J))
  (λi _=>t.cells-(intOf i).toNat)
 case atStart=>exact⟨0,by omega,rfl,ae,ah,G,af⟩
 clear ae ah G af;obtain⟨k,hk,rfl,ae,ah,G,af⟩:=hrel;by_cases bk:k<t.cells
 ·have co:=Aq J G (Ii _ _).symm k (by rw[Ii];exact bk);have fo:=G.frozenAt k;obtain⟨aa,ai⟩:=Ba G k J;rw[Q1 _ _ bk] at aa;have T:=ae.grown ai (λk e=>by cases e;omega);have ab:=af.kept ai (by simp);have ao:=Ξ ah ai.size;clear ai G ae af;go_wp2_with (fail);go_roundw
  case rel=>exact⟨k+1,by omega,by go_num,T,ao,aa,ab⟩
  simp[intOf];omega
 obtain rfl:k=t.cells:=by omega
 rw[Q2] at G;have aq:=ϰ wr (w1.heap.size+1+1) 3 1;have ad:=ϰ wr (w1.heap.size+1+1) 91 4;go_wp2_with (fail);go_loopw [9,10,34] (λvk vc i W=>∃ (b:Nat) (bs:List Nat) (c:Nat->Nat) (f:List UInt8->Option Nat) (O:List (Option Nat)) (C:List Cls) (ak ac:Option Addr) (ck cc:Nat),b<=256/\i=.int Χ b/\vk=U ak bs.length ck/\vc=U ac C.length cc/\Ext w1 W/\w1.heap.size+1<W.heap.size/\W.ownsRow (w1.heap.size+1) 3 1 (U (I ⟨w1.heap.size+1,0,J⟩) t.cells t.cells) t.cells (O.map ov)/\IsMp W 9 Co w1.heap.size bs.length f/\W.ownsRow (w1.heap.size+1+1) 3 1 vk bs.length ((bs.map t.cell).map iv)/\Row W (w1.heap.size+1+1) vc C/\ϟ (MInv t.cell t.cells (Jp t (λs=>N.getD s 0) R) b b c bs f O C))
  (λ_ _ i _=>256-(intOf i).toNat)
 case atStart=>exact⟨0,[],_,_,_,[],J,J,0,0,by omega,rfl,rfl,rfl,ae,ah,G,af,aq,ad,Z (KW _ _ _ λ_=>0)⟩
 clear ae ah G af aq ad;obtain⟨b,bs,c,f,O,C,ak,ac,ck,cc,hb,rfl,rfl,rfl,ae,ah,G,af,aq,ad,X⟩:=hrel;have ik:=X.o.fi.le;have cq:=Z X.o.lenC;have il:C.length<=256:=by rw[cq.o];omega
 by_cases bk:b<256
 ·obtain⟨w4,im⟩:∃ W,W=wr:=⟨_,rfl⟩;subst im;have kb:=fk.o w4 ae b bk;have ax:=HV.o.cell_lt b bk;have co:=Aq J G X.o.lenO.symm (t.cell b) (by rw[X.o.lenO];exact ax);have HS:=Z (KX X.o);have bl:=Z (KZ X.o ax);have bm:=Z (LA X.o ax);obtain⟨q,hq⟩:=Xq (t.cell b);have a7:ϟ (O.length=t.cells):=Z X.o.lenO;rw[hq] at kb ax co HS bl bm;have HQ:=Z hq;clear hq;obtain⟨o,ho⟩:=Xq (O.getD q J);rw[ho] at co HS bl bm;have HO:=Z ho;clear ho;obtain⟨z,hz,fu,fv⟩:=IW o;rw[hz] at co;have fw:=Z fu;have fx:=Z fv;clear hz fu fv;go_upto_if 45 with (fail)
  go_cut [9,10] (λvk vc W=>∃ (bs:List Nat) (c:Nat->Nat) (f:List UInt8->Option Nat) (O:List (Option Nat)) (C:List Cls) (ak ac:Option Addr) (ck cc:Nat),vk=U ak bs.length ck/\vc=U ac C.length cc/\Ext w1 W/\w1.heap.size+1<W.heap.size/\W.ownsRow (w1.heap.size+1) 3 1 (U (I ⟨w1.heap.size+1,0,J⟩) t.cells t.cells) t.cells (O.map ov)/\IsMp W 9 Co w1.heap.size bs.length f/\W.ownsRow (w1.heap.size+1+1) 3 1 vk bs.length ((bs.map t.cell).map iv)/\Row W (w1.heap.size+1+1) vc C/\ϟ (MInv t.cell t.cells (Jp t (λs=>N.getD s 0) R) (b+1) b c bs f O C))
  case first=>
   cases o with
   | some i=>
    have iu:=Z (HS.o i rfl);obtain rfl:=fx.o i rfl;go_wp2_with (fail);go_meet
    exact⟨bs,_,f,O,C,ak,ac,ck,cc,rfl,rfl,ae,ah,G,af,aq,ad,iu⟩
   | none=>
    obtain rfl:=fw.o rfl;go_upto_region 15 with (fail)
    go_upto_region 16 with (at_make;refine wpList_make_own _ rfl _ _ 22 rfl (w1.heap.size+1+1) 5 i5 (.int .u8 0) 1 ϡ fc fe ff Χ Χ _ (2*R.length) rfl rfl (by push_cast;rfl) (by rw[fg];omega) (by unfold ϐ;omega) (by omega) ?_;intro w5 fy ai)
    have T:=ae.grown ai (λk e=>by cases e);have aa:=Bz G ai;have aj:=Bz aq ai;have an:=Bz ad ai;have ab:=af.kept ai (by simp);have ao:w1.heap.size+1<w5.heap.size:=Ξ ah ai.size;obtain⟨gf,fz⟩:=Xq ((λk=>N.getD (t.ent2 (R.getD k 0) q) 0):Nat->Nat);have ga:=Z fz;have ag:w5.ownsRow (w1.heap.size+1+1) 5 1 (U (I ⟨w4.heap.size,0,J⟩) (2*0) (2*R.length)) (2*0) ((Bl gf 0).map bv):=fy;clear fz fy ai kb co;go_wp2_with (fail);go_loopw [15,52] (λv i W=>∃ (k gk dr:Nat),k<=R.length/\i=.int Χ k/\v=U (I ⟨gk,0,J⟩) (2*k) dr/\Ext w1 W/\w1.heap.size+1<W.heap.size/\W.ownsRow (w1.heap.size+1) 3 1 (U (I ⟨w1.heap.size+1,0,J⟩) t.cells t.cells) t.cells (O.map ov)/\IsMp W 9 Co w1.heap.size bs.length f/\W.ownsRow (w1.heap.size+1+1) 3 1 (U ak bs.length ck) bs.length ((bs.map t.cell).map iv)/\Row W (w1.heap.size+1+1) (U ac C.length cc) C/\W.ownsRow (w1.heap.size+1+1) 5 1 v (2*k) ((Bl gf k).map bv))
     (λ_ i _=>R.length-(intOf i).toNat)
    case atStart=>exact⟨0,w4.heap.size,_,by omega,rfl,rfl,T,ao,aa,ab,aj,an,ag⟩
    clear T ao aa ab aj an ag;obtain⟨k,gk,dr,hk,rfl,rfl,T,ao,aa,ab,aj,an,ag⟩:=hrel;obtain⟨w5,b9⟩:∃ W,W=wr:=⟨_,rfl⟩;subst b9;by_cases dt:k<R.length
    ·have cr:=(b7.t T).cell (h7.o k dt);have du:=h5.o k dt;have hz:=e6.o k dt q ax;obtain⟨s,dv⟩:=Xq (R.getD k 0);have dw:ϟ (gf k=N.getD (t.ent2 s q) 0):=Z (by rw[<-ga.o,<-dv]);rw[dv] at cr du hz;clear dv;have gb:=HV.o.tgt s du q ax;obtain⟨br,or',j4,iw,gd⟩:=(HR.o.ext (b7.t T)) s du;have cy:=gd q ax;have k7:=HK.o w5 T;obtain⟨y,gi⟩:=Xq (t.ent2 s q);rw[gi] at cy gb hz dw;clear gi gd;have cz:=(b7.t T).cell (h6.o y gb);obtain⟨z,gl⟩:=Xq (N.getD y 0);rw[gl] at hz dw cz;clear gl;go_upto_region 20 with (fail)
     clear cr cy cz iw k7;go_upto_region 21 with (at_builtin;refine ϕ _ rfl _ _ 22 rfl (w1.heap.size+1+1) 5 i5 (.int .u8 0) 1 1 ϡ fc fe ff fg rfl (by decide) _ _ _ rfl (ag.alloc _) _ 2 2 [.int .u8 ((z:Int) % 256),.int .u8 ((z:Int) / 256)] rfl rfl (Js _ _ _ _) (by simp[ξ]) (by decide) (by unfold ϐ;omega) (by omega) (by simp;omega) _ rfl ?_;intro g6 c6 w6 dx H _ _)
     have bb:Ext w1 w6:=(T.alloc _).grown H (λk e=>by have:=(ag.lt k e).1;omega);have bo:=(aa.alloc _).kept H (Aj aa ag (by decide));have ay:=(aj.alloc _).kept H (Aj aj ag (by decide));have bg:=(an.alloc _).kept H (Aj an ag (by decide));have bp:=(ab.alloc _).kept H (ab.ne_row ag);have cf:w1.heap.size+1<w6.heap.size:=by have h1:=H.size;rw[Ο] at h1;omega
     have dx:w6.ownsRow (w1.heap.size+1+1) 5 1 (U (I ⟨g6,0,J⟩) (2*(k+1)) c6) (2*(k+1)) ((Bl gf (k+1)).map bv):=by rw[show Bl gf (k+1)=Bl gf k++Bp z by rw[Bl,dw.o],ϥ,MJ z hz];exact dx
     clear aa aj an ab ag H T ao;go_wp2;go_roundw
     case rel=>exact⟨k+1,g6,c6,by omega,by go_num,rfl,bb,cf,bo,bp,ay,bg,dx⟩
     simp[intOf];omega
    obtain rfl:k=R.length:=by omega
    have bq:(Bl gf R.length).length=2*R.length:=Jq _ _;have dy:Jp t (λs=>N.getD s 0) R q=Bl gf R.length:=by show Bl (λk=>N.getD (t.ent2 (R.getD k 0) q) 0) R.length=_;rw[ga.o]
    obtain⟨ky,gp⟩:=Xq (Bl gf R.length);rw[gp] at bq dy ag;have dz:=Z dy;clear gp dy;have iy:(convert 22 9 (U (I ⟨gk,0,J⟩) (2*R.length) dr)).run Ι w5=.ok (Co ky) w5:=Kh _ _ _ (By.of_owns (by rw[bq];exact ag) (by rw[bq];omega));have ea:=Oo ky (by rw[bq];unfold ϐ;omega);have j5:=Z bq;clear bq;have bl:=Z (bl.o (by simp));have bm:=Z (bm.o (by simp));cases hf:f ky with
    | some i=>
     have bu:=Z (bl.o i (by rw[dz.o];exact hf));have co:=Aq J aa a7.o.symm q (by rw[a7.o];exact ax);have fo:=aa.frozenAt q;obtain⟨bo,H⟩:=Ba aa q (I i);have bb:=T.grown H (λk e=>by cases e;omega);have ay:=aj.kept H (Az aj (by omega));have bg:=an.kept H (Az an (by omega));have bp:=ab.kept H (by simp);have cf:=Ξ ao H.size;clear H aj aa an T ao;go_wp2_with (at_lookup;refine Dx rfl _ _ 168 rfl Gd Tryz.underlying168 rfl ab ky rfl ea ?_;rw[hf];dsimp only [æ,Option.getD]);go_meet
     exact⟨bs,_,f,_,C,ak,ac,ck,cc,rfl,rfl,bb,cf,bo,bp,ay,bg,bu⟩
    | none=>
     have bu:=bm.o (by rw[dz.o];exact hf);rw[dz.o] at bu;have bu:=Z bu;go_upto_region 25 with (at_lookup;refine Dx rfl _ _ 168 rfl Gd Tryz.underlying168 rfl ab ky rfl ea ?_;rw[hf];dsimp only [æ,Option.getD])
     go_upto_region 26 with (at_mapUpdate;refine Gr rfl _ _ _ 168 rfl Gd Tryz.underlying168 rfl ab (by unfold ϐ;omega) Oq ky rfl ea bs.length rfl (by omega) ?_;intro w6 bp H)
     clear iy;have bo:=aa.kept H (ab.far aa);have ay:=aj.kept H (ab.far aj);have bg:=an.kept H (ab.far an);have bb:=T.grown H (λk e=>by cases e;omega);have cf:=Ξ ao H.size;clear H aj aa an T ao ab ag;go_upto_region 27 with (at_builtin;refine ϕ _ rfl _ _ 54 rfl (w1.heap.size+1+1) 3 i0 (.int Χ 0) 1 8 ϝ hi e8 e9 fa rfl (by decide) _ _ _ rfl (ay.alloc _) _ 1 1 [iv q] rfl rfl (Õ _ _ _) (by simp[ξ]) (by decide) (by unfold ϐ;omega) (by omega) (by simp;omega) _ rfl ?_;intro g7 c7 w7 gq bz _ _)
     have ec:=(bo.alloc (Β #[iv q] 3)).kept bz (.inr (λe=>by have:=(ay.lt (w1.heap.size+1) e.symm).1;omega));have a6:=(bg.alloc (Β #[iv q] 3)).kept bz (Aj bg ay (by decide));have gu:=(bp.alloc (Β #[iv q] 3)).kept bz (λe=>by have:=(ay.lt w1.heap.size e.symm).1;omega);have cv:=(bb.alloc (Β #[iv q] 3)).grown bz (λk e=>by have:=(ay.lt k e).1;omega);have iz:w1.heap.size+1<w7.heap.size:=by have:=bz.size;rw[Ο] at this;omega
     have ed:ϟ (w7.ownsRow (w1.heap.size+1+1) 3 1 (U (I ⟨g7,0,J⟩) (bs++[b]).length c7) (bs++[b]).length (((bs++[b]).map t.cell).map iv)):=Z (by rw[Ν,ϥ,ϥ,List.map_singleton,List.map_singleton,HQ.o];exact gq)
     clear bz ay bo bg bb cf bp;have ee:=O8 w7 0#256;rw[encA_zero] at ee;have gv:=Z ee;clear ee;go_upto_region 28 with (at_builtin;refine ϕ _ rfl _ _ 36 rfl (w1.heap.size+1+1) 91 i6 (.agg zA) 4 32 Tryz.underlying36 ia ib ic ie rfl (by decide) _ _ _ rfl (a6.alloc _) _ 1 1 (Cm 0#256) rfl rfl gv.o (by simp[Cm,ξ]) (by decide) (by unfold ϐ;omega) (by omega) (by simp;omega) _ rfl ?_;intro g8 c8 w8 cl b0 _ _)
     have b4:=(ec.alloc (Β zA 91)).kept b0 (Aj ec a6 (by decide));have eg:ϟ (w8.ownsRow (w1.heap.size+1+1) 3 1 (U (I ⟨g7,0,J⟩) (bs++[b]).length c7) (bs++[b]).length (((bs++[b]).map t.cell).map iv)):=Z ((ed.o.alloc (Β zA 91)).kept b0 (Aj ed.o a6 (by decide)));have cw:=(gu.alloc (Β zA 91)).kept b0 (λe=>by have:=(a6.lt w1.heap.size e.symm).1;omega);have c9:=(cv.alloc (Β zA 91)).grown b0 (λk e=>by have:=(a6.lt k e).1;omega);have da:w1.heap.size+1<w8.heap.size:=by have:=b0.size;rw[Ο] at this;omega
     have eh:ϟ (Row w8 (w1.heap.size+1+1) (U (I ⟨g8,0,J⟩) (C++[0#256]).length c8) (C++[0#256])):=Z (by show ϣ _ _ _ _ _ _ _;rw[Nk,Nj,Ν];exact cl)
     clear b0 ec a6 cv iz gu ed gv cl gq;have co:=Aq J b4 a7.o.symm q (by rw[a7.o];exact ax);have fo:=b4.frozenAt q;obtain⟨ja,b5⟩:=Ba b4 q (I bs.length);have jb:=c9.grown b5 (λk e=>by cases e;omega);have jc:=Z (eg.o.kept b5 (Az eg.o (by omega)));have jd:=Z (eh.o.kept b5 (Az eh.o (by omega)));have je:=cw.kept b5 (by simp);have jf:=Ξ da b5.size;clear b5 b4 c9 da cw eg eh;go_wp2;go_meet
     refine⟨bs++[b],_,_,_,C++[0#256],I ⟨g7,0,J⟩,I ⟨g8,0,J⟩,c7,c8,?_,?_,jb,jf,ja,?_,?_,?_,bu⟩
     ·rw[Ν];rfl
     ·rw[Ν];rfl
     ·rw[Ν];exact je
     ·have:=jc.o;rw[show (bs++[b]).length=bs.length+1 by simp] at this ⊢;exact this
     have h9:=jd.o;show ϣ _ _ _ _ _ _ _;have h9:ϣ _ _ _ _ _ _ _:=h9;rw[show (C++[0#256]).length=C.length+1 by simp] at h9 ⊢;exact h9
  case rest=>
   clear ae ah G af aq ad X HS bl bm HO a7 fw fx co kb ik cq il;obtain⟨bs,c,f,O,C,ak,ac,ck,cc,rfl,rfl,ae,ah,G,af,aq,ad,X⟩:=hcut;have gx:=X.o.fi.lt b (by omega);have dc:=X.o.at_ b (by omega);rw[HQ.o] at dc;have cq:=Z X.o.lenC;have HP:=Z (KY X.o (ofL [ϔ b]) λy hy=>by rw[JU _ _ hy,u8n b bk]);have a7:ϟ (O.length=t.cells):=Z X.o.lenO;obtain⟨i,hid⟩:=Xq (c b);rw[hid] at gx dc HP;have gy:i<C.length:=by rw[cq.o];exact gx
   have co:=Aq J G a7.o.symm q (by rw[a7.o];exact ax);rw[dc] at co;replace co:wc.cell? ⟨w1.heap.size+1,q,J⟩=I (iv i):=co;clear hid dc X;obtain⟨g,rfl⟩:=IS ad (by omega);obtain⟨a0,a1,a2,a3⟩:=RN ad i gy;have cm:∀ W,Ext wc W->∀ j,W.frozen? ⟨g,j,J⟩=Ε:=λW E j=>(Aa ad E).frozenAt j
   obtain⟨D,hD⟩:=Xq (C.getD i 0#256);rw[hD] at a0 a1 a2 a3 HP;clear hD;have b6:∀ W,Ext wc W->Ext wc W/\W.cell? ⟨w1.heap.size+1,q,J⟩=I (iv i)/\W.cell? ⟨g,i*4,J⟩=I (.int γ (wd D 0))/\W.cell? ⟨g,i*4+1,J⟩=I (.int γ (wd D 1))/\W.cell? ⟨g,i*4+2,J⟩=I (.int γ (wd D 2))/\W.cell? ⟨g,i*4+3,J⟩=I (.int γ (wd D 3))/\W.frozen? ⟨g,i*4,J⟩=Ε/\W.frozen? ⟨g,i*4+1,J⟩=Ε/\W.frozen? ⟨g,i*4+2,J⟩=Ε/\W.frozen? ⟨g,i*4+3,J⟩=Ε:=
    λW E=>⟨E,E.cell co,E.cell a0,E.cell a1,E.cell a2,E.cell a3,cm W E _,cm W E _,cm W E _,cm W E _⟩
   have jh:=b6 wc (Κ wc);have E:=λW=>Z (Tc D (ofL [ϔ b]) W)
   clear cm co a0 a1 a2 a3;go_upto_region 29 with (fail)
   refine Bq 18 [(0,Α),(1,Α),(2,Α),(3,Α),(4,Α),(5,Α),(6,Α),(7,Α),(8,Α),(9,Α),(10,Α),(11,Α),(12,Α),(13,Α),(14,Ε),(15,Ε),(16,Ε),(17,Ε),(18,Ε)] (by kernel_rfl) (by kernel_rfl) (λ_ _ _ _ h=>h)
    (λW=>Ext wc W/\W.cell? ⟨w1.heap.size+1,q,J⟩=I (iv i)/\W.cell? ⟨g,i*4,J⟩=I (.int γ (wd D 0))/\W.cell? ⟨g,i*4+1,J⟩=I (.int γ (wd D 1))/\W.cell? ⟨g,i*4+2,J⟩=I (.int γ (wd D 2))/\W.cell? ⟨g,i*4+3,J⟩=I (.int γ (wd D 3))/\W.frozen? ⟨g,i*4,J⟩=Ε/\W.frozen? ⟨g,i*4+1,J⟩=Ε/\W.frozen? ⟨g,i*4+2,J⟩=Ε/\W.frozen? ⟨g,i*4+3,J⟩=Ε) (b6 _ (Κ wc).drew) ?_
   have T:=(Κ wc).drew;obtain⟨w5,b9⟩:=Xq (wc.drew);rw[b9] at T;rw[b9];clear b9 jh;iterate 14
    refine Gt (v:=?_) rfl rfl (λW E=>?_) ?_
    rotate_left
    ·obtain⟨_,c0,c1,c2,c3,c4,c5,c6,c7,c8⟩:=E;go_simp;first|done|with_reducible rfl
    simp only[ë.put,List.setIfInBounds_toArray,List.set_cons_zero,List.set_cons_succ]
   refine Dz rfl (λK hK=>?_);go_simp;refine hK _ _ (λ_=>b6 _ (T.alloc _)) ?_;clear hK K;refine Dz rfl (λK hK=>?_);go_simp;with_reducible refine (JS [ϔ b] _ _ (UA w5 b)).mono ?_
   rintro e w6 ⟨rfl,bb⟩;have hl:=(T.alloc (Β #[.int .u8 (â.wrap (b:Int))] 5)).trans bb;refine hK _ _ (λ_=>b6 _ hl) ?_;clear hK K;refine Dz rfl (λK hK=>?_);go_simp;with_reducible refine (E _).o.mono ?_
   rintro e w7 ⟨rfl,cv⟩;have bc:=hl.t cv;have hp:=b6 _ bc;refine hK _ _ (λ_=>hp) ?_;clear hK K;obtain⟨_,c0,c1,c2,c3,c4,c5,c6,c7,c8⟩:=hp;refine Dz rfl (λK hK=>?_);go_simp;refine hK _ _ (λ_=>b6 _ bc) ?_;clear hK K;refine Dz rfl (λK hK=>?_);go_simp;refine hK _ _ (λh=>absurd h (by omega)) ?_;clear hK K c0 c1 c2 c3 c4 c5 c6 c7 c8;refine Bn ?_;have a6:=Aa ad bc;have hr:=GH a6 i gy (D ||| ofL [ϔ b]);have c9:=(ae.t bc).grown hr.2 (λk e=>by cases e;have:=(ad.lt g rfl).1;omega);have b4:=(Aa G bc).kept hr.2 (Aj G ad (by decide));have ji:=(Aa aq bc).kept hr.2 (Aj aq ad (by decide));have cw:=(af.ext bc).kept hr.2 (af.ne_row ad);have da:=Ξ (Ξ ah bc.size) hr.2.size;have cl:Row (w7.setCells g (i*4) (Ab (D ||| ofL [ϔ b])).toList) (w1.heap.size+1+1) (U (I ⟨g,0,J⟩) (C.set i (D ||| ofL [ϔ b])).length cc) (C.set i (D ||| ofL [ϔ b])):=by have:=hr.1;show ϣ _ _ _ _ _ _ _;rw[show Row _ _ _ _=ϣ _ _ _ _ _ _ _ from rfl,ο] at this;rw[ο];exact this
   have hs:(C.set i (D ||| ofL [ϔ b])).length=C.length:=ο;rw[hs] at cl;clear hr a6;go_wp2;go_roundw
   case rel=>exact⟨b+1,bs,c,f,O,C.set i (D ||| ofL [ϔ b]),ak,I ⟨g,0,J⟩,ck,cc,by omega,by go_num,rfl,by rw[hs],c9,da,b4,cw,ji,cl,HP⟩
   simp[intOf];omega
 obtain rfl:b=256:=by omega
 have jj:=Z (LH HV.o e6.o X.o);have jk:Ints wr (U ak bs.length ck) (bs.map t.cell):=OwnI.ints (base:=w1.heap.size+1+1) (by show ϣ _ _ _ _ _ _ _;rw[ι];exact aq) (by rw[ι];omega)
 have jl:=ad.toCs (by omega);clear X;go_wp2;go_ret2;exact⟨_,_,bs.map t.cell,C,rfl,jj.o,jk,jl,b7.t ae⟩
theorem GW (t:Tbl) (X:TVal t) (hn:t.n.length<=65536) (A:Array Δ) (w:Γ) (h:IsT w A t) :
  Calls Ι 68 #[.agg A] w λe w'=>∃ v l,e=.returned v/\Reached t l/\Ints w' v l/\Ext w w':=by
 obtain⟨bn,on,cn,ba,oa,ca,b7,b8,_,_,bd,_,hR,_⟩:=h.opened X;have b9:=X.pos;have dt:=X.cpos;have du:=X.cle;have HR:=Z hR;have HV:=Z X;obtain⟨i0,hi,cd,cf,cg⟩:=ϑ Ds;obtain⟨j0,hj,cm,cp,ct⟩:=ϑ Fc;have au:=(Κ w).alloc (Β A 84);have H0:=Ad w (Β A 84);have HK:=Z (λ(W:Γ) (hW:Ext (w.alloc (Β A 84)) W)=>(Τ W w.heap.size 257 _ _ _ (hW.heap H0)).trans bd);clear hR X h H0 bd b8 b7;go_enter Tryz.func68,Tryz.ntmps68;go_upto_region 1 with (fail)
 generalize w.alloc (Β A 84)=w1 at *;have k1:=HK.o w1 (Κ w1);go_upto_region 2 with (at_make;refine Ϛ _ rfl _ _ 38 rfl w1.heap.size 4 j0 (.bool Ε) 1 Tryz.underlying38 hj cm cp Χ Χ _ _ t.n.length rfl rfl rfl rfl (by rw[ct];omega) (by unfold ϐ;omega) (Υ _) ?_;intro w2 bh bj)
 have cv:Ext w1 w2:=(Κ w1).grown bj (λk e=>by cases e);have af:w2.ownsRow w1.heap.size 4 1 (U (I ⟨w1.heap.size,0,J⟩) t.n.length t.n.length) t.n.length ((Ee t.n.length []).map ψ):=by rw[Ud,<-B7];exact bh
 have cs:=Aq Ε af (Gw _ _).symm 0 (by rw[Gw];exact b9);have fs:=af.frozenAt 0;obtain⟨bk,bl⟩:=Ba af 0 Α;rw[Mi,List.nil_append] at bk;have bm:=cv.grown bl (λk e=>by cases e;exact Υ _);clear bh bj k1 af bl;go_upto_region 3 with (fail)
 clear cs fs;obtain⟨w3,bp⟩:=Xq (w2.setCell ⟨w1.heap.size,0,J⟩ (.bool Α));simp only[bp] at *;clear bp;have cy:=bm.alloc (Β #[.int Χ 0] 3);have cz:=bk.alloc (Β #[.int Χ 0] 3);have c3:=Γ.ownsRow_lit (base:=w1.heap.size) (e:=3) (size:=1) w3 #[.int Χ 0] 1 bm.size (by unfold ϐ;omega) rfl;generalize bq:w1.heap.size=G at *;have bt:=Z bq;clear bq;go_wp2_with (fail);go_loopw [4,5] (λv i W=>∃ (l:List Nat) (k g c:Nat),k<=l.length/\i=.int Χ k/\v=U (I ⟨g,0,J⟩) l.length c/\Ext w1 W/\OwnI W G v l/\W.ownsRow G 4 1 (U (I ⟨G,0,J⟩) t.n.length t.n.length) t.n.length ((Ee t.n.length l).map ψ)/\ϟ (BInv t l k 0))
  (λ_ i _=>t.n.length-(intOf i).toNat)
 case atStart=>exact⟨[0],0,w3.heap.size,1,by omega,rfl,rfl,cy,c3,cz,Z (AM HV.o)⟩
 obtain⟨l,k,g,c,hk,rfl,rfl,hE,hI,hS,HI⟩:=hrel;have dw:=HI.o.le;by_cases ay:k<l.length
 ·have cl:=A4 (Aq 0 hI rfl k ay);have az:=HI.o.lt _ (Di l k 0 ay);obtain⟨s,a1⟩:=Xq (l.getD k 0);rw[a1] at cl az;have c4:=Z a1;clear a1;obtain⟨br,or',cr,bw,bz⟩:=HR.o s az;have c5:=A4 ((au.t hE).cell bw);have k1:=A4 (HK.o wr hE);have c6:=Z bz;clear bw bz;go_upto_region 7 with (fail)
  refine Cl (by kernel_rfl) (by kernel_rfl) ?_;iterate 10 (with_reducible refine wpQuiet_step (λK hK=>?_);go_simp;(refine hK _ ?_;clear hK K))
  refine wpQuiet_nil ?_;rintro _ ⟨e,rfl⟩;clear cl c5 k1;have c8:=hE.t e.ext;have hI:=Aa hI e.ext;have hS:=Aa hS e.ext;generalize e.W=w5 at *;have c9:w1.heap.size<=G:=Ñ bt.o;have dz:G<=w1.heap.size:=Ñ bt.o.symm;go_wp2_with (fail);go_loopw [4,30] (λv i W=>∃ (E:List Nat) (q g' c':Nat),q<=t.cells/\i=.int Χ q/\v=U (I ⟨g',0,J⟩) E.length c'/\Ext w1 W/\OwnI W G v E/\W.ownsRow G 4 1 (U (I ⟨G,0,J⟩) t.n.length t.n.length) t.n.length ((Ee t.n.length E).map ψ)/\ϟ (BInv t E k q)/\ϟ (k<E.length/\E.getD k 0=s))
   (λ_ i _=>t.cells-(intOf i).toNat)
  case atStart=>exact⟨l,0,g,c,by omega,rfl,rfl,c8,hI,hS,HI,Z ⟨ay,c4.o⟩⟩
  obtain⟨E,q,g',c',hq,rfl,rfl,ad,ae,T,ak,H⟩:=hrel;have eb:=ak.o.le;by_cases a6:q<t.cells
  ·have cq:=(au.t ad).cell (c6.o q a6);have a7:=HV.o.tgt s az q a6;obtain⟨x,a8⟩:=Xq (t.ent2 s q);rw[a8] at cq a7;have bb:=Z a8;clear a8;have an:=Aq Ε T (Gw _ _).symm x (by rw[Gw];exact a7);rw[Ue _ _ _ a7] at an;have da:=T.frozenAt x;have ec:=ad.size;by_cases hx:x∈E
   ·rw[decide_eq_true hx] at an;have HN:=Z (AN ak.o (by rw[H.o.2,bb.o];exact hx));clear hx;go_wp2;go_roundw
    case rel=>exact⟨E,q+1,g',c',by omega,by go_num,rfl,ad,ae,T,HN,H⟩
    simp[intOf];omega
   rw[decide_eq_false hx] at an;have HN:=Z (AP HV.o ak.o H.o.1 a6 (by rw[H.o.2,bb.o];exact hx));rw[H.o.2,bb.o] at HN;clear hx;obtain⟨ao,b4⟩:=Ba T x Α;rw[Mi] at ao;have aq:=ae.kept b4 (Aj ae T (by decide));have b5:=ad.grown b4 (λk e=>by cases e;exact c9);go_upto_region 12 with (fail)
   obtain⟨w6,b6⟩:=Xq (wr.setCell ⟨G,x,J⟩ (.bool Α));simp only[b6] at *;clear b6 an da T ae cq;have ee:=b5.size;go_wp2_with (at_builtin;refine ϕ _ rfl _ _ 54 rfl G 3 i0 (.int Χ 0) 1 8 ϝ hi cd cf cg rfl (by decide) _ _ _ rfl (aq.alloc _) _ 1 1 [iv x] rfl rfl (Õ _ _ _) (by simp[ξ]) (by decide) (by unfold ϐ;omega) (by omega) (by simp;omega) _ rfl ?_);intro g7 c7 w7 dd bc _ _;have de:=(ao.alloc (Β #[iv x] 3)).kept bc (Aj ao aq (by decide));have df:=(b5.alloc (Β #[iv x] 3)).grown bc (λk e=>by have:=(aq.lt k e).1;omega);clear bc aq ao;go_wp2;go_roundw
   case rel=>refine⟨E++[x],q+1,g7,c7,by omega,by go_num,by rw[Ν];rfl,df,?_,de,HN,Z ⟨by rw[Ν];have:=H.o.1;omega,by rw[B9 _ _ _ _ H.o.1];exact H.o.2⟩⟩;show ϣ _ _ _ _ _ _ _;rw[Ν,ϥ];exact dd
   case measure=>simp[intOf];omega
  obtain rfl:q=t.cells:=by omega
  have HN:=Z (AO ak.o);go_wp2;go_roundw
  case rel=>exact⟨E,k+1,g',c',by have:=H.o.1;omega,by go_num,rfl,ad,ae,T,HN⟩
  simp[intOf];omega
 obtain rfl:k=l.length:=by omega
 have dg:=Z (AQ HI.o);go_wp2;go_ret;exact⟨_,l,rfl,dg.o,hI.ints (by omega),au.t hE⟩
def evN (N:List (List Nat)) (r:List Nat) (m p:Nat):Nat:=if p / m<N.length then (N.getD (p / m) []).getD (p % m) 0 else r.getD (p % m) 0
theorem Lo {m k:Nat} (E:k<m) (i:Nat):(i*m+k) / m=i/\(i*m+k) % m=k:=by
 have h0:0<m:=by omega
 constructor
 ·rw[Nat.mul_comm,Nat.mul_add_div h0,Nat.div_eq_of_lt E,Nat.add_zero]
 rw[Nat.mul_comm,Nat.mul_add_mod,Nat.mod_eq_of_lt E]
theorem Re {m k i p:Nat} (h0:0<m) (E:k<=m) (G:p<i*m+k):p / m<i\/(p / m=i/\p % m<k):=by
 have h1:=Nat.div_add_mod p m;have H:=Nat.mod_lt p h0;rcases Nat.lt_trichotomy (p / m) i with h|h|h
 ·exact .inl h
 ·refine .inr ⟨h,?_⟩;rw[h,Nat.mul_comm] at h1;omega
 exfalso
 have:(i+1)*m<=p / m*m:=Nat.mul_le_mul_right _ h;rw[Nat.succ_mul,Nat.mul_comm (p / m)] at this;omega
structure LInv (t:Tbl) (B:Nat->Nat) (R K:List Nat) (i k:Nat) (O:List Nat) (P:List (Option Nat)) (N:List (List Nat)) (r:List Nat):Prop where
 lenP:P.length=R.length
 place:∀ x v,P.getD x J=I v↔x<R.length/\v<O.length/\O.getD v 0=x
 lt:∀ v,v<O.length->O.getD v 0<R.length
 pos:0<O.length
 zero:O.getD 0 0=B 0
 lenN:N.length=i
 rows:∀ j,j<i->(N.getD j []).length=K.length
 lenr:r.length=K.length
 le:i<=O.length
 ent:∀ p,p<i*K.length+k->evN N r K.length p<O.length/\O.getD (evN N r K.length p) 0=B (t.ent2 (R.getD (O.getD (p / K.length) 0) 0) (K.getD (p % K.length) 0))
 mx:mxf (evN N r K.length) (i*K.length+k)+1=O.length
 rgf:∀ p,p<i*K.length+k->evN N r K.length p<=mxf (evN N r K.length) p+1
 rch:∀ x,0<x->x<O.length->∃ p,p<i*K.length+k/\p / K.length<x/\evN N r K.length p=x
section
variable {t:Tbl} {B:Nat->Nat} {R K:List Nat} {i k:Nat} {O:List Nat} {P:List (Option Nat)} {N:List (List Nat)} {r:List Nat}
theorem MN (h0:B 0<R.length) (n:Nat) (G:n=R.length) (r:List Nat) (H:r.length=K.length):LInv t B R K 0 0 [B 0] ((ζ n J).set (B 0) (I 0)) [] r where
 lenP:=by rw[ο,List.length_replicate,G]
 place:=λx v=>by
  subst G;rw[Cd _ _ _ _ _ (by rw[List.length_replicate];exact h0)];by_cases e:x=B 0
  ·subst e;rw[if_pos rfl];constructor
   ·intro h;cases h;exact⟨h0,by simp,rfl⟩
   rintro⟨_,h1,_⟩;have:v=0:=by simpa using h1
   rw[this]
  rw[if_neg e];constructor
  ·intro h;rw[Ζ,Ì] at h;split at h<;>simp at h
  rintro⟨_,h1,E⟩;have:v=0:=by simpa using h1
  subst this;exact absurd E.symm e
 lt:=λv T=>by
  have:v=0:=by simpa using T
  subst this;exact h0
 pos:=by simp
 zero:=rfl
 lenN:=rfl
 rows:=λj hj=>by omega
 lenr:=H
 le:=by simp
 ent:=λp X=>by omega
 mx:=by simp[mxf]
 rgf:=λp X=>by omega
 rch:=λx h1 E=>by
  have:x=0:=by simpa using E
  omega
theorem Yw (G:N.length=i) (H:k<K.length) (X:r.length=K.length) (v:Nat):(∀ p,p<i*K.length+k->evN N (r.set k v) K.length p=evN N r K.length p)/\evN N (r.set k v) K.length (i*K.length+k)=v:=by
 refine⟨λp T=>?_,?_⟩
 ·unfold evN;rw[G];rcases Re (by omega) (by omega) T with h|⟨h1,E⟩
  ·rw[if_pos h,if_pos h]
  rw[if_neg (by omega),if_neg (by omega),Cd _ _ _ _ _ (by omega),if_neg (by omega)]
 obtain⟨h1,E⟩:=Lo H i;unfold evN;rw[h1,E,if_neg (by omega),Cd _ _ _ _ _ (by omega),if_pos rfl]
theorem MP (h:LInv t B R K i k O P N r) (T:k<K.length) (v:Nat) (hv:P.getD (B (t.ent2 (R.getD (O.getD i 0) 0) (K.getD k 0))) J=I v):LInv t B R K i (k+1) O P N (r.set k v):=by
 obtain⟨_,ad,ae⟩:=(h.place _ _).1 hv;obtain⟨E,G⟩:=Yw h.lenN T h.lenr v;obtain⟨d1,d2⟩:=Lo T i;have X:mxf (evN N (r.set k v) K.length) (i*K.length+k)=mxf (evN N r K.length) (i*K.length+k):=Ha _ _ _ λq hq=>E q hq
 refine⟨h.lenP,h.place,h.lt,h.pos,h.zero,h.lenN,h.rows,by rw[ο];exact h.lenr,h.le,λp H=>?_,?_,λp H=>?_,λx hx af=>?_⟩
 ·by_cases e:p=i*K.length+k
  ·rw[e,G,d1,d2];exact⟨ad,ae⟩
  rw[E p (by omega)];exact h.ent p (by omega)
 ·have:=h.mx;rw[<-Nat.add_assoc];simp only[mxf];rw[G,X];omega
 ·by_cases e:p=i*K.length+k
  ·rw[e,G,X];have:=h.mx;omega
  rw[E p (by omega),Ha _ (evN N r K.length) p λq hq=>E q (by omega)];exact h.rgf p (by omega)
 obtain⟨p,H,h1,h2⟩:=h.rch x hx af;exact⟨p,by omega,h1,by rw[E p H];exact h2⟩
theorem MQ (h:LInv t B R K i k O P N r) (hk:k<K.length) (hi:i<O.length) (ae:B (t.ent2 (R.getD (O.getD i 0) 0) (K.getD k 0))<R.length) (X:P.getD (B (t.ent2 (R.getD (O.getD i 0) 0) (K.getD k 0))) J=J) :
  LInv t B R K i (k+1) (O++[B (t.ent2 (R.getD (O.getD i 0) 0) (K.getD k 0))]) (P.set (B (t.ent2 (R.getD (O.getD i 0) 0) (K.getD k 0))) (I O.length)) N (r.set k O.length):=by
 obtain⟨e1,e2⟩:=Yw h.lenN hk h.lenr O.length;obtain⟨d1,d2⟩:=Lo hk i;have T:∀ x,x=B (t.ent2 (R.getD (O.getD i 0) 0) (K.getD k 0))->(O++[x]).getD O.length 0=B (t.ent2 (R.getD (O.getD i 0) 0) (K.getD k 0)):=λx e=>by rw[Dt,e]
 have ah:mxf (evN N (r.set k O.length) K.length) (i*K.length+k)=mxf (evN N r K.length) (i*K.length+k):=Ha _ _ _ λq hq=>e1 q hq
 have hg:∀ x v,v<O.length->(O++[x]).getD v 0=O.getD v 0:=λx v X=>B9 _ _ _ _ X
 have G:∀ x,(O++[x]).length=O.length+1:=λx=>by simp
 have T:=T _ rfl;have ao:=h.mx;refine⟨by rw[ο];exact h.lenP,λx v=>?_,λv X=>?_,by rw[G];omega,by rw[hg _ _ h.pos];exact h.zero,h.lenN,h.rows,by rw[ο];exact h.lenr,by rw[G];omega,λp hp=>?_,?_,λp hp=>?_,λx hx aj=>?_⟩
 ·rw[Cd _ _ _ _ _ (by rw[h.lenP];exact ae),G];by_cases e:x=B (t.ent2 (R.getD (O.getD i 0) 0) (K.getD k 0))
  ·rw[if_pos e];constructor
   ·intro h1;cases h1
    exact⟨by rw[e];exact ae,by omega,by rw[T,e]⟩
   rintro⟨h1,H,E⟩;by_cases ev:v=O.length
   ·rw[ev]
   rw[hg _ v (by omega)] at E;have:=(h.place x v).2 ⟨h1,by omega,E⟩;rw[e,X] at this;cases this
  rw[if_neg e,h.place x v];constructor
  ·rintro⟨h1,H,E⟩;exact⟨h1,by omega,by rw[hg _ v H];exact E⟩
  rintro⟨h1,H,E⟩;by_cases ev:v=O.length
  ·rw[ev,T] at E;exact absurd E.symm e
  rw[hg _ v (by omega)] at E;exact⟨h1,by omega,E⟩
 ·rw[G] at X;by_cases ev:v=O.length
  ·rw[ev,T];exact ae
  rw[hg _ v (by omega)];exact h.lt v (by omega)
 ·rw[G];by_cases e:p=i*K.length+k
  ·rw[e,e2,d1,d2,hg _ i hi,T];exact⟨by omega,rfl⟩
  obtain⟨h1,H⟩:=h.ent p (by omega);have ak:p / K.length<O.length:=by rcases Re (by omega) (by omega) (show p<i*K.length+k by omega) with h|⟨h,_⟩<;>omega
  rw[e1 p (by omega),hg _ _ h1,hg _ _ ak];exact⟨by omega,H⟩
 ·rw[G,<-Nat.add_assoc];simp only[mxf];rw[e2,ah];omega
 ·by_cases e:p=i*K.length+k
  ·rw[e,e2,ah];omega
  rw[e1 p (by omega),Ha _ (evN N r K.length) p λq hq=>e1 q (by omega)];exact h.rgf p (by omega)
 rw[G] at aj;by_cases ex:x=O.length
 ·exact⟨i*K.length+k,by omega,by rw[d1];omega,by rw[e2,ex]⟩
 obtain⟨p,hp,h1,H⟩:=h.rch x hx (by omega);exact⟨p,by omega,h1,by rw[e1 p hp];exact H⟩
theorem MO (h:LInv t B R K i K.length O P N r) (hi:i<O.length) (T:List Nat) (aa:T.length=K.length):LInv t B R K (i+1) 0 O P (N++[r]) T:=by
 by_cases h0:0<K.length
 ·have hl:(N++[r]).length=i+1:=by simp[h.lenN]
  have G:∀ p,p<i*K.length+K.length->evN (N++[r]) T K.length p=evN N r K.length p:=λp E=>by
   unfold evN;rw[hl,h.lenN];rcases Re h0 (Υ _) E with h1|⟨h1,h2⟩
   ·rw[if_pos (by omega),if_pos h1,B9 _ _ _ _ (by rw[h.lenN];exact h1)]
   rw[if_pos (by omega),if_neg (by omega),h1,<-h.lenN,Dt]
  have eq:(i+1)*K.length+0=i*K.length+K.length:=by rw[Nat.succ_mul];rfl
  refine⟨h.lenP,h.place,h.lt,h.pos,h.zero,hl,λj hj=>?_,aa,by omega,λp E=>?_,?_,λp E=>?_,λx hx X=>?_⟩
  ·by_cases e:j=i
   ·subst e;rw[<-h.lenN,Dt];exact h.lenr
   rw[B9 _ _ _ _ (by rw[h.lenN];omega)];exact h.rows j (by omega)
  ·rw[eq] at E;rw[G p E];exact h.ent p E
  ·rw[eq,Ha _ (evN N r K.length) _ λq hq=>G q hq];exact h.mx
  ·rw[eq] at E;rw[G p E,Ha _ (evN N r K.length) p λq hq=>G q (by omega)];exact h.rgf p E
  obtain⟨p,E,h1,h2⟩:=h.rch x hx X;exact⟨p,by rw[eq];exact E,h1,by rw[G p E];exact h2⟩
 have H:K.length=0:=by omega
 refine⟨h.lenP,h.place,h.lt,h.pos,h.zero,by simp[h.lenN],λj hj=>?_,aa,by omega,λp E=>by rw[H] at E;simp at E,?_,λp E=>by rw[H] at E;simp at E,λx hx X=>?_⟩
 ·by_cases e:j=i
  ·subst e;rw[<-h.lenN,Dt];exact h.lenr
  rw[B9 _ _ _ _ (by rw[h.lenN];omega)];exact h.rows j (by omega)
 ·have:=h.mx;rw[H] at this ⊢
  simpa [mxf] using this
 obtain⟨p,E,_⟩:=h.rch x hx X;rw[H] at E;simp at E
theorem LInv.nodup (h:LInv t B R K i k O P N r):O.Nodup:=by
 rw[Ù,Ϧ];intro a b E hb T e;have h1:=(h.place (O.getD a 0) a).2 ⟨h.lt a E,E,rfl⟩;have G:=(h.place (O.getD b 0) b).2 ⟨h.lt b hb,hb,rfl⟩;have H:O.getD a 0=O.getD b 0:=by rw[Ζ,Ζ,Θ E,Θ hb,e]
 rw[H,G] at h1;cases h1
 omega
theorem LInv.len_le (h:LInv t B R K i k O P N r):O.length<=R.length:=by
 have:=D5 O (π R.length) h.nodup λs E=>by obtain⟨j,G,rfl⟩:=Ic E;exact ώ.2 (h.lt j G)
 simpa using this
theorem MS {L:List Cls} (hK:K.length=L.length) (h0:0<K.length) {A:List Bool} (h:LInv t B R K i 0 O P N r) (hi:i=O.length) (X:A.length=i) (aa:∀ j,j<i->A.getD j Ε=t.ok (R.getD (O.getD j 0) 0)) :
  Laid t B R K L O ⟨L,N,A⟩:=by
 subst hi;have ev:∀ j q,j<O.length->q<K.length->evN N r K.length (j*K.length+q)=(N.getD j []).getD q 0:=λj q E G=>by obtain⟨h1,H⟩:=Lo G j;unfold evN;rw[h1,H,h.lenN,if_pos E]
 have pos:∀ j q,j<O.length->q<K.length->j*K.length+q<O.length*K.length+0:=λj q E G=>by have:(j+1)*K.length<=O.length*K.length:=Nat.mul_le_mul_right _ E;rw[Nat.succ_mul] at this;omega
 have ent:∀ p,p<O.length*K.length->(Dfa.mk L N A).ent p=evN N r K.length p:=λp T=>by have h1:=Nat.div_add_mod p K.length;have H:=Nat.mod_lt p h0;have h3:p / K.length<O.length:=Nat.div_lt_of_lt_mul (by rw[Nat.mul_comm];exact T);show (N.getD (p / L.length) []).getD (p % L.length) 0=_;unfold evN;rw[<-hK,h.lenN,if_pos h3]
 refine⟨rfl,h.lenN,X,h.zero,h.pos,h.nodup,h.lt,h.rows,λj E q G=>?_,λj E=>aa j E,λp T=>?_,λx hx ae=>?_⟩
 ·obtain⟨h1,H⟩:=Lo G j;have:=h.ent _ (pos j q E G);rw[ev j q E G,h1,H] at this;exact this
 ·have af:p<O.length*K.length:=by
   have e:(Dfa.mk L N A).n.length*(Dfa.mk L N A).cls.length=O.length*K.length:=by show N.length*L.length=_;rw[h.lenN,hK]
   rw[e] at T;exact T
  rw[ent p af,Ha _ (evN N r K.length) p λq G=>ent q (by omega)];exact h.rgf p (by omega)
 obtain⟨p,T,h1,H⟩:=h.rch x hx ae;refine⟨p / K.length,p % K.length,h1,Nat.mod_lt _ h0,?_⟩;rw[<-H,<-ent p (by omega)];show _=(N.getD (p / L.length) []).getD (p % L.length) 0;rw[<-hK];rfl
end
section
variable {σ:Type}
def evR (N:List (List Nat)) (r:List Nat) (j q:Nat):Nat:=if j<N.length then (N.getD j []).getD q 0 else r.getD q 0
structure EInv (bs:List Nat) (st:σ) (nx:σ->Nat->σ) (i k:Nat) (l:List σ) (f:σ->Option Nat) (N:List (List Nat)) (r:List Nat):Prop where
 zero:l[0]? = I st
 num:∀ x v,f x=I v↔l[v]? = I x
 le:i<=l.length
 lenN:N.length=i
 rows:∀ j,j<i->(N.getD j []).length=bs.length
 lenr:r.length=bs.length
 ent:∀ j s q,l[j]? = I s->(j<i/\q<bs.length)\/(j=i/\q<k)->l[evR N r j q]? = I (nx s (bs.getD q 0))
 reach:∀ s,s∈l->∃ w,Ap nx st w=s
variable {bs:List Nat} {st:σ} {nx:σ->Nat->σ} {i k:Nat} {l:List σ} {f:σ->Option Nat} {N:List (List Nat)} {r:List Nat}
theorem EInv.pos (h:EInv bs st nx i k l f N r):0<l.length:=by have:=h.zero;rw[ν] at this;exact this.1
theorem EInv.nodup (h:EInv bs st nx i k l f N r):l.Nodup:=by
 rw[Ù,Ϧ];intro a b E hb H e;have h1:=(h.num _ a).2 (Θ E);have G:=(h.num _ b).2 (Θ hb);rw[e,G] at h1;cases h1
 omega
theorem Y3 [DecidableEq σ] (bs:List Nat) (st:σ) (nx:σ->Nat->σ) (r:List Nat) (G:r.length=bs.length):EInv bs st nx 0 0 [st] (λx=>if x=st then I 0 else J) [] r where
 zero:=rfl
 num:=λx v=>by
  by_cases e:x=st
  ·subst e;rw[if_pos rfl];constructor
   ·intro h;cases h;rfl
   intro h;rw[ν] at h;obtain⟨h1,_⟩:=h;have:v=0:=by simpa using h1
   rw[this]
  rw[if_neg e];constructor
  ·intro h;cases h
  intro h;rw[ν] at h;obtain⟨h1,H⟩:=h;have:v=0:=by simpa using h1
  subst this;exact absurd H.symm e
 le:=by omega
 lenN:=rfl
 rows:=λj T=>by omega
 lenr:=G
 ent:=λj s q _ h=>by omega
 reach:=λs E=>by rw[ϖ] at E;subst E;exact⟨[],rfl⟩
theorem Yx (E:N.length=i) (G:r.length=bs.length) (H:k<bs.length) (v:Nat):evR N (r.set k v) i k=v/\∀ j q,(j<i/\q<bs.length)\/(j=i/\q<k)->evR N (r.set k v) j q=evR N r j q:=by
 unfold evR;rw[E];refine⟨by rw[if_neg (by omega),Cd _ _ _ _ _ (by omega),if_pos rfl],λj q h=>?_⟩;rcases h with⟨h1,_⟩|⟨h1,T⟩
 ·rw[if_pos h1,if_pos h1]
 rw[if_neg (by omega),if_neg (by omega),Cd _ _ _ _ _ (by omega),if_neg (by omega)]
theorem Rc (h:EInv bs st nx i k l f N r) (G:k<bs.length) {s:σ} (H:l[i]? = I s) (v:Nat) (T:f (nx s (bs.getD k 0))=I v):EInv bs st nx i (k+1) l f N (r.set k v):=by
 obtain⟨X,e2⟩:=Yx (bs:=bs) h.lenN h.lenr G v;refine⟨h.zero,h.num,h.le,h.lenN,h.rows,by rw[ο];exact h.lenr,λj s' q E hq=>?_,h.reach⟩;by_cases e:j=i/\q=k
 ·obtain⟨rfl,rfl⟩:=e;rw[H] at E;cases E
  rw[X];exact (h.num _ _).1 T
 rw[e2 j q (by omega)];exact h.ent j s' q E (by omega)
theorem Rd [DecidableEq σ] (h:EInv bs st nx i k l f N r) (hk:k<bs.length) (hb:∀ q,q<bs.length->bs.getD q 0<256) {s:σ} (H:l[i]? = I s) (X:f (nx s (bs.getD k 0))=J) :
  EInv bs st nx i (k+1) (l++[nx s (bs.getD k 0)]) (λx=>if x=nx s (bs.getD k 0) then I l.length else f x) N (r.set k l.length):=by
 obtain⟨e1,e2⟩:=Yx (bs:=bs) h.lenN h.lenr hk l.length;have G:∀ v,v<l.length->(l++[nx s (bs.getD k 0)])[v]? = l[v]? := λv X=>List.getElem?_append_left X
 have new:(l++[nx s (bs.getD k 0)])[l.length]? = I (nx s (bs.getD k 0)):=by simp
 have hi:i<l.length:=by rw[ν] at H;exact H.1
 refine⟨by rw[G _ h.pos];exact h.zero,λx v=>?_,by simp;omega,h.lenN,h.rows,by rw[ο];exact h.lenr,λj s' q T hq=>?_,λx hx=>?_⟩
 ·by_cases e:x=nx s (bs.getD k 0)
  ·rw[if_pos e];constructor
   ·intro h1;cases h1;rw[new,e]
   intro h1;by_cases hl:v<l.length
   ·rw[G v hl] at h1;have:=(h.num x v).2 h1;rw[e,X] at this;cases this
   have E:=h1;rw[ν] at E;obtain⟨E,_⟩:=E;simp at E;have:v=l.length:=by omega
   rw[this]
  rw[if_neg e,h.num x v];constructor
  ·intro h1;have E:=h1;rw[ν] at E;rw[G v E.1];exact h1
  intro h1;by_cases hl:v<l.length
  ·rw[G v hl] at h1;exact h1
  have E:=h1;rw[ν] at E;obtain⟨E,_⟩:=E;simp at E;have:v=l.length:=by omega
  rw[this,new] at h1;cases h1
  exact absurd rfl e
 ·by_cases e:j=i/\q=k
  ·obtain⟨rfl,rfl⟩:=e;rw[G _ hi,H] at T;cases T
   rw[e1,new]
  have af:j<l.length:=by omega
  rw[G j af] at T;rw[e2 j q (by omega)];have h1:=h.ent j s' q T (by omega);have E:=h1;rw[ν] at E;rw[G _ E.1];exact h1
 rw[Ä,ϖ] at hx;rcases hx with hx|rfl
 ·exact h.reach x hx
 obtain⟨w,hw⟩:=h.reach s (List.mem_of_getElem? H);refine⟨w++[ϔ (bs.getD k 0)],?_⟩;rw[E1,hw,u8n _ (hb k hk)]
theorem Y4 (h:EInv bs st nx i bs.length l f N r) (hi:i<l.length) (E:List Nat) (T:E.length=bs.length):EInv bs st nx (i+1) 0 l f (N++[r]) E:=by
 have G:(N++[r]).length=i+1:=by simp[h.lenN]
 refine⟨h.zero,h.num,by omega,G,λj H=>?_,T,λj s q H hq=>?_,h.reach⟩
 ·by_cases e:j=i
  ·subst e;rw[<-h.lenN,Dt];exact h.lenr
  rw[B9 _ _ _ _ (by rw[h.lenN];omega)];exact h.rows j (by omega)
 have X:j<i+1:=by omega
 have ab:q<bs.length:=by omega
 have e:evR (N++[r]) E j q=evR N r j q:=by
  unfold evR;rw[G,h.lenN,if_pos X];by_cases e:j=i
  ·subst e;rw[if_neg (by omega),<-h.lenN,Dt]
  rw[if_pos (by omega),B9 _ _ _ _ (by rw[h.lenN];omega)]
 rw[e];exact h.ent j s q H (by omega)
theorem Y5 {c:Nat->Nat} {ac:σ->Bool} {A:List Bool} (h:EInv bs st nx i 0 l f N r) (hi:i=l.length) (T:A.length=i) (X:∀ (j:Nat) s,l[j]? = I s->A.getD j Ε=ac s) :
  Expl c bs st nx ac l ⟨c,bs.length,N,A⟩:=by
 subst hi;refine⟨rfl,rfl,h.lenN,T,h.pos,h.nodup,h.zero,h.rows,λj s E q hq=>?_,λj s E=>X j s E,λj s E=>h.reach s (List.mem_of_getElem? E)⟩;have G:j<l.length:=by rw[ν] at E;exact E.1
 have h1:=h.ent j s q E (.inl ⟨G,hq⟩);have e:evR N r j q=(Tbl.mk c bs.length N A).ent2 j q:=by unfold evR;rw[h.lenN,if_pos G];rfl
 rw[e] at h1;have H:=h1;rw[ν] at H;exact⟨H.1,h1⟩
end
def rk (w:List UInt8):Nat:=w.foldl (λa x=>256*a+x.toNat+1) 0
theorem Pc (w:List UInt8) (x:UInt8):rk (w++[x])=256*rk w+x.toNat+1:=by simp[rk,List.foldl_append]
structure FB (t:Tbl) (i b:Nat) (l:List Nat) (W:Nat->List UInt8) (F:List (Option Nat)) (Y:List UInt8):Prop where
 pos:0<l.length
 head:l.getD 0 0=0
 nodup:l.Nodup
 lt:∀ s∈l,s<t.n.length
 run:∀ s∈l,t.run 0 (W s)=s
 w0:W 0=[]
 inc:∀ j k,j<k->k<l.length->rk (W (l.getD j 0))<rk (W (l.getD k 0))
 bound:i<l.length->∀ s∈l,rk (W s)<=256*rk (W (l.getD i 0))+b
 done:∀ j,j<i->∀ x,x<256->t.stp (l.getD j 0) x∈l/\rk (W (t.stp (l.getD j 0) x))<=256*rk (W (l.getD j 0))+x+1
 cur:∀ x,x<b->t.stp (l.getD i 0) x∈l/\rk (W (t.stp (l.getD i 0) x))<=256*rk (W (l.getD i 0))+x+1
 no:∀ j,j<i->t.ok (l.getD j 0)=Ε
 lenF:F.length=t.n.length
 lenY:Y.length=t.n.length
 seen:∀ s,s<t.n.length->((F.getD s J).isSome↔s∈l)
 from_:∀ s p,F.getD s J=I p->s≠0->p∈l/\W s=W p++[Y.getD s 0]
section
variable {t:Tbl} {i b:Nat} {l:List Nat} {W:Nat->List UInt8} {F:List (Option Nat)} {Y:List UInt8}
theorem RC (H:TVal t) (n:Nat) (G:n=t.n.length):FB t 0 0 [0] (λ_=>[]) ((ζ n J).set 0 (I 0)) (ζ n 0) where
 pos:=by simp
 head:=rfl
 nodup:=by simp
 lt:=λs E=>by rw[ϖ] at E;subst E;exact H.pos
 run:=λs E=>by rw[ϖ] at E;subst E;rfl
 w0:=rfl
 inc:=λj k h1 T=>by simp at T;omega
 bound:=λ_ s _=>by show rk []<=_;exact Nat.zero_le _
 done:=λj X=>by omega
 cur:=λx hx=>by omega
 no:=λj X=>by omega
 lenF:=by simp[G]
 lenY:=by simp[G]
 seen:=λs E=>by
  rw[Cd _ _ _ _ _ (by rw[List.length_replicate];omega)];by_cases e:s=0
  ·simp[e]
  rw[if_neg e];have:(ζ n (J:Option Nat)).getD s J=J:=by rw[Ζ,Ì];split<;>rfl
  rw[this];simp[e]
 from_:=λs p h E=>by
  by_cases hl:0<n
  ·rw[Cd _ _ _ _ _ (by rw[List.length_replicate];omega),if_neg E] at h;rw[Ζ,Ì] at h;split at h<;>cases h
  have:n=0:=by omega
  subst this;simp at h
theorem RE (h:FB t i b l W F Y) (hi:i<l.length) (E:t.stp (l.getD i 0) b<t.n.length) (hm:F.getD (t.stp (l.getD i 0) b) J≠J):FB t i (b+1) l W F Y:=by
 have G:t.stp (l.getD i 0) b∈l:=(h.seen _ E).1 (by cases H:F.getD (t.stp (l.getD i 0) b) J<;>simp_all);refine { h with bound:=λhi s E=>?_,cur:=λx hx=>?_ }
 ·have:=h.bound hi s E;omega
 by_cases e:x=b
 ·subst e;exact⟨G,by have:=h.bound hi _ G;omega⟩
 exact h.cur x (by omega)
theorem RH (hv:TVal t) (h:FB t i b l W F Y) (hi:i<l.length) (hb:b<256) (hm:F.getD (t.stp (l.getD i 0) b) J=J) :
  FB t i (b+1) (l++[t.stp (l.getD i 0) b]) (λs=>if s=t.stp (l.getD i 0) b then W (l.getD i 0)++[ϔ b] else W s) (F.set (t.stp (l.getD i 0) b) (I (l.getD i 0))) (Y.set (t.stp (l.getD i 0) b) (ϔ b)):=by
 have T:=Di l i 0 hi;have aa:t.stp (l.getD i 0) b<t.n.length:=hv.stp_lt (h.lt _ T) hb;have af:t.stp (l.getD i 0) b∉l:=λhc=>by have:=(h.seen _ aa).2 hc;rw[hm] at this;cases this
 have an:t.run 0 (W (l.getD i 0)++[ϔ b])=t.stp (l.getD i 0) b:=by rw[F6,h.run _ T,u8n b hb]
 have ag:rk (W (l.getD i 0)++[ϔ b])=256*rk (W (l.getD i 0))+b+1:=by rw[Pc,u8n b hb]
 have ah:=h.bound hi;have ao:=h.cur;have aq:=h.seen;have ar:=h.from_;generalize hs:l.getD i 0=s at *;generalize au:t.stp s b=x at *;have G:∀ q,q∈l->(if q=x then W s++[ϔ b] else W q)=W q:=λq E=>if_neg (λe:q=x=>af (e▸E))
 have aw:x≠0:=λe=>af (by have:=Di l 0 0 h.pos;rw[h.head] at this;rw[e];exact this)
 have H:∀ j,j<l.length->(l++[x]).getD j 0=l.getD j 0:=λj hj=>B9 _ _ _ _ hj
 have hl:(l++[x]).length=l.length+1:=by simp
 refine⟨by omega,by rw[H 0 h.pos];exact h.head,?_,λq E=>?_,λq E=>?_,?_,λj k ay hk=>?_,λ_ q E=>?_,λj hj y hy=>?_,λy hy=>?_,λj hj=>?_,by rw[ο];exact h.lenF,by rw[ο];exact h.lenY,λq E=>?_,λq p hp E=>?_⟩
 ·rw[List.nodup_append];exact⟨h.nodup,by simp,λa ha b hb=>by rw[ϖ] at hb;subst hb;rintro rfl;exact af ha⟩
 ·rw[Ä,ϖ] at E;rcases E with E|rfl
  ·exact h.lt q E
  exact aa
 ·rw[Ä,ϖ] at E;rcases E with E|rfl
  ·show t.run 0 (if q=x then _ else _)=q;rw[G q E];exact h.run q E
  show t.run 0 (if q=q then _ else _)=q;rw[if_pos rfl];exact an
 ·show (if 0=x then _ else _)=_;rw[if_neg (Ne.symm aw)];exact h.w0
 ·rw[hl] at hk;have X:j<l.length:=by omega
  show rk (if (l++[x]).getD j 0=x then _ else _)<rk (if (l++[x]).getD k 0=x then _ else _);rw[H j X,G _ (Di l j 0 X)];by_cases e:k=l.length
  ·rw[e,Dt,if_pos rfl,ag];have:=ah _ (Di l j 0 X);omega
  rw[H k (by omega),G _ (Di l k 0 (by omega))];exact h.inc j k ay (by omega)
 ·show rk (if q=x then _ else _)<=256*rk (if (l++[x]).getD i 0=x then _ else _)+(b+1);rw[H i hi,hs,G s T];rw[Ä,ϖ] at E;rcases E with E|rfl
  ·rw[G q E];have:=ah q E;omega
  rw[if_pos rfl,ag];omega
 ·have X:j<l.length:=by omega
  rw[H j X];obtain⟨h1,h2⟩:=h.done j hj y hy;show _/\rk (if t.stp (l.getD j 0) y=x then _ else _)<=256*rk (if l.getD j 0=x then _ else _)+y+1;rw[G _ h1,G _ (Di l j 0 X)];exact⟨List.mem_append_left _ h1,h2⟩
 ·rw[H i hi,hs];show _/\rk (if t.stp s y=x then _ else _)<=256*rk (if s=x then _ else _)+y+1;rw[G s T];by_cases e:y=b
  ·subst e;rw[au,if_pos rfl,ag];exact⟨by simp,Υ _⟩
  obtain⟨h1,h2⟩:=ao y (by omega);rw[G _ h1];exact⟨List.mem_append_left _ h1,h2⟩
 ·rw[H j (by omega)];exact h.no j hj
 ·rw[Cd _ _ _ _ _ (by rw[h.lenF];exact aa),Ä,ϖ];by_cases e:q=x
  ·rw[if_pos e];simp[e]
  rw[if_neg e,aq q E];simp[e]
 rw[Cd _ _ _ _ _ (by rw[h.lenF];exact aa)] at hp;rw[Cd _ _ _ _ _ (by rw[h.lenY];exact aa)];by_cases e:q=x
 ·rw[if_pos e] at hp ⊢;cases hp
  refine⟨List.mem_append_left _ T,?_⟩;rw[G s T,if_pos e]
 rw[if_neg e] at hp ⊢;obtain⟨h1,h2⟩:=ar q p hp E;refine⟨List.mem_append_left _ h1,?_⟩;rw[G p h1,if_neg e];exact h2
theorem RG (h:FB t i 256 l W F Y) (hi:i<l.length) (E:t.ok (l.getD i 0)=Ε):FB t (i+1) 0 l W F Y:=
 { h with
  bound:=λG s H=>by have h1:=h.bound hi s H;have X:=h.inc i (i+1) (by omega) G;omega
  done:=λj T x hx=>by
   by_cases e:j=i
   ·subst e;exact h.cur x hx
   exact h.done j (by omega) x hx
  cur:=λx hx=>by omega
  no:=λj T=>by
   by_cases e:j=i
   ·subst e;exact E
   exact h.no j (by omega) }
theorem FB.len_le (h:FB t i b l W F Y):l.length<=t.n.length:=by
 have:=D5 l (π t.n.length) h.nodup λs E=>ώ.2 (h.lt s E)
 simpa using this
theorem Yr (h:FB t i b l W F Y) (u:List UInt8):(∃ j,j<i/\j<l.length/\t.run 0 u=l.getD j 0/\rk (W (l.getD j 0))<=rk u)\/(i<l.length/\rk (W (l.getD i 0))<=rk u)\/(i<l.length/\False):=by
 have key:∀ k s,s∈l->rk (W s)<=k->(∃ j,j<i/\j<l.length/\s=l.getD j 0/\rk (W (l.getD j 0))<=k)\/(i<l.length/\rk (W (l.getD i 0))<=k):=λk s T H=>by
  obtain⟨j,E,rfl⟩:=Ic T;rcases Nat.lt_trichotomy j i with G|rfl|G
  ·exact .inl ⟨j,G,E,rfl,H⟩
  ·exact .inr ⟨E,H⟩
  have:=h.inc i j G E;exact .inr ⟨by omega,by omega⟩
 have:(∃ j,j<i/\j<l.length/\t.run 0 u=l.getD j 0/\rk (W (l.getD j 0))<=rk u)\/(i<l.length/\rk (W (l.getD i 0))<=rk u):=by
  induction u using Gv with
  | h0=>
   refine key _ 0 ?_ (by rw[h.w0];exact Υ _);have:=Di l 0 0 h.pos
   rwa [h.head] at this
  | h1 u x X=>
   rw[F6,Pc];rcases X with⟨j,E,ab,e,aa⟩|⟨hi,aa⟩
   ·obtain⟨h1,h2⟩:=h.done j E x.toNat x.toNat_lt;rw[e];exact key _ _ h1 (by omega)
   exact .inr ⟨hi,by omega⟩
 rcases this with h1|h1
 ·exact .inl h1
 exact .inr (.inl h1)
theorem RF (h:FB t i b l W F Y) (hi:l.length<=i) (u:List UInt8):t.has u=Ε:=by
 rcases Yr h u with⟨j,E,G,e,_⟩|⟨h1,_⟩|⟨_,h1⟩
 ·show t.ok (t.run 0 u)=Ε;rw[e];exact h.no j E
 ·omega
 exact h1.elim
theorem RD (h:FB t i b l W F Y) (hi:i<l.length) (E:t.ok (l.getD i 0)=Α):t.has (W (l.getD i 0))=Α/\∀ u,t.has u=Α->rk (W (l.getD i 0))<=rk u:=by
 refine⟨?_,λu hu=>?_⟩
 ·show t.ok (t.run 0 _)=Α;rw[h.run _ (Di l i 0 hi)];exact E
 rcases Yr h u with⟨j,G,H,e,_⟩|⟨_,h1⟩|⟨_,h1⟩
 ·have:t.ok (t.run 0 u)=Α:=hu;rw[e,h.no j G] at this;cases this
 ·exact h1
 exact h1.elim
end
theorem Jv {d:Dfa} (hd:Cano d) {α:Type} [DecidableEq α] (g:List UInt8->α) (hg:∀ w w',g w=g w'->∀ u,d.has (w++u)=d.has (w'++u)) (l:List α) (H:∀ w,g w∈l):d.n.length<=l.length:=by
 classical
 have G:∀ s:Nat,∃ w,s<d.n.length->d.run 0 w=s:=λs=>by
  by_cases E:s<d.n.length
  ·obtain⟨w,T⟩:=hd.reach s E;exact⟨w,λ_=>T⟩
  exact⟨[],λh=>absurd h E⟩
 have key:∀ w w',g w=g w'->d.run 0 w=d.run 0 w':=λw w' h=>by
  refine hd.red _ _ (hd.val.run_lt _ hd.val.pos) (hd.val.run_lt _ hd.val.pos) λu=>?_
  rw[<-Bf,<-Bf];exact hg w w' h u
 let f:Nat->α:=λs=>g (G s).choose
 have X:∀ s s',s<d.n.length->s'<d.n.length->f s=f s'->s=s':=λs s' E aa h=>by have:=key _ _ h;rw[(G s).choose_spec E,(G s').choose_spec aa] at this;exact this
 have hn:((π d.n.length).map f).Nodup:=by rw[Ù,List.pairwise_map];refine List.Pairwise.imp_of_mem (λ{a b} ha hb ae e=>ae (X a b (ώ.1 ha) (ώ.1 hb) e)) (Ù.1 List.nodup_range)
 have:=D5 _ l hn λx hx=>by obtain⟨s,_,rfl⟩:=Ϫ.1 hx;exact H _
 simpa using this
theorem TR {d:Dfa} (G:Val d) (E:List (List UInt8)) (H:E.Pairwise λu v=>∃ x,d.has (u++x)≠d.has (v++x)):E.length<=d.n.length:=by
 have T:(E.map λu=>d.run 0 u).Nodup:=by
  rw[Ù,List.pairwise_map];refine H.imp λ{u v} ⟨x,hx⟩ e=>hx ?_
  unfold Dfa.has;rw[Bf,Bf,e]
 have:=D5 _ (π d.n.length) T λs X=>by obtain⟨u,_,rfl⟩:=Ϫ.1 X;exact ώ.2 (G.run_lt _ G.pos)
 simpa using this
theorem Nw {d e:Dfa} (hd:Cano d) (he:Val e) (h:∀ w,d.has w=e.has w):d.n.length<=e.n.length:=by
 have:=Jv hd (λw=>e.run 0 w) (λw w' E u=>by rw[h,h];unfold Dfa.has;rw[Bf,Bf,E]) (π e.n.length) λw=>ώ.2 (he.run_lt _ he.pos)
 simpa using this
theorem TQ {d:Dfa} (hd:Cano d) {t:Tbl} (E:TVal t) (h:∀ w,d.has w=t.has w):d.n.length<=t.n.length:=by
 have:=Jv hd (λw=>t.run 0 w) (λw w' G u=>by rw[h,h];unfold Tbl.has;rw[Kd,Kd,G]) (π t.n.length) λw=>ώ.2 (E.run_lt _ E.pos)
 simpa using this
def swp (a s:Nat):Nat:=if s=0 then a else if s=a then 0 else s
theorem Me (a s:Nat):swp a (swp a s)=s:=by unfold swp;split<;>split<;>(try split)<;>omega
theorem Hs {a s n:Nat} (E:a<n) (G:s<n):swp a s<n:=by unfold swp;split<;>(try split)<;>omega
structure Quot (d q:Dfa) (a:Nat):Prop where
 cls:q.cls=d.cls
 len:q.n.length=d.n.length
 acl:q.acc.length=d.n.length
 row:∀ s,s<d.n.length->(q.n.getD (swp a s) []).length=d.cls.length
 ent:∀ s,s<d.n.length->∀ k,k<d.cls.length->q.ent2 (swp a s) k=swp a (d.ent2 s k)
 acc:∀ s,s<d.n.length->q.ok (swp a s)=d.ok s
theorem Quot.val {d q:Dfa} {a:Nat} (h:Quot d q a) (hd:Val d) (G:a<d.n.length):Val q where
 pos:=by rw[h.len];exact hd.pos
 accL:=by rw[h.acl,h.len]
 row:=λs E=>by rw[h.len] at E;have:=h.row (swp a s) (Hs G E);rw[Me] at this;rw[this,h.cls]
 tgt:=λs E k H=>by rw[h.len] at E;rw[h.cls] at H;have:=h.ent (swp a s) (Hs G E) k H;rw[Me] at this;rw[this,h.len];exact Hs G (hd.tgt _ (Hs G E) k H)
 parts:=by rw[h.cls];exact hd.parts
theorem Quot.run {d q:Dfa} {a:Nat} (h:Quot d q a) (hd:Val d):∀ (w:List UInt8) s,s<d.n.length->q.run (swp a s) w=swp a (d.run s w)
 | [],_,_=>rfl
 | x::w,s,E=>by
  show q.run (q.stp (swp a s) x.toNat) w=swp a (d.run (d.stp s x.toNat) w);have h1:q.stp (swp a s) x.toNat=swp a (d.stp s x.toNat):=by unfold Dfa.stp;rw[h.cls];exact h.ent s E _ (cell_lt hd.parts x.toNat_lt)
  rw[h1];exact Quot.run h hd w _ (hd.stp_lt E x.toNat_lt)
section
variable {t:Tbl} {n:Nat} {B N R:List Nat} {f:List UInt8->Option Nat} {m:Nat}
end
theorem To {α:Type} (k:Nat):∀ l:List α,(l.map λ_=>k).sum=l.length*k
 | []=>by simp
 | a::l=>by simp only[ÿ,List.sum_cons,To k l,List.length_cons,Nat.add_mul];omega
def Da (w:List UInt8) (s:Nat):List Nat:=(π 256).map λb=>if s<w.length/\(w.getD s 0).toNat=b then s+1 else w.length+1
def C1 (w:List UInt8):Tbl:=⟨λb=>b,256,(π (w.length+2)).map (Da w),(π (w.length+2)).map λs=>s==w.length⟩
theorem Eu {α:Type} (g:Nat->α) (n s:Nat) (d:α) (E:s<n):((π n).map g).getD s d=g s:=by simp[Ζ,E]
theorem Ka (w:List UInt8):(C1 w).n.length=w.length+2:=by simp[C1]
theorem S8 (w:List UInt8) (s k:Nat) (E:s<w.length+2) (G:k<256):(C1 w).ent2 s k=if s<w.length/\(w.getD s 0).toNat=k then s+1 else w.length+1:=by unfold Tbl.ent2;show (((π (w.length+2)).map (Da w)).getD s []).getD k 0=_;rw[Eu _ _ _ _ E];unfold Da;rw[Eu _ _ _ _ G]
theorem CL (w:List UInt8):TVal (C1 w) where
 pos:=by rw[Ka];omega
 accL:=by rw[Ka];simp[C1]
 row:=λs E=>by rw[Ka] at E;show (((π (w.length+2)).map (Da w)).getD s []).length=256;rw[Eu _ _ _ _ E];simp[Da]
 tgt:=λs E k G=>by rw[Ka] at E ⊢;rw[S8 w s k E G];split<;>omega
 cell_lt:=λb hb=>hb
 onto:=λk G=>⟨k,G,rfl⟩
theorem S7 (w:List UInt8) (s:Nat) (E:s<w.length+2):(C1 w).ok s=(s==w.length):=by unfold Tbl.ok;show ((π (w.length+2)).map λs=>s==w.length).getD s Ε=_;rw[Eu _ _ _ _ E]
theorem S5 (w:List UInt8) (s:Nat) (x:UInt8) (E:s<w.length+2):(C1 w).stp s x.toNat=if s<w.length/\w.getD s 0=x then s+1 else w.length+1:=by
 show (C1 w).ent2 s x.toNat=_;rw[S8 w s _ E x.toNat_lt]
 congr 1
 rw[UInt8.toNat_inj]
theorem S9 (w:List UInt8):∀ u:List UInt8,(C1 w).run (w.length+1) u=w.length+1
 | []=>rfl
 | x::u=>by show (C1 w).run ((C1 w).stp (w.length+1) x.toNat) u=_;rw[S5 w _ x (by omega),if_neg (by omega)];exact S9 w u
theorem S6 (w:List UInt8):∀ (u:List UInt8) (s:Nat),s<=w.length->((C1 w).ok ((C1 w).run s u)=Α↔u=w.drop s)
 | [],s,H=>by
  show (C1 w).ok s=Α↔_;rw[S7 w s (by omega)];constructor
  ·intro h;have:s=w.length:=by simpa using h
   rw[this,List.drop_length]
  intro h;have:=congrArg List.length h;rw[List.length_drop] at this;simp only[List.length_nil] at this;simp;omega
 | x::u,s,H=>by
  show (C1 w).ok ((C1 w).run ((C1 w).stp s x.toNat) u)=Α↔_;rw[S5 w s x (by omega)];by_cases h:s<w.length/\w.getD s 0=x
  ·rw[if_pos h,S6 w u (s+1) (by omega),ϱ h.1];have:w[s]'h.1=x:=by have G:=h.2;rw[Ζ,Θ h.1] at G;exact G
   rw[this];simp
  rw[if_neg h,S9,S7 w _ (by omega)];constructor
  ·intro h1;simp at h1
  intro h1;exfalso
  by_cases E:s<w.length
  ·rw[ϱ E] at h1;injection h1 with h1 _
   exact h ⟨E,by rw[h1,Ζ,Θ E];rfl⟩
  rw[List.drop_eq_nil_of_le (by omega)] at h1;cases h1
theorem CN (w u:List UInt8):(C1 w).has u=Α↔u=w:=by have:=S6 w u 0 (by omega);rw[List.drop_zero] at this;exact this
def Hw (t:Tbl):Tbl:=⟨t.cell,t.cells,t.n,t.acc.map (!·)⟩
theorem V5 {t:Tbl} (h:TVal t):TVal (Hw t) where
 pos:=h.pos
 accL:=by simp[Hw,h.accL]
 row:=h.row
 tgt:=h.tgt
 cell_lt:=h.cell_lt
 onto:=h.onto
theorem V6 {t:Tbl} (h:TVal t) (w:List UInt8):(Hw t).has w=!t.has w:=by
 have G:∀ (w:List UInt8) s,(Hw t).run s w=t.run s w:=λ_ _=>rfl
 unfold Tbl.has;rw[G];have E:=h.run_lt w h.pos;unfold Tbl.ok Hw;rw[Ζ,υ,Θ (by rw[h.accL];exact E),Ζ,Θ (by rw[h.accL];exact E)];rfl
def Cv (L:List Cls) (p:Cls->Bool):Dfa:=⟨L,[L.map λk=>if p k then 1 else 2,L.map λ_=>2,L.map λ_=>2],[Ε,Α,Ε]⟩
theorem MY {L:List Cls} (H:Parts L) (p:Cls->Bool):Val (Cv L p) where
 pos:=by simp[Cv]
 accL:=rfl
 row:=λs E=>by
  have:s<3:=E
  match s,this with
  | 0,_=>simp[Cv]
  | 1,_=>simp[Cv]
  | 2,_=>simp[Cv]
 tgt:=λs E k G=>by
  have E:s<3:=E;have G:k<L.length:=G;show (Cv L p).ent2 s k<3;unfold Dfa.ent2 Cv
  match s,E with
  | 0,_=>simp[Ζ,G];split<;>omega
  | 1,_=>simp[Ζ,G]
  | 2,_=>simp[Ζ,G]
 parts:=H
theorem MZ {L:List Cls} (G:Parts L) (p:Cls->Bool) (c:Cls) (T:∀ b,b<256->(p (L.getD (Am L b) 0#256)=Α↔c.getLsbD b=Α)) (w:List UInt8):(Cv L p).has w=Α↔∃ x:UInt8,w=[x]/\c.getLsbD x.toNat=Α:=by
 have X:∀ b,b<256->(Cv L p).stp 0 b=if p (L.getD (Am L b) 0#256) then 1 else 2:=λb hb=>by have E:=cell_lt G hb;show ((L.map λk=>if p k then 1 else 2).getD (Am L b) 0)=_;simp only[Ζ,υ,Θ E,Option.map_some,Ç]
 have s1:∀ b,b<256->(Cv L p).stp 1 b=2:=λb hb=>by have E:=cell_lt G hb;show ((L.map λ_=>2).getD (Am L b) 0)=_;simp only[Ζ,υ,Θ E,Option.map_some,Ç]
 have s2:∀ b,b<256->(Cv L p).stp 2 b=2:=λb hb=>by have E:=cell_lt G hb;show ((L.map λ_=>2).getD (Am L b) 0)=_;simp only[Ζ,υ,Θ E,Option.map_some,Ç]
 have H:∀ u:List UInt8,(Cv L p).run 2 u=2:=λu=>by
  induction u with
  | nil=>rfl
  | cons x u ih=>show (Cv L p).run ((Cv L p).stp 2 x.toNat) u=2;rw[s2 _ x.toNat_lt];exact ih
 match w with
 | []=>
  constructor
  ·intro h;exact absurd h (by show ¬ (Ε=Α);decide)
  rintro⟨x,h,_⟩;cases h
 | x::u=>
  show (Cv L p).ok ((Cv L p).run ((Cv L p).stp 0 x.toNat) u)=Α↔_;rw[X _ x.toNat_lt];have hx:=T _ x.toNat_lt;cases hc:p (L.getD (Am L x.toNat) 0#256)
  ·simp only[Bool.false_eq_true,if_false];rw[H];constructor
   ·intro h;exact absurd h (by show ¬ (Ε=Α);decide)
   rintro⟨y,h,hy⟩;injection h with h1 h2
   subst h1;rw[hc] at hx;exact absurd (hx.2 hy) (by decide)
  simp only[if_true]
  match u with
  | []=>
   constructor
   ·intro _;exact⟨x,rfl,hx.1 hc⟩
   intro _;rfl
  | y::v=>
   show (Cv L p).ok ((Cv L p).run ((Cv L p).stp 1 y.toNat) v)=Α↔_;rw[s1 _ y.toNat_lt,H];constructor
   ·intro h;exact absurd h (by show ¬ (Ε=Α);decide)
   rintro⟨z,h,_⟩;injection h with _ h;cases h
def D4 (c:Cls) (a:Bool):Dfa:=⟨[c],[[0]],[a]⟩
theorem JP (c:Cls) (hc:∀ b,b<256->c.getLsbD b=Α) (a:Bool) (w:List UInt8):(D4 c a).has w=a:=by
 have E:∀ b,b<256->(D4 c a).stp 0 b=0:=λb hb=>by
  unfold Dfa.stp Dfa.ent2 D4;have:Am [c] b=0:=by unfold Am;simp[hc b hb]
  rw[this];rfl
 have:∀ w:List UInt8,(D4 c a).run 0 w=0:=λw=>by
  induction w with
  | nil=>rfl
  | cons x u G=>show (D4 c a).run ((D4 c a).stp 0 x.toNat) u=0;rw[E _ x.toNat_lt];exact G
 unfold Dfa.has;rw[this];rfl
theorem JQ (c:Cls) (hc:∀ b,b<256->c.getLsbD b=Α) (a:Bool):Cano (D4 c a) where
 val:=by
  refine⟨by simp[D4],rfl,λs E=>?_,λs E k G=>?_,⟨λx hx=>?_,by simp[D4],λi hi=>⟨c,by simp[D4],hc i hi⟩⟩⟩
  ·have:s<1:=E;obtain rfl:s=0:=by omega
   rfl
  ·have:s<1:=E;have G:k<1:=G;obtain rfl:s=0:=by omega
   obtain rfl:k=0:=by omega
   show (0:Nat)<1;omega
  simp[D4] at hx;subst hx;exact Ku (hc 0 (by omega))
 reach:=λs E=>⟨[],by have:s<1:=E;show 0=s;omega⟩
 red:=λs t E H _=>by have:s<1:=E;have:t<1:=H;omega
 col:=λi j hi T _=>by have:i<1:=hi;have:j<1:=T;omega
 srt:=by simp[D4]
 rgf:=λp X=>by
  have:p<1*1:=X;obtain rfl:p=0:=by omega
  have:(D4 c a).ent 0=0:=by simp[Dfa.ent,Dfa.ent2,D4]
  rw[this];omega
def Cr {σ:Type} (nx:σ->Nat->σ) (st:σ) (m:Nat):Prop:=∃ l:List σ,l.Nodup/\(∀ s,s∈l->∃ w,Ap nx st w=s)/\m<l.length
theorem M4 {σ:Type} [DecidableEq σ] {nx:σ->Nat->σ} {st:σ} {m:Nat} (M:List σ) (hM:∀ w,Ap nx st w∈M) (hm:M.length<=m):¬ Cr nx st m:=by
 rintro⟨l,E,G,T⟩;have:=D5 l M E λs H=>by obtain⟨w,rfl⟩:=G s H;exact hM w
 omega
def Lim (L:List UInt8->Prop):Option Dfa->Prop
 | some d=>Cano d/\(∀ w,d.has w=Α↔L w)/\d.n.length<=64
 | none=>∃ d,Cano d/\(∀ w,d.has w=Α↔L w)/\64<d.n.length
theorem Ip {d e:Dfa} {L:List UInt8->Prop} (hd:Cano d) (he:Cano e) (h:∀ w,d.has w=Α↔L w) (k:∀ w,e.has w=Α↔L w):d=e:=
 Fu hd he λw=>by rw[Bool.eq_iff_iff,h,k]
theorem K8 {L:List UInt8->Prop} {r G:Option Dfa} (h:Lim L r) (E:Lim L G):r=G:=by
 cases r<;>cases G
 ·rfl
 ·obtain⟨d,h1,H,X⟩:=h;obtain⟨k1,T,k3⟩:=E;have:=Ip h1 k1 H T;subst this;omega
 ·obtain⟨d,h1,H,X⟩:=E;obtain⟨k1,T,k3⟩:=h;have:=Ip h1 k1 H T;subst this;omega
 rw[Ip h.1 E.1 h.2.1 E.2.1]
theorem Gc {L M:List UInt8->Prop} {r:Option Dfa} (h:Lim L r) (E:∀ w,L w↔M w):Lim M r:=by rw[show M=L from funext λw=>propext (E w).symm];exact h
def Cx (a b:Dfa) (r:Option Dfa):Prop:=∃ x y,Cano x/\Cano y/\(∀ w,x.has w=a.has w)/\(∀ w,y.has w=b.has w)/\(Cr (cnx (Ah x) (Ah y)) (cst (Ah x)) 4096->r=J)/\(¬ Cr (cnx (Ah x) (Ah y)) (cst (Ah x)) 4096->Lim (Cat (λw=>a.has w=Α) λw=>b.has w=Α) r)
theorem Ru {a b:Dfa} {r E:Option Dfa} (h:Cx a b r) (G:Cx a b E):r=E:=by
 obtain⟨x,y,hx,H,T,X,h1,h2⟩:=h;obtain⟨x',y',ab,ad,ae,af,ag,ah⟩:=G;obtain rfl:=Fu hx ab λw=>by rw[T,ae]
 obtain rfl:=Fu H ad λw=>by rw[X,af]
 by_cases hm:Cr (cnx (Ah x) (Ah y)) (cst (Ah x)) 4096
 ·rw[h1 hm,ag hm]
 exact K8 (h2 hm) (ah hm)
def Hi (a:Dfa) (r:Option Dfa):Prop:=∃ x,Cano x/\(∀ w,x.has w=a.has w)/\(Cr (snx (Ah x)) (1,1) 4096->r=J)/\(¬ Cr (snx (Ah x)) (1,1) 4096->Lim (Star λw=>a.has w=Α) r)
theorem EJ {a:Dfa} {r E:Option Dfa} (h:Hi a r) (G:Hi a E):r=E:=by
 obtain⟨x,hx,H,h1,T⟩:=h;obtain⟨x',X,aa,ab,ad⟩:=G;obtain rfl:=Fu hx X λw=>by rw[H,aa]
 by_cases hm:Cr (snx (Ah x)) (1,1) 4096
 ·rw[h1 hm,ab hm]
 exact K8 (T hm) (ad hm)
theorem Oj {y:Tbl} (E:TVal y) (S c:Nat) (hc:c<256):∀ n,n<=y.n.length->A5 y S c n<2 ^ y.n.length
 | 0,_=>Nat.two_pow_pos _
 | n+1,h=>by
  have G:=Oj E S c hc n (by omega);simp only[A5];split
  ·exact Nat.or_lt_two_pow G (Nat.pow_lt_pow_right (by omega) (E.stp_lt (by omega) hc))
  exact G
theorem Vv {S m:Nat} (hm:0<m) (h:S<2 ^ m):S ||| 1<2 ^ m:=Nat.or_lt_two_pow h (by
 have:=Nat.pow_lt_pow_right (show 1<2 by omega) hm
 simpa using this)
theorem Zv {x y:Tbl} (hx:TVal x) (E:TVal y) (w:List UInt8):(Ap (cnx x y) (cst x) w).1<x.n.length/\(Ap (cnx x y) (cst x) w).2<2 ^ y.n.length:=by
 have hc:∀ p S,p<x.n.length->S<2 ^ y.n.length->(Gl x p S).1<x.n.length/\(Gl x p S).2<2 ^ y.n.length:=λp S H G=>by
  refine⟨H,?_⟩;unfold Gl;simp only;split
  ·exact Vv E.pos G
  exact G
 induction w using Gv with
 | h0=>exact hc 0 0 hx.pos (Nat.two_pow_pos _)
 | h1 w b T=>rw[E1];exact hc _ _ (hx.stp_lt T.1 b.toNat_lt) (Oj E _ _ b.toNat_lt _ (Υ _))
theorem Tr {x:Tbl} (hx:TVal x) (w:List UInt8):(Ap (snx x) (1,1) w).1<2/\(Ap (snx x) (1,1) w).2<2 ^ x.n.length:=by
 induction w using Gv with
 | h0=>
  refine⟨by show 1<2;omega,?_⟩;have:=Nat.pow_lt_pow_right (show 1<2 by omega) hx.pos;show 1<_
  simpa using this
 | h1 w b E=>
  rw[E1];refine⟨by show 0<2;omega,?_⟩;unfold snx;have:=Oj hx (Ap (snx x) (1,1) w).2 b.toNat b.toNat_lt _ (Υ _);simp only;split
  ·exact Vv hx.pos this
  exact this
def box (n m:Nat):List (Nat × Nat):=(π n).flatMap λp=>(π m).map λq=>(p,q)
theorem Sa (n m:Nat):(box n m).length=n*m:=by unfold box;rw[List.length_flatMap];simp only[ι,List.length_range];rw[To,List.length_range]
theorem R9 {n m:Nat} {s:Nat × Nat} (h1:s.1<n) (E:s.2<m):s∈box n m:=by unfold box;rw[List.mem_flatMap];exact⟨s.1,ώ.2 h1,Ϫ.2 ⟨s.2,ώ.2 E,rfl⟩⟩
theorem TK {x y:Tbl} (hx:TVal x) (E:TVal y) (h:x.n.length*2 ^ y.n.length<=4096):¬ Cr (cnx x y) (cst x) 4096:=
 M4 (box x.n.length (2 ^ y.n.length)) (λw=>R9 (Zv hx E w).1 (Zv hx E w).2) (by rw[Sa];exact h)
theorem EF {x:Tbl} (hx:TVal x) (h:2*2 ^ x.n.length<=4096):¬ Cr (snx x) (1,1) 4096:=
 M4 (box 2 (2 ^ x.n.length)) (λw=>R9 (Tr hx w).1 (Tr hx w).2) (by rw[Sa];exact h)
abbrev Af:=List UInt8->Prop
def wd1 (d:Dfa):Af:=λw=>d.has w=Α
theorem Hg {L G M H:Af} (h:∀ w,L w↔G w) (k:∀ w,M w↔H w) (w:List UInt8):Cat L M w↔Cat G H w:=by
 unfold Cat;constructor
 ·rintro⟨u,v,e,hu,E⟩;exact⟨u,v,e,(h u).1 hu,(k v).1 E⟩
 rintro⟨u,v,e,hu,E⟩;exact⟨u,v,e,(h u).2 hu,(k v).2 E⟩
theorem Zy (L M N:Af) (w:List UInt8):Cat (Cat L M) N w↔Cat L (Cat M N) w:=by
 constructor
 ·rintro⟨_,v,rfl,⟨a,b,rfl,E,hb⟩,G⟩;exact⟨a,b++v,by simp,E,b,v,rfl,hb,G⟩
 rintro⟨a,_,rfl,E,b,v,rfl,hb,G⟩;exact⟨a++b,v,by simp,⟨a,b,rfl,E,hb⟩,G⟩
theorem Nv (L:Af) (w:List UInt8):Cat (λu=>u=[]) L w↔L w:=by
 constructor
 ·rintro⟨u,v,rfl,rfl,E⟩;simpa using E
 intro h;exact⟨[],w,rfl,rfl,h⟩
theorem Jt (L:Af) (w:List UInt8):Cat L (λu=>u=[]) w↔L w:=by
 constructor
 ·rintro⟨u,v,rfl,hu,rfl⟩;simpa using hu
 intro h;exact⟨w,[],by simp,h,rfl⟩
def pwc (P L:Af):Nat->Af
 | 0=>P
 | n+1=>pwc (Cat P L) L n
theorem U4 {P E L G:Af} (h:∀ w,P w↔E w) (k:∀ w,L w↔G w) (n:Nat) (w:List UInt8):pwc P L n w↔pwc E G n w:=by rw[show P=E from funext λw=>propext (h w),show L=G from funext λw=>propext (k w)]
theorem U5 (A P L:Af):∀ (n:Nat) (w:List UInt8),pwc (Cat A P) L n w↔Cat A (pwc P L n) w
 | 0,w=>Iff.rfl
 | n+1,w=>by show pwc (Cat (Cat A P) L) L n w↔Cat A (pwc (Cat P L) L n) w;rw[<-U5 A (Cat P L) L n w];exact U4 (λw=>Zy A P L w) (λ_=>Iff.rfl) n w
def pw (L:Af) (n:Nat):Af:=pwc (λw=>w=[]) L n
theorem U3 (P L:Af) (n:Nat) (w:List UInt8):pwc P L n w↔Cat P (pw L n) w:=by rw[pw,<-U5];exact U4 (λw=>(Jt P w).symm) (λ_=>Iff.rfl) n w
theorem Fz (L:Af) (n:Nat) (w:List UInt8):pw L (n+1) w↔Cat L (pw L n) w:=by show pwc (Cat (λw=>w=[]) L) L n w↔_;rw[U3];exact Hg (Nv L) (λ_=>Iff.rfl) w
theorem Gy (L:Af):∀ (m n:Nat) (w:List UInt8),pw L (m+n) w↔Cat (pw L m) (pw L n) w
 | 0,n,w=>by rw[Nat.zero_add];exact (Nv _ w).symm
 | m+1,n,w=>by rw[show m+1+n=(m+n)+1 by omega,Fz];rw[Hg (λ_=>Iff.rfl) (Gy L m n) w,<-Zy];exact Hg (λw=>(Fz L m w).symm) (λ_=>Iff.rfl) w
theorem Mr (L:Af):∀ (n:Nat) (w:List UInt8),pw (λw=>L w\/w=[]) n w↔∃ k,k<=n/\pw L k w
 | 0,w=>by
  constructor
  ·intro h;exact⟨0,by omega,h⟩
  rintro⟨k,G,h⟩;obtain rfl:k=0:=by omega
  exact h
 | n+1,w=>by
  rw[Fz];constructor
  ·rintro⟨u,v,rfl,hu,E⟩;obtain⟨k,G,h⟩:=(Mr L n v).1 E;rcases hu with hu|rfl
   ·exact⟨k+1,by omega,(Fz L k _).2 ⟨u,v,rfl,hu,h⟩⟩
   exact⟨k,by omega,by simpa using h⟩
  rintro⟨k,G,h⟩;by_cases e:k=n+1
  ·subst e;obtain⟨u,v,rfl,hu,E⟩:=(Fz L n w).1 h;exact⟨u,v,rfl,.inl hu,(Mr L n v).2 ⟨n,by omega,E⟩⟩
  exact⟨[],w,rfl,.inr rfl,(Mr L n w).2 ⟨k,by omega,h⟩⟩
theorem Ot (L:Af) (w:List UInt8):Star L w↔∃ k,pw L k w:=by
 constructor
 ·intro h;induction h with
  | nil=>exact⟨0,rfl⟩
  | app hu E H=>obtain⟨k,G⟩:=H;refine⟨k+1,(Gy L k 1 _).2 ⟨_,_,rfl,G,?_⟩⟩;rw[Fz];exact (Jt L _).2 E
 rintro⟨k,G⟩;induction k generalizing w with
 | zero=>have:w=[]:=G;subst this;exact .nil
 | succ k H=>
  obtain⟨u,v,rfl,hu,E⟩:=(Gy L k 1 w).1 G;have E:L v:=by rw[Fz] at E;exact (Jt L _).1 E
  exact .app (H u hu) E
def rep (L:Af) (E:Nat) (hi:Int):Af:=λw=>∃ k,E<=k/\(hi<0\/(k:Int)<=hi)/\pw L k w
structure RNode where
 kind:Nat
 l:Nat
 r:Nat
 c:Cls
 min:Nat
 max:Int
def B3 (n:RNode) (l:List Af):Af:=
 if n.kind=1 then λ_=>False else if n.kind=2 then λw=>w=[] else if n.kind=3 then λw=>∃ x:UInt8,w=[x]/\n.c.getLsbD x.toNat=Α else
 if n.kind=4 then Cat (l.getD n.l λ_=>False) (l.getD n.r λ_=>False) else if n.kind=5 then λw=>l.getD n.l (λ_=>False) w\/l.getD n.r (λ_=>False) w else
 if n.kind=6 then λw=>l.getD n.l (λ_=>False) w/\l.getD n.r (λ_=>False) w else if n.kind=7 then λw=>¬ l.getD n.l (λ_=>False) w else rep (l.getD n.l λ_=>False) n.min n.max
def Cg:List RNode->List Af->List Af
 | [],l=>l
 | n::x,l=>Cg x (l++[B3 n l])
def E4 (L:Af) (r:Option Dfa):Prop:=∃ d,r=I d/\Cano d/\∀ w,d.has w=Α↔L w
def Ek (r:Option Dfa) (f:Dfa->Option Dfa->Prop) (q:Option Dfa):Prop:=match r with|none=>q=J|some d=>f d q
def Dn (p d:Dfa):Nat->Option Dfa->Prop
 | 0,r=>r=I p
 | n+1,r=>∃ q,Cx p d q/\Ek q (λE=>Dn E d n) r
def E3 (d:Dfa) (E:Nat) (hi:Int) (r:Option Dfa):Prop:=
 ∃ e,(Cano e/\∀ w,e.has w=Α↔w=[])/\∃ q,Dn e d E q/\Ek q (λp r=>if hi=E then r=I p else
  if hi<0 then ∃ s,Hi d s/\Ek s (λs r=>Cx p s r) r else ∃ o,Lim (λw=>d.has w=Α\/e.has w=Α) o/\Ek o (λo r=>Dn p o (hi-E).toNat r) r) r
def dN:Dfa:=⟨[],[],[]⟩
def Fw (n:RNode) (l:List Dfa) (r:Option Dfa):Prop:=
 if n.kind=1 then E4 (λ_=>False) r else if n.kind=2 then E4 (λw=>w=[]) r else if n.kind=3 then E4 (λw=>∃ x:UInt8,w=[x]/\n.c.getLsbD x.toNat=Α) r else
 if n.kind=4 then Cx (l.getD n.l dN) (l.getD n.r dN) r else if n.kind=5 then Lim (λw=>(l.getD n.l dN).has w=Α\/(l.getD n.r dN).has w=Α) r else
 if n.kind=6 then Lim (λw=>(l.getD n.l dN).has w=Α/\(l.getD n.r dN).has w=Α) r else if n.kind=7 then E4 (λw=>¬ (l.getD n.l dN).has w=Α) r else E3 (l.getD n.l dN) n.min n.max r
def Dj:List RNode->List Dfa->Option Dfa->Prop
 | [],l,r=>r=I (l.getD (l.length-1) dN)
 | n::x,l,r=>∃ q,Fw n l q/\Ek q (λd=>Dj x (l++[d])) r
theorem Ny {L:Af} {r E:Option Dfa} (h:E4 L r) (G:E4 L E):r=E:=by obtain⟨d,rfl,h1,H⟩:=h;obtain⟨d',rfl,T,X⟩:=G;rw[Ip h1 T H X]
theorem L0 {q:Option Dfa} {f:Dfa->Option Dfa->Prop} {r E:Option Dfa} (H:∀ d r E,f d r->f d E->r=E) (h:Ek q f r) (G:Ek q f E):r=E:=by
 cases q with
 | none=>exact h.trans G.symm
 | some d=>exact H d r E h G
theorem Pi (d:Dfa):∀ (n:Nat) (p:Dfa) {r E:Option Dfa},Dn p d n r->Dn p d n E->r=E
 | 0,p,r,E,h,G=>h.trans G.symm
 | n+1,p,r,E,⟨q,h1,H⟩,⟨q',T,X⟩=>by obtain rfl:=Ru h1 T;exact L0 (λd' _ _=>Pi d n d') H X
theorem GQ {d:Dfa} {G:Nat} {hi:Int} {r E:Option Dfa} (h:E3 d G hi r) (H:E3 d G hi E):r=E:=by
 obtain⟨e,he,q,h1,h2⟩:=h;obtain⟨e',ad,q',af,ag⟩:=H;obtain rfl:=Ip he.1 ad.1 he.2 ad.2;obtain rfl:=Pi d G e h1 af;refine L0 (λp r E k k'=>?_) h2 ag;by_cases c1:hi=G
 ·rw[if_pos c1] at k k';exact k.trans k'.symm
 rw[if_neg c1] at k k';by_cases c2:hi<0
 ·rw[if_pos c2] at k k';obtain⟨s,T,X⟩:=k;obtain⟨s',aa,ab⟩:=k';obtain rfl:=EJ T aa;exact L0 (λd r E (h:Cx p d r) (H:Cx p d E)=>Ru h H) X ab
 rw[if_neg c2] at k k';obtain⟨s,T,X⟩:=k;obtain⟨s',aa,ab⟩:=k';obtain rfl:=K8 T aa;exact L0 (λo _ _=>Pi o _ p) X ab
theorem KN {n:RNode} {l:List Dfa} {r G:Option Dfa} (h:Fw n l r) (E:Fw n l G):r=G:=by
 unfold Fw at h E;split at h
 ·rename_i c;rw[if_pos c] at E;exact Ny h E
 rename_i c1;rw[if_neg c1] at E
 split at h
 ·rename_i c;rw[if_pos c] at E;exact Ny h E
 rename_i c2;rw[if_neg c2] at E
 split at h
 ·rename_i c;rw[if_pos c] at E;exact Ny h E
 rename_i H;rw[if_neg H] at E
 split at h
 ·rename_i c;rw[if_pos c] at E;exact Ru h E
 rename_i T;rw[if_neg T] at E
 split at h
 ·rename_i c;rw[if_pos c] at E;exact K8 h E
 rename_i X;rw[if_neg X] at E
 split at h
 ·rename_i c;rw[if_pos c] at E;exact K8 h E
 rename_i c6;rw[if_neg c6] at E
 split at h
 ·rename_i c;rw[if_pos c] at E;exact Ny h E
 rename_i c7;rw[if_neg c7] at E
 exact GQ h E
theorem AF:∀ (x:List RNode) (l:List Dfa) {r E:Option Dfa},Dj x l r->Dj x l E->r=E
 | [],l,r,E,h,G=>h.trans G.symm
 | n::x,l,r,E,⟨q,h1,H⟩,⟨q',T,X⟩=>by obtain rfl:=KN h1 T;exact L0 (λd _ _=>AF x (l++[d])) H X
def Fit (d:Dfa) (L:Af):Prop:=Cano d/\∀ w,d.has w=Α↔L w
theorem Qa {L:Af} {d:Dfa} (h:Lim L (I d)):Fit d L:=⟨h.1,h.2.1⟩
theorem Io {a b d:Dfa} {L M:Af} (h:Cx a b (I d)) (E:∀ w,a.has w=Α↔L w) (hb:∀ w,b.has w=Α↔M w):Fit d (Cat L M)/\d.n.length<=64:=by
 obtain⟨x,y,hx,T,X,ey,h1,G⟩:=h;by_cases hm:Cr (cnx (Ah x) (Ah y)) (cst (Ah x)) 4096
 ·cases h1 hm
 obtain⟨k1,H,k3⟩:=G hm;exact⟨⟨k1,λw=>(H w).trans (Hg E hb w)⟩,k3⟩
theorem Ts {a d:Dfa} {L:Af} (h:Hi a (I d)) (E:∀ w,a.has w=Α↔L w):Fit d (Star L)/\d.n.length<=64:=by
 obtain⟨x,hx,T,h1,G⟩:=h;by_cases hm:Cr (snx (Ah x)) (1,1) 4096
 ·cases h1 hm
 obtain⟨k1,H,k3⟩:=G hm;refine⟨⟨k1,λw=>?_⟩,k3⟩;rw[H,show L=λw=>a.has w=Α from funext λw=>propext (E w).symm]
theorem Pj {d:Dfa} {L:Af} (hd:∀ w,d.has w=Α↔L w):∀ (n:Nat) (p:Dfa) (P:Af) (q:Dfa),Fit p P->Dn p d n (I q)->Fit q (pwc P L n)
 | 0,p,P,q,E,h=>by
  injection (show I q=I p from h) with h
  subst h;exact E
 | n+1,p,P,q,E,⟨q',h1,G⟩=>by
  cases q' with
  | none=>cases (show I q=J from G)
  | some H=>exact Pj hd n H (Cat P L) q (Io h1 E.2 hd).1 G
theorem GR {d q:Dfa} {L:Af} {E:Nat} {hi:Int} (hd:∀ w,d.has w=Α↔L w) (af:hi<0\/(E:Int)<=hi) (h:E3 d E hi (I q)):Fit q (rep L E hi):=by
 obtain⟨e,he,p,h1,G⟩:=h;cases p with
 | none=>cases (show I q=J from G)
 | some p=>
  have hp:Fit p (pw L E):=Pj hd E e _ p ⟨he.1,he.2⟩ h1;change (if hi=(E:Int) then _ else _) at G
  by_cases c1:hi=E
  ·rw[if_pos c1] at G;injection G with G
   subst G;refine⟨hp.1,λw=>(hp.2 w).trans ?_⟩;constructor
   ·intro h;exact⟨E,Υ _,.inr (by omega),h⟩
   rintro⟨k,k1,k2,h⟩;obtain rfl:k=E:=by omega
   exact h
  rw[if_neg c1] at G;by_cases c2:hi<0
  ·rw[if_pos c2] at G;obtain⟨s,s1,T⟩:=G;cases s with
   | none=>cases (show I q=J from T)
   | some s=>
    have hs:=(Ts s1 hd).1;have X:=(Io (show Cx p s (I q) from T) hp.2 hs.2).1;refine⟨X.1,λw=>(X.2 w).trans ?_⟩;rw[Hg (λ_=>Iff.rfl) (Ot L) w];constructor
    ·rintro⟨u,v,rfl,hu,k,H⟩;exact⟨E+k,by omega,.inl c2,(Gy L E k _).2 ⟨u,v,rfl,hu,H⟩⟩
    rintro⟨k,k1,_,h⟩;obtain⟨m,rfl⟩:∃ m,k=E+m:=⟨k-E,by omega⟩;obtain⟨u,v,rfl,hu,H⟩:=(Gy L E m w).1 h;exact⟨u,v,rfl,hu,m,H⟩
  rw[if_neg c2] at G;obtain⟨s,s1,T⟩:=G;cases s with
  | none=>cases (show I q=J from T)
  | some s=>
   have hs:∀ w,s.has w=Α↔L w\/w=[]:=λw=>by refine (s1.2.1 w).trans ?_;show (d.has w=Α\/e.has w=Α)↔_;rw[hd,he.2]
   have X:=Pj hs _ p _ q hp T;refine⟨X.1,λw=>(X.2 w).trans ?_⟩;rw[U3,Hg (λ_=>Iff.rfl) (Mr L _) w];constructor
   ·rintro⟨u,v,rfl,hu,k,hk,H⟩;exact⟨E+k,by omega,.inr (by omega),(Gy L E k _).2 ⟨u,v,rfl,hu,H⟩⟩
   rintro⟨k,k1,k2,h⟩;obtain⟨m,rfl⟩:∃ m,k=E+m:=⟨k-E,by omega⟩;obtain⟨u,v,rfl,hu,H⟩:=(Gy L E m w).1 h;exact⟨u,v,rfl,hu,m,by omega,H⟩
def RNode.good (n:RNode) (i:Nat):Prop:=(n.kind=4\/n.kind=5\/n.kind=6->n.l<i/\n.r<i)/\(n.kind=7\/n.kind=8->n.l<i)/\(n.max<0\/(n.min:Int)<=n.max)/\1<=n.kind/\n.kind<=8
def Od (ds:List Dfa) (ls:List Af):Prop:=ds.length=ls.length/\∀ i,i<ds.length->Fit (ds.getD i dN) (ls.getD i λ_=>False)
theorem KP {n:RNode} {ds:List Dfa} {ls:List Af} (G:Od ds ls) (hg:n.good ds.length) {d:Dfa} (h:Fw n ds (I d)):Fit d (B3 n ls):=by
 obtain⟨X,g2,g3,g4,g5⟩:=hg;have T:∀ {L:Af},E4 L (I d)->Fit d L:=fun⟨e,e1,e2,e3⟩=>by
  injection e1 with e1
  subst e1;exact⟨e2,e3⟩
 unfold Fw at h;unfold B3;split at h
 ·rename_i c;rw[if_pos c];exact T h
 rename_i c1;rw[if_neg c1]
 split at h
 ·rename_i c;rw[if_pos c];exact T h
 rename_i c2;rw[if_neg c2]
 split at h
 ·rename_i c;rw[if_pos c];exact T h
 rename_i c3;rw[if_neg c3]
 split at h
 ·rename_i c;rw[if_pos c]
  obtain⟨E,H⟩:=X (.inl c);exact (Io h (G.2 _ E).2 (G.2 _ H).2).1
 rename_i c4;rw[if_neg c4]
 split at h
 ·rename_i c;rw[if_pos c]
  obtain⟨E,H⟩:=X (.inr (.inl c));refine⟨h.1,λw=>(h.2.1 w).trans ?_⟩;simp only;rw[(G.2 _ E).2,(G.2 _ H).2]
 rename_i c5;rw[if_neg c5]
 split at h
 ·rename_i c;rw[if_pos c]
  obtain⟨E,H⟩:=X (.inr (.inr c));refine⟨h.1,λw=>(h.2.1 w).trans ?_⟩;simp only;rw[(G.2 _ E).2,(G.2 _ H).2]
 rename_i c6;rw[if_neg c6]
 split at h
 ·rename_i c;rw[if_pos c]
  have E:=g2 (.inl c);have:=T h;refine⟨this.1,λw=>(this.2 w).trans ?_⟩;simp only;rw[(G.2 _ E).2]
 rename_i c7;rw[if_neg c7]
 have E:=g2 (.inr (by omega));exact GR (G.2 _ E).2 g3 h
theorem Nh {α:Type} (l:List α) (x d:α) (i:Nat):(l++[x]).getD i d=if i<l.length then l.getD i d else if i=l.length then x else d:=by
 by_cases h:i<l.length
 ·rw[if_pos h,B9 _ _ _ _ h]
 rw[if_neg h];by_cases e:i=l.length
 ·rw[if_pos e,e,Dt]
 rw[if_neg e,Ζ,List.getElem?_eq_none (by simp;omega)];rfl
theorem QQ {ds:List Dfa} {ls:List Af} (h:Od ds ls) {d:Dfa} {L:Af} (hd:Fit d L):Od (ds++[d]) (ls++[L]):=by
 refine⟨by rw[Ν,Ν,h.1];rfl,λi hi=>?_⟩;rw[Ν,List.length_singleton] at hi;rw[Nh,Nh,<-h.1];by_cases e:i<ds.length
 ·rw[if_pos e,if_pos e];exact h.2 i e
 rw[if_neg e,if_neg e,if_pos (by omega),if_pos (by omega)];exact hd
def Qt:List RNode->Nat->Prop
 | [],_=>True
 | n::x,i=>n.good i/\Qt x (i+1)
theorem AG:∀ (x:List RNode) (ds:List Dfa) (ls:List Af),Od ds ls->Qt x ds.length->(x=[]->0<ds.length)->∀ d,Dj x ds (I d)->Fit d ((Cg x ls).getD ((Cg x ls).length-1) λ_=>False)
 | [],ds,ls,E,_,h0,d,h=>by
  injection (show I d=I _ from h) with h
  subst h;show Fit _ (ls.getD (ls.length-1) _);rw[<-E.1];exact E.2 _ (by have:=h0 rfl;omega)
 | n::x,ds,ls,E,hg,_,d,⟨q,h1,G⟩=>by
  cases q with
  | none=>cases (show I d=J from G)
  | some e=>have he:=KP E hg.1 h1;exact AG x (ds++[e]) (ls++[B3 n ls]) (QQ E he) (by rw[Ν];exact hg.2) (by intro _;simp) d G
end Go.Proofs.YtilncahcpjlfnaaGreatDoor
