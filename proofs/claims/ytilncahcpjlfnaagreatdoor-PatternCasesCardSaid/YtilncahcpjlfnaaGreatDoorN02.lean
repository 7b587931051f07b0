import Derived.Test.YtilncahcpjlfnaaGreatDoorN01
import Derived.Maps.AppendAt
import Derived.Shelf.SlLaysF0
import Derived.Ground.SlsfProg
import Derived.Shelf.SlGeneric
import Derived.Test.YtilncahcpjlfnaaGreatDoorProg
import Derived.Sort.Grow
import Derived.Deep.Draws
import Derived.Shelf.SlSortCmp.WholeK
import Derived.Laws.IdiomStrings
import Derived.Deep.RegionHeldLaw
import Derived.Maps.OwnSet
import Derived.WideKeyPair
import Derived.DeepKeys4
import Derived.Deep.AppendLies
set_option linter.unusedVariables false
set_option linter.unusedSimpArgs false
set_option maxRecDepth 100000
set_option maxHeartbeats 4000000
open And renaming intro → í
open BitVec renaming getLsbD_zero → ï
open Bool renaming false → Ε, true → Α, false_eq_true → Í
open Go renaming World → Γ, Value → Δ, TypeId → ϫ, heap_alloc_new → Ã, heap_alloc2_new → ύ, undef → δ, cell_of_row → Τ, frozen_of_row → Â, setCell_eq_setRow → ϧ, setRow_heap → Φ, Calls → Ϟ, info_parts → ϑ, cell_one_new → Õ, maxLen → ϐ, wpQuiet_step → Á, Operand → á, wpList_store_row → ã, bodyPost_ret → ω, wpList_append_lies → ϕ, wpList_make_full → Ϛ
open Go.Ending renaming returned → Ω
open Go.IntKind renaming i64 → Χ, u64 → γ, i64 → å
open Go.Lib renaming hid → Z
open Go.Obj renaming cells → Β
open Go.Operand renaming tmp → ε
open Go.Proofs.Tryz renaming prog → Ι, underlying22 → ϡ, zeroCells84 → Ψ, underlying91 → ϋ, underlying84 → ϭ, zeroCells82 → Ϝ, underlying54 → ϝ
open Go.RowKit renaming Hid → ϟ
open Go.Value renaming pointer → η, int → ϲ, slice → U, oneCell' → ξ, tuple → ϙ, slice → ό
open Go.World renaming ownsRow_nil → ϰ, size_alloc → Ο, ownsRow → ϣ
open List renaming length_cons → ϒ, length_nil → à, nil_append → Ú, getD_eq_getElem?_getD → Ζ, pairwise_iff_getElem → Ϧ, length_take → Ï, length_append → Ν, range → π, getElem?_append_left → ϊ, getElem?_append_right → χ, mem_range → ώ, ext_getElem? → Ϩ, getElem?_set → Ó, mem_append → Ä, mem_map → Ϫ, mem_cons → ù, not_mem_nil → è, replicate → ζ, take_succ_eq_append_getElem → Î, getElem?_eq_getElem → Θ, mem_singleton → ϖ, getElem_mem → ϯ, getElem?_map → υ, map_append → ϥ, getElem?_replicate → Ì, length_set → ο, length_map → ι
open List.cons renaming injEq → ó
open Nat renaming le_refl → Υ, le_trans → μ, lt_of_lt_of_le → Ξ
open Ne renaming symm → þ
open Option renaming none → J, some → I, isSome → æ, getD_some → Ç
open UInt8 renaming ofNat → ϔ
namespace Go.Proofs.YtilncahcpjlfnaaGreatDoor
open Go.RowKit Go.Shelf
attribute [local go_sem] Oper.semAt_some
theorem Wk (F:Fence) (n:Nat) (G:F.fn 108) (H:F.fn 109) (T:F.round=J) (X:1<=n) (E:Nat) (c:Cls) (w:Γ) (hT:Tab w) (hc:w.heap[E]? = I (Β (Ab c) 91 (0,0))) :
  Oa F n Ι 108 #[η (I ⟨E,0,J⟩)] (λx=>#[bv x]) (λpre x=>(pre++[x]) <+: Au c 256) (·=Au c 256) (· <+: Au c 256) w:=by
 intro l ab Jx W hb hY h0;have af:=Al hc;exact LJ F n G H T X l E c ab Jx (λpre W' h=>hT.below (hb _ _ h) (by omega)) hY W (((hb _ _ h0).block E af).trans hc) h0
theorem Wl (F:Fence) (n:Nat) (E:F.fn 90) (G:F.round=J) (c:Cls) (w:Γ) :
  CallsIn F n Ι 90 #[.agg (Ab c)] w λe w'=>e=Ω (.func (.func 108) #[] #[η (I ⟨w.heap.size,0,J⟩)])/\w'=w.alloc (Β (Ab c) 91):=by
 refine callsIn_of_wp Tryz.func90 rfl E ?_ G;simp only[Tryz.ntmps90,List.size_toArray,ϒ,à,Nat.reduceAdd,Nat.reduceSub,Array.replicate_succ,Array.replicate_zero,List.push_toArray,List.append_toArray,Ú,List.cons_append]
 gi_wp2
 go_ret;exact⟨rfl,rfl⟩
theorem Mu {W:Γ} {k l:Nat} {o o':Obj} {cs:Array Δ} {t:ϫ} {fr:Nat × Nat} (h:W.heap[k]? = I (Β cs t fr)) (E:W.heap[l]? = I o) (G:o.isCells=Ε):(W.putObj l o').heap[k]? = I (Β cs t fr):=by
 have H:k≠l:=by rintro rfl;rw[h] at E;cases E;cases G
 exact (Γ.putObj_heap_other H).trans h
theorem NB (F:Fence) (n:Nat) (ax:F.fn 98) (ay:F.fn 90) (ai:F.fn 108) (az:F.fn 109) (aa:F.round=J) (hn:3<=n) (c:Cls) (w:Γ) (hT:Tab w) (a6:0<w.heap.size) :
  CallsIn F n Ι 98 #[.agg (Ab c)] w λe w'=>e=Ω (.int Χ (Bx (Au c 256)))/\Ext w w'/\w.drawn<=w'.drawn:=by
 have h1:1<=n:=by omega
 have h2:1<=n-1:=by omega
 have hA:=Ag (Ã w (Β (Ab c) 91)) (Β #[.int Χ 0] 3);have hR:=ύ w (Β (Ab c) 91) (Β #[.int Χ 0] 3);have G:=((Κ w).alloc (Β (Ab c) 91)).alloc (Β #[.int Χ 0] 3);have H:w.drawn<=((w.alloc (Β (Ab c) 91)).alloc (Β #[.int Χ 0] 3)).drawn:=Υ _;have hs:((w.alloc (Β (Ab c) 91)).alloc (Β #[.int Χ 0] 3)).heap.size=w.heap.size+1+1:=by simp
 refine callsIn_of_wp_marks Tryz.func98 rfl ax ?_ aa;simp only[Tryz.ntmps98,List.size_toArray,ϒ,à,Nat.reduceAdd,Nat.reduceSub,Array.replicate_succ,Array.replicate_zero,List.push_toArray,List.append_toArray,Ú,List.cons_append]
 gi_wp2_with (gi_at_call 90;refine (Wl F (n-1) ay aa c _).mono ?_;rintro e w' ⟨rfl,rfl⟩)
 have ak:=Ag hR (Β (Ab c) 91);have an:=Ã ((w.alloc (Β (Ab c) 91)).alloc (Β #[.int Χ 0] 3)) (Β (Ab c) 91);rw[hs] at an;have ae:=G.alloc (Β (Ab c) 91);have ao:w.drawn<=(((w.alloc (Β (Ab c) 91)).alloc (Β #[.int Χ 0] 3)).alloc (Β (Ab c) 91)).drawn:=Υ _;have bj:w.heap.size+2<(((w.alloc (Β (Ab c) 91)).alloc (Β #[.int Χ 0] 3)).alloc (Β (Ab c) 91)).heap.size:=by simp
 clear hA hR G H hs;generalize ((w.alloc (Β (Ab c) 91)).alloc (Β #[.int Χ 0] 3)).alloc (Β (Ab c) 91)=w3 at *;have ba:=hT.below ae.below a6;have aq:=Z ak;clear ak;refine S4 aa h1 (gf:=108) (lb:=#[η (I ⟨w.heap.size+1+1,0,J⟩)]) rfl ai (enters_of Tryz.func108 (by kernel_rfl) rfl)
  (Wk F (n-1) ai az aa h2 (w.heap.size+1+1) c w3 ba an) (λ_=>rfl)
  (λpre W=>pre=[]/\Ext w3 W/\w3.drawn<=W.drawn)
  (λk pre W=>k=.ret/\∃ x,pre=[x]/\Ext w W/\w.drawn<=W.drawn/\W.heap[w.heap.size+1]? = I (Β #[.int Χ (x.toNat:Int)] 3 (0,0)))
  (λs W l o X h hl ho hc=>⟨h.1,h.2.1.putObj hl X,h.2.2⟩)
  (λs W o h=>⟨h.1,h.2.1.alloc o,h.2.2⟩)
  (λk s W l o X h hl ho hc=>by obtain⟨hk,x,hs,G,H,E⟩:=h;exact⟨hk,x,hs,G.putObj (by omega) X,H,Mu E ho hc⟩)
  (λpre W h=>h.2.1.below) ⟨rfl,Κ _,Υ _⟩
  (λx=>{ tmps:=#[.agg (Ab c),η (I ⟨w.heap.size,0,J⟩),η (I ⟨w.heap.size+1,0,J⟩),bv x,.agg (Ab c),.func (.func 108) #[] #[η (I ⟨w.heap.size+1+1,0,J⟩)],bv x,δ,δ],defers:=[] }) ?assign ?body ?done ?stop
 case assign=>
  intro l x W K hK
  gi_wp2
  exact hK
 case body=>
  rintro l pre x W ⟨rfl,G,H⟩ _;have E:=G.heap aq.o;have bc:=(Τ W _ 0 _ _ _ E).trans rfl;have bd:=Â W _ 0 _ _ E;have T:=Z E;have hx:=x.toNat_lt;clear E
  gi_wp2
  refine⟨KeepsOthers.setCell _ _ _,rfl,x,rfl,(ae.t G).setCell (by simp) _,μ ao H,?_⟩;rw[ϧ W _ _ _ _ _ _ T.o,show (#[ϲ Χ 0]:Array Δ).setIfInBounds 0 (.int Χ (x.toNat:Int))=#[.int Χ (x.toNat:Int)] from rfl];exact Φ W _ _ _ _ _ T.o
 case done=>
  rintro D ys W be rfl ⟨he,G,H⟩ hK;have E:=G.heap aq.o;have bc:=(Τ W _ 0 _ _ _ E).trans rfl;have bd:=Â W _ 0 _ _ E;have T:=Z E;have HB:=Z he;have HK:=Z hK;clear E he hK
  gi_wp2
  have aw:=(KeepsOthers.setCell W ⟨w.heap.size+1,0,J⟩ (.int Χ (-1))).same D _ HK.o rfl;refine⟨by simp,.inl ⟨_,_,rfl,run_takeDeferred aw,?_⟩⟩;have h5:=Mu (o':=.deferred J) (by rw[ϧ W _ _ _ _ _ _ T.o];exact Φ W _ _ _ _ _ T.o) aw rfl;have ah:=(Τ _ _ 0 _ _ _ h5).trans rfl;refine⟨.int Χ (-1),?_,by rw[HB.o];rfl,((ae.t G).setCell (by simp) _).putObj (by omega) _,μ ao H⟩;simp[results,Tryz.f98,go_sem,ah]
 case stop=>
  rintro D k pre W be bg ⟨rfl,x,rfl,G,H,E⟩ hK;have T:=Z E;have HK:=Z hK;clear E hK
  gi_wp2
  refine⟨by simp,.inl ⟨_,_,rfl,run_takeDeferred HK.o,?_⟩⟩;have h5:=Mu (o':=.deferred J) T.o HK.o rfl;have ah:=(Τ _ _ 0 _ _ _ h5).trans rfl;refine⟨.int Χ (x.toNat:Int),?_,?_,G.putObj (by omega) _,H⟩
  ·simp[results,Tryz.f98,go_sem,ah]
  obtain⟨r,E⟩:=bg;rw[<-E];rfl
theorem Qe (c:Cls) (w:Γ) (E:Tab w) (G:0<w.heap.size):Ϟ Ι 98 #[.agg (Ab c)] w λe w'=>e=Ω (.int Χ (Bx (Au c 256)))/\Ext w w'/\w.drawn<=w'.drawn:=
 callsIn_wide.1 (NB Fence.wide 3 trivial trivial trivial trivial rfl (Υ _) c w E G)
attribute [local go_sem] Oper.semAt_some
set_option maxRecDepth 100000 in
theorem VU (F:Fence) (n:Nat) (ah:F.fn 107) (ad:F.round=J) (hn:2<=n) (g:Nat) (H:Array Δ) (ai:F.fn g) (eg:∀ args w,(callFunc g args).run Ι w=.ok (.enter g args) w)
  (Nx:List UInt8->UInt8->Prop) (S Sp:List UInt8->Prop) (hN:∀ pre x,Nx pre x->pre.length<256) (w:Γ) (ao:Oa F (n-1) Ι g H (λx=>#[bv x]) Nx S Sp w) :
  CallsIn F n Ι 107 #[U J 0 0,.func (.func g) #[] H] w λe w'=>∃ v xs,e=Ω v/\S xs/\w'.ownsRow w.heap.size 5 1 v xs.length (xs.map bv)/\Ext w w':=by
 have h1:1<=n:=by omega
 obtain⟨i0,hi,ar,au,aw⟩:=ϑ Lg;have ax:Boxed (w.alloc (Β #[U J 0 0] 22)) w.heap.size 22 (U J 0 0):=Boxed.new w 22 _;have ay:=(Κ w).alloc (Β #[U J 0 0] 22);have bd:w.heap.size<(w.alloc (Β #[U J 0 0] 22)).heap.size:=by simp
 refine callsIn_of_wp_marks Tryz.func107 rfl ah ?_ ad;simp only[Tryz.ntmps107,List.size_toArray,ϒ,à,Nat.reduceAdd,Nat.reduceSub,Array.replicate_succ,Array.replicate_zero,List.push_toArray,List.append_toArray,Ú,List.cons_append]
 gi_wp2
 generalize w.alloc (Β #[U J 0 0] 22)=w1 at *;refine S4 ad h1 (gf:=g) (lb:=H) rfl ai eg ao (λ_=>rfl)
  (λpre W=>(∃ v,Boxed W w.heap.size 22 v/\W.ownsRow w.heap.size 5 1 v pre.length (pre.map bv))/\Ext w W)
  (λ_ _ _=>False)
  (λs W l o X h hl ho hc=>by obtain⟨⟨v,E,hr⟩,G⟩:=h;exact⟨⟨v,Mu E ho hc,ownsRow_putObj hr X ho hc⟩,G.putObj (by omega) X⟩)
  (λs W o h=>by obtain⟨⟨v,E,hr⟩,G⟩:=h;exact⟨⟨v,E.alloc o,hr.alloc o⟩,G.alloc o⟩)
  (λ_ s W l o X h _ _ _=>h)
  (λpre W h=>h.2.below) ⟨⟨_,ax,ϰ _ _ _ _⟩,ay⟩
  (λx=>{ tmps:=#[U J 0 0,.func (.func g) #[] H,η (I ⟨w.heap.size,0,J⟩),δ,U J 0 0,bv x,.func (.func g) #[] H,bv x,δ,δ,δ,δ,δ],defers:=[] }) ?assign ?body ?done ?stop
 case assign=>
  intro l x W K hK
  gi_wp2
  exact hK
 case body=>
  rintro l pre x W ⟨⟨v,E,T⟩,G⟩ az;have bj:=hN pre x az;have hc:=E.cell;have hB:=G.below;have hx:=x.toNat_lt
  gi_wp2_with (gi_at_builtin;refine wpListIn_append_own _ rfl _ _ 22 rfl w.heap.size 5 i0 (.int .u8 0) 1 1 ϡ hi ar au aw rfl (by decide) _ _ _ rfl (T.alloc _) ⟨W.heap.size,0,J⟩ 1 1 [bv x] rfl rfl (Õ _ _ _) (by simp[ξ]) (by unfold ϐ;omega) (by omega) (by have:=hB.size;simp;omega) ?_;intro v' w1 af a1 _;obtain⟨g',bm,rfl⟩:=ownsRow_succ af;obtain⟨ag,a6,a7,a8,ba⟩:=E.appended (by decide) T hB.size (Υ _) af a1;have bn:=ag.cell;have bo:=ag.frozen)
  exact⟨a8,⟨_,a6,by simpa using a7⟩,⟨hB.trans ba⟩⟩
 case done=>
  rintro D ys W hD hS ⟨⟨v,E,T⟩,G⟩ hK;have hc:=E.cell
  gi_wp2
  refine⟨by simp,.inl ⟨_,_,rfl,run_takeDeferred hK,?_⟩⟩;exact⟨_,results_tmp rfl _ _ _,v,ys,rfl,hS,ownsRow_putObj T _ hK rfl,G.putObj (by omega) _⟩
 case stop=>rintro D k pre W _ _ h _;exact h.elim
theorem SQ (F:Fence) (n:Nat) (T:F.fn 89) (X:F.fn 107) (G:F.round=J) (hn:3<=n) (g:Nat) (E:Array Δ) (aa:F.fn g) (eg:∀ args w,(callFunc g args).run Ι w=.ok (.enter g args) w)
  (Nx:List UInt8->UInt8->Prop) (S H:List UInt8->Prop) (hN:∀ pre x,Nx pre x->pre.length<256) (w:Γ) (ae:Oa F (n-1-1) Ι g E (λx=>#[bv x]) Nx S H w) :
  CallsIn F n Ι 89 #[.func (.func g) #[] E] w λe w'=>∃ v xs,e=Ω v/\S xs/\w'.ownsRow w.heap.size 5 1 v xs.length (xs.map bv)/\Ext w w':=by
 have h1:1<=n:=by omega
 refine callsIn_of_wp Tryz.func89 rfl T ?_ G;simp only[Tryz.ntmps89,List.size_toArray,ϒ,à,Nat.reduceAdd,Nat.reduceSub,Array.replicate_succ,Array.replicate_zero,List.push_toArray,List.append_toArray,Ú,List.cons_append]
 gi_wp2_with (gi_at_call 107;refine (VU F (n-1) X G (by omega) g E aa eg Nx S H hN _ ae).mono ?_;rintro e w' ⟨v,xs,rfl,hS,ag,hb⟩)
 go_ret;exact⟨v,xs,rfl,hS,ag,hb⟩
theorem TW (F:Fence) (n:Nat) (ad:F.fn 65) (ae:F.fn 89) (af:F.fn 90) (ag:F.fn 107) (T:F.fn 108) (ah:F.fn 109) (G:F.round=J) (hn:5<=n) (c:Cls) (w:Γ) (hT:Tab w) (aj:0<w.heap.size) :
  CallsIn F n Ι 65 #[.agg (Ab c)] w λe w'=>∃ v,e=Ω v/\By w' v (Au c 256)/\Ext w w':=by
 have h1:1<=n:=by omega
 have E:=Ã w (Β (Ab c) 91);have hE:=(Κ w).alloc (Β (Ab c) 91);have X:=hE.alloc (Β (Ab c) 91);have H:=Ã (w.alloc (Β (Ab c) 91)) (Β (Ab c) 91);have c0:=(Τ _ _ 0 _ _ _ E).trans rfl;have c1:=(Τ _ _ 1 _ _ _ E).trans rfl;have c2:=(Τ _ _ 2 _ _ _ E).trans rfl;have c3:=(Τ _ _ 3 _ _ _ E).trans rfl;rw[Ο] at H;have aa:=hT.below X.below aj;have ab:=Wk F (n-1-1-1) T ah G (by omega) (w.heap.size+1) c _ aa H;clear E H aa;have an:=Z ab;clear ab;refine callsIn_of_wp Tryz.func65 rfl ad ?_ G;simp only[Tryz.ntmps65,List.size_toArray,ϒ,à,Nat.reduceAdd,Nat.reduceSub,Array.replicate_succ,Array.replicate_zero,List.push_toArray,List.append_toArray,Ú,List.cons_append]
 gi_wp2_with (first
  | (gi_at_call 90;refine (Wl F (n-1) af G c _).mono ?_;rintro e w' ⟨rfl,rfl⟩)
  | (gi_at_call 89;refine (SQ F (n-1) ae ag G (by omega) 108 _ T (enters_of Tryz.func108 (by kernel_rfl) rfl) _ _ _ (λpre x h=>by have h2:=h.length_le;have h3:=Rz c 256;simp at h2;omega) _ an.o).mono ?_;rintro e w' ⟨v,xs,rfl,rfl,aq,hb⟩))
 go_ret;exact⟨v,rfl,By.of_owns aq (by have:=Rz c 256;omega),X.t hb⟩
theorem TX (c:Cls) (w:Γ) (E:Tab w) (G:0<w.heap.size):Ϟ Ι 65 #[.agg (Ab c)] w λe w'=>∃ v,e=Ω v/\By w' v (Au c 256)/\Ext w w':=
 callsIn_wide.1 (TW Fence.wide 5 trivial trivial trivial trivial trivial trivial rfl (Υ _) c w E G)
end Go.Proofs.YtilncahcpjlfnaaGreatDoor
namespace Go.Proofs
open Go.Shelf
def Tryz.l112_ren:Go.Shelf.Ren:=⟨fun|6=>112|15=>120|14=>119|28=>129|29=>130|20=>121|21=>122|22=>123|23=>124|24=>125|25=>126|26=>127|27=>128|46=>131|47=>132|48=>133|49=>134|50=>135|57=>136|n=>n,fun|22=>36|24=>91|25=>196|3=>3|39=>169|0=>0|53=>208|55=>89|4=>4|46=>202|45=>201|50=>138|5=>5|9=>9|66=>209|70=>213|76=>215|77=>216|n=>n,fun|n=>n⟩
theorem Tryz.l112:Go.Proofs.SlLaysF0.n6 Ι Tryz.l112_ren:={
 mixed:=by kernel_rfl
 f6:=⟨Tryz.f112.name,by decide,Tryz.func112.trans (congrArg I (by kernel_rfl))⟩
 f14:=⟨Tryz.f119.name,by decide,Tryz.func119.trans (congrArg I (by kernel_rfl))⟩
 f15:=Tryz.func120.trans (congrArg I (by kernel_rfl))
 f20:=⟨Tryz.f121.name,by decide,Tryz.func121.trans (congrArg I (by kernel_rfl))⟩
 f21:=⟨Tryz.f122.name,by decide,Tryz.func122.trans (congrArg I (by kernel_rfl))⟩
 f22:=⟨Tryz.f123.name,by decide,Tryz.func123.trans (congrArg I (by kernel_rfl))⟩
 f23:=⟨Tryz.f124.name,by decide,Tryz.func124.trans (congrArg I (by kernel_rfl))⟩
 f24:=⟨Tryz.f125.name,by decide,Tryz.func125.trans (congrArg I (by kernel_rfl))⟩
 f25:=⟨Tryz.f126.name,by decide,Tryz.func126.trans (congrArg I (by kernel_rfl))⟩
 f26:=⟨Tryz.f127.name,by decide,Tryz.func127.trans (congrArg I (by kernel_rfl))⟩
 f27:=⟨Tryz.f128.name,by decide,Tryz.func128.trans (congrArg I (by kernel_rfl))⟩
 f28:=Tryz.func129.trans (congrArg I (by kernel_rfl))
 f29:=Tryz.func130.trans (congrArg I (by kernel_rfl))
 f46:=⟨Tryz.f131.name,by decide,Tryz.func131.trans (congrArg I (by kernel_rfl))⟩
 f47:=Tryz.func132.trans (congrArg I (by kernel_rfl))
 f48:=Tryz.func133.trans (congrArg I (by kernel_rfl))
 f49:=⟨Tryz.f134.name,by decide,Tryz.func134.trans (congrArg I (by kernel_rfl))⟩
 f50:=⟨Tryz.f135.name,by decide,Tryz.func135.trans (congrArg I (by kernel_rfl))⟩
 f57:=⟨Tryz.f136.name,by decide,Tryz.func136.trans (congrArg I (by kernel_rfl))⟩
 t0:=Tryz.underlying0
 a0:=Tryz.isAgg0
 z0:=Tryz.sizeOf0
 v0:=Tryz.zeroValue0
 t3:=Tryz.underlying3
 a3:=Tryz.isAgg3
 z3:=Tryz.sizeOf3
 v3:=Tryz.zeroValue3
 t4:=Tryz.underlying4
 a4:=Tryz.isAgg4
 z4:=Tryz.sizeOf4
 v4:=Tryz.zeroValue4
 t5:=Tryz.underlying5
 a5:=Tryz.isAgg5
 z5:=Tryz.sizeOf5
 v5:=Tryz.zeroValue5
 t9:=Tryz.underlying9
 a9:=Tryz.isAgg9
 z9:=Tryz.sizeOf9
 v9:=Tryz.zeroValue9
 t22:=Tryz.underlying36
 a22:=Tryz.isAgg36
 z22:=Tryz.sizeOf36
 v22:=Tryz.zeroValue36
 t25:=Tryz.underlying196
 a25:=Tryz.isAgg196
 z25:=Tryz.sizeOf196
 v25:=Tryz.zeroValue196
 t39:=Tryz.underlying169
 a39:=Tryz.isAgg169
 z39:=Tryz.sizeOf169
 v39:=Tryz.zeroValue169
 t45:=Tryz.underlying201
 a45:=Tryz.isAgg201
 z45:=Tryz.sizeOf201
 v45:=Tryz.zeroValue201
 t46:=Tryz.underlying202
 a46:=Tryz.isAgg202
 z46:=Tryz.sizeOf202
 v46:=Tryz.zeroValue202
 t50:=Tryz.underlying138
 a50:=Tryz.isAgg138
 z50:=Tryz.sizeOf138
 v50:=Tryz.zeroValue138
 t53:=Tryz.underlying208
 a53:=Tryz.isAgg208
 z53:=Tryz.sizeOf208
 v53:=Tryz.zeroValue208
 t55:=Tryz.underlying89
 a55:=Tryz.isAgg89
 z55:=Tryz.sizeOf89
 v55:=Tryz.zeroValue89
 t66:=Tryz.underlying209
 a66:=Tryz.isAgg209
 z66:=Tryz.sizeOf209
 v66:=Tryz.zeroValue209
 t70:=Tryz.underlying213
 a70:=Tryz.isAgg213
 z70:=Tryz.sizeOf213
 v70:=Tryz.zeroValue213
 t76:=Tryz.underlying215
 a76:=Tryz.isAgg215
 z76:=Tryz.sizeOf215
 v76:=Tryz.zeroValue215
 t77:=Tryz.underlying216
 a77:=Tryz.isAgg216
 z77:=Tryz.sizeOf216
 v77:=Tryz.zeroValue216 }
end Go.Proofs
namespace Go.Proofs.YtilncahcpjlfnaaGreatDoor
open Go.RowKit Go.Shelf Go.Sort
structure ED (w:Γ) where
 W:Γ
 ext:Ext w W
 drawn:w.drawn<=W.drawn
instance (w:Γ):Nonempty (ED w):=⟨⟨w,Κ w,Υ _⟩⟩
section
variable {P:Program}
theorem GS {id:Nat} {Q:Exit->Act->Γ->Prop} {a:Act} {w:Γ} {l:List Oper} (hm:P.follows .mixedOrders=Α) (E:Region.lexB .any l.toArray=Α)
  (h:wpQuiet P l.toArray (λW=>∃ e:ED w,W=e.W) (λG=>∀ w',(∃ e:ED w,w'=e.W)->Q .normal G w') l a):(Code.region id l.toArray Α).wp P Q a w:=
 wp_region_quiet (C:=λW=>∃ e:ED w,W=e.W) hm E ⟨⟨_,(Κ w).drawn1,Nat.le_succ _⟩,rfl⟩ (by simpa using h)
theorem Z3 {f:FuncId} {args:Array Δ} {w:Γ} {E:ED w} {v:Δ} (h:Ϟ P f args E.W λe w'=>e=Ω v/\Ext E.W w'/\E.W.drawn<=w'.drawn):Ϟ P f args E.W λe G=>e=Ω v/\∃ H:ED w,G=H.W:=
 h.mono λ_ w' ⟨he,T,hd⟩=>⟨he,⟨w',E.ext.trans T,μ E.drawn hd⟩,rfl⟩
theorem No {w:Γ} {p:Addr} {v:Δ} (h:w.cell? p=I v):∀ e:ED w,e.W.cell? p=I v:=λe=>e.ext.cell h
end
theorem RI {w W:Γ} (h:Ext w W) (hd:w.drawn<=W.drawn):∃ q os,W=grow (w.drewN q) os:=by
 refine⟨W.drawn-w.drawn,W.heap.extract w.heap.size,?_⟩;have h1:=h.below.os;have E:=h.below.tape;have G:=h.below.output;have T:=h.below.size;have H:=h.below.block;obtain⟨X,o,t,d,out⟩:=W;obtain⟨aa,o',t',d',af⟩:=w;simp only at *;subst h1 E G;simp only[grow,Γ.drewN]
 congr 1
 ·refine Array.ext_getElem? λi=>?_
  rw[Array.getElem?_append];split
  ·rename_i hi;exact H i hi
  rename_i hi
  rw[Array.getElem?_extract];split
  ·congr 1;omega
  rw[Array.getElem?_eq_none (by omega)]
 omega
theorem Ya (l:List UInt8):-1<=Bx l/\Bx l<256:=by
 cases l with
 | nil=>simp[Bx]
 | cons x t=>have:=x.toNat_lt;simp[Bx];omega
theorem Y6 {w:Γ} {B:Nat} {c:Cls} (h:w.heap[B]? = I (Β (Ab c) 91 (0,0))):(∀ e:ED w,e.W.cell? ⟨B,0,J⟩=I (.int γ (wd c 0)))/\(∀ e:ED w,e.W.cell? ⟨B,1,J⟩=I (.int γ (wd c 1)))/\
  (∀ e:ED w,e.W.cell? ⟨B,2,J⟩=I (.int γ (wd c 2)))/\(∀ e:ED w,e.W.cell? ⟨B,3,J⟩=I (.int γ (wd c 3))):=by
 have H:∀ j v,(Ab c)[j]? = I v->w.cell? ⟨B,j,J⟩=I v:=λj v E=>by rw[Τ w B j _ _ (0,0) h];exact E
 exact⟨No (H 0 _ rfl),No (H 1 _ rfl),No (H 2 _ rfl),No (H 3 _ rfl)⟩
theorem Ad (w:Γ) (o:Obj):(w.alloc o).heap[w.heap.size]? = I o:=by show (w.heap.push o)[w.heap.size]? = I o;simp
theorem TB (a b:Cls) (w:Γ) (H:Tab w) (E:0<w.heap.size) :
  Ϟ Ι 113 #[.agg (Ab a),.agg (Ab b)] w λe w'=>e=Ω (.int Χ (Bx (Au a 256)-Bx (Au b 256)))/\Ext w w'/\w.drawn<=w'.drawn:=by
 have h1:=λW H E=>Z (Qe a W H E)
 have h2:=λW H E=>Z (Qe b W H E)
 have Hx:=Z (Ya (Au a 256));have Hy:=Z (Ya (Au b 256));generalize Bx (Au a 256)=x at *;generalize Bx (Au b 256)=y at *;go_enter Tryz.func113,Tryz.ntmps113;go_upto_region 1 with (fail)
 have ai:å.wrap (x-y)=x-y:=IntWalk.i64_in _ ⟨by have:=Hx.o;have:=Hy.o;omega,by have:=Hx.o;have:=Hy.o;omega⟩;obtain⟨W0,G⟩:=Xq (((w.alloc (Β (Ab a) 91)).alloc (Β (Ab b) 91)));have T:Ext w W0:=G▸((Κ w).alloc (Β (Ab a) 91)).alloc (Β (Ab b) 91);have r1:W0.heap[w.heap.size]? = I (Β (Ab a) 91 (0,0)):=by rw[<-G];exact Ag (Ad w _) _
 have r2:W0.heap[w.heap.size+1]? = I (Β (Ab b) 91 (0,0)):=by
  rw[<-G];have:=Ad (w.alloc (Β (Ab a) 91)) (Β (Ab b) 91)
  simpa using this
 have hd:w.drawn<=W0.drawn:=by rw[<-G];exact Υ _
 simp only[G];have X:=λ(e:ED W0)=>H.below (T.t e.ext).below E
 have aa:=λ(e:ED W0)=>Ξ E (T.t e.ext).size
 have ag:=λ(e:ED W0)=>h1 e.W (X e) (aa e)
 have ah:=λ(e:ED W0)=>h2 e.W (X e) (aa e)
 obtain⟨a0,a1,a2,a3⟩:=Y6 r1;obtain⟨b0,b1,b2,b3⟩:=Y6 r2;clear h1 h2 X aa r1 r2 G;refine GS (by kernel_rfl) (by kernel_rfl) ?_;iterate 6 (refine Á (λK hK=>?_);go_simp;first|(refine hK _ ?_;clear hK K)|(apply Exists.intro;refine⟨λ_=>?_,hK _ ?_⟩;(first|(with_reducible exact Z3 (ag _).o)|(with_reducible exact Z3 (ah _).o));clear hK K))
 refine wpQuiet_nil ?_;rintro _ ⟨e,rfl⟩;go_wp2;go_ret;exact⟨rfl,T.t e.ext,μ hd e.drawn⟩
def Lu (a b:Cls):Int:=Bx (Au a 256)-Bx (Au b 256)
open Go.RowKit Go.Shelf
theorem ltC (x y:Cls):ltOf Lu x y=decide (Bx (Au x 256)<Bx (Au y 256)):=by
 unfold ltOf Lu;by_cases h:Bx (Au x 256)<Bx (Au y 256)
 ·simp only[h,decide_true,decide_eq_true_eq];omega
 simp only[h,decide_false,decide_eq_false_iff_not];omega
theorem DW:Go.Sort.SWO (ltOf Lu) where
 irrefl x:=by rw[ltC];simp
 trans x y z h1 E:=by rw[ltC] at *;simp at *;omega
 ntrans x y z h1 E:=by rw[ltC] at *;simp at *;omega
theorem T5 {α:Type} [Inhabited α] (E:α->List Δ) (k:Nat) (w:Γ) (blk G m:Nat) (H:Array α) (os:Array Obj):w.grownBy (sortWorldK E k w blk G m H os) (I blk):=by
 refine⟨rfl,rfl,rfl,Go.Proofs.size_sortWorldK_c E k w blk G m H os,λi hi T=>?_⟩;have X:i≠blk:=λe=>T (by rw[e])
 unfold sortWorldK Go.Sort.putRowK Go.Sort.putRow Go.Sort.mapBlock;show ((w.heap.modify blk _)++os)[i]? = _;rw[Array.getElem?_append,if_pos (by simpa using hi),Array.getElem?_modify,if_neg (λe=>X e.symm)]
theorem FE (l:List Cls) (blk E ad:Nat) (w:Γ) (hT:Tab w) (bb:0<blk) (ae:blk<w.heap.size) (ao:l.length<4611686018427387904)
  (hc:∀ i,i<l.length*4->w.cell? ⟨blk,E+i,J⟩=I (.int γ (wd (l.getD (i / 4) 0#256) (i % 4)))) (hf:∀ i,w.frozen? ⟨blk,i,J⟩=Ε) :
  Ϟ Ι 112 #[U (I ⟨blk,E,J⟩) l.length ad,.func (.func 113) #[] #[]] w λe w'=>e=Ω (ϙ #[])/\w.grownBy w' (I blk)/\
   ∃ T:List Cls,T.length=l.length/\T.Perm l/\T.Pairwise (λa b=>Bx (Au a 256)<=Bx (Au b 256))/\∀ i,i<T.length*4->w'.cell? ⟨blk,E+i,J⟩=I (.int γ (wd (T.getD (i / 4) 0#256) (i % 4))):=by
 have hk:∀ x,(Cm x).length=4:=λ_=>rfl
 have hH:Go.Sort.HoldsK Cm 4 w blk E l.toArray:=λj H=>by
  rw[Go.Sort.size_flatK] at H;simp only[List.size_toArray] at H;refine⟨?_,hf _⟩;rw[hc j H,Go.Sort.get_flatK _ _ _ _ (by simpa using H),Y2 _ _ (by omega)]
  congr 2
  have:j / 4<l.length:=by omega
  simp[Ζ,this]
 have eg:∀ args w,(callFunc 113 args).run Ι w=.ok (.enter 113 args) w:=enters_of Tryz.func113 (by kernel_rfl) rfl;have aw:CmpLays Ι 113 #[] Cm 4 Lu blk E l.toArray.size w:=λm os dk _ x y=>by
  have hg:=T5 Cm 4 w blk E m dk os;have ax:Tab (sortWorldK Cm 4 w blk E m dk os):=λj H=>by rw[Γ.cell?_of_block (hg.block 0 (by omega) (λe=>by injection e with e;omega))];exact hT j H
  exact (TB x y _ ax (by have:=hg.size;omega)).mono λe w' ⟨he,hE,hd⟩=>⟨he,RI hE hd⟩
 have ah:=AnyQ.slices_SortFunc Tryz.l112 4 Tryz.isAgg91 Tryz.sizeOf91 Cm hk (λx v hv=>by simp[Cm] at hv;rcases hv with rfl|rfl|rfl|rfl<;>rfl) Lu DW 113 #[] blk E ad l.toArray w eg aw hH ae (by simpa using ao);change Ϟ Ι 112 _ _ _ at ah
 refine ah.mono ?_;rintro e w' ⟨he,G,n,os,hp,hs,rfl⟩;have a1:=T5 Cm 4 w blk E n G os;refine⟨he,a1,G.toList,?_⟩;obtain⟨X,_,aa⟩:=hp;simp only[List.size_toArray] at X aa hs;have a6:=holdsK_sortWorldK_c Cm 4 w blk E l.toArray G n os hH ae (by simpa using X);have ak:G.toList.length=l.length:=by simpa using X
 refine⟨ak,?_,?_,λi hi=>?_⟩
 ·have e2:(l.toArray.extract 0 l.length)=l.toArray:=by simp
  have e3:(G.extract 0 l.length)=G:=by rw[<-X];simp
  rw[e2,e3] at aa;exact aa
 ·rw[Ϧ];intro i j hi H a8;have:=hs i j (Nat.zero_le _) a8 (by rw[<-ak];exact H);rw[ltC,decide_eq_false_iff_not] at this;have e1:G[i]! = G.toList[i]:=by simp at hi;simp[hi]
  have e2:G[j]! = G.toList[j]:=by simp at H;simp[H]
  rw[e1,e2] at this;omega
 have h1:i / 4<G.size:=by simp at hi;omega
 have:=(a6.cell (i:=i / 4) (c:=i % 4) h1 (by omega)).1;rw[show E+i / 4*4+i % 4=E+i by omega,Y2 _ _ (by omega)] at this;rw[this]
 congr 3
 simp[Ζ,h1]
set_option maxRecDepth 100000 in
theorem Zp (l:List Cls) (hl:l.length<=4611686018427387904) (a:Option Addr) (b bb bu:Nat) (w:Γ) (hT:Tab w) (bz:0<w.heap.size) (ha:0<l.length->a=I ⟨b,bb,J⟩)
  (hc:∀ i,i<l.length*4->w.cell? ⟨b,bb+i,J⟩=I (.int γ (wd (l.getD (i / 4) 0#256) (i % 4)))) :
  Ϟ Ι 95 #[U a l.length bu] w λe w'=>∃ v L,e=Ω v/\Cs w' v L/\L.Perm (Ft l)/\L.Pairwise (λa b=>Bx (Au a 256)<=Bx (Au b 256))/\Ext w w':=by
 have hN:=Z (KC w);obtain⟨i0,hi,be,bf,bg⟩:=ϑ Qn;go_enter Tryz.func95,Tryz.ntmps95;go_wp2_with (first|(go_at_call 64;refine hN.o.mono ?_;rintro e w1 ⟨rfl,bh⟩));clear hN;go_loopw [3,16] (λv i W=>∃ k:Nat,k<=l.length/\i=.int Χ k/\Ext w W/\Row W w.heap.size v (Ft (l.take k)))
  (λ_ i _=>l.length-(intOf i).toNat)
 case atStart=>refine⟨0,by omega,rfl,bh.alloc _,?_⟩;exact⟨rfl,.inr ⟨w1.heap.size,1,Ab allC,rfl,bh.size,Ã w1 _,Υ _,by unfold ϐ;omega,rfl,rfl⟩⟩
 obtain⟨k,hk,rfl,hE,E⟩:=hrel;by_cases bj:k<l.length
 ·have e:=ha (by omega);obtain⟨a0,a1,a2,a3⟩:=Jr (W:=wr) (λi hi=>hE.cell (hc i hi)) k bj;have HC:=Z hc;have HA:=Z ha;clear ha hc;subst e;have bk:=Z (TG l k bj);have T:=Z (Yi (l.take k));generalize Ft (l.take k)=C at *;obtain⟨c,bl⟩:=Xq (l.getD k 0#256);rw[bl] at a0 a1 a2 a3 bk;clear bl;obtain⟨g,ar,rfl,bm,bn,an,ai⟩:=E.cells T.o.pos;have c4:=T.o.len;have b6:=T.o.pos;clear E an;go_wp2;obtain⟨G,ao⟩:=Xq (wr.alloc (Β (Ab c) 91));simp only[ao];have au:Ext wr G:=ao▸(Κ wr).alloc _;have h5:G.heap[wr.heap.size]? = I (Β (Ab c) 91 (0,0)):=ao▸Ad wr _;have H5:=Z h5;clear ao h5 a0 a1 a2 a3;have b8:=Z (λ(i:Nat) (hi:i<C.length*4)=>au.cell (ai i hi));clear ai;go_loopw [6,22] (λu i W=>∃ j:Nat,j<=C.length/\i=.int Χ j/\Ext G W/\Row W G.heap.size u (Dc c (C.take j)))
   (λ_ i _=>C.length-(intOf i).toNat)
  case atStart=>exact⟨0,by omega,rfl,Κ G,ϰ _ _ _ _⟩
  obtain⟨j,hj,rfl,X,E⟩:=hrel;by_cases bo:j<C.length
  ·obtain⟨a0,a1,a2,a3⟩:=Jr (W:=wr) (λi hi=>X.cell (b8.o i hi)) j bo;have bp:=Z (EU c C j bo);have b9:=EV c (C.take j);rw[Ï] at b9;generalize Dc c (C.take j)=S at *;obtain⟨d,hd⟩:=Xq (C.getD j 0#256);rw[hd] at a0 a1 a2 a3 bp;simp only[Nat.zero_add] at a0 a1 a2 a3;clear hd;go_upto_region 9 with (fail)
   obtain⟨w2,aq⟩:=Xq (wr.alloc (Β (Ab d) 91));simp only[aq];have ay:Ext wr w2:=aq▸(Κ wr).alloc _;have h8:w2.heap[wr.heap.size]? = I (Β (Ab d) 91 (0,0)):=aq▸Ad wr _;clear aq;obtain⟨b0,b1,b2,b3⟩:=Nm h8;obtain⟨c0,c1,c2,c3⟩:=Nm ((X.t ay).heap H5.o);clear h8 a0 a1 a2 a3;have E:=Aa E ay;have X:=X.t ay;have h1:=λ(W:Γ)=>Z (Xx d c W)
   have h2:=λ(W:Γ)=>Z (LD d c W)
   have HX:=Z (Ow c d);generalize Ed c d=sp at *;generalize d &&& c=x at *;generalize d &&& ~~~c=y at *;go_cut [32,33] (λv m W=>v=.agg #[.int γ (wd x 0),.int γ (wd x 1),.int γ (wd x 2),.int γ (wd x 3),.int γ (wd y 0),.int γ (wd y 1),.int γ (wd y 2),.int γ (wd y 3)]/\m=.int Χ 0/\∃ e:EW w2,W=e.W)
   case first=>
    refine Cl (by kernel_rfl) (by kernel_rfl) ?_;iterate 8 (refine Á (λK hK=>?_);go_simp;first|(refine hK _ ?_;clear hK K)|(apply Exists.intro;refine⟨λ_=>?_,hK _ ?_⟩;(first|(with_reducible exact E0 (h1 _).o)|(with_reducible exact E0 (h2 _).o));clear hK K))
    refine wpQuiet_nil ?_;rintro _ ⟨e,rfl⟩;go_wp2;go_meet
    exact⟨rfl,rfl,e,rfl⟩
   case rest=>
    obtain⟨rfl,rfl,e,rfl⟩:=hcut;have E:=Aa E e.ext;have X:=X.t e.ext;clear b0 b1 b2 b3 c0 c1 c2 c3 h1 h2;generalize e.W=w3 at *;go_wp2_with (fail);go_loopw [6,33] (λu m W=>∃ q:Nat,q<=2/\m=.int Χ q/\Ext G W/\Row W G.heap.size u (S++Ef x y q))
     (λ_ m _=>2-(intOf m).toNat)
    case atStart=>exact⟨0,by omega,rfl,X,by rw[IE,List.append_nil];exact E⟩
    obtain⟨q,hq,rfl,aa,E⟩:=hrel;obtain rfl|rfl|rfl:q=0\/q=1\/q=2:=by omega
    ·have ix:=OW (wd x 0) (wd x 1) (wd x 2) (wd x 3) (wd y 0) (wd y 1) (wd y 2) (wd y 3) wr;have HN:=λW=>Ml x 0#256 W
     rw[encA_zero] at HN;have cf:=Lj;have cg:=aa.size;have a6:=Vg S x y 0;have H:=Z (ID S x y);generalize S++Ef x y 0=P at E a6 H;generalize (x==0#256)=bx at HN H;cases bx
     ·go_wp2_with (at_builtin;(refine wpList_append_own _ rfl _ _ 36 rfl G.heap.size 91 i0 (.agg zA) 4 32 Tryz.underlying36 hi be bf bg rfl (by decide) _ _ _ rfl ((E.alloc _).alloc _) _ 1 1 (Cm x) rfl rfl ?_ (by simp[Cm,ξ]) (by unfold ϐ;omega) (by omega) (by simp;omega) ?_))
      ·have:=O8 (wr.alloc (Β (Ab x) 91)) x
       rwa [Ο] at this
      intro v' w4 aj ak _;have a8:Ext G w4:=((aa.alloc _).alloc _).grown ak (λg e=>(E.lt g e).1);clear E ak HN ix;go_wp2;go_roundw
      case rel=>refine⟨1,by omega,rfl,a8,?_⟩;rw[H.o];simp only[Í,if_false];show ϣ _ _ _ _ _ _ _;rw[Ν,Nk,Nj];exact aj
      case measure=>simp[intOf]
     go_wp2;refine⟨⟨1,by omega,rfl,aa.alloc _,?_⟩,by simp[intOf]⟩;rw[H.o];simp only[if_true,List.append_nil];exact E.alloc _
    ·have ix:=OV (wd x 0) (wd x 1) (wd x 2) (wd x 3) (wd y 0) (wd y 1) (wd y 2) (wd y 3) wr;have HN:=λW=>Ml y 0#256 W
     rw[encA_zero] at HN;have cf:=Lj;have cg:=aa.size;have a6:=Vg S x y 1;have H:=Z (IC S x y);generalize S++Ef x y 1=P at E a6 H;generalize (y==0#256)=bx at HN H;cases bx
     ·go_wp2_with (at_builtin;(refine wpList_append_own _ rfl _ _ 36 rfl G.heap.size 91 i0 (.agg zA) 4 32 Tryz.underlying36 hi be bf bg rfl (by decide) _ _ _ rfl ((E.alloc _).alloc _) _ 1 1 (Cm y) rfl rfl ?_ (by simp[Cm,ξ]) (by unfold ϐ;omega) (by omega) (by simp;omega) ?_))
      ·have:=O8 (wr.alloc (Β (Ab y) 91)) y
       rwa [Ο] at this
      intro v' w4 aj ak _;have a8:Ext G w4:=((aa.alloc _).alloc _).grown ak (λg e=>(E.lt g e).1);clear E ak HN ix;go_wp2;go_roundw
      case rel=>refine⟨2,by omega,rfl,a8,?_⟩;rw[H.o];simp only[Í,if_false];show ϣ _ _ _ _ _ _ _;rw[Ν,Nk,Nj];exact aj
      case measure=>simp[intOf]
     go_wp2;refine⟨⟨2,by omega,rfl,aa.alloc _,?_⟩,by simp[intOf]⟩;rw[H.o];simp only[if_true,List.append_nil];exact E.alloc _
    have H:ϟ (S++Ef x y 2=S++sp):=Z (by rw[HX.o];rfl);rw[H.o,<-bp.o] at E;go_wp2;go_roundw
    case rel=>exact⟨j+1,by omega,by go_num,aa,E⟩
    simp[intOf];omega
  obtain rfl:j=C.length:=by omega
  rw[List.take_length,<-bk.o] at E;have ck:=(hE.t au).trans X;have aj:Row wr w.heap.size u6 (Ft (l.take (k+1))):=E.mono (hE.t au).size;have ha:=HA.o;have hc:=HC.o;go_wp2;go_roundw
  case rel=>exact⟨k+1,by omega,by go_num,ck,aj⟩
  simp[intOf];omega
 obtain rfl:k=l.length:=by omega
 rw[List.take_length] at E;have T:=Yi l;obtain⟨C,hC⟩:=Xq (Ft l);rw[hC] at E T;have HU:=Z hC;clear hC;obtain⟨g,ar,rfl,bm,bn,an,ai⟩:=E.cells T.pos;have cm:=Z (FE C g 0 ar wr (hT.below hE.below bz) (by omega) bn (by have:=T.len;omega) ai an);have cn:=Z T.len;clear E an ai ha hc;go_wp2_with (go_at_call 112;refine cm.o.mono ?_;rintro e w5 ⟨rfl,bt,L,cq,ct,cu,cv⟩);go_ret;have cw:Ext w w5:=hE.grown bt (λk e=>by cases e;exact bm);refine⟨_,L,rfl,?_,by rw[HU.o];exact ct,cu,cw⟩;have h5:=cn.o;have h6:=bt.size;have b6:=T.pos;rw[<-cq];exact⟨by omega,.inr ⟨by omega,g,0,ar,rfl,by omega,cv⟩⟩
theorem Zq (l:List Cls) (v:Δ) (w:Γ) (G:Tab w) (H:0<w.heap.size) (h:Cs w v l) :
  Ϟ Ι 95 #[v] w λe w'=>∃ T L,e=Ω T/\Cs w' T L/\L.Perm (Ft l)/\L.Pairwise (λa b=>Bx (Au a 256)<=Bx (Au b 256))/\Ext w w':=by
 obtain⟨h0,⟨X,a,E,rfl⟩|⟨X,b,aa,E,rfl,hb,hc⟩⟩:=h
 ·have:=Zp l h0 a 0 0 E w G H (by omega) (λi hi=>by omega)
  rwa [X] at this
 exact Zp l h0 (I ⟨b,aa,J⟩) b aa E w G H (λ_=>rfl) hc
theorem Kh (v:Δ) (l:List UInt8) (W:Γ) (h:By W v l):(convert 22 9 v).run Ι W=.ok (.string ⟨l.toArray⟩) W:=by
 obtain⟨h0,⟨H,a,E,rfl⟩|⟨H,b,T,E,rfl,hb,hc⟩⟩:=h
 ·obtain rfl:l=[]:=List.eq_nil_of_length_eq_zero H;cases a with
  | some a=>exact run_convert_bytes_back W 22 9 5 a E [] ϡ Tryz.underlying5 Tryz.underlying9 (λj G=>by simp at G)
  | none=>
   rw[run_convert_bytes_string W 22 9 5 J 0 E ϡ Tryz.underlying5 Tryz.underlying9]
   kernel_rfl
 refine run_convert_bytes_back W 22 9 5 ⟨b,T,J⟩ E l ϡ Tryz.underlying5 Tryz.underlying9 (λj G=>?_);rw[Addr.add_lit,hc j (by omega)];simp[Ζ,G]
open Go
theorem Yv {w W':Γ} {e:EW w} (h:Ext e.W W'):∃ E:EW w,W'=E.W:=⟨⟨W',e.ext.trans h⟩,rfl⟩
theorem RM (w:Γ):∃ e:EW w,w=e.W:=⟨⟨w,Κ w⟩,rfl⟩
theorem Mx {W:Γ} {b:Nat} {e:ϫ} {s n:Nat} {v:Δ} {xs:List Δ} (h:W.ownsRow b e s v n xs):∃ a E,v=U a n E:=by
 obtain⟨_,⟨rfl,rfl⟩|⟨g,E,cur,rfl,_⟩⟩:=h
 ·exact⟨_,_,rfl⟩
 exact⟨_,_,rfl⟩
theorem IS {W:Γ} {b:Nat} {e:ϫ} {s n m E:Nat} {a:Option Addr} {xs:List Δ} (h:W.ownsRow b e s (U a m E) n xs) (H:0<n):∃ g,a=I ⟨g,0,J⟩:=by
 obtain⟨_,⟨_,h0⟩|⟨g,E,cur,G,_⟩⟩:=h
 ·omega
 simp at G;exact⟨g,G.1⟩
theorem RN {W:Γ} {base g E:Nat} {L:List Cls} (h:Row W base (U (I ⟨g,0,J⟩) L.length E) L) (k:Nat) (G:k<L.length):W.cell? ⟨g,k*4,J⟩=I (.int γ (wd (L.getD k 0#256) 0))/\W.cell? ⟨g,k*4+1,J⟩=I (.int γ (wd (L.getD k 0#256) 1))/\
  W.cell? ⟨g,k*4+2,J⟩=I (.int γ (wd (L.getD k 0#256) 2))/\W.cell? ⟨g,k*4+3,J⟩=I (.int γ (wd (L.getD k 0#256) 3)):=by
 have H:∀ j,j<4->W.cell? ⟨g,k*4+j,J⟩=I (.int γ (wd (L.getD k 0#256) j)):=λj T=>by rw[h.cellAt _ (by omega),Fr _ _ (by omega),show (k*4+j) / 4=k by omega,show (k*4+j) % 4=j by omega]
 exact⟨H 0 (by omega),H 1 (by omega),H 2 (by omega),H 3 (by omega)⟩
abbrev iv (x:Nat):Δ:=.int Χ (x:Int)
def Ints (W:Γ) (v:Δ) (l:List Nat):Prop:=Sl W v 1 l.length (λi=>iv (l.getD i 0))
def Bools (W:Γ) (v:Δ) (l:List Bool):Prop:=Sl W v 1 l.length (λi=>.bool (l.getD i Ε))
def Rows (W:Γ) (v:Δ) (N:List (List Nat)):Prop:=
 ∃ vs:List Δ,vs.length=N.length/\Sl W v 1 N.length (λi=>vs.getD i δ)/\∀ i,i<N.length->Ints W (vs.getD i δ) (N.getD i [])
theorem Ints.ext {W W':Γ} {v:Δ} {l:List Nat} (h:Ints W v l) (E:Ext W W'):Ints W' v l:=Sl.ext h E
theorem Bools.ext {W W':Γ} {v:Δ} {l:List Bool} (h:Bools W v l) (E:Ext W W'):Bools W' v l:=Sl.ext h E
theorem Rows.ext {W W':Γ} {v:Δ} {N:List (List Nat)} (h:Rows W v N) (E:Ext W W'):Rows W' v N:=by obtain⟨vs,h1,G,H⟩:=h;exact⟨vs,h1,G.ext E,λi hi=>(H i hi).ext E⟩
theorem Ü {W:Γ} {v:Δ} {k n:Nat} {f:Nat->Δ} (h:Sl W v k n f) (h0:0<n) :
  ∃ b E G,v=U (I ⟨b,E,J⟩) n G/\∀ i,i<n*k->W.cell? ⟨b,E+i,J⟩=I (f i):=by
 obtain⟨_,⟨T,_⟩|⟨_,b,E,G,H,_,hc⟩⟩:=h
 ·omega
 exact⟨b,E,G,H,hc⟩
theorem Sl.len {W:Γ} {v:Δ} {k n:Nat} {f:Nat->Δ} (h:Sl W v k n f):∃ a E,v=U a n E:=by
 obtain⟨_,⟨G,a,E,rfl⟩|⟨_,b,H,E,rfl,_⟩⟩:=h
 ·exact⟨a,E,by rw[G]⟩
 exact⟨_,E,rfl⟩
def IsD (W:Γ) (v:Δ) (d:Dfa):Prop:=∃ vc E G,v=.agg #[vc,E,G]/\Cs W vc d.cls/\Rows W E d.n/\Bools W G d.acc
theorem IsD.ext {W W':Γ} {v:Δ} {d:Dfa} (h:IsD W v d) (E:Ext W W'):IsD W' v d:=by obtain⟨vc,G,H,T,h1,X,h3⟩:=h;exact⟨vc,G,H,T,h1.ext E,X.ext E,h3.ext E⟩
def En (c:Nat->Nat) (n:Nat) (E G:Δ):List Δ:=(π 256).map (λb=>iv (c b))++[iv n,E,G]
def Ak (c:Nat->Nat) (n:Nat) (E G:Δ):Array Δ:=(En c n E G).toArray
theorem Es (c:Nat->Nat) (n:Nat) (E G:Δ):(Ak c n E G).size=259:=by simp[Ak,En]
theorem Ol (c:Nat->Nat) (n:Nat) (E G:Δ) (b:Nat) (hb:b<256):(Ak c n E G)[b]? = I (iv (c b)):=by simp[Ak,En,ϊ,hb]
theorem DL (c:Nat->Nat) (n:Nat) (E G:Δ):(Ak c n E G)[256]? = I (iv n):=by simp[Ak,En,χ]
theorem Kf (c:Nat->Nat) (n:Nat) (E G:Δ):(Ak c n E G)[257]? = I E:=by simp[Ak,En,χ]
theorem Hq (c:Nat->Nat) (n:Nat) (G E:Δ):(Ak c n G E)[258]? = I E:=by simp[Ak,En,χ]
theorem Ho {c c':Nat->Nat} (h:∀ b,b<256->c b=c' b) (n:Nat) (E G:Δ):Ak c n E G=Ak c' n E G:=by
 unfold Ak En
 congr 2
 exact List.map_congr_left λb hb=>by rw[h b (ώ.1 hb)]
theorem Ti (c:Nat->Nat) (n:Nat) (E G:Δ) (b x:Nat) (hb:b<256):(Ak c n E G).setIfInBounds b (iv x)=Ak (λy=>if y=b then x else c y) n E G:=by
 apply Array.ext';rw[Array.toList_setIfInBounds];unfold Ak;simp only;apply Ϩ;intro i;unfold En;rw[Ó];by_cases hi:i<256
 ·by_cases e:b=i
  ·subst e;simp[ϊ,hb];omega
  simp[ϊ,hi,e,þ e]
 have:b≠i:=by omega
 rw[if_neg this,χ (by simp;omega),χ (by simp;omega)];simp
theorem Hm (c:Nat->Nat) (n:Nat) (E G:Δ) (H:E.oneCell'=Α) (T:G.oneCell'=Α):(Ak c n E G).all (·.oneCell')=Α:=by
 rw[Array.all_eq_true_iff_forall_mem];intro x hx;simp only[Ak,En,List.mem_toArray,Ä,Ϫ,ù,è,or_false] at hx;rcases hx with⟨b,_,rfl⟩|rfl|rfl|rfl
 ·rfl
 ·rfl
 ·exact H
 exact T
theorem Ce:(Ι.info? 84).map (·.size)=I 259:=by kernel_rfl
def IsT (W:Γ) (A:Array Δ) (t:Tbl):Prop:=∃ E G,A=Ak t.cell t.cells E G/\Rows W E t.n/\Bools W G t.acc
theorem IsT.ext {W W':Γ} {A:Array Δ} {t:Tbl} (h:IsT W A t) (E:Ext W W'):IsT W' A t:=by obtain⟨G,H,T,X,h3⟩:=h;exact⟨G,H,T,X.ext E,h3.ext E⟩
theorem UV (n:Int) (a:Option Addr) (l c:Nat) (E:Option Addr) (G H:Nat):Ι.built 84 [(1,.int Χ n),(2,U a l c),(3,U E G H)]=I ((ζ 256 (ϲ Χ 0)++[ϲ Χ n,ό a l c,ό E G H]).toArray):=by kernel_rfl
theorem DK (n:Nat) (E G:Δ):Ak (λ_=>0) n E G=(ζ 256 (ϲ Χ 0)++[iv n,E,G]).toArray:=by unfold Ak En;simp[List.map_const']
theorem By.split {W:Γ} {v:Δ} {l:List UInt8} (h:By W v l):∃ a b G E,v=U a l.length E/\(0<l.length->a=I ⟨b,G,J⟩)/\∀ i,i<l.length->W.cell? ⟨b,G+i,J⟩=I (bv (l.getD i 0)):=by
 obtain⟨h0,⟨H,a,E,rfl⟩|⟨H,b,G,E,rfl,hb,hc⟩⟩:=h
 ·exact⟨a,0,0,E,by rw[H],by omega,by omega⟩
 exact⟨_,b,G,E,rfl,λ_=>rfl,λi hi=>hc i (by omega)⟩
theorem DM (c:Nat->Nat) (n:Nat) (a:Option Addr) (l E:Nat) (G:Option Addr) (H T:Nat) (i:Nat) (x:Int):(Ak c n (U a l E) (U G H T))[i]?≠I (.int .u8 x):=by intro h;have:=Array.mem_of_getElem? h;simp only[Ak,En,List.mem_toArray,Ä,Ϫ,ù,è,or_false] at this;rcases this with⟨b,_,hb⟩|hb|hb|hb<;>simp at hb
theorem Zr (w:Γ) (g:Nat) (cs:Array Δ) (p:Addr) (h:p.block≠g):(w.setRow g cs).cell? p=w.cell? p:=Γ.cell?_of_block (setRow_other w g p.block cs h)
theorem Bj {P:Program} {ops:Array Oper} {rest:List Oper} {o:Oper} {a:Act} {w:Γ} {Q:Exit->Act->Γ->Prop} (hg:o.guard=J) (t:ϫ) (parts:Array (Nat × á)) (E:o.op=.build t parts)
  (A:Array Δ) (hb:P.built t (parts.map λ(i,x)=>(i,a.eval x)).toList=I A) (h:wpList P ops Q rest (a.put o.dst (.agg A)) w):wpList P ops Q (o::rest) a w:=
 wpList_build hg t parts E (by rw[hb];rfl) (by rw[hb];exact h)
theorem C8:Ψ.size=259:=by kernel_rfl
theorem Om (d:Dfa) (hv:Val d) (v:Δ) (w:Γ) (hT:Tab w) (bt:0<w.heap.size) (h:IsD w v d) :
  Ϟ Ι 34 #[v] w λe w'=>∃ A,e=Ω (.agg A)/\(∀ W,IsD W v d->IsT W A (Ah d))/\Ext w w':=by
 obtain⟨vc,vn,va,rfl,hC,hN,hA⟩:=h;obtain⟨bc,oc,cc,rfl,hc⟩:=Ü hC (by obtain⟨c,hc,_⟩:=hv.parts.cov 0 (by omega);exact List.length_pos_of_mem hc);obtain⟨G,H,T,rfl⟩:∃ a n c,vn=U a n c:=by obtain⟨vs,_,hs,_⟩:=hN;obtain⟨a,c,rfl⟩:=hs.len;exact⟨_,_,_,rfl⟩
 obtain⟨X,la,ca,rfl⟩:∃ a n c,va=U a n c:=by obtain⟨a,c,rfl⟩:=Sl.len hA;exact⟨_,_,_,rfl⟩
 have eg:d.cls.length<=4611686018427387904:=hC.1;have HN:=Z hN;have HA:=Z hA;have HC:=Z hc;clear hN hA hc hC;have hB:ϟ (Ι.built 84 [(1,.int Χ (d.cls.length:Int)),(2,U G H T),(3,U X la ca)]=I (Ak (λ_=>0) d.cls.length (U G H T) (U X la ca))):=Z (by rw[UV,DK]);go_enter Tryz.func34,Tryz.ntmps34;go_upto_region 1 with (fail)
 have bw:=((Κ w).alloc (Β #[U (I ⟨bc,oc,J⟩) d.cls.length cc,U G H T,U X la ca] 40)).alloc (Β Ψ 84);have H0:=Z (Ag (Ad w (Β #[U (I ⟨bc,oc,J⟩) d.cls.length cc,U G H T,U X la ca] 40)) (Β Ψ 84));have H1:=Z (ύ w (Β #[U (I ⟨bc,oc,J⟩) d.cls.length cc,U G H T,U X la ca] 40) (Β Ψ 84));obtain⟨E,bz⟩:=Xq ((w.alloc (Β #[U (I ⟨bc,oc,J⟩) d.cls.length cc,U G H T,U X la ca] 40)).alloc (Β Ψ 84));simp only[bz] at *;clear bz;have c0:E.cell? ⟨w.heap.size,0,J⟩=I (U (I ⟨bc,oc,J⟩) d.cls.length cc):=(Τ E _ 0 _ _ _ H0.o).trans rfl;have c1:E.cell? ⟨w.heap.size,1,J⟩=I (U G H T):=(Τ E _ 1 _ _ _ H0.o).trans rfl;have c2:E.cell? ⟨w.heap.size,2,J⟩=I (U X la ca):=(Τ E _ 2 _ _ _ H0.o).trans rfl;obtain⟨A0,ar⟩:=Xq (Ak (λ_=>0) d.cls.length (U G H T) (U X la ca));have bf:A0.size=259:=by rw[<-ar,Es]
 have b0:A0.all (·.oneCell')=Α:=by rw[<-ar];exact Hm _ _ _ _ rfl rfl
 rw[ar] at hB;have dh:=Z ar;have HS:=Z (show Ψ.size=A0.size by rw[C8,bf]);clear ar;go_upto_region 2 with (first
  | (refine Bj rfl 84 _ rfl A0 ?_ ?_;(simp[Act.eval];with_reducible exact hB.o))
  | (refine ã rfl 84 (ε 3) (ε 15) rfl E.heap.size A0 rfl rfl _ _ (Ad E (Β Ψ 84)) (by rw[bf];exact Ce) HS.o b0 ?_))
 have b4:=bw.size;have dk:Ext w ((E.alloc (Β Ψ 84)).setRow E.heap.size A0):=(bw.alloc _).setRow b4 _;have H3:=Φ (E.alloc (Β Ψ 84)) _ _ A0 84 (0,0) (Ad E (Β Ψ 84));have b5:=Bk (Ag H0.o (Β Ψ 84)) (g:=E.heap.size) (by have:=Al H0.o;omega) A0;have ej:=Al H1.o;have bg:=Bk (Ag H1.o (Β Ψ 84)) (g:=E.heap.size) (by omega) A0;obtain⟨w3,b7⟩:=Xq ((E.alloc (Β Ψ 84)).setRow E.heap.size A0);simp only[b7] at *;clear b7;have c0:w3.cell? ⟨w.heap.size,0,J⟩=I (U (I ⟨bc,oc,J⟩) d.cls.length cc):=(Τ w3 _ 0 _ _ _ b5).trans rfl;rw[<-dh.o] at H3;have H3:=Z H3;have bg:=Z bg;clear c1 c2 b5 HS bf b0 H0 H1;generalize E.heap.size=B at *;go_wp2_with (fail);clear c0;go_loopw [19] (λi W=>∃ k:Nat,k<=d.cls.length/\i=.int Χ k/\Ext w W/\W.heap[B]? = I (Β (Ak (λb=>if Am d.cls b<k then Am d.cls b else 0) d.cls.length (U G H T) (U X la ca)) 84 (0,0))/\W.heap[w.heap.size+1]? = I (Β Ψ 84 (0,0)))
  (λi _=>d.cls.length-(intOf i).toNat)
 case atStart=>refine⟨0,by omega,rfl,dk,?_,bg.o⟩;rw[H3.o,Ho (c:=λb=>if Am d.cls b<0 then Am d.cls b else 0) (c':=λ_=>0) (λb _=>by simp)]
 obtain⟨k,hk,rfl,hE,b8,b9⟩:=hrel;have HB:=Z b8;have HR:=Z b9;clear b8 b9;by_cases cd:k<d.cls.length
 ·obtain⟨a0,a1,a2,a3⟩:=Jr (W:=wr) (λi hi=>hE.cell (HC.o i hi)) k cd;have HK:=Z (λb hb=>Gm hv.parts (b:=b) hb cd);have cm:=Z (λb hb=>Gn hv.parts (b:=b) hb);obtain⟨c,bk⟩:=Xq (d.cls.getD k 0#256);rw[bk] at a0 a1 a2 a3;have cp:=Z bk;have bl:ϟ (∀ b,b<256->(ϔ b∈Au c 256↔Am d.cls b=k)):=Z λb hb=>by rw[M3,u8n b hb,<-cp.o];exact⟨HK.o b hb,λe=>by rw[<-e];exact cm.o b hb⟩
  clear bk cp HK cm;have dm:=hT.below hE.below bt;have cq:0<wr.heap.size:=Ξ bt hE.size;have dn:=Z (Rz c 256);have en:=Al HB.o;go_upto_region 5 with (fail)
  obtain⟨wi,a7⟩:=Xq (wr.alloc (Β (Ab c) 91));simp only[a7];have aw:Ext wr wi:=a7▸(Κ wr).alloc _;have H5:=Z (show wi.heap[wr.heap.size]? = I (Β (Ab c) 91 (0,0)) from a7▸Ad wr _);clear a7 a0 a1 a2 a3;have f109:=Z (TX c wi (dm.below aw.below cq) (Ξ cq aw.size));generalize Au c 256=l at *;go_wp2_with (first
   | (refine Lr 91 (ε 5) H5.o ϋ Bg ?_)
   | (go_at_call 65;with_reducible refine f109.o.mono ?_;rintro e w5 ⟨vb,rfl,cu,bn⟩;obtain⟨ab,bb,ob,cb,cw,cy,bo⟩:=cu.split;rw[cw]))
  clear f109 H5 cu cw;have dr:=(hE.t aw).trans bn;have cz:=Z (bn.heap (aw.heap HB.o));have dt:=Z (bn.heap (aw.heap HR.o));have c3:=Z bo;have c4:=Z cy;have c5:ϟ (0<l.length->bb≠B):=Z λh0 e=>by have h1:=bo 0 h0;rw[e,Τ w5 B _ _ _ _ cz.o] at h1;exact DM _ _ _ _ _ _ _ _ _ _ h1
  clear bo cy;go_loopw [27] (λi W=>∃ j:Nat,j<=l.length/\i=.int Χ j/\Ext w W/\ϟ (∀ i,i<l.length->W.cell? ⟨bb,ob+i,J⟩=I (bv (l.getD i 0)))/\W.heap[B]? = I (Β (Ak (λb=>if ϔ b∈l.take j then k else if Am d.cls b<k then Am d.cls b else 0) d.cls.length (U G H T) (U X la ca)) 84 (0,0))/\W.heap[w.heap.size+1]? = I (Β Ψ 84 (0,0)))
   (λi _=>l.length-(intOf i).toNat)
  case atStart=>exact⟨0,by omega,rfl,dr,c3,by simpa using cz.o,dt.o⟩
  obtain⟨j,hj,rfl,c6,bp,c7,c8⟩:=hrel;have ai:=Z c7;have c9:=Z c8;clear c7 c8;by_cases bq:j<l.length
  ·have e:=c4.o (by omega);subst e;have cj:=bp.o j bq;have et:=dn.o;have dv:=Z (Î bq);have da:ϟ (l.getD j 0=l[j]):=Z (by rw[Ζ,Θ bq];rfl);obtain⟨x,db⟩:=Xq (l.getD j 0);rw[db] at cj da;clear db;have hx:=x.toNat_lt;have eu:=(Τ wr B x.toNat _ _ _ ai.o).trans (Ol _ _ _ _ x.toNat hx);have ev:=Â wr B x.toNat _ _ ai.o;generalize (if ϔ x.toNat∈l.take j then k else if Am d.cls x.toNat<k then Am d.cls x.toNat else 0)=ew at *;go_wp2;go_roundw
   case rel=>
    rw[ϧ wr _ _ _ _ _ _ ai.o,Ti _ _ _ _ _ _ hx];refine⟨j+1,by omega,by go_num,c6.setRow b4 _,Z λi hi=>?_,?_,Bk c9.o (by omega) _⟩
    ·rw[Zr _ _ _ _ (c5.o (by omega))];exact bp.o i hi
    have hq:=Ho (c:=λb=>if ϔ b∈l.take (j+1) then k else if Am d.cls b<k then Am d.cls b else 0) (c':=λy=>if y=x.toNat then k else if ϔ y∈l.take j then k else if Am d.cls y<k then Am d.cls y else 0) (λb hb=>by
     rw[dv.o,<-da.o];have dx:ϔ b=x↔b=x.toNat:=by rw[<-UInt8.toNat_inj,u8n b hb]
     simp only[Ä,ϖ,dx];by_cases h1:b=x.toNat<;>by_cases h2:ϔ b∈l.take j<;>simp[h1,h2]) d.cls.length (U G H T) (U X la ca)
    rw[hq];exact Φ wr _ _ _ _ _ ai.o
   case measure=>simp[intOf];omega
  obtain rfl:j=l.length:=by omega
  rw[List.take_length] at ai;have ag:=ai.o;rw[Ho (c':=λb=>if Am d.cls b<k+1 then Am d.cls b else 0) (λb hb=>by
   by_cases h1:ϔ b∈l
   ·have:=(bl.o b hb).1 h1;simp[h1,this]
   have:Am d.cls b≠k:=λe=>h1 ((bl.o b hb).2 e)
   have h2:Am d.cls b<k+1↔Am d.cls b<k:=by omega
   simp[h1,h2])] at ag
  have ag:=Z ag;clear ai bl c3 bp c4 c5;go_wp2;go_roundw
  case rel=>exact⟨k+1,by omega,by go_num,c6,ag.o,c9.o⟩
  simp[intOf];omega
 obtain rfl:k=d.cls.length:=by omega
 have ag:=HB.o;rw[Ho (c':=Am d.cls) (λb hb=>by rw[if_pos (cell_lt hv.parts hb)])] at ag;obtain⟨A,hA⟩:=Xq (Ak (Am d.cls) d.cls.length (U G H T) (U X la ca));have a8:A.size=259:=by rw[<-hA,Es]
 have dy:A.all (·.oneCell')=Α:=by rw[<-hA];exact Hm _ _ _ _ rfl rfl
 rw[hA] at ag;have ag:=Z ag;have dz:=Z hA;have HS:=Z (show Ψ.size=A.size by rw[C8,a8]);clear hA HB;go_wp2_with (first
  | (refine Lr 84 (ε 3) ag.o ϭ (by rw[a8];exact Ce) ?_)
  | (refine ã rfl 84 (ε 2) (ε 37) rfl _ A rfl rfl _ _ HR.o (by rw[a8];exact Ce) HS.o dy ?_))
 refine ω (v:=.agg A) (results_cell_row rfl _ _ _ _ _ _ _ rfl (Φ wr _ _ A 84 (0,0) HR.o) ϭ rfl (by rw[a8];exact Ce)) rfl ?_;have ea:=hE.setRow (g:=w.heap.size+1) (by omega) A;exact⟨A,rfl,λW hW=>by
  obtain⟨ey,ez,e3,he,_,ec,ed⟩:=hW;injection he with he
  injection he with he
  injection he with e0 he
  injection he with e1 he
  injection he with e2 he
  subst e1;subst e2
  exact⟨_,_,dz.o.symm,ec,ed⟩,ea⟩
theorem Kg (d:Dfa) (E:Val d) (v:Δ) (w0 w:Γ) (G:Ext w0 w) (H:Tab w) (T:0<w.heap.size) (h:IsD w0 v d):Ϟ Ι 34 #[v] w λe w'=>∃ A,e=Ω (.agg A)/\IsT w0 A (Ah d)/\Ext w w':=
 (Om d E v w H T (h.ext G)).mono λ_ _ ⟨A,he,X,hE⟩=>⟨A,he,X w0 h,hE⟩
theorem Iw (d:Dfa) (G:Val d) (v:Δ) (w:Γ) (H:Tab w) (T:0<w.heap.size) (h:IsD w v d):Ϟ Ι 34 #[v] w λe w'=>∃ A,e=Ω (.agg A)/\IsT w' A (Ah d)/\Ext w w':=
 (Kg d G v w w (Κ w) H T h).mono λ_ _ ⟨A,he,X,E⟩=>⟨A,he,X.ext E,E⟩
def uTo (p:Cls->Bool) (L:List Cls) (i:Nat):Cls:=(L.take i).foldl (λd c=>if p c then d ||| c else d) 0#256
theorem DD (p:Cls->Bool) (L:List Cls):uTo p L 0=0#256:=rfl
theorem DE (p:Cls->Bool) (L:List Cls) (i:Nat) (h:i<L.length):uTo p L (i+1)=if p (L.getD i 0#256) then uTo p L i ||| L.getD i 0#256 else uTo p L i:=by unfold uTo;rw[Î h,List.foldl_append];simp[Ζ,h]
theorem Yl (p:Cls->Bool) (b:Nat):∀ (L:List Cls) (d:Cls),(L.foldl (λd c=>if p c then d ||| c else d) d).getLsbD b=(d.getLsbD b||L.any λc=>p c&&c.getLsbD b)
 | [],d=>by simp
 | c::L,d=>by
  rw[List.foldl_cons,Yl p b L,List.any_cons];cases E:p c
  ·simp
  rw[if_pos rfl,BitVec.getLsbD_or];simp[Bool.or_assoc]
theorem Td (p:Cls->Bool) (L:List Cls) (i b:Nat):(uTo p L i).getLsbD b=(L.take i).any λc=>p c&&c.getLsbD b:=by unfold uTo;rw[Yl];simp
theorem IK {l L:List Cls} (h:IsCells l L) (i:Nat) (hi:i<L.length):uTo (λ_=>Α) L i &&& L.getD i 0#256=0#256:=by apply BitVec.eq_of_getLsbD_eq;intro b hb;rw[BitVec.getLsbD_and,Td,ï,<-Bool.not_eq_true];intro G;rw[Bool.and_eq_true,List.any_eq_true] at G;obtain⟨⟨c,hc,E⟩,hd⟩:=G;rw[Bool.true_and] at E;obtain⟨j,H,rfl⟩:=List.mem_iff_getElem.1 hc;rw[Ï] at H;rw[List.getElem_take] at E;rw[Ζ,Θ hi] at hd;exact (Ϧ.1 h.dis j i (by omega) hi (by omega)) b ⟨E,hd⟩
theorem IL {l L:List Cls} (h:IsCells l L):uTo (λ_=>Α) L L.length=allC:=by
 apply BitVec.eq_of_getLsbD_eq;intro b hb;rw[Td,List.take_length];have h1:allC.getLsbD b=Α:=by unfold allC;rw[BitVec.getLsbD_not,ï];simp[hb]
 rw[h1,List.any_eq_true];obtain⟨c,hc,E⟩:=h.cover b hb;exact⟨c,hc,by simp[E]⟩
theorem Nn (x:Cls) (m:Bool) (h:(x==0#256)=m) (W:Γ):(Op.equalIn 10000 91 (.agg (Ab x)) (.agg zA)).run Ι W=.ok m W:=by have:=Ml x 0#256 W;rw[encA_zero,h] at this;exact this
theorem Parts.pos {L:List Cls} (h:Parts L):0<L.length:=by obtain⟨c,hc,_⟩:=h.cov 0 (by omega);exact List.length_pos_of_mem hc
theorem Parts.le {L:List Cls} (h:Parts L):L.length<=256:=by
 have:=I9 (λb=>Am L b) 256 L.length λj E=>by obtain⟨b,hb,e⟩:=Lw h E;exact⟨b,hb,e⟩
 exact this
theorem JX : ~~~allC=0#256:=by decide
theorem Fi (d:Dfa) (E:Val d) (hn:d.n.length<=64) (v:Δ) (w:Γ) (h:IsD w v d) :
  Ϟ Ι 33 #[v] w λe w'=>e=Ω (.bool Α)/\Ext w w':=by
 obtain⟨vc,vn,va,rfl,hC,⟨vs,cm,hN,bk⟩,hA⟩:=h;have bm:=E.parts.pos;have df:=E.parts.le;have cp:=E.pos;obtain⟨bc,oc,cc,rfl,hc⟩:=Ü hC bm;obtain⟨bn,on,cn,rfl,bo⟩:=Ü hN cp;obtain⟨aa,ca,rfl⟩:=Sl.len hA;rw[E.accL];have HC:=Z hc;have ct:=Z bo;have cu:=Z (λs (X:s<d.n.length)=>by obtain⟨b,aq,az,cv,cw⟩:=Ü (bk s X) (by rw[E.row s X];exact bm);exact (⟨b,aq,az,by rw[<-E.row s X];exact cv,λk hk=>by rw[cw k (by rw[E.row s X];omega)];rfl⟩:∃ b aq az,vs.getD s δ=U (I ⟨b,aq,J⟩) d.cls.length az/\∀ k,k<d.cls.length->w.cell? ⟨b,aq+k,J⟩=I (iv (d.ent2 s k))))
 have cy:=Z E.tgt;have HP:=Z E.parts;clear hc bo hN hA hC bk cm E;have d1:decide ((d.n.length:Int)<1)=Ε:=by simp;omega
 have d2:decide ((64:Int)<(d.n.length:Int))=Ε:=by simp;omega
 have dn:((d.n.length:Int) != (d.n.length:Int))=Ε:=by simp
 have d3:decide ((d.cls.length:Int)<1)=Ε:=by simp;omega
 have d4:decide ((256:Int)<(d.cls.length:Int))=Ε:=by simp;omega
 have ar:=(Κ w).alloc (Β #[U (I ⟨bc,oc,J⟩) d.cls.length cc,U (I ⟨bn,on,J⟩) d.n.length cn,U aa d.n.length ca] 40);have H0:=Ad w (Β #[U (I ⟨bc,oc,J⟩) d.cls.length cc,U (I ⟨bn,on,J⟩) d.n.length cn,U aa d.n.length ca] 40);go_enter Tryz.func33,Tryz.ntmps33;go_upto_region 1 with (fail)
 obtain⟨w1,bp⟩:=Xq (w.alloc (Β #[U (I ⟨bc,oc,J⟩) d.cls.length cc,U (I ⟨bn,on,J⟩) d.n.length cn,U aa d.n.length ca] 40));simp only[bp] at *;clear bp;have HK:=Z (λ(W:Γ) (hW:Ext w1 W)=>(⟨(Τ W _ 0 _ _ _ (hW.heap H0)).trans rfl,(Τ W _ 1 _ _ _ (hW.heap H0)).trans rfl,(Τ W _ 2 _ _ _ (hW.heap H0)).trans rfl⟩:W.cell? ⟨w.heap.size,0,J⟩=I (U (I ⟨bc,oc,J⟩) d.cls.length cc)/\W.cell? ⟨w.heap.size,1,J⟩=I (U (I ⟨bn,on,J⟩) d.n.length cn)/\W.cell? ⟨w.heap.size,2,J⟩=I (U aa d.n.length ca)))
 clear H0;obtain⟨H,k1,T⟩:=HK.o w1 (Κ w1);go_upto_region 4 with (fail)
 clear H k1 T;go_upto_region 5 with (fail)
 have bq:=(Κ w1).alloc (Β zA 91);have cz:=Z (Ad w1 (Β zA 91));obtain⟨w2,bt⟩:=Xq (w1.alloc (Β zA 91));simp only[bt] at *;clear bt;obtain⟨H,k1,T⟩:=HK.o w2 bq;go_wp2_with (fail);clear H k1 T d1 d2 d3 d4;go_loopw [42] (λi W=>∃ k:Nat,k<=d.cls.length/\i=.int Χ k/\Ext w1 W/\W.heap[w1.heap.size]? = I (Β (Ab (uTo (λ_=>Α) d.cls k)) 91 (0,0)))
  (λi _=>d.cls.length-(intOf i).toNat)
 case atStart=>exact⟨0,by omega,rfl,bq,by rw[DD,encA_zero];exact cz.o⟩
 obtain⟨k,hk,rfl,hE,bu⟩:=hrel;have G:=Z bu;clear bu;by_cases ab:k<d.cls.length
 ·obtain⟨a0,a1,a2,a3⟩:=Jr (W:=wr) (λi hi=>(ar.t hE).cell (HC.o i hi)) k ab;have ba:=IK (Nb HP.o) k ab;have bb:=HP.o.nz (d.cls.getD k 0#256) (by rw[Ζ,Θ ab];exact ϯ ab);have bd:=DE (λ_=>Α) d.cls k ab;rw[if_pos rfl] at bd;have b4:=Z bd;clear bd;obtain⟨c,b5⟩:=Xq (d.cls.getD k 0#256);rw[b5] at a0 a1 a2 a3 ba bb b4;clear b5;generalize uTo (λ_=>Α) d.cls k=A at *;have f92:=λW=>Z (Xx A c W)
  have f93:=λW=>Z (Tc A c W)
  have g1:=Nn c Ε (by simpa using bb);have g2:=Nn (A &&& c) Α (by rw[ba];rfl);have g3:=Lj;clear ba bb;generalize A &&& c=x at *;have dk:=Al G.o;go_upto_region 8 with (fail)
  obtain⟨wi,ay⟩:=Xq (wr.alloc (Β (Ab c) 91));simp only[ay];have b8:Ext wr wi:=ay▸(Κ wr).alloc _;have H6:=Z (show wi.heap[wr.heap.size]? = I (Β (Ab c) 91 (0,0)) from ay▸Ad wr _);have G:=Z (b8.heap G.o);clear ay a0 a1 a2 a3;obtain⟨x0,x1,x2,x3⟩:=Nm H6.o;obtain⟨y0,y1,y2,y3⟩:=Nm G.o;obtain⟨e0,b9⟩:=RM wi;rw[b9];clear b9;go_wp2_with (first
   | (go_at_call 62;with_reducible refine (f92 _).o.mono ?_;rintro e w' ⟨rfl,bf⟩;obtain⟨e',rfl⟩:=Yv bf)
   | (go_at_call 63;with_reducible refine (f93 _).o.mono ?_;rintro e w' ⟨rfl,bf⟩;obtain⟨e',rfl⟩:=Yv bf)
   | (refine Sr 91 (ε 4) (ε 58) rfl (e'.ext.heap G.o) Bg rfl (Ej _) ?_))
  go_roundw
  case rel=>exact⟨k+1,by omega,by go_num,((hE.t b8).trans e'.ext).setRow (Υ _) _,by rw[b4.o];exact Φ e'.W _ _ _ _ _ (e'.ext.heap G.o)⟩
  simp[intOf];omega
 obtain rfl:k=d.cls.length:=by omega
 rw[IL (Nb HP.o)] at G;have f94:=λW=>Z (V4 allC W)
 have g1:=Nn (~~~allC) Α (by rw[JX];rfl);have g3:=Lj;generalize ~~~allC=x at *;generalize allC=uA at *;go_wp2_with (first
  | (refine Lr 91 (ε 4) G.o ϋ Bg ?_)
  | (go_at_call 64;with_reducible refine (f94 _).o.mono ?_;rintro e w5 ⟨rfl,cb⟩;obtain⟨H,k1,T⟩:=HK.o w5 (hE.t cb)))
 clear H k1 T f94 g1 g3 G;have c6:=hE.t cb;go_loopw [67] (λi W=>∃ s:Nat,s<=d.n.length/\i=.int Χ s/\Ext w1 W) (λi _=>d.n.length-(intOf i).toNat)
 case atStart=>exact⟨0,by omega,rfl,c6⟩
 obtain⟨s,X,rfl,ae⟩:=hrel;by_cases cd:s<d.n.length
 ·have cs:=(ar.t ae).cell (ct.o s (by omega));obtain⟨br,or',cr,cf,cg⟩:=cu.o s cd;rw[cf] at cs;have c7:=Z (λk hk=>(ar.t ae).cell (cg k hk));have HT:=Z (cy.o s cd);have dm:((d.cls.length:Int) != (d.cls.length:Int))=Ε:=by simp
  have ds:decide ((s:Int)<(d.n.length:Int))=Α:=by simp;omega
  obtain⟨H,k1,T⟩:=HK.o wr ae;clear cf cg;obtain⟨wo,da⟩:∃ W,W=wr:=⟨_,rfl⟩;subst da;go_wp2_with (fail);clear H k1 T cs dm ds;go_loopw [79] (λi W=>∃ j:Nat,j<=d.cls.length/\i=.int Χ j/\Ext wo W) (λi _=>d.cls.length-(intOf i).toNat)
  case atStart=>exact⟨0,by omega,rfl,Κ wo⟩
  obtain⟨j,hj,rfl,bg⟩:=hrel;by_cases cl:j<d.cls.length
  ·have cj:=bg.cell (c7.o j cl);have ht:=HT.o j cl;generalize d.ent2 s j=t at *;have e1:decide ((t:Int)<0)=Ε:=by simp
   have e2:decide ((d.n.length:Int)<=(t:Int))=Ε:=by simp;omega
   go_wp2;go_roundw
   case rel=>exact⟨j+1,by omega,by go_num,bg⟩
   simp[intOf];omega
  obtain rfl:j=d.cls.length:=by omega
  have db:=ae.t bg;go_wp2;go_roundw
  case rel=>exact⟨s+1,by omega,by go_num,db⟩
  simp[intOf];omega
 obtain rfl:s=d.n.length:=by omega
 go_wp2;go_ret;exact⟨rfl,ar.t ae⟩
structure BInv (t:Tbl) (l:List Nat) (k q:Nat):Prop where
 pos:0<l.length
 head:l.getD 0 0=0
 nodup:l.Nodup
 lt:∀ s∈l,s<t.n.length
 all:∀ s∈l,∃ w,t.run 0 w=s
 done:∀ j,j<k->∀ c,c<t.cells->t.ent2 (l.getD j 0) c∈l
 cur:∀ c,c<q->t.ent2 (l.getD k 0) c∈l
theorem Di {α:Type} (l:List α) (k:Nat) (d:α) (h:k<l.length):l.getD k d∈l:=by rw[Ζ,Θ h];exact ϯ h
theorem AM {t:Tbl} (G:TVal t):BInv t [0] 0 0 where
 pos:=by simp
 head:=rfl
 nodup:=by simp
 lt:=λs E=>by rw[ϖ] at E;subst E;exact G.pos
 all:=λs E=>by rw[ϖ] at E;subst E;exact⟨[],rfl⟩
 done:=λj H=>by omega
 cur:=λc hc=>by omega
theorem AN {t:Tbl} {l:List Nat} {k q:Nat} (h:BInv t l k q) (hm:t.ent2 (l.getD k 0) q∈l):BInv t l k (q+1):=
 ⟨h.pos,h.head,h.nodup,h.lt,h.all,h.done,λc hc=>by
  by_cases e:c=q
  ·subst e;exact hm
  exact h.cur c (by omega)⟩
theorem AP {t:Tbl} (H:TVal t) {l:List Nat} {k q:Nat} (h:BInv t l k q) (T:k<l.length) (X:q<t.cells) (hm:t.ent2 (l.getD k 0) q∉l):BInv t (l++[t.ent2 (l.getD k 0) q]) k (q+1):=by
 have hs:=Di l k 0 T;have hg:∀ j,j<l.length->(l++[t.ent2 (l.getD k 0) q]).getD j 0=l.getD j 0:=λj G=>B9 _ _ _ _ G
 refine⟨by simp,by rw[hg 0 h.pos];exact h.head,?_,λs E=>?_,λs E=>?_,λj G c hc=>?_,λc hc=>?_⟩
 ·rw[List.nodup_append];exact⟨h.nodup,by simp,λa ha b hb=>by rw[ϖ] at hb;subst hb;rintro rfl;exact hm ha⟩
 ·rw[Ä,ϖ] at E;rcases E with E|rfl
  ·exact h.lt s E
  exact H.tgt _ (h.lt _ hs) q X
 ·rw[Ä,ϖ] at E;rcases E with E|rfl
  ·exact h.all s E
  obtain⟨w,hw⟩:=h.all _ hs;obtain⟨b,hb,ae⟩:=H.onto q X;refine⟨w++[ϔ b],?_⟩;rw[F6,hw,u8n b hb];unfold Tbl.stp;rw[ae]
 ·have af:j<l.length:=by omega
  rw[hg j af,Ä];exact .inl (h.done j G c hc)
 rw[hg k T,Ä,ϖ];by_cases e:c=q
 ·subst e;exact .inr rfl
 exact .inl (h.cur c (by omega))
theorem AO {t:Tbl} {l:List Nat} {k:Nat} (h:BInv t l k t.cells):BInv t l (k+1) 0:=
 ⟨h.pos,h.head,h.nodup,h.lt,h.all,λj E c hc=>by
  by_cases e:j=k
  ·subst e;exact h.cur c hc
  exact h.done j (by omega) c hc,λc hc=>by omega⟩
theorem AQ {t:Tbl} {l:List Nat} (h:BInv t l l.length 0):Reached t l where
 head:=h.head
 ne:=h.pos
 nodup:=h.nodup
 lt:=h.lt
 closed:=λs E k G=>by obtain⟨j,H,rfl⟩:=Ky (d:=0) E;exact h.done j H k G
 all:=h.all
theorem BInv.le {t:Tbl} {l:List Nat} {k q:Nat} (h:BInv t l k q):l.length<=t.n.length:=by
 have:=D5 l (π t.n.length) h.nodup λs E=>ώ.2 (h.lt s E)
 simpa using this
def Ee (n:Nat) (l:List Nat):List Bool:=(π n).map λs=>decide (s∈l)
theorem Gw (n:Nat) (l:List Nat):(Ee n l).length=n:=by simp[Ee]
theorem Ue (n:Nat) (l:List Nat) (s:Nat) (h:s<n):(Ee n l).getD s Ε=decide (s∈l):=by simp[Ee,Ζ,h]
theorem Ud (n:Nat):Ee n []=ζ n Ε:=by unfold Ee;rw[List.eq_replicate_iff];exact⟨by simp,λx hx=>by obtain⟨b,_,rfl⟩:=Ϫ.1 hx;simp⟩
theorem Mi (n:Nat) (l:List Nat) (s:Nat):(Ee n l).set s Α=Ee n (l++[s]):=by
 unfold Ee;apply Ϩ;intro i;rw[Ó];by_cases hi:i<n
 ·by_cases e:s=i
  ·subst e;simp[hi]
  simp[hi,e,þ e]
 by_cases e:s=i
 ·subst e;simp[hi]
 simp[hi,e]
def RowsAt (W:Γ) (G H n m:Nat) (f:Nat->Nat->Nat):Prop:=
 ∀ s,s<n->∃ b E T,W.cell? ⟨G,H+s,J⟩=I (U (I ⟨b,E,J⟩) m T)/\∀ k,k<m->W.cell? ⟨b,E+k,J⟩=I (iv (f s k))
theorem RowsAt.ext {W W':Γ} {E G n m:Nat} {f:Nat->Nat->Nat} (h:RowsAt W E G n m f) (H:Ext W W'):RowsAt W' E G n m f:=λs T=>by obtain⟨b,X,aa,h1,h2⟩:=h s T;exact⟨b,X,aa,H.cell h1,λk hk=>H.cell (h2 k hk)⟩
theorem Ko {W:Γ} {v:Δ} {N:List (List Nat)} (h:Rows W v N) (m:Nat) (h0:0<N.length) (hm:0<m) (T:∀ s,s<N.length->(N.getD s []).length=m) :
  ∃ E G X,v=U (I ⟨E,G,J⟩) N.length X/\RowsAt W E G N.length m (λs k=>(N.getD s []).getD k 0):=by
 obtain⟨vs,_,hN,ab⟩:=h;obtain⟨E,G,X,rfl,ad⟩:=Ü hN h0;refine⟨E,G,X,rfl,λs H=>?_⟩;obtain⟨b,ae,af,ag,ah⟩:=Ü (ab s H) (by rw[T s H];exact hm);refine⟨b,ae,af,?_,λk hk=>ah k (by rw[T s H];omega)⟩;rw[ad s (by omega),ag,T s H]
theorem N4 {W:Γ} {v:Δ} {l:List Bool} (h:Bools W v l) (h0:0<l.length):∃ E G H,v=U (I ⟨E,G,J⟩) l.length H/\∀ s,s<l.length->W.cell? ⟨E,G+s,J⟩=I (.bool (l.getD s Ε)):=by obtain⟨b,o,c,rfl,hc⟩:=Ü h h0;exact⟨b,o,c,rfl,λs T=>hc s (by omega)⟩
theorem TVal.cpos {t:Tbl} (E:TVal t):0<t.cells:=by have:=E.cell_lt 0 (by omega);omega
theorem TVal.cle {t:Tbl} (E:TVal t):t.cells<=256:=I9 t.cell 256 t.cells E.onto
theorem IsT.opened {W:Γ} {A:Array Δ} {t:Tbl} (h:IsT W A t) (E:TVal t):∃ G H cn T X ca,A.size=259/\A.all (·.oneCell')=Α/\(∀ b,b<256->A[b]? = I (iv (t.cell b)))/\A[256]? = I (iv t.cells)/\
  A[257]? = I (U (I ⟨G,H,J⟩) t.n.length cn)/\A[258]? = I (U (I ⟨T,X,J⟩) t.n.length ca)/\RowsAt W G H t.n.length t.cells t.ent2/\∀ s,s<t.n.length->W.cell? ⟨T,X+s,J⟩=I (.bool (t.ok s)):=by
 obtain⟨vn,va,rfl,hN,hA⟩:=h;obtain⟨G,H,cn,rfl,hr⟩:=Ko hN t.cells E.pos E.cpos E.row;obtain⟨T,X,ca,rfl,ha⟩:=N4 hA (by rw[E.accL];exact E.pos);refine⟨G,H,cn,T,X,ca,Es _ _ _ _,Hm _ _ _ _ rfl rfl,λb hb=>Ol _ _ _ _ b hb,DL _ _ _ _,Kf _ _ _ _,by rw[Hq,E.accL],hr,λs hs=>ha s (by rw[E.accL];exact hs)⟩
abbrev OwnI (W:Γ) (base:Nat) (v:Δ) (l:List Nat):Prop:=W.ownsRow base 3 1 v l.length (l.map iv)
abbrev OwnB (W:Γ) (base:Nat) (v:Δ) (l:List Bool):Prop:=W.ownsRow base 4 1 v l.length (l.map Δ.bool)
theorem Aq {α:Type} {W:Γ} {base e g n E:Nat} {l:List α} {f:α->Δ} (d:α) (h:W.ownsRow base e 1 (U (I ⟨g,0,J⟩) n E) n (l.map f)) (G:n=l.length) (k:Nat) (H:k<l.length) :
  W.cell? ⟨g,k,J⟩=I (f (l.getD k d)):=by
 subst G;rw[ϣ.cellAt h k (by omega)];simp[Ζ,H]
theorem Ba {α:Type} {W:Γ} {base e g n E:Nat} {l:List α} {f:α->Δ} (h:W.ownsRow base e 1 (U (I ⟨g,0,J⟩) n E) n (l.map f)) (k:Nat) (x:α) :
  (W.setCell ⟨g,k,J⟩ (f x)).ownsRow base e 1 (U (I ⟨g,0,J⟩) n E) n ((l.set k x).map f)/\W.grownBy (W.setCell ⟨g,k,J⟩ (f x)) (I g):=by
 have:=h.stored k (f x);rw[List.map_set];exact this
theorem OwnI.ints {W:Γ} {base:Nat} {v:Δ} {l:List Nat} (h:OwnI W base v l) (E:l.length<=4611686018427387904):Ints W v l:=
 (Sl.of_owns h E (iv 0)).congr λi hi=>by simp only[Ζ,υ];cases l[i]?<;>rfl
theorem OwnB.bools {W:Γ} {base:Nat} {v:Δ} {l:List Bool} (h:OwnB W base v l) (E:l.length<=4611686018427387904):Bools W v l:=
 (Sl.of_owns h E (.bool Ε)).congr λi hi=>by simp only[Ζ,υ];cases l[i]?<;>rfl
theorem Ds:(Ι.info? 3).map (λi=>(i.zero,i.size,i.bytes))=I (I (.int Χ 0),1,8):=by kernel_rfl
theorem Fc:(Ι.info? 4).map (λi=>(i.zero,i.size,i.bytes))=I (I (.bool Ε),1,1):=by kernel_rfl
theorem B7 {α:Type} (f:α->Δ) (x:α) (n:Nat):(madeCells #[f x] (n*1)).toList=(ζ n x).map f:=by rw[Nat.mul_one,toList_madeCells_one,List.map_replicate]
open Go.Maps (Keyed)
def IsMp {κ:Type} (W:Γ) (k:ϫ) (key:κ->Δ) (b n:Nat) (f:κ->Option Nat):Prop:=
 ∃ D:DataW Unit,W.ownsMap Ι k (plainElem Ι 3) b n D/\∀ x l,keyOf Ι k (key x)=I l->Maps.has D l=(f x).isSome/\D.atKey l (.lit (.int Χ 0))=.lit (.int Χ ((f x).getD 0:Nat))
section
variable {κ:Type} {W:World} {k:TypeId} {key:κ->Value} {b n:Nat} {f:κ->Option Nat}
theorem Ig (W:Γ) (k:ϫ) (key:κ->Δ):IsMp (W.alloc (.map #[] 0)) k key W.heap.size 0 (λ_=>J):=
 ⟨.map [],Γ.ownsMap_made W _ _ _,λ_ _ _=>⟨rfl,rfl⟩⟩
theorem IsMp.kept {W':Γ} {row:Option Nat} (h:IsMp W k key b n f) (hg:W.grownBy W' row) (E:I b≠row):IsMp W' k key b n f:=by obtain⟨D,h1,G⟩:=h;exact⟨D,h1.kept hg E,G⟩
theorem IsMp.ext {W':Γ} (h:IsMp W k key b n f) (E:Ext W W'):IsMp W' k key b n f:=h.kept (E.grownBy J) (by simp)
theorem IsMp.alloc (h:IsMp W k key b n f) (o:Obj):IsMp (W.alloc o) k key b n f:=by obtain⟨D,h1,E⟩:=h;exact⟨D,h1.alloc o,E⟩
theorem IsMp.lt (h:IsMp W k key b n f):b<W.heap.size:=by obtain⟨D,h1,_⟩:=h;exact h1.lt
theorem IsMp.ne_row {base e size:Nat} {v:Δ} {m:Nat} {xs:List Δ} (h:IsMp W k key b n f) (E:W.ownsRow base e size v m xs):I b≠v.ownBlock:=by
 obtain⟨_,⟨es,G,hb,_⟩,_⟩:=h;obtain⟨H,⟨rfl,rfl⟩|⟨g,T,cur,rfl,_,hg,_⟩⟩:=E
 ·simp[Δ.ownBlock]
 intro e;simp only[Δ.ownBlock,Option.some.injEq] at e;rw[e,hg] at hb;cases hb
theorem Az {W:Γ} {base e size:Nat} {v:Δ} {m:Nat} {xs:List Δ} (E:W.ownsRow base e size v m xs) {g:Nat} (hg:g<base):v.ownBlock=J\/v.ownBlock≠I g:=
 .inr λe=>by have:=(E.lt _ e).1;omega
theorem IsMp.far {base e size:Nat} {v:Δ} {m:Nat} {xs:List Δ} (h:IsMp W k key b n f) (E:W.ownsRow base e size v m xs):v.ownBlock=J\/v.ownBlock≠I b:=.inr (λe=>h.ne_row E e.symm)
theorem Bz {W W':Γ} {base e size:Nat} {v:Δ} {m:Nat} {xs:List Δ} (E:W.ownsRow base e size v m xs) (hg:W.grownBy W' J):W'.ownsRow base e size v m xs:=E.kept hg (by cases v.ownBlock<;>simp)
theorem BV (W:Γ):(zeroValue 3).run Ι W=.ok (.int Χ 0) W:=by kernel_rfl
end
section
variable {κ:Type} {W:World} {k:TypeId} {key:κ->Value} {b n:Nat} {f:κ->Option Nat} {ops:Array Oper} {rest:List Oper} {o:Oper} {a:Act} {Q:Exit->Act->World->Prop}
theorem Dx (hg:o.guard=J) (m x:á) (t:ϫ) (G:o.op=Op.lookup t m x Α) (K:Keyed Ι k) (H:Ι.underlying t=I (.map k 3)) (hm:a.eval m=.map (I b)) (h:IsMp W k key b n f)
  (y:κ) (hx:a.eval x=key y) (E:∃ l,keyOf Ι k (key y)=I l) (hK:wpList Ι ops Q rest (a.put o.dst (ϙ #[iv ((f y).getD 0),.bool (f y).isSome])) W):wpList Ι ops Q (o::rest) a W:=by
 obtain⟨D,h1,T⟩:=h;obtain⟨l,E⟩:=E;obtain⟨X,e2⟩:=T y l E;refine wpList_lookup_own_ok_int W hg m x t G k 3 Χ K H Tryz.underlying3 (BV W) b n D hm h1 (key y) l hx E ?_;intro c hc _;rw[e2] at hc;rw[X];injection hc with hc
 injection hc with _ hc
 rw[<-hc];exact hK
theorem Gr [DecidableEq κ] (hg:o.guard=J) (m x v:á) (t:ϫ) (T:o.op=Op.mapUpdate t m x v) (K:Keyed Ι k) (X:Ι.underlying t=I (.map k 3)) (hm:a.eval m=.map (I b)) (h:IsMp W k key b n f) (hn:n<ϐ)
  (ab:∀ y z,key y=key z->y=z) (y:κ) (hx:a.eval x=key y) (E:∃ l,keyOf Ι k (key y)=I l) (i:Nat) (hv:a.eval v=iv i) (hi:i<9223372036854775808)
  (hK:∀ W',IsMp W' k key b (n+1) (λz=>if z=y then I i else f z)->W.grownBy W' (I b)->wpList Ι ops Q rest (a.put o.dst δ) W'):wpList Ι ops Q (o::rest) a W:=by
 obtain⟨D,h1,h2⟩:=h;obtain⟨l,E⟩:=E;have af:(Lit.int Χ (i:Int)).wf=Α:=by have e1:å.min=-9223372036854775808:=rfl;simp[Lit.wf,IntKind.wrap,IntKind.signed,IntKind.bits,e1];omega
 refine wpList_mapUpdate_own W hg m x v t T k 3 K X (plainElem Ι 3) b n D hm h1 hn (key y) (iv i) l hx hv E (.lit (.int Χ i)) [] (plainElem_int Tryz.underlying3 af) ?_;intro W' hW ai;refine hK W' ⟨_,hW,λz lz G=>?_⟩ ai;by_cases e:z=y
 ·subst e;rw[E] at G;cases G
  simp only[if_true];exact⟨Maps.has_put_same h1.isMap (K.key E) _,Maps.atKey_put_same h1.isMap (K.key E) _ _⟩
 have H:lz≠l:=λe'=>e (ab _ _ (K.inj G (e'▸E)))
 simp only[e,if_false];rw[Maps.has_put_other H,Maps.atKey_put_other H];exact h2 z lz G
end
open Go.RowKit Go.Shelf Go.WideMaps
theorem M9:laidOutB Ι=Α:=by kernel_rfl
theorem VS:ArrKey Ι 158 3 2:=⟨Tryz.underlying158,by kernel_rfl,by kernel_rfl,by kernel_rfl⟩
theorem FK:∃ m,Ι.types.size=m+1:=⟨_,(Nat.succ_pred_eq_of_pos (of_decide_eq_true (by kernel_rfl))).symm⟩
theorem Jh:Keyed Ι 158:=Keyed.of_law (deep_law_laid M9 (m:=2) (by omega) (of_decide_eq_true (by kernel_rfl)) (by kernel_rfl) (by rw[Tryz.underlying158]))
def C2 (x:Nat × Nat):Δ:=.agg #[iv x.1,iv x.2]
theorem Pk (x y:Nat × Nat) (h:C2 x=C2 y):x=y:=by simp[C2] at h;exact Prod.ext (by omega) (by omega)
theorem Mb (i:Nat) (hi:i<9223372036854775808):(Lit.int Χ (i:Int)).wf=Α:=by have E:å.min=-9223372036854775808:=rfl;simp[Lit.wf,IntKind.wrap,IntKind.signed,IntKind.bits,E];omega
theorem Vo (x:Nat × Nat) (h1:x.1<9223372036854775808) (E:x.2<9223372036854775808):∃ l,keyOf Ι 158 (C2 x)=I l:=
 ⟨_,keyOf_pair VS Tryz.underlying3 FK (Mb _ h1) (Mb _ E)⟩
theorem Gd:Keyed Ι 9:=Go.Maps.string_keyed Tryz.underlying9
structure JInv (a b:Nat->Nat) (x:Nat) (c:Nat->Nat) (bs:List Nat) (f:Nat × Nat->Option Nat):Prop where
 le:bs.length<=x
 lt:∀ y,y<x->c y<bs.length
 byte:∀ k,k<bs.length->bs.getD k 0<x/\c (bs.getD k 0)=k
 same:∀ y z,y<x->z<x->(c y=c z↔a y=a z/\b y=b z)
 has:∀ y,y<x->f (a y,b y)=I (c y)
 from_:∀ p i,f p=I i->∃ y,y<x/\p=(a y,b y)/\i=c y
theorem Xp (a b:Nat->Nat):JInv a b 0 (λ_=>0) [] (λ_=>J) where
 le:=by simp
 lt:=λy E=>by omega
 byte:=λk G=>by simp at G
 same:=λy z E=>by omega
 has:=λy E=>by omega
 from_:=λp i h=>by simp at h
theorem Xr {a b:Nat->Nat} {x:Nat} {c:Nat->Nat} {bs:List Nat} {f:Nat × Nat->Option Nat} (h:JInv a b x c bs f) (i:Nat) (hi:f (a x,b x)=I i):JInv a b (x+1) (λy=>if y=x then i else c y) bs f:=by
 obtain⟨z,H,E,rfl⟩:=h.from_ _ _ hi;simp only[Prod.mk.injEq] at E;refine⟨by have:=h.le;omega,λy T=>?_,λk hk=>?_,λy X T ad=>?_,λy T=>?_,λp i E=>?_⟩
 ·split
  ·exact h.lt z H
  exact h.lt y (by omega)
 ·obtain⟨h1,h2⟩:=h.byte k hk;rw[if_neg (by omega)];exact⟨by omega,h2⟩
 ·by_cases e:y=x<;>by_cases G:X=x
  ·subst e;subst G;simp
  ·subst e;rw[if_pos rfl,if_neg G,h.same z X H (by omega),E.1,E.2]
  ·subst G;rw[if_neg e,if_pos rfl,h.same y z (by omega) H,E.1,E.2]
  rw[if_neg e,if_neg G];exact h.same y X (by omega) (by omega)
 ·by_cases e:y=x
  ·subst e;rw[if_pos rfl];exact hi
  rw[if_neg e];exact h.has y (by omega)
 obtain⟨y,T,h1,h2⟩:=h.from_ p i E;exact⟨y,by omega,h1,by rw[if_neg (by omega)];exact h2⟩
theorem Xs {a b:Nat->Nat} {x:Nat} {c:Nat->Nat} {bs:List Nat} {f:Nat × Nat->Option Nat} (h:JInv a b x c bs f) (hi:f (a x,b x)=J) :
  JInv a b (x+1) (λy=>if y=x then bs.length else c y) (bs++[x]) (λp=>if p=(a x,b x) then I bs.length else f p):=by
 have aa:∀ y,y<x->¬ (a y=a x/\b y=b x):=λy G he=>by have:=h.has y G;rw[he.1,he.2,hi] at this;cases this
 have hl:(bs++[x]).length=bs.length+1:=by simp
 refine⟨by have:=h.le;omega,λy G=>?_,λk hk=>?_,λy H G af=>?_,λy G=>?_,λp i T=>?_⟩
 ·rw[hl];split
  ·omega
  have:=h.lt y (by omega);omega
 ·rw[hl] at hk;by_cases e:k=bs.length
  ·subst e;have:(bs++[x]).getD bs.length 0=x:=by simp[Ζ]
   rw[this,if_pos rfl];exact⟨by omega,rfl⟩
  have ad:k<bs.length:=by omega
  obtain⟨h1,E⟩:=h.byte k ad;rw[B9 _ _ _ _ ad,if_neg (by omega)];exact⟨by omega,E⟩
 ·by_cases e:y=x<;>by_cases X:H=x
  ·subst e;subst X;simp
  ·subst e;have h1:=h.lt H (by omega);rw[if_pos rfl,if_neg X];exact⟨λE=>by omega,λE=>absurd ⟨E.1.symm,E.2.symm⟩ (aa H (by omega))⟩
  ·subst X;have h1:=h.lt y (by omega);rw[if_neg e,if_pos rfl];exact⟨λE=>by omega,λE=>absurd E (aa y (by omega))⟩
  rw[if_neg e,if_neg X];exact h.same y H (by omega) (by omega)
 ·by_cases e:y=x
  ·subst e;simp
  have h1:=aa y (by omega);rw[if_neg e,if_neg (by simpa using h1)];exact h.has y (by omega)
 by_cases e:p=(a x,b x)
 ·simp only[e,if_true] at T;cases T
  exact⟨x,by omega,e,by rw[if_pos rfl]⟩
 simp only[e,if_false] at T;obtain⟨y,G,h1,E⟩:=h.from_ p i T;exact⟨y,by omega,h1,by rw[if_neg (by omega)];exact E⟩
theorem Xt {a b c:Nat->Nat} {bs:List Nat} {f:Nat × Nat->Option Nat} (h:JInv a b 256 c bs f):Joint a b c bs:=
 ⟨h.lt,h.byte,h.same⟩
def B0 (c:Nat->Nat):Array Δ:=((π 256).map (λb=>iv (c b))).toArray
theorem J9:Ϝ=B0 (λ_=>0):=by kernel_rfl
theorem Ez (c:Nat->Nat):(B0 c).size=256:=by simp[B0]
theorem Zu (c:Nat->Nat) (b:Nat) (hb:b<256):(B0 c)[b]? = I (iv (c b)):=by simp[B0,hb]
theorem Zt (c:Nat->Nat) (b x:Nat) (hb:b<256):(B0 c).setIfInBounds b (iv x)=B0 (λy=>if y=b then x else c y):=by
 apply Array.ext';rw[Array.toList_setIfInBounds];unfold B0;simp only;apply Ϩ;intro i;rw[Ó];by_cases hi:i<256
 ·by_cases e:b=i
  ·subst e;simp[hb]
  simp[hi,e,þ e]
 have:b≠i:=by omega
 rw[if_neg this];simp[hi]
theorem Nu (c:Nat->Nat):(B0 c).all (·.oneCell')=Α:=by rw[Array.all_eq_true_iff_forall_mem];intro x hx;simp only[B0,List.mem_toArray,Ϫ] at hx;obtain⟨b,_,rfl⟩:=hx;rfl
theorem Le:(Ι.info? 82).map (·.size)=I 256:=by kernel_rfl
theorem Ji:(Ι.info? 158).map (·.size)=I 2:=by kernel_rfl
theorem Bi {P:Program} {fn:Func} {p u:Tmp} {ty:ϫ} (h:fn.results=#[.cell p ty,.tmp u]) (E:Array Δ) (w:Γ) (g:Nat) (t:ϫ) (cs:Array Δ) (fr:Nat × Nat) (d:TypeDesc)
  (G:E.getD p δ=η (I ⟨g,0,J⟩)) (v:Δ) (H:E.getD u δ=v) (hg:w.heap[g]? = I (Β cs t fr))
  (hu:P.underlying ty=I d) (hd:(match d with|.struct _|.array _ _=>Α|_=>Ε)=Α) (hi:(P.info? ty).map (·.size)=I cs.size) :
  (results fn E).run P w=.ok (ϙ #[.agg cs,v]) w:=by
 rw[results_cell_tmp h,G,H];simp[asAddr,run_loadVar_row w g t ty cs fr d hg hu hd hi,Result.andThen]
theorem Qi (t u:Tbl) (ht:TVal t) (hu:TVal u) (A B:Array Δ) (w:Γ) (hA:IsT w A t) (hB:IsT w B u) :
  Ϟ Ι 42 #[.agg A,.agg B] w λe w'=>∃ c bs v,e=Ω (ϙ #[.agg (B0 c),v])/\Joint t.cell u.cell c bs/\Ints w' v bs/\Ext w w':=by
 obtain⟨_,_,_,_,_,_,b9,cc,bj,_⟩:=hA.opened ht;obtain⟨_,_,_,_,_,_,cd,cf,bk,_⟩:=hB.opened hu;clear hA hB;obtain⟨i0,hi,cj,ck,cl⟩:=ϑ Ds;have cm:=@run_makeMap Ι;have cn:=((Κ w).alloc (Β A 84)).alloc (Β B 84);have H0:=Ag (Ad w (Β A 84)) (Β B 84);have H1:=ύ w (Β A 84) (Β B 84);go_enter Tryz.func42,Tryz.ntmps42;go_upto_region 3 with (fail)
 obtain⟨w0,a7⟩:=Xq ((w.alloc (Β A 84)).alloc (Β B 84));have a8:w0.heap.size=w.heap.size+1+1:=by rw[<-a7,Ο,Ο]
 simp only[a7] at *;clear a7;have cq:=Z (λ(W:Γ) (hW:Ext w0 W) (b:Nat) (hb:b<256)=>(Τ W w.heap.size b _ _ _ (hW.heap H0)).trans (bj b hb));have ct:=Z (λ(W:Γ) (hW:Ext w0 W) (b:Nat) (hb:b<256)=>(Τ W (w.heap.size+1) b _ _ _ (hW.heap H1)).trans (bk b hb));have cu:=Z (λ(b:Nat) (hb:b<256)=>í (Ξ (ht.cell_lt b hb) ht.cle) (Ξ (hu.cell_lt b hb) hu.cle));clear H0 H1 b9 cc bj cd cf bk ht hu;go_upto_region 4 with (fail)
 clear cm;have R2:=Ag (Ag (Ad w0 (Β Ϝ 82)) (Β Ϝ 82)) (.map #[] 0);have R3:=Ag (ύ w0 (Β Ϝ 82) (Β Ϝ 82)) (.map #[] 0);have T:=Ig ((w0.alloc (Β Ϝ 82)).alloc (Β Ϝ 82)) 158 C2;have cv:=(((Κ w0).alloc (Β Ϝ 82)).alloc (Β Ϝ 82)).alloc (.map #[] 0);have dk:(((w0.alloc (Β Ϝ 82)).alloc (Β Ϝ 82)).alloc (.map #[] 0)).heap.size=w.heap.size+1+1+1+1+1:=by rw[Ο,Ο,Ο,a8]
 rw[Ο,Ο,a8] at T;rw[a8] at R2 R3;obtain⟨w1,bn⟩:=Xq (((w0.alloc (Β Ϝ 82)).alloc (Β Ϝ 82)).alloc (.map #[] 0));simp only[bn] at *;clear bn;have H:=ϰ w1 w1.heap.size 3 1;have R2:=Z R2;have R3:ϟ (w1.heap[w.heap.size+1+1+1]? = I (Β (B0 λ_=>0) 82 (0,0))):=Z (by rw[R3,J9]);go_wp2_with (fail);go_loopw [7,14] (λv i W=>∃ (x:Nat) (bs:List Nat) (a:Option Addr) (cp:Nat) (c:Nat->Nat) (f:Nat × Nat->Option Nat),x<=256/\i=.int Χ x/\v=U a bs.length cp/\Ext w0 W/\w1.heap.size<=W.heap.size/\OwnI W w1.heap.size v bs/\IsMp W 158 C2 (w.heap.size+1+1+1+1) bs.length f/\W.heap[w.heap.size+1+1]? = I (Β Ϝ 82 (0,0))/\W.heap[w.heap.size+1+1+1]? = I (Β (B0 c) 82 (0,0))/\ϟ (JInv t.cell u.cell x c bs f))
  (λ_ i _=>256-(intOf i).toNat)
 case atStart=>exact⟨0,[],J,0,_,_,by omega,rfl,rfl,cv,Υ _,H,T,R2.o,R3.o,Z (Xp _ _)⟩
 obtain⟨x,bs,a,cp,c,f,hx,rfl,rfl,hE,bo,H,T,bp,bq,HJ⟩:=hrel;have dm:=HJ.o.le;have G:=Z bp;have E:=Z bq;clear bp bq;by_cases ae:x<256
 ·have dn:(x:Int)<256:=by omega
  have ka:=cq.o wr hE x ae;have kb:=ct.o wr hE x ae;obtain⟨ha,hb⟩:=cu.o x ae;have bb:=Vo (t.cell x,u.cell x) (by show t.cell x<_;omega) (by show u.cell x<_;omega);generalize bu:t.cell x=X at *;generalize bw:u.cell x=cb at *;have bc:=Z bu;have bd:=Z bw;clear bu bw;go_upto_region 7 with (fail)
  have na:=Γ.new_ne wr _ ka;have nb:=Γ.new_ne wr _ kb;go_region_held (λW=>W.cell? ⟨w.heap.size,x,J⟩=I (iv X)/\W.cell? ⟨w.heap.size+1,x,J⟩=I (iv cb)) (go_keep) (fail)
  have e5:Ext wr (wr.alloc (Β #[iv X,iv cb] 158)).drew:=((Κ wr).alloc _).drew;have K5:ϟ ((wr.alloc (Β #[iv X,iv cb] 158)).drew.heap[wr.heap.size]? = I (Β #[iv X,iv cb] 158 (0,0))):=Z (Ad wr _);obtain⟨w5,bz⟩:=Xq ((wr.alloc (Β #[iv X,iv cb] 158)).drew);simp only[bz] at *;clear bz ka kb na nb;rename_i cz
  clear cz;have b0:=hE.t e5;have b4:=μ bo e5.size;have H:=Aa H e5;have T:=T.ext e5;have G:=Z (e5.heap G.o);have E:=Z (e5.heap E.o);have dq:w1.heap.size<=wr.heap.size:=bo;cases hf:f (X,cb) with
  | some i=>
   have c4:=HJ.o;have HN:=Z (Xr HJ.o i (by rw[bc.o,bd.o];exact hf));have dr:i<bs.length:=by obtain⟨z,hz,_,rfl⟩:=HJ.o.from_ _ _ hf;exact HJ.o.lt z hz
   clear c4;have c3:=(Τ w5 (w.heap.size+1+1+1) x _ _ _ E.o).trans (Zu c x ae);have f3:=Â w5 (w.heap.size+1+1+1) x _ _ E.o;go_wp2_with (first
    | (refine Lr 158 (ε 10) K5.o Tryz.underlying158 Ji ?_)
    | (at_lookup;refine Dx rfl _ _ 157 rfl Jh Tryz.underlying157 rfl T (X,cb) rfl bb ?_;rw[hf];dsimp only [æ,Option.getD]))
   go_roundw
   case rel=>rw[ϧ w5 _ _ _ _ _ _ E.o,Zt _ _ _ ae];have ag:=Ca w5 (w.heap.size+1+1+1) (B0 λy=>if y=x then i else c y);refine⟨x+1,bs,a,cp,_,f,by omega,by go_num,rfl,b0.setRow (by omega) _,by rw[size_setRow];exact b4,H.kept ag (Az H (by omega)),T.kept ag (by simp),Bk G.o (by omega) _,Φ w5 _ _ _ _ _ E.o,HN⟩
   case measure=>simp[intOf];omega
  | none=>
   have HN:=Xs HJ.o (by rw[bc.o,bd.o];exact hf);rw[bc.o,bd.o] at HN;have HN:=Z HN;have c8:=K5;go_upto_region 11 with (first
    | (refine Lr 158 (ε 10) K5.o Tryz.underlying158 Ji ?_)
    | (at_lookup;refine Dx rfl _ _ 157 rfl Jh Tryz.underlying157 rfl T (X,cb) rfl bb ?_;rw[hf];dsimp only [æ,Option.getD]))
   go_upto_region 12 with (first
    | (refine Lr 158 (ε 10) K5.o Tryz.underlying158 Ji ?_)
    | (at_mapUpdate;refine Gr rfl _ _ _ 157 rfl Jh Tryz.underlying157 rfl T (by unfold ϐ;omega) Pk (X,cb) rfl bb bs.length rfl (by omega) ?_;intro w6 b5 ai))
   clear T c8;have aj:=H.kept ai (Az H (by omega));have G:ϟ (w6.heap[w.heap.size+1+1]? = _):=Z ((ai.block _ (Al G.o) (by simp)).trans G.o);have E:ϟ (w6.heap[w.heap.size+1+1+1]? = _):=Z ((ai.block _ (Al E.o) (by simp)).trans E.o);have c9:=b0.grown ai (λk e=>by cases e;omega);have da:w1.heap.size<=w6.heap.size:=μ b4 ai.size;clear ai H K5 e5;go_upto_region 13 with (at_builtin;refine ϕ _ rfl _ _ 54 rfl w1.heap.size 3 i0 (.int Χ 0) 1 8 ϝ hi cj ck cl rfl (by decide) _ _ _ rfl (aj.alloc _) _ 1 1 [iv x] rfl rfl (Õ _ _ _) (by simp[ξ]) (by decide) (by unfold ϐ;omega) (by omega) (by simp;omega) _ rfl ?_;intro g7 c7 w7 az ak _ _)
   have dc:=Al E.o;have dd:=Al G.o;have G:ϟ (w7.heap[w.heap.size+1+1]? = _):=Z ((ak.block _ (Ξ dd (by rw[Ο];omega)) (λe=>by have:=(aj.lt _ e.symm).1;omega)).trans (Ag G.o _));have E:ϟ (w7.heap[w.heap.size+1+1+1]? = _):=Z ((ak.block _ (Ξ dc (by rw[Ο];omega)) (λe=>by have:=(aj.lt _ e.symm).1;omega)).trans (Ag E.o _));have de:=(b5.alloc (Β #[iv x] 3)).kept ak (λe=>by have:=(aj.lt _ e.symm).1;omega);have df:=(c9.alloc (Β #[iv x] 3)).grown ak (λk e=>by have:=(aj.lt k e).1;omega);have dg:w1.heap.size<=w7.heap.size:=μ da (by have:=ak.size;rw[Ο] at this;omega);clear ak aj b5;have az:OwnI w7 w1.heap.size (U (I ⟨g7,0,J⟩) (bs.length+1) c7) (bs++[x]):=by show ϣ _ _ _ _ _ _ _;rw[Ν,ϥ];exact az
   have c3:=(Τ w7 (w.heap.size+1+1+1) x _ _ _ E.o).trans (Zu c x ae);have f3:=Â w7 (w.heap.size+1+1+1) x _ _ E.o;go_wp2;go_roundw
   case rel=>rw[ϧ w7 _ _ _ _ _ _ E.o,Zt _ _ _ ae];have ag:=Ca w7 (w.heap.size+1+1+1) (B0 λy=>if y=x then bs.length else c y);refine⟨x+1,bs++[x],_,c7,_,_,by omega,by go_num,by rw[Ν];rfl,df.setRow (by omega) _,by rw[size_setRow];exact dg,az.kept ag (Az az (by omega)),IsMp.kept (by rw[Ν];exact de) ag (by simp),Bk G.o (by omega) _,Φ w7 _ _ _ _ _ E.o,HN⟩
   case measure=>simp[intOf];omega
 obtain rfl:x=256:=by omega
 have HC:=Z (show (Ϝ).size=(B0 c).size by rw[J9,Ez,Ez]);have HO:=Z (Nu c);have a1:=Z (show (Ι.info? 82).map (·.size)=I (B0 c).size by rw[Ez];exact Le);obtain⟨A',bf⟩:=Xq (B0 c);rw[bf] at HC HO a1 E;have dh:=Z bf;clear bf;go_wp2_with (first
  | (refine Lr 82 (ε 6) E.o Tryz.underlying82 a1.o ?_)
  | (refine ã rfl 82 (ε 4) (ε 47) rfl _ A' rfl rfl _ _ G.o a1.o HC.o HO.o ?_))
 refine ω (v:=ϙ #[.agg A',U a bs.length cp]) (Bi rfl _ _ _ _ _ _ _ rfl _ rfl (Φ wr _ _ A' 82 (0,0) G.o) Tryz.underlying82 rfl a1.o) rfl ?_;have ag:=Ca wr (w.heap.size+1+1) A';refine⟨c,bs,_,by rw[dh.o],Xt HJ.o,OwnI.ints (H.kept ag (Az H (by omega))) (by omega),(cn.t hE).setRow (by omega) _⟩
def Bp (x:Nat):List UInt8:=[ϔ x,ϔ (x / 256)]
theorem Wx {x y:Nat} (hx:x<65536) (G:y<65536) (h:Bp x=Bp y):x=y:=by simp only[Bp,ó,and_true] at h;have h1:=congrArg UInt8.toNat h.1;have E:=congrArg UInt8.toNat h.2;simp only[UInt8.toNat_ofNat'] at h1 E;omega
theorem P7 (x:Nat):(Bp x).length=2:=rfl
def Bl (g:Nat->Nat):Nat->List UInt8
 | 0=>[]
 | n+1=>Bl g n++Bp (g n)
theorem Jq (g:Nat->Nat):∀ n,(Bl g n).length=2*n
 | 0=>rfl
 | n+1=>by rw[Bl,Ν,Jq g n,P7];omega
theorem Ns (g E:Nat->Nat):∀ n,(∀ k,k<n->g k<65536)->(∀ k,k<n->E k<65536)->(Bl g n=Bl E n↔∀ k,k<n->g k=E k)
 | 0,_,_=>by simp[Bl]
 | n+1,hg,H=>by
  have T:=Ns g E n (λk G=>hg k (by omega)) (λk G=>H k (by omega));simp only[Bl];constructor
  ·intro h;obtain⟨h1,X⟩:=List.append_inj h (by rw[Jq,Jq]);intro k G;by_cases e:k=n
   ·subst e;exact Wx (hg k (by omega)) (H k (by omega)) X
   exact T.1 h1 k (by omega)
  intro h;rw[T.2 λk G=>h k (by omega),h n (by omega)]
def Fo (t:Tbl) (B:Nat->Nat) (s:Nat):List UInt8:=Bp (B s)++Bl (λk=>B (t.ent2 s k)) t.cells
theorem OD (t:Tbl) (B:Nat->Nat) (s s':Nat) (h1:B s<65536) (X:B s'<65536) (H:∀ k,k<t.cells->B (t.ent2 s k)<65536) (T:∀ k,k<t.cells->B (t.ent2 s' k)<65536) :
  Fo t B s=Fo t B s'↔B s=B s'/\∀ k,k<t.cells->B (t.ent2 s k)=B (t.ent2 s' k):=by
 unfold Fo;constructor
 ·intro h;obtain⟨E,G⟩:=List.append_inj h rfl;exact⟨Wx h1 X E,(Ns _ _ _ H T).1 G⟩
 rintro⟨E,G⟩;rw[E,(Ns _ _ _ H T).2 G]
theorem Cd {α:Type} (l:List α) (i j:Nat) (x d:α) (h:i<l.length):(l.set i x).getD j d=if j=i then x else l.getD j d:=by
 rw[Ζ,Ζ,Ó];by_cases e:j=i
 ·subst e;simp[h]
 rw[if_neg (þ e),if_neg e]
theorem V8 {l:List Nat} (h:l.Nodup) {i j:Nat} (hi:i<l.length) (E:j<l.length) (G:i≠j):l.getD i 0≠l.getD j 0:=by rw[Ζ,Ζ,Θ hi,Θ E];intro e;exact G ((List.getElem_inj h).1 e)
theorem Ic {l:List Nat} {s:Nat} (h:s∈l):∃ j,j<l.length/\l.getD j 0=s:=Ky (d:=0) h
structure NInv (l:List Nat) (key:Nat->List UInt8) (j:Nat) (N R:List Nat) (f:List UInt8->Option Nat):Prop where
 le:R.length<=j
 has:∀ q,q<j->f (key (l.getD q 0))=I (N.getD (l.getD q 0) 0)
 lt:∀ q,q<j->N.getD (l.getD q 0) 0<R.length
 rep:∀ i,i<R.length->(∃ q,q<j/\R.getD i 0=l.getD q 0)/\N.getD (R.getD i 0) 0=i
 from_:∀ k i,f k=I i->∃ q,q<j/\k=key (l.getD q 0)/\i=N.getD (l.getD q 0) 0
 same:∀ q q',q<j->q'<j->(N.getD (l.getD q 0) 0=N.getD (l.getD q' 0) 0↔key (l.getD q 0)=key (l.getD q' 0))
theorem Wa (l:List Nat) (key:Nat->List UInt8) (N:List Nat):NInv l key 0 N [] (λ_=>J) where
 le:=by simp
 has:=λq E=>by omega
 lt:=λq E=>by omega
 rep:=λi hi=>by simp at hi
 from_:=λk i h=>by simp at h
 same:=λq q' E=>by omega
section
variable {l:List Nat} {key:Nat->List UInt8} {j:Nat} {N R:List Nat} {f:List UInt8->Option Nat}
theorem Wb (h:NInv l key j N R f) (hn:l.Nodup) (hj:j<l.length) (hs:l.getD j 0<N.length) (i:Nat) (hi:f (key (l.getD j 0))=I i):NInv l key (j+1) (N.set (l.getD j 0) i) R f:=by
 obtain⟨z,T,hk,X⟩:=h.from_ _ _ hi;have ne:∀ q,q<j->l.getD q 0≠l.getD j 0:=λq E=>V8 hn (by omega) hj (by omega)
 have G:∀ q,q<j->(N.set (l.getD j 0) i).getD (l.getD q 0) 0=N.getD (l.getD q 0) 0:=λq E=>by rw[Cd _ _ _ _ _ hs,if_neg (ne q E)]
 have H:(N.set (l.getD j 0) i).getD (l.getD j 0) 0=i:=by rw[Cd _ _ _ _ _ hs,if_pos rfl]
 refine⟨by have:=h.le;omega,λq E=>?_,λq E=>?_,λr hr=>?_,λk i' aj=>?_,λq q' E an=>?_⟩
 ·by_cases e:q=j
  ·subst e;rw[H];exact hi
  rw[G q (by omega)];exact h.has q (by omega)
 ·by_cases e:q=j
  ·subst e;rw[H,X];exact h.lt z T
  rw[G q (by omega)];exact h.lt q (by omega)
 ·obtain⟨⟨q,E,e⟩,e2⟩:=h.rep r hr;refine⟨⟨q,by omega,e⟩,?_⟩;rw[e,G q E,<-e];exact e2
 ·obtain⟨q,E,e1,e2⟩:=h.from_ k i' aj;exact⟨q,by omega,e1,by rw[G q E];exact e2⟩
 by_cases e:q=j<;>by_cases e':q'=j
 ·subst e;subst e';simp
 ·subst e;rw[H,G q' (by omega),X,h.same z q' T (by omega),hk]
 ·subst e';rw[H,G q (by omega),X,h.same q z (by omega) T,hk]
 rw[G q (by omega),G q' (by omega)];exact h.same q q' (by omega) (by omega)
theorem Wc (h:NInv l key j N R f) (hn:l.Nodup) (hj:j<l.length) (hs:l.getD j 0<N.length) (hi:f (key (l.getD j 0))=J) :
  NInv l key (j+1) (N.set (l.getD j 0) R.length) (R++[l.getD j 0]) (λk=>if k=key (l.getD j 0) then I R.length else f k):=by
 have ne:∀ q,q<j->l.getD q 0≠l.getD j 0:=λq E=>V8 hn (by omega) hj (by omega)
 have nk:∀ q,q<j->key (l.getD q 0)≠key (l.getD j 0):=λq E e=>by have:=h.has q E;rw[e,hi] at this;cases this
 have G:∀ q,q<j->(N.set (l.getD j 0) R.length).getD (l.getD q 0) 0=N.getD (l.getD q 0) 0:=λq E=>by rw[Cd _ _ _ _ _ hs,if_neg (ne q E)]
 have T:(N.set (l.getD j 0) R.length).getD (l.getD j 0) 0=R.length:=by rw[Cd _ _ _ _ _ hs,if_pos rfl]
 have hl:(R++[l.getD j 0]).length=R.length+1:=by simp
 refine⟨by have:=h.le;omega,λq E=>?_,λq E=>?_,λr hr=>?_,λk i' X=>?_,λq q' E an=>?_⟩
 ·by_cases e:q=j
  ·subst e;rw[T];simp
  rw[G q (by omega),if_neg (nk q (by omega))];exact h.has q (by omega)
 ·rw[hl];by_cases e:q=j
  ·subst e;rw[T];omega
  rw[G q (by omega)];have:=h.lt q (by omega);omega
 ·rw[hl] at hr;by_cases e:r=R.length
  ·have H:(R++[l.getD j 0]).getD r 0=l.getD j 0:=by rw[e];simp[Ζ]
   rw[H,T];exact⟨⟨j,by omega,rfl⟩,e.symm⟩
  have af:r<R.length:=by omega
  obtain⟨⟨q,E,H⟩,e2⟩:=h.rep r af;rw[B9 _ _ _ _ af];refine⟨⟨q,by omega,H⟩,?_⟩;rw[H,G q E,<-H];exact e2
 ·by_cases e:k=key (l.getD j 0)
  ·simp only[e,if_true] at X;cases X
   exact⟨j,by omega,e,T.symm⟩
  simp only[e,if_false] at X;obtain⟨q,E,H,e2⟩:=h.from_ k i' X;exact⟨q,by omega,H,by rw[G q E];exact e2⟩
 by_cases e:q=j<;>by_cases e':q'=j
 ·subst e;subst e';simp
 ·subst e;have h1:=h.lt q' (by omega);rw[T,G q' (by omega)];exact⟨λe=>by omega,λe=>absurd e.symm (nk q' (by omega))⟩
 ·subst e';have h1:=h.lt q (by omega);rw[T,G q (by omega)];exact⟨λe=>by omega,λe=>absurd e (nk q (by omega))⟩
 rw[G q (by omega),G q' (by omega)];exact h.same q q' (by omega) (by omega)
theorem We (h:NInv l key l.length N R f):Blk l (λs=>N.getD s 0) R/\∀ s∈l,∀ s'∈l,(N.getD s 0=N.getD s' 0↔key s=key s'):=by
 refine⟨⟨λs G=>?_,λi hi=>?_,λi hi=>(h.rep i hi).2⟩,λs G s' H=>?_⟩
 ·obtain⟨q,E,rfl⟩:=Ic G;exact h.lt q E
 ·obtain⟨⟨q,E,e⟩,_⟩:=h.rep i hi;rw[e];exact Di l q 0 E
 obtain⟨q,E,rfl⟩:=Ic G;obtain⟨q',T,rfl⟩:=Ic H;exact h.same q q' E T
end
theorem Un {t:Tbl} {l:List Nat} (X:Reached t l) {B N:Nat->Nat} (E:∀ s∈l,B s<65536) (h:∀ s∈l,∀ s'∈l,(N s=N s'↔Fo t B s=Fo t B s')):J5 t l B N:=λs G s' H=>by rw[h s G s' H,OD t B s s' (E s G) (E s' H) (λk T=>E _ (X.closed s G k T)) (λk T=>E _ (X.closed s' H k T))]
structure AInv (t:Tbl) (l:List Nat) (j:Nat) (B:List Nat):Prop where
 len:B.length=t.n.length
 at_:∀ s,B.getD s 0=if s∈l.take j/\t.ok s=Α then 1 else 0
theorem BE (t:Tbl) (l:List Nat):AInv t l 0 (ζ t.n.length 0) where
 len:=by simp
 at_:=λs=>by simp[Ζ,Ì];split<;>rfl
theorem Tk {l:List Nat} {j:Nat} (E:j<l.length) (s:Nat):s∈l.take (j+1)↔s∈l.take j\/s=l.getD j 0:=by rw[List.take_add_one,Ä,Θ E,Ζ,Θ E];simp
theorem BD {t:Tbl} {l:List Nat} {j:Nat} {B:List Nat} (h:AInv t l j B) (G:j<l.length) (H:l.getD j 0<t.n.length) (T:t.ok (l.getD j 0)=Α):AInv t l (j+1) (B.set (l.getD j 0) 1) where
 len:=by rw[ο];exact h.len
 at_:=λs=>by
  rw[Cd _ _ _ _ _ (by rw[h.len];exact H),h.at_ s];have E:=Tk G s;generalize l.getD j 0=x at *;by_cases e:s=x
  ·subst e;simp[E,T]
  simp[E,e]
theorem BF {t:Tbl} {l:List Nat} {j:Nat} {B:List Nat} (h:AInv t l j B) (E:j<l.length) (G:t.ok (l.getD j 0)=Ε):AInv t l (j+1) B where
 len:=h.len
 at_:=λs=>by
  rw[h.at_ s];have H:=Tk E s;generalize l.getD j 0=x at *;by_cases e:s=x
  ·subst e;simp[G]
  simp[H,e]
theorem BG {t:Tbl} {l:List Nat} {B:List Nat} (h:AInv t l l.length B):Refi t l (λs=>B.getD s 0) 0/\∀ s,B.getD s 0<65536:=by
 refine⟨Uz t l _ λs E=>?_,λs=>?_⟩
 ·show B.getD s 0=_;rw[h.at_ s,List.take_length];simp[E]
 rw[h.at_ s];split<;>omega
structure OInv (t:Tbl) (l:List Nat) (B:List Nat) (n:Nat):Prop where
 len:B.length=t.n.length
 refi:Refi t l (λs=>B.getD s 0) n
 lt:∀ s∈l,B.getD s 0<65536
 le:n<=l.length
theorem JR {t:Tbl} {l:List Nat} {B:List Nat} (h:AInv t l l.length B):OInv t l B 0:=
 ⟨h.len,(BG h).1,λs _=>(BG h).2 s,by omega⟩
theorem AI {l:List Nat} {B:Nat->Nat} {R:List Nat} (h:Blk l B R):R.length<=l.length:=by
 have:=D5 (R.map λs=>s) l (by rw[List.map_id'];rw[List.nodup_iff_pairwise_ne,Ϧ];intro i j hi G T e;have h1:=h.rep i hi;have E:=h.rep j G;rw[Ζ,Θ hi] at h1;rw[Ζ,Θ G] at E;simp only[Ç] at h1 E;rw[e,E] at h1;omega) λs H=>by rw[List.map_id'] at H;obtain⟨i,hi,rfl⟩:=Ic H;exact h.mem i hi
 simpa using this
theorem Vz {t:Tbl} (T:TVal t) {l:List Nat} (E:Reached t l) {B N R:List Nat} {f:List UInt8->Option Nat} {n:Nat} (h:OInv t l B n) (hm:l.length<=65536) (X:N.length=t.n.length)
  (hi:NInv l (Fo t λs=>B.getD s 0) l.length N R f) (ab:R.length≠n):OInv t l N R.length/\n<R.length:=by
 obtain⟨hb,G⟩:=We hi;have H:J5 t l (λs=>B.getD s 0) (λs=>N.getD s 0):=Un E h.lt G;have aa:=AI hb;refine⟨⟨X,U0 T E h.refi H hb,λs G=>?_,aa⟩,?_⟩
 ·have:=hb.lt s G;show N.getD s 0<65536;omega
 have:=(U1 h.refi H hb E.ne).1;omega
theorem V0 {t:Tbl} (G:TVal t) {l:List Nat} (E:Reached t l) {B N R:List Nat} {f:List UInt8->Option Nat} {n:Nat} (h:OInv t l B n)
  (hi:NInv l (Fo t λs=>B.getD s 0) l.length N R f) (he:R.length=n):Blocks t l (λs=>N.getD s 0) R:=by
 obtain⟨hb,H⟩:=We hi;have T:J5 t l (λs=>B.getD s 0) (λs=>N.getD s 0):=Un E h.lt H;exact⟨hb,GV G E h.refi T hb he⟩
def Co (l:List UInt8):Δ:=.string ⟨l.toArray⟩
theorem Oq (x y:List UInt8) (h:Co x=Co y):x=y:=by simpa [Co] using h
theorem Oo (l:List UInt8) (E:l.length<=ϐ):∃ k,keyOf Ι 9 (Co l)=I k:=
 ⟨_,Go.WideMaps.keyOf_string_mk Tryz.underlying9 (by simpa [ByteArray.size] using E)⟩
theorem Js (w:Γ) (a b:Δ) (t:ϫ):∀ j u,[a,b][j]? = I u->(w.alloc (Β #[a,b] t)).cell? ((⟨w.heap.size,0,J⟩:Addr).add j)=I u:=λj u hu=>Γ.news_of_block (Ad w (Β #[a,b] t)) j u hu
theorem GU (t:Tbl) (hv:TVal t) (hn:t.n.length<=65536) (l:List Nat) (hl:Reached t l) (A:Array Δ) (vl:Δ) (w:Γ) (h:IsT w A t) (dz:Ints w vl l) :
  Ϟ Ι 67 #[.agg A,vl] w λe w'=>∃ vN vR N R,e=Ω (ϙ #[vN,vR])/\N.length=t.n.length/\Blocks t l (λs=>N.getD s 0) R/\Ints w' vN N/\Ints w' vR R/\Ext w w':=by
 obtain⟨bn,on,cn,ba,oa,ca,fp,fq,_,_,ed,ee,hR,eg⟩:=h.opened hv;obtain⟨bl,ol,cl,rfl,eh⟩:=Ü dz hl.ne;have im:=hv.pos;have ir:=hv.cpos;have iu:=hv.cle;have iw:=hl.ne;have ix:l.length<=t.n.length:=by
  have:=D5 l (π t.n.length) hl.nodup λs hs=>ώ.2 (hl.lt s hs)
  simpa using this
 have HR:=Z hR;have HV:=Z hv;have HL:=Z hl;have ei:=Z (λk (hk:k<l.length)=>eh k (by omega));have fu:=Z eg;obtain⟨i0,hi,cu,cv,cw⟩:=ϑ Ds;obtain⟨i5,c4,c5,c8,c9⟩:=ϑ (show (Ι.info? 5).map (λi=>(i.zero,i.size,i.bytes))=I (I (.int .u8 0),1,1) by kernel_rfl);have cb:=(Κ w).alloc (Β A 84);have H0:=Ad w (Β A 84);have HK:=Z (λ(W:Γ) (G:Ext (w.alloc (Β A 84)) W)=>(Τ W w.heap.size 257 _ _ _ (G.heap H0)).trans ed);have ej:=Z (λ(W:Γ) (G:Ext (w.alloc (Β A 84)) W)=>(Τ W w.heap.size 258 _ _ _ (G.heap H0)).trans ee);clear hR hv h H0 ed ee fq fp eh dz eg hl;go_enter Tryz.func67,Tryz.ntmps67;go_upto_region 1 with (fail)
 obtain⟨w1,dc⟩:=Xq (w.alloc (Β A 84));rw[dc] at cb HK ej;simp only[dc];clear dc;have k1:=HK.o w1 (Κ w1);go_upto_region 2 with (at_make;refine Ϛ _ rfl _ _ 54 rfl w1.heap.size 3 i0 (.int Χ 0) 1 ϝ hi cu cv Χ Χ _ _ t.n.length rfl rfl rfl rfl (by rw[cw];omega) (by unfold ϐ;omega) (Υ _) ?_;intro w2 en eo)
 have fv:Ext w1 w2:=(Κ w1).grown eo (λk e=>by cases e);have fw:w2.ownsRow w1.heap.size 3 1 (U (I ⟨w1.heap.size,0,J⟩) t.n.length t.n.length) t.n.length ((ζ t.n.length 0).map iv):=by rw[<-B7];exact en
 clear en eo k1;generalize ep:w1.heap.size=gb at *;have fx:=Z ep;clear ep;go_wp2_with (fail);go_loopw [26] (λi W=>∃ (j:Nat) (B:List Nat),j<=l.length/\i=.int Χ j/\Ext w1 W/\W.ownsRow gb 3 1 (U (I ⟨gb,0,J⟩) t.n.length t.n.length) t.n.length (B.map iv)/\ϟ (AInv t l j B))
  (λi _=>l.length-(intOf i).toNat)
 case atStart=>exact⟨0,_,by omega,rfl,fv,fw,Z (BE t l)⟩
 obtain⟨j,B,hj,rfl,hE,hB,HI⟩:=hrel;by_cases aw:j<l.length
 ·have cl:=(cb.t hE).cell (ei.o j aw);have af:=HL.o.lt _ (Di l j 0 aw);obtain⟨s,bh⟩:=Xq (l.getD j 0);rw[bh] at cl af;have ax:=Z bh;clear bh;have k8:=ej.o wr hE;have er:=(cb.t hE).cell (fu.o s af);have et:=Z HI.o.len;have fz:w1.heap.size<=gb:=Nat.le_of_eq fx.o;have HY:=Z (λho=>BD HI.o aw (by rw[ax.o];exact af) ho);have T:=Z (λho=>BF HI.o aw ho);rw[ax.o] at HY T;cases bo:t.ok s
  ·rw[bo] at er;have an:=Z (T.o bo);clear bo;go_wp2_with (fail);go_roundw
   case rel=>exact⟨j+1,B,by omega,by go_num,hE,hB,an⟩
   simp[intOf];omega
  rw[bo] at er;have ga:=Z (HY.o bo);clear bo;obtain⟨gd,gg⟩:=Ba hB s 1;have cs:=Aq 0 hB et.o.symm s (by rw[et.o];exact af);have fs:=hB.frozenAt s;go_wp2_with (fail);go_roundw
  case rel=>exact⟨j+1,B.set s 1,by omega,by go_num,hE.grown gg (λk e=>by cases e;exact fz),gd,ga⟩
  simp[intOf];omega
 obtain rfl:j=l.length:=by omega
 have HO:=Z (JR HI.o);clear HI;go_upto_region 8 with (fail)
 obtain⟨w3,cc⟩:∃ W,W=wr:=⟨_,rfl⟩;subst cc;have ev:ϟ (∀ s,s<t.n.length->w3.cell? ⟨gb,s,J⟩=I (iv (B.getD s 0))):=Z λs hs=>Aq 0 hB HO.o.len.symm s (by rw[HO.o.len];exact hs)
 have ew:gb<w3.heap.size:=(hB.lt gb rfl).2;clear hB;go_wp2_with (fail);go_loopw [6,9] (λv c W=>∃ (B:List Nat) (n g cp:Nat),v=U (I ⟨g,0,J⟩) t.n.length cp/\c=.int Χ n/\Ext w1 W/\g<W.heap.size/\ϟ (∀ s,s<t.n.length->W.cell? ⟨g,s,J⟩=I (iv (B.getD s 0)))/\ϟ (OInv t l B n))
  (λ_ c _=>l.length-(intOf c).toNat)
 case atStart=>exact⟨B,0,gb,_,rfl,rfl,hE,ew,ev,HO⟩
 clear ev HO ew hE;clear B;obtain⟨B,n,g,cp,rfl,rfl,hE,iz,HC,HO⟩:=hrel;have ja:=HO.o.le;obtain⟨E,gi⟩:∃ W,W=wr:=⟨_,rfl⟩;subst gi;have df:=cb.t hE;have ez:=Z (λ(W:Γ) (G:Ext E W)=>HK.o W (hE.t G));have gj:=Z (λ(W:Γ) (G:Ext E W)=>HR.o.ext (df.t G));have gl:=Z (λ(W:Γ) (G:Ext E W) k (hk:k<l.length)=>(df.t G).cell (ei.o k hk));have jb:=Z (λ(W:Γ) (G:Ext E W) s (hs:s<t.n.length)=>G.cell (HC.o s hs));have gm:=@run_makeMap Ι;go_upto_region 10 with (fail)
 clear gm;have e0:=(Κ E).alloc (.map #[] 0);have e1:=Ig E 9 Co;have e2:(E.alloc (.map #[] 0)).heap.size=E.heap.size+1:=Ο _ _;obtain⟨w3,cc⟩:=Xq (E.alloc (.map #[] 0));simp only[cc] at *;clear cc;go_upto_region 11 with (at_make;refine Ϛ _ rfl _ _ 54 rfl w3.heap.size 3 i0 (.int Χ 0) 1 ϝ hi cu cv Χ Χ _ _ t.n.length rfl rfl rfl rfl (by rw[cw];omega) (by unfold ϐ;omega) (Υ _) ?_;intro w4 e3 dg)
 have ay:=e0.grown dg (λk e=>by cases e);have az:w4.ownsRow w3.heap.size 3 1 (U (I ⟨w3.heap.size,0,J⟩) t.n.length t.n.length) t.n.length ((ζ t.n.length 0).map iv):=by rw[<-B7];exact e3
 have b0:=e1.kept dg (by simp);have b4:E.heap.size+1<w4.heap.size:=by have:w3.heap.size<w4.heap.size:=(az.lt _ rfl).2;omega
 rw[e2] at az;clear e3 dg e1 e0;have bp:=ϰ w4 (E.heap.size+1+1) 3 1;generalize jc:w3.heap.size=gn at *;obtain rfl:gn=E.heap.size+1:=e2;go_wp2_with (fail);go_loopw [12,45] (λv i W=>∃ (j:Nat) (N R:List Nat) (f:List UInt8->Option Nat) (a:Option Addr) (cd:Nat),j<=l.length/\i=.int Χ j/\v=U a R.length cd/\Ext E W/\E.heap.size+1<W.heap.size/\W.ownsRow (E.heap.size+1) 3 1 (U (I ⟨E.heap.size+1,0,J⟩) t.n.length t.n.length) t.n.length (N.map iv)/\OwnI W (E.heap.size+1+1) v R/\IsMp W 9 Co E.heap.size R.length f/\ϟ (NInv l (Fo t λs=>B.getD s 0) j N R f/\N.length=t.n.length))
  (λ_ i _=>l.length-(intOf i).toNat)
 case atStart=>exact⟨0,_,[],_,J,0,by omega,rfl,rfl,ay,b4,az,bp,b0,Z ⟨Wa l _ _,by simp⟩⟩
 clear az bp b0 ay b4;obtain⟨j,N,R,f,a,cd,hj,rfl,rfl,ay,b4,az,bp,b0,T⟩:=hrel;have jd:=T.o.1.le;obtain⟨w4,gq⟩:∃ W,W=wr:=⟨_,rfl⟩;subst gq;by_cases aw:j<l.length
 ·have cl:=gl.o w4 ay j aw;have cf:=Di l j 0 aw;have af:=HL.o.lt _ cf;have hx:=HO.o.lt _ cf;have e4:=Z (λk (hk:k<t.cells)=>HO.o.lt _ (HL.o.closed _ cf k hk));obtain⟨s,bh⟩:=Xq (l.getD j 0);rw[bh] at cl af hx e4;have ax:=Z bh;clear bh cf;obtain⟨br,or',cr,e5,e6⟩:=gj.o E (Κ E) s af;have e7:=Z (λ(W:Γ) (G:Ext E W)=>G.cell e5);have gu:=Z (λ(W:Γ) (G:Ext E W) k (hk:k<t.cells)=>G.cell (e6 k hk));have gv:=Z (λk (hk:k<t.cells)=>HV.o.tgt s af k hk);clear e5 e6;obtain⟨x,cg⟩:=Xq (B.getD s 0);rw[cg] at hx;have HX:=Z (λ(W:Γ) (G:Ext E W)=>(G.cell (HC.o s af)).trans (by rw[cg]));have gw:=Z cg;clear cg;have k1:=ez.o w4 ay;have k2:=e7.o w4 ay;go_upto_region 15 with (fail)
  go_upto_region 16 with (at_make;refine wpList_make_own _ rfl _ _ 22 rfl (E.heap.size+1+1) 5 i5 (.int .u8 0) 1 ϡ c4 c5 c8 Χ Χ _ (2+2*t.cells) rfl rfl (by push_cast;rfl) (by rw[c9];omega) (by unfold ϐ;omega) (by omega) ?_;intro X aa bq)
  have ab:=ay.grown bq (λk e=>by cases e);have ad:=Bz az bq;have ag:=Bz bp bq;have ae:=b0.kept bq (by simp);have bj:E.heap.size+1<X.heap.size:=Ξ b4 bq.size;have a1:∀ W,Ext E W->Ext E W/\W.cell? ⟨g,s,J⟩=I (iv x):=λW G=>⟨G,HX.o W G⟩
  have cx:=HX.o X ab;clear k1 k2 cl bq az bp b0;go_region_held_law (λW=>Ext E W/\W.cell? ⟨g,s,J⟩=I (iv x))
   (first|exact a1 _ ah|exact a1 _ (ab.drew.alloc _)|exact a1 _ ab.drew)
   ((refine step_append_lies _ rfl _ _ 22 rfl (E.heap.size+1+1) 5 i5 (.int .u8 0) 1 1 ϡ c4 c5 c8 c9 rfl (by decide) _ _ _ rfl ((Aa aa (Κ X).drew).alloc _) _ 2 2 ((Bp x).map bv) rfl rfl (Js _ _ _ _) (by simp[Bp,ξ]) (by decide) (by unfold ϐ;omega) (by omega) (by simp;omega) _ rfl ?_
     intro g6 c6 w6 bb H dk dm;have ah:Ext E w6:=(ab.drew.alloc _).grown H (λk e=>by have:=(aa.lt k e).1;omega)))
  have a6:=((Aa ad (Κ X).drew).alloc _).kept H (Aj ad aa (by decide));have aj:=((Aa ag (Κ X).drew).alloc _).kept H (Aj ag aa (by decide));have a7:=((ae.ext (Κ X).drew).alloc _).kept H (ae.ne_row aa);have bc:E.heap.size+1<w6.heap.size:=by have h1:(X.drew.alloc (Β _ 5)).heap.size<=w6.heap.size:=H.size;rw[Ο] at h1;have h2:X.heap.size<=X.drew.heap.size:=(Κ X).drew.size;omega
  obtain⟨gf,e9⟩:=Xq ((λk=>B.getD (t.ent2 s k) 0):Nat->Nat);have fa:=Z e9;have bb:w6.ownsRow (E.heap.size+1+1) 5 1 (U (I ⟨g6,0,J⟩) (2+2*0) c6) (2+2*0) ((Bp x++Bl gf 0).map bv):=by rw[show Bp x++Bl gf 0=Bp x by simp[Bl]];exact bb
  have k1:=ez.o w6 ah;have k2:=e7.o w6 ah;clear e9 ad ag ae aa H dk dm cx a1 ab bj;go_wp2_with (fail);clear k1 k2;go_loopw [15,78] (λv i W=>∃ (k gk ck:Nat),k<=t.cells/\i=.int Χ k/\v=U (I ⟨gk,0,J⟩) (2+2*k) ck/\Ext E W/\E.heap.size+1<W.heap.size/\W.ownsRow (E.heap.size+1) 3 1 (U (I ⟨E.heap.size+1,0,J⟩) t.n.length t.n.length) t.n.length (N.map iv)/\OwnI W (E.heap.size+1+1) (U a R.length cd) R/\IsMp W 9 Co E.heap.size R.length f/\W.ownsRow (E.heap.size+1+1) 5 1 v (2+2*k) ((Bp x++Bl gf k).map bv))
   (λ_ i _=>t.cells-(intOf i).toNat)
  case atStart=>exact⟨0,g6,c6,by omega,rfl,rfl,ah,bc,a6,aj,a7,bb⟩
  clear ah bc a6 aj a7 bb;obtain⟨k,gk,ck,hk,rfl,rfl,ab,bj,ad,ag,ae,aa⟩:=hrel;obtain⟨X,gy⟩:∃ W,W=wr:=⟨_,rfl⟩;subst gy;by_cases dq:k<t.cells
  ·have fb:=gv.o k dq;have hz:=e4.o k dq;have cy:=gu.o X ab k dq;obtain⟨y,dr⟩:=Xq (t.ent2 s k);have ff:ϟ (gf k=B.getD y 0):=Z (by rw[<-fa.o,<-dr]);rw[dr] at cy fb hz;clear dr;obtain⟨z,dt⟩:=Xq (B.getD y 0);rw[dt] at hz ff;have HZ:=Z (λ(W:Γ) (G:Ext E W)=>(G.cell (HC.o y fb)).trans (by rw[dt]));clear dt;have a1:∀ W,Ext E W->Ext E W/\W.cell? ⟨g,y,J⟩=I (iv z):=λW G=>⟨G,HZ.o W G⟩
   have cz:=HZ.o X ab;go_upto_region 20 with (fail)
   clear cy;go_region_held_law (λW=>Ext E W/\W.cell? ⟨g,y,J⟩=I (iv z))
    (first|exact a1 _ ah|exact a1 _ (ab.drew.alloc _)|exact a1 _ ab.drew)
    ((refine step_append_lies _ rfl _ _ 22 rfl (E.heap.size+1+1) 5 i5 (.int .u8 0) 1 1 ϡ c4 c5 c8 c9 rfl (by decide) _ _ _ rfl ((Aa aa (Κ X).drew).alloc _) _ 2 2 ((Bp z).map bv) rfl rfl (Js _ _ _ _) (by simp[Bp,ξ]) (by decide) (by unfold ϐ;omega) (by omega) (by simp;omega) _ rfl ?_
      intro g6 c6 w6 bb H dk dm;have ah:Ext E w6:=(ab.drew.alloc _).grown H (λk e=>by have:=(aa.lt k e).1;omega)))
   have a6:=((Aa ad (Κ X).drew).alloc _).kept H (Aj ad aa (by decide));have aj:=((Aa ag (Κ X).drew).alloc _).kept H (Aj ag aa (by decide));have a7:=((ae.ext (Κ X).drew).alloc _).kept H (ae.ne_row aa);have bc:E.heap.size+1<w6.heap.size:=by have h1:(X.drew.alloc (Β _ 5)).heap.size<=w6.heap.size:=H.size;rw[Ο] at h1;have h2:X.heap.size<=X.drew.heap.size:=(Κ X).drew.size;omega
   have bb:w6.ownsRow (E.heap.size+1+1) 5 1 (U (I ⟨g6,0,J⟩) (2+2*(k+1)) c6) (2+2*(k+1)) ((Bp x++Bl gf (k+1)).map bv):=by rw[show Bp x++Bl gf (k+1)=(Bp x++Bl gf k)++Bp z by rw[Bl,ff.o,List.append_assoc],ϥ];exact bb
   clear ad ag ae aa H dk dm cz a1 ab bj;go_wp2;go_roundw
   case rel=>exact⟨k+1,g6,c6,by omega,by go_num,rfl,ah,bc,a6,aj,a7,bb⟩
   simp[intOf];omega
  obtain rfl:k=t.cells:=by omega
  have bt:(Bp x++Bl gf t.cells).length=2+2*t.cells:=by rw[Ν,Jq,P7]
  have du:Fo t (λs=>B.getD s 0) s=Bp x++Bl gf t.cells:=by show Bp (B.getD s 0)++Bl (λk=>B.getD (t.ent2 s k) 0) t.cells=_;rw[gw.o,fa.o]
  obtain⟨ky,fh⟩:=Xq (Bp x++Bl gf t.cells);rw[fh] at bt du aa;have dv:=Z du;clear fh du;have ha:(convert 22 9 (U (I ⟨gk,0,J⟩) (2+2*t.cells) ck)).run Ι X=.ok (Co ky) X:=Kh _ _ _ (By.of_owns (by rw[bt];exact aa) (by rw[bt];omega));have dw:=Oo ky (by rw[bt];unfold ϐ;omega);have jf:=Z bt;clear bt;cases hf:f ky with
  | some i=>
   have an:=Wb T.o.1 HL.o.nodup aw (by rw[ax.o,T.o.2];exact af) i (by rw[ax.o,dv.o];exact hf);rw[ax.o] at an;have an:=Z (í an (show (N.set s i).length=t.n.length by rw[ο];exact T.o.2));have cn:=Aq 0 ad T.o.2.symm s (by rw[T.o.2];exact af);have fn:=ad.frozenAt s;obtain⟨a6,H⟩:=Ba ad s i;have ah:=ab.grown H (λk e=>by cases e;omega);have aj:=ag.kept H (Az ag (by omega));have a7:=ae.kept H (by simp);have bc:=Ξ bj H.size;clear H ag ad ab bj;go_wp2_with (at_lookup;refine Dx rfl _ _ 168 rfl Gd Tryz.underlying168 rfl ae ky rfl dw ?_;rw[hf];dsimp only [æ,Option.getD]);go_roundw
   case rel=>exact⟨j+1,N.set s i,R,f,a,cd,by omega,by go_num,rfl,ah,bc,a6,aj,a7,an⟩
   simp[intOf];omega
  | none=>
   have an:=Wc T.o.1 HL.o.nodup aw (by rw[ax.o,T.o.2];exact af) (by rw[ax.o,dv.o];exact hf);rw[ax.o,dv.o] at an;have an:=Z (í an (show (N.set s R.length).length=t.n.length by rw[ο];exact T.o.2));have hh:=aa;go_upto_region 25 with (at_lookup;refine Dx rfl _ _ 168 rfl Gd Tryz.underlying168 rfl ae ky rfl dw ?_;rw[hf];dsimp only [æ,Option.getD])
   go_upto_region 26 with (at_mapUpdate;refine Gr rfl _ _ _ 168 rfl Gd Tryz.underlying168 rfl ae (by unfold ϐ;omega) Oq ky rfl dw R.length rfl (by omega) ?_;intro w6 a7 H)
   clear ha;have a6:=ad.kept H (ae.far ad);have aj:=ag.kept H (ae.far ag);have ah:=ab.grown H (λk e=>by cases e;omega);have bc:=Ξ bj H.size;clear H ag ad ab bj ae aa hh;go_upto_region 27 with (at_builtin;refine ϕ _ rfl _ _ 54 rfl (E.heap.size+1+1) 3 i0 (.int Χ 0) 1 8 ϝ hi cu cv cw rfl (by decide) _ _ _ rfl (aj.alloc _) _ 1 1 [iv s] rfl rfl (Õ _ _ _) (by simp[ξ]) (by decide) (by unfold ϐ;omega) (by omega) (by simp;omega) _ rfl ?_;intro g7 c7 w7 b7 b8 _ _)
   have cm:=(a6.alloc (Β #[iv s] 3)).kept b8 (.inr (λe=>by have:=(aj.lt (E.heap.size+1) e.symm).1;omega));have fl:=(a7.alloc (Β #[iv s] 3)).kept b8 (λe=>by have:=(aj.lt E.heap.size e.symm).1;omega);have fm:=(ah.alloc (Β #[iv s] 3)).grown b8 (λk e=>by have:=(aj.lt k e).1;omega);have fo:E.heap.size+1<w7.heap.size:=by have:=b8.size;rw[Ο] at this;omega
   have b7:OwnI w7 (E.heap.size+1+1) (U (I ⟨g7,0,J⟩) (R.length+1) c7) (R++[s]):=by show ϣ _ _ _ _ _ _ _;rw[Ν,ϥ];exact b7
   clear b8 aj a6 ah bc a7;have cn:=Aq 0 cm T.o.2.symm s (by rw[T.o.2];exact af);have fn:=cm.frozenAt s;obtain⟨hq,b9⟩:=Ba cm s R.length;have hr:=fm.grown b9 (λk e=>by cases e;omega);have ht:=b7.kept b9 (Az b7 (by omega));have hy:=fl.kept b9 (by simp);have h3:=Ξ fo b9.size;clear b9 b7 cm fm fo fl;go_wp2;go_roundw
   case rel=>exact⟨j+1,N.set s R.length,R++[s],_,_,c7,by omega,by go_num,by rw[Ν];rfl,hr,h3,hq,ht,by rw[Ν];exact hy,an⟩
   simp[intOf];omega
 obtain rfl:j=l.length:=by omega
 by_cases he:R.length=n
 ·have h4:((R.length:Int)==(n:Int))=Α:=by simp[he]
  have HB:=Z (V0 HV.o HL.o HO.o T.o.1 he);have h6:R.length<=4611686018427387904:=by omega
  have h7:Ints w4 (U (I ⟨E.heap.size+1,0,J⟩) t.n.length t.n.length) N:=OwnI.ints (base:=E.heap.size+1) (by show ϣ _ _ _ _ _ _ _;rw[T.o.2];exact az) (by rw[T.o.2];omega)
  have h8:=bp.ints h6;have h9:=Z T.o.2;clear he HO T;go_wp2;go_ret2;exact⟨_,_,N,R,rfl,h9.o,HB.o,h7,h8,df.t ay⟩
 have h4:((R.length:Int)==(n:Int))=Ε:=by simp;omega
 obtain⟨dx,jg⟩:=Vz HV.o HL.o HO.o (by omega) T.o.2 T.o.1 he;have dx:=Z dx;have ia:ϟ (∀ s,s<t.n.length->w4.cell? ⟨E.heap.size+1,s,J⟩=I (iv (N.getD s 0))):=Z λs hs=>Aq 0 az T.o.2.symm s (by rw[T.o.2];exact hs)
 clear he;go_wp2;go_roundw
 case rel=>exact⟨N,R.length,E.heap.size+1,_,rfl,rfl,hE.t ay,b4,ia,dx⟩
 simp[intOf];omega
structure FInv {κ:Type} (key:Nat->κ) (x:Nat) (c:Nat->Nat) (bs:List Nat) (f:κ->Option Nat):Prop where
 le:bs.length<=x
 lt:∀ y,y<x->c y<bs.length
 byte:∀ k,k<bs.length->bs.getD k 0<x/\c (bs.getD k 0)=k
 same:∀ y z,y<x->z<x->(c y=c z↔key y=key z)
 has:∀ y,y<x->f (key y)=I (c y)
 from_:∀ p i,f p=I i->∃ y,y<x/\p=key y/\i=c y
 first:∀ y,y<x->bs.getD (c y) 0<=y
 inc:∀ i j,i<j->j<bs.length->bs.getD i 0<bs.getD j 0
section
variable {κ:Type} {key:Nat->κ} {x:Nat} {c:Nat->Nat} {bs:List Nat} {f:κ->Option Nat}
theorem QU (key:Nat->κ) (c:Nat->Nat):FInv key 0 c [] (λ_=>J) where
 le:=by simp
 lt:=λy E=>by omega
 byte:=λk G=>by simp at G
 same:=λy z E=>by omega
 has:=λy E=>by omega
 from_:=λp i h=>by simp at h
 first:=λy E=>by omega
 inc:=λi j h1 H=>by simp at H
theorem Yq (h:FInv key x c bs f) (i:Nat) (hi:f (key x)=I i):FInv key (x+1) (λy=>if y=x then i else c y) bs f:=by
 obtain⟨z,E,G,rfl⟩:=h.from_ _ _ hi;refine⟨by have:=h.le;omega,λy H=>?_,λk hk=>?_,λy X H ad=>?_,λy H=>?_,λp i G=>?_,λy H=>?_,h.inc⟩
 ·split
  ·exact h.lt z E
  exact h.lt y (by omega)
 ·obtain⟨h1,h2⟩:=h.byte k hk;rw[if_neg (by omega)];exact⟨by omega,h2⟩
 ·by_cases e:y=x<;>by_cases T:X=x
  ·subst e;subst T;simp
  ·subst e;rw[if_pos rfl,if_neg T,h.same z X E (by omega),G]
  ·subst T;rw[if_neg e,if_pos rfl,h.same y z (by omega) E,G]
  rw[if_neg e,if_neg T];exact h.same y X (by omega) (by omega)
 ·by_cases e:y=x
  ·subst e;rw[if_pos rfl];exact hi
  rw[if_neg e];exact h.has y (by omega)
 ·obtain⟨y,H,h1,h2⟩:=h.from_ p i G;exact⟨y,by omega,h1,by rw[if_neg (by omega)];exact h2⟩
 by_cases e:y=x
 ·rw[if_pos e];have:=h.first z E;omega
 rw[if_neg e];exact h.first y (by omega)
theorem QV [DecidableEq κ] (h:FInv key x c bs f) (hi:f (key x)=J) :
  FInv key (x+1) (λy=>if y=x then bs.length else c y) (bs++[x]) (λp=>if p=key x then I bs.length else f p):=by
 have aa:∀ y,y<x->key y≠key x:=λy G he=>by have:=h.has y G;rw[he,hi] at this;cases this
 have hl:(bs++[x]).length=bs.length+1:=by simp
 have ad:(bs++[x]).getD bs.length 0=x:=by simp[Ζ]
 refine⟨by have:=h.le;omega,λy G=>?_,λk hk=>?_,λy H G ai=>?_,λy G=>?_,λp i T=>?_,λy G=>?_,λi j ae hj=>?_⟩
 ·rw[hl];split
  ·omega
  have:=h.lt y (by omega);omega
 ·rw[hl] at hk;by_cases e:k=bs.length
  ·subst e;rw[ad,if_pos rfl];exact⟨by omega,rfl⟩
  have af:k<bs.length:=by omega
  obtain⟨h1,E⟩:=h.byte k af;rw[B9 _ _ _ _ af,if_neg (by omega)];exact⟨by omega,E⟩
 ·by_cases e:y=x<;>by_cases X:H=x
  ·subst e;subst X;simp
  ·subst e;have h1:=h.lt H (by omega);rw[if_pos rfl,if_neg X];exact⟨λE=>by omega,λE=>absurd E.symm (aa H (by omega))⟩
  ·subst X;have h1:=h.lt y (by omega);rw[if_neg e,if_pos rfl];exact⟨λE=>by omega,λE=>absurd E (aa y (by omega))⟩
  rw[if_neg e,if_neg X];exact h.same y H (by omega) (by omega)
 ·by_cases e:y=x
  ·subst e;simp
  have h1:=aa y (by omega);rw[if_neg e,if_neg h1];exact h.has y (by omega)
 ·by_cases e:p=key x
  ·simp only[e,if_true] at T;cases T
   exact⟨x,by omega,e,by rw[if_pos rfl]⟩
  simp only[e,if_false] at T;obtain⟨y,G,h1,E⟩:=h.from_ p i T;exact⟨y,by omega,h1,by rw[if_neg (by omega)];exact E⟩
 ·by_cases e:y=x
  ·rw[if_pos e,ad];omega
  rw[if_neg e,B9 _ _ _ _ (h.lt y (by omega))];exact h.first y (by omega)
 rw[hl] at hj;by_cases e:j=bs.length
 ·subst e;rw[ad,B9 _ _ _ _ ae];exact (h.byte i ae).1
 rw[B9 _ _ _ _ (by omega),B9 _ _ _ _ (by omega)];exact h.inc i j ae (by omega)
end
structure MInv {κ:Type} (cell:Nat->Nat) (n:Nat) (key:Nat->κ) (b b':Nat) (c:Nat->Nat) (bs:List Nat) (f:κ->Option Nat) (O:List (Option Nat)) (C:List Cls):Prop where
 fi:FInv (λy=>key (cell y)) b c bs f
 lenO:O.length=n
 lenC:C.length=bs.length
 at_:∀ y,y<b->O.getD (cell y) J=I (c y)
 from_:∀ k i,O.getD k J=I i->∃ y,y<b/\cell y=k/\i=c y
 cls:∀ i,i<bs.length->∀ y,y<256->((C.getD i 0#256).getLsbD y=Α↔y<b'/\c y=i)
section
variable {κ:Type} {cell:Nat->Nat} {n:Nat} {key:Nat->κ} {b:Nat} {c:Nat->Nat} {bs:List Nat} {f:κ->Option Nat} {O:List (Option Nat)} {C:List Cls}
theorem KW (cell:Nat->Nat) (n:Nat) (key:Nat->κ) (c:Nat->Nat):MInv cell n key 0 0 c [] (λ_=>J) (ζ n J) [] where
 fi:=QU _ c
 lenO:=by simp
 lenC:=rfl
 at_:=λy E=>by omega
 from_:=λk i h=>by rw[Ζ,Ì] at h;split at h<;>simp at h
 cls:=λi hi=>by simp at hi
theorem KX (h:MInv cell n key b b c bs f O C) (i:Nat) (hi:O.getD (cell b) J=I i):MInv cell n key (b+1) b (λy=>if y=b then i else c y) bs f O C:=by
 obtain⟨z,H,T,rfl⟩:=h.from_ _ _ hi;refine⟨Yq h.fi _ ?_,h.lenO,h.lenC,λy G=>?_,λk i X=>?_,λi hi y G=>?_⟩
 ·show f (key (cell b))=_;rw[<-T];exact h.fi.has z H
 ·by_cases e:y=b
  ·subst e;rw[if_pos rfl];exact hi
  rw[if_neg e];exact h.at_ y (by omega)
 ·obtain⟨y,G,h1,E⟩:=h.from_ k i X;exact⟨y,by omega,h1,by rw[if_neg (by omega)];exact E⟩
 rw[h.cls i hi y G];constructor
 ·rintro⟨h1,E⟩;exact⟨h1,by rw[if_neg (by omega)];exact E⟩
 rintro⟨h1,E⟩;rw[if_neg (by omega)] at E;exact⟨h1,E⟩
theorem KZ (h:MInv cell n key b b c bs f O C) (hc:cell b<n) (hn:O.getD (cell b) J=J) (i:Nat) (hi:f (key (cell b))=I i) :
  MInv cell n key (b+1) b (λy=>if y=b then i else c y) bs f (O.set (cell b) (I i)) C:=by
 have ne:∀ y,y<b->cell y≠cell b:=λy G e=>by have:=h.at_ y G;rw[e,hn] at this;cases this
 have T:cell b<O.length:=by rw[h.lenO];exact hc
 refine⟨Yq h.fi i hi,by rw[ο];exact h.lenO,h.lenC,λy G=>?_,λk X H=>?_,λX ab y G=>?_⟩
 ·by_cases e:y=b
  ·subst e;rw[if_pos rfl,Cd _ _ _ _ _ T,if_pos rfl]
  rw[if_neg e,Cd _ _ _ _ _ T,if_neg (ne y (by omega))];exact h.at_ y (by omega)
 ·rw[Cd _ _ _ _ _ T] at H;by_cases e:k=cell b
  ·rw[if_pos e] at H;cases H
   exact⟨b,by omega,e.symm,by rw[if_pos rfl]⟩
  rw[if_neg e] at H;obtain⟨y,G,h1,E⟩:=h.from_ k X H;exact⟨y,by omega,h1,by rw[if_neg (by omega)];exact E⟩
 rw[h.cls X ab y G];constructor
 ·rintro⟨h1,E⟩;exact⟨h1,by rw[if_neg (by omega)];exact E⟩
 rintro⟨h1,E⟩;rw[if_neg (by omega)] at E;exact⟨h1,E⟩
theorem LA [DecidableEq κ] (h:MInv cell n key b b c bs f O C) (hc:cell b<n) (hn:O.getD (cell b) J=J) (hi:f (key (cell b))=J) :
  MInv cell n key (b+1) b (λy=>if y=b then bs.length else c y) (bs++[b]) (λp=>if p=key (cell b) then I bs.length else f p) (O.set (cell b) (I bs.length)) (C++[0#256]):=by
 have ne:∀ y,y<b->cell y≠cell b:=λy G e=>by have:=h.at_ y G;rw[e,hn] at this;cases this
 have X:cell b<O.length:=by rw[h.lenO];exact hc
 refine⟨QV h.fi hi,by rw[ο];exact h.lenO,by rw[Ν,Ν,h.lenC];rfl,λy G=>?_,λk H T=>?_,λH ab y G=>?_⟩
 ·by_cases e:y=b
  ·subst e;rw[if_pos rfl,Cd _ _ _ _ _ X,if_pos rfl]
  rw[if_neg e,Cd _ _ _ _ _ X,if_neg (ne y (by omega))];exact h.at_ y (by omega)
 ·rw[Cd _ _ _ _ _ X] at T;by_cases e:k=cell b
  ·rw[if_pos e] at T;cases T
   exact⟨b,by omega,e.symm,by rw[if_pos rfl]⟩
  rw[if_neg e] at T;obtain⟨y,G,h1,E⟩:=h.from_ k H T;exact⟨y,by omega,h1,by rw[if_neg (by omega)];exact E⟩
 rw[Ν,List.length_singleton] at ab;by_cases e:H=bs.length
 ·have e1:(C++[0#256]).getD H 0#256=0#256:=by rw[e,<-h.lenC];exact Dt _ _ _
  rw[e1];constructor
  ·intro h1;simp at h1
  rintro⟨h1,E⟩;rw[if_neg (by omega)] at E;have:=h.fi.lt y h1;omega
 rw[B9 _ _ _ _ (by rw[h.lenC];omega),h.cls H (by omega) y G];constructor
 ·rintro⟨h1,E⟩;exact⟨h1,by rw[if_neg (by omega)];exact E⟩
 rintro⟨h1,E⟩;rw[if_neg (by omega)] at E;exact⟨h1,E⟩
theorem KY (h:MInv cell n key (b+1) b c bs f O C) (u:Cls) (hu:∀ y,y<256->(u.getLsbD y=Α↔y=b)) :
  MInv cell n key (b+1) (b+1) c bs f O (C.set (c b) (C.getD (c b) 0#256 ||| u)):=by
 refine⟨h.fi,h.lenO,by rw[ο];exact h.lenC,h.at_,h.from_,λi hi y G=>?_⟩;have H:=h.fi.lt b (by omega);rw[Cd _ _ _ _ _ (by rw[h.lenC];exact H)];by_cases e:i=c b
 ·subst e;rw[if_pos rfl,BitVec.getLsbD_or,Bool.or_eq_true,h.cls _ hi y G,hu y G];constructor
  ·rintro (⟨h1,E⟩|rfl)
   ·exact⟨by omega,E⟩
   exact⟨by omega,rfl⟩
  rintro⟨h1,E⟩;by_cases e:y=b
  ·exact .inr e
  exact .inl ⟨by omega,E⟩
 rw[if_neg e,h.cls i hi y G];constructor
 ·rintro⟨h1,E⟩;exact⟨by omega,E⟩
 rintro⟨h1,E⟩;refine⟨?_,E⟩;by_cases T:y=b
 ·subst T;exact absurd E.symm e
 omega
end
def Jp (t:Tbl) (B:Nat->Nat) (R:List Nat) (c:Nat):List UInt8:=Bl (λi=>B (t.ent2 (R.getD i 0) c)) R.length
theorem LH {t:Tbl} (hv:TVal t) {B:Nat->Nat} {R:List Nat} (hB:∀ i,i<R.length->∀ k,k<t.cells->B (t.ent2 (R.getD i 0) k)<65536) {c:Nat->Nat} {bs:List Nat} {f:List UInt8->Option Nat} {O:List (Option Nat)} {C:List Cls}
  (h:MInv t.cell t.cells (Jp t B R) 256 256 c bs f O C):Merged t B R (bs.map t.cell) C:=by
 have bit:∀ y,y<256->(C.getD (c y) 0#256).getLsbD y=Α:=λy E=>(h.cls _ (h.fi.lt y E) y E).2 ⟨E,rfl⟩
 have ah:∀ i,i<bs.length->key (C.getD i 0#256)=bs.getD i 0:=λi hi=>by
  obtain⟨h1,G⟩:=h.fi.byte i hi;refine OB _ _ h1 ?_ λj T=>?_
  ·have:=bit _ h1;rwa [G] at this
  rw[<-Bool.not_eq_true];intro hb;obtain⟨_,X⟩:=(h.cls i hi j (by omega)).1 hb;have:=h.fi.first j (by omega);rw[X] at this;omega
 have parts:Parts C:=by
  refine⟨λx hx=>?_,?_,λi hi=>⟨_,Di _ _ _ (by rw[h.lenC];exact h.fi.lt i hi),bit i hi⟩⟩
  ·obtain⟨i,hi,rfl⟩:=Ky (d:=0#256) hx;rw[h.lenC] at hi;obtain⟨h1,G⟩:=h.fi.byte i hi;have:=bit _ h1;rw[G] at this;exact Ku this
  rw[Ϧ];intro i j hi T ai y ⟨h1,G⟩;by_cases E:y<256
  ·have e1:=(h.cls i (by rw[<-h.lenC];exact hi) y E).1 (by rw[Ζ,Θ hi];exact h1);have e2:=(h.cls j (by rw[<-h.lenC];exact T) y E).1 (by rw[Ζ,Θ T];exact G);omega
  rw[BitVec.getLsbD_of_ge _ _ (by omega)] at h1;cases h1
 have place:∀ y,y<256->Am C y=c y:=λy E=>Gm parts E (by rw[h.lenC];exact h.fi.lt y E) (bit y E)
 have ad:∀ k,k<bs.length->(bs.map t.cell).getD k 0=t.cell (bs.getD k 0):=λk H=>by simp[Ζ,H]
 have aj:∀ y z,y<256->z<256->(Jp t B R (t.cell y)=Jp t B R (t.cell z)↔∀ i,i<R.length->B (t.ent2 (R.getD i 0) (t.cell y))=B (t.ent2 (R.getD i 0) (t.cell z))):=λy z E hz=>Ns _ _ _ (λi hi=>hB i hi _ (hv.cell_lt y E)) (λi hi=>hB i hi _ (hv.cell_lt z hz))
 refine⟨parts,?_,by rw[ι,h.lenC],λk H=>?_,λb hb i hi=>?_,λk k' H af he=>?_⟩
 ·rw[Ϧ];intro i j hi T ai;have e1:=ah i (by rw[<-h.lenC];exact hi);have e2:=ah j (by rw[<-h.lenC];exact T);rw[Ζ,Θ hi] at e1;rw[Ζ,Θ T] at e2;simp only[Ç] at e1 e2;have:=h.fi.inc i j ai (by rw[<-h.lenC];exact T);rw[e1,e2];omega
 ·rw[ι] at H;rw[ad k H];exact hv.cell_lt _ (h.fi.byte k H).1
 ·have ak:=h.fi.lt b hb;rw[place b hb,ad _ ak];obtain⟨h1,G⟩:=h.fi.byte _ ak;exact (aj _ _ h1 hb).1 ((h.fi.same _ _ h1 hb).1 G) i hi
 rw[ι] at H af;obtain⟨h1,G⟩:=h.fi.byte _ H;obtain⟨X,h4⟩:=h.fi.byte _ af;rw[<-G,<-h4];refine (h.fi.same _ _ h1 X).2 ((aj _ _ h1 X).2 λi hi=>?_);have:=he i hi
 rwa [ad k H,ad k' af] at this
end Go.Proofs.YtilncahcpjlfnaaGreatDoor
