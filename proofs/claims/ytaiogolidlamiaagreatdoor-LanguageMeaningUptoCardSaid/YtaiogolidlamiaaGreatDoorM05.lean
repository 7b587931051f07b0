import Derived.Maps.AppendAt
import Derived.Test.YtaiogolidlamiaaGreatDoorM04
import Derived.Shelf.SlLaysF0
import Derived.Ground.SlsfProg
import Derived.Shelf.SlGeneric
import Derived.Test.YtaiogolidlamiaaGreatDoorProg
import Derived.Sort.Grow
import Derived.Deep.Draws
import Derived.Test.YtaiogolidlamiaaGreatDoorM02
import Derived.Test.YtaiogolidlamiaaGreatDoorM01
import Derived.Shelf.SlSortCmp.WholeK
import Derived.Laws.IdiomStrings
set_option linter.unusedVariables false
set_option linter.unusedSimpArgs false
namespace Go.Proofs.YtaiogolidlamiaaGreatDoor
set_option maxRecDepth 100000
open Go.RowKit Go.Shelf
attribute [local go_sem] Oper.semAt_some
set_option maxRecDepth 100000 in
theorem Ajc (F:Fence) (n:Nat) (h55:F.fn 151) (hro:F.round=none) (hn:2≤n) (g:Nat) (lb:Array Value) (hFg:F.fn g) (eg:∀ args w,(callFunc g args).run Tryz.prog w=.ok (.enter g args) w)
  (Nx:List UInt8→UInt8→Prop) (S Sp:List UInt8→Prop) (hN:∀ pre x,Nx pre x→pre.length<256) (w:World) (hseq:Mh F (n-1) Tryz.prog g lb (fun x=>#[bv x]) Nx S Sp w) :
  CallsIn F n Tryz.prog 151 #[.slice none 0 0,.func (.func g) #[] lb] w fun e w'=>∃ v xs,e=.returned v∧S xs∧w'.ownsRow w.heap.size 5 1 v xs.length (xs.map bv)∧Ext w w':=by
 have h1:1≤n:=by omega
 obtain ⟨i0,hi,hz0,hz1,hz2⟩:=info_parts O9;have hB0:Boxed (w.alloc (.cells #[.slice none 0 0] 22)) w.heap.size 22 (.slice none 0 0):=Boxed.new w 22 _;have hE0:=(Ext.refl w).alloc (.cells #[.slice none 0 0] 22);have hs0:w.heap.size<(w.alloc (.cells #[.slice none 0 0] 22)).heap.size:=by simp
 refine callsIn_of_wp_marks Tryz.func151 rfl h55 ?_ hro;simp only [Tryz.ntmps151,List.size_toArray,List.length_cons,List.length_nil,Nat.reduceAdd,Nat.reduceSub,Array.replicate_succ,Array.replicate_zero,List.push_toArray,List.append_toArray,List.nil_append,List.cons_append]
 gi_wp2
 generalize w.alloc (.cells #[.slice none 0 0] 22)=w1 at *;refine Qs hro h1 (gf:=g) (lb:=lb) rfl hFg eg hseq (fun _=>rfl)
  (fun pre W=>(∃ v,Boxed W w.heap.size 22 v∧W.ownsRow w.heap.size 5 1 v pre.length (pre.map bv))∧Ext w W)
  (fun _ _ _=>False)
  (fun s W l o o' h hl ho hc=>by
   obtain ⟨⟨v,hv,hr⟩,hE⟩:=h;exact ⟨⟨v,I0 hv ho hc,ownsRow_putObj hr o' ho hc⟩,hE.putObj (by omega) o'⟩)
  (fun s W o h=>by
   obtain ⟨⟨v,hv,hr⟩,hE⟩:=h;exact ⟨⟨v,hv.alloc o,hr.alloc o⟩,hE.alloc o⟩)
  (fun _ s W l o o' h _ _ _=>h)
  (fun pre W h=>h.2.below) ⟨⟨_,hB0,World.ownsRow_nil _ _ _ _⟩,hE0⟩
  (fun x=>{ tmps:=#[.slice none 0 0,.func (.func g) #[] lb,.pointer (some ⟨w.heap.size,0,none⟩),undef,.slice none 0 0,bv x,.func (.func g) #[] lb,bv x,undef,undef,undef,undef,undef],defers:=[] }) ?assign ?body ?done ?stop
 case assign=>
  intro l x W K hK
  gi_wp2
  exact hK
 case body=>
  rintro l pre x W ⟨⟨v,hv,hrow⟩,hE⟩ hnx;have hlen:=hN pre x hnx;have hc:=hv.cell;have hB:=hE.below;have hx:=x.toNat_lt
  gi_wp2_with (gi_at_builtin;refine wpListIn_append_own _ rfl _ _ 22 rfl w.heap.size 5 i0 (.int .u8 0) 1 1 Tryz.underlying22 hi hz0 hz1 hz2 rfl (by decide) _ _ _ rfl (hrow.alloc _) ⟨W.heap.size,0,none⟩ 1 1 [bv x] rfl rfl (cell_one_new _ _ _) (by simp [Value.oneCell']) (by unfold maxLen;omega) (by omega) (by have:=hB.size;simp;omega) ?_;intro v' w1 hown' hgrow _;obtain ⟨g',cap',rfl⟩:=ownsRow_succ hown';obtain ⟨hv1,hv2,hr2,hk2,hb2⟩:=hv.appended (by decide) hrow hB.size (Nat.le_refl _) hown' hgrow;have hc1:=hv1.cell;have hf1:=hv1.frozen)
  exact ⟨hk2,⟨_,hv2,by simpa using hr2⟩,⟨hB.trans hb2⟩⟩
 case done=>
  rintro D ys W hD hS ⟨⟨v,hv,hrow⟩,hE⟩ hK;have hc:=hv.cell
  gi_wp2
  refine ⟨by simp,.inl ⟨_,_,rfl,run_takeDeferred hK,?_⟩⟩;exact ⟨_,results_tmp rfl _ _ _,v,ys,rfl,hS,ownsRow_putObj hrow _ hK rfl,hE.putObj (by omega) _⟩
 case stop=>
  rintro D k pre W _ _ h _;exact h.elim
theorem Ahm (F:Fence) (n:Nat) (h44:F.fn 137) (h55:F.fn 151) (hro:F.round=none) (hn:3≤n) (g:Nat) (lb:Array Value) (hFg:F.fn g) (eg:∀ args w,(callFunc g args).run Tryz.prog w=.ok (.enter g args) w)
  (Nx:List UInt8→UInt8→Prop) (S Sp:List UInt8→Prop) (hN:∀ pre x,Nx pre x→pre.length<256) (w:World) (hseq:Mh F (n-1-1) Tryz.prog g lb (fun x=>#[bv x]) Nx S Sp w) :
  CallsIn F n Tryz.prog 137 #[.func (.func g) #[] lb] w fun e w'=>∃ v xs,e=.returned v∧S xs∧w'.ownsRow w.heap.size 5 1 v xs.length (xs.map bv)∧Ext w w':=by
 have h1:1≤n:=by omega
 refine callsIn_of_wp Tryz.func137 rfl h44 ?_ hro;simp only [Tryz.ntmps137,List.size_toArray,List.length_cons,List.length_nil,Nat.reduceAdd,Nat.reduceSub,Array.replicate_succ,Array.replicate_zero,List.push_toArray,List.append_toArray,List.nil_append,List.cons_append]
 gi_wp2_with (gi_at_call 151;refine (Ajc F (n-1) h55 hro (by omega) g lb hFg eg Nx S Sp hN _ hseq).mono ?_;rintro e w' ⟨v,xs,rfl,hS,hrow,hb⟩)
 go_ret;exact ⟨v,xs,rfl,hS,hrow,hb⟩
theorem Aie (F:Fence) (n:Nat) (h19:F.fn 109) (h44:F.fn 137) (h45:F.fn 138) (h55:F.fn 151) (h56:F.fn 152) (h57:F.fn 153) (hro:F.round=none) (hn:5≤n) (c:Cls) (w:World) (hT:Tab w) (hsz:0<w.heap.size) :
  CallsIn F n Tryz.prog 109 #[.agg (Aa c)] w fun e w'=>∃ v,e=.returned v∧By w' v (Al c 256)∧Ext w w':=by
 have h1:1≤n:=by omega
 have hA:=heap_alloc_new w (.cells (Aa c) 62);have hE:=(Ext.refl w).alloc (.cells (Aa c) 62);have hE2:=hE.alloc (.cells (Aa c) 62);have hC2:=heap_alloc_new (w.alloc (.cells (Aa c) 62)) (.cells (Aa c) 62);have c0:=(cell_of_row _ _ 0 _ _ _ hA).trans rfl;have c1:=(cell_of_row _ _ 1 _ _ _ hA).trans rfl;have c2:=(cell_of_row _ _ 2 _ _ _ hA).trans rfl;have c3:=(cell_of_row _ _ 3 _ _ _ hA).trans rfl;rw [World.size_alloc] at hC2;have hT2:=hT.below hE2.below hsz;have hseq:=Tt F (n-1-1-1) h56 h57 hro (by omega) (w.heap.size+1) c _ hT2 hC2;clear hA hC2 hT2;have HSeq:=Lib.hid hseq;clear hseq;refine callsIn_of_wp Tryz.func109 rfl h19 ?_ hro;simp only [Tryz.ntmps109,List.size_toArray,List.length_cons,List.length_nil,Nat.reduceAdd,Nat.reduceSub,Array.replicate_succ,Array.replicate_zero,List.push_toArray,List.append_toArray,List.nil_append,List.cons_append]
 gi_wp2_with (first
  | (gi_at_call 138;refine (Tu F (n-1) h45 hro c _).mono ?_;rintro e w' ⟨rfl,rfl⟩)
  | (gi_at_call 137;refine (Ahm F (n-1) h44 h55 hro (by omega) 152 _ h56 (enters_of Tryz.func152 (by kernel_rfl) rfl) _ _ _ (fun pre x h=>by have h2:=h.length_le;have h3:=P5 c 256;simp at h2;omega) _ HSeq.out).mono ?_;rintro e w' ⟨v,xs,rfl,rfl,hrow,hb⟩))
 go_ret;exact ⟨v,rfl,By.of_owns hrow (by have:=P5 c 256;omega),hE2.trans hb⟩
theorem Aif (c:Cls) (w:World) (hT:Tab w) (hsz:0<w.heap.size) :
  Calls Tryz.prog 109 #[.agg (Aa c)] w fun e w'=>∃ v,e=.returned v∧By w' v (Al c 256)∧Ext w w':=
 callsIn_wide.1 (Aie Fence.wide 5 trivial trivial trivial trivial trivial trivial rfl (Nat.le_refl _) c w hT hsz)
def Kt (lo hi:Nat):Cls:=Ph (fun b=>decide (lo≤b)) (hi+1)
theorem Af0 (c:Cls) (x:Int) (hx0:0≤x) (hx:x<256) (B:Nat) (w:World) (hc:w.cell? ⟨B,0,none⟩=some (.int .u8 x)) (_hB:B<w.heap.size) :
  Calls Tryz.prog 130 #[.agg (Aa c),.pointer (some ⟨B,0,none⟩)] w fun e w'=>e=.returned (.bool (Bb c x))∧Ext w w':=by
 have hA:=heap_alloc_new w (.cells (Aa c) 62);have hE:=(Ext.refl w).alloc (.cells (Aa c) 62);have hc1:=hE.cell hc;have HA:=Lib.hid hA;clear hA hc;go_enter Tryz.func130,Tryz.ntmps130;go_wp2_with (first
  | (refine wpList_load_row rfl 62 (.tmp 2) rfl _ rfl _ _ _ _ HA.out Tryz.underlying62 rfl Au ?_)
  | (go_at_call 131;refine (Uo c x hx0 hx _).mono ?_;rintro e w' ⟨rfl,hE'⟩))
 go_ret;exact ⟨rfl,hE.trans hE'⟩
set_option maxRecDepth 100000 in
theorem Uh (l:List Cls) (x:Int) (hx0:0≤x) (hx:x<256) (hl:l.length≤4611686018427387904) (a:Option Addr) (b off cap:Nat) (B:Nat) (w:World) (hcx:w.cell? ⟨B,0,none⟩=some (.int .u8 x)) (hB:B<w.heap.size) (ha:0<l.length→a=some ⟨b,off,none⟩)
  (hc:∀ i,i<l.length*4→w.cell? ⟨b,off+i,none⟩=some (.int .u64 (wd (l.getD (i / 4) 0#256) (i % 4)))) :
  Calls Tryz.prog 129 #[.slice a l.length cap,.func (.func 130) #[] #[.pointer (some ⟨B,0,none⟩)]] w fun e w'=>e=.returned (.int .i64 (Fy l x))∧Ext w w':=by
 go_enter Tryz.func129,Tryz.ntmps129;go_wp2_with (fail);go_loopw [8] (fun i W=>∃ k:Nat,k≤l.length∧i=.int .i64 k∧Ext w W∧Hid (∀ j,j<k→Bb (l.getD j 0#256) x=false))
  (fun i _=>l.length-(intOf i).toNat)
 case atStart=>exact ⟨0,by omega,rfl,Ext.refl w,Lib.hid (fun j hj=>by omega)⟩
 case round=>
  obtain ⟨k,hk,rfl,hE,hall⟩:=hrel;by_cases hlt:k<l.length
  ·have e:=ha (by omega);obtain ⟨a0,a1,a2,a3⟩:=Jk (W:=wr) (fun i hi=>hE.cell (hc i hi)) k hlt;have Hcx:=Lib.hid hcx;clear ha hc hcx;subst e;obtain ⟨c,hcd⟩:∃ c,l.getD k 0#256=c:=⟨_,rfl⟩;rw [hcd] at a0 a1 a2 a3;have HCd:=Lib.hid hcd;clear hcd;go_upto_region 4 with (fail)
   have h1:=fun (e:EW wr)=>Lib.hid (Af0 c x hx0 hx B e.W ((hE.trans e.ext).cell Hcx.out) (Nat.lt_of_lt_of_le hB (hE.trans e.ext).size))
   generalize hm1:Bb c x=m1 at h1;have HM1:=Lib.hid hm1;clear hm1;go_cut [16] (fun v W=>v=.bool m1∧∃ e:EW wr,W=e.W)
   case first=>
    refine Aa4 6 ?_;simp only [List.take_succ_cons,List.drop_succ_cons,List.take_nil,List.drop_nil];iterate 6 (refine wpQuiet_step (fun K hK=>?_);go_simp;first|(refine hK _ ?_;clear hK K)|(apply Exists.intro;refine ⟨fun _=>?_,hK _ ?_⟩;(with_reducible exact F4 (h1 _).out);clear hK K))
    refine wpQuiet_nil ?_;rintro _ ⟨e,rfl⟩;refine wpList_nil ?_;go_wp2;go_meet
    exact ⟨rfl,e,rfl⟩
   case rest=>
    obtain ⟨rfl,e,rfl⟩:=hcut;clear a0 a1 a2 a3 h1;have hE':=hE.trans e.ext;generalize e.W=w1 at *;cases m1
    ·go_wp2;go_roundw
     case rel=>exact ⟨k+1,by omega,by go_num,hE',Lib.hid (fun j hj=>by
      by_cases hjk:j=k
      ·subst hjk;rw [HCd.out,HM1.out]
      ·exact hall.out j (by omega))⟩
     case measure=>simp [intOf];omega
    ·have HF:=Lib.hid (Uk l x k hlt (by rw [HCd.out,HM1.out]) hall.out);go_wp2;go_ret;exact ⟨Nn HF.out.symm,hE'⟩
  ·obtain rfl:k=l.length:=by omega
   have HF:=Lib.hid (Af1 l x hall.out);clear hall;go_wp2;go_ret;exact ⟨Nn HF.out.symm,hE⟩
theorem Ug (l:List Cls) (v:Value) (x:Int) (hx0:0≤x) (hx:x<256) (w:World) (h:Cs w v l) :
  Calls Tryz.prog 95 #[v,.int .u8 x] w fun e w'=>e=.returned (.int .i64 (Fy l x))∧Ext w w':=by
 have hE:=(Ext.refl w).alloc (.cells #[.int .u8 x] 5);have hcx:=Pw w #[.int .u8 x] 5 0 _ rfl;have hB:w.heap.size<(w.alloc (.cells #[.int .u8 x] 5)).heap.size:=by simp
 have h':=h.ext hE;have hcon:Calls Tryz.prog 129 #[v,.func (.func 130) #[] #[.pointer (some ⟨w.heap.size,0,none⟩)]] (w.alloc (.cells #[.int .u8 x] 5)) fun e w'=>e=.returned (.int .i64 (Fy l x))∧Ext (w.alloc (.cells #[.int .u8 x] 5)) w':=by
  obtain ⟨h0,⟨hn,a,cap,rfl⟩|⟨hn,b,off,cap,rfl,hb,hc⟩⟩:=h'
  ·have:=Uh l x hx0 hx (by omega) a 0 0 cap w.heap.size _ hcx hB (by omega) (fun i hi=>by omega)
   rwa [hn] at this
  ·exact Uh l x hx0 hx h0 (some ⟨b,off,none⟩) b off cap w.heap.size _ hcx hB (fun _=>rfl) hc
 have Hcon:=Lib.hid hcon;clear hcon hcx h h';go_enter Tryz.func95,Tryz.ntmps95;go_wp2_with (go_at_call 129;refine Hcon.out.mono ?_;rintro e w' ⟨rfl,hE'⟩);go_ret;exact ⟨rfl,hE.trans hE'⟩
end Go.Proofs.YtaiogolidlamiaaGreatDoor
namespace Go.Proofs
open Go.Shelf
def Tryz.l155_ren:Go.Shelf.Ren:=⟨fun|6=>155|15=>161|14=>160|28=>170|29=>171|20=>162|21=>163|22=>164|23=>165|24=>166|25=>167|26=>168|27=>169|46=>172|47=>173|48=>174|49=>175|50=>176|57=>177|n=>n,fun|22=>26|24=>62|25=>204|3=>3|39=>156|0=>0|53=>216|55=>60|4=>4|46=>210|45=>209|50=>91|5=>5|9=>9|66=>217|70=>221|76=>223|77=>224|n=>n,fun|n=>n⟩
theorem Tryz.l155:Go.Proofs.SlLaysF0.n6 Tryz.prog Tryz.l155_ren:={
 mixed:=by kernel_rfl
 f6:=⟨Tryz.f155.name,by decide,Tryz.func155.trans (congrArg some (by kernel_rfl))⟩
 f14:=⟨Tryz.f160.name,by decide,Tryz.func160.trans (congrArg some (by kernel_rfl))⟩
 f15:=Tryz.func161.trans (congrArg some (by kernel_rfl))
 f20:=⟨Tryz.f162.name,by decide,Tryz.func162.trans (congrArg some (by kernel_rfl))⟩
 f21:=⟨Tryz.f163.name,by decide,Tryz.func163.trans (congrArg some (by kernel_rfl))⟩
 f22:=⟨Tryz.f164.name,by decide,Tryz.func164.trans (congrArg some (by kernel_rfl))⟩
 f23:=⟨Tryz.f165.name,by decide,Tryz.func165.trans (congrArg some (by kernel_rfl))⟩
 f24:=⟨Tryz.f166.name,by decide,Tryz.func166.trans (congrArg some (by kernel_rfl))⟩
 f25:=⟨Tryz.f167.name,by decide,Tryz.func167.trans (congrArg some (by kernel_rfl))⟩
 f26:=⟨Tryz.f168.name,by decide,Tryz.func168.trans (congrArg some (by kernel_rfl))⟩
 f27:=⟨Tryz.f169.name,by decide,Tryz.func169.trans (congrArg some (by kernel_rfl))⟩
 f28:=Tryz.func170.trans (congrArg some (by kernel_rfl))
 f29:=Tryz.func171.trans (congrArg some (by kernel_rfl))
 f46:=⟨Tryz.f172.name,by decide,Tryz.func172.trans (congrArg some (by kernel_rfl))⟩
 f47:=Tryz.func173.trans (congrArg some (by kernel_rfl))
 f48:=Tryz.func174.trans (congrArg some (by kernel_rfl))
 f49:=⟨Tryz.f175.name,by decide,Tryz.func175.trans (congrArg some (by kernel_rfl))⟩
 f50:=⟨Tryz.f176.name,by decide,Tryz.func176.trans (congrArg some (by kernel_rfl))⟩
 f57:=⟨Tryz.f177.name,by decide,Tryz.func177.trans (congrArg some (by kernel_rfl))⟩
 t0:=Tryz.underlying0
 a0:=Tryz.isAgg0
 z0:=Tryz.sizeOf0
 v0:=Tryz.zeroValue0
 t3:=Tryz.underlying3
 a3:=Tryz.isAgg3
 z3:=Tryz.sizeOf3
 v3:=Tryz.zeroValue3
 t4:=Tryz.underlying4
 a4:=Tryz.isAgg4
 z4:=Tryz.sizeOf4
 v4:=Tryz.zeroValue4
 t5:=Tryz.underlying5
 a5:=Tryz.isAgg5
 z5:=Tryz.sizeOf5
 v5:=Tryz.zeroValue5
 t9:=Tryz.underlying9
 a9:=Tryz.isAgg9
 z9:=Tryz.sizeOf9
 v9:=Tryz.zeroValue9
 t22:=Tryz.underlying26
 a22:=Tryz.isAgg26
 z22:=Tryz.sizeOf26
 v22:=Tryz.zeroValue26
 t25:=Tryz.underlying204
 a25:=Tryz.isAgg204
 z25:=Tryz.sizeOf204
 v25:=Tryz.zeroValue204
 t39:=Tryz.underlying156
 a39:=Tryz.isAgg156
 z39:=Tryz.sizeOf156
 v39:=Tryz.zeroValue156
 t45:=Tryz.underlying209
 a45:=Tryz.isAgg209
 z45:=Tryz.sizeOf209
 v45:=Tryz.zeroValue209
 t46:=Tryz.underlying210
 a46:=Tryz.isAgg210
 z46:=Tryz.sizeOf210
 v46:=Tryz.zeroValue210
 t50:=Tryz.underlying91
 a50:=Tryz.isAgg91
 z50:=Tryz.sizeOf91
 v50:=Tryz.zeroValue91
 t53:=Tryz.underlying216
 a53:=Tryz.isAgg216
 z53:=Tryz.sizeOf216
 v53:=Tryz.zeroValue216
 t55:=Tryz.underlying60
 a55:=Tryz.isAgg60
 z55:=Tryz.sizeOf60
 v55:=Tryz.zeroValue60
 t66:=Tryz.underlying217
 a66:=Tryz.isAgg217
 z66:=Tryz.sizeOf217
 v66:=Tryz.zeroValue217
 t70:=Tryz.underlying221
 a70:=Tryz.isAgg221
 z70:=Tryz.sizeOf221
 v70:=Tryz.zeroValue221
 t76:=Tryz.underlying223
 a76:=Tryz.isAgg223
 z76:=Tryz.sizeOf223
 v76:=Tryz.zeroValue223
 t77:=Tryz.underlying224
 a77:=Tryz.isAgg224
 z77:=Tryz.sizeOf224
 v77:=Tryz.zeroValue224 }
end Go.Proofs
namespace Go.Proofs.YtaiogolidlamiaaGreatDoor
open Go.RowKit Go.Shelf Go.Sort
structure ED (w:World) where
 W:World
 ext:Ext w W
 drawn:w.drawn≤W.drawn
instance (w:World):Nonempty (ED w):=⟨⟨w,Ext.refl w,Nat.le_refl _⟩⟩
section
variable {P:Program}
theorem Aa6 {id:Nat} {Q:Exit→Act→World→Prop} {a:Act} {w:World} {l:List Oper} (hm:P.follows .mixedOrders=true) (hB:Region.lexB .any l.toArray=true)
  (h:wpQuiet P l.toArray (fun W=>∃ e:ED w,W=e.W) (fun a'=>∀ w',(∃ e:ED w,w'=e.W)→Q .normal a' w') l a):(Code.region id l.toArray true).wp P Q a w:=
 wp_region_quiet (C:=fun W=>∃ e:ED w,W=e.W) hm hB ⟨⟨_,(Ext.refl w).drawn1,Nat.le_succ _⟩,rfl⟩ (by simpa using h)
theorem Wm {f:FuncId} {args:Array Value} {w:World} {e0:ED w} {v:Value} (h:Calls P f args e0.W fun e w'=>e=.returned v∧Ext e0.W w'∧e0.W.drawn≤w'.drawn) :
  Calls P f args e0.W fun e w''=>e=.returned v∧∃ e1:ED w,w''=e1.W:=
 h.mono fun _ w' ⟨he,hw,hd⟩=>⟨he,⟨w',e0.ext.trans hw,Nat.le_trans e0.drawn hd⟩,rfl⟩
theorem Lt {w:World} {p:Addr} {v:Value} (h:w.cell? p=some v):∀ e:ED w,e.W.cell? p=some v:=fun e=>e.ext.cell h
end
theorem Ag6 {w W:World} (h:Ext w W) (hd:w.drawn≤W.drawn):∃ q os,W=grow (w.drewN q) os:=by
 refine ⟨W.drawn-w.drawn,W.heap.extract w.heap.size,?_⟩;have h1:=h.below.os;have h2:=h.below.tape;have h3:=h.below.output;have h4:=h.below.size;have h5:=h.below.block;obtain ⟨hp,o,t,d,out⟩:=W;obtain ⟨hp',o',t',d',out'⟩:=w;simp only at *;subst h1 h2 h3;simp only [grow,World.drewN]
 congr 1
 ·refine Array.ext_getElem? fun i=>?_
  rw [Array.getElem?_append];split
  ·rename_i hi;exact h5 i hi
  ·rename_i hi
   rw [Array.getElem?_extract];split
   ·congr 1;omega
   ·rw [Array.getElem?_eq_none (by omega)]
 ·omega
theorem Un (l:List UInt8):-1≤Bh l∧Bh l<256:=by
 cases l with
 | nil=>simp [Bh]
 | cons x t=>have:=x.toNat_lt;simp [Bh];omega
theorem Vq {w:World} {B:Nat} {c:Cls} (h:w.heap[B]? = some (.cells (Aa c) 62 (0,0))) :
  (∀ e:ED w,e.W.cell? ⟨B,0,none⟩=some (.int .u64 (wd c 0)))∧(∀ e:ED w,e.W.cell? ⟨B,1,none⟩=some (.int .u64 (wd c 1)))∧
  (∀ e:ED w,e.W.cell? ⟨B,2,none⟩=some (.int .u64 (wd c 2)))∧(∀ e:ED w,e.W.cell? ⟨B,3,none⟩=some (.int .u64 (wd c 3))):=by
 have H:∀ j v,(Aa c)[j]? = some v→w.cell? ⟨B,j,none⟩=some v:=fun j v hv=>by rw [cell_of_row w B j _ _ (0,0) h];exact hv
 exact ⟨Lt (H 0 _ rfl),Lt (H 1 _ rfl),Lt (H 2 _ rfl),Lt (H 3 _ rfl)⟩
theorem Ab (w:World) (o:Obj):(w.alloc o).heap[w.heap.size]? = some o:=by show (w.heap.push o)[w.heap.size]? = some o;simp
theorem Ahw (a b:Cls) (w:World) (hT:Tab w) (hsz:0<w.heap.size) :
  Calls Tryz.prog 156 #[.agg (Aa a),.agg (Aa b)] w fun e w'=>e=.returned (.int .i64 (Bh (Al a 256)-Bh (Al b 256)))∧Ext w w'∧w.drawn≤w'.drawn:=by
 have h1:=fun W hT hsz=>Lib.hid (Oy a W hT hsz)
 have h2:=fun W hT hsz=>Lib.hid (Oy b W hT hsz)
 have Hx:=Lib.hid (Un (Al a 256));have Hy:=Lib.hid (Un (Al b 256));generalize Bh (Al a 256)=x at *;generalize Bh (Al b 256)=y at *;go_enter Tryz.func156,Tryz.ntmps156;go_upto_region 1 with (fail)
 have hwr:IntKind.i64.wrap (x-y)=x-y:=IntWalk.i64_in _ ⟨by have:=Hx.out;have:=Hy.out;omega,by have:=Hx.out;have:=Hy.out;omega⟩;obtain ⟨W0,hW0⟩:∃ W,((w.alloc (.cells (Aa a) 62)).alloc (.cells (Aa b) 62))=W:=⟨_,rfl⟩;have hE:Ext w W0:=hW0▸((Ext.refl w).alloc (.cells (Aa a) 62)).alloc (.cells (Aa b) 62);have r1:W0.heap[w.heap.size]? = some (.cells (Aa a) 62 (0,0)):=by rw [← hW0];exact Af (Ab w _) _
 have r2:W0.heap[w.heap.size+1]? = some (.cells (Aa b) 62 (0,0)):=by
  rw [← hW0];have:=Ab (w.alloc (.cells (Aa a) 62)) (.cells (Aa b) 62)
  simpa using this
 have hd:w.drawn≤W0.drawn:=by rw [← hW0];exact Nat.le_refl _
 simp only [hW0];have hT':=fun (e:ED W0)=>hT.below (hE.trans e.ext).below hsz
 have hs':=fun (e:ED W0)=>Nat.lt_of_lt_of_le hsz (hE.trans e.ext).size
 have h1':=fun (e:ED W0)=>h1 e.W (hT' e) (hs' e)
 have h2':=fun (e:ED W0)=>h2 e.W (hT' e) (hs' e)
 obtain ⟨a0,a1,a2,a3⟩:=Vq r1;obtain ⟨b0,b1,b2,b3⟩:=Vq r2;clear h1 h2 hT' hs' r1 r2 hW0;refine Aa6 (by kernel_rfl) (by kernel_rfl) ?_;iterate 6 (refine wpQuiet_step (fun K hK=>?_);go_simp;first|(refine hK _ ?_;clear hK K)|(apply Exists.intro;refine ⟨fun _=>?_,hK _ ?_⟩;(first|(with_reducible exact Wm (h1' _).out)|(with_reducible exact Wm (h2' _).out));clear hK K))
 refine wpQuiet_nil ?_;rintro _ ⟨e,rfl⟩;go_wp2;go_ret;exact ⟨rfl,hE.trans e.ext,Nat.le_trans hd e.drawn⟩
def Jl (a b:Cls):Int:=Bh (Al a 256)-Bh (Al b 256)
def B0 (c:Cls):List Value:=[.int .u64 (wd c 0),.int .u64 (wd c 1),.int .u64 (wd c 2),.int .u64 (wd c 3)]
theorem Vj (c:Cls):∀ j,j<4→(B0 c)[j]! = .int .u64 (wd c j)
 | 0,_=>rfl
 | 1,_=>rfl
 | 2,_=>rfl
 | 3,_=>rfl
 | n+4,h=>by omega
def Dw (L:List Cls):List Value:=L.flatMap B0
theorem Ln (L M:List Cls):Dw (L++M)=Dw L++Dw M:=by simp [Dw]
theorem Lm (c:Cls):Dw [c]=B0 c:=by simp [Dw]
theorem Uz (L:List Cls):(Dw L).length=L.length*4:=by
 induction L with
 | nil=>rfl
 | cons c L ih=>
  show (B0 c++Dw L).length=_;rw [List.length_append,ih,List.length_cons];show 4+_=_;omega
theorem Jd (L:List Cls):∀ i,i<L.length*4→(Dw L)[i]? = some (.int .u64 (wd (L.getD (i / 4) 0#256) (i % 4))):=by
 induction L with
 | nil=>intro i h;simp at h
 | cons c L ih=>
  intro i h;show (B0 c++Dw L)[i]? = _;by_cases h4:i<4
  ·rw [List.getElem?_append_left (show i<(B0 c).length from h4),Nat.div_eq_of_lt h4,Nat.mod_eq_of_lt h4]
   match i,h4 with
   | 0,_=>rfl
   | 1,_=>rfl
   | 2,_=>rfl
   | 3,_=>rfl
   | n+4,h=>omega
  ·simp only [List.length_cons] at h;rw [List.getElem?_append_right (show (B0 c).length≤i from by show 4≤i;omega)];show (Dw L)[i-4]? = _;rw [ih (i-4) (by omega),show i / 4=(i-4) / 4+1 by omega,show i % 4=(i-4) % 4 by omega];rfl
abbrev Row (W:World) (base:Nat) (v:Value) (L:List Cls):Prop:=W.ownsRow base 62 4 v L.length (Dw L)
theorem Row.cells {W:World} {base:Nat} {v:Value} {L:List Cls} (h:Row W base v L) (hn:0<L.length):∃ g cap,v=.slice (some ⟨g,0,none⟩) L.length cap∧base≤g∧g<W.heap.size∧(∀ i,W.frozen? ⟨g,i,none⟩=false)∧
  ∀ i,i<L.length*4→W.cell? ⟨g,0+i,none⟩=some (.int .u64 (wd (L.getD (i / 4) 0#256) (i % 4))):=by
 obtain ⟨hl,⟨_,h0⟩|⟨g,cap,cur,rfl,hb,hg,hnc,hcm,hcs,htake⟩⟩:=h
 ·omega
 ·refine ⟨g,cap,rfl,hb,Ak hg,fun i=>?_,fun i hi=>?_⟩
  ·simp [World.frozen?,hg]
  ·rw [Nat.zero_add,cell_of_row W g i cur 62 (0,0) hg,← Jd L i hi,← htake,List.getElem?_take,if_pos hi,Array.getElem?_toList]
theorem Row.toCs {W:World} {base:Nat} {v:Value} {L:List Cls} (h:Row W base v L) (hn:L.length≤4611686018427387904):Cs W v L:=by
 refine ⟨hn,?_⟩;by_cases h0:L.length=0
 ·obtain ⟨hl,⟨rfl,_⟩|⟨g,cap,cur,rfl,_⟩⟩:=h
  ·exact .inl ⟨h0,_,_,rfl⟩
  ·exact .inl ⟨h0,_,_,by rw [h0]⟩
 ·obtain ⟨g,cap,rfl,_,hlt,_,hc⟩:=h.cells (by omega);exact .inr ⟨by omega,g,0,cap,rfl,hlt,hc⟩
theorem Row.mono {W:World} {b b':Nat} {v:Value} {L:List Cls} (h:Row W b v L) (hb:b'≤b):Row W b' v L:=by
 obtain ⟨hl,h|⟨g,cap,cur,hv,hg,r⟩⟩:=h
 ·exact ⟨hl,.inl h⟩
 ·exact ⟨hl,.inr ⟨g,cap,cur,hv,Nat.le_trans hb hg,r⟩⟩
theorem Ic {W:World} {b off:Nat} {l:List Cls} (h:∀ i,i<l.length*4→W.cell? ⟨b,off+i,none⟩=some (.int .u64 (wd (l.getD (i / 4) 0#256) (i % 4)))) (k:Nat) (hk:k<l.length) :
  W.cell? ⟨b,off+k*4,none⟩=some (.int .u64 (wd (l.getD k 0#256) 0))∧W.cell? ⟨b,off+k*4+1,none⟩=some (.int .u64 (wd (l.getD k 0#256) 1))∧
  W.cell? ⟨b,off+k*4+2,none⟩=some (.int .u64 (wd (l.getD k 0#256) 2))∧W.cell? ⟨b,off+k*4+3,none⟩=some (.int .u64 (wd (l.getD k 0#256) 3)):=by
 obtain ⟨a0,a1,a2,a3⟩:=Jk h k hk;exact ⟨a0 ⟨W,Ext.refl W⟩,a1 ⟨W,Ext.refl W⟩,a2 ⟨W,Ext.refl W⟩,a3 ⟨W,Ext.refl W⟩⟩
theorem Adn (w:World):Calls Tryz.prog 94 #[.agg zA] w fun e w'=>e=.returned (.agg (Aa allC))∧Ext w w':=by
 have:=Ti 0#256 w
 rwa [Ee] at this
theorem Af3 (a b c d e f g h:Int) (w:World):(Instr.index 202 (.agg #[.int .u64 a,.int .u64 b,.int .u64 c,.int .u64 d,.int .u64 e,.int .u64 f,.int .u64 g,.int .u64 h]) (.int .i64 0)).run Tryz.prog w=.ok (.agg #[.int .u64 a,.int .u64 b,.int .u64 c,.int .u64 d]) w:=by kernel_rfl
theorem Af2 (a b c d e f g h:Int) (w:World):(Instr.index 202 (.agg #[.int .u64 a,.int .u64 b,.int .u64 c,.int .u64 d,.int .u64 e,.int .u64 f,.int .u64 g,.int .u64 h]) (.int .i64 1)).run Tryz.prog w=.ok (.agg #[.int .u64 e,.int .u64 f,.int .u64 g,.int .u64 h]) w:=by kernel_rfl
theorem Uf:(Tryz.prog.info? 62).map (fun i=>(i.zero,i.size,i.bytes))=some (some (.agg zA),4,32):=by kernel_rfl
def Dl (x y:Cls):Nat→List Cls
 | 0=>[]
 | 1=>if x=0#256 then [] else [x]
 | _=>(if x=0#256 then [] else [x])++(if y=0#256 then [] else [y])
theorem Ab1 (x y:Cls):Dl x y 0=[]:=rfl
theorem Ab0 (S:List Cls) (x y:Cls):S++Dl x y 1=(S++Dl x y 0)++if (x==0#256) then [] else [x]:=by simp [Dl]
theorem Abz (S:List Cls) (x y:Cls):S++Dl x y 2=(S++Dl x y 1)++if (y==0#256) then [] else [y]:=by simp [Dl]
theorem Sx (S:List Cls) (x y:Cls) (q:Nat):(S++Dl x y q).length≤S.length+2:=by
 match q with
 | 0=>simp [Dl]
 | 1=>simp only [Dl,List.length_append];split<;>simp
 | n+2=>simp only [Dl,List.length_append];split<;>split<;>simp
theorem Kq (w:World) (x:Cls):∀ j u,(B0 x)[j]? = some u→(w.alloc (.cells (Aa x) 62)).cell? ((⟨w.heap.size,0,none⟩:Addr).add j)=some u:=by
 intro j u h;rw [show ((⟨w.heap.size,0,none⟩:Addr).add j)=⟨w.heap.size,j,none⟩ by rw [Addr.add_lit,Nat.zero_add],cell_of_row _ _ _ _ 62 (0,0) (heap_alloc_new w _)];rw [← List.getElem?_toArray] at h;exact h
theorem ltC (x y:Cls):ltOf Jl x y=decide (Bh (Al x 256)<Bh (Al y 256)):=by
 unfold ltOf Jl;by_cases h:Bh (Al x 256)<Bh (Al y 256)
 ·simp only [h,decide_true,decide_eq_true_eq];omega
 ·simp only [h,decide_false,decide_eq_false_iff_not];omega
theorem Yy:Go.Sort.SWO (ltOf Jl) where
 irrefl x:=by rw [ltC];simp
 trans x y z h1 h2:=by rw [ltC] at *;simp at *;omega
 ntrans x y z h1 h2:=by rw [ltC] at *;simp at *;omega
theorem Rv {α:Type} [Inhabited α] (enc:α→List Value) (k:Nat) (w:World) (blk off m:Nat) (dk:Array α) (os:Array Obj):w.grownBy (sortWorldK enc k w blk off m dk os) (some blk):=by
 refine ⟨rfl,rfl,rfl,Go.Proofs.size_sortWorldK_c enc k w blk off m dk os,fun i hi hne=>?_⟩;have hne':i≠blk:=fun e=>hne (by rw [e])
 unfold sortWorldK Go.Sort.putRowK Go.Sort.putRow Go.Sort.mapBlock;show ((w.heap.modify blk _)++os)[i]? = _;rw [Array.getElem?_append,if_pos (by simpa using hi),Array.getElem?_modify,if_neg (fun e=>hne' e.symm)]
theorem Zt (l:List Cls) (blk off cap:Nat) (w:World) (hT:Tab w) (hb0:0<blk) (hblk:blk<w.heap.size) (hsz:l.length<4611686018427387904)
  (hc:∀ i,i<l.length*4→w.cell? ⟨blk,off+i,none⟩=some (.int .u64 (wd (l.getD (i / 4) 0#256) (i % 4)))) (hf:∀ i,w.frozen? ⟨blk,i,none⟩=false) :
  Calls Tryz.prog 155 #[.slice (some ⟨blk,off,none⟩) l.length cap,.func (.func 156) #[] #[]] w fun e w'=>e=.returned (.tuple #[])∧w.grownBy w' (some blk)∧
   ∃ l':List Cls,l'.length=l.length∧l'.Perm l∧l'.Pairwise (fun a b=>Bh (Al a 256)≤Bh (Al b 256))∧∀ i,i<l'.length*4→w'.cell? ⟨blk,off+i,none⟩=some (.int .u64 (wd (l'.getD (i / 4) 0#256) (i % 4))):=by
 have hk:∀ x,(B0 x).length=4:=fun _=>rfl
 have hH:Go.Sort.HoldsK B0 4 w blk off l.toArray:=fun j hj=>by
  rw [Go.Sort.size_flatK] at hj;simp only [List.size_toArray] at hj;refine ⟨?_,hf _⟩;rw [hc j hj,Go.Sort.get_flatK _ _ _ _ (by simpa using hj),Vj _ _ (by omega)]
  congr 2
  have:j / 4<l.length:=by omega
  simp [List.getD_eq_getElem?_getD,this]
 have eg:∀ args w,(callFunc 156 args).run Tryz.prog w=.ok (.enter 156 args) w:=enters_of Tryz.func156 (by kernel_rfl) rfl;have hcmp:CmpLays Tryz.prog 156 #[] B0 4 Jl blk off l.toArray.size w:=fun m os dk _ x y=>by
  have hg:=Rv B0 4 w blk off m dk os;have hT':Tab (sortWorldK B0 4 w blk off m dk os):=fun j hj=>by
   rw [World.cell?_of_block (hg.block 0 (by omega) (fun e=>by injection e with e;omega))];exact hT j hj
  exact (Ahw x y _ hT' (by have:=hg.size;omega)).mono fun e w' ⟨he,hE,hd⟩=>⟨he,Ag6 hE hd⟩
 have hcon:=AnyQ.slices_SortFunc Tryz.l155 4 Tryz.isAgg62 Tryz.sizeOf62 B0 hk (fun x v hv=>by simp [B0] at hv;rcases hv with rfl|rfl|rfl|rfl<;>rfl) Jl Yy 156 #[] blk off cap l.toArray w eg hcmp hH hblk (by simpa using hsz);change Calls Tryz.prog 155 _ _ _ at hcon
 refine hcon.mono ?_;rintro e w' ⟨he,d',n,os,hp,hs,rfl⟩;have hgr:=Rv B0 4 w blk off n d' os;refine ⟨he,hgr,d'.toList,?_⟩;obtain ⟨hsize,_,hperm⟩:=hp;simp only [List.size_toArray] at hsize hperm hs;have hH':=holdsK_sortWorldK_c B0 4 w blk off l.toArray d' n os hH hblk (by simpa using hsize);have hlen:d'.toList.length=l.length:=by simpa using hsize
 refine ⟨hlen,?_,?_,fun i hi=>?_⟩
 ·have e2:(l.toArray.extract 0 l.length)=l.toArray:=by simp
  have e3:(d'.extract 0 l.length)=d':=by rw [← hsize];simp
  rw [e2,e3] at hperm;exact hperm
 ·rw [List.pairwise_iff_getElem];intro i j hi hj hij;have:=hs i j (Nat.zero_le _) hij (by rw [← hlen];exact hj);rw [ltC,decide_eq_false_iff_not] at this;have e1:d'[i]! = d'.toList[i]:=by simp at hi;simp [hi]
  have e2:d'[j]! = d'.toList[j]:=by simp at hj;simp [hj]
  rw [e1,e2] at this;omega
 ·have h1:i / 4<d'.size:=by simp at hi;omega
  have:=(hH'.cell (i:=i / 4) (c:=i % 4) h1 (by omega)).1;rw [show off+i / 4*4+i % 4=off+i by omega,Vj _ _ (by omega)] at this;rw [this]
  congr 3
  simp [List.getD_eq_getElem?_getD,h1]
set_option maxRecDepth 100000 in
theorem V9 (l:List Cls) (hl:l.length≤4611686018427387904) (a:Option Addr) (b off cap:Nat) (w:World) (hT:Tab w) (hsz:0<w.heap.size) (ha:0<l.length→a=some ⟨b,off,none⟩)
  (hc:∀ i,i<l.length*4→w.cell? ⟨b,off+i,none⟩=some (.int .u64 (wd (l.getD (i / 4) 0#256) (i % 4)))) :
  Calls Tryz.prog 143 #[.slice a l.length cap] w fun e w'=>∃ v L,e=.returned v∧Cs w' v L∧L.Perm (Dy l)∧L.Pairwise (fun a b=>Bh (Al a 256)≤Bh (Al b 256))∧Ext w w':=by
 have hN:=Lib.hid (Adn w);obtain ⟨i0,hi,hz0,hz1,hz2⟩:=info_parts Uf;go_enter Tryz.func143,Tryz.ntmps143;go_wp2_with (first|(go_at_call 94;refine hN.out.mono ?_;rintro e w1 ⟨rfl,hE1⟩));clear hN;go_loopw [3,16] (fun v i W=>∃ k:Nat,k≤l.length∧i=.int .i64 k∧Ext w W∧Row W w.heap.size v (Dy (l.take k)))
  (fun _ i _=>l.length-(intOf i).toNat)
 case atStart=>
  refine ⟨0,by omega,rfl,hE1.alloc _,?_⟩;exact ⟨rfl,.inr ⟨w1.heap.size,1,Aa allC,rfl,hE1.size,heap_alloc_new w1 _,Nat.le_refl _,by unfold maxLen;omega,rfl,rfl⟩⟩
 case round=>
  obtain ⟨k,hk,rfl,hE,hrow⟩:=hrel;by_cases hlt:k<l.length
  ·have e:=ha (by omega);obtain ⟨a0,a1,a2,a3⟩:=Ic (W:=wr) (fun i hi=>hE.cell (hc i hi)) k hlt;have HC:=Lib.hid hc;have HA:=Lib.hid ha;clear ha hc;subst e;have HSC:=Lib.hid (Ah1 l k hlt);have HF:=Lib.hid (Uv (l.take k));generalize Dy (l.take k)=C at *;obtain ⟨c,hcd⟩:∃ c,l.getD k 0#256=c:=⟨_,rfl⟩;rw [hcd] at a0 a1 a2 a3 HSC;clear hcd;obtain ⟨g,cap',rfl,hgb,hglt,hgf,hgc⟩:=hrow.cells HF.out.pos;have hC256:=HF.out.len;have hC0:=HF.out.pos;clear hrow hgf;go_wp2;obtain ⟨wi,hwi⟩:∃ W,wr.alloc (.cells (Aa c) 62)=W:=⟨_,rfl⟩;simp only [hwi];have hEi:Ext wr wi:=hwi▸(Ext.refl wr).alloc _;have h5:wi.heap[wr.heap.size]? = some (.cells (Aa c) 62 (0,0)):=hwi▸Ab wr _;have H5:=Lib.hid h5;clear hwi h5 a0 a1 a2 a3;have HGC:=Lib.hid (fun (i:Nat) (hi:i<C.length*4)=>hEi.cell (hgc i hi));clear hgc;go_loopw [6,22] (fun u i W=>∃ j:Nat,j≤C.length∧i=.int .i64 j∧Ext wi W∧Row W wi.heap.size u (Cn c (C.take j)))
    (fun _ i _=>C.length-(intOf i).toNat)
   case atStart=>exact ⟨0,by omega,rfl,Ext.refl wi,World.ownsRow_nil _ _ _ _⟩
   case round=>
    obtain ⟨j,hj,rfl,hEj,hrow⟩:=hrel;by_cases hlt2:j<C.length
    ·obtain ⟨a0,a1,a2,a3⟩:=Ic (W:=wr) (fun i hi=>hEj.cell (HGC.out i hi)) j hlt2;have HSS:=Lib.hid (Zn c C j hlt2);have hlenS:=Zo c (C.take j);rw [List.length_take] at hlenS;generalize Cn c (C.take j)=S at *;obtain ⟨d,hd⟩:∃ d,C.getD j 0#256=d:=⟨_,rfl⟩;rw [hd] at a0 a1 a2 a3 HSS;simp only [Nat.zero_add] at a0 a1 a2 a3;clear hd;go_upto_region 9 with (fail)
     obtain ⟨w2,hw2⟩:∃ W,wr.alloc (.cells (Aa d) 62)=W:=⟨_,rfl⟩;simp only [hw2];have hE2:Ext wr w2:=hw2▸(Ext.refl wr).alloc _;have h8:w2.heap[wr.heap.size]? = some (.cells (Aa d) 62 (0,0)):=hw2▸Ab wr _;clear hw2;obtain ⟨b0,b1,b2,b3⟩:=Lp h8;obtain ⟨c0,c1,c2,c3⟩:=Lp ((hEj.trans hE2).heap H5.out);clear h8 a0 a1 a2 a3;have hrow:=Ah hrow hE2;have hEj:=hEj.trans hE2;have h1:=fun (W:World)=>Lib.hid (Ua d c W)
     have h2:=fun (W:World)=>Lib.hid (Ad5 d c W)
     have HX:=Lib.hid (M9 c d);generalize Dj c d=sp at *;generalize d &&& c=x at *;generalize d &&& ~~~c=y at *;go_cut [32,33] (fun v m W=>v=.agg #[.int .u64 (wd x 0),.int .u64 (wd x 1),.int .u64 (wd x 2),.int .u64 (wd x 3),.int .u64 (wd y 0),.int .u64 (wd y 1),.int .u64 (wd y 2),.int .u64 (wd y 3)]∧m=.int .i64 0∧∃ e:EW w2,W=e.W)
     case first=>
      refine Da (by kernel_rfl) (by kernel_rfl) ?_;iterate 8 (refine wpQuiet_step (fun K hK=>?_);go_simp;first|(refine hK _ ?_;clear hK K)|(apply Exists.intro;refine ⟨fun _=>?_,hK _ ?_⟩;(first|(with_reducible exact F4 (h1 _).out)|(with_reducible exact F4 (h2 _).out));clear hK K))
      refine wpQuiet_nil ?_;rintro _ ⟨e,rfl⟩;go_wp2;go_meet
      exact ⟨rfl,rfl,e,rfl⟩
     case rest=>
      obtain ⟨rfl,rfl,e,rfl⟩:=hcut;have hrow:=Ah hrow e.ext;have hEj:=hEj.trans e.ext;clear b0 b1 b2 b3 c0 c1 c2 c3 h1 h2;generalize e.W=w3 at *;go_wp2_with (fail);go_loopw [6,33] (fun u m W=>∃ q:Nat,q≤2∧m=.int .i64 q∧Ext wi W∧Row W wi.heap.size u (S++Dl x y q))
       (fun _ m _=>2-(intOf m).toNat)
      case atStart=>exact ⟨0,by omega,rfl,hEj,by rw [Ab1,List.append_nil];exact hrow⟩
      case round=>
       obtain ⟨q,hq,rfl,hEq,hrow⟩:=hrel;obtain rfl|rfl|rfl:q=0∨q=1∨q=2:=by omega
       ·have ix:=Af3 (wd x 0) (wd x 1) (wd x 2) (wd x 3) (wd y 0) (wd y 1) (wd y 2) (wd y 3) wr;have HN:=fun W=>Ko x 0#256 W
        rw [Ee] at HN;have hg30:=Jb;have hs1:=hEq.size;have hPl:=Sx S x y 0;have HP:=Lib.hid (Ab0 S x y);generalize S++Dl x y 0=P at hrow hPl HP;generalize (x==0#256)=bx at HN HP;cases bx
        ·go_wp2_with (at_builtin;(refine wpList_append_own _ rfl _ _ 26 rfl wi.heap.size 62 i0 (.agg zA) 4 32 Tryz.underlying26 hi hz0 hz1 hz2 rfl (by decide) _ _ _ rfl ((hrow.alloc _).alloc _) _ 1 1 (B0 x) rfl rfl ?_ (by simp [B0,Value.oneCell']) (by unfold maxLen;omega) (by omega) (by simp;omega) ?_))
         ·have:=Kq (wr.alloc (.cells (Aa x) 62)) x
          rwa [World.size_alloc] at this
         ·intro v' w4 hrow' hgrow _;have hE4:Ext wi w4:=((hEq.alloc _).alloc _).grown hgrow (fun g e=>(hrow.lt g e).1);clear hrow hgrow HN ix;go_wp2;go_roundw
          case rel=>
           refine ⟨1,by omega,rfl,hE4,?_⟩;rw [HP.out];simp only [Bool.false_eq_true,if_false];show World.ownsRow _ _ _ _ _ _ _;rw [List.length_append,Ln,Lm];exact hrow'
          case measure=>simp [intOf]
        ·go_wp2;refine ⟨⟨1,by omega,rfl,hEq.alloc _,?_⟩,by simp [intOf]⟩;rw [HP.out];simp only [if_true,List.append_nil];exact hrow.alloc _
       ·have ix:=Af2 (wd x 0) (wd x 1) (wd x 2) (wd x 3) (wd y 0) (wd y 1) (wd y 2) (wd y 3) wr;have HN:=fun W=>Ko y 0#256 W
        rw [Ee] at HN;have hg30:=Jb;have hs1:=hEq.size;have hPl:=Sx S x y 1;have HP:=Lib.hid (Abz S x y);generalize S++Dl x y 1=P at hrow hPl HP;generalize (y==0#256)=bx at HN HP;cases bx
        ·go_wp2_with (at_builtin;(refine wpList_append_own _ rfl _ _ 26 rfl wi.heap.size 62 i0 (.agg zA) 4 32 Tryz.underlying26 hi hz0 hz1 hz2 rfl (by decide) _ _ _ rfl ((hrow.alloc _).alloc _) _ 1 1 (B0 y) rfl rfl ?_ (by simp [B0,Value.oneCell']) (by unfold maxLen;omega) (by omega) (by simp;omega) ?_))
         ·have:=Kq (wr.alloc (.cells (Aa y) 62)) y
          rwa [World.size_alloc] at this
         ·intro v' w4 hrow' hgrow _;have hE4:Ext wi w4:=((hEq.alloc _).alloc _).grown hgrow (fun g e=>(hrow.lt g e).1);clear hrow hgrow HN ix;go_wp2;go_roundw
          case rel=>
           refine ⟨2,by omega,rfl,hE4,?_⟩;rw [HP.out];simp only [Bool.false_eq_true,if_false];show World.ownsRow _ _ _ _ _ _ _;rw [List.length_append,Ln,Lm];exact hrow'
          case measure=>simp [intOf]
        ·go_wp2;refine ⟨⟨2,by omega,rfl,hEq.alloc _,?_⟩,by simp [intOf]⟩;rw [HP.out];simp only [if_true,List.append_nil];exact hrow.alloc _
       ·have HP:Hid (S++Dl x y 2=S++sp):=Lib.hid (by rw [HX.out];rfl);rw [HP.out,← HSS.out] at hrow;go_wp2;go_roundw
        case rel=>exact ⟨j+1,by omega,by go_num,hEq,hrow⟩
        case measure=>simp [intOf];omega
    ·obtain rfl:j=C.length:=by omega
     rw [List.take_length,← HSC.out] at hrow;have hE':=(hE.trans hEi).trans hEj;have hrow':Row wr w.heap.size u6 (Dy (l.take (k+1))):=hrow.mono (hE.trans hEi).size;have ha:=HA.out;have hc:=HC.out;go_wp2;go_roundw
     case rel=>exact ⟨k+1,by omega,by go_num,hE',hrow'⟩
     case measure=>simp [intOf];omega
  ·obtain rfl:k=l.length:=by omega
   rw [List.take_length] at hrow;have HF:=Uv l;obtain ⟨C,hC⟩:∃ C,Dy l=C:=⟨_,rfl⟩;rw [hC] at hrow HF;have HU:=Lib.hid hC;clear hC;obtain ⟨g,cap',rfl,hgb,hglt,hgf,hgc⟩:=hrow.cells HF.pos;have hsort:=Lib.hid (Zt C g 0 cap' wr (hT.below hE.below hsz) (by omega) hglt (by have:=HF.len;omega) hgc hgf);have hlen:=Lib.hid HF.len;clear hrow hgf hgc ha hc;go_wp2_with (go_at_call 155;refine hsort.out.mono ?_;rintro e w5 ⟨rfl,hg5,L,hL1,hL2,hL3,hL4⟩);go_ret;have hE5:Ext w w5:=hE.grown hg5 (fun k e=>by cases e;exact hgb);refine ⟨_,L,rfl,?_,by rw [HU.out];exact hL2,hL3,hE5⟩;have h5:=hlen.out;have h6:=hg5.size;have hC0:=HF.pos;rw [← hL1];exact ⟨by omega,.inr ⟨by omega,g,0,cap',rfl,by omega,hL4⟩⟩
theorem Wb (l:List Cls) (v:Value) (w:World) (hT:Tab w) (hsz:0<w.heap.size) (h:Cs w v l) :
  Calls Tryz.prog 143 #[v] w fun e w'=>∃ v' L,e=.returned v'∧Cs w' v' L∧L.Perm (Dy l)∧L.Pairwise (fun a b=>Bh (Al a 256)≤Bh (Al b 256))∧Ext w w':=by
 obtain ⟨h0,⟨hn,a,cap,rfl⟩|⟨hn,b,off,cap,rfl,hb,hc⟩⟩:=h
 ·have:=V9 l h0 a 0 0 cap w hT hsz (by omega) (fun i hi=>by omega)
  rwa [hn] at this
 ·exact V9 l h0 (some ⟨b,off,none⟩) b off cap w hT hsz (fun _=>rfl) hc
theorem Ke (v:Value) (l:List UInt8) (W:World) (h:By W v l):(convert 22 9 v).run Tryz.prog W=.ok (.string ⟨l.toArray⟩) W:=by
 obtain ⟨h0,⟨hn,a,cap,rfl⟩|⟨hn,b,off,cap,rfl,hb,hc⟩⟩:=h
 ·obtain rfl:l=[]:=List.eq_nil_of_length_eq_zero hn;cases a with
  | some a=>exact run_convert_bytes_back W 22 9 5 a cap [] Tryz.underlying22 Tryz.underlying5 Tryz.underlying9 (fun j hj=>by simp at hj)
  | none=>
   rw [run_convert_bytes_string W 22 9 5 none 0 cap Tryz.underlying22 Tryz.underlying5 Tryz.underlying9]
   kernel_rfl
 ·refine run_convert_bytes_back W 22 9 5 ⟨b,off,none⟩ cap l Tryz.underlying22 Tryz.underlying5 Tryz.underlying9 (fun j hj=>?_);rw [Addr.add_lit,hc j (by omega)];simp [List.getD_eq_getElem?_getD,hj]
def q0:Cls:= ~~~(Kt 97 100)
def q1:Cls:=Kt 97 97
def q2:Cls:=Kt 98 99
def q3:Cls:=Kt 100 100
def k4:Cls:=ofL [97,98,99,97]
def k3:Cls:=ofL [99,97,98]
open Go
theorem Vg {w W':World} {e:EW w} (h:Ext e.W W'):∃ e':EW w,W'=e'.W:=⟨⟨W',e.ext.trans h⟩,rfl⟩
theorem Ahd (w:World):∃ e:EW w,w=e.W:=⟨⟨w,Ext.refl w⟩,rfl⟩
end Go.Proofs.YtaiogolidlamiaaGreatDoor
