import Derived.Sort.Grow
import Derived.Deep.Draws
import Derived.Test.YtaiogolidlamiaaGreatDoorM07
import Derived.Test.YtaiogolidlamiaaGreatDoorM05
import Derived.Test.YtaiogolidlamiaaGreatDoorM06
import Derived.Test.YtaiogolidlamiaaGreatDoorM04
import Derived.Shelf.SlSortCmp.WholeK
import Derived.Laws.IdiomStrings
import Derived.Test.YtaiogolidlamiaaGreatDoorM01
import Derived.Deep.AppendLies
import Derived.Deep.MidRow
set_option linter.unusedVariables false
set_option linter.unusedSimpArgs false
namespace Go.Proofs.YtaiogolidlamiaaGreatDoor
set_option maxRecDepth 100000
open Go.RowKit Go.Shelf Go.Sort
structure ED (w:World) where
 W:World
 ext:Ext w W
 drawn:w.drawn≤W.drawn
instance (w:World):Nonempty (ED w):=⟨⟨w,Ext.refl w,Nat.le_refl _⟩⟩
section
variable {P:Program}
theorem Zf {id:Nat} {Q:Exit→Act→World→Prop} {a:Act} {w:World} {l:List Oper} (hm:P.follows .mixedOrders=true) (hB:Region.lexB .any l.toArray=true)
  (h:wpQuiet P l.toArray (fun W=>∃ e:ED w,W=e.W) (fun a'=>∀ w',(∃ e:ED w,w'=e.W)→Q .normal a' w') l a):(Code.region id l.toArray true).wp P Q a w:=
 wp_region_quiet (C:=fun W=>∃ e:ED w,W=e.W) hm hB ⟨⟨_,(Ext.refl w).drawn1,Nat.le_succ _⟩,rfl⟩ (by simpa using h)
theorem Uu {f:FuncId} {args:Array Value} {w:World} {e0:ED w} {v:Value} (h:Calls P f args e0.W fun e w'=>e=.returned v∧Ext e0.W w'∧e0.W.drawn≤w'.drawn) :
  Calls P f args e0.W fun e w''=>e=.returned v∧∃ e1:ED w,w''=e1.W:=
 h.mono fun _ w' ⟨he,hw,hd⟩=>⟨he,⟨w',e0.ext.trans hw,Nat.le_trans e0.drawn hd⟩,rfl⟩
theorem Ky {w:World} {p:Addr} {v:Value} (h:w.cell? p=some v):∀ e:ED w,e.W.cell? p=some v:=fun e=>e.ext.cell h
end
theorem Afg {w W:World} (h:Ext w W) (hd:w.drawn≤W.drawn):∃ q os,W=grow (w.drewN q) os:=by
 refine ⟨W.drawn-w.drawn,W.heap.extract w.heap.size,?_⟩;have h1:=h.below.os;have h2:=h.below.tape;have h3:=h.below.output;have h4:=h.below.size;have h5:=h.below.block;obtain ⟨hp,o,t,d,out⟩:=W;obtain ⟨hp',o',t',d',out'⟩:=w;simp only at *;subst h1 h2 h3;simp only [grow,World.drewN]
 congr 1
 ·refine Array.ext_getElem? fun i=>?_
  rw [Array.getElem?_append];split
  ·rename_i hi;exact h5 i hi
  ·rename_i hi
   rw [Array.getElem?_extract];split
   ·congr 1;omega
   ·rw [Array.getElem?_eq_none (by omega)]
 ·omega
theorem S5 (l:List UInt8):-1≤Bj l∧Bj l<256:=by
 cases l with
 | nil=>simp [Bj]
 | cons x t=>have:=x.toNat_lt;simp [Bj];omega
theorem T2 {w:World} {B:Nat} {c:Cls} (h:w.heap[B]? = some (.cells (Aa c) 62 (0,0))) :
  (∀ e:ED w,e.W.cell? ⟨B,0,none⟩=some (.int .u64 (wd c 0)))∧(∀ e:ED w,e.W.cell? ⟨B,1,none⟩=some (.int .u64 (wd c 1)))∧
  (∀ e:ED w,e.W.cell? ⟨B,2,none⟩=some (.int .u64 (wd c 2)))∧(∀ e:ED w,e.W.cell? ⟨B,3,none⟩=some (.int .u64 (wd c 3))):=by
 have H:∀ j v,(Aa c)[j]? = some v→w.cell? ⟨B,j,none⟩=some v:=fun j v hv=>by rw [cell_of_row w B j _ _ (0,0) h];exact hv
 exact ⟨Ky (H 0 _ rfl),Ky (H 1 _ rfl),Ky (H 2 _ rfl),Ky (H 3 _ rfl)⟩
theorem Ab (w:World) (o:Obj):(w.alloc o).heap[w.heap.size]? = some o:=by show (w.heap.push o)[w.heap.size]? = some o;simp
theorem Af9 (a b:Cls) (w:World) (hT:Tab w) (hsz:0<w.heap.size) :
  Calls Tryz.prog 156 #[.agg (Aa a),.agg (Aa b)] w fun e w'=>e=.returned (.int .i64 (Bj (Ak a 256)-Bj (Ak b 256)))∧Ext w w'∧w.drawn≤w'.drawn:=by
 have h1:=fun W hT hsz=>Lib.hid (Nm a W hT hsz)
 have h2:=fun W hT hsz=>Lib.hid (Nm b W hT hsz)
 have Hx:=Lib.hid (S5 (Ak a 256));have Hy:=Lib.hid (S5 (Ak b 256));generalize Bj (Ak a 256)=x at *;generalize Bj (Ak b 256)=y at *;go_enter Tryz.func156,Tryz.ntmps156;go_upto_region 1 with (fail)
 have hwr:IntKind.i64.wrap (x-y)=x-y:=IntWalk.i64_in _ ⟨by have:=Hx.out;have:=Hy.out;omega,by have:=Hx.out;have:=Hy.out;omega⟩;obtain ⟨W0,hW0⟩:∃ W,((w.alloc (.cells (Aa a) 62)).alloc (.cells (Aa b) 62))=W:=⟨_,rfl⟩;have hE:Ext w W0:=hW0▸((Ext.refl w).alloc (.cells (Aa a) 62)).alloc (.cells (Aa b) 62);have r1:W0.heap[w.heap.size]? = some (.cells (Aa a) 62 (0,0)):=by rw [← hW0];exact Af (Ab w _) _
 have r2:W0.heap[w.heap.size+1]? = some (.cells (Aa b) 62 (0,0)):=by
  rw [← hW0];have:=Ab (w.alloc (.cells (Aa a) 62)) (.cells (Aa b) 62)
  simpa using this
 have hd:w.drawn≤W0.drawn:=by rw [← hW0];exact Nat.le_refl _
 simp only [hW0];have hT':=fun (e:ED W0)=>hT.below (hE.trans e.ext).below hsz
 have hs':=fun (e:ED W0)=>Nat.lt_of_lt_of_le hsz (hE.trans e.ext).size
 have h1':=fun (e:ED W0)=>h1 e.W (hT' e) (hs' e)
 have h2':=fun (e:ED W0)=>h2 e.W (hT' e) (hs' e)
 obtain ⟨a0,a1,a2,a3⟩:=T2 r1;obtain ⟨b0,b1,b2,b3⟩:=T2 r2;clear h1 h2 hT' hs' r1 r2 hW0;refine Zf (by kernel_rfl) (by kernel_rfl) ?_;iterate 6 (refine wpQuiet_step (fun K hK=>?_);go_simp;first|(refine hK _ ?_;clear hK K)|(apply Exists.intro;refine ⟨fun _=>?_,hK _ ?_⟩;(first|(with_reducible exact Uu (h1' _).out)|(with_reducible exact Uu (h2' _).out));clear hK K))
 refine wpQuiet_nil ?_;rintro _ ⟨e,rfl⟩;go_wp2;go_ret;exact ⟨rfl,hE.trans e.ext,Nat.le_trans hd e.drawn⟩
def I4 (a b:Cls):Int:=Bj (Ak a 256)-Bj (Ak b 256)
open Go.RowKit Go.Shelf
def B2 (c:Cls):List Value:=[.int .u64 (wd c 0),.int .u64 (wd c 1),.int .u64 (wd c 2),.int .u64 (wd c 3)]
theorem Tv (c:Cls):∀ j,j<4→(B2 c)[j]! = .int .u64 (wd c j)
 | 0,_=>rfl
 | 1,_=>rfl
 | 2,_=>rfl
 | 3,_=>rfl
 | n+4,h=>by omega
def Dg (L:List Cls):List Value:=L.flatMap B2
theorem Kt (L M:List Cls):Dg (L++M)=Dg L++Dg M:=by simp [Dg]
theorem Ks (c:Cls):Dg [c]=B2 c:=by simp [Dg]
theorem N1 (L:List Cls):(Dg L).length=L.length*4:=by
 induction L with
 | nil=>rfl
 | cons c L ih=>
  show (B2 c++Dg L).length=_;rw [List.length_append,ih,List.length_cons];show 4+_=_;omega
theorem Ha (L:List Cls):∀ i,i<L.length*4→(Dg L)[i]? = some (.int .u64 (wd (L.getD (i / 4) 0#256) (i % 4))):=by
 induction L with
 | nil=>intro i h;simp at h
 | cons c L ih=>
  intro i h;show (B2 c++Dg L)[i]? = _;by_cases h4:i<4
  ·rw [List.getElem?_append_left (show i<(B2 c).length from h4),Nat.div_eq_of_lt h4,Nat.mod_eq_of_lt h4]
   match i,h4 with
   | 0,_=>rfl
   | 1,_=>rfl
   | 2,_=>rfl
   | 3,_=>rfl
   | n+4,h=>omega
  ·simp only [List.length_cons] at h;rw [List.getElem?_append_right (show (B2 c).length≤i from by show 4≤i;omega)];show (Dg L)[i-4]? = _;rw [ih (i-4) (by omega),show i / 4=(i-4) / 4+1 by omega,show i % 4=(i-4) % 4 by omega];rfl
abbrev Row (W:World) (base:Nat) (v:Value) (L:List Cls):Prop:=W.ownsRow base 62 4 v L.length (Dg L)
theorem Row.cells {W:World} {base:Nat} {v:Value} {L:List Cls} (h:Row W base v L) (hn:0<L.length):∃ g cap,v=.slice (some ⟨g,0,none⟩) L.length cap∧base≤g∧g<W.heap.size∧(∀ i,W.frozen? ⟨g,i,none⟩=false)∧
  ∀ i,i<L.length*4→W.cell? ⟨g,0+i,none⟩=some (.int .u64 (wd (L.getD (i / 4) 0#256) (i % 4))):=by
 obtain ⟨hl,⟨_,h0⟩|⟨g,cap,cur,rfl,hb,hg,hnc,hcm,hcs,htake⟩⟩:=h
 ·omega
 ·refine ⟨g,cap,rfl,hb,Al hg,fun i=>?_,fun i hi=>?_⟩
  ·simp [World.frozen?,hg]
  ·rw [Nat.zero_add,cell_of_row W g i cur 62 (0,0) hg,← Ha L i hi,← htake,List.getElem?_take,if_pos hi,Array.getElem?_toList]
theorem Row.toCs {W:World} {base:Nat} {v:Value} {L:List Cls} (h:Row W base v L) (hn:L.length≤4611686018427387904):Cs W v L:=by
 refine ⟨hn,?_⟩;by_cases h0:L.length=0
 ·obtain ⟨hl,⟨rfl,_⟩|⟨g,cap,cur,rfl,_⟩⟩:=h
  ·exact .inl ⟨h0,_,_,rfl⟩
  ·exact .inl ⟨h0,_,_,by rw [h0]⟩
 ·obtain ⟨g,cap,rfl,_,hlt,_,hc⟩:=h.cells (by omega);exact .inr ⟨by omega,g,0,cap,rfl,hlt,hc⟩
theorem Row.mono {W:World} {b b':Nat} {v:Value} {L:List Cls} (h:Row W b v L) (hb:b'≤b):Row W b' v L:=by
 obtain ⟨hl,h|⟨g,cap,cur,hv,hg,r⟩⟩:=h
 ·exact ⟨hl,.inl h⟩
 ·exact ⟨hl,.inr ⟨g,cap,cur,hv,Nat.le_trans hb hg,r⟩⟩
theorem Hj {W:World} {b off:Nat} {l:List Cls} (h:∀ i,i<l.length*4→W.cell? ⟨b,off+i,none⟩=some (.int .u64 (wd (l.getD (i / 4) 0#256) (i % 4)))) (k:Nat) (hk:k<l.length) :
  W.cell? ⟨b,off+k*4,none⟩=some (.int .u64 (wd (l.getD k 0#256) 0))∧W.cell? ⟨b,off+k*4+1,none⟩=some (.int .u64 (wd (l.getD k 0#256) 1))∧
  W.cell? ⟨b,off+k*4+2,none⟩=some (.int .u64 (wd (l.getD k 0#256) 2))∧W.cell? ⟨b,off+k*4+3,none⟩=some (.int .u64 (wd (l.getD k 0#256) 3)):=by
 obtain ⟨a0,a1,a2,a3⟩:=Oc h k hk;exact ⟨a0 ⟨W,Ext.refl W⟩,a1 ⟨W,Ext.refl W⟩,a2 ⟨W,Ext.refl W⟩,a3 ⟨W,Ext.refl W⟩⟩
theorem Abm (w:World):Calls Tryz.prog 94 #[.agg zA] w fun e w'=>e=.returned (.agg (Aa allC))∧Ext w w':=by
 have:=Ru 0#256 w
 rwa [Fh] at this
theorem Ad6 (a b c d e f g h:Int) (w:World):(Instr.index 202 (.agg #[.int .u64 a,.int .u64 b,.int .u64 c,.int .u64 d,.int .u64 e,.int .u64 f,.int .u64 g,.int .u64 h]) (.int .i64 0)).run Tryz.prog w=.ok (.agg #[.int .u64 a,.int .u64 b,.int .u64 c,.int .u64 d]) w:=by kernel_rfl
theorem Ad5 (a b c d e f g h:Int) (w:World):(Instr.index 202 (.agg #[.int .u64 a,.int .u64 b,.int .u64 c,.int .u64 d,.int .u64 e,.int .u64 f,.int .u64 g,.int .u64 h]) (.int .i64 1)).run Tryz.prog w=.ok (.agg #[.int .u64 e,.int .u64 f,.int .u64 g,.int .u64 h]) w:=by kernel_rfl
theorem Su:(Tryz.prog.info? 62).map (fun i=>(i.zero,i.size,i.bytes))=some (some (.agg zA),4,32):=by kernel_rfl
def De (x y:Cls):Nat→List Cls
 | 0=>[]
 | 1=>if x=0#256 then [] else [x]
 | _=>(if x=0#256 then [] else [x])++(if y=0#256 then [] else [y])
theorem Z4 (x y:Cls):De x y 0=[]:=rfl
theorem Z3 (S:List Cls) (x y:Cls):S++De x y 1=(S++De x y 0)++if (x==0#256) then [] else [x]:=by simp [De]
theorem Z2 (S:List Cls) (x y:Cls):S++De x y 2=(S++De x y 1)++if (y==0#256) then [] else [y]:=by simp [De]
theorem Q6 (S:List Cls) (x y:Cls) (q:Nat):(S++De x y q).length≤S.length+2:=by
 match q with
 | 0=>simp [De]
 | 1=>simp only [De,List.length_append];split<;>simp
 | n+2=>simp only [De,List.length_append];split<;>split<;>simp
theorem Jv (w:World) (x:Cls):∀ j u,(B2 x)[j]? = some u→(w.alloc (.cells (Aa x) 62)).cell? ((⟨w.heap.size,0,none⟩:Addr).add j)=some u:=by
 intro j u h;rw [show ((⟨w.heap.size,0,none⟩:Addr).add j)=⟨w.heap.size,j,none⟩ by rw [Addr.add_lit,Nat.zero_add],cell_of_row _ _ _ _ 62 (0,0) (heap_alloc_new w _)];rw [← List.getElem?_toArray] at h;exact h
theorem ltC (x y:Cls):ltOf I4 x y=decide (Bj (Ak x 256)<Bj (Ak y 256)):=by
 unfold ltOf I4;by_cases h:Bj (Ak x 256)<Bj (Ak y 256)
 ·simp only [h,decide_true,decide_eq_true_eq];omega
 ·simp only [h,decide_false,decide_eq_false_iff_not];omega
theorem Xd:Go.Sort.SWO (ltOf I4) where
 irrefl x:=by rw [ltC];simp
 trans x y z h1 h2:=by rw [ltC] at *;simp at *;omega
 ntrans x y z h1 h2:=by rw [ltC] at *;simp at *;omega
theorem P9 {α:Type} [Inhabited α] (enc:α→List Value) (k:Nat) (w:World) (blk off m:Nat) (dk:Array α) (os:Array Obj):w.grownBy (sortWorldK enc k w blk off m dk os) (some blk):=by
 refine ⟨rfl,rfl,rfl,Go.Proofs.size_sortWorldK_c enc k w blk off m dk os,fun i hi hne=>?_⟩;have hne':i≠blk:=fun e=>hne (by rw [e])
 unfold sortWorldK Go.Sort.putRowK Go.Sort.putRow Go.Sort.mapBlock;show ((w.heap.modify blk _)++os)[i]? = _;rw [Array.getElem?_append,if_pos (by simpa using hi),Array.getElem?_modify,if_neg (fun e=>hne' e.symm)]
theorem X3 (l:List Cls) (blk off cap:Nat) (w:World) (hT:Tab w) (hb0:0<blk) (hblk:blk<w.heap.size) (hsz:l.length<4611686018427387904)
  (hc:∀ i,i<l.length*4→w.cell? ⟨blk,off+i,none⟩=some (.int .u64 (wd (l.getD (i / 4) 0#256) (i % 4)))) (hf:∀ i,w.frozen? ⟨blk,i,none⟩=false) :
  Calls Tryz.prog 155 #[.slice (some ⟨blk,off,none⟩) l.length cap,.func (.func 156) #[] #[]] w fun e w'=>e=.returned (.tuple #[])∧w.grownBy w' (some blk)∧
   ∃ l':List Cls,l'.length=l.length∧l'.Perm l∧l'.Pairwise (fun a b=>Bj (Ak a 256)≤Bj (Ak b 256))∧∀ i,i<l'.length*4→w'.cell? ⟨blk,off+i,none⟩=some (.int .u64 (wd (l'.getD (i / 4) 0#256) (i % 4))):=by
 have hk:∀ x,(B2 x).length=4:=fun _=>rfl
 have hH:Go.Sort.HoldsK B2 4 w blk off l.toArray:=fun j hj=>by
  rw [Go.Sort.size_flatK] at hj;simp only [List.size_toArray] at hj;refine ⟨?_,hf _⟩;rw [hc j hj,Go.Sort.get_flatK _ _ _ _ (by simpa using hj),Tv _ _ (by omega)]
  congr 2
  have:j / 4<l.length:=by omega
  simp [List.getD_eq_getElem?_getD,this]
 have eg:∀ args w,(callFunc 156 args).run Tryz.prog w=.ok (.enter 156 args) w:=enters_of Tryz.func156 (by kernel_rfl) rfl;have hcmp:CmpLays Tryz.prog 156 #[] B2 4 I4 blk off l.toArray.size w:=fun m os dk _ x y=>by
  have hg:=P9 B2 4 w blk off m dk os;have hT':Tab (sortWorldK B2 4 w blk off m dk os):=fun j hj=>by
   rw [World.cell?_of_block (hg.block 0 (by omega) (fun e=>by injection e with e;omega))];exact hT j hj
  exact (Af9 x y _ hT' (by have:=hg.size;omega)).mono fun e w' ⟨he,hE,hd⟩=>⟨he,Afg hE hd⟩
 have hcon:=AnyQ.slices_SortFunc Tryz.l155 4 Tryz.isAgg62 Tryz.sizeOf62 B2 hk (fun x v hv=>by simp [B2] at hv;rcases hv with rfl|rfl|rfl|rfl<;>rfl) I4 Xd 156 #[] blk off cap l.toArray w eg hcmp hH hblk (by simpa using hsz);change Calls Tryz.prog 155 _ _ _ at hcon
 refine hcon.mono ?_;rintro e w' ⟨he,d',n,os,hp,hs,rfl⟩;have hgr:=P9 B2 4 w blk off n d' os;refine ⟨he,hgr,d'.toList,?_⟩;obtain ⟨hsize,_,hperm⟩:=hp;simp only [List.size_toArray] at hsize hperm hs;have hH':=holdsK_sortWorldK_c B2 4 w blk off l.toArray d' n os hH hblk (by simpa using hsize);have hlen:d'.toList.length=l.length:=by simpa using hsize
 refine ⟨hlen,?_,?_,fun i hi=>?_⟩
 ·have e2:(l.toArray.extract 0 l.length)=l.toArray:=by simp
  have e3:(d'.extract 0 l.length)=d':=by rw [← hsize];simp
  rw [e2,e3] at hperm;exact hperm
 ·rw [List.pairwise_iff_getElem];intro i j hi hj hij;have:=hs i j (Nat.zero_le _) hij (by rw [← hlen];exact hj);rw [ltC,decide_eq_false_iff_not] at this;have e1:d'[i]! = d'.toList[i]:=by simp at hi;simp [hi]
  have e2:d'[j]! = d'.toList[j]:=by simp at hj;simp [hj]
  rw [e1,e2] at this;omega
 ·have h1:i / 4<d'.size:=by simp at hi;omega
  have:=(hH'.cell (i:=i / 4) (c:=i % 4) h1 (by omega)).1;rw [show off+i / 4*4+i % 4=off+i by omega,Tv _ _ (by omega)] at this;rw [this]
  congr 3
  simp [List.getD_eq_getElem?_getD,h1]
set_option maxRecDepth 100000 in
theorem Ui (l:List Cls) (hl:l.length≤4611686018427387904) (a:Option Addr) (b off cap:Nat) (w:World) (hT:Tab w) (hsz:0<w.heap.size) (ha:0<l.length→a=some ⟨b,off,none⟩)
  (hc:∀ i,i<l.length*4→w.cell? ⟨b,off+i,none⟩=some (.int .u64 (wd (l.getD (i / 4) 0#256) (i % 4)))) :
  Calls Tryz.prog 143 #[.slice a l.length cap] w fun e w'=>∃ v L,e=.returned v∧Cs w' v L∧L.Perm (Dm l)∧L.Pairwise (fun a b=>Bj (Ak a 256)≤Bj (Ak b 256))∧Ext w w':=by
 have hN:=Lib.hid (Abm w);obtain ⟨i0,hi,hz0,hz1,hz2⟩:=info_parts Su;go_enter Tryz.func143,Tryz.ntmps143;go_wp2_with (first|(go_at_call 94;refine hN.out.mono ?_;rintro e w1 ⟨rfl,hE1⟩));clear hN;go_loopw [3,16] (fun v i W=>∃ k:Nat,k≤l.length∧i=.int .i64 k∧Ext w W∧Row W w.heap.size v (Dm (l.take k)))
  (fun _ i _=>l.length-(intOf i).toNat)
 case atStart=>
  refine ⟨0,by omega,rfl,hE1.alloc _,?_⟩;exact ⟨rfl,.inr ⟨w1.heap.size,1,Aa allC,rfl,hE1.size,heap_alloc_new w1 _,Nat.le_refl _,by unfold maxLen;omega,rfl,rfl⟩⟩
 case round=>
  obtain ⟨k,hk,rfl,hE,hrow⟩:=hrel;by_cases hlt:k<l.length
  ·have e:=ha (by omega);obtain ⟨a0,a1,a2,a3⟩:=Hj (W:=wr) (fun i hi=>hE.cell (hc i hi)) k hlt;have HC:=Lib.hid hc;have HA:=Lib.hid ha;clear ha hc;subst e;have HSC:=Lib.hid (Age l k hlt);have HF:=Lib.hid (Tc (l.take k));generalize Dm (l.take k)=C at *;obtain ⟨c,hcd⟩:∃ c,l.getD k 0#256=c:=⟨_,rfl⟩;rw [hcd] at a0 a1 a2 a3 HSC;clear hcd;obtain ⟨g,cap',rfl,hgb,hglt,hgf,hgc⟩:=hrow.cells HF.out.pos;have hC256:=HF.out.len;have hC0:=HF.out.pos;clear hrow hgf;go_wp2;obtain ⟨wi,hwi⟩:∃ W,wr.alloc (.cells (Aa c) 62)=W:=⟨_,rfl⟩;simp only [hwi];have hEi:Ext wr wi:=hwi▸(Ext.refl wr).alloc _;have h5:wi.heap[wr.heap.size]? = some (.cells (Aa c) 62 (0,0)):=hwi▸Ab wr _;have H5:=Lib.hid h5;clear hwi h5 a0 a1 a2 a3;have HGC:=Lib.hid (fun (i:Nat) (hi:i<C.length*4)=>hEi.cell (hgc i hi));clear hgc;go_loopw [6,22] (fun u i W=>∃ j:Nat,j≤C.length∧i=.int .i64 j∧Ext wi W∧Row W wi.heap.size u (Cl c (C.take j)))
    (fun _ i _=>C.length-(intOf i).toNat)
   case atStart=>exact ⟨0,by omega,rfl,Ext.refl wi,World.ownsRow_nil _ _ _ _⟩
   case round=>
    obtain ⟨j,hj,rfl,hEj,hrow⟩:=hrel;by_cases hlt2:j<C.length
    ·obtain ⟨a0,a1,a2,a3⟩:=Hj (W:=wr) (fun i hi=>hEj.cell (HGC.out i hi)) j hlt2;have HSS:=Lib.hid (Xx c C j hlt2);have hlenS:=Xy c (C.take j);rw [List.length_take] at hlenS;generalize Cl c (C.take j)=S at *;obtain ⟨d,hd⟩:∃ d,C.getD j 0#256=d:=⟨_,rfl⟩;rw [hd] at a0 a1 a2 a3 HSS;simp only [Nat.zero_add] at a0 a1 a2 a3;clear hd;go_upto_region 9 with (fail)
     obtain ⟨w2,hw2⟩:∃ W,wr.alloc (.cells (Aa d) 62)=W:=⟨_,rfl⟩;simp only [hw2];have hE2:Ext wr w2:=hw2▸(Ext.refl wr).alloc _;have h8:w2.heap[wr.heap.size]? = some (.cells (Aa d) 62 (0,0)):=hw2▸Ab wr _;clear hw2;obtain ⟨b0,b1,b2,b3⟩:=Kw h8;obtain ⟨c0,c1,c2,c3⟩:=Kw ((hEj.trans hE2).heap H5.out);clear h8 a0 a1 a2 a3;have hrow:=Ah hrow hE2;have hEj:=hEj.trans hE2;have h1:=fun (W:World)=>Lib.hid (Sq d c W)
     have h2:=fun (W:World)=>Lib.hid (Ab2 d c W)
     have HX:=Lib.hid (L7 c d);generalize Db c d=sp at *;generalize d &&& c=x at *;generalize d &&& ~~~c=y at *;go_cut [32,33] (fun v m W=>v=.agg #[.int .u64 (wd x 0),.int .u64 (wd x 1),.int .u64 (wd x 2),.int .u64 (wd x 3),.int .u64 (wd y 0),.int .u64 (wd y 1),.int .u64 (wd y 2),.int .u64 (wd y 3)]∧m=.int .i64 0∧∃ e:EW w2,W=e.W)
     case first=>
      refine Ew (by kernel_rfl) (by kernel_rfl) ?_;iterate 8 (refine wpQuiet_step (fun K hK=>?_);go_simp;first|(refine hK _ ?_;clear hK K)|(apply Exists.intro;refine ⟨fun _=>?_,hK _ ?_⟩;(first|(with_reducible exact Gb (h1 _).out)|(with_reducible exact Gb (h2 _).out));clear hK K))
      refine wpQuiet_nil ?_;rintro _ ⟨e,rfl⟩;go_wp2;go_meet
      exact ⟨rfl,rfl,e,rfl⟩
     case rest=>
      obtain ⟨rfl,rfl,e,rfl⟩:=hcut;have hrow:=Ah hrow e.ext;have hEj:=hEj.trans e.ext;clear b0 b1 b2 b3 c0 c1 c2 c3 h1 h2;generalize e.W=w3 at *;go_wp2_with (fail);go_loopw [6,33] (fun u m W=>∃ q:Nat,q≤2∧m=.int .i64 q∧Ext wi W∧Row W wi.heap.size u (S++De x y q))
       (fun _ m _=>2-(intOf m).toNat)
      case atStart=>exact ⟨0,by omega,rfl,hEj,by rw [Z4,List.append_nil];exact hrow⟩
      case round=>
       obtain ⟨q,hq,rfl,hEq,hrow⟩:=hrel;obtain rfl|rfl|rfl:q=0∨q=1∨q=2:=by omega
       ·have ix:=Ad6 (wd x 0) (wd x 1) (wd x 2) (wd x 3) (wd y 0) (wd y 1) (wd y 2) (wd y 3) wr;have HN:=fun W=>Me x 0#256 W
        rw [Fh] at HN;have hg30:=Iu;have hs1:=hEq.size;have hPl:=Q6 S x y 0;have HP:=Lib.hid (Z3 S x y);generalize S++De x y 0=P at hrow hPl HP;generalize (x==0#256)=bx at HN HP;cases bx
        ·go_wp2_with (at_builtin;(refine wpList_append_own _ rfl _ _ 26 rfl wi.heap.size 62 i0 (.agg zA) 4 32 Tryz.underlying26 hi hz0 hz1 hz2 rfl (by decide) _ _ _ rfl ((hrow.alloc _).alloc _) _ 1 1 (B2 x) rfl rfl ?_ (by simp [B2,Value.oneCell']) (by unfold maxLen;omega) (by omega) (by simp;omega) ?_))
         ·have:=Jv (wr.alloc (.cells (Aa x) 62)) x
          rwa [World.size_alloc] at this
         ·intro v' w4 hrow' hgrow _;have hE4:Ext wi w4:=((hEq.alloc _).alloc _).grown hgrow (fun g e=>(hrow.lt g e).1);clear hrow hgrow HN ix;go_wp2;go_roundw
          case rel=>
           refine ⟨1,by omega,rfl,hE4,?_⟩;rw [HP.out];simp only [Bool.false_eq_true,if_false];show World.ownsRow _ _ _ _ _ _ _;rw [List.length_append,Kt,Ks];exact hrow'
          case measure=>simp [intOf]
        ·go_wp2;refine ⟨⟨1,by omega,rfl,hEq.alloc _,?_⟩,by simp [intOf]⟩;rw [HP.out];simp only [if_true,List.append_nil];exact hrow.alloc _
       ·have ix:=Ad5 (wd x 0) (wd x 1) (wd x 2) (wd x 3) (wd y 0) (wd y 1) (wd y 2) (wd y 3) wr;have HN:=fun W=>Me y 0#256 W
        rw [Fh] at HN;have hg30:=Iu;have hs1:=hEq.size;have hPl:=Q6 S x y 1;have HP:=Lib.hid (Z2 S x y);generalize S++De x y 1=P at hrow hPl HP;generalize (y==0#256)=bx at HN HP;cases bx
        ·go_wp2_with (at_builtin;(refine wpList_append_own _ rfl _ _ 26 rfl wi.heap.size 62 i0 (.agg zA) 4 32 Tryz.underlying26 hi hz0 hz1 hz2 rfl (by decide) _ _ _ rfl ((hrow.alloc _).alloc _) _ 1 1 (B2 y) rfl rfl ?_ (by simp [B2,Value.oneCell']) (by unfold maxLen;omega) (by omega) (by simp;omega) ?_))
         ·have:=Jv (wr.alloc (.cells (Aa y) 62)) y
          rwa [World.size_alloc] at this
         ·intro v' w4 hrow' hgrow _;have hE4:Ext wi w4:=((hEq.alloc _).alloc _).grown hgrow (fun g e=>(hrow.lt g e).1);clear hrow hgrow HN ix;go_wp2;go_roundw
          case rel=>
           refine ⟨2,by omega,rfl,hE4,?_⟩;rw [HP.out];simp only [Bool.false_eq_true,if_false];show World.ownsRow _ _ _ _ _ _ _;rw [List.length_append,Kt,Ks];exact hrow'
          case measure=>simp [intOf]
        ·go_wp2;refine ⟨⟨2,by omega,rfl,hEq.alloc _,?_⟩,by simp [intOf]⟩;rw [HP.out];simp only [if_true,List.append_nil];exact hrow.alloc _
       ·have HP:Hid (S++De x y 2=S++sp):=Lib.hid (by rw [HX.out];rfl);rw [HP.out,← HSS.out] at hrow;go_wp2;go_roundw
        case rel=>exact ⟨j+1,by omega,by go_num,hEq,hrow⟩
        case measure=>simp [intOf];omega
    ·obtain rfl:j=C.length:=by omega
     rw [List.take_length,← HSC.out] at hrow;have hE':=(hE.trans hEi).trans hEj;have hrow':Row wr w.heap.size u6 (Dm (l.take (k+1))):=hrow.mono (hE.trans hEi).size;have ha:=HA.out;have hc:=HC.out;go_wp2;go_roundw
     case rel=>exact ⟨k+1,by omega,by go_num,hE',hrow'⟩
     case measure=>simp [intOf];omega
  ·obtain rfl:k=l.length:=by omega
   rw [List.take_length] at hrow;have HF:=Tc l;obtain ⟨C,hC⟩:∃ C,Dm l=C:=⟨_,rfl⟩;rw [hC] at hrow HF;have HU:=Lib.hid hC;clear hC;obtain ⟨g,cap',rfl,hgb,hglt,hgf,hgc⟩:=hrow.cells HF.pos;have hsort:=Lib.hid (X3 C g 0 cap' wr (hT.below hE.below hsz) (by omega) hglt (by have:=HF.len;omega) hgc hgf);have hlen:=Lib.hid HF.len;clear hrow hgf hgc ha hc;go_wp2_with (go_at_call 155;refine hsort.out.mono ?_;rintro e w5 ⟨rfl,hg5,L,hL1,hL2,hL3,hL4⟩);go_ret;have hE5:Ext w w5:=hE.grown hg5 (fun k e=>by cases e;exact hgb);refine ⟨_,L,rfl,?_,by rw [HU.out];exact hL2,hL3,hE5⟩;have h5:=hlen.out;have h6:=hg5.size;have hC0:=HF.pos;rw [← hL1];exact ⟨by omega,.inr ⟨by omega,g,0,cap',rfl,by omega,hL4⟩⟩
theorem Uk (l:List Cls) (v:Value) (w:World) (hT:Tab w) (hsz:0<w.heap.size) (h:Cs w v l) :
  Calls Tryz.prog 143 #[v] w fun e w'=>∃ v' L,e=.returned v'∧Cs w' v' L∧L.Perm (Dm l)∧L.Pairwise (fun a b=>Bj (Ak a 256)≤Bj (Ak b 256))∧Ext w w':=by
 obtain ⟨h0,⟨hn,a,cap,rfl⟩|⟨hn,b,off,cap,rfl,hb,hc⟩⟩:=h
 ·have:=Ui l h0 a 0 0 cap w hT hsz (by omega) (fun i hi=>by omega)
  rwa [hn] at this
 ·exact Ui l h0 (some ⟨b,off,none⟩) b off cap w hT hsz (fun _=>rfl) hc
theorem Gm (v:Value) (l:List UInt8) (W:World) (h:By W v l):(convert 22 9 v).run Tryz.prog W=.ok (.string ⟨l.toArray⟩) W:=by
 obtain ⟨h0,⟨hn,a,cap,rfl⟩|⟨hn,b,off,cap,rfl,hb,hc⟩⟩:=h
 ·obtain rfl:l=[]:=List.eq_nil_of_length_eq_zero hn;cases a with
  | some a=>exact run_convert_bytes_back W 22 9 5 a cap [] Tryz.underlying22 Tryz.underlying5 Tryz.underlying9 (fun j hj=>by simp at hj)
  | none=>
   rw [run_convert_bytes_string W 22 9 5 none 0 cap Tryz.underlying22 Tryz.underlying5 Tryz.underlying9]
   kernel_rfl
 ·refine run_convert_bytes_back W 22 9 5 ⟨b,off,none⟩ cap l Tryz.underlying22 Tryz.underlying5 Tryz.underlying9 (fun j hj=>?_);rw [Addr.add_lit,hc j (by omega)];simp [List.getD_eq_getElem?_getD,hj]
def q0:Cls:= ~~~(Jy 97 100)
def q1:Cls:=Jy 97 97
def q2:Cls:=Jy 98 99
def q3:Cls:=Jy 100 100
def k4:Cls:=ofL [97,98,99,97]
def k3:Cls:=ofL [99,97,98]
open Go
theorem Ts {w W':World} {e:EW w} (h:Ext e.W W'):∃ e':EW w,W'=e'.W:=⟨⟨W',e.ext.trans h⟩,rfl⟩
theorem Afn (w:World):∃ e:EW w,w=e.W:=⟨⟨w,Ext.refl w⟩,rfl⟩
theorem Ag {W:World} {b b':Nat} {e e':TypeId} {s s' n m:Nat} {v u:Value} {xs ys:List Value} (h:W.ownsRow b e s v n xs) (h':W.ownsRow b' e' s' u m ys) (hne:e≠e'):v.ownBlock=none∨v.ownBlock≠u.ownBlock:=by
 obtain ⟨_,⟨rfl,_⟩|⟨g,cap,cur,rfl,_,hg,_⟩⟩:=h
 ·exact .inl rfl
 ·obtain ⟨_,⟨rfl,_⟩|⟨g',cap',cur',rfl,_,hg',_⟩⟩:=h'
  ·exact .inr (by simp [Value.ownBlock])
  ·refine .inr fun hb=>?_
   have:g=g':=by simpa [Value.ownBlock] using hb
   subst this;rw [hg] at hg';simp at hg';exact hne hg'.2
theorem Aek (L:List Cls) (k:Nat) (c:Cls) (hk:k<L.length) :
  Dg (L.set k c)=((((Dg L).set (k*4) (.int .u64 (wd c 0))).set (k*4+1) (.int .u64 (wd c 1))).set (k*4+1+1) (.int .u64 (wd c 2))).set (k*4+1+1+1) (.int .u64 (wd c 3)):=by
 have hl:=N1 L;apply List.ext_getElem?;intro i;by_cases hi:i<L.length*4
 ·rw [Ha _ i (by simpa using hi)];simp only [List.getElem?_set,List.length_set,hl];by_cases hd:i / 4=k
  ·subst hd;rw [S9 _ _ _ _ hk];have:i % 4=0∨i % 4=1∨i % 4=2∨i % 4=3:=by omega
   rcases this with h|h|h|h
   ·rw [if_neg (by omega),if_neg (by omega),if_neg (by omega),if_pos (by omega),if_pos (by omega),h]
   ·rw [if_neg (by omega),if_neg (by omega),if_pos (by omega),if_pos (by omega),h]
   ·rw [if_neg (by omega),if_pos (by omega),if_pos (by omega),h]
   ·rw [if_pos (by omega),if_pos (by omega),h]
  ·rw [Ta _ _ _ _ _ (Ne.symm hd),if_neg (by omega),if_neg (by omega),if_neg (by omega),if_neg (by omega),Ha _ i hi]
 ·rw [List.getElem?_eq_none (by rw [N1,List.length_set];omega),List.getElem?_eq_none (by simp only [List.length_set,hl];omega)]
theorem Ju {W:World} {base g cap:Nat} {L:List Cls} (h:Row W base (.slice (some ⟨g,0,none⟩) L.length cap) L) (k:Nat) (hk:k<L.length) (c:Cls) :
  Row (W.setCells g (k*4) (Aa c).toList) base (.slice (some ⟨g,0,none⟩) L.length cap) (L.set k c)∧W.grownBy (W.setCells g (k*4) (Aa c).toList) (some g):=by
 have e:W.setCells g (k*4) (Aa c).toList=(((W.setCell ⟨g,k*4,none⟩ (.int .u64 (wd c 0))).setCell ⟨g,k*4+1,none⟩ (.int .u64 (wd c 1))).setCell ⟨g,k*4+1+1,none⟩ (.int .u64 (wd c 2))).setCell ⟨g,k*4+1+1+1,none⟩ (.int .u64 (wd c 3)):=rfl;have h0:=h.stored (k*4) (.int .u64 (wd c 0));have h1:=h0.1.stored (k*4+1) (.int .u64 (wd c 1));have h2:=h1.1.stored (k*4+1+1) (.int .u64 (wd c 2));have h3:=h2.1.stored (k*4+1+1+1) (.int .u64 (wd c 3));rw [e];refine ⟨?_,h0.2.trans (h1.2.trans (h2.2.trans h3.2))⟩;show World.ownsRow _ _ _ _ _ _ _;rw [Aek L k c hk,List.length_set];exact h3.1
theorem Mg {W:World} {base g cap:Nat} {L:List Cls} (h:Row W base (.slice (some ⟨g,0,none⟩) L.length cap) L) (k:Nat) (hk:k<L.length):W.there g (k*4) 4:=by
 intro j hj;refine ⟨?_,h.frozenAt _⟩;rw [h.cellAt _ (by omega),Ha _ _ (by omega)];rfl
abbrev RowB (W:World) (base:Nat) (v:Value) (l:List UInt8):Prop:=W.ownsRow base 5 1 v l.length (l.map bv)
theorem RowB.cell {W:World} {base g n cap:Nat} {l:List UInt8} (h:W.ownsRow base 5 1 (.slice (some ⟨g,0,none⟩) n cap) l.length (l.map bv)) (hn:n=l.length) (k:Nat) (hk:k<l.length):W.cell? ⟨g,k,none⟩=some (bv (l.getD k 0)):=by
 subst hn;rw [World.ownsRow.cellAt h k (by omega)];simp [List.getD_eq_getElem?_getD,hk]
theorem RowB.form {W:World} {base:Nat} {v:Value} {l:List UInt8} (h:RowB W base v l):(v=.slice none 0 0∧l.length=0)∨∃ g cap,v=.slice (some ⟨g,0,none⟩) l.length cap:=by
 obtain ⟨_,h|⟨g,cap,cur,hv,_⟩⟩:=h
 ·exact .inl h
 ·exact .inr ⟨g,cap,hv⟩
theorem Df {W:World} {b:Nat} {e:TypeId} {s n:Nat} {v:Value} {xs:List Value} (h:W.ownsRow b e s v n xs):∃ a cap,v=.slice a n cap:=by
 obtain ⟨_,⟨rfl,rfl⟩|⟨g,cap,cur,rfl,_⟩⟩:=h
 ·exact ⟨_,_,rfl⟩
 ·exact ⟨_,_,rfl⟩
theorem My {W:World} {b:Nat} {e:TypeId} {s n m cap:Nat} {a:Option Addr} {xs:List Value} (h:W.ownsRow b e s (.slice a m cap) n xs) (hn:0<n):∃ g,a=some ⟨g,0,none⟩:=by
 obtain ⟨_,⟨_,h0⟩|⟨g,cap,cur,hv,_⟩⟩:=h
 ·omega
 ·simp at hv;exact ⟨g,hv.1⟩
theorem Kv {W:World} {base g cap:Nat} {L:List Cls} (h:Row W base (.slice (some ⟨g,0,none⟩) L.length cap) L) (k:Nat) (hk:k<L.length) :
  W.cell? ⟨g,k*4,none⟩=some (.int .u64 (wd (L.getD k 0#256) 0))∧W.cell? ⟨g,k*4+1,none⟩=some (.int .u64 (wd (L.getD k 0#256) 1))∧
  W.cell? ⟨g,k*4+2,none⟩=some (.int .u64 (wd (L.getD k 0#256) 2))∧W.cell? ⟨g,k*4+3,none⟩=some (.int .u64 (wd (L.getD k 0#256) 3)):=by
 have H:∀ j,j<4→W.cell? ⟨g,k*4+j,none⟩=some (.int .u64 (wd (L.getD k 0#256) j)):=fun j hj=>by
  rw [h.cellAt _ (by omega),Ha _ _ (by omega),show (k*4+j) / 4=k by omega,show (k*4+j) % 4=j by omega]
 exact ⟨H 0 (by omega),H 1 (by omega),H 2 (by omega),H 3 (by omega)⟩
set_option maxHeartbeats 4000000 in
set_option maxRecDepth 100000 in
theorem Zl (l:List Cls) (v:Value) (w:World) (h:Cs w v l) :
  Calls Tryz.prog 91 #[v] w fun e w'=>∃ v',e=.returned v'∧Cs w' v' (I5 l)∧Ext w w':=by
 have HL:=Lib.hid h;clear h;obtain ⟨i0,hi,hz0,hz1,hz2⟩:=info_parts Su;obtain ⟨j0,hj,hy0,hy1,hy2⟩:=info_parts Ny;go_enter Tryz.func91,Tryz.ntmps91;go_wp2_with (fail);go_loopw [3,4,5] (fun o t i W=>∃ (k:Nat) (out:List Cls) (le:List UInt8),k≤256∧i=.int .i64 k∧Ext w W∧Row W w.heap.size o out∧RowB W w.heap.size t le∧Hid (RInv l k out le))
  (fun _ _ i _=>256-(intOf i).toNat)
 case atStart=>
  refine ⟨0,[],[],by omega,rfl,((Ext.refl w).alloc _).alloc _,?_,?_,Lib.hid (Y3 l)⟩
  ·exact (World.ownsRow_made (base:=w.heap.size) (e:=62) (size:=4) w #[] 0 (by simp) (by unfold maxLen;omega) rfl).alloc _
  ·have h:=World.ownsRow_made (base:=w.heap.size) (e:=5) (size:=1) (w.alloc (.cells #[] 62)) #[] 0 (by simp) (by unfold maxLen;omega) rfl
   rwa [World.size_alloc] at h
 case round=>
  obtain ⟨k,out,le,hk,rfl,hE,hrow,hrb,hinv⟩:=hrel;by_cases hlt:k<256
  ·have hlen:=Lib.hid hinv.out.len;have hbd:=hinv.out.bound;have hol:out.length≤k:=by have:=hlen.out;omega
   obtain ⟨ao,co,rfl⟩:=Df hrow;obtain ⟨al,cl,rfl⟩:=Df hrb;have hw:IntKind.u8.wrap (k:Int)=k:=IntWalk.u8_in _ ⟨by omega,by omega⟩;obtain ⟨wo,hwo⟩:∃ W,W=wr:=⟨_,rfl⟩;subst hwo;have hd:decide ((k:Int)<256)=true:=by simp;omega
   go_wp2_with (fail);go_loopw [6] (fun j W=>∃ m:Nat,m≤out.length∧j=.int .i64 m∧Ext wo W∧Hid (∀ q,q<m→¬ Alk l (le.getD q 0).toNat k))
    (fun j _=>out.length-(intOf j).toNat)
   case atStart=>exact ⟨0,by omega,rfl,Ext.refl wo,Lib.hid (fun q hq=>by omega)⟩
   case round=>
    obtain ⟨m,hm,rfl,hEm,hno⟩:=hrel;have hE':=hE.trans hEm;have hrow:=Ah hrow hEm;have hrb:=Ah hrb hEm;have hs1:=hE'.size;by_cases hm2:m<out.length
    ·have hm3:m<le.length:=by have:=hlen.out;omega
     obtain ⟨g,rfl⟩:=My hrow (by omega);obtain ⟨g',rfl⟩:=My hrb (by have:=hlen.out;omega);have cl:=RowB.cell hrb rfl m hm3;obtain ⟨x,hxd⟩:∃ x,le.getD m 0=x:=⟨_,rfl⟩;rw [hxd] at cl;have HXD:=Lib.hid hxd;clear hxd;have HAB:=Lib.hid (Ahq l x.toNat k);have hx:=x.toNat_lt;have hA:=Lib.hid (Ahr l v (x.toNat:Int) (k:Int) (by omega) (by omega) (by omega) (by omega) wr (HL.out.ext hE'));generalize (l.all fun c=>Bg c (x.toNat:Int)==Bg c (k:Int))=b at hA HAB;cases b
     ·go_wp2_with (go_at_call 123;with_reducible refine hA.out.mono ?_;rintro e w1 ⟨rfl,hE1⟩);clear hA cl;go_roundw
      case rel=>exact ⟨m+1,by omega,by go_num,hEm.trans hE1,Lib.hid fun q hq=>by
       by_cases hqm:q=m
       ·rw [hqm,HXD.out];exact fun ha=>Bool.false_ne_true (HAB.out.2 ha)
       ·exact hno.out q (by omega)⟩
      case measure=>simp [intOf];omega
     ·have hne:((m:Int)==(out.length:Int))=false:=by simp;omega
      have HS:=Lib.hid (Y4 hinv.out (by omega) m hm3 (by rw [HXD.out];exact HAB.out.1 rfl));obtain ⟨a0,a1,a2,a3⟩:=Kv hrow m hm2;generalize out.getD m 0#256=d at *;have hW:=fun W=>Lib.hid (Pj d (k:Int) (by omega) (by omega) W)
      go_wp2_with (first
       | (go_at_call 123;with_reducible refine hA.out.mono ?_;rintro e w1 ⟨rfl,hE1⟩;have a0:=hE1.cell a0;have a1:=hE1.cell a1;have a2:=hE1.cell a2;have a3:=hE1.cell a3;have hrow1:=Ah hrow hE1)
       | (go_at_call 124;with_reducible refine (hW _).out.mono ?_;rintro e w2 ⟨rfl,hE2⟩)
       | (refine wpList_store_mid rfl 62 (.tmp 52) (.tmp 51) rfl g (m*4) (Aa (A4 d (k:Int))) rfl rfl (Mg (Ah hrow1 hE2) m hm2) A3 (Dl _) ?_))
      go_roundw
      case rel=>
       have hr:=Ju (Ah hrow1 hE2) m hm2 (A4 d (k:Int));have hgb:=(hrow.lt g rfl).1;refine ⟨k+1,_,le,by omega,by go_num,((hE'.trans hE1).trans hE2).grown hr.2 (fun q e=>by cases e;exact hgb),?_,?_,HS⟩
       ·have:=hr.1;show World.ownsRow _ _ _ _ _ _ _;rw [List.length_set];rw [show Row _ _ _ _=World.ownsRow _ _ _ _ _ _ _ from rfl,List.length_set] at this;exact this
       ·exact (Ah (Ah hrb hE1) hE2).kept hr.2 (Ag (Ah (Ah hrb hE1) hE2) (Ah hrow1 hE2) (by decide))
      case measure=>simp [intOf];omega
    ·obtain rfl:m=out.length:=by omega
     have heq:((out.length:Int)==(out.length:Int))=true:=by simp
     have HS:=Lib.hid (Y5 hinv.out (by omega) (by rw [← hlen.out];exact hno.out));have hnew:=Jv wr 0#256;rw [Fh] at hnew;have hW:=fun W=>Lib.hid (Pj 0#256 (k:Int) (by omega) (by omega) W)
     have HN:=Lib.hid hnew;clear hnew;go_wp2_with (at_builtin;(refine wpList_append_lies _ rfl _ _ 26 rfl w.heap.size 62 i0 (.agg zA) 4 32 Tryz.underlying26 hi hz0 hz1 hz2 rfl (by decide) _ _ _ rfl (hrow.alloc _) _ 1 1 (B2 0#256) rfl rfl HN.out (by simp [B2,Value.oneCell']) (by decide) (by unfold maxLen;omega) (by omega) (by simp;omega) _ rfl ?_));intro g cap3 w3 hrow3 hgrow3 _ hlt3;have hE3:Ext w w3:=(hE'.alloc _).grown hgrow3 (fun q e=>by have:=(hrow.lt q e).1;omega);have hrb3:=(hrb.alloc _).kept hgrow3 (Ag hrb hrow (by decide));have hs3:=hE3.size;clear HN hgrow3 hrb;go_wp2_with (at_builtin;(refine wpList_append_lies _ rfl _ _ 22 rfl w.heap.size 5 j0 (.int .u8 0) 1 1 Tryz.underlying22 hj hy0 hy1 hy2 rfl (by decide) _ _ _ rfl (hrb3.alloc _) _ 1 1 [.int .u8 (k:Int)] rfl rfl (cell_one_new _ _ _) (by simp [Value.oneCell']) (by decide) (by unfold maxLen;omega) (by omega) (by simp;omega) _ rfl ?_));intro g4 cap4 w4 hrb4 hgrow4 _ hlt4;have hE4:Ext w w4:=(hE3.alloc _).grown hgrow4 (fun q e=>by have:=(hrb3.lt q e).1;omega);have hrow4:=(hrow3.alloc _).kept hgrow4 (Ag hrow3 hrb3 (by decide));have HR4:Hid (Row w4 w.heap.size (.slice (some ⟨g,0,none⟩) (out++[0#256]).length cap3) (out++[0#256])):=Lib.hid (by
      show World.ownsRow _ _ _ _ _ _ _;rw [Kt,Ks,List.length_append];exact hrow4)
     obtain ⟨a0,a1,a2,a3⟩:=Kv HR4.out out.length (by simp);rw [B9] at a0 a1 a2 a3;have hu:((UInt8.ofNat k).toNat:Int)=k:=by rw [u8n k hlt]
     have HU:=Lib.hid hu;clear hu hgrow4 hrb3 hrow3 hrow4;go_wp2_with (first
      | (go_at_call 124;with_reducible refine (hW _).out.mono ?_;rintro e w5 ⟨rfl,hE5⟩)
      | (refine wpList_store_mid rfl 62 (.tmp 52) (.tmp 51) rfl g (out.length*4) (Aa (A4 0#256 (k:Int))) rfl rfl (Mg (Ah HR4.out hE5) out.length (by simp)) A3 (Dl _) ?_))
     go_roundw
     case rel=>
      have hr:=Ju (Ah HR4.out hE5) out.length (by simp) (A4 0#256 (k:Int));have hgb:=(HR4.out.lt g rfl).1;have es:(out++[0#256]).set out.length (A4 0#256 (k:Int))=out++[A4 0#256 (k:Int)]:=by simp
      rw [es] at hr;refine ⟨k+1,out++[A4 0#256 (k:Int)],le++[UInt8.ofNat k],by omega,by go_num,(hE4.trans hE5).grown hr.2 (fun q e=>by cases e;exact hgb),?_,?_,HS⟩
      ·have:=hr.1;simp only [List.length_append,List.length_singleton] at this ⊢;exact this
      ·have:=(Ah hrb4 hE5).kept hr.2 (Ag (Ah hrb4 hE5) (Ah HR4.out hE5) (by decide));show World.ownsRow _ _ _ _ _ _ _;rw [List.length_append,List.map_append,List.map_singleton,bv,HU.out];exact this
     case measure=>simp [intOf];omega
  ·obtain rfl:k=256:=by omega
   have he:=Y6 hinv.out;have hcs:=hrow.toCs (by have:=hinv.out.len;have:=hinv.out.bound;omega);rw [he] at hcs;go_wp2;go_ret;exact ⟨_,rfl,hcs,hE⟩
abbrev iv (x:Nat):Value:=.int .i64 (x:Int)
def Ints (W:World) (v:Value) (l:List Nat):Prop:=Sl W v 1 l.length (fun i=>iv (l.getD i 0))
def Bools (W:World) (v:Value) (l:List Bool):Prop:=Sl W v 1 l.length (fun i=>.bool (l.getD i false))
def Rows (W:World) (v:Value) (N:List (List Nat)):Prop:=
 ∃ vs:List Value,vs.length=N.length∧Sl W v 1 N.length (fun i=>vs.getD i undef)∧∀ i,i<N.length→Ints W (vs.getD i undef) (N.getD i [])
theorem Ints.ext {W W':World} {v:Value} {l:List Nat} (h:Ints W v l) (hE:Ext W W'):Ints W' v l:=Sl.ext h hE
theorem Bools.ext {W W':World} {v:Value} {l:List Bool} (h:Bools W v l) (hE:Ext W W'):Bools W' v l:=Sl.ext h hE
theorem Rows.ext {W W':World} {v:Value} {N:List (List Nat)} (h:Rows W v N) (hE:Ext W W'):Rows W' v N:=by
 obtain ⟨vs,h1,h2,h3⟩:=h;exact ⟨vs,h1,h2.ext hE,fun i hi=>(h3 i hi).ext hE⟩
theorem Sl.form {W:World} {v:Value} {k n:Nat} {f:Nat→Value} (h:Sl W v k n f) (h0:0<n) :
  ∃ b off cap,v=.slice (some ⟨b,off,none⟩) n cap∧∀ i,i<n*k→W.cell? ⟨b,off+i,none⟩=some (f i):=by
 obtain ⟨_,⟨hn,_⟩|⟨_,b,off,cap,hv,_,hc⟩⟩:=h
 ·omega
 ·exact ⟨b,off,cap,hv,hc⟩
theorem Sl.len {W:World} {v:Value} {k n:Nat} {f:Nat→Value} (h:Sl W v k n f):∃ a cap,v=.slice a n cap:=by
 obtain ⟨_,⟨hn,a,cap,rfl⟩|⟨_,b,off,cap,rfl,_⟩⟩:=h
 ·exact ⟨a,cap,by rw [hn]⟩
 ·exact ⟨_,cap,rfl⟩
def IsD (W:World) (v:Value) (d:Dfa):Prop:=∃ vc vn va,v=.agg #[vc,vn,va]∧Cs W vc d.cls∧Rows W vn d.nxt∧Bools W va d.acc
theorem IsD.ext {W W':World} {v:Value} {d:Dfa} (h:IsD W v d) (hE:Ext W W'):IsD W' v d:=by
 obtain ⟨vc,vn,va,hv,h1,h2,h3⟩:=h;exact ⟨vc,vn,va,hv,h1.ext hE,h2.ext hE,h3.ext hE⟩
def Dk (c:Nat→Nat) (n:Nat) (vn va:Value):List Value:=(List.range 256).map (fun b=>iv (c b))++[iv n,vn,va]
def Ai (c:Nat→Nat) (n:Nat) (vn va:Value):Array Value:=(Dk c n vn va).toArray
theorem Dr (c:Nat→Nat) (n:Nat) (vn va:Value):(Ai c n vn va).size=259:=by simp [Ai,Dk]
theorem L1 (c:Nat→Nat) (n:Nat) (vn va:Value) (b:Nat) (hb:b<256):(Ai c n vn va)[b]? = some (iv (c b)):=by
 simp [Ai,Dk,List.getElem?_append_left,hb]
theorem Wy (c:Nat→Nat) (n:Nat) (vn va:Value):(Ai c n vn va)[256]? = some (iv n):=by
 simp [Ai,Dk,List.getElem?_append_right]
theorem Hw (c:Nat→Nat) (n:Nat) (vn va:Value):(Ai c n vn va)[257]? = some vn:=by
 simp [Ai,Dk,List.getElem?_append_right]
theorem Ft (c:Nat→Nat) (n:Nat) (vn va:Value):(Ai c n vn va)[258]? = some va:=by
 simp [Ai,Dk,List.getElem?_append_right]
theorem Fs {c c':Nat→Nat} (h:∀ b,b<256→c b=c' b) (n:Nat) (vn va:Value):Ai c n vn va=Ai c' n vn va:=by
 unfold Ai Dk
 congr 2
 exact List.map_congr_left fun b hb=>by rw [h b (List.mem_range.1 hb)]
theorem Pq (c:Nat→Nat) (n:Nat) (vn va:Value) (b x:Nat) (hb:b<256):(Ai c n vn va).setIfInBounds b (iv x)=Ai (fun y=>if y=b then x else c y) n vn va:=by
 apply Array.ext';rw [Array.toList_setIfInBounds];unfold Ai;simp only;apply List.ext_getElem?;intro i;unfold Dk;rw [List.getElem?_set];by_cases hi:i<256
 ·by_cases e:b=i
  ·subst e;simp [List.getElem?_append_left,hb];omega
  ·simp [List.getElem?_append_left,hi,e,Ne.symm e]
 ·have:b≠i:=by omega
  rw [if_neg this,List.getElem?_append_right (by simp;omega),List.getElem?_append_right (by simp;omega)];simp
theorem Fr (c:Nat→Nat) (n:Nat) (vn va:Value) (hn:vn.oneCell'=true) (ha:va.oneCell'=true):(Ai c n vn va).all (·.oneCell')=true:=by
 rw [Array.all_eq_true_iff_forall_mem];intro x hx;simp only [Ai,Dk,List.mem_toArray,List.mem_append,List.mem_map,List.mem_cons,List.not_mem_nil,or_false] at hx;rcases hx with ⟨b,_,rfl⟩|rfl|rfl|rfl
 ·rfl
 ·rfl
 ·exact hn
 ·exact ha
theorem Bw:(Tryz.prog.info? 108).map (·.size)=some 259:=by kernel_rfl
def IsT (W:World) (A:Array Value) (t:Tbl):Prop:=∃ vn va,A=Ai t.cell t.cells vn va∧Rows W vn t.nxt∧Bools W va t.acc
theorem IsT.ext {W W':World} {A:Array Value} {t:Tbl} (h:IsT W A t) (hE:Ext W W'):IsT W' A t:=by
 obtain ⟨vn,va,hv,h2,h3⟩:=h;exact ⟨vn,va,hv,h2.ext hE,h3.ext hE⟩
end Go.Proofs.YtaiogolidlamiaaGreatDoor
