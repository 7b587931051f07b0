import Derived.Test.YtaiogolidlamiaaGreatDoorM32
import Derived.Test.YtaiogolidlamiaaGreatDoorM05
set_option linter.unusedVariables false
set_option linter.unusedSimpArgs false
namespace Go.Proofs.YtaiogolidlamiaaGreatDoor
set_option maxRecDepth 100000
open Go.RowKit Go.Shelf
set_option maxHeartbeats 1000000 in
theorem Wg (c:Cls) (b:Int) (hb0:0≤b) (hb:b<256) (w:World) :
  Calls Tryz.prog 103 #[.agg (Aa c),.int .i64 b] w fun e w'=>e=.returned (.agg (Aa (A4 c b)))∧Ext w w':=by
 have ⟨h1,h2⟩:=Fq c (b / 64).toNat;have hE:=((Ext.refl w).alloc (.cells (Aa c) 62)).alloc (.cells #[.int .u64 0,.int .u64 0,.int .u64 0,.int .u64 0] 62);have hB:=Af (heap_alloc_new w (.cells (Aa c) 62)) (.cells #[.int .u64 0,.int .u64 0,.int .u64 0,.int .u64 0] 62);have hR:=heap_alloc2_new w (.cells (Aa c) 62) (.cells #[.int .u64 0,.int .u64 0,.int .u64 0,.int .u64 0] 62);go_enter Tryz.func103,Tryz.ntmps103;go_upto_region 1 with (fail)
 generalize (w.alloc (.cells (Aa c) 62)).alloc (.cells #[.int .u64 0,.int .u64 0,.int .u64 0,.int .u64 0] 62)=W at *;have hBd:W.drew.heap[w.heap.size]? = some (.cells (Aa c) 62 (0,0)):=hB;have hc:=(cell_of_row W.drew _ (b / 64).toNat _ _ _ hBd).trans (Fi c _ (by omega));have hf:=frozen_of_row W.drew _ (b / 64).toNat _ _ hBd;have htd:IntKind.i64.wrap (b.tdiv 64)=((b / 64).toNat:Int):=by
  rw [Int.tdiv_eq_ediv_of_nonneg hb0];simp [IntKind.wrap,IntKind.signed,IntKind.bits];omega
 have htm:b.tmod 64=b % 64:=Int.tmod_eq_emod_of_nonneg hb0;have hm0:0≤b % 64:=by omega
 have hm1:b % 64≤64:=by omega
 have hq4:((b / 64).toNat:Int)<4:=by omega
 have HAV:=Lib.hid (Oz c b hb0 hb);have HAR:=Lib.hid (O0 c b hb0 hb);generalize (b / 64).toNat=q at *;refine Cr 11 [(0,true),(1,true),(2,true),(3,true),(4,true),(5,true),(6,true),(7,true),(8,true),(9,true),(10,true),(11,false)] (by kernel_rfl) (by kernel_rfl) (fun _ _ _ _ h=>h)
  (fun X=>X.cell? ⟨w.heap.size,q,none⟩=some (.int .u64 (wd c q))) hc ?_
 iterate 11
  refine Au (v:=?_) rfl rfl (fun X hX=>?_) ?_
  rotate_left
  ·go_simp;first|done|with_reducible rfl
  simp only [Act.put,List.setIfInBounds_toArray,List.set_cons_zero,List.set_cons_succ]
 refine Bz rfl (fun K hK=>?_);go_simp;refine hK _ _ (fun h=>absurd h (by omega)) ?_;clear hK K hc hf;refine Cu ?_;rw [HAV.out,setCell_eq_setRow W _ _ _ _ _ _ hB,HAR.out];have HB:=Lib.hid (setRow_heap W w.heap.size _ (Aa (A4 c b)) _ _ hB);have HR:=Lib.hid (Bq hR (show w.heap.size+1≠w.heap.size by omega) (Aa (A4 c b)));have hE2:=hE.setRow (Nat.le_refl w.heap.size) (Aa (A4 c b));clear hE hB hR hBd;obtain ⟨w3,hw3⟩:∃ X,W.setRow w.heap.size (Aa (A4 c b))=X:=⟨_,rfl⟩;rw [hw3] at HB HR hE2;rw [hw3];have HBd:Hid (w3.drew.heap[w.heap.size]? = some (.cells (Aa (A4 c b)) 62 (0,0))):=Lib.hid HB.out;have HRd:Hid (w3.drew.heap[w.heap.size+1]? = some (.cells #[.int .u64 0,.int .u64 0,.int .u64 0,.int .u64 0] 62 (0,0))):=Lib.hid HR.out;go_wp2_with (first
  | (refine wpList_load_row rfl 62 _ rfl _ rfl _ _ _ _ HBd.out Tryz.underlying62 rfl A3 ?_)
  | (refine wpList_store_row rfl 62 _ _ rfl _ _ rfl rfl _ _ HRd.out A3 rfl (Dl _) ?_))
 refine bodyPost_ret (v:=.agg (Aa (A4 c b))) (results_cell_row rfl _ _ _ _ _ _ _ rfl (setRow_heap w3.drew _ _ (Aa (A4 c b)) 62 (0,0) HRd.out) Tryz.underlying62 rfl A3) rfl ?_;exact ⟨rfl,hE2.drew.setRow (by omega) _⟩
def lkL (n x:Nat):Nat:=if 97≤x∧x<97+n then x-97 else n
theorem Gy (n x:Nat):lkL n x<n+1:=by unfold lkL;split<;>omega
def D2 (n:Nat):Nat→Nat→Cls
 | 0,_=>0#256
 | b+1,k=>if lkL n b=k then A4 (D2 n b k) (b:Int) else D2 n b k
theorem F2 (n:Nat):∀ (b k x:Nat),b≤256→((D2 n b k).getLsbD x=true↔x<b∧lkL n x=k)
 | 0,k,x,_=>by simp [D2]
 | b+1,k,x,hb=>by
  have ih:=F2 n b k x (by omega);unfold D2;by_cases e:lkL n b=k
  ·rw [if_pos e,Iv _ b x (by omega),Bool.or_eq_true,decide_eq_true_eq,ih];constructor
   ·rintro (⟨h1,h2⟩|rfl)
    ·exact ⟨by omega,h2⟩
    ·exact ⟨by omega,e⟩
   ·rintro ⟨h1,h2⟩;by_cases hx:x=b
    ·exact .inr hx
    ·exact .inl ⟨by omega,h2⟩
  ·rw [if_neg e,ih];constructor
   ·rintro ⟨h1,h2⟩;exact ⟨by omega,h2⟩
   ·rintro ⟨h1,h2⟩;refine ⟨?_,h2⟩;rcases Nat.lt_or_ge x b with h|h
    ·exact h
    ·obtain rfl:x=b:=by omega
     exact absurd h2 e
def Bu (n b:Nat):List Cls:=(List.range (n+1)).map fun k=>D2 n b k
theorem C3 (n b:Nat):(Bu n b).length=n+1:=by simp [Bu]
theorem Sj (n b k:Nat) (hk:k<n+1):(Bu n b).getD k 0#256=D2 n b k:=Ci _ _ _ _ hk
theorem Ac5 (n b:Nat):(Bu n b).set (lkL n b) (A4 (D2 n b (lkL n b)) (b:Int))=Bu n (b+1):=by
 apply List.ext_getElem?;intro i;rw [List.getElem?_set,C3];by_cases hi:i<n+1
 ·simp only [Bu,List.getElem?_map,List.getElem?_range hi,Option.map_some,D2];by_cases e:lkL n b=i
  ·subst e;simp [hi]
  ·simp [e]
 ·rw [List.getElem?_eq_none (show (Bu n b).length≤i by rw [C3];omega),List.getElem?_eq_none (show (Bu n (b+1)).length≤i by rw [C3];omega),if_neg (by have:=Gy n b;omega)]
theorem Kj (n:Nat) (hn:n≤100):Parts (Bu n 256) where
 nz:=fun c hc=>by
  obtain ⟨k,hk,rfl⟩:=List.mem_map.1 hc;have hk:=List.mem_range.1 hk;by_cases e:k=n
  ·subst e;exact Fd ((F2 k 256 k 0 (Nat.le_refl _)).2 ⟨by omega,by simp [lkL]⟩)
  ·exact Fd ((F2 n 256 k (97+k) (Nat.le_refl _)).2 ⟨by omega,by unfold lkL;rw [if_pos (by omega)];omega⟩)
 dis:=by
  unfold Bu;rw [List.pairwise_map];refine (List.nodup_iff_pairwise_ne.1 List.nodup_range).imp fun {i j} hij x hx=>hij ?_
  have h1:=(F2 n 256 i x (Nat.le_refl _)).1 hx.1;have h2:=(F2 n 256 j x (Nat.le_refl _)).1 hx.2;exact h1.2.symm.trans h2.2
 cov:=fun x hx=>⟨D2 n 256 (lkL n x),List.mem_map.2 ⟨_,List.mem_range.2 (Gy n x),rfl⟩,(F2 n 256 _ x (Nat.le_refl _)).2 ⟨hx,rfl⟩⟩
theorem Ac4 (n:Nat):Bu n 0=List.replicate (n+1) 0#256:=by
 apply List.ext_getElem?;intro i;simp only [Bu,List.getElem?_map,List.getElem?_replicate,D2];by_cases h:i<n+1
 ·simp [h]
 ·simp [h]
theorem Acd (n:Nat):(madeCells (Value.agg zA).cells (n*4)).toList=Dg (List.replicate n 0#256):=by
 have hc:(Value.agg zA).cells=#[.int .u64 0,.int .u64 0,.int .u64 0,.int .u64 0]:=rfl;apply List.ext_getElem?;intro i;rw [hc];by_cases hi:i<n*4
 ·rw [Ha _ i (by rw [List.length_replicate];exact hi)];have h4:i % 4=0∨i % 4=1∨i % 4=2∨i % 4=3:=by omega
  have hz:(List.replicate n 0#256).getD (i / 4) 0#256=0#256:=by
   rw [List.getD_eq_getElem?_getD,List.getElem?_replicate];split<;>rfl
  rw [hz];rcases h4 with h|h|h|h<;>simp [madeCells,hi,h]<;>rfl
 ·rw [List.getElem?_eq_none (by simp [madeCells];omega),List.getElem?_eq_none (by rw [N1,List.length_replicate];omega)]
set_option maxHeartbeats 2000000 in
theorem Ac3 (n:Nat) (hn:n≤100) (w:World) :
  Calls Tryz.prog 67 #[iv n] w fun e w'=>∃ v,e=.returned v∧Cs w' v (Bu n 256)∧Ext w w':=by
 obtain ⟨i0,hi,hz0,hz1,hz2⟩:=info_parts (show (Tryz.prog.info? 62).map (fun i=>(i.zero,i.size,i.bytes))=some (some (.agg zA),4,32) by kernel_rfl);go_enter Tryz.func67,Tryz.ntmps67;go_upto_region 2 with (at_make;refine wpList_make_full _ rfl _ _ 26 rfl w.heap.size 62 i0 (.agg zA) 4 Tryz.underlying26 hi hz0 hz1 .i64 .i64 _ _ (n+1) rfl rfl rfl rfl (by rw [hz2];omega) (by unfold maxLen;omega) (Nat.le_refl _) ?_;intro w3 hown3 hgrow3)
 have hE3:=(Ext.refl w).grown hgrow3 (fun k e=>by cases e);have hR3:Row w3 w.heap.size (.slice (some ⟨w.heap.size,0,none⟩) (n+1) (n+1)) (Bu n 0):=by
  rw [Acd,← Ac4] at hown3;show World.ownsRow _ _ _ _ _ _ _;rw [C3];exact hown3
 clear hown3 hgrow3;go_wp2_with (fail);go_loopw [4] (fun v W=>∃ b:Nat,b≤256∧v=.int .i64 b∧Ext w W∧Row W w.heap.size (.slice (some ⟨w.heap.size,0,none⟩) (n+1) (n+1)) (Bu n b))
  (fun v _=>256-(intOf v).toNat)
 case atStart=>exact ⟨0,by omega,rfl,hE3,hR3⟩
 case round=>
  clear hE3 hR3;obtain ⟨b,hb,rfl,hE,hR⟩:=hrel;by_cases hlt:b<256
  ·obtain ⟨k,hk,hkl⟩:∃ k,lkL n b=k∧k<n+1:=⟨_,rfl,Gy n b⟩;have hkd:lkL n b=if 97≤b∧b<97+n then b-97 else n:=rfl
   have hS:=Lib.hid (Ac5 n b);rw [hk] at hS hkd;have hR':Row wr w.heap.size (.slice (some ⟨w.heap.size,0,none⟩) (Bu n b).length (n+1)) (Bu n b):=by rw [C3];exact hR
   obtain ⟨a0,a1,a2,a3⟩:=Kv hR' k (by rw [C3];exact hkl);rw [Sj n b k hkl] at a0 a1 a2 a3;have HR:=Lib.hid hR';generalize D2 n b k=c at *;have hW:=fun W=>Lib.hid (Wg c (b:Int) (by omega) (by omega) W)
   have HE:=Lib.hid hE;have hfin:∀ w2,Ext wr w2→Hid (w2.there w.heap.size (k*4) 4)∧Hid (Ext w (w2.setCells w.heap.size (k*4) (Aa (A4 c (b:Int))).toList))∧Hid (Row (w2.setCells w.heap.size (k*4) (Aa (A4 c (b:Int))).toList) w.heap.size (.slice (some ⟨w.heap.size,0,none⟩) (n+1) (n+1)) (Bu n (b+1))):=fun w2 h2=>by
    have hr2:=Ah hR' h2;have hr:=Ju hr2 k (by rw [C3];exact hkl) (A4 c (b:Int));refine ⟨Lib.hid (Mg hr2 k (by rw [C3];exact hkl)),Lib.hid ((hE.trans h2).grown hr.2 (fun q e=>by cases e;exact Nat.le_refl _)),Lib.hid ?_⟩;have h1:=hr.1;rw [hS.out,C3] at h1;exact h1
   have hkn:(k:Int)<(n:Int)+1:=by omega
   have hk0:(k:Int)<100+1:=by omega
   clear hR hR' hk hE hS;rcases (show b<97∨(97≤b∧97+n≤b)∨(97≤b∧b<97+n) by omega) with h|⟨h,h'⟩|⟨h,h'⟩
   ·rw [if_neg (by omega)] at hkd;subst hkd;have hc1:¬ (97:Int)≤b:=by omega
    go_wp2_with (first
     | (go_at_call 103;with_reducible refine (hW _).out.mono ?_;rintro e w2 ⟨rfl,hE2⟩;obtain ⟨f1,f2,f3⟩:=hfin w2 hE2)
     | (refine wpList_store_mid rfl 62 (.tmp 32) (.tmp 31) rfl w.heap.size (k*4) (Aa (A4 c (b:Int))) rfl rfl f1.out A3 (Dl _) ?_))
    go_roundw
    case rel=>exact ⟨b+1,by omega,by go_num,f2.out,f3.out⟩
    case measure=>simp [intOf];omega
   ·rw [if_neg (by omega)] at hkd;subst hkd;have hc1:(97:Int)≤b:=by omega
    have hwr:IntKind.i64.wrap (97+(k:Int))=97+(k:Int):=IntWalk.i64_in _ ⟨by omega,by omega⟩;have hc2:¬ (b:Int)<97+(k:Int):=by omega
    go_wp2_with (first
     | (go_at_call 103;with_reducible refine (hW _).out.mono ?_;rintro e w2 ⟨rfl,hE2⟩;obtain ⟨f1,f2,f3⟩:=hfin w2 hE2)
     | (refine wpList_store_mid rfl 62 (.tmp 32) (.tmp 31) rfl w.heap.size (k*4) (Aa (A4 c (b:Int))) rfl rfl f1.out A3 (Dl _) ?_))
    go_roundw
    case rel=>exact ⟨b+1,by omega,by go_num,f2.out,f3.out⟩
    case measure=>simp [intOf];omega
   ·rw [if_pos ⟨h,h'⟩] at hkd;have hc1:(97:Int)≤b:=by omega
    have hwr:IntKind.i64.wrap (97+(n:Int))=97+(n:Int):=IntWalk.i64_in _ ⟨by omega,by omega⟩;have hc2:(b:Int)<97+(n:Int):=by omega
    have hwk:IntKind.i64.wrap ((b:Int)-97)=(k:Int):=by
     rw [show (b:Int)-97=(k:Int) by omega];exact IntWalk.i64_in _ ⟨by omega,by omega⟩
    clear hkd;go_wp2_with (first
     | (go_at_call 103;with_reducible refine (hW _).out.mono ?_;rintro e w2 ⟨rfl,hE2⟩;obtain ⟨f1,f2,f3⟩:=hfin w2 hE2)
     | (refine wpList_store_mid rfl 62 (.tmp 32) (.tmp 31) rfl w.heap.size (k*4) (Aa (A4 c (b:Int))) rfl rfl f1.out A3 (Dl _) ?_))
    go_roundw
    case rel=>exact ⟨b+1,by omega,by go_num,f2.out,f3.out⟩
    case measure=>simp [intOf];omega
  ·obtain rfl:b=256:=by omega
   have hcs:=hR.toCs (by rw [C3];omega);clear hR;go_wp2;go_ret;exact ⟨_,rfl,hcs,hE⟩
def ByW (W:World) (v:Value) (l:List UInt8):Prop:=
 l.length≤9223372036854775807∧((l.length=0∧∃ a cap,v=.slice a 0 cap)∨
  (0<l.length∧∃ b off cap,v=.slice (some ⟨b,off,none⟩) l.length cap∧b<W.heap.size∧∀ i,i<l.length→W.cell? ⟨b,off+i,none⟩=some (bv (l.getD i 0))))
theorem ByW.ext {W W':World} {v:Value} {l:List UInt8} (h:ByW W v l) (hE:Ext W W'):ByW W' v l:=by
 obtain ⟨h0,h|⟨h1,b,off,cap,hv,hb,hc⟩⟩:=h
 ·exact ⟨h0,.inl h⟩
 ·exact ⟨h0,.inr ⟨h1,b,off,cap,hv,Nat.lt_of_lt_of_le hb hE.size,fun i hi=>hE.cell (hc i hi)⟩⟩
theorem ByW.split {W:World} {v:Value} {l:List UInt8} (h:ByW W v l):∃ a b off cap,v=.slice a l.length cap∧(0<l.length→a=some ⟨b,off,none⟩)∧(0<l.length→b<W.heap.size)∧∀ i,i<l.length→W.cell? ⟨b,off+i,none⟩=some (bv (l.getD i 0)):=by
 obtain ⟨h0,⟨hn,a,cap,rfl⟩|⟨hn,b,off,cap,rfl,hb,hc⟩⟩:=h
 ·exact ⟨a,0,0,cap,by rw [hn],by omega,by omega,by omega⟩
 ·exact ⟨_,b,off,cap,rfl,fun _=>rfl,fun _=>hb,hc⟩
def MadeOk (N M s:Nat) (R:List (List Nat)) (Ac:List Bool):Prop:=
 R.length=s∧Ac.length=s∧∀ j,j<s→(R.getD j []).length=M∧∀ k,k<M→(R.getD j []).getD k 0<N
theorem MadeOk.snoc {N M s:Nat} {R:List (List Nat)} {Ac:List Bool} (h:MadeOk N M s R Ac) {r:List Nat} (hl:r.length=M) (hr:∀ k,k<M→r.getD k 0<N) (b:Bool):MadeOk N M (s+1) (R++[r]) (Ac++[b]):=by
 obtain ⟨h1,h2,h3⟩:=h;refine ⟨by simp [h1],by simp [h2],fun j hj=>?_⟩;by_cases e:j<R.length
 ·rw [Bk _ _ _ _ e];exact h3 j (by omega)
 ·obtain rfl:j=R.length:=by omega
  rw [B9];exact ⟨hl,hr⟩
theorem MadeOk.val {N M:Nat} {R:List (List Nat)} {Ac:List Bool} (h:MadeOk N M N R Ac) (h0:0<N) {C:List Cls} (hC:Parts C) (hM:C.length=M):Val ⟨C,R,Ac⟩ where
 pos:=by show 0<R.length;rw [h.1];exact h0
 accL:=by show Ac.length=R.length;rw [h.1,h.2.1]
 row:=fun s hs=>by
  show (R.getD s []).length=C.length;rw [hM];exact (h.2.2 s (by rw [← h.1];exact hs)).1
 tgt:=fun s hs k hk=>by
  show (R.getD s []).getD k 0<R.length;rw [h.1];exact (h.2.2 s (by rw [← h.1];exact hs)).2 k (by rw [← hM];exact hk)
 parts:=hC
theorem RowsO.moved {W W':World} {base:Nat} {vs:List Value} {R:List (List Nat)} {g g7:Nat} {o:Obj} (h:RowsO W base vs R (fun o=>o=some g)) (hg:some g=some g7∨g7=(W.alloc o).heap.size) (hgr:(W.alloc o).grownBy W' (some g)):RowsO W' base vs R (fun o=>o=some g7):=by
 refine RowsO.kept ((h.av (av':=fun o=>o=some g∨o=some g7) (fun v l ho hav e=>?_)).alloc o) hgr (fun v l ho hav=>.inr fun e=>hav (.inl e)) |>.av (fun v l ho hav e=>hav (.inr e))
 rcases e with e|e
 ·exact hav e
 ·rcases hg with h7|h7
  ·exact hav (by show _=some g;rw [h7,← e])
  ·have:=(ho.lt _ e).2;rw [World.size_alloc] at h7;omega
structure MadeAt (W:World) (L N:Nat) (R:List (List Nat)) (Ac:List Bool) (vs:List Value) (vn va:Value) (ac:Option Addr) (cc base:Nat):Prop where
 n1:0<N
 n5:N≤5
 l3:L≤3
 cls:Cs W (.slice ac (L+1) cc) (Bu L 256)
 clb:∃ b o,ac=some ⟨b,o,none⟩∧b<base
 nxt:W.ownsRow base 68 1 vn vs.length vs
 acc:OwnB W base va Ac
 rows:RowsO W base vs R (fun _=>False)
 apart:vs.Pairwise fun v v'=>v.ownBlock≠v'.ownBlock
 ok:MadeOk N (L+1) N R Ac
theorem Agc {W:World} {L cc:Nat} {ac:Option Addr} (h:Cs W (.slice ac (L+1) cc) (Bu L 256)):∃ b o,ac=some ⟨b,o,none⟩∧b<W.heap.size+1:=by
 obtain ⟨_,⟨h0,_⟩|⟨_,b,o,cap,he,hb,_⟩⟩:=h
 ·rw [C3] at h0;omega
 ·injection he with he _ _
  exact ⟨b,o,he,by omega⟩
theorem Sl.grown {W W':World} {b o c m k n:Nat} {f:Nat→Value} {row:Option Nat} (h:Sl W (.slice (some ⟨b,o,none⟩) m c) k n f) (hg:W.grownBy W' row) (hne:some b≠row):Sl W' (.slice (some ⟨b,o,none⟩) m c) k n f:=by
 obtain ⟨h0,⟨hn,a,cap,he⟩|⟨hn,b',off,cap,he,hb,hc⟩⟩:=h
 ·exact ⟨h0,.inl ⟨hn,a,cap,he⟩⟩
 ·have e1:b=b':=by
   injection he with e1 _ _
   injection e1 with e1
   injection e1
  subst e1;refine ⟨h0,.inr ⟨hn,_,_,_,he,Nat.lt_of_lt_of_le hb hg.size,fun i hi=>?_⟩⟩;rw [World.cell?_of_block (hg.block b hb hne)];exact hc i hi
set_option maxHeartbeats 4000000 in
theorem Ace (S A:Nat) (hS:S<256) (hA:A<256) (vt:Value) (l:List UInt8) (w:World) (ht:ByW w vt l) :
  Calls Tryz.prog 26 #[.agg #[.int .u8 S,vt,.int .u8 A]] w fun e w'=>∃ L N R Ac vs vn va ac cc base,e=.returned (.agg (dA (.slice ac (L+1) cc) vn va))∧MadeAt w' L N R Ac vs vn va ac cc base∧w.heap.size≤base∧Ext w w':=by
 obtain ⟨i0,hi,hz0,hz1,hz2⟩:=info_parts Cv;obtain ⟨i4,hi4,hy0,hy1,hy2⟩:=info_parts Eb;obtain ⟨i6,hi6,hx0,hx1,hx2⟩:=info_parts (show (Tryz.prog.info? 68).map (fun i=>(i.zero,i.size,i.bytes))=some (some (.slice none 0 0),1,24) by kernel_rfl);obtain ⟨N,hN⟩:∃ N,1+S % 5=N:=⟨_,rfl⟩;obtain ⟨L,hL⟩:∃ L,1+S / 5 % 3=L:=⟨_,rfl⟩;have hNe:Hid (1+(S:Int) % 5=(N:Int)):=Lib.hid (by omega);have hLe:Hid (1+(S:Int) / 5 % 3=(L:Int)):=Lib.hid (by omega);have hN1:0<N:=by omega
 have hN5:N≤5:=by omega
 have hL1:L≤3:=by omega
 clear hN hL;have f67:=fun W=>Lib.hid (Ac3 L (by omega) W)
 have hl63:=ht.1;obtain ⟨at',bt,ot,ct,rfl,ha1,ha2,ha3⟩:=ht.split;have hcl:0<l.length→∃ b o,at'=some ⟨b,o,none⟩∧∀ i,i<l.length→w.cell? ⟨b,o+i,none⟩=some (bv (l.getD i 0)):=fun h0=>⟨bt,ot,ha1 h0,ha3⟩
 have hE0:=((Ext.refl w).alloc (.cells #[.int .u8 S,.slice at' l.length ct,.int .u8 A] 24)).alloc (.cells #[.slice none 0 0,.slice none 0 0,.slice none 0 0] 30);have H0:=Af (Ab w (.cells #[.int .u8 S,.slice at' l.length ct,.int .u8 A] 24)) (.cells #[.slice none 0 0,.slice none 0 0,.slice none 0 0] 30);have H1:=heap_alloc2_new w (.cells #[.int .u8 S,.slice at' l.length ct,.int .u8 A] 24) (.cells #[.slice none 0 0,.slice none 0 0,.slice none 0 0] 30);have HCL:=Lib.hid hcl;clear ht hcl ha1 ha2 ha3;go_enter Tryz.func26,Tryz.ntmps26;go_upto_region 1 with (fail)
 obtain ⟨w1,hw1⟩:∃ W,(w.alloc (.cells #[.int .u8 S,.slice at' l.length ct,.int .u8 A] 24)).alloc (.cells #[.slice none 0 0,.slice none 0 0,.slice none 0 0] 30)=W:=⟨_,rfl⟩;have hs1:w1.heap.size=w.heap.size+1+1:=by rw [← hw1,World.size_alloc,World.size_alloc]
 rw [hw1] at hE0 H0 H1;simp only [hw1];clear hw1;have HB0:=Lib.hid H0;have HB1:=Lib.hid H1;have HX0:Hid (∀ W,Ext w1 W→W.cell? ⟨w.heap.size,0,none⟩=some (.int .u8 S)∧W.cell? ⟨w.heap.size,1,none⟩=some (.slice at' l.length ct)∧W.cell? ⟨w.heap.size,2,none⟩=some (.int .u8 A)):=Lib.hid fun W hW=>by
  exact ⟨(cell_of_row W _ 0 _ _ _ (hW.heap HB0.out)).trans rfl,(cell_of_row W _ 1 _ _ _ (hW.heap HB0.out)).trans rfl,(cell_of_row W _ 2 _ _ _ (hW.heap HB0.out)).trans rfl⟩
 clear H0 H1;have HE0:=Lib.hid hE0;clear hE0;have kx:=(HX0.out w1 (Ext.refl w1)).1;have f67:∀ W,Ext w1 W→Hid (Calls Tryz.prog 67 #[iv L] W fun e w'=>∃ a c,e=.returned (.slice a (L+1) c)∧Cs w' (.slice a (L+1) c) (Bu L 256)∧Ext w1 w'):=fun W hW=>Lib.hid ((f67 W).out.mono fun e w' ⟨v,he,hc,hE⟩=>by
  obtain ⟨a,c,rfl⟩:=Sl.len hc;rw [C3] at he hc;exact ⟨a,c,he,hc,hW.trans hE⟩)
 go_upto_region 3 with (first
  | (go_at_call 67;rw [hLe.out];(with_reducible refine (f67 _ (Ext.refl w1)).out.mono ?_);rintro e wm ⟨ac,cc,rfl,hcs,hEm⟩;have HCs:=Lib.hid hcs;have HEm:=Lib.hid hEm;have hB30:=Lib.hid (U1 ac (L+1) cc);have hal:=Ab wm (.cells #[.slice none 0 0,.slice none 0 0,.slice none 0 0] 30);clear hcs hEm)
  | (refine Cd rfl 30 _ rfl (dA (.slice ac (L+1) cc) (.slice none 0 0) (.slice none 0 0)) ?_ ?_;(simp [Act.eval];with_reducible exact hB30.out))
  | (refine wpList_store_row rfl 30 (.tmp 4) (.tmp 22) rfl _ _ rfl rfl _ _ hal Ad rfl (Aq _ _ _ rfl rfl rfl) ?_))
 rw [hNe.out];clear hal kx f67 hLe hNe hS;have hE:=((Ext.refl wm).alloc (.cells #[.slice none 0 0,.slice none 0 0,.slice none 0 0] 30)).setRow (Nat.le_refl _) (dA (.slice ac (L+1) cc) (.slice none 0 0) (.slice none 0 0));have hb1:=setRow_heap (wm.alloc (.cells #[.slice none 0 0,.slice none 0 0,.slice none 0 0] 30)) wm.heap.size _ (dA (.slice ac (L+1) cc) (.slice none 0 0) (.slice none 0 0)) _ _ (Ab wm _);have hsz:wm.heap.size+1≤((wm.alloc (.cells #[.slice none 0 0,.slice none 0 0,.slice none 0 0] 30)).setRow wm.heap.size (dA (.slice ac (L+1) cc) (.slice none 0 0) (.slice none 0 0))).heap.size:=by rw [size_setRow,World.size_alloc];omega
 obtain ⟨wa,hwa⟩:∃ W,(wm.alloc (.cells #[.slice none 0 0,.slice none 0 0,.slice none 0 0] 30)).setRow wm.heap.size (dA (.slice ac (L+1) cc) (.slice none 0 0) (.slice none 0 0))=W:=⟨_,rfl⟩;rw [hwa] at hE hb1 hsz;simp only [hwa];clear hwa;have HD:=Lib.hid hb1;clear hb1;have HX:Hid (∀ W,Ext wm W→W.cell? ⟨w.heap.size,1,none⟩=some (.slice at' l.length ct)∧W.cell? ⟨w.heap.size,2,none⟩=some (.int .u8 A)):=Lib.hid fun W hW=>(HX0.out W (HEm.out.trans hW)).2
 have HY:Hid (∀ W,Ext wm W→0<l.length→∃ b o,at'=some ⟨b,o,none⟩∧∀ i,i<l.length→W.cell? ⟨b,o+i,none⟩=some (bv (l.getD i 0))):=Lib.hid fun W hW h0=>by
  obtain ⟨b,o,h1,h2⟩:=HCL.out h0;exact ⟨b,o,h1,fun i hi=>((HE0.out.trans HEm.out).trans hW).cell (h2 i hi)⟩
 have HB1m:=Lib.hid (HEm.out.heap HB1.out);have hs2:w.heap.size+1<wm.heap.size:=by have:=HEm.out.size;omega
 have HEw:=Lib.hid (HE0.out.trans HEm.out);clear HX0 HCL HE0 HEm HB0 HB1 hs1 hB30;have hN0:=World.ownsRow_nil wa (wm.heap.size+1) 68 1;have hA0:=World.ownsRow_nil wa (wm.heap.size+1) 4 1;have hV:RowsO wa (wm.heap.size+1) [] [] (fun _=>False):=⟨rfl,fun j hj=>by simp at hj⟩;have hMk:MadeOk N (L+1) 0 [] []:=⟨rfl,rfl,fun j hj=>by omega⟩;go_wp2_with (fail);go_loopw [5,6] (fun va vi W=>∃ (a s:Nat) (R:List (List Nat)) (Ac:List Bool) (vs:List Value) (vnx vac:Value),s≤N∧va=.int .i64 a∧vi=.int .i64 s∧a≤s*4∧Ext wm W∧wm.heap.size+1≤W.heap.size∧Hid (W.heap[wm.heap.size]? = some (.cells (dA (.slice ac (L+1) cc) vnx vac) 30 (0,0)))∧
   W.ownsRow (wm.heap.size+1) 68 1 vnx vs.length vs∧OwnB W (wm.heap.size+1) vac Ac∧RowsO W (wm.heap.size+1) vs R (fun _=>False)∧Hid (MadeOk N (L+1) s R Ac)∧Hid (vs.Pairwise fun v v'=>v.ownBlock≠v'.ownBlock))
  (fun _ vi _=>N-(intOf vi).toNat)
 case atStart=>exact ⟨0,0,[],[],[],_,_,by omega,rfl,rfl,by omega,hE,hsz,HD,hN0,hA0,hV,Lib.hid hMk,Lib.hid List.Pairwise.nil⟩
 case round=>
  clear hE hsz HD hN0 hA0 hV hMk;obtain ⟨a,s,R,Ac,vs,vnx,vac,hs,rfl,rfl,ha,hE,hsz,HD,hN,hA',hV,HM,HP⟩:=hrel;by_cases hlt:s<N
  ·go_upto_region 8 with (fail)
   have hE5:=hE.alloc (.cells #[] 3);have HD5:=Lib.hid (Af HD.out (.cells #[] 3));have hN5:=hN.alloc (.cells #[] 3);have hA5:=hA'.alloc (.cells #[] 3);have hV5:=(hV.av (av':=fun o=>o=some wr.heap.size) (fun v l ho hav e=>by
    have:=(ho.lt _ e).2;omega)).alloc (.cells #[] 3)
   have hQ5:OwnI (wr.alloc (.cells #[] 3)) (wm.heap.size+1) (.slice (some ⟨wr.heap.size,0,none⟩) 0 0) []:=World.ownsRow_lit (base:=wm.heap.size+1) (e:=3) (size:=1) wr #[] 0 hsz (by unfold maxLen;omega) rfl;have hsz5:wm.heap.size+1≤(wr.alloc (.cells #[] 3)).heap.size:=by rw [World.size_alloc];omega
   obtain ⟨wq,hwq⟩:∃ W,wr.alloc (.cells #[] 3)=W:=⟨_,rfl⟩;rw [hwq] at hE5 HD5 hN5 hA5 hV5 hQ5 hsz5;rw [hwq];clear hwq hE hsz HD hN hA' hV;generalize wr.heap.size=g0 at *;go_wp2_with (fail);go_loopw [5,7,8] (fun va vr vi W=>∃ (a k g c:Nat) (r:List Nat),k≤L+1∧va=.int .i64 a∧vr=.slice (some ⟨g,0,none⟩) r.length c∧vi=.int .i64 k∧a≤s*4+k∧Ext wm W∧wm.heap.size+1≤W.heap.size∧Hid (W.heap[wm.heap.size]? = some (.cells (dA (.slice ac (L+1) cc) vnx vac) 30 (0,0)))∧
     W.ownsRow (wm.heap.size+1) 68 1 vnx vs.length vs∧OwnB W (wm.heap.size+1) vac Ac∧RowsO W (wm.heap.size+1) vs R (fun o=>o=some g)∧OwnI W (wm.heap.size+1) (.slice (some ⟨g,0,none⟩) r.length c) r∧Hid (r.length=k∧∀ j,j<k→r.getD j 0<N))
    (fun _ _ vi _=>L+1-(intOf vi).toNat)
   case atStart=>exact ⟨a,0,g0,0,[],by omega,rfl,rfl,rfl,by omega,hE5,hsz5,HD5,hN5,hA5,hV5,hQ5,Lib.hid ⟨rfl,fun j hj=>by omega⟩⟩
   case round=>
    clear hE5 hsz5 HD5 hN5 hA5 hV5 hQ5 ha;obtain ⟨a,k,g,c,r,hk,rfl,rfl,rfl,ha,hE,hsz,HD,hN,hA',hV,hQ,HR⟩:=hrel;obtain ⟨wo,hwo⟩:∃ W,W=wr:=⟨_,rfl⟩;subst hwo;have c0:=(cell_of_row wo wm.heap.size 0 _ _ _ HD.out).trans (show (dA (.slice ac (L+1) cc) vnx vac)[0]? = some (.slice ac (L+1) cc) from rfl);by_cases hkl:k<L+1
    ·have k1:=(HX.out wo hE).1;have hkI:(k:Int)<(L:Int)+1:=by omega
     go_upto_if 40 with (fail)
     clear c0;go_cut [9] (fun v W=>∃ y:Nat,y<N∧v=iv y∧W=wo)
     case first=>
      by_cases hal:a<l.length
      ·obtain ⟨b,o,rfl,hcs⟩:=HY.out wo hE (by omega);have cx:=hcs a hal;obtain ⟨x,hx⟩:∃ x,l.getD a 0=x:=⟨_,rfl⟩;rw [hx] at cx;have hx8:=x.toNat_lt;clear hcs hx;go_wp2_with (fail);go_meet
       exact ⟨x.toNat % N,Nat.mod_lt _ hN1,rfl,rfl⟩
      ·go_wp2_with (fail);go_meet
       exact ⟨0,hN1,rfl,rfl⟩
     case rest=>
      obtain ⟨y,hy,rfl,rfl⟩:=hcut;clear k1;have hrl:r.length=k:=HR.out.1;have hrb:r.length≤65536:=by omega
      clear hrl;go_wp2_with (at_builtin;refine wpList_append_lies _ rfl _ _ 68 rfl (wm.heap.size+1) 3 i0 (.int .i64 0) 1 8 Tryz.underlying68 hi hz0 hz1 hz2 rfl (by decide) _ _ _ rfl (hQ.alloc _) _ 1 1 [iv y] rfl rfl (cell_one_new _ _ _) (by simp [Value.oneCell']) (by decide) (by unfold maxLen;omega) (by omega) (by simp;omega) _ rfl ?_;intro g7 c7 w7 hQ7 hgr7 hat7 _);have hE7:=(hE.alloc (.cells #[iv y] 3)).grown hgr7 (fun k e=>by have:=(hQ.lt k e).1;omega);have HD7:=Lib.hid ((hgr7.block wm.heap.size (Nat.lt_of_lt_of_le (Al HD.out) (by rw [World.size_alloc];omega)) (fun e=>by have:=(hQ.lt _ e.symm).1;omega)).trans (Af HD.out _));have hN7:=(hN.alloc (.cells #[iv y] 3)).kept hgr7 (Ag hN hQ (by decide));have hA7:=(hA'.alloc (.cells #[iv y] 3)).kept hgr7 (Ag hA' hQ (by decide));have hV7:=hV.moved hat7 hgr7;have hsz7:wm.heap.size+1≤w7.heap.size:=by
       have:=hgr7.size;rw [World.size_alloc] at this;omega
      have HQ7:Hid (OwnI w7 (wm.heap.size+1) (.slice (some ⟨g7,0,none⟩) (r++[y]).length c7) (r++[y])):=Lib.hid (by
       show World.ownsRow _ _ _ _ _ _ _;rw [List.length_append,List.map_append];exact hQ7)
      have HR7:Hid ((r++[y]).length=k+1∧∀ j,j<k+1→(r++[y]).getD j 0<N):=Lib.hid ⟨by rw [List.length_append,HR.out.1];rfl,fun j hj=>by
       rw [Iw,HR.out.1];by_cases hjk:j<k
       ·rw [if_pos hjk];exact HR.out.2 j hjk
       ·rw [if_neg hjk,if_pos (by omega)];exact hy⟩
      clear hgr7 hat7 hE HD hN hA' hV hQ hQ7;go_roundw
      case rel=>exact ⟨a+1,k+1,g7,c7,r++[y],by omega,by go_num,by rw [List.length_append];rfl,by go_num,by omega,hE7,hsz7,HD7,hN7,hA7,hV7,HQ7.out,HR7⟩
      case measure=>simp [intOf];omega
    ·obtain rfl:k=L+1:=by omega
     have hrl:Hid (r.length=L+1):=Lib.hid HR.out.1;have hvb:vs.length≤65536:=by rw [hV.1,HM.out.1];omega
     go_upto_region 16 with (fail)
     clear c0;have c1:=(cell_of_row wo wm.heap.size 1 _ _ _ HD.out).trans (show (dA (.slice ac (L+1) cc) vnx vac)[1]? = some vnx from rfl);go_upto_region 17 with (at_builtin;refine wpList_append_lies _ rfl _ _ 27 rfl (wm.heap.size+1) 68 i6 (.slice none 0 0) 1 24 Tryz.underlying27 hi6 hx0 hx1 hx2 rfl (by decide) vnx vs.length vs rfl (hN.alloc _) _ 1 1 [.slice (some ⟨g,0,none⟩) r.length c] rfl rfl (cell_one_new _ _ _) (by simp [Value.oneCell']) (by decide) (by unfold maxLen;omega) (by omega) (by simp;omega) _ rfl ?_;intro g7 c7 w7 hN7 hgr7 _ _;have HD7:Hid (w7.heap[wm.heap.size]? = _):=Lib.hid ((hgr7.block wm.heap.size (Nat.lt_of_lt_of_le (Al HD.out) (by rw [World.size_alloc];omega)) (fun e=>by have:=(hN.lt _ e.symm).1;omega)).trans (Af HD.out _));have c17:=(cell_of_row w7 wm.heap.size 1 _ _ _ HD7.out).trans (show (dA (.slice ac (L+1) cc) vnx vac)[1]? = some vnx from rfl);have f17:=frozen_of_row w7 wm.heap.size 1 _ _ HD7.out)
     clear c1 c17 f17;have hQ7:=(hQ.alloc (.cells #[.slice (some ⟨g,0,none⟩) r.length c] 68)).kept hgr7 (Ag hQ hN (by decide));have hA7:=(hA'.alloc (.cells #[.slice (some ⟨g,0,none⟩) r.length c] 68)).kept hgr7 (Ag hA' hN (by decide));have hV7:=(hV.alloc (.cells #[.slice (some ⟨g,0,none⟩) r.length c] 68)).kept hgr7 (fun v l ho _=>Ag ho (hN.alloc (.cells #[.slice (some ⟨g,0,none⟩) r.length c] 68)) (by decide));have hE7:=(hE.alloc (.cells #[.slice (some ⟨g,0,none⟩) r.length c] 68)).grown hgr7 (fun k e=>by have:=(hN.lt k e).1;omega);have hsz7:wm.heap.size+1≤w7.heap.size:=by
      have:=hgr7.size;rw [World.size_alloc] at this;omega
     clear hgr7 hQ hA' hV hE hN HD;have hN7:w7.ownsRow (wm.heap.size+1) 68 1 (.slice (some ⟨g7,0,none⟩) (vs.length+1) c7) (vs++[Value.slice (some ⟨g,0,none⟩) r.length c]).length (vs++[Value.slice (some ⟨g,0,none⟩) r.length c]):=by
      rw [List.length_append];exact hN7
     obtain ⟨row,hrowd⟩:∃ v,Value.slice (some ⟨g,0,none⟩) r.length c=v:=⟨_,rfl⟩;have hrowb:row.ownBlock=some g:=by rw [← hrowd];rfl
     rw [hrowd] at hN7 hQ7;clear hrowd;obtain ⟨vn8,hvn8⟩:∃ v,Value.slice (some ⟨g7,0,none⟩) (vs.length+1) c7=v:=⟨_,rfl⟩;rw [hvn8] at hN7;have hgr8:=Bv w7 wm.heap.size (dA (.slice ac (L+1) cc) vn8 vac);have hsc:w7.setCell ⟨wm.heap.size,1,none⟩ vn8=w7.setRow wm.heap.size (dA (.slice ac (L+1) cc) vn8 vac):=setCell_eq_setRow w7 _ _ _ _ _ _ HD7.out;have hE8:=hE7.setRow (Nat.le_refl _) (dA (.slice ac (L+1) cc) vn8 vac);have hQ8:=hQ7.kept hgr8 (Am hQ7 (by omega));have hN8:=hN7.kept hgr8 (Am hN7 (by omega));have hA8:=hA7.kept hgr8 (Am hA7 (by omega));have hV8:=hV7.kept hgr8 (fun v l ho _=>Am ho (by omega));have HD8:=Lib.hid (setRow_heap w7 wm.heap.size _ (dA (.slice ac (L+1) cc) vn8 vac) _ _ HD7.out);have hsz8:wm.heap.size+1≤(w7.setRow wm.heap.size (dA (.slice ac (L+1) cc) vn8 vac)).heap.size:=by rw [size_setRow];exact hsz7
     rw [hvn8,hsc];clear hgr8 hQ7 hN7 hA7 hV7 hE7 hsz7 HD7 hsc;obtain ⟨w8,hw8⟩:∃ W,w7.setRow wm.heap.size (dA (.slice ac (L+1) cc) vn8 vac)=W:=⟨_,rfl⟩;rw [hw8] at hQ8 hN8 hA8 hV8 HD8 hE8 hsz8;rw [hw8];clear hw8;have c2:∀ W:World,W.heap[wm.heap.size]? = some (.cells (dA (.slice ac (L+1) cc) vn8 vac) 30 (0,0))→W.cell? ⟨wm.heap.size,2,none⟩=some vac:=fun W hW=>(cell_of_row W wm.heap.size 2 _ _ _ hW).trans rfl
     refine Cr 11 [(0,true),(1,true),(2,true),(3,true),(4,true),(5,true),(6,true),(7,true),(8,false),(9,false),(10,true),(11,false)] (by kernel_rfl) (by kernel_rfl) (fun _ _ _ _ h=>h)
      (fun W=>Ext wm W∧W.heap[wm.heap.size]? = some (.cells (dA (.slice ac (L+1) cc) vn8 vac) 30 (0,0))) ⟨hE8.drew,HD8.out⟩ ?_
     iterate 8
      refine D7 (v:=?_) rfl rfl (fun W hW=>?_) ?_
      rotate_left
      ·obtain ⟨hWE,hWD⟩:=hW;have k2:=c2 W hWD;have k8:=(HX.out W hWE).2;clear hWD;go_simp;first|done|with_reducible rfl
      simp only [Act.put,List.setIfInBounds_toArray,List.set_cons_zero,List.set_cons_succ]
     have hQ9:=Ah hQ8 (Ext.refl w8).drew;have hN9:=Ah hN8 (Ext.refl w8).drew;have hA9:=Ah hA8 (Ext.refl w8).drew;have hV9:=hV8.kept ((Ext.refl w8).drew.grownBy none) (fun v l _ _=>by cases v.ownBlock<;>simp);have HD9:Hid (w8.drew.heap[wm.heap.size]? = some (.cells (dA (.slice ac (L+1) cc) vn8 vac) 30 (0,0))):=Lib.hid HD8.out;have hE9:=hE8.drew;have hsz9:wm.heap.size+1≤w8.drew.heap.size:=hsz8;obtain ⟨w9,hw9⟩:∃ W,w8.drew=W:=⟨_,rfl⟩;rw [hw9] at hQ9 hN9 hA9 hV9 HD9 hE9 hsz9;rw [hw9];clear hw9 hQ8 hN8 hA8 hV8 HD8 hE8 hsz8;have hAb:Ac.length≤65536:=by rw [HM.out.2.1];omega
     generalize (((A:Int) / (2:Int) ^ s).tmod 2==1)=bx;refine Cg rfl (fun K hK=>?_);go_simp;refine hK _ _ (fun _=>⟨hE9.alloc _,Af HD9.out _⟩) ?_;clear hK K;refine Cg rfl (fun K hK=>?_);refine step_append_lies _ rfl _ _ 28 rfl (wm.heap.size+1) 4 i4 (.bool false) 1 1 Tryz.underlying28 hi4 hy0 hy1 hy2 rfl (by decide) vac Ac.length (Ac.map Value.bool) rfl (hA9.alloc _) _ 1 1 [.bool bx] rfl rfl (cell_one_new _ _ _) (by simp [Value.oneCell']) (by decide) (by unfold maxLen;omega) (by omega) (by simp;omega) _ rfl ?_;intro g10 c10 w10 hA10 hgr10 _ _;have hE10:=(hE9.alloc (.cells #[.bool bx] 4)).grown hgr10 (fun k e=>by have:=(hA9.lt k e).1;omega);have HD10:=Lib.hid ((hgr10.block wm.heap.size (Nat.lt_of_lt_of_le (Al HD9.out) (by rw [World.size_alloc];omega)) (fun e=>by have:=(hA9.lt _ e.symm).1;omega)).trans (Af HD9.out _));have hQ10:=(hQ9.alloc (.cells #[.bool bx] 4)).kept hgr10 (Ag hQ9 hA9 (by decide));have hN10:=(hN9.alloc (.cells #[.bool bx] 4)).kept hgr10 (Ag hN9 hA9 (by decide));have hV10:=(hV9.alloc (.cells #[.bool bx] 4)).kept hgr10 (fun v l ho _=>Ag ho (hA9.alloc (.cells #[.bool bx] 4)) (by decide));have hsz10:wm.heap.size+1≤w10.heap.size:=by
      have:=hgr10.size;rw [World.size_alloc] at this;omega
     have hA10:OwnB w10 (wm.heap.size+1) (.slice (some ⟨g10,0,none⟩) (Ac.length+1) c10) (Ac++[bx]):=by
      show World.ownsRow _ _ _ _ _ _ _;rw [List.length_append,List.map_append];exact hA10
     clear hgr10 hQ9 hN9 hA9 hV9 HD9 hE9 hsz9;refine hK _ _ (fun _=>⟨hE10,HD10.out⟩) ?_;clear hK K;refine D7 (v:=?_) rfl rfl (fun W hW=>?_) ?_
     rotate_left
     ·clear hW;go_simp;first|done|with_reducible rfl
     simp only [Act.put,List.setIfInBounds_toArray,List.set_cons_zero,List.set_cons_succ];have k2:=c2 w10 HD10.out;have f2:=frozen_of_row w10 wm.heap.size 2 _ _ HD10.out;refine Cg rfl (fun K hK=>?_);go_simp;refine hK _ _ (fun h=>absurd h (by omega)) ?_;clear hK K k2 f2 c2;refine Cu ?_;obtain ⟨va8,hva8⟩:∃ v,Value.slice (some ⟨g10,0,none⟩) (Ac.length+1) c10=v:=⟨_,rfl⟩;rw [hva8] at hA10;have hgr11:=Bv w10 wm.heap.size (dA (.slice ac (L+1) cc) vn8 va8);have hsc:w10.setCell ⟨wm.heap.size,2,none⟩ va8=w10.setRow wm.heap.size (dA (.slice ac (L+1) cc) vn8 va8):=setCell_eq_setRow w10 _ _ _ _ _ _ HD10.out;have hE11:=hE10.setRow (Nat.le_refl _) (dA (.slice ac (L+1) cc) vn8 va8);have hQ11:=hQ10.kept hgr11 (Am hQ10 (by omega));have hN11:=hN10.kept hgr11 (Am hN10 (by omega));have hA11:=hA10.kept hgr11 (Am hA10 (by omega));have hV11:=hV10.kept hgr11 (fun v l ho _=>Am ho (by omega));have HD11:=Lib.hid (setRow_heap w10 wm.heap.size _ (dA (.slice ac (L+1) cc) vn8 va8) _ _ HD10.out);have hsz11:wm.heap.size+1≤(w10.setRow wm.heap.size (dA (.slice ac (L+1) cc) vn8 va8)).heap.size:=by rw [size_setRow];exact hsz10
     rw [hva8,hsc];clear hgr11 hQ10 hN10 hA10 hV10 hE10 hsz10 HD10 hsc;obtain ⟨w11,hw11⟩:∃ W,w10.setRow wm.heap.size (dA (.slice ac (L+1) cc) vn8 va8)=W:=⟨_,rfl⟩;rw [hw11] at hQ11 hN11 hA11 hV11 HD11 hE11 hsz11;rw [hw11];clear hw11;have HP12:Hid ((vs++[row]).Pairwise fun v v'=>v.ownBlock≠v'.ownBlock):=Lib.hid (by
      rw [List.pairwise_append];refine ⟨HP.out,List.pairwise_singleton _ _,fun v hv v' hv'=>?_⟩;obtain rfl:=List.mem_singleton.1 hv';obtain ⟨j,hj,rfl⟩:=List.getElem_of_mem hv;rw [hrowb];have:=(hV11.2 j (by rw [← hV11.1];exact hj)).2;rw [List.getD_eq_getElem?_getD,List.getElem?_eq_getElem hj] at this;exact this)
     have hV12:=(hV11.av (av':=fun _=>False) (fun v l _ _ e=>e)).snoc hQ11 (fun e=>e);have HM12:=Lib.hid (HM.out.snoc hrl.out (fun j hj=>HR.out.2 j hj) bx);clear hQ11 hV11 hrl;go_wp2;go_roundw
     case rel=>exact ⟨a,s+1,R++[r],Ac++[bx],vs++[row],vn8,va8,by omega,by go_num,by go_num,by omega,hE11,hsz11,HD11,hN11,hA11,hV12,HM12,HP12⟩
     case measure=>simp [intOf];omega
  ·obtain rfl:s=N:=by omega
   obtain ⟨an,cpn,rfl⟩:=Df hN;obtain ⟨aa,cpa,rfl⟩:=Df hA';have HB1x:=Lib.hid (hE.heap HB1m.out);have hpt:=Kj L (by omega);have hval:=HM.out.val hN1 hpt (C3 _ _);go_wp2_with (first
    | (refine wpList_load_row rfl 30 (.tmp 4) rfl _ rfl _ _ _ _ HD.out Tryz.underlying30 rfl Ad ?_)
    | (refine wpList_store_row rfl 30 (.tmp 2) (.tmp 72) rfl _ _ rfl rfl _ _ HB1x.out Ad rfl (Aq _ _ _ rfl rfl rfl) ?_))
   refine bodyPost_ret (v:=.agg (dA (.slice ac (L+1) cc) (.slice an vs.length cpn) (.slice aa Ac.length cpa))) (results_cell_row rfl _ _ _ _ _ _ _ rfl (setRow_heap wr _ _ (dA (.slice ac (L+1) cc) (.slice an vs.length cpn) (.slice aa Ac.length cpa)) 30 (0,0) HB1x.out) Tryz.underlying30 rfl Ad) rfl ?_;have hgr:=Bv wr (w.heap.size+1) (dA (.slice ac (L+1) cc) (.slice an vs.length cpn) (.slice aa Ac.length cpa));exact ⟨L,s,R,Ac,vs,_,_,ac,cc,wm.heap.size+1,rfl,⟨hN1,hN5,hL1,Sl.setRow (HCs.out.ext hE) HB1x.out (fun i _ o ho=>by cases Ik ho) (by omega) _,Agc HCs.out,hN.kept hgr (Am hN (by omega)),hA'.kept hgr (Am hA' (by omega)),hV.kept hgr (fun v l ho _=>Am ho (by omega)),HP.out,HM.out⟩,by have:=HEw.out.size;omega,(HEw.out.trans hE).setRow (by omega) _⟩
theorem MadeAt.val {W:World} {L N:Nat} {R:List (List Nat)} {Ac:List Bool} {vs:List Value} {vn va:Value} {ac:Option Addr} {cc base:Nat} (h:MadeAt W L N R Ac vs vn va ac cc base):Val ⟨Bu L 256,R,Ac⟩:=
 h.ok.val h.n1 (Kj L (by have:=h.l3;omega)) (C3 _ _)
end Go.Proofs.YtaiogolidlamiaaGreatDoor
