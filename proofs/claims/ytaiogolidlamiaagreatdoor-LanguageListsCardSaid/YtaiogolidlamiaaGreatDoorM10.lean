import Derived.Test.YtaiogolidlamiaaGreatDoorM09
set_option linter.unusedVariables false
set_option linter.unusedSimpArgs false
namespace Go.Proofs.YtaiogolidlamiaaGreatDoor
set_option maxRecDepth 100000
open Go.RowKit Go.Shelf
def Bm (c:Nat→Nat):Array Value:=((List.range 256).map (fun b=>iv (c b))).toArray
theorem Hr:Tryz.zeroCells77=Bm (fun _=>0):=by kernel_rfl
theorem Dx (c:Nat→Nat):(Bm c).size=256:=by simp [Bm]
theorem Un (c:Nat→Nat) (b:Nat) (hb:b<256):(Bm c)[b]? = some (iv (c b)):=by simp [Bm,hb]
theorem Um (c:Nat→Nat) (b x:Nat) (hb:b<256):(Bm c).setIfInBounds b (iv x)=Bm (fun y=>if y=b then x else c y):=by
 apply Array.ext';rw [Array.toList_setIfInBounds];unfold Bm;simp only;apply List.ext_getElem?;intro i;rw [List.getElem?_set];by_cases hi:i<256
 ·by_cases e:b=i
  ·subst e;simp [hb]
  ·simp [hi,e,Ne.symm e]
 ·have:b≠i:=by omega
  rw [if_neg this];simp [hi]
theorem K7 (c:Nat→Nat):(Bm c).all (·.oneCell')=true:=by
 rw [Array.all_eq_true_iff_forall_mem];intro x hx;simp only [Bm,List.mem_toArray,List.mem_map] at hx;obtain ⟨b,_,rfl⟩:=hx;rfl
theorem Ir:(Tryz.prog.info? 77).map (·.size)=some 256:=by kernel_rfl
theorem Nz:(Tryz.prog.info? 166).map (·.size)=some 2:=by kernel_rfl
theorem Az {P:Program} {fn:Func} {p u:Tmp} {ty:TypeId} (h:fn.results=#[.cell p ty,.tmp u]) (tmps:Array Value) (w:World) (g:Nat) (t:TypeId) (cs:Array Value) (fr:Nat × Nat) (d:TypeDesc)
  (hp:tmps.getD p undef=.pointer (some ⟨g,0,none⟩)) (v:Value) (hu':tmps.getD u undef=v) (hg:w.heap[g]? = some (.cells cs t fr))
  (hu:P.underlying ty=some d) (hd:(match d with|.struct _|.array _ _=>true|_=>false)=true) (hi:(P.info? ty).map (·.size)=some cs.size) :
  (results fn tmps).run P w=.ok (.tuple #[.agg cs,v]) w:=by
 rw [results_cell_tmp h,hp,hu'];simp [asAddr,run_loadVar_row w g t ty cs fr d hg hu hd hi,Result.andThen]
set_option maxHeartbeats 2000000 in
theorem Nt (t u:Tbl) (ht:TVal t) (hu:TVal u) (A B:Array Value) (w:World) (hA:IsT w A t) (hB:IsT w B u) :
  Calls Tryz.prog 70 #[.agg A,.agg B] w fun e w'=>∃ c bs v,e=.returned (.tuple #[.agg (Bm c),v])∧Joint t.cell u.cell c bs∧Ints w' v bs∧Ext w w':=by
 obtain ⟨_,_,_,_,_,_,hAs,hAo,hAc,_⟩:=hA.opened ht;obtain ⟨_,_,_,_,_,_,hBs,hBo,hBc,_⟩:=hB.opened hu;clear hA hB;obtain ⟨i0,hi,hz0,hz1,hz2⟩:=info_parts Cv;have hmm:=@run_makeMap Tryz.prog;have hE0:=((Ext.refl w).alloc (.cells A 108)).alloc (.cells B 108);have H0:=Af (Ab w (.cells A 108)) (.cells B 108);have H1:=heap_alloc2_new w (.cells A 108) (.cells B 108);go_enter Tryz.func70,Tryz.ntmps70;go_upto_region 3 with (fail)
 obtain ⟨w0,hw0⟩:∃ W,(w.alloc (.cells A 108)).alloc (.cells B 108)=W:=⟨_,rfl⟩;have hs0:w0.heap.size=w.heap.size+1+1:=by rw [← hw0,World.size_alloc,World.size_alloc]
 simp only [hw0] at *;clear hw0;have HKA:=Lib.hid (fun (W:World) (hW:Ext w0 W) (b:Nat) (hb:b<256)=>(cell_of_row W w.heap.size b _ _ _ (hW.heap H0)).trans (hAc b hb));have HKB:=Lib.hid (fun (W:World) (hW:Ext w0 W) (b:Nat) (hb:b<256)=>(cell_of_row W (w.heap.size+1) b _ _ _ (hW.heap H1)).trans (hBc b hb));have HCL:=Lib.hid (fun (b:Nat) (hb:b<256)=>And.intro (Nat.lt_of_lt_of_le (ht.cell_lt b hb) ht.cle) (Nat.lt_of_lt_of_le (hu.cell_lt b hb) hu.cle));clear H0 H1 hAs hAo hAc hBs hBo hBc ht hu;go_upto_region 4 with (fail)
 clear hmm;have R2:=Af (Af (Ab w0 (.cells Tryz.zeroCells77 77)) (.cells Tryz.zeroCells77 77)) (.map #[] 0);have R3:=Af (heap_alloc2_new w0 (.cells Tryz.zeroCells77 77) (.cells Tryz.zeroCells77 77)) (.map #[] 0);have hmp:=Iq ((w0.alloc (.cells Tryz.zeroCells77 77)).alloc (.cells Tryz.zeroCells77 77)) 166 Gu;have hE1:=(((Ext.refl w0).alloc (.cells Tryz.zeroCells77 77)).alloc (.cells Tryz.zeroCells77 77)).alloc (.map #[] 0);have hs1:(((w0.alloc (.cells Tryz.zeroCells77 77)).alloc (.cells Tryz.zeroCells77 77)).alloc (.map #[] 0)).heap.size=w.heap.size+1+1+1+1+1:=by
  rw [World.size_alloc,World.size_alloc,World.size_alloc,hs0]
 rw [World.size_alloc,World.size_alloc,hs0] at hmp;rw [hs0] at R2 R3;obtain ⟨w1,hw1⟩:∃ W,((w0.alloc (.cells Tryz.zeroCells77 77)).alloc (.cells Tryz.zeroCells77 77)).alloc (.map #[] 0)=W:=⟨_,rfl⟩;simp only [hw1] at *;clear hw1;have hI:=World.ownsRow_nil w1 w1.heap.size 3 1;have R2:=Lib.hid R2;have R3:Hid (w1.heap[w.heap.size+1+1+1]? = some (.cells (Bm fun _=>0) 77 (0,0))):=Lib.hid (by rw [R3,Hr]);go_wp2_with (fail);go_loopw [7,14] (fun v i W=>∃ (x:Nat) (bs:List Nat) (a:Option Addr) (cp:Nat) (c:Nat→Nat) (f:Nat × Nat→Option Nat),x≤256∧i=.int .i64 x∧v=.slice a bs.length cp∧Ext w0 W∧w1.heap.size≤W.heap.size∧OwnI W w1.heap.size v bs∧
   IsMp W 166 Gu (w.heap.size+1+1+1+1) bs.length f∧W.heap[w.heap.size+1+1]? = some (.cells Tryz.zeroCells77 77 (0,0))∧W.heap[w.heap.size+1+1+1]? = some (.cells (Bm c) 77 (0,0))∧Hid (JInv t.cell u.cell x c bs f))
  (fun _ i _=>256-(intOf i).toNat)
 case atStart=>exact ⟨0,[],none,0,_,_,by omega,rfl,rfl,hE1,Nat.le_refl _,hI,hmp,R2.out,R3.out,Lib.hid (Ads _ _)⟩
 case round=>
  obtain ⟨x,bs,a,cp,c,f,hx,rfl,rfl,hE,hsz,hI,hmp,hR2,hR3,HJ⟩:=hrel;have hbl:=HJ.out.le;have HR2:=Lib.hid hR2;have HR3:=Lib.hid hR3;clear hR2 hR3;by_cases hlt:x<256
  ·have hxi:(x:Int)<256:=by omega
   have ka:=HKA.out wr hE x hlt;have kb:=HKB.out wr hE x hlt;obtain ⟨ha,hb⟩:=HCL.out x hlt;have hkey:=Aai (t.cell x,u.cell x) (by show t.cell x<_;omega) (by show u.cell x<_;omega);generalize hta:t.cell x=ca at *;generalize htb:u.cell x=cb at *;have HTA:=Lib.hid hta;have HTB:=Lib.hid htb;clear hta htb;go_upto_region 7 with (fail)
   have na:=World.new_ne wr _ ka;have nb:=World.new_ne wr _ kb;go_region_held (fun W=>W.cell? ⟨w.heap.size,x,none⟩=some (iv ca)∧W.cell? ⟨w.heap.size+1,x,none⟩=some (iv cb)) (go_keep) (fail)
   have e5:Ext wr (wr.alloc (.cells #[iv ca,iv cb] 166)).drew:=((Ext.refl wr).alloc _).drew;have K5:Hid ((wr.alloc (.cells #[iv ca,iv cb] 166)).drew.heap[wr.heap.size]? = some (.cells #[iv ca,iv cb] 166 (0,0))):=Lib.hid (Ab wr _);obtain ⟨w5,hw5⟩:∃ W,(wr.alloc (.cells #[iv ca,iv cb] 166)).drew=W:=⟨_,rfl⟩;simp only [hw5] at *;clear hw5 ka kb na nb;rename_i hHeld
   clear hHeld;have hE5:=hE.trans e5;have hsz5:=Nat.le_trans hsz e5.size;have hI:=Ah hI e5;have hmp:=hmp.ext e5;have HR2:=Lib.hid (e5.heap HR2.out);have HR3:=Lib.hid (e5.heap HR3.out);have hszr:w1.heap.size≤wr.heap.size:=hsz;cases hf:f (ca,cb) with
   | some i=>
    have HJ':=HJ.out;have HN:=Lib.hid (Adt HJ.out i (by rw [HTA.out,HTB.out];exact hf));have hib:i<bs.length:=by
     obtain ⟨z,hz,_,rfl⟩:=HJ.out.from_ _ _ hf;exact HJ.out.lt z hz
    clear HJ';have c3:=(cell_of_row w5 (w.heap.size+1+1+1) x _ _ _ HR3.out).trans (Un c x hlt);have f3:=frozen_of_row w5 (w.heap.size+1+1+1) x _ _ HR3.out;go_wp2_with (first
     | (refine wpList_load_row rfl 166 (.tmp 10) rfl _ rfl _ _ _ _ K5.out Tryz.underlying166 rfl Nz ?_)
     | (at_lookup;refine Dy rfl _ _ 165 rfl Nn Tryz.underlying165 rfl hmp (ca,cb) rfl hkey ?_;rw [hf];dsimp only [Option.isSome,Option.getD]))
    go_roundw
    case rel=>
     rw [setCell_eq_setRow w5 _ _ _ _ _ _ HR3.out,Um _ _ _ hlt];have hgr:=Bv w5 (w.heap.size+1+1+1) (Bm fun y=>if y=x then i else c y);refine ⟨x+1,bs,a,cp,_,f,by omega,by go_num,rfl,hE5.setRow (by omega) _,by rw [size_setRow];exact hsz5,hI.kept hgr (Am hI (by omega)),hmp.kept hgr (by simp),Bq HR2.out (by omega) _,setRow_heap w5 _ _ _ _ _ HR3.out,HN⟩
    case measure=>simp [intOf];omega
   | none=>
    have HN:=Adu HJ.out (by rw [HTA.out,HTB.out];exact hf);rw [HTA.out,HTB.out] at HN;have HN:=Lib.hid HN;have hK6:=K5;go_upto_region 11 with (first
     | (refine wpList_load_row rfl 166 (.tmp 10) rfl _ rfl _ _ _ _ K5.out Tryz.underlying166 rfl Nz ?_)
     | (at_lookup;refine Dy rfl _ _ 165 rfl Nn Tryz.underlying165 rfl hmp (ca,cb) rfl hkey ?_;rw [hf];dsimp only [Option.isSome,Option.getD]))
    go_upto_region 12 with (first
     | (refine wpList_load_row rfl 166 (.tmp 10) rfl _ rfl _ _ _ _ K5.out Tryz.underlying166 rfl Nz ?_)
     | (at_mapUpdate;refine Ht rfl _ _ _ 165 rfl Nn Tryz.underlying165 rfl hmp (by unfold maxLen;omega) Aaj (ca,cb) rfl hkey bs.length rfl (by omega) ?_;intro w6 hmp6 hgr6))
    clear hmp hK6;have hI6:=hI.kept hgr6 (Am hI (by omega));have HR2:Hid (w6.heap[w.heap.size+1+1]? = _):=Lib.hid ((hgr6.block _ (Al HR2.out) (by simp)).trans HR2.out);have HR3:Hid (w6.heap[w.heap.size+1+1+1]? = _):=Lib.hid ((hgr6.block _ (Al HR3.out) (by simp)).trans HR3.out);have hE6:=hE5.grown hgr6 (fun k e=>by cases e;omega);have hsz6:w1.heap.size≤w6.heap.size:=Nat.le_trans hsz5 hgr6.size;clear hgr6 hI K5 e5;go_upto_region 13 with (at_builtin;refine wpList_append_lies _ rfl _ _ 68 rfl w1.heap.size 3 i0 (.int .i64 0) 1 8 Tryz.underlying68 hi hz0 hz1 hz2 rfl (by decide) _ _ _ rfl (hI6.alloc _) _ 1 1 [iv x] rfl rfl (cell_one_new _ _ _) (by simp [Value.oneCell']) (by decide) (by unfold maxLen;omega) (by omega) (by simp;omega) _ rfl ?_;intro g7 c7 w7 hI7 hgr7 _ _)
    have hlt3:=Al HR3.out;have hlt2:=Al HR2.out;have HR2:Hid (w7.heap[w.heap.size+1+1]? = _):=Lib.hid ((hgr7.block _ (Nat.lt_of_lt_of_le hlt2 (by rw [World.size_alloc];omega)) (fun e=>by have:=(hI6.lt _ e.symm).1;omega)).trans (Af HR2.out _));have HR3:Hid (w7.heap[w.heap.size+1+1+1]? = _):=Lib.hid ((hgr7.block _ (Nat.lt_of_lt_of_le hlt3 (by rw [World.size_alloc];omega)) (fun e=>by have:=(hI6.lt _ e.symm).1;omega)).trans (Af HR3.out _));have hmp7:=(hmp6.alloc (.cells #[iv x] 3)).kept hgr7 (fun e=>by have:=(hI6.lt _ e.symm).1;omega);have hE7:=(hE6.alloc (.cells #[iv x] 3)).grown hgr7 (fun k e=>by have:=(hI6.lt k e).1;omega);have hsz7:w1.heap.size≤w7.heap.size:=Nat.le_trans hsz6 (by have:=hgr7.size;rw [World.size_alloc] at this;omega);clear hgr7 hI6 hmp6;have hI7:OwnI w7 w1.heap.size (.slice (some ⟨g7,0,none⟩) (bs.length+1) c7) (bs++[x]):=by
     show World.ownsRow _ _ _ _ _ _ _;rw [List.length_append,List.map_append];exact hI7
    have c3:=(cell_of_row w7 (w.heap.size+1+1+1) x _ _ _ HR3.out).trans (Un c x hlt);have f3:=frozen_of_row w7 (w.heap.size+1+1+1) x _ _ HR3.out;go_wp2;go_roundw
    case rel=>
     rw [setCell_eq_setRow w7 _ _ _ _ _ _ HR3.out,Um _ _ _ hlt];have hgr:=Bv w7 (w.heap.size+1+1+1) (Bm fun y=>if y=x then bs.length else c y);refine ⟨x+1,bs++[x],_,c7,_,_,by omega,by go_num,by rw [List.length_append];rfl,hE7.setRow (by omega) _,by rw [size_setRow];exact hsz7,hI7.kept hgr (Am hI7 (by omega)),IsMp.kept (by rw [List.length_append];exact hmp7) hgr (by simp),Bq HR2.out (by omega) _,setRow_heap w7 _ _ _ _ _ HR3.out,HN⟩
    case measure=>simp [intOf];omega
  ·obtain rfl:x=256:=by omega
   have HC:=Lib.hid (show (Tryz.zeroCells77).size=(Bm c).size by rw [Hr,Dx,Dx]);have HO:=Lib.hid (K7 c);have HI7:=Lib.hid (show (Tryz.prog.info? 77).map (·.size)=some (Bm c).size by rw [Dx];exact Ir);obtain ⟨A',hA'⟩:∃ X,Bm c=X:=⟨_,rfl⟩;rw [hA'] at HC HO HI7 HR3;have HA':=Lib.hid hA';clear hA';go_wp2_with (first
    | (refine wpList_load_row rfl 77 (.tmp 6) rfl _ rfl _ _ _ _ HR3.out Tryz.underlying77 rfl HI7.out ?_)
    | (refine wpList_store_row rfl 77 (.tmp 4) (.tmp 47) rfl _ A' rfl rfl _ _ HR2.out HI7.out HC.out HO.out ?_))
   refine bodyPost_ret (v:=.tuple #[.agg A',.slice a bs.length cp]) (Az rfl _ _ _ _ _ _ _ rfl _ rfl (setRow_heap wr _ _ A' 77 (0,0) HR2.out) Tryz.underlying77 rfl HI7.out) rfl ?_;have hgr:=Bv wr (w.heap.size+1+1) A';refine ⟨c,bs,_,by rw [HA'.out],Adv HJ.out,OwnI.ints (hI.kept hgr (Am hI (by omega))) (by omega),(hE0.trans hE).setRow (by omega) _⟩
def A5 (x:Nat):List UInt8:=[UInt8.ofNat x,UInt8.ofNat (x / 256)]
theorem Se {x y:Nat} (hx:x<65536) (hy:y<65536) (h:A5 x=A5 y):x=y:=by
 simp only [A5,List.cons.injEq,and_true] at h;have h1:=congrArg UInt8.toNat h.1;have h2:=congrArg UInt8.toNat h.2;simp only [UInt8.toNat_ofNat'] at h1 h2;omega
theorem Nd (x:Nat):(A5 x).length=2:=rfl
def Ax (g:Nat→Nat):Nat→List UInt8
 | 0=>[]
 | n+1=>Ax g n++A5 (g n)
theorem Hi (g:Nat→Nat):∀ n,(Ax g n).length=2*n
 | 0=>rfl
 | n+1=>by rw [Ax,List.length_append,Hi g n,Nd];omega
theorem K2 (g g':Nat→Nat):∀ n,(∀ k,k<n→g k<65536)→(∀ k,k<n→g' k<65536)→(Ax g n=Ax g' n↔∀ k,k<n→g k=g' k)
 | 0,_,_=>by simp [Ax]
 | n+1,hg,hg'=>by
  have ih:=K2 g g' n (fun k hk=>hg k (by omega)) (fun k hk=>hg' k (by omega));simp only [Ax];constructor
  ·intro h;obtain ⟨h1,h2⟩:=List.append_inj h (by rw [Hi,Hi]);intro k hk;by_cases e:k=n
   ·subst e;exact Se (hg k (by omega)) (hg' k (by omega)) h2
   ·exact ih.1 h1 k (by omega)
  ·intro h;rw [ih.2 fun k hk=>h k (by omega),h n (by omega)]
def Cz (t:Tbl) (B:Nat→Nat) (s:Nat):List UInt8:=A5 (B s)++Ax (fun k=>B (t.ent2 s k)) t.cells
theorem Adq (t:Tbl) (B:Nat→Nat) (s s':Nat) (h1:B s<65536) (h2:B s'<65536) (h3:∀ k,k<t.cells→B (t.ent2 s k)<65536) (h4:∀ k,k<t.cells→B (t.ent2 s' k)<65536) :
  Cz t B s=Cz t B s'↔B s=B s'∧∀ k,k<t.cells→B (t.ent2 s k)=B (t.ent2 s' k):=by
 unfold Cz;constructor
 ·intro h;obtain ⟨e1,e2⟩:=List.append_inj h rfl;exact ⟨Se h1 h2 e1,(K2 _ _ _ h3 h4).1 e2⟩
 ·rintro ⟨e1,e2⟩;rw [e1,(K2 _ _ _ h3 h4).2 e2]
theorem Be {α:Type} (l:List α) (i j:Nat) (x d:α) (h:i<l.length):(l.set i x).getD j d=if j=i then x else l.getD j d:=by
 rw [List.getD_eq_getElem?_getD,List.getD_eq_getElem?_getD,List.getElem?_set];by_cases e:j=i
 ·subst e;simp [h]
 ·rw [if_neg (Ne.symm e),if_neg e]
theorem Rz {l:List Nat} (h:l.Nodup) {i j:Nat} (hi:i<l.length) (hj:j<l.length) (hij:i≠j):l.getD i 0≠l.getD j 0:=by
 rw [List.getD_eq_getElem?_getD,List.getD_eq_getElem?_getD,List.getElem?_eq_getElem hi,List.getElem?_eq_getElem hj];intro e;exact hij ((List.getElem_inj h).1 e)
theorem Fy {l:List Nat} {s:Nat} (h:s∈l):∃ j,j<l.length∧l.getD j 0=s:=Fz (d:=0) h
structure NInv (l:List Nat) (key:Nat→List UInt8) (j:Nat) (N R:List Nat) (f:List UInt8→Option Nat):Prop where
 le:R.length≤j
 has:∀ q,q<j→f (key (l.getD q 0))=some (N.getD (l.getD q 0) 0)
 lt:∀ q,q<j→N.getD (l.getD q 0) 0<R.length
 rep:∀ i,i<R.length→(∃ q,q<j∧R.getD i 0=l.getD q 0)∧N.getD (R.getD i 0) 0=i
 from_:∀ k i,f k=some i→∃ q,q<j∧k=key (l.getD q 0)∧i=N.getD (l.getD q 0) 0
 same:∀ q q',q<j→q'<j→(N.getD (l.getD q 0) 0=N.getD (l.getD q' 0) 0↔key (l.getD q 0)=key (l.getD q' 0))
theorem Abq (l:List Nat) (key:Nat→List UInt8) (N:List Nat):NInv l key 0 N [] (fun _=>none) where
 le:=by simp
 has:=fun q hq=>by omega
 lt:=fun q hq=>by omega
 rep:=fun i hi=>by simp at hi
 from_:=fun k i h=>by simp at h
 same:=fun q q' hq=>by omega
section
variable {l:List Nat} {key:Nat→List UInt8} {j:Nat} {N R:List Nat} {f:List UInt8→Option Nat}
theorem Abr (h:NInv l key j N R f) (hn:l.Nodup) (hj:j<l.length) (hs:l.getD j 0<N.length) (i:Nat) (hi:f (key (l.getD j 0))=some i):NInv l key (j+1) (N.set (l.getD j 0) i) R f:=by
 obtain ⟨z,hz,hk,hzi⟩:=h.from_ _ _ hi;have ne:∀ q,q<j→l.getD q 0≠l.getD j 0:=fun q hq=>Rz hn (by omega) hj (by omega)
 have g1:∀ q,q<j→(N.set (l.getD j 0) i).getD (l.getD q 0) 0=N.getD (l.getD q 0) 0:=fun q hq=>by rw [Be _ _ _ _ _ hs,if_neg (ne q hq)]
 have g2:(N.set (l.getD j 0) i).getD (l.getD j 0) 0=i:=by rw [Be _ _ _ _ _ hs,if_pos rfl]
 refine ⟨by have:=h.le;omega,fun q hq=>?_,fun q hq=>?_,fun r hr=>?_,fun k i' hk'=>?_,fun q q' hq hq'=>?_⟩
 ·by_cases e:q=j
  ·subst e;rw [g2];exact hi
  ·rw [g1 q (by omega)];exact h.has q (by omega)
 ·by_cases e:q=j
  ·subst e;rw [g2,hzi];exact h.lt z hz
  ·rw [g1 q (by omega)];exact h.lt q (by omega)
 ·obtain ⟨⟨q,hq,e⟩,e2⟩:=h.rep r hr;refine ⟨⟨q,by omega,e⟩,?_⟩;rw [e,g1 q hq,← e];exact e2
 ·obtain ⟨q,hq,e1,e2⟩:=h.from_ k i' hk';exact ⟨q,by omega,e1,by rw [g1 q hq];exact e2⟩
 ·by_cases e:q=j<;>by_cases e':q'=j
  ·subst e;subst e';simp
  ·subst e;rw [g2,g1 q' (by omega),hzi,h.same z q' hz (by omega),hk]
  ·subst e';rw [g2,g1 q (by omega),hzi,h.same q z (by omega) hz,hk]
  ·rw [g1 q (by omega),g1 q' (by omega)];exact h.same q q' (by omega) (by omega)
theorem Abs (h:NInv l key j N R f) (hn:l.Nodup) (hj:j<l.length) (hs:l.getD j 0<N.length) (hi:f (key (l.getD j 0))=none) :
  NInv l key (j+1) (N.set (l.getD j 0) R.length) (R++[l.getD j 0]) (fun k=>if k=key (l.getD j 0) then some R.length else f k):=by
 have ne:∀ q,q<j→l.getD q 0≠l.getD j 0:=fun q hq=>Rz hn (by omega) hj (by omega)
 have nk:∀ q,q<j→key (l.getD q 0)≠key (l.getD j 0):=fun q hq e=>by
  have:=h.has q hq;rw [e,hi] at this;cases this
 have g1:∀ q,q<j→(N.set (l.getD j 0) R.length).getD (l.getD q 0) 0=N.getD (l.getD q 0) 0:=fun q hq=>by rw [Be _ _ _ _ _ hs,if_neg (ne q hq)]
 have g2:(N.set (l.getD j 0) R.length).getD (l.getD j 0) 0=R.length:=by rw [Be _ _ _ _ _ hs,if_pos rfl]
 have hl:(R++[l.getD j 0]).length=R.length+1:=by simp
 refine ⟨by have:=h.le;omega,fun q hq=>?_,fun q hq=>?_,fun r hr=>?_,fun k i' hk'=>?_,fun q q' hq hq'=>?_⟩
 ·by_cases e:q=j
  ·subst e;rw [g2];simp
  ·rw [g1 q (by omega),if_neg (nk q (by omega))];exact h.has q (by omega)
 ·rw [hl];by_cases e:q=j
  ·subst e;rw [g2];omega
  ·rw [g1 q (by omega)];have:=h.lt q (by omega);omega
 ·rw [hl] at hr;by_cases e:r=R.length
  ·have e1:(R++[l.getD j 0]).getD r 0=l.getD j 0:=by rw [e];simp [List.getD_eq_getElem?_getD]
   rw [e1,g2];exact ⟨⟨j,by omega,rfl⟩,e.symm⟩
  ·have hr':r<R.length:=by omega
   obtain ⟨⟨q,hq,e1⟩,e2⟩:=h.rep r hr';rw [Bk _ _ _ _ hr'];refine ⟨⟨q,by omega,e1⟩,?_⟩;rw [e1,g1 q hq,← e1];exact e2
 ·by_cases e:k=key (l.getD j 0)
  ·simp only [e,if_true] at hk';cases hk'
   exact ⟨j,by omega,e,g2.symm⟩
  ·simp only [e,if_false] at hk';obtain ⟨q,hq,e1,e2⟩:=h.from_ k i' hk';exact ⟨q,by omega,e1,by rw [g1 q hq];exact e2⟩
 ·by_cases e:q=j<;>by_cases e':q'=j
  ·subst e;subst e';simp
  ·subst e;have h1:=h.lt q' (by omega);rw [g2,g1 q' (by omega)];exact ⟨fun e=>by omega,fun e=>absurd e.symm (nk q' (by omega))⟩
  ·subst e';have h1:=h.lt q (by omega);rw [g2,g1 q (by omega)];exact ⟨fun e=>by omega,fun e=>absurd e (nk q (by omega))⟩
  ·rw [g1 q (by omega),g1 q' (by omega)];exact h.same q q' (by omega) (by omega)
theorem R6 (h:NInv l key l.length N R f):Blk l (fun s=>N.getD s 0) R∧∀ s∈l,∀ s'∈l,(N.getD s 0=N.getD s' 0↔key s=key s'):=by
 refine ⟨⟨fun s hs=>?_,fun i hi=>?_,fun i hi=>(h.rep i hi).2⟩,fun s hs s' hs'=>?_⟩
 ·obtain ⟨q,hq,rfl⟩:=Fy hs;exact h.lt q hq
 ·obtain ⟨⟨q,hq,e⟩,_⟩:=h.rep i hi;rw [e];exact C0 l q 0 hq
 ·obtain ⟨q,hq,rfl⟩:=Fy hs;obtain ⟨q',hq',rfl⟩:=Fy hs';exact h.same q q' hq hq'
end
theorem Jw {t:Tbl} {l:List Nat} (hl:Reached t l) {B N:Nat→Nat} (hB:∀ s∈l,B s<65536) (h:∀ s∈l,∀ s'∈l,(N s=N s'↔Cz t B s=Cz t B s')):Fo t l B N:=fun s hs s' hs'=>by
 rw [h s hs s' hs',Adq t B s s' (hB s hs) (hB s' hs') (fun k hk=>hB _ (hl.closed s hs k hk)) (fun k hk=>hB _ (hl.closed s' hs' k hk))]
structure AInv (t:Tbl) (l:List Nat) (j:Nat) (B:List Nat):Prop where
 len:B.length=t.nxt.length
 at_:∀ s,B.getD s 0=if s∈l.take j∧t.ok s=true then 1 else 0
theorem Vk (t:Tbl) (l:List Nat):AInv t l 0 (List.replicate t.nxt.length 0) where
 len:=by simp
 at_:=fun s=>by
  simp [List.getD_eq_getElem?_getD,List.getElem?_replicate];split<;>rfl
theorem Ps {l:List Nat} {j:Nat} (hj:j<l.length) (s:Nat):s∈l.take (j+1)↔s∈l.take j∨s=l.getD j 0:=by
 rw [List.take_add_one,List.mem_append,List.getElem?_eq_getElem hj,List.getD_eq_getElem?_getD,List.getElem?_eq_getElem hj];simp
theorem Vj {t:Tbl} {l:List Nat} {j:Nat} {B:List Nat} (h:AInv t l j B) (hj:j<l.length) (hs:l.getD j 0<t.nxt.length) (hok:t.ok (l.getD j 0)=true):AInv t l (j+1) (B.set (l.getD j 0) 1) where
 len:=by rw [List.length_set];exact h.len
 at_:=fun s=>by
  rw [Be _ _ _ _ _ (by rw [h.len];exact hs),h.at_ s];have ht:=Ps hj s;generalize l.getD j 0=x at *;by_cases e:s=x
  ·subst e;simp [ht,hok]
  ·simp [ht,e]
theorem Vl {t:Tbl} {l:List Nat} {j:Nat} {B:List Nat} (h:AInv t l j B) (hj:j<l.length) (hok:t.ok (l.getD j 0)=false):AInv t l (j+1) B where
 len:=h.len
 at_:=fun s=>by
  rw [h.at_ s];have ht:=Ps hj s;generalize l.getD j 0=x at *;by_cases e:s=x
  ·subst e;simp [hok]
  ·simp [ht,e]
theorem Vm {t:Tbl} {l:List Nat} {B:List Nat} (h:AInv t l l.length B):Refi t l (fun s=>B.getD s 0) 0∧∀ s,B.getD s 0<65536:=by
 refine ⟨Zj t l _ fun s hs=>?_,fun s=>?_⟩
 ·show B.getD s 0=_;rw [h.at_ s,List.take_length];simp [hs]
 ·rw [h.at_ s];split<;>omega
structure OInv (t:Tbl) (l:List Nat) (B:List Nat) (n:Nat):Prop where
 len:B.length=t.nxt.length
 refi:Refi t l (fun s=>B.getD s 0) n
 lt:∀ s∈l,B.getD s 0<65536
 le:n≤l.length
theorem Rn {t:Tbl} {l:List Nat} {B:List Nat} (h:AInv t l l.length B):OInv t l B 0:=
 ⟨h.len,(Vm h).1,fun s _=>(Vm h).2 s,by omega⟩
theorem Lh {l:List Nat} {B:Nat→Nat} {R:List Nat} (h:Blk l B R):R.length≤l.length:=by
 have:=C2 (R.map fun s=>s) l (by
  rw [List.map_id'];rw [List.nodup_iff_pairwise_ne,List.pairwise_iff_getElem];intro i j hi hj hij e;have h1:=h.rep i hi;have h2:=h.rep j hj;rw [List.getD_eq_getElem?_getD,List.getElem?_eq_getElem hi] at h1;rw [List.getD_eq_getElem?_getD,List.getElem?_eq_getElem hj] at h2;simp only [Option.getD_some] at h1 h2;rw [e,h2] at h1;omega) fun s hs=>by
   rw [List.map_id'] at hs;obtain ⟨i,hi,rfl⟩:=Fy hs;exact h.mem i hi
 simpa using this
theorem Abb {t:Tbl} (hv:TVal t) {l:List Nat} (hl:Reached t l) {B N R:List Nat} {f:List UInt8→Option Nat} {n:Nat} (h:OInv t l B n) (hm:l.length≤65536) (hN:N.length=t.nxt.length)
  (hi:NInv l (Cz t fun s=>B.getD s 0) l.length N R f) (hne:R.length≠n):OInv t l N R.length∧n<R.length:=by
 obtain ⟨hb,hs⟩:=R6 hi;have hr:Fo t l (fun s=>B.getD s 0) (fun s=>N.getD s 0):=Jw hl h.lt hs;have hle:=Lh hb;refine ⟨⟨hN,Mk hv hl h.refi hr hb,fun s hs=>?_,hle⟩,?_⟩
 ·have:=hb.lt s hs;show N.getD s 0<65536;omega
 ·have:=(Ml h.refi hr hb hl.ne).1;omega
theorem Abd {t:Tbl} (hv:TVal t) {l:List Nat} (hl:Reached t l) {B N R:List Nat} {f:List UInt8→Option Nat} {n:Nat} (h:OInv t l B n)
  (hi:NInv l (Cz t fun s=>B.getD s 0) l.length N R f) (he:R.length=n):Blocks t l (fun s=>N.getD s 0) R:=by
 obtain ⟨hb,hs⟩:=R6 hi;have hr:Fo t l (fun s=>B.getD s 0) (fun s=>N.getD s 0):=Jw hl h.lt hs;exact ⟨hb,Qv hv hl h.refi hr hb he⟩
end Go.Proofs.YtaiogolidlamiaaGreatDoor
