import Derived.Test.YtaiogolidlamiaaGreatDoorM14
set_option linter.unusedVariables false
set_option linter.unusedSimpArgs false
namespace Go.Proofs.YtaiogolidlamiaaGreatDoor
set_option maxRecDepth 100000
open Go.RowKit Go.Shelf
open Go.Maps (Keyed)
def flS (l:List Sta):List Value:=l.flatMap stL
theorem Agg (l m:List Sta):flS (l++m)=flS l++flS m:=by simp [flS]
theorem Age (x:Sta):flS [x]=stL x:=by simp [flS]
theorem Agf (l:List Sta) (k:Nat) (x:Sta) (h:l[k]? = some x):(flS l)[k*3]? = some (iv x.p)∧(flS l)[k*3+1]? = some (iv x.q)∧(flS l)[k*3+2]? = some (.int .u64 (x.s:Int)):=by
 induction l generalizing k with
 | nil=>simp at h
 | cons y l ih=>
  have e:flS (y::l)=stL y++flS l:=rfl;cases k with
  | zero=>
   have:y=x:=by simpa using h
   subst this;rw [e];exact ⟨rfl,rfl,rfl⟩
  | succ k=>
   have h':l[k]? = some x:=by simpa using h
   obtain ⟨h1,h2,h3⟩:=ih k h';have hl:(stL y).length=3:=rfl;rw [e];refine ⟨?_,?_,?_⟩
   ·rw [List.getElem?_append_right (by rw [hl];omega),hl,show (k+1)*3-3=k*3 by omega];exact h1
   ·rw [List.getElem?_append_right (by rw [hl];omega),hl,show (k+1)*3+1-3=k*3+1 by omega];exact h2
   ·rw [List.getElem?_append_right (by rw [hl];omega),hl,show (k+1)*3+2-3=k*3+2 by omega];exact h3
abbrev J3 (W:World) (base:Nat) (v:Value) (l:List Sta):Prop:=W.ownsRow base 116 3 v l.length (flS l)
theorem Iu {W:World} {base g cap:Nat} {l:List Sta} (h:J3 W base (.slice (some ⟨g,0,none⟩) l.length cap) l) (k:Nat) (x:Sta) (hx:l[k]? = some x) :
  W.cell? ⟨g,k*3,none⟩=some (iv x.p)∧W.cell? ⟨g,k*3+1,none⟩=some (iv x.q)∧W.cell? ⟨g,k*3+2,none⟩=some (.int .u64 (x.s:Int)):=by
 have hk:k<l.length:=(List.getElem?_eq_some_iff.1 hx).1;obtain ⟨h1,h2,h3⟩:=Agf l k x hx;rw [h.cellAt _ (by omega),h.cellAt _ (by omega),h.cellAt _ (by omega)];exact ⟨h1,h2,h3⟩
theorem Qp {κ:Type} {W:World} {k:TypeId} {key:κ→Value} {b n:Nat} {f:κ→Option Nat} {ops:Array Oper} {rest:List Oper} {o:Oper} {a:Act} {Q:Exit→Act→World→Prop} [DecidableEq κ] (hg:o.guard=none) (m x v:Operand) (t:TypeId) (hop:o.op=Op.insert t m x v) (K:Keyed Tryz.prog k) (ht:Tryz.prog.underlying t=some (.map k 3)) (hm:a.eval m=.map (some b)) (h:IsMp W k key b n f) (hn:n<maxLen)
  (hinj:∀ y z,key y=key z→y=z) (y:κ) (hx:a.eval x=key y) (hl:∃ l,keyOf Tryz.prog k (key y)=some l) (i:Nat) (hv:a.eval v=iv i) (hi:i<9223372036854775808)
  (hK:∀ W',IsMp W' k key b (n+1) (fun z=>if z=y then some i else f z)→W.grownBy W' (some b)→wpList Tryz.prog ops Q rest (a.put o.dst undef) W'):wpList Tryz.prog ops Q (o::rest) a W:=by
 obtain ⟨D,h1,h2⟩:=h;obtain ⟨l,hl⟩:=hl;refine wpList_plain hg fun K' hK'=>?_
 obtain ⟨W',hrun,r1,r2⟩:=h1.update K ht hn hl (plainElem_int Tryz.underlying3 (Il i hi));unfold Oper.wp;simp [execOp,hop,hm,hx,hv,hrun,Result.andThen];refine hK' _ _ (hK W' ⟨_,r1,fun z lz hz=>?_⟩ r2);by_cases e:z=y
 ·subst e;rw [hl] at hz;cases hz
  simp only [if_true];exact ⟨Maps.has_put_same h1.isMap (K.key hl) _,Maps.atKey_put_same h1.isMap (K.key hl) _ _⟩
 ·have hne:lz≠l:=fun e'=>e (hinj _ _ (K.inj hz (e'▸hl)))
  simp only [e,if_false];rw [Maps.has_put_other hne,Maps.atKey_put_other hne];exact h2 z lz hz
theorem Aiv (c:Nat→Nat) (n:Nat):Tryz.prog.built 108 [(0,.agg (Bk c)),(1,iv n)]=some (Ag c n (.slice none 0 0) (.slice none 0 0)):=by kernel_rfl
theorem Ait:Tryz.prog.built 108 []=some Tryz.zeroCells108:=by kernel_rfl
theorem Rd (c:Nat→Nat) (n:Nat) (vn va v:Value):(Ag c n vn va).setIfInBounds 257 v=Ag c n v va:=by
 apply Array.ext';rw [Array.toList_setIfInBounds];unfold Ag;simp only;apply List.ext_getElem?;intro i;unfold Du;rw [List.getElem?_set];by_cases hi:i<256
 ·have:257≠i:=by omega
  rw [if_neg this,List.getElem?_append_left (by simpa using hi),List.getElem?_append_left (by simpa using hi)]
 ·by_cases e:257=i
  ·subst e;simp [List.getElem?_append_right]
  ·rw [if_neg e,List.getElem?_append_right (by simp;omega),List.getElem?_append_right (by simp;omega)];obtain ⟨j,rfl⟩:∃ j,i=256+j:=⟨i-256,by omega⟩;have hj:j≠1:=by omega
   simp only [List.length_map,List.length_range,Nat.add_sub_cancel_left]
   match j,hj with
   | 0,_=>rfl
   | 2,_=>rfl
   | j+3,_=>rfl
def Mj (w:World) (g:Nat) (caps:Array Value) (nx:Sta→Nat→Sta) (Good:Sta→Prop):Prop:=
 ∀ W,Ext w W→∀ x,Good x→∀ b,b<256→Calls Tryz.prog g (#[.agg #[iv x.p,iv x.q,.int .u64 (x.s:Int)],iv b]++caps) W fun e w'=>e=.returned (stV (nx x b))∧Ext W w'
def Mg (w:World) (g:Nat) (caps:Array Value) (ac:Sta→Bool) (Good:Sta→Prop):Prop:=
 ∀ W,Ext w W→∀ x,Good x→Calls Tryz.prog g (#[.agg #[iv x.p,iv x.q,.int .u64 (x.s:Int)]]++caps) W fun e w'=>e=.returned (.bool (ac x))∧Ext W w'
theorem Af9 {nx:Sta→Nat→Sta} {st:Sta} {Good:Sta→Prop} (h0:Good st) (hs:∀ x,Good x→∀ b,b<256→Good (nx x b)) (w:List UInt8):Good (At nx st w):=by
 induction w using Ek with
 | h0=>exact h0
 | h1 w x ih=>rw [Eh];exact hs _ ih _ x.toNat_lt
set_option maxHeartbeats 4000000 in
theorem Pl (c:Nat→Nat) (bs:List Nat) (hm0:0<bs.length) (hm1:bs.length≤256) (hb:∀ k,k<bs.length→bs.getD k 0<256) (st:Sta) (nx:Sta→Nat→Sta) (ac:Sta→Bool) (Good:Sta→Prop) (hok:∀ x,Good x→x.ok) (h0:Good st) (hst:∀ x,Good x→∀ b,b<256→Good (nx x b))
  (most:Nat) (hmost:0<most) (hmost1:most≤1073741824) (gn ga:Nat) (capsN capsA:Array Value) (en:∀ args w,(callFunc gn args).run Tryz.prog w=.ok (.enter gn args) w) (ea:∀ args w,(callFunc ga args).run Tryz.prog w=.ok (.enter ga args) w)
  (vb:Value) (w:World) (hiB:Ints w vb bs) (hN:Mj w gn capsN nx Good) (hA:Mg w ga capsA ac Good) :
  Calls Tryz.prog 74 #[.agg (Bk c),vb,.agg #[iv st.p,iv st.q,.int .u64 (st.s:Int)],.func (.func gn) #[] capsN,.func (.func ga) #[] capsA,.int .i64 (most:Int)] w fun e w'=>Ext w w'∧
   ((∃ A l t,e=.returned (.tuple #[.agg A,.bool true])∧IsT w' A t∧Expl c bs st nx ac l t∧l.length≤most∧(∀ g cs,g<w.heap.size→IsT (w'.setRow g cs) A t)∧∀ W,Near w' W→IsT W A t)∨(Bx nx st most∧e=.returned (.tuple #[.agg Tryz.zeroCells108,.bool false]))):=by
 obtain ⟨bB,oB,cB,rfl,hBc⟩:=Sl.form hiB hm0;obtain ⟨i0,hi,hz0,hz1,hz2⟩:=info_parts Dm;obtain ⟨i4,hi4,hy0,hy1,hy2⟩:=info_parts Fd;obtain ⟨i6,hi6,hx0,hx1,hx2⟩:=info_parts (show (Tryz.prog.info? 68).map (fun i=>(i.zero,i.size,i.bytes))=some (some (.slice none 0 0),1,24) by kernel_rfl);obtain ⟨i7,hi7,hu0,hu1,hu2⟩:=info_parts Afy;have hE0:=(((Ext.refl w).alloc (.cells (Bk c) 77)).alloc (.cells #[iv st.p,iv st.q,.int .u64 (st.s:Int)] 116)).alloc (.cells Tryz.zeroCells108 108);have H6:=Af (Af (Ab w (.cells (Bk c) 77)) (.cells #[iv st.p,iv st.q,.int .u64 (st.s:Int)] 116)) (.cells Tryz.zeroCells108 108);have H8:=Af (heap_alloc2_new w (.cells (Bk c) 77) (.cells #[iv st.p,iv st.q,.int .u64 (st.s:Int)] 116)) (.cells Tryz.zeroCells108 108);have H12:=Ab ((w.alloc (.cells (Bk c) 77)).alloc (.cells #[iv st.p,iv st.q,.int .u64 (st.s:Int)] 116)) (.cells Tryz.zeroCells108 108);rw [World.size_alloc,World.size_alloc] at H12;have HBC:=Lib.hid (fun (W:World) (hW:Ext w W) k (hk:k<bs.length)=>hW.cell (hBc k (by omega)));have HN:=Lib.hid hN;have HA:=Lib.hid hA;have i77:(Tryz.prog.info? 77).map (·.size)=some (Bk c).size:=by rw [D7];exact I9
 have hB0:=Lib.hid (Aiv c bs.length);clear hiB hBc hN hA;obtain ⟨T0,hT0⟩:∃ X,Ag c bs.length (.slice none 0 0) (.slice none 0 0)=X:=⟨_,rfl⟩;rw [hT0] at hB0;have hsC:Tryz.zeroCells108.size=T0.size:=by rw [← hT0,Cl,D1]
 have hiC:(Tryz.prog.info? 108).map (·.size)=some T0.size:=by rw [← hT0,D1];exact Bv
 have hoC:T0.all (·.oneCell')=true:=by rw [← hT0];exact Ga c bs.length (.slice none 0 0) (.slice none 0 0) rfl rfl
 have HT0:=Lib.hid hT0;clear hT0;obtain ⟨A0,hA0⟩:∃ X,Bk c=X:=⟨_,rfl⟩;rw [hA0] at hE0 H6 H8 H12 i77 hB0;rw [hA0];clear hA0;go_enter Tryz.func74,Tryz.ntmps74;go_upto_region 1 with (fail)
 obtain ⟨w1,hw1⟩:∃ W,((w.alloc (.cells A0 77)).alloc (.cells #[iv st.p,iv st.q,.int .u64 (st.s:Int)] 116)).alloc (.cells Tryz.zeroCells108 108)=W:=⟨_,rfl⟩;have hs1:w.heap.size+1+1<w1.heap.size:=by rw [← hw1,World.size_alloc,World.size_alloc,World.size_alloc];omega
 rw [hw1] at hE0 H6 H8 H12;simp only [hw1];clear hw1;have HB6:=Lib.hid H6;have HB8:=Lib.hid H8;have HB12:=Lib.hid H12;clear H6 H8 H12;have hmm:=@run_makeMap Tryz.prog;go_upto_region 2 with (first
  | (refine wpList_load_row rfl 77 (.tmp 6) rfl _ rfl _ _ _ _ HB6.out Tryz.underlying77 rfl i77 ?_)
  | (refine Ci rfl 108 _ rfl T0 ?_ ?_;(simp [Act.eval];with_reducible exact hB0.out))
  | (refine wpList_store_row rfl 108 (.tmp 14) (.tmp 27) rfl _ _ rfl rfl _ _ (Ab w1 (.cells Tryz.zeroCells108 108)) hiC hsC hoC ?_))
 have hEa:=((Ext.refl w1).alloc (.cells Tryz.zeroCells108 108)).setRow (Nat.le_refl _) T0;have hDa:=setRow_heap (w1.alloc (.cells Tryz.zeroCells108 108)) w1.heap.size _ T0 _ _ (Ab w1 _);have hsa:((w1.alloc (.cells Tryz.zeroCells108 108)).setRow w1.heap.size T0).heap.size=w1.heap.size+1:=by rw [size_setRow,World.size_alloc]
 obtain ⟨wa,hwa⟩:∃ W,(w1.alloc (.cells Tryz.zeroCells108 108)).setRow w1.heap.size T0=W:=⟨_,rfl⟩;rw [hwa] at hEa hDa hsa;simp only [hwa];clear hwa hsC hiC hoC;rw [← HT0.out] at hDa;have hmpa:=I8 wa 116 stV;have hEb:=hEa.alloc (.map #[] 0);have hDb:=Af hDa (.map #[] 0);have hsb:(wa.alloc (.map #[] 0)).heap.size=w1.heap.size+1+1:=by rw [World.size_alloc,hsa]
 rw [hsa] at hmpa;have hB8b:=Lib.hid (hEb.heap HB8.out);have hkey0:=Rq st (hok st h0);obtain ⟨wb,hwb⟩:∃ W,wa.alloc (.map #[] 0)=W:=⟨_,rfl⟩;rw [hwb] at hmpa hEb hDb hsb hB8b;go_upto_region 3 with (first
  | (refine wpList_load_row rfl 116 (.tmp 8) rfl _ rfl _ _ _ _ hB8b.out Tryz.underlying116 rfl Dc ?_)
  | (refine Qp rfl _ _ _ 167 rfl Lh Tryz.underlying167 rfl hmpa (by unfold maxLen;omega) Rr st rfl hkey0 0 rfl (by omega) ?_;intro wc hmpc hgrc))
 clear hmm hwb hmpa hEa hDa hB8b hsa;have hEc:=hEb.grown hgrc (fun k e=>by cases e;omega);have hDc:=(hgrc.block w1.heap.size (Ak hDb) (by simp)).trans hDb;have hszc:w1.heap.size+1+1≤wc.heap.size:=Nat.le_trans (Nat.le_of_eq hsb.symm) hgrc.size;have hB8c:=Lib.hid (hEc.heap HB8.out);clear hsb hgrc hEb hDb;go_upto_region 4 with (refine wpList_load_row rfl 116 (.tmp 8) rfl _ rfl _ _ _ _ hB8c.out Tryz.underlying116 rfl Dc ?_)
 have hEd:=hEc.alloc (.cells #[iv st.p,iv st.q,.int .u64 (st.s:Int)] 116);have hDd:=Af hDc (.cells #[iv st.p,iv st.q,.int .u64 (st.s:Int)] 116);have hmpd:=hmpc.alloc (.cells #[iv st.p,iv st.q,.int .u64 (st.s:Int)] 116);have hLd:J3 (wc.alloc (.cells #[iv st.p,iv st.q,.int .u64 (st.s:Int)] 116)) (w1.heap.size+1+1) (.slice (some ⟨wc.heap.size,0,none⟩) 1 1) [st]:=World.ownsRow_lit (base:=w1.heap.size+1+1) (e:=116) (size:=3) wc #[iv st.p,iv st.q,.int .u64 (st.s:Int)] 1 hszc (by unfold maxLen;omega) rfl;have hszd:w1.heap.size+1+1≤(wc.alloc (.cells #[iv st.p,iv st.q,.int .u64 (st.s:Int)] 116)).heap.size:=by rw [World.size_alloc];omega
 obtain ⟨wd',hwd⟩:∃ W,wc.alloc (.cells #[iv st.p,iv st.q,.int .u64 (st.s:Int)] 116)=W:=⟨_,rfl⟩;rw [hwd] at hEd hDd hmpd hLd hszd;simp only [hwd];clear hwd;clear hmpc hEc hDc hszc hB8c;have hNo:=World.ownsRow_nil wd' (w1.heap.size+1+1) 68 1;have hAo:=World.ownsRow_nil wd' (w1.heap.size+1+1) 4 1;have hVo:RowsO wd' (w1.heap.size+1+1) [] [] (fun _=>False):=⟨rfl,fun j hj=>by simp at hj⟩;have HD0:=Lib.hid hDd;generalize wc.heap.size=go0 at *;clear hDd;go_wp2_with (fail);go_loopw [16,17] (fun vo vi W=>∃ (i:Nat) (l:List Sta) (f:Sta→Option Nat) (N':List (List Nat)) (Ac:List Bool) (vs:List Value) (go co:Nat) (vnx vac:Value),i≤l.length∧l.length≤most∧vi=.int .i64 i∧vo=.slice (some ⟨go,0,none⟩) l.length co∧Ext w1 W∧w1.heap.size+1+1≤W.heap.size∧
   IsMp W 116 stV (w1.heap.size+1) l.length f∧J3 W (w1.heap.size+1+1) vo l∧
   Hid (W.heap[w1.heap.size]? = some (.cells (Ag c bs.length vnx vac) 108 (0,0)))∧W.ownsRow (w1.heap.size+1+1) 68 1 vnx vs.length vs∧OwnB W (w1.heap.size+1+1) vac Ac∧
   RowsO W (w1.heap.size+1+1) vs N' (fun _=>False)∧Hid (EInv bs st nx i 0 l f N' (List.replicate bs.length 0)∧Ac.length=i∧∀ j s,j<i→l[j]? = some s→Ac.getD j false=ac s))
  (fun _ vi _=>most-(intOf vi).toNat)
 case atStart=>exact ⟨0,[st],_,[],[],[],go0,1,_,_,by omega,by simp;omega,rfl,rfl,hEd,hszd,hmpd,hLd,HD0,hNo,hAo,hVo,Lib.hid ⟨Vk bs st nx _ (by simp),rfl,fun j s hj=>by omega⟩⟩
 case round=>
  clear hEd hszd hmpd hLd HD0 hNo hAo hVo;obtain ⟨i,l,f,N',Ac,vs,go,co,vnx,vac,hil,hlm,rfl,rfl,hE,hsz,hmp,hL,HD,hNx,hAx,hV,HI⟩:=hrel;by_cases hlt:i<l.length
  ·obtain ⟨wo,hwo⟩:∃ W,W=wr:=⟨_,rfl⟩;subst hwo;obtain ⟨s,hsl⟩:∃ s,l[i]? = some s:=⟨l[i],by simp [hlt]⟩;have HSL:=Lib.hid hsl;have hgs:Good s:=by
    obtain ⟨u,hu⟩:=HI.out.1.reach s (List.mem_of_getElem? hsl);rw [← hu];exact Af9 h0 hst u
   have HGS:=Lib.hid hgs;clear hsl hgs;go_upto_region 8 with (at_make;refine wpList_make_full _ rfl _ _ 68 rfl (w1.heap.size+1+1) 3 i0 (.int .i64 0) 1 Tryz.underlying68 hi hz0 hz1 .i64 .i64 _ _ bs.length rfl rfl rfl rfl (by rw [hz2];omega) (by unfold maxLen;omega) (by omega) ?_;intro w5 hown5 hgr5)
   have hE5:=hE.grown hgr5 (fun k e=>by cases e);have hQ5:w5.ownsRow (w1.heap.size+1+1) 3 1 (.slice (some ⟨wo.heap.size,0,none⟩) bs.length bs.length) bs.length ((List.replicate bs.length 0).map iv):=by rw [← Ca];exact hown5
   have hmp5:=hmp.kept hgr5 (by simp);have hL5:=Bt hL hgr5;have HD5:=Lib.hid ((hgr5.block w1.heap.size (Ak HD.out) (by simp)).trans HD.out);have hN5:=Bt hNx hgr5;have hA5:=Bt hAx hgr5;have hV5:=(hV.av (av':=fun o=>o=some wo.heap.size) (fun v l ho hav e=>by
    have:=(ho.lt _ e).2;omega)).kept hgr5 (fun v l ho hav=>by cases v.ownBlock<;>simp)
   have hsz5:=Nat.le_trans hsz hgr5.size;have hgb:=(hQ5.lt wo.heap.size rfl).1;generalize wo.heap.size=gr at *;clear hown5 hgr5 hmp hL HD hNx hAx hV hE hsz;go_wp2_with (fail);go_loopw [16,44] (fun vo vi W=>∃ (k:Nat) (l2:List Sta) (f2:Sta→Option Nat) (r:List Nat) (go2 co2:Nat),k≤bs.length∧l2.length≤most∧vi=.int .i64 k∧vo=.slice (some ⟨go2,0,none⟩) l2.length co2∧Ext w1 W∧w1.heap.size+1+1≤W.heap.size∧
     IsMp W 116 stV (w1.heap.size+1) l2.length f2∧J3 W (w1.heap.size+1+1) vo l2∧W.ownsRow (w1.heap.size+1+1) 3 1 (.slice (some ⟨gr,0,none⟩) bs.length bs.length) bs.length (r.map iv)∧
     Hid (W.heap[w1.heap.size]? = some (.cells (Ag c bs.length vnx vac) 108 (0,0)))∧W.ownsRow (w1.heap.size+1+1) 68 1 vnx vs.length vs∧OwnB W (w1.heap.size+1+1) vac Ac∧
     RowsO W (w1.heap.size+1+1) vs N' (fun o=>o=some gr)∧Hid (EInv bs st nx i k l2 f2 N' r∧i<l2.length∧∀ j,j≤i→l2[j]? = l[j]?))
    (fun _ vi _=>bs.length-(intOf vi).toNat)
   case atStart=>exact ⟨0,l,f,_,go,co,by omega,hlm,rfl,rfl,hE5,hsz5,hmp5,hL5,hQ5,HD5,hN5,hA5,hV5,Lib.hid ⟨HI.out.1,hlt,fun _ _=>rfl⟩⟩
   case round=>
    clear hE5 hsz5 hmp5 hL5 hQ5 HD5 hN5 hA5 hV5;obtain ⟨k,l2,f2,r,go2,co2,hk,hlm2,rfl,rfl,hE,hsz,hmp,hL,hQ,HD,hNx,hAx,hV,HJ⟩:=hrel;have HLR:=Lib.hid HJ.out.1.lenr;have hil2:=HJ.out.2.1;have HS2:Hid (l2[i]? = some s):=Lib.hid (by rw [HJ.out.2.2 i (Nat.le_refl _)];exact HSL.out);obtain ⟨w5,hw5⟩:∃ W,W=wr:=⟨_,rfl⟩;subst hw5;by_cases hkc:k<bs.length
    ·have cb:=HBC.out w5 (hE0.trans hE) k hkc;have hb8:=hb k hkc;obtain ⟨b,hbd⟩:∃ b,bs.getD k 0=b:=⟨_,rfl⟩;rw [hbd] at cb hb8;have HBD:=Lib.hid hbd;clear hbd;obtain ⟨s0,s1,s2⟩:=Iu hL i s HS2.out;obtain ⟨y,hyd⟩:∃ y,nx s b=y:=⟨_,rfl⟩;have hcl:=Lib.hid (HN.out w5 (hE0.trans hE) s HGS.out b hb8);rw [hyd] at hcl;have hgy:Good y:=by rw [← hyd];exact hst s HGS.out b hb8
     have hkey:=Rq y (hok y hgy);have HYD:Hid (nx s (bs.getD k 0)=y):=Lib.hid (by rw [HBD.out];exact hyd);clear hyd;go_upto_region 12 with (first
      | ((with_reducible refine hcl.out.mono ?_);rintro e w6 ⟨rfl,hE6⟩)
      | (refine wpList_store_row rfl 116 (.tmp 21) (.tmp 55) rfl _ #[iv y.p,iv y.q,.int .u64 (y.s:Int)] rfl rfl _ _ (Ab w6 (.cells #[.int .i64 0,.int .i64 0,.int .u64 0] 116)) Dc rfl (Rs y) ?_))
     have hE7:=hE6.trans (((Ext.refl w6).alloc (.cells #[.int .i64 0,.int .i64 0,.int .u64 0] 116)).setRow (Nat.le_refl _) #[iv y.p,iv y.q,.int .u64 (y.s:Int)]);have hY7:=setRow_heap (w6.alloc (.cells #[.int .i64 0,.int .i64 0,.int .u64 0] 116)) w6.heap.size _ #[iv y.p,iv y.q,.int .u64 (y.s:Int)] _ _ (Ab w6 _);obtain ⟨w7,hw7⟩:∃ W,(w6.alloc (.cells #[.int .i64 0,.int .i64 0,.int .u64 0] 116)).setRow w6.heap.size #[iv y.p,iv y.q,.int .u64 (y.s:Int)]=W:=⟨_,rfl⟩;rw [hw7] at hE7 hY7;simp only [hw7];clear hw7 hE6 hcl cb s0 s1 s2;have HY7:=Lib.hid hY7;clear hY7;generalize w6.heap.size=gy at *;have hL7:=Ah hL hE7;have hQ7:=Ah hQ hE7;have hN7:=Ah hNx hE7;have hA7:=Ah hAx hE7;have hV7:=hV.kept (hE7.grownBy none) (fun v l _ _=>by cases v.ownBlock<;>simp);have HD7:=Lib.hid (hE7.heap HD.out);have hmp7:=hmp.ext hE7;have hE8:=hE.trans hE7;have hsz7:=Nat.le_trans hsz hE7.size;clear hL hQ hNx hAx hV HD hmp hE hE7 hsz;cases hf:f2 y with
     | some v=>
      have HJ':=Lib.hid (Vm HJ.out.1 hkc HS2.out v (by rw [HYD.out];exact hf));have cq:=Ap 0 hQ7 HLR.out.symm k (by rw [HLR.out];exact hkc);have fq:=hQ7.frozenAt k;obtain ⟨hQ8,hgr8⟩:=A3 hQ7 k v;have hE9:=hE8.grown hgr8 (fun k e=>by cases e;omega);have hL8:=hL7.kept hgr8 (Ai hL7 hQ7 (by decide));have hN8:=hN7.kept hgr8 (Ai hN7 hQ7 (by decide));have hA8:=hA7.kept hgr8 (Ai hA7 hQ7 (by decide));have hV8:=hV7.kept hgr8 (fun v l ho hav=>.inr (fun e=>hav e));have HD8:=Lib.hid ((hgr8.block w1.heap.size (Ak HD7.out) (fun e=>by have:=Option.some.inj e;omega)).trans HD7.out);have hmp8:=hmp7.kept hgr8 (fun e=>by have:=Option.some.inj e;omega);have hsz8:=Nat.le_trans hsz7 hgr8.size;clear hgr8 hL7 hQ7 hN7 hA7 hV7 HD7 hE8 hsz7;go_wp2_with (first
       | (refine wpList_load_row rfl 116 (.tmp 21) rfl _ rfl _ _ _ _ HY7.out Tryz.underlying116 rfl Dc ?_)
       | (at_lookup;refine D8 rfl _ _ 167 rfl Lh Tryz.underlying167 rfl hmp7 y rfl hkey ?_;rw [hf];dsimp only [Option.isSome,Option.getD]))
      go_roundw
      case rel=>exact ⟨k+1,l2,f2,r.set k v,go2,co2,by omega,hlm2,by go_num,rfl,hE9,hsz8,hmp8,hL8,hQ8,HD8,hN8,hA8,hV8,Lib.hid ⟨HJ'.out,HJ.out.2⟩⟩
      case measure=>simp [intOf];omega
     | none=>
      go_upto_region 15 with (first
       | (refine wpList_load_row rfl 116 (.tmp 21) rfl _ rfl _ _ _ _ HY7.out Tryz.underlying116 rfl Dc ?_)
       | (at_lookup;refine D8 rfl _ _ 167 rfl Lh Tryz.underlying167 rfl hmp7 y rfl hkey ?_;rw [hf];dsimp only [Option.isSome,Option.getD]))
      by_cases hfull:l2.length=most
      ·have heq:((l2.length:Int)==(most:Int))=true:=by simp [hfull]
       have hbz:=Lib.hid Ait;have HB12x:=Lib.hid (hE8.heap HB12.out);have hMany:Bx nx st most:=by
        refine ⟨l2++[y],?_,fun x hx=>?_,by rw [List.length_append,hfull];simp⟩
        ·rw [List.nodup_append];refine ⟨HJ.out.1.nodup,by simp,fun x hx z hz=>?_⟩;have hz:z=y:=by simpa using hz
         subst hz;rintro rfl;obtain ⟨v,hv⟩:=List.getElem?_of_mem hx;have:=(HJ.out.1.num x v).2 hv;rw [hf] at this;cases this
        ·rcases List.mem_append.1 hx with hx|hx
         ·exact HJ.out.1.reach x hx
         ·have hx:x=y:=by simpa using hx
          subst hx;obtain ⟨u,hu⟩:=HJ.out.1.reach s (List.mem_of_getElem? HS2.out);refine ⟨u++[UInt8.ofNat b],?_⟩;rw [Eh,hu,u8n b hb8,← HBD.out];exact HYD.out
       have hMany:=Lib.hid hMany;have zo:Tryz.zeroCells108.all (·.oneCell')=true:=by kernel_rfl
       clear hfull;go_wp2_with (first
        | (refine Ci rfl 108 _ rfl Tryz.zeroCells108 ?_ ?_;(simp;with_reducible exact hbz.out))
        | (refine wpList_store_row rfl 108 (.tmp 12) (.tmp 69) rfl _ _ rfl rfl _ _ HB12x.out (by rw [Cl];exact Bv) rfl zo ?_))
       refine bodyPost_ret (v:=.tuple #[.agg Tryz.zeroCells108,.bool false]) (A2 rfl _ _ _ _ _ _ _ rfl _ rfl (setRow_heap w7 _ _ Tryz.zeroCells108 108 (0,0) HB12x.out) Tryz.underlying108 rfl (by rw [Cl];exact Bv)) rfl ?_;exact ⟨(hE0.trans hE8).setRow (by omega) _,.inr ⟨hMany.out,rfl⟩⟩
      ·have heq:((l2.length:Int)==(most:Int))=false:=by simp;omega
       have hJ':=Vn HJ.out.1 hkc hb HS2.out (by rw [HYD.out];exact hf);rw [HYD.out] at hJ';have HJ':=Lib.hid hJ';clear hJ';go_upto_region 18 with (first
        | (refine wpList_load_row rfl 116 (.tmp 21) rfl _ rfl _ _ _ _ HY7.out Tryz.underlying116 rfl Dc ?_)
        | (at_mapUpdate;refine Ik rfl _ _ _ 167 rfl Lh Tryz.underlying167 rfl hmp7 (by unfold maxLen;omega) Rr y rfl hkey l2.length rfl (by omega) ?_;intro w8 hmp8 hgr8))
       have hL8:=hL7.kept hgr8 (hmp7.far hL7);have hQ8:=hQ7.kept hgr8 (hmp7.far hQ7);have hN8:=hN7.kept hgr8 (hmp7.far hN7);have hA8:=hA7.kept hgr8 (hmp7.far hA7);have hV8:=hV7.kept hgr8 (fun v l ho hav=>hmp7.far ho);have HD8:=Lib.hid ((hgr8.block w1.heap.size (Ak HD7.out) (by simp)).trans HD7.out);have hE9:=hE8.grown hgr8 (fun k e=>by cases e;omega);have hsz8:=Nat.le_trans hsz7 hgr8.size;have hgy:gy<w7.heap.size:=Ak HY7.out;have hygm:gy≠w1.heap.size+1:=fun e=>by
        obtain ⟨_,⟨es,clock,hbm,_⟩,_⟩:=hmp7;have:=HY7.out;rw [e,hbm] at this;cases this
       have HY8:=Lib.hid ((hgr8.block gy hgy (fun e=>hygm (Option.some.inj e))).trans HY7.out);clear hgr8 hL7 hQ7 hN7 hA7 hV7 HD7 hE8 hsz7 hmp7 hygm hgy;go_upto_region 19 with (first
        | (refine wpList_load_row rfl 116 (.tmp 21) rfl _ rfl _ _ _ _ HY8.out Tryz.underlying116 rfl Dc ?_)
        | (at_builtin;refine wpList_append_lies _ rfl _ _ 168 rfl (w1.heap.size+1+1) 116 i7 (.agg #[.int .i64 0,.int .i64 0,.int .u64 0]) 3 24 Tryz.underlying168 hi7 hu0 hu1 hu2 rfl (by decide) _ _ _ rfl (hL8.alloc _) _ 1 1 (stL y) rfl rfl (World.news_of_block (Ab w8 _)) (by simp [stL,Value.oneCell']) (by decide) (by unfold maxLen;omega) (by omega) (by simp;omega) _ rfl ?_;intro g9 c9 w9 hL9 hgr9 _ _))
       have hE10:=(hE9.alloc (.cells #[iv y.p,iv y.q,.int .u64 (y.s:Int)] 116)).grown hgr9 (fun k e=>by have:=(hL8.lt k e).1;omega);have hQ9:=(hQ8.alloc (.cells #[iv y.p,iv y.q,.int .u64 (y.s:Int)] 116)).kept hgr9 (Ai hQ8 hL8 (by decide));have hN9:=(hN8.alloc (.cells #[iv y.p,iv y.q,.int .u64 (y.s:Int)] 116)).kept hgr9 (Ai hN8 hL8 (by decide));have hA9:=(hA8.alloc (.cells #[iv y.p,iv y.q,.int .u64 (y.s:Int)] 116)).kept hgr9 (Ai hA8 hL8 (by decide));have hV9:=(hV8.alloc (.cells #[iv y.p,iv y.q,.int .u64 (y.s:Int)] 116)).kept hgr9 (fun v l ho _=>Ai ho (hL8.alloc (.cells #[iv y.p,iv y.q,.int .u64 (y.s:Int)] 116)) (by decide));have HD9:=Lib.hid ((hgr9.block w1.heap.size (Nat.lt_of_lt_of_le (Ak HD8.out) (by rw [World.size_alloc];omega)) (fun e=>by have:=(hL8.lt _ e.symm).1;omega)).trans (Af HD8.out _));have hmp9:=(hmp8.alloc (.cells #[iv y.p,iv y.q,.int .u64 (y.s:Int)] 116)).kept hgr9 (hmp8.ne_row hL8);have hsz9:w1.heap.size+1+1≤w9.heap.size:=by
        have:=hgr9.size;rw [World.size_alloc] at this;omega
       have HL9:Hid (J3 w9 (w1.heap.size+1+1) (.slice (some ⟨g9,0,none⟩) (l2++[y]).length c9) (l2++[y])):=Lib.hid (by
        show World.ownsRow _ _ _ _ _ _ _;rw [List.length_append,Agg,Age];exact hL9)
       clear hgr9 hL8 hQ8 hN8 hA8 hV8 HD8 hE9 hsz8 hmp8 hL9 HY8;have cq:=Ap 0 hQ9 HLR.out.symm k (by rw [HLR.out];exact hkc);have fq:=hQ9.frozenAt k;obtain ⟨hQ10,hgr10⟩:=A3 hQ9 k l2.length;have hE11:=hE10.grown hgr10 (fun k e=>by cases e;omega);have HL10:=Lib.hid (HL9.out.kept hgr10 (Ai HL9.out hQ9 (by decide)));have hN10:=hN9.kept hgr10 (Ai hN9 hQ9 (by decide));have hA10:=hA9.kept hgr10 (Ai hA9 hQ9 (by decide));have hV10:=hV9.kept hgr10 (fun v l ho hav=>.inr (fun e=>hav e));have HD10:=Lib.hid ((hgr10.block w1.heap.size (Ak HD9.out) (fun e=>by have:=Option.some.inj e;omega)).trans HD9.out);have hmp10:=hmp9.kept hgr10 (fun e=>by have:=Option.some.inj e;omega);have hsz10:=Nat.le_trans hsz9 hgr10.size;clear hgr10 HL9 hQ9 hN9 hA9 hV9 HD9 hE10 hsz9 hmp9;go_wp2_with (fail);go_roundw
       case rel=>
        refine ⟨k+1,l2++[y],_,r.set k l2.length,g9,c9,by omega,by rw [List.length_append];simp;omega,by go_num,?_,hE11,hsz10,?_,?_,hQ10,HD10,hN10,hA10,hV10,Lib.hid ⟨HJ'.out,?_,fun j hj=>?_⟩⟩
        ·rw [List.length_append];rfl
        ·rw [List.length_append];exact hmp10
        ·have h9:World.ownsRow _ _ _ _ _ _ _:=HL10.out;show World.ownsRow _ _ _ _ _ _ _;rw [show (l2++[y]).length=l2.length+1 by simp] at h9 ⊢;exact h9
        ·rw [List.length_append];have:=HJ.out.2.1;omega
        ·rw [List.getElem?_append_left (by have:=HJ.out.2.1;omega)];exact HJ.out.2.2 j hj
       case measure=>simp [intOf];omega
    ·obtain rfl:k=bs.length:=by omega
     have c1:=(cell_of_row w5 w1.heap.size 257 _ _ _ HD.out).trans (Iq _ _ _ _);have hvb:vs.length≤1073741824:=by rw [hV.1,HJ.out.1.lenN];omega
     go_upto_region 22 with (at_builtin;refine wpList_append_lies _ rfl _ _ 27 rfl (w1.heap.size+1+1) 68 i6 (.slice none 0 0) 1 24 Tryz.underlying27 hi6 hx0 hx1 hx2 rfl (by decide) vnx vs.length vs rfl (hNx.alloc _) _ 1 1 [.slice (some ⟨gr,0,none⟩) bs.length bs.length] rfl rfl (cell_one_new _ _ _) (by simp [Value.oneCell']) (by decide) (by unfold maxLen;omega) (by omega) (by simp;omega) _ rfl ?_;intro g7 c7 w7 hN7 hgr7 _ _;have HD7:Hid (w7.heap[w1.heap.size]? = _):=Lib.hid ((hgr7.block w1.heap.size (Nat.lt_of_lt_of_le (Ak HD.out) (by rw [World.size_alloc];omega)) (fun e=>by have:=(hNx.lt _ e.symm).1;omega)).trans (Af HD.out _));have c17:=(cell_of_row w7 w1.heap.size 257 _ _ _ HD7.out).trans (Iq _ _ _ _);have f17:=frozen_of_row w7 w1.heap.size 257 _ _ HD7.out)
     clear c1 c17 f17;have hmp7:=(hmp.alloc (.cells #[.slice (some ⟨gr,0,none⟩) bs.length bs.length] 68)).kept hgr7 (hmp.ne_row hNx);have hL7:=(hL.alloc (.cells #[.slice (some ⟨gr,0,none⟩) bs.length bs.length] 68)).kept hgr7 (Ai hL hNx (by decide));have hQ7:=(hQ.alloc (.cells #[.slice (some ⟨gr,0,none⟩) bs.length bs.length] 68)).kept hgr7 (Ai hQ hNx (by decide));have hA7:=(hAx.alloc (.cells #[.slice (some ⟨gr,0,none⟩) bs.length bs.length] 68)).kept hgr7 (Ai hAx hNx (by decide));have hV7:=(hV.alloc (.cells #[.slice (some ⟨gr,0,none⟩) bs.length bs.length] 68)).kept hgr7 (fun v l ho _=>Ai ho (hNx.alloc (.cells #[.slice (some ⟨gr,0,none⟩) bs.length bs.length] 68)) (by decide));have hE7:=(hE.alloc (.cells #[.slice (some ⟨gr,0,none⟩) bs.length bs.length] 68)).grown hgr7 (fun k e=>by have:=(hNx.lt k e).1;omega);have hsz7:w1.heap.size+1+1≤w7.heap.size:=by
      have:=hgr7.size;rw [World.size_alloc] at this;omega
     clear hgr7 hmp hL hQ hAx hV hE hNx HD;have hN7:w7.ownsRow (w1.heap.size+1+1) 68 1 (.slice (some ⟨g7,0,none⟩) (vs.length+1) c7) (vs++[Value.slice (some ⟨gr,0,none⟩) bs.length bs.length]).length (vs++[Value.slice (some ⟨gr,0,none⟩) bs.length bs.length]):=by
      rw [List.length_append];exact hN7
     obtain ⟨row,hrowd⟩:∃ v,Value.slice (some ⟨gr,0,none⟩) bs.length bs.length=v:=⟨_,rfl⟩;have hrowb:row.ownBlock=some gr:=by rw [← hrowd];rfl
     rw [hrowd] at hN7 hQ7;clear hrowd;obtain ⟨vn8,hvn8⟩:∃ v,Value.slice (some ⟨g7,0,none⟩) (vs.length+1) c7=v:=⟨_,rfl⟩;rw [hvn8] at hN7;have hgr8:=B3 w7 w1.heap.size (Ag c bs.length vn8 vac);have hsc:w7.setCell ⟨w1.heap.size,257,none⟩ vn8=w7.setRow w1.heap.size (Ag c bs.length vn8 vac):=by
      rw [setCell_eq_setRow w7 _ _ _ _ _ _ HD7.out,Rd]
     have hE8:=hE7.setRow (Nat.le_refl _) (Ag c bs.length vn8 vac);have hmp8:=hmp7.kept hgr8 (by simp);have hL8:=hL7.kept hgr8 (Ao hL7 (by omega));have hQ8:=hQ7.kept hgr8 (Ao hQ7 (by omega));have hN8:=hN7.kept hgr8 (Ao hN7 (by omega));have hA8:=hA7.kept hgr8 (Ao hA7 (by omega));have hV8:=hV7.kept hgr8 (fun v l ho _=>Ao ho (by omega));have HD8:=Lib.hid (setRow_heap w7 w1.heap.size _ (Ag c bs.length vn8 vac) _ _ HD7.out);have hsz8:w1.heap.size+1+1≤(w7.setRow w1.heap.size (Ag c bs.length vn8 vac)).heap.size:=by rw [size_setRow];exact hsz7
     rw [hvn8,hsc];clear hgr8 hmp7 hL7 hQ7 hN7 hA7 hV7 hE7 hsz7 HD7 hsc;obtain ⟨w8,hw8⟩:∃ W,w7.setRow w1.heap.size (Ag c bs.length vn8 vac)=W:=⟨_,rfl⟩;rw [hw8] at hmp8 hL8 hQ8 hN8 hA8 hV8 HD8 hE8 hsz8;rw [hw8];clear hw8;have hmp9:=hmp8.ext (Ext.refl w8).drew;have hL9:=Ah hL8 (Ext.refl w8).drew;have hQ9:=Ah hQ8 (Ext.refl w8).drew;have hN9:=Ah hN8 (Ext.refl w8).drew;have hA9:=Ah hA8 (Ext.refl w8).drew;have hV9:=hV8.kept ((Ext.refl w8).drew.grownBy none) (fun v l _ _=>by cases v.ownBlock<;>simp);have HD9:Hid (w8.drew.heap[w1.heap.size]? = some (.cells (Ag c bs.length vn8 vac) 108 (0,0))):=Lib.hid HD8.out;have hE9:=hE8.drew;have hsz9:w1.heap.size+1+1≤w8.drew.heap.size:=hsz8;obtain ⟨s0,s1,s2⟩:=Iu hL9 i s HS2.out;have c2:∀ W:World,W.heap[w1.heap.size]? = some (.cells (Ag c bs.length vn8 vac) 108 (0,0))→W.cell? ⟨w1.heap.size,258,none⟩=some vac:=fun W hW=>(cell_of_row W w1.heap.size 258 _ _ _ hW).trans (Gc _ _ _ _)
     have hAb:Ac.length≤1073741824:=by rw [HI.out.2.1];omega
     have hact:=Lib.hid (fun (W:World) (hW:Ext w W)=>HA.out W hW s HGS.out);refine Dh 11 [(0,true),(1,true),(2,true),(3,true),(4,true),(5,true),(6,true),(7,false),(8,false),(9,false),(10,true),(11,false)] (by kernel_rfl) (by kernel_rfl) (fun _ _ _ _ h=>h)
      (fun W=>W.heap[w1.heap.size]? = some (.cells (Ag c bs.length vn8 vac) 108 (0,0))∧W.cell? ⟨go2,i*3,none⟩=some (iv s.p)∧W.cell? ⟨go2,i*3+1,none⟩=some (iv s.q)∧W.cell? ⟨go2,i*3+2,none⟩=some (.int .u64 (s.s:Int))) ⟨HD9.out,s0,s1,s2⟩ ?_
     obtain ⟨w9,hw9⟩:∃ W,w8.drew=W:=⟨_,rfl⟩;rw [hw9] at hmp9 hL9 hQ9 hN9 hA9 hV9 HD9 hE9 hsz9 s0 s1 s2;rw [hw9];clear hw9 hmp8 hL8 hQ8 hN8 hA8 hV8 HD8 hE8 hsz8;clear s0 s1 s2;iterate 7
      refine Fr (v:=?_) rfl rfl (fun W hW=>?_) ?_
      rotate_left
      ·obtain ⟨hWD,t0,t1,t2⟩:=hW;have k2:=c2 W hWD;clear hWD;go_simp;first|done|with_reducible rfl
      simp only [Act.put,List.setIfInBounds_toArray,List.set_cons_zero,List.set_cons_succ]
     refine C8 rfl (fun K hK=>?_);go_simp
     (with_reducible refine (hact.out w9 (hE0.trans hE9)).mono ?_)
     rintro e w10 ⟨rfl,hE10⟩;obtain ⟨s0,s1,s2⟩:=Iu hL9 i s HS2.out;refine hK _ _ (fun _=>⟨hE10.heap HD9.out,hE10.cell s0,hE10.cell s1,hE10.cell s2⟩) ?_;clear hK K s0 s1 s2;have hmp10:=hmp9.ext hE10;have hL10:=Ah hL9 hE10;have hQ10:=Ah hQ9 hE10;have hN10:=Ah hN9 hE10;have hA10:=Ah hA9 hE10;have hV10:=hV9.kept (hE10.grownBy none) (fun v l _ _=>by cases v.ownBlock<;>simp);have HD10:=Lib.hid (hE10.heap HD9.out);have hE11:=hE9.trans hE10;have hsz10:=Nat.le_trans hsz9 hE10.size;clear hmp9 hL9 hQ9 hN9 hA9 hV9 HD9 hE9 hsz9 hE10;obtain ⟨s0,s1,s2⟩:=Iu hL10 i s HS2.out;have HAC:Hid (∀ j x,j<i+1→l2[j]? = some x→(Ac++[ac s]).getD j false=ac x):=Lib.hid fun j x hj hx=>by
      rw [Hq,HI.out.2.1];by_cases hji:j<i
      ·rw [if_pos hji];rw [HJ.out.2.2 j (by omega)] at hx;exact HI.out.2.2 j x hji hx
      ·obtain rfl:j=i:=by omega
       rw [if_neg (by omega),if_pos rfl];rw [HS2.out] at hx;injection hx with hx
       rw [hx]
     generalize ac s=bx at *;refine C8 rfl (fun K hK=>?_);go_simp;refine hK _ _ (fun _=>⟨Af HD10.out _,((Ext.refl w10).alloc _).cell s0,((Ext.refl w10).alloc _).cell s1,((Ext.refl w10).alloc _).cell s2⟩) ?_;clear hK K s0 s1 s2;refine C8 rfl (fun K hK=>?_);refine step_append_lies _ rfl _ _ 28 rfl (w1.heap.size+1+1) 4 i4 (.bool false) 1 1 Tryz.underlying28 hi4 hy0 hy1 hy2 rfl (by decide) vac Ac.length (Ac.map Value.bool) rfl (hA10.alloc _) _ 1 1 [.bool bx] rfl rfl (cell_one_new _ _ _) (by simp [Value.oneCell']) (by decide) (by unfold maxLen;omega) (by omega) (by simp;omega) _ rfl ?_;intro g11 c11 w11 hA11 hgr11 _ _;have hE12:=(hE11.alloc (.cells #[.bool bx] 4)).grown hgr11 (fun k e=>by have:=(hA10.lt k e).1;omega);have HD11:=Lib.hid ((hgr11.block w1.heap.size (Nat.lt_of_lt_of_le (Ak HD10.out) (by rw [World.size_alloc];omega)) (fun e=>by have:=(hA10.lt _ e.symm).1;omega)).trans (Af HD10.out _));have hmp11:=(hmp10.alloc (.cells #[.bool bx] 4)).kept hgr11 (hmp10.ne_row hA10);have hL11:=(hL10.alloc (.cells #[.bool bx] 4)).kept hgr11 (Ai hL10 hA10 (by decide));have hQ11:=(hQ10.alloc (.cells #[.bool bx] 4)).kept hgr11 (Ai hQ10 hA10 (by decide));have hN11:=(hN10.alloc (.cells #[.bool bx] 4)).kept hgr11 (Ai hN10 hA10 (by decide));have hV11:=(hV10.alloc (.cells #[.bool bx] 4)).kept hgr11 (fun v l ho _=>Ai ho (hA10.alloc (.cells #[.bool bx] 4)) (by decide));have hsz11:w1.heap.size+1+1≤w11.heap.size:=by
      have:=hgr11.size;rw [World.size_alloc] at this;omega
     have hA11:OwnB w11 (w1.heap.size+1+1) (.slice (some ⟨g11,0,none⟩) (Ac.length+1) c11) (Ac++[bx]):=by
      show World.ownsRow _ _ _ _ _ _ _;rw [List.length_append,List.map_append];exact hA11
     clear hgr11 hmp10 hL10 hQ10 hN10 hA10 hV10 HD10 hE11 hsz10;obtain ⟨s0,s1,s2⟩:=Iu hL11 i s HS2.out;refine hK _ _ (fun _=>⟨HD11.out,s0,s1,s2⟩) ?_;clear hK K s0 s1 s2;refine Fr (v:=?_) rfl rfl (fun W hW=>?_) ?_
     rotate_left
     ·clear hW;go_simp;first|done|with_reducible rfl
     simp only [Act.put,List.setIfInBounds_toArray,List.set_cons_zero,List.set_cons_succ];have k2:=c2 w11 HD11.out;have f2':=frozen_of_row w11 w1.heap.size 258 _ _ HD11.out;refine C8 rfl (fun K hK=>?_);go_simp;refine hK _ _ (fun h=>absurd h (by omega)) ?_;clear hK K k2 f2' c2;refine Di ?_;obtain ⟨va8,hva8⟩:∃ v,Value.slice (some ⟨g11,0,none⟩) (Ac.length+1) c11=v:=⟨_,rfl⟩;rw [hva8] at hA11;have hgr12:=B3 w11 w1.heap.size (Ag c bs.length vn8 va8);have hsc:w11.setCell ⟨w1.heap.size,258,none⟩ va8=w11.setRow w1.heap.size (Ag c bs.length vn8 va8):=by
      rw [setCell_eq_setRow w11 _ _ _ _ _ _ HD11.out,M2]
     have hE13:=hE12.setRow (Nat.le_refl _) (Ag c bs.length vn8 va8);have hmp12:=hmp11.kept hgr12 (by simp);have hL12:=hL11.kept hgr12 (Ao hL11 (by omega));have hQ12:=hQ11.kept hgr12 (Ao hQ11 (by omega));have hN12:=hN11.kept hgr12 (Ao hN11 (by omega));have hA12:=hA11.kept hgr12 (Ao hA11 (by omega));have hV12:=hV11.kept hgr12 (fun v l ho _=>Ao ho (by omega));have HD12:=Lib.hid (setRow_heap w11 w1.heap.size _ (Ag c bs.length vn8 va8) _ _ HD11.out);have hsz12:w1.heap.size+1+1≤(w11.setRow w1.heap.size (Ag c bs.length vn8 va8)).heap.size:=by rw [size_setRow];exact hsz11
     rw [hva8,hsc];clear hgr12 hmp11 hL11 hQ11 hN11 hA11 hV11 hE12 hsz11 HD11 hsc;obtain ⟨w12,hw12⟩:∃ W,w11.setRow w1.heap.size (Ag c bs.length vn8 va8)=W:=⟨_,rfl⟩;rw [hw12] at hmp12 hL12 hQ12 hN12 hA12 hV12 HD12 hE13 hsz12;rw [hw12];clear hw12;have hQ13:OwnI w12 (w1.heap.size+1+1) row r:=by
      show World.ownsRow _ _ _ _ _ _ _;rw [HLR.out];exact hQ12
     have hV13:=(hV12.av (av':=fun _=>False) (fun v l _ _ e=>e)).snoc hQ13 (fun e=>e);have HNX:=Lib.hid (Vl HJ.out.1 HJ.out.2.1 (List.replicate bs.length 0) (by simp));have HAL:Hid ((Ac++[bx]).length=i+1):=Lib.hid (by rw [List.length_append,HI.out.2.1];rfl);clear hQ12 hV12 hQ13;go_wp2;go_roundw
     case rel=>exact ⟨i+1,l2,f2,N'++[r],Ac++[bx],vs++[row],go2,co2,vn8,va8,by omega,hlm2,by go_num,rfl,hE13,hsz12,hmp12,hL12,HD12,hN12,hA12,hV13,Lib.hid ⟨HNX.out,HAL.out,HAC.out⟩⟩
     case measure=>simp [intOf];omega
  ·obtain rfl:i=l.length:=by omega
   have HXP:=Lib.hid (Vo (c:=c) (ac:=ac) HI.out.1 rfl HI.out.2.1 (fun j s hs=>HI.out.2.2 j s (List.getElem?_eq_some_iff.1 hs).1 hs));have HB12x:=Lib.hid (hE.heap HB12.out);have hRows:=hV.rows hNx (by rw [HI.out.1.lenN];omega) (fun j hj=>by rw [HI.out.1.rows j (by rw [← HI.out.1.lenN];exact hj)];omega);obtain ⟨an,cpn,rfl⟩:=Ew hNx;obtain ⟨aa,cpa,rfl⟩:=Ew hAx;have hsT:(Tryz.prog.info? 108).map (·.size)=some (Ag c bs.length (.slice an vs.length cpn) (.slice aa Ac.length cpa)).size:=by rw [D1];exact Bv
   have hzT:Tryz.zeroCells108.size=(Ag c bs.length (.slice an vs.length cpn) (.slice aa Ac.length cpa)).size:=by rw [D1,Cl]
   have hoT:=Ga c bs.length (.slice an vs.length cpn) (.slice aa Ac.length cpa) rfl rfl;have hgr:=B3 wr (w.heap.size+1+1) (Ag c bs.length (.slice an vs.length cpn) (.slice aa Ac.length cpa));have hN':=hNx.kept hgr (Ao hNx (by omega));have hA':=hAx.kept hgr (Ao hAx (by omega));have hV':=hV.kept hgr (fun v l ho _=>Ao ho (by omega));have hEnd:=(hE0.trans hE).setRow (show w.heap.size≤w.heap.size+1+1 by omega) (Ag c bs.length (.slice an vs.length cpn) (.slice aa Ac.length cpa));have hIT:IsT (wr.setRow (w.heap.size+1+1) (Ag c bs.length (.slice an vs.length cpn) (.slice aa Ac.length cpa))) (Ag c bs.length (.slice an vs.length cpn) (.slice aa Ac.length cpa)) ⟨c,bs.length,N',Ac⟩:=
    ⟨_,_,rfl,hV'.rows hN' (by rw [HI.out.1.lenN];omega) (fun j hj=>by rw [HI.out.1.rows j (by rw [← HI.out.1.lenN];exact hj)];omega),OwnB.bools (l:=Ac) hA' (by rw [HI.out.2.1];omega)⟩
   have hITg:∀ g cs,g<w.heap.size→IsT ((wr.setRow (w.heap.size+1+1) (Ag c bs.length (.slice an vs.length cpn) (.slice aa Ac.length cpa))).setRow g cs) (Ag c bs.length (.slice an vs.length cpn) (.slice aa Ac.length cpa)) ⟨c,bs.length,N',Ac⟩:=fun g cs hg=>by
    have hgr2:=B3 (wr.setRow (w.heap.size+1+1) (Ag c bs.length (.slice an vs.length cpn) (.slice aa Ac.length cpa))) g cs;have hN2:=hN'.kept hgr2 (Ao hN' (by omega));have hA2:=hA'.kept hgr2 (Ao hA' (by omega));have hV2:=hV'.kept hgr2 (fun v l ho _=>Ao ho (by omega));exact ⟨_,_,rfl,hV2.rows hN2 (by rw [HI.out.1.lenN];omega) (fun j hj=>by rw [HI.out.1.rows j (by rw [← HI.out.1.lenN];exact hj)];omega),OwnB.bools (l:=Ac) hA2 (by rw [HI.out.2.1];omega)⟩
   have HITg:=Lib.hid hITg;have hITn:∀ W,Near (wr.setRow (w.heap.size+1+1) (Ag c bs.length (.slice an vs.length cpn) (.slice aa Ac.length cpa))) W→IsT W (Ag c bs.length (.slice an vs.length cpn) (.slice aa Ac.length cpa)) ⟨c,bs.length,N',Ac⟩:=fun W hW=>
    ⟨_,_,rfl,(hW.rows hV').rows (hW.owns hN' (by decide)) (by rw [HI.out.1.lenN];omega) (fun j hj=>by rw [HI.out.1.rows j (by rw [← HI.out.1.lenN];exact hj)];omega),OwnB.bools (l:=Ac) (hW.owns hA' (by decide)) (by rw [HI.out.2.1];omega)⟩
   have HITn:=Lib.hid hITn;clear hgr hN' hA' hV' hRows hITg hITn;obtain ⟨TT,hTT⟩:∃ X,Ag c bs.length (.slice an vs.length cpn) (.slice aa Ac.length cpa)=X:=⟨_,rfl⟩;rw [hTT] at HD hsT hzT hoT hEnd hIT HITg HITn;clear hTT;go_wp2_with (first
    | (refine wpList_load_row rfl 108 (.tmp 14) rfl _ rfl _ _ _ _ HD.out Tryz.underlying108 rfl hsT ?_)
    | (refine wpList_store_row rfl 108 (.tmp 12) (.tmp 99) rfl _ _ rfl rfl _ _ HB12x.out hsT hzT hoT ?_))
   refine bodyPost_ret (v:=.tuple #[.agg TT,.bool true]) (A2 rfl _ _ _ _ _ _ _ rfl _ rfl (setRow_heap wr _ _ TT 108 (0,0) HB12x.out) Tryz.underlying108 rfl hsT) rfl ?_;exact ⟨hEnd,.inl ⟨TT,l,_,rfl,hIT,HXP.out,hlm,HITg.out,HITn.out⟩⟩
end Go.Proofs.YtaiogolidlamiaaGreatDoor
