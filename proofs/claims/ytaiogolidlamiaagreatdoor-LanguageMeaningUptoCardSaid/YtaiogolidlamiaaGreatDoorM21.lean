import Derived.Test.YtaiogolidlamiaaGreatDoorM17
import Derived.Test.YtaiogolidlamiaaGreatDoorM20
import Derived.Test.YtaiogolidlamiaaGreatDoorM18
set_option linter.unusedVariables false
set_option linter.unusedSimpArgs false
namespace Go.Proofs.YtaiogolidlamiaaGreatDoor
set_option maxRecDepth 100000
open Go.RowKit Go.Shelf
theorem Aiu:Tryz.prog.built 108 [(1,.int .i64 256)]=some (Ag (fun _=>0) 256 (.slice none 0 0) (.slice none 0 0)):=by kernel_rfl
def idC (k y:Nat):Nat:=if y<k then y else 0
theorem Af4 (k:Nat) (hk:k<256) (n:Nat) (vn va:Value):(Ag (idC k) n vn va).setIfInBounds k (iv k)=Ag (idC (k+1)) n vn va:=by
 rw [Re _ _ _ _ _ _ hk];refine Gb (fun b hb=>?_) n vn va;unfold idC;by_cases e:b=k
 ·subst e;simp
 ·rw [if_neg e];by_cases h:b<k
  ·rw [if_pos h,if_pos (by omega)]
  ·rw [if_neg h,if_neg (by omega)]
def D6 (m k:Nat):List Nat:=(List.range 256).map fun j=>if j<k then m else 0
theorem Hv (m k:Nat):(D6 m k).length=256:=by simp [D6]
theorem Agy (m:Nat):D6 m 0=List.replicate 256 0:=by
 apply List.ext_getElem?;intro i;simp only [D6,List.getElem?_map,List.getElem?_replicate,Nat.not_lt_zero,if_false];by_cases h:i<256
 ·simp [h]
 ·simp [h]
theorem Agz (m k:Nat) (hk:k<256):(D6 m k).set k m=D6 m (k+1):=by
 apply List.ext_getElem?;intro i;rw [List.getElem?_set,Hv];simp only [D6,List.getElem?_map];by_cases h:i<256
 ·rw [List.getElem?_range h];by_cases e:k=i
  ·subst e;simp [hk]
  ·simp only [e,if_false,Option.map_some];by_cases h1:i<k
   ·rw [if_pos h1,if_pos (by omega)]
   ·rw [if_neg h1,if_neg (by omega)]
 ·rw [if_neg (by omega)];simp [h]
theorem Xs (l:List UInt8) (s:Nat) (hs:s<l.length):(D6 (l.length+1) 256).set (l.getD s 0).toNat (s+1)=Cm l s:=by
 apply List.ext_getElem?;intro i;rw [List.getElem?_set,Hv];have hx:=(l.getD s 0).toNat_lt;simp only [D6,Cm,List.getElem?_map];by_cases h:i<256
 ·rw [List.getElem?_range h];by_cases e:(l.getD s 0).toNat=i
  ·rw [if_pos e,if_pos (by omega),Option.map_some,if_pos ⟨hs,e⟩]
  ·rw [if_neg e,Option.map_some,Option.map_some,if_pos h,if_neg (fun h'=>e h'.2)]
 ·rw [if_neg (by omega)];simp [h]
theorem Xr (l:List UInt8) (s:Nat) (hs:¬ s<l.length):D6 (l.length+1) 256=Cm l s:=by
 unfold D6 Cm;refine List.map_congr_left fun b hb=>?_
 have:=List.mem_range.1 hb;rw [if_pos this,if_neg (fun h=>hs h.1)]
set_option maxHeartbeats 2000000 in
theorem Mv (l:List UInt8) (hl:l.length≤62) (v:Value) (w:World) (h:By w v l) :
  Calls Tryz.prog 45 #[v] w fun e w'=>∃ r,ResOf w' e (some r)∧Cano r∧(∀ u,r.has u=true↔u=l)∧Ext w w':=by
 obtain ⟨ab,bb,ob,cb,rfl,hab,hcb⟩:=h.split;obtain ⟨i0,hi,hz0,hz1,hz2⟩:=info_parts Dm;obtain ⟨i4,hi4,hy0,hy1,hy2⟩:=info_parts Fd;obtain ⟨i6,hi6,hx0,hx1,hx2⟩:=info_parts (show (Tryz.prog.info? 68).map (fun i=>(i.zero,i.size,i.bytes))=some (some (.slice none 0 0),1,24) by kernel_rfl);have HAB:=Lib.hid hab;have HCB:=Lib.hid hcb;have hB0:=Lib.hid Aiu;obtain ⟨T0,hT0⟩:∃ X,Ag (fun _=>0) 256 (.slice none 0 0) (.slice none 0 0)=X:=⟨_,rfl⟩;rw [hT0] at hB0;have hsC:Tryz.zeroCells108.size=T0.size:=by rw [← hT0,Cl,D1]
 have hiC:(Tryz.prog.info? 108).map (·.size)=some T0.size:=by rw [← hT0,D1];exact Bv
 have hoC:T0.all (·.oneCell')=true:=by rw [← hT0];exact Ga _ _ (.slice none 0 0) (.slice none 0 0) rfl rfl
 have HT0:=Lib.hid hT0;have hE0:=(Ext.refl w).alloc (.cells #[.slice none 0 0,.slice none 0 0,.slice none 0 0] 30);have H2:=Ab w (.cells #[.slice none 0 0,.slice none 0 0,.slice none 0 0] 30);clear hT0 h hab hcb;go_enter Tryz.func45,Tryz.ntmps45;go_upto_region 1 with (fail)
 obtain ⟨w1,hw1⟩:∃ W,w.alloc (.cells #[.slice none 0 0,.slice none 0 0,.slice none 0 0] 30)=W:=⟨_,rfl⟩;have hs1:w.heap.size<w1.heap.size:=by rw [← hw1,World.size_alloc];omega
 rw [hw1] at hE0 H2;simp only [hw1];clear hw1;have HB2:=Lib.hid H2;clear H2;go_upto_region 5 with (first
  | (refine Ci rfl 108 _ rfl T0 ?_ ?_;(simp [Act.eval];with_reducible exact hB0.out))
  | (refine wpList_store_row rfl 108 (.tmp 5) (.tmp 15) rfl _ _ rfl rfl _ _ (Ab w1 (.cells Tryz.zeroCells108 108)) hiC hsC hoC ?_))
 have hEa:=((Ext.refl w1).alloc (.cells Tryz.zeroCells108 108)).setRow (Nat.le_refl _) T0;have hDa:=setRow_heap (w1.alloc (.cells Tryz.zeroCells108 108)) w1.heap.size _ T0 _ _ (Ab w1 _);have hsa:w1.heap.size+1≤((w1.alloc (.cells Tryz.zeroCells108 108)).setRow w1.heap.size T0).heap.size:=by rw [size_setRow,World.size_alloc];exact Nat.le_refl _
 obtain ⟨wa,hwa⟩:∃ W,(w1.alloc (.cells Tryz.zeroCells108 108)).setRow w1.heap.size T0=W:=⟨_,rfl⟩;rw [hwa] at hEa hDa hsa;simp only [hwa];clear hwa hsC hiC hoC;rw [← HT0.out] at hDa;have HDa:Hid (wa.heap[w1.heap.size]? = some (.cells (Ag (idC 0) 256 (.slice none 0 0) (.slice none 0 0)) 108 (0,0))):=Lib.hid (by
  rw [hDa,Gb (c:=fun _=>0) (c':=idC 0) (fun b hb=>by simp [idC])])
 clear hDa;go_wp2_with (fail);go_loopw [16] (fun i W=>∃ k:Nat,k≤256∧i=.int .i64 k∧Ext w1 W∧w1.heap.size+1≤W.heap.size∧Hid (W.heap[w1.heap.size]? = some (.cells (Ag (idC k) 256 (.slice none 0 0) (.slice none 0 0)) 108 (0,0)))) (fun i _=>256-(intOf i).toNat)
 case atStart=>exact ⟨0,by omega,rfl,hEa,hsa,HDa⟩
 case round=>
  clear hEa hsa HDa;obtain ⟨k,hk,rfl,hE,hsz,HD⟩:=hrel;by_cases hlt:k<256
  ·have hki:(k:Int)<256:=by omega
   have ck:=(cell_of_row wr w1.heap.size k _ _ _ HD.out).trans (M3 _ _ _ _ k hlt);have fk:=frozen_of_row wr w1.heap.size k _ _ HD.out;have hE':=hE.setRow (Nat.le_refl _) (Ag (idC (k+1)) 256 (.slice none 0 0) (.slice none 0 0));have HD':=Lib.hid (setRow_heap wr w1.heap.size _ (Ag (idC (k+1)) 256 (.slice none 0 0) (.slice none 0 0)) _ _ HD.out);have HSC:Hid (wr.setCell ⟨w1.heap.size,k,none⟩ (iv k)=wr.setRow w1.heap.size (Ag (idC (k+1)) 256 (.slice none 0 0) (.slice none 0 0))):=Lib.hid (by rw [setCell_eq_setRow wr _ _ _ _ _ _ HD.out,Af4 _ hlt]);go_wp2_with (fail);go_roundw
   case rel=>exact ⟨k+1,by omega,by go_num,by rw [show wr.setCell ⟨w1.heap.size,k,none⟩ (.int .i64 (k:Int))=_ from HSC.out];exact hE',by rw [show wr.setCell ⟨w1.heap.size,k,none⟩ (.int .i64 (k:Int))=_ from HSC.out,size_setRow];exact hsz,by rw [show wr.setCell ⟨w1.heap.size,k,none⟩ (.int .i64 (k:Int))=_ from HSC.out];exact HD'⟩
   case measure=>simp [intOf];omega
  ·obtain rfl:k=256:=by omega
   have e256:((256:Nat):Int)=256:=rfl;simp only [e256];clear e256;go_wp2_with (fail);have hNo:=World.ownsRow_nil wr (w1.heap.size+1) 68 1;have hAo:=World.ownsRow_nil wr (w1.heap.size+1) 4 1;have hVo:RowsO wr (w1.heap.size+1) [] ((List.range 0).map (Cm l)) (fun _=>False):=⟨rfl,fun j hj=>by simp at hj⟩;go_loopw [26] (fun i W=>∃ (s:Nat) (vs:List Value) (vnx vac:Value),s≤l.length+2∧i=.int .i64 s∧Ext w1 W∧w1.heap.size+1≤W.heap.size∧Hid (W.heap[w1.heap.size]? = some (.cells (Ag (idC 256) 256 vnx vac) 108 (0,0)))∧
     W.ownsRow (w1.heap.size+1) 68 1 vnx vs.length vs∧OwnB W (w1.heap.size+1) vac ((List.range s).map fun q=>q==l.length)∧RowsO W (w1.heap.size+1) vs ((List.range s).map (Cm l)) (fun _=>False)∧Hid (vs.length=s))
    (fun i _=>l.length+2-(intOf i).toNat)
   case atStart=>exact ⟨0,[],_,_,by omega,rfl,hE,hsz,HD,hNo,hAo,hVo,Lib.hid rfl⟩
   case round=>
    clear hE hsz HD hNo hAo hVo;obtain ⟨s,vs,vnx,vac,hs,rfl,hE,hsz,HD,hN,hA,hV,HVS⟩:=hrel;by_cases hlt:s<l.length+2
    ·obtain ⟨wo,hwo⟩:∃ W,W=wr:=⟨_,rfl⟩;subst hwo;go_upto_region 14 with (at_make;refine wpList_make_full _ rfl _ _ 68 rfl (w1.heap.size+1) 3 i0 (.int .i64 0) 1 Tryz.underlying68 hi hz0 hz1 .i64 .i64 _ _ 256 rfl rfl rfl rfl (by rw [hz2];omega) (by unfold maxLen;omega) (by omega) ?_;intro w5 hown5 hgr5)
     have hE5:=hE.grown hgr5 (fun k e=>by cases e);have hQ5:w5.ownsRow (w1.heap.size+1) 3 1 (.slice (some ⟨wo.heap.size,0,none⟩) 256 256) 256 ((D6 (l.length+1) 0).map iv):=by rw [Agy,← Ca];exact hown5
     have HD5:=Lib.hid ((hgr5.block w1.heap.size (Ak HD.out) (by simp)).trans HD.out);have hN5:=Bt hN hgr5;have hA5:=Bt hA hgr5;have hV5:=(hV.av (av':=fun o=>o=some wo.heap.size) (fun v l ho hav e=>by
      have:=(ho.lt _ e).2;omega)).kept hgr5 (fun v l ho hav=>by cases v.ownBlock<;>simp)
     have hsz5:=Nat.le_trans hsz hgr5.size;have hgb:=(hQ5.lt wo.heap.size rfl).1;generalize wo.heap.size=gr at *;clear hown5 hgr5 HD hN hA hV hE hsz;go_wp2_with (fail);go_loopw [32] (fun i W=>∃ k:Nat,k≤256∧i=.int .i64 k∧Ext w1 W∧w1.heap.size+1≤W.heap.size∧Hid (W.heap[w1.heap.size]? = some (.cells (Ag (idC 256) 256 vnx vac) 108 (0,0)))∧
       W.ownsRow (w1.heap.size+1) 68 1 vnx vs.length vs∧OwnB W (w1.heap.size+1) vac ((List.range s).map fun q=>q==l.length)∧RowsO W (w1.heap.size+1) vs ((List.range s).map (Cm l)) (fun o=>o=some gr)∧
       W.ownsRow (w1.heap.size+1) 3 1 (.slice (some ⟨gr,0,none⟩) 256 256) 256 ((D6 (l.length+1) k).map iv))
      (fun i _=>256-(intOf i).toNat)
     case atStart=>exact ⟨0,by omega,rfl,hE5,hsz5,HD5,hN5,hA5,hV5,hQ5⟩
     case round=>
      clear hE5 hsz5 HD5 hN5 hA5 hV5 hQ5;obtain ⟨k,hk,rfl,hE5,hsz5,HD5,hN5,hA5,hV5,hQ5⟩:=hrel;by_cases hkc:k<256
      ·have cq:=Ap 0 hQ5 (Hv _ _).symm k (by rw [Hv];exact hkc);have fq:=hQ5.frozenAt k;obtain ⟨hQ6,hgr6⟩:=A3 hQ5 k (l.length+1);rw [Agz _ _ hkc] at hQ6;have hE6:=hE5.grown hgr6 (fun k e=>by cases e;omega);have hN6:=hN5.kept hgr6 (Ai hN5 hQ5 (by decide));have hA6:=hA5.kept hgr6 (Ai hA5 hQ5 (by decide));have hV6:=hV5.kept hgr6 (fun v l ho hav=>.inr (fun e=>hav e));have HD6:=Lib.hid ((hgr6.block w1.heap.size (Ak HD5.out) (fun e=>by have:=Option.some.inj e;omega)).trans HD5.out);have hsz6:=Nat.le_trans hsz5 hgr6.size;clear hgr6 hE5 hN5 hA5 hV5 HD5 hQ5;go_wp2_with (fail);go_roundw
       case rel=>exact ⟨k+1,by omega,by go_num,hE6,hsz6,HD6,hN6,hA6,hV6,hQ6⟩
       case measure=>simp [intOf];omega
      ·obtain rfl:k=256:=by omega
       have e256:((256:Nat):Int)=256:=rfl;simp only [e256];clear e256;go_upto_if 43 with (fail)
       go_cut [] (fun W=>Ext w1 W∧w1.heap.size+1≤W.heap.size∧Hid (W.heap[w1.heap.size]? = some (.cells (Ag (idC 256) 256 vnx vac) 108 (0,0)))∧
        W.ownsRow (w1.heap.size+1) 68 1 vnx vs.length vs∧OwnB W (w1.heap.size+1) vac ((List.range s).map fun q=>q==l.length)∧RowsO W (w1.heap.size+1) vs ((List.range s).map (Cm l)) (fun o=>o=some gr)∧
        W.ownsRow (w1.heap.size+1) 3 1 (.slice (some ⟨gr,0,none⟩) 256 256) 256 ((Cm l s).map iv))
       case first=>
        by_cases hsl:s<l.length
        ·have e:=HAB.out (by omega);subst e;have cx:=(hE0.trans hE5).cell (HCB.out s hsl);have hWR:=Lib.hid (Xs l s hsl);obtain ⟨x,hxd⟩:∃ x,l.getD s 0=x:=⟨_,rfl⟩;rw [hxd] at cx hWR;have hx:=x.toNat_lt;clear hxd;have cq:=Ap 0 hQ5 (Hv _ _).symm x.toNat (by rw [Hv];omega);have fq:=hQ5.frozenAt x.toNat;obtain ⟨hQ6,hgr6⟩:=A3 hQ5 x.toNat (s+1);rw [hWR.out] at hQ6;have hE6:=hE5.grown hgr6 (fun k e=>by cases e;omega);have hN6:=hN5.kept hgr6 (Ai hN5 hQ5 (by decide));have hA6:=hA5.kept hgr6 (Ai hA5 hQ5 (by decide));have hV6:=hV5.kept hgr6 (fun v l ho hav=>.inr (fun e=>hav e));have HD6:=Lib.hid ((hgr6.block w1.heap.size (Ak HD5.out) (fun e=>by have:=Option.some.inj e;omega)).trans HD5.out);have hsz6:=Nat.le_trans hsz5 hgr6.size;clear hgr6 hE5 hN5 hA5 hV5 HD5 hQ5;go_wp2_with (fail);go_meet
         exact ⟨hE6,hsz6,HD6,hN6,hA6,hV6,hQ6⟩
        ·rw [Xr l s hsl] at hQ5;go_wp2_with (fail);go_meet
         exact ⟨hE5,hsz5,HD5,hN5,hA5,hV5,hQ5⟩
       case rest=>
        clear hE5 hsz5 HD5 hN5 hA5 hV5 hQ5;obtain ⟨hE,hsz,HD,hNx,hAx,hV,hQ⟩:=hcut;have c1:=(cell_of_row wc w1.heap.size 257 _ _ _ HD.out).trans (Iq _ _ _ _);have hvb:vs.length≤64:=by rw [HVS.out];omega
        go_upto_region 22 with (at_builtin;refine wpList_append_lies _ rfl _ _ 27 rfl (w1.heap.size+1) 68 i6 (.slice none 0 0) 1 24 Tryz.underlying27 hi6 hx0 hx1 hx2 rfl (by decide) vnx vs.length vs rfl (hNx.alloc _) _ 1 1 [.slice (some ⟨gr,0,none⟩) 256 256] rfl rfl (cell_one_new _ _ _) (by simp [Value.oneCell']) (by decide) (by unfold maxLen;omega) (by omega) (by simp;omega) _ rfl ?_;intro g7 c7 w7 hN7 hgr7 _ _;have HD7:Hid (w7.heap[w1.heap.size]? = _):=Lib.hid ((hgr7.block w1.heap.size (Nat.lt_of_lt_of_le (Ak HD.out) (by rw [World.size_alloc];omega)) (fun e=>by have:=(hNx.lt _ e.symm).1;omega)).trans (Af HD.out _));have c17:=(cell_of_row w7 w1.heap.size 257 _ _ _ HD7.out).trans (Iq _ _ _ _);have f17:=frozen_of_row w7 w1.heap.size 257 _ _ HD7.out)
        clear c1 c17 f17;have hQ7:=(hQ.alloc (.cells #[.slice (some ⟨gr,0,none⟩) 256 256] 68)).kept hgr7 (Ai hQ hNx (by decide));have hA7:=(hAx.alloc (.cells #[.slice (some ⟨gr,0,none⟩) 256 256] 68)).kept hgr7 (Ai hAx hNx (by decide));have hV7:=(hV.alloc (.cells #[.slice (some ⟨gr,0,none⟩) 256 256] 68)).kept hgr7 (fun v l ho _=>Ai ho (hNx.alloc (.cells #[.slice (some ⟨gr,0,none⟩) 256 256] 68)) (by decide));have hE7:=(hE.alloc (.cells #[.slice (some ⟨gr,0,none⟩) 256 256] 68)).grown hgr7 (fun k e=>by have:=(hNx.lt k e).1;omega);have hsz7:w1.heap.size+1≤w7.heap.size:=by
         have:=hgr7.size;rw [World.size_alloc] at this;omega
        clear hgr7 hQ hAx hV hE hNx HD;have hN7:w7.ownsRow (w1.heap.size+1) 68 1 (.slice (some ⟨g7,0,none⟩) (vs.length+1) c7) (vs++[Value.slice (some ⟨gr,0,none⟩) 256 256]).length (vs++[Value.slice (some ⟨gr,0,none⟩) 256 256]):=by
         rw [List.length_append];exact hN7
        obtain ⟨row,hrowd⟩:∃ v,Value.slice (some ⟨gr,0,none⟩) 256 256=v:=⟨_,rfl⟩;rw [hrowd] at hN7 hQ7;clear hrowd;obtain ⟨vn8,hvn8⟩:∃ v,Value.slice (some ⟨g7,0,none⟩) (vs.length+1) c7=v:=⟨_,rfl⟩;rw [hvn8] at hN7;have hgr8:=B3 w7 w1.heap.size (Ag (idC 256) 256 vn8 vac);have hsc:w7.setCell ⟨w1.heap.size,257,none⟩ vn8=w7.setRow w1.heap.size (Ag (idC 256) 256 vn8 vac):=by
         rw [setCell_eq_setRow w7 _ _ _ _ _ _ HD7.out,Rd]
        have hE8:=hE7.setRow (Nat.le_refl _) (Ag (idC 256) 256 vn8 vac);have hQ8:=hQ7.kept hgr8 (Ao hQ7 (by omega));have hN8:=hN7.kept hgr8 (Ao hN7 (by omega));have hA8:=hA7.kept hgr8 (Ao hA7 (by omega));have hV8:=hV7.kept hgr8 (fun v l ho _=>Ao ho (by omega));have HD8:=Lib.hid (setRow_heap w7 w1.heap.size _ (Ag (idC 256) 256 vn8 vac) _ _ HD7.out);have hsz8:w1.heap.size+1≤(w7.setRow w1.heap.size (Ag (idC 256) 256 vn8 vac)).heap.size:=by rw [size_setRow];exact hsz7
        rw [hvn8,hsc];clear hgr8 hQ7 hN7 hA7 hV7 hE7 hsz7 HD7 hsc;obtain ⟨w8,hw8⟩:∃ W,w7.setRow w1.heap.size (Ag (idC 256) 256 vn8 vac)=W:=⟨_,rfl⟩;rw [hw8] at hQ8 hN8 hA8 hV8 HD8 hE8 hsz8;rw [hw8];clear hw8;have k2:=(cell_of_row w8 w1.heap.size 258 _ _ _ HD8.out).trans (Gc _ _ _ _);obtain ⟨bx,hbx⟩:∃ b,(s==l.length)=b:=⟨_,rfl⟩;have heq:((s:Int)==(l.length:Int))=bx:=by
         rw [← hbx,Bool.eq_iff_iff];simp
         omega
        have HBX:=Lib.hid hbx;clear hbx;have hAs:((List.range s).map fun q=>q==l.length).length≤64:=by simp;omega
        obtain ⟨Ac,hAc⟩:∃ X,((List.range s).map fun q=>q==l.length)=X:=⟨_,rfl⟩;have HAC:=Lib.hid hAc;rw [hAc] at hA8 hAs;clear hAc;go_upto_region 23 with (at_builtin;refine wpList_append_lies _ rfl _ _ 28 rfl (w1.heap.size+1) 4 i4 (.bool false) 1 1 Tryz.underlying28 hi4 hy0 hy1 hy2 rfl (by decide) vac Ac.length (Ac.map Value.bool) rfl (hA8.alloc _) _ 1 1 [.bool bx] rfl rfl (cell_one_new _ _ _) (by simp [Value.oneCell']) (by decide) (by unfold maxLen;omega) (by omega) (by simp;omega) _ rfl ?_;intro g9 c9 w9 hA9 hgr9 _ _;have HD9:Hid (w9.heap[w1.heap.size]? = _):=Lib.hid ((hgr9.block w1.heap.size (Nat.lt_of_lt_of_le (Ak HD8.out) (by rw [World.size_alloc];omega)) (fun e=>by have:=(hA8.lt _ e.symm).1;omega)).trans (Af HD8.out _));have c29:=(cell_of_row w9 w1.heap.size 258 _ _ _ HD9.out).trans (Gc _ _ _ _);have f29:=frozen_of_row w9 w1.heap.size 258 _ _ HD9.out)
        clear k2 c29 f29;have hQ9:=(hQ8.alloc (.cells #[.bool bx] 4)).kept hgr9 (Ai hQ8 hA8 (by decide));have hN9:=(hN8.alloc (.cells #[.bool bx] 4)).kept hgr9 (Ai hN8 hA8 (by decide));have hV9:=(hV8.alloc (.cells #[.bool bx] 4)).kept hgr9 (fun v l ho _=>Ai ho (hA8.alloc (.cells #[.bool bx] 4)) (by decide));have hE9:=(hE8.alloc (.cells #[.bool bx] 4)).grown hgr9 (fun k e=>by have:=(hA8.lt k e).1;omega);have hsz9:w1.heap.size+1≤w9.heap.size:=by
         have:=hgr9.size;rw [World.size_alloc] at this;omega
        have hA9:OwnB w9 (w1.heap.size+1) (.slice (some ⟨g9,0,none⟩) (Ac.length+1) c9) (Ac++[bx]):=by
         show World.ownsRow _ _ _ _ _ _ _;rw [List.length_append,List.map_append];exact hA9
        clear hgr9 hQ8 hN8 hA8 hV8 HD8 hE8 hsz8;obtain ⟨va8,hva8⟩:∃ v,Value.slice (some ⟨g9,0,none⟩) (Ac.length+1) c9=v:=⟨_,rfl⟩;rw [hva8] at hA9;have hgr10:=B3 w9 w1.heap.size (Ag (idC 256) 256 vn8 va8);have hsc:w9.setCell ⟨w1.heap.size,258,none⟩ va8=w9.setRow w1.heap.size (Ag (idC 256) 256 vn8 va8):=by
         rw [setCell_eq_setRow w9 _ _ _ _ _ _ HD9.out,M2]
        have hE10:=hE9.setRow (Nat.le_refl _) (Ag (idC 256) 256 vn8 va8);have hQ10:=hQ9.kept hgr10 (Ao hQ9 (by omega));have hN10:=hN9.kept hgr10 (Ao hN9 (by omega));have hA10:=hA9.kept hgr10 (Ao hA9 (by omega));have hV10:=hV9.kept hgr10 (fun v l ho _=>Ao ho (by omega));have HD10:=Lib.hid (setRow_heap w9 w1.heap.size _ (Ag (idC 256) 256 vn8 va8) _ _ HD9.out);have hsz10:w1.heap.size+1≤(w9.setRow w1.heap.size (Ag (idC 256) 256 vn8 va8)).heap.size:=by rw [size_setRow];exact hsz9
        rw [hva8,hsc];clear hgr10 hQ9 hN9 hA9 hV9 hE9 hsz9 HD9 hsc;obtain ⟨w10,hw10⟩:∃ W,w9.setRow w1.heap.size (Ag (idC 256) 256 vn8 va8)=W:=⟨_,rfl⟩;rw [hw10] at hQ10 hN10 hA10 hV10 HD10 hE10 hsz10;rw [hw10];clear hw10;have hQ11:OwnI w10 (w1.heap.size+1) row (Cm l s):=by
         show World.ownsRow _ _ _ _ _ _ _;rw [show (Cm l s).length=256 by simp [Cm]];exact hQ10
        have hV11:=(hV10.av (av':=fun _=>False) (fun v l _ _ e=>e)).snoc hQ11 (fun e=>e);have HV11:Hid (RowsO w10 (w1.heap.size+1) (vs++[row]) ((List.range (s+1)).map (Cm l)) (fun _=>False)):=Lib.hid (by
         rw [List.range_succ,List.map_append];exact hV11)
        have HA11:Hid (OwnB w10 (w1.heap.size+1) va8 ((List.range (s+1)).map fun q=>q==l.length)):=Lib.hid (by
         rw [List.range_succ,List.map_append,HAC.out,List.map_singleton,HBX.out];exact hA10)
        have HVL:Hid ((vs++[row]).length=s+1):=Lib.hid (by rw [List.length_append,HVS.out];rfl);clear hQ10 hV10 hQ11 hV11 hA10;go_wp2;go_roundw
        case rel=>exact ⟨s+1,vs++[row],vn8,va8,by omega,by go_num,hE10,hsz10,HD10,hN10,HA11.out,HV11.out,HVL⟩
        case measure=>simp [intOf];omega
    ·obtain rfl:s=l.length+2:=by omega
     have hIT:IsT wr (Ag (idC 256) 256 vnx vac) (Cc l):=by
      refine ⟨vnx,vac,Gb (fun b hb=>by show idC 256 b=b;simp [idC,hb]) _ _ _,?_,OwnB.bools (l:=(List.range (l.length+2)).map fun q=>q==l.length) hA (by simp;omega)⟩;exact hV.rows hN (by simp;omega) (fun j hj=>by
       rw [Cq _ _ _ _ (by simpa using hj)];simp [Cm])
     have hC:=Lib.hid (Jq (Cc l) (Ep l) (by rw [D9];omega) _ wr hIT);obtain ⟨A6,hA6⟩:∃ X,Ag (idC 256) 256 vnx vac=X:=⟨_,rfl⟩;have hiB:(Tryz.prog.info? 108).map (·.size)=some A6.size:=by rw [← hA6,D1];exact Bv
     rw [hA6] at HD hC;clear hA6 hIT hN hA hV;have HB2r:=Lib.hid (hE.heap HB2.out);have HEr:=Lib.hid (hE0.trans hE);go_wp2_with (first
      | (refine wpList_load_row rfl 108 (.tmp 5) rfl _ rfl _ _ _ _ HD.out Tryz.underlying108 rfl hiB ?_)
      | (go_at_call 69;(with_reducible refine hC.out.mono ?_);rintro e w7 ⟨v,r,rfl,hr,hcan,hhas,hE9⟩;have HR:=Lib.hid hr;have HCa:=Lib.hid hcan;have HH:=Lib.hid hhas;clear hcan hhas;obtain ⟨ac',lc',cc',an'',cn'',aa',la',ca'',rfl⟩:=hr.agg;clear hr;have HB2r:=Lib.hid (hE9.heap HB2r.out))
      | (refine wpList_store_row rfl 30 (.tmp 2) (.tmp 68) rfl _ _ rfl rfl _ _ HB2r.out Ad rfl (An _ _ _ rfl rfl rfl) ?_))
     refine bodyPost_ret (v:=.tuple #[.agg (dA (.slice ac' lc' cc') (.slice an'' r.nxt.length cn'') (.slice aa' la' ca'')),.int .i64 0]) (A2 rfl _ _ _ _ _ _ _ rfl _ rfl (setRow_heap w7 _ _ (dA (.slice ac' lc' cc') (.slice an'' r.nxt.length cn'') (.slice aa' la' ca'')) 30 (0,0) HB2r.out) Tryz.underlying30 rfl Ad) rfl ?_;exact ⟨r,⟨_,rfl,HR.out.setRow HCa.out.val HB2r.out _⟩,HCa.out,fun u=>by rw [HH.out];exact Er l u,(HEr.out.trans hE9).setRow (Nat.le_refl _) _⟩
theorem ResOf.some_inv {W:World} {A:Array Value} {k:Int} {q:Dfa} (h:ResOf W (.returned (.tuple #[.agg A,.int .i64 k])) (some q)):k=0∧IsD W (.agg A) q:=by
 obtain ⟨v',hv',hD'⟩:=h;injection hv' with hv'
 injection hv' with hv'
 injection hv' with hv'
 injection hv' with h1 hv'
 injection hv' with h2 _
 injection h2 with _ h2
 rw [← h1] at hD';exact ⟨h2,hD'⟩
theorem ResOf.none_inv {W:World} {A:Array Value} {k:Int} (h:ResOf W (.returned (.tuple #[.agg A,.int .i64 k])) none):k=2∧Value.agg A=zD:=by
 unfold ResOf at h;injection h with h
 injection h with h
 injection h with h
 injection h with h1 h
 injection h with h2 _
 injection h2 with _ h2
 exact ⟨h2,h1⟩
theorem Zh {a:Dfa} {r:Option Dfa} (h:F7 a r) (d:Dfa) (hd:r=some d):Val d∧d.nxt.length≤64:=by
 subst hd;obtain ⟨h1,h2⟩:=Rp h (fun _=>Iff.rfl);exact ⟨h1.1.val,h2⟩
theorem I1 {d:Dfa}:∀ (n:Nat) (p q:Dfa),Val p→p.nxt.length≤64→C6 p d n (some q)→Val q∧q.nxt.length≤64
 | 0,p,q,hp,hpl,h=>by
  injection (show some q=some p from h) with h
  subst h;exact ⟨hp,hpl⟩
 | n+1,p,q,_,_,⟨o,h1,h2⟩=>by
  cases o with
  | none=>cases (show some q=none from h2)
  | some p'=>
   obtain ⟨h3,h4⟩:=Ie h1 p' rfl;exact I1 n p' q h3 h4 h2
theorem Wr (w:World):By w (.slice none 0 0) []:=Sl.nil w _ _
theorem I3 (W:World) (A:Array Value):Ext W ((W.alloc (.cells #[.slice none 0 0,.slice none 0 0,.slice none 0 0] 30)).setRow W.heap.size A)∧((W.alloc (.cells #[.slice none 0 0,.slice none 0 0,.slice none 0 0] 30)).setRow W.heap.size A).heap[W.heap.size]? = some (.cells A 30 (0,0)):=
 ⟨((Ext.refl W).alloc _).setRow (Nat.le_refl _) A,setRow_heap _ _ _ A _ _ (Ab W _)⟩
set_option maxHeartbeats 4000000 in
theorem Aa2 (d:Dfa) (hd:Val d) (hdn:d.nxt.length≤64) (lo:Nat) (hlo:lo≤16) (hi:Int) (hhi:hi=-1∨(lo:Int)≤hi) (hhi16:hi≤16) (vd:Value) (w:World) (hT:Tab w) (hsz:0<w.heap.size) (hvd:IsD w vd d) :
  Calls Tryz.prog 119 #[vd,iv lo,.int .i64 hi] w fun e w'=>∃ r,ResOf w' e r∧Ei d lo hi r∧Ext w w':=by
 have HTa:=Lib.hid (fun W (hW:Ext w W)=>hT.below hW.below hsz);have HDd:=Lib.hid hvd;have HVd:=Lib.hid hd;obtain ⟨ac',lc',cc',an',cn',aa',la',ca',rfl⟩:=hvd.agg;obtain ⟨Vd,hVd⟩:∃ X,dA (.slice ac' lc' cc') (.slice an' d.nxt.length cn') (.slice aa' la' ca')=X:=⟨_,rfl⟩;have hiVd:(Tryz.prog.info? 30).map (·.size)=some Vd.size:=by rw [← hVd];exact Ad
 rw [hVd] at HDd;rw [hVd];have hE0:=((Ext.refl w).alloc (.cells Vd 30)).alloc (.cells #[.slice none 0 0,.slice none 0 0,.slice none 0 0] 30);have H3:=Af (Ab w (.cells Vd 30)) (.cells #[.slice none 0 0,.slice none 0 0,.slice none 0 0] 30);have H6:=heap_alloc2_new w (.cells Vd 30) (.cells #[.slice none 0 0,.slice none 0 0,.slice none 0 0] 30);have f45:=fun W (hW:Ext w W)=>Lib.hid (Mv [] (by simp) _ W (Wr W))
 clear hvd hd hT hVd;go_enter Tryz.func119,Tryz.ntmps119;go_upto_region 1 with (fail)
 obtain ⟨w1,hw1⟩:∃ W,(w.alloc (.cells Vd 30)).alloc (.cells #[.slice none 0 0,.slice none 0 0,.slice none 0 0] 30)=W:=⟨_,rfl⟩;rw [hw1] at hE0 H3 H6;simp only [hw1];clear hw1;have H3:=Lib.hid H3;have H6:=Lib.hid H6;have HE0:=Lib.hid hE0;clear hE0;go_upto_region 2 with (first
  | (go_at_call 45;(with_reducible refine (f45 _ HE0.out).out.mono ?_);rintro e w2 ⟨re,hres,hcan,hhas,hE2⟩;obtain ⟨ac1,lc1,cc1,an1,ln1,cn1,aa1,la1,ca1,k1,rfl⟩:=hres.form;obtain ⟨rfl,hDe⟩:=hres.some_inv;have HDe:=Lib.hid hDe;have HFe:=Lib.hid (show Fit re (fun u=>u=[]) from ⟨hcan,hhas⟩);have HE2:=Lib.hid (HE0.out.trans hE2);have H3:=Lib.hid (hE2.heap H3.out);have H6:=Lib.hid (hE2.heap H6.out);clear hres hcan hhas hE2 hDe)
  | (refine wpList_store_row rfl 30 (.tmp 8) (.tmp 16) rfl _ _ rfl rfl _ _ (Ab w2 (.cells #[.slice none 0 0,.slice none 0 0,.slice none 0 0] 30)) Ad rfl (An _ _ _ rfl rfl rfl) ?_))
 obtain ⟨VE,hVE⟩:∃ X,dA (.slice ac1 lc1 cc1) (.slice an1 ln1 cn1) (.slice aa1 la1 ca1)=X:=⟨_,rfl⟩;have hiVE:(Tryz.prog.info? 30).map (·.size)=some VE.size:=by rw [← hVE];exact Ad
 rw [hVE] at HDe;simp only [hVE];clear hVE;obtain ⟨hN1,hN2⟩:=I3 w2 VE;obtain ⟨w3,hw3⟩:∃ W,(w2.alloc (.cells #[.slice none 0 0,.slice none 0 0,.slice none 0 0] 30)).setRow w2.heap.size VE=W:=⟨_,rfl⟩;rw [hw3] at hN1 hN2;simp only [hw3];clear hw3;have HE3:=Lib.hid (HE2.out.trans hN1);have H3:=Lib.hid (hN1.heap H3.out);have H6:=Lib.hid (hN1.heap H6.out);have H8:=Lib.hid hN2;have HDe:=Lib.hid (HDe.out.ext hN1);generalize w2.heap.size=g8 at *;clear hN1 hN2 f45 HE0 HE2;have hel:=K7 HFe.out;have f146:=fun W (hW:Ext w3 W)=>Lib.hid (Sy re d HFe.out.1.val HVd.out (by omega) hdn lo (by omega) _ _ W (HTa.out W (HE3.out.trans hW)) (Nat.lt_of_lt_of_le hsz (HE3.out.trans hW).size) (HDe.out.ext hW) (HDd.out.ext (HE3.out.trans hW)))
 have hrep:Hid (∀ q r,C6 re d lo q→Dz q (fun p r=>if hi=lo then r=some p else
  if hi<0 then ∃ s,F7 d s∧Dz s (fun s r=>Dg p s r) r else ∃ o,Lim (fun w=>d.has w=true∨re.has w=true) o∧Dz o (fun o r=>C6 p o (hi-lo).toNat r) r) r→Ei d lo hi r):=
  Lib.hid fun q r h1 h2=>⟨re,⟨HFe.out.1,HFe.out.2⟩,q,h1,h2⟩
 go_upto_region 5 with (first
  | (refine wpList_load_row rfl 30 (.tmp 8) rfl _ rfl _ _ _ _ H8.out Tryz.underlying30 rfl hiVE ?_)
  | (refine wpList_load_row rfl 30 (.tmp 3) rfl _ rfl _ _ _ _ H3.out Tryz.underlying30 rfl hiVd ?_)
  | (go_at_call 146;(with_reducible refine (f146 _ (Ext.refl w3)).out.mono ?_);rintro e w4 ⟨q,hres,hpow,hE4⟩;obtain ⟨ac2,lc2,cc2,an2,ln2,cn2,aa2,la2,ca2,k2,rfl⟩:=hres.form;have HRes:=Lib.hid hres;have HPow:=Lib.hid hpow;have HE4:=Lib.hid hE4;clear hres hpow hE4)
  | (refine wpList_store_row rfl 30 (.tmp 10) (.tmp 27) rfl _ _ rfl rfl _ _ (Ab w4 (.cells #[.slice none 0 0,.slice none 0 0,.slice none 0 0] 30)) Ad rfl (An _ _ _ rfl rfl rfl) ?_))
 obtain ⟨VP,hVP⟩:∃ X,dA (.slice ac2 lc2 cc2) (.slice an2 ln2 cn2) (.slice aa2 la2 ca2)=X:=⟨_,rfl⟩;have hiVP:(Tryz.prog.info? 30).map (·.size)=some VP.size:=by rw [← hVP];exact Ad
 have hVP1:VP.all (·.oneCell')=true:=by rw [← hVP];exact An _ _ _ rfl rfl rfl
 have hVP3:Hid ((3:Nat)=VP.size):=Lib.hid (by rw [← hVP];rfl);rw [hVP] at HRes;simp only [hVP];clear hVP;obtain ⟨hN1,hN2⟩:=I3 w4 VP;obtain ⟨w5,hw5⟩:∃ W,(w4.alloc (.cells #[.slice none 0 0,.slice none 0 0,.slice none 0 0] 30)).setRow w4.heap.size VP=W:=⟨_,rfl⟩;rw [hw5] at hN1 hN2;simp only [hw5];clear hw5;have hE35:=HE4.out.trans hN1;have HE5:=Lib.hid (HE3.out.trans hE35);have H3:=Lib.hid (hE35.heap H3.out);have H6:=Lib.hid (hE35.heap H6.out);have H8:=Lib.hid (hE35.heap H8.out);have H10:=Lib.hid hN2;have HRes:=Lib.hid (HRes.out.ext hN1);have HDe:=Lib.hid (HDe.out.ext hE35);have HDd5:=Lib.hid (HDd.out.ext HE5.out);generalize w4.heap.size=g10 at *;clear hN1 hN2 f146 hE35 HE3 HE4;cases q with
 | none=>
  obtain ⟨rfl,hz⟩:=HRes.out.none_inv;have HR:=Lib.hid (hrep.out none none HPow.out rfl);have HZ:=Lib.hid hz;clear hz;go_wp2_with (first
   | (refine wpList_load_row rfl 30 (.tmp 10) rfl _ rfl _ _ _ _ H10.out Tryz.underlying30 rfl hiVP ?_)
   | (refine wpList_store_row rfl 30 (.tmp 6) (.tmp 36) rfl _ _ rfl rfl _ _ H6.out hiVP hVP3.out hVP1 ?_))
  refine bodyPost_ret (v:=.tuple #[.agg VP,.int .i64 2]) (A2 rfl _ _ _ _ _ _ _ rfl _ rfl (setRow_heap w5 _ _ VP 30 (0,0) H6.out) Tryz.underlying30 rfl hiVP) rfl ?_;exact ⟨none,by rw [HZ.out];rfl,HR.out,HE5.out.setRow (by omega) _⟩
 | some p=>
  obtain ⟨rfl,hDp⟩:=HRes.out.some_inv;obtain ⟨hpv,hpl⟩:=I1 lo re p HFe.out.1.val (by omega) HPow.out;have HDp:=Lib.hid hDp;have HVp:=Lib.hid hpv;have hrep2:=Lib.hid (fun r h=>hrep.out (some p) r HPow.out h);clear hDp hpv;obtain ⟨b1,hb1⟩:∃ b,(hi==(lo:Int))=b:=⟨_,rfl⟩;have hb1':b1=true↔hi=lo:=by rw [← hb1];simp
  have HB1:=Lib.hid hb1';clear hb1';cases b1
  ·have hne:¬ hi=lo:=fun h=>by have:=HB1.out.2 h;cases this
   have HNE:=Lib.hid hne;clear hne;obtain ⟨b2,hb2⟩:∃ b,decide (hi<0)=b:=⟨_,rfl⟩;have hb2':b2=true↔hi<0:=by rw [← hb2];simp
   have HB2:=Lib.hid hb2';clear hb2';cases b2
   ·have hn0:¬ hi<0:=fun h=>by have:=HB2.out.2 h;cases this
    have hlohi:(lo:Int)≤hi:=by omega
    obtain ⟨m,hm⟩:∃ m:Nat,hi-lo=(m:Int):=⟨(hi-lo).toNat,by omega⟩;have HM:=Lib.hid hm;have hwm:IntKind.i64.wrap (hi-(lo:Int))=(m:Int):=by rw [hm];exact IntWalk.i64_in _ ⟨by omega,by omega⟩
    have hm16:m≤1000:=by omega
    have f33:=fun W (hW:Ext w5 W)=>Lib.hid (Od d re HVd.out HFe.out.1.val hdn (by omega) _ _ W (HTa.out W (HE5.out.trans hW)) (Nat.lt_of_lt_of_le hsz (HE5.out.trans hW).size) (HDd5.out.ext hW) (HDe.out.ext hW))
    clear hm;go_upto_region 13 with (first
     | (refine wpList_load_row rfl 30 (.tmp 3) rfl _ rfl _ _ _ _ H3.out Tryz.underlying30 rfl hiVd ?_)
     | (refine wpList_load_row rfl 30 (.tmp 8) rfl _ rfl _ _ _ _ H8.out Tryz.underlying30 rfl hiVE ?_)
     | (go_at_call 33;(with_reducible refine (f33 _ (Ext.refl w5)).out.mono ?_);rintro e w6 ⟨o,hres,hlim,hE6⟩;obtain ⟨ac3,lc3,cc3,an3,ln3,cn3,aa3,la3,ca3,k3,rfl⟩:=hres.form;have HRes:=Lib.hid hres;have HLim:=Lib.hid hlim;have HE6:=Lib.hid hE6;clear hres hlim hE6)
     | (refine wpList_store_row rfl 30 (.tmp 13) (.tmp 58) rfl _ _ rfl rfl _ _ (Ab w6 (.cells #[.slice none 0 0,.slice none 0 0,.slice none 0 0] 30)) Ad rfl (An _ _ _ rfl rfl rfl) ?_))
    obtain ⟨VO,hVO⟩:∃ X,dA (.slice ac3 lc3 cc3) (.slice an3 ln3 cn3) (.slice aa3 la3 ca3)=X:=⟨_,rfl⟩;have hiVO:(Tryz.prog.info? 30).map (·.size)=some VO.size:=by rw [← hVO];exact Ad
    rw [hVO] at HRes;simp only [hVO];clear hVO;obtain ⟨hN1,hN2⟩:=I3 w6 VO;obtain ⟨w7,hw7⟩:∃ W,(w6.alloc (.cells #[.slice none 0 0,.slice none 0 0,.slice none 0 0] 30)).setRow w6.heap.size VO=W:=⟨_,rfl⟩;rw [hw7] at hN1 hN2;simp only [hw7];clear hw7;have hE57:=HE6.out.trans hN1;have HE7:=Lib.hid (HE5.out.trans hE57);have H6:=Lib.hid (hE57.heap H6.out);have H10:=Lib.hid (hE57.heap H10.out);have H13:=Lib.hid hN2;have HRes:=Lib.hid (HRes.out.ext hN1);have HDp:=Lib.hid (HDp.out.ext hE57);generalize w6.heap.size=g13 at *;clear hN1 hN2 f33 hE57;cases o with
    | none=>
     obtain ⟨rfl,hz⟩:=HRes.out.none_inv;have hBz:=Lib.hid Fl;have HR:=Lib.hid (hrep2.out none (by show if hi=lo then _ else if hi<0 then _ else _;rw [if_neg HNE.out,if_neg (show ¬ hi<0 by omega)];exact ⟨none,HLim.out,rfl⟩));clear hz;go_wp2_with (first
      | (refine Ci rfl 30 _ rfl #[.slice none 0 0,.slice none 0 0,.slice none 0 0] ?_ ?_;(simp;with_reducible exact hBz.out))
      | (refine wpList_store_row rfl 30 (.tmp 6) (.tmp 62) rfl _ _ rfl rfl _ _ H6.out Ad rfl Ex ?_))
     refine bodyPost_ret (v:=.tuple #[zD,.int .i64 2]) (A2 rfl _ _ _ _ _ _ _ rfl _ rfl (setRow_heap w7 _ _ #[.slice none 0 0,.slice none 0 0,.slice none 0 0] 30 (0,0) H6.out) Tryz.underlying30 rfl Ad) rfl ?_;exact ⟨none,rfl,HR.out,HE7.out.setRow (by omega) _⟩
    | some o=>
     obtain ⟨rfl,hDo⟩:=HRes.out.some_inv;have hov:=HLim.out.1.val;have hol:=HLim.out.2.2;have f146:=Lib.hid (Sy p o HVp.out hov hpl hol m hm16 _ _ w7 (HTa.out w7 HE7.out) (Nat.lt_of_lt_of_le hsz HE7.out.size) HDp.out hDo);clear hDo hov;go_wp2_with (first
      | (refine wpList_load_row rfl 30 (.tmp 10) rfl _ rfl _ _ _ _ H10.out Tryz.underlying30 rfl hiVP ?_)
      | (refine wpList_load_row rfl 30 (.tmp 13) rfl _ rfl _ _ _ _ H13.out Tryz.underlying30 rfl hiVO ?_)
      | (go_at_call 146;(with_reducible refine f146.out.mono ?_);rintro e w8 ⟨r,hres,hpow,hE8⟩;obtain ⟨ac4,lc4,cc4,an4,ln4,cn4,aa4,la4,ca4,k4,rfl⟩:=hres.form;have HRes4:=Lib.hid hres;have HPow4:=Lib.hid hpow;have H6:=Lib.hid (hE8.heap H6.out);have HE8:=Lib.hid hE8;clear hres hpow hE8)
      | (refine wpList_store_row rfl 30 (.tmp 6) (.tmp 70) rfl _ _ rfl rfl _ _ H6.out Ad rfl (An _ _ _ rfl rfl rfl) ?_))
     refine bodyPost_ret (v:=.tuple #[.agg (dA (.slice ac4 lc4 cc4) (.slice an4 ln4 cn4) (.slice aa4 la4 ca4)),.int .i64 k4]) (A2 rfl _ _ _ _ _ _ _ rfl _ rfl (setRow_heap w8 _ _ (dA (.slice ac4 lc4 cc4) (.slice an4 ln4 cn4) (.slice aa4 la4 ca4)) 30 (0,0) H6.out) Tryz.underlying30 rfl Ad) rfl ?_;refine ⟨r,HRes4.out.setRow (fun d' h=>by subst h;exact (I1 m p d' HVp.out hpl HPow4.out).1) H6.out _,?_,(HE7.out.trans HE8.out).setRow (by omega) _⟩;refine hrep2.out r ?_;show if hi=lo then _ else if hi<0 then _ else _
     rw [if_neg HNE.out,if_neg (show ¬ hi<0 by omega)];exact ⟨some o,HLim.out,by show C6 p o (hi-lo).toNat r;rw [HM.out,Int.toNat_natCast];exact HPow4.out⟩
   ·have hn0:hi<0:=HB2.out.1 rfl;have f147:=fun W (hW:Ext w5 W)=>Lib.hid (Ze d HVd.out hdn _ W (HTa.out W (HE5.out.trans hW)) (Nat.lt_of_lt_of_le hsz (HE5.out.trans hW).size) (HDd5.out.ext hW))
    have HN0:=Lib.hid hn0;clear hn0;go_upto_region 9 with (first
     | (refine wpList_load_row rfl 30 (.tmp 3) rfl _ rfl _ _ _ _ H3.out Tryz.underlying30 rfl hiVd ?_)
     | (go_at_call 147;(with_reducible refine (f147 _ (Ext.refl w5)).out.mono ?_);rintro e w6 ⟨o,hres,hstar,hE6⟩;obtain ⟨ac3,lc3,cc3,an3,ln3,cn3,aa3,la3,ca3,k3,rfl⟩:=hres.form;have HRes:=Lib.hid hres;have HStar:=Lib.hid hstar;have HE6:=Lib.hid hE6;clear hres hstar hE6)
     | (refine wpList_store_row rfl 30 (.tmp 11) (.tmp 43) rfl _ _ rfl rfl _ _ (Ab w6 (.cells #[.slice none 0 0,.slice none 0 0,.slice none 0 0] 30)) Ad rfl (An _ _ _ rfl rfl rfl) ?_))
    obtain ⟨VO,hVO⟩:∃ X,dA (.slice ac3 lc3 cc3) (.slice an3 ln3 cn3) (.slice aa3 la3 ca3)=X:=⟨_,rfl⟩;have hiVO:(Tryz.prog.info? 30).map (·.size)=some VO.size:=by rw [← hVO];exact Ad
    rw [hVO] at HRes;simp only [hVO];clear hVO;obtain ⟨hN1,hN2⟩:=I3 w6 VO;obtain ⟨w7,hw7⟩:∃ W,(w6.alloc (.cells #[.slice none 0 0,.slice none 0 0,.slice none 0 0] 30)).setRow w6.heap.size VO=W:=⟨_,rfl⟩;rw [hw7] at hN1 hN2;simp only [hw7];clear hw7;have hE57:=HE6.out.trans hN1;have HE7:=Lib.hid (HE5.out.trans hE57);have H6:=Lib.hid (hE57.heap H6.out);have H10:=Lib.hid (hE57.heap H10.out);have H13:=Lib.hid hN2;have HRes:=Lib.hid (HRes.out.ext hN1);have HDp:=Lib.hid (HDp.out.ext hE57);generalize w6.heap.size=g13 at *;clear hN1 hN2 f147 hE57;cases o with
    | none=>
     obtain ⟨rfl,hz⟩:=HRes.out.none_inv;have hBz:=Lib.hid Fl;have HR:=Lib.hid (hrep2.out none (by show if hi=lo then _ else if hi<0 then _ else _;rw [if_neg HNE.out,if_pos HN0.out];exact ⟨none,HStar.out,rfl⟩));clear hz;go_wp2_with (first
      | (refine Ci rfl 30 _ rfl #[.slice none 0 0,.slice none 0 0,.slice none 0 0] ?_ ?_;(simp;with_reducible exact hBz.out))
      | (refine wpList_store_row rfl 30 (.tmp 6) (.tmp 47) rfl _ _ rfl rfl _ _ H6.out Ad rfl Ex ?_))
     refine bodyPost_ret (v:=.tuple #[zD,.int .i64 2]) (A2 rfl _ _ _ _ _ _ _ rfl _ rfl (setRow_heap w7 _ _ #[.slice none 0 0,.slice none 0 0,.slice none 0 0] 30 (0,0) H6.out) Tryz.underlying30 rfl Ad) rfl ?_;exact ⟨none,rfl,HR.out,HE7.out.setRow (by omega) _⟩
    | some o=>
     obtain ⟨rfl,hDo⟩:=HRes.out.some_inv;obtain ⟨hov,hol⟩:=Zh HStar.out o rfl;have f31:=Lib.hid (Pr p o HVp.out hov hpl hol _ _ w7 (HTa.out w7 HE7.out) (Nat.lt_of_lt_of_le hsz HE7.out.size) HDp.out hDo);clear hDo hov;go_wp2_with (first
      | (refine wpList_load_row rfl 30 (.tmp 10) rfl _ rfl _ _ _ _ H10.out Tryz.underlying30 rfl hiVP ?_)
      | (refine wpList_load_row rfl 30 (.tmp 11) rfl _ rfl _ _ _ _ H13.out Tryz.underlying30 rfl hiVO ?_)
      | (go_at_call 31;(with_reducible refine f31.out.mono ?_);rintro e w8 ⟨r,hres,hpow,hE8⟩;obtain ⟨ac4,lc4,cc4,an4,ln4,cn4,aa4,la4,ca4,k4,rfl⟩:=hres.form;have HRes4:=Lib.hid hres;have HPow4:=Lib.hid hpow;have H6:=Lib.hid (hE8.heap H6.out);have HE8:=Lib.hid hE8;clear hres hpow hE8)
      | (refine wpList_store_row rfl 30 (.tmp 6) (.tmp 52) rfl _ _ rfl rfl _ _ H6.out Ad rfl (An _ _ _ rfl rfl rfl) ?_))
     refine bodyPost_ret (v:=.tuple #[.agg (dA (.slice ac4 lc4 cc4) (.slice an4 ln4 cn4) (.slice aa4 la4 ca4)),.int .i64 k4]) (A2 rfl _ _ _ _ _ _ _ rfl _ rfl (setRow_heap w8 _ _ (dA (.slice ac4 lc4 cc4) (.slice an4 ln4 cn4) (.slice aa4 la4 ca4)) 30 (0,0) H6.out) Tryz.underlying30 rfl Ad) rfl ?_;refine ⟨r,HRes4.out.setRow (fun d' h=>(Ie HPow4.out d' h).1) H6.out _,?_,(HE7.out.trans HE8.out).setRow (by omega) _⟩;refine hrep2.out r ?_;show if hi=lo then _ else if hi<0 then _ else _
     rw [if_neg HNE.out,if_pos HN0.out];exact ⟨some o,HStar.out,HPow4.out⟩
  ·have HR:=Lib.hid (hrep2.out (some p) (by show if hi=lo then _ else _;rw [if_pos (HB1.out.1 rfl)]));go_wp2_with (first
    | (refine wpList_load_row rfl 30 (.tmp 10) rfl _ rfl _ _ _ _ H10.out Tryz.underlying30 rfl hiVP ?_)
    | (refine wpList_store_row rfl 30 (.tmp 6) (.tmp 36) rfl _ _ rfl rfl _ _ H6.out hiVP hVP3.out hVP1 ?_))
   refine bodyPost_ret (v:=.tuple #[.agg VP,.int .i64 0]) (A2 rfl _ _ _ _ _ _ _ rfl _ rfl (setRow_heap w5 _ _ VP 30 (0,0) H6.out) Tryz.underlying30 rfl hiVP) rfl ?_;exact ⟨some p,⟨_,rfl,IsD.setRow HVp.out HDp.out H6.out _⟩,HR.out,HE5.out.setRow (by omega) _⟩
end Go.Proofs.YtaiogolidlamiaaGreatDoor
