import Derived.Laws.CopyRow
import Derived.Test.YtaiogolidlamiaaGreatDoorM30
set_option linter.unusedVariables false
set_option linter.unusedSimpArgs false
namespace Go.Proofs.YtaiogolidlamiaaGreatDoor
set_option maxRecDepth 100000
open Go.RowKit Go.Shelf
open Go.Maps (Keyed)
theorem Acq {W:World} {base e size:Nat} {v:Value} {m:Nat} {xs:List Value} (ho:W.ownsRow base e size v m xs):v.ownBlock=none∨v.ownBlock≠some W.heap.size:=
 .inr fun e=>by have:=(ho.lt _ e).2;omega
theorem Ahk (W:World) (g:Nat) (x:Dfa) (ba oa ca:Nat) (ty:TypeId) (h64:x.acc.length≤64) (hg:W.heap[g]? = some (.cells (Am (List.replicate 64 false)) 88 (0,0)))
  (hc:∀ s,s<x.acc.length→W.cell? ⟨ba,oa+s,none⟩=some (.bool (x.ok s))) (u:Value) (hu:u=.slice (some ⟨ba,oa,none⟩) x.acc.length ca) :
  ∃ c,(Builtin.copy_ #[28,28] ty #[.slice (some ⟨g,0,none⟩) 64 64,u]).run Tryz.prog W=.ok c (W.setRow g (Am (rst x))):=by
 subst hu;have hlen:(x.acc.map Value.bool).length=x.acc.length:=List.length_map _;have:=run_copy_row (P:=Tryz.prog) W 28 28 ty 4 g 0 64 64 ⟨ba,oa,none⟩ x.acc.length ca (Am (List.replicate 64 false)) 88 (x.acc.map Value.bool) Tryz.underlying28 (by kernel_rfl) hg
  (by rw [hlen];show x.acc.length=min x.acc.length 64;omega)
  (fun j v hj=>by
   obtain ⟨hj1,hj2⟩:=List.getElem?_eq_some_iff.1 hj;have hjl:j<x.acc.length:=by rwa [hlen] at hj1
   rw [Addr.add_mid,hc j hjl,← hj2,List.getElem_map];unfold Dfa.ok;rw [List.getD_eq_getElem?_getD,List.getElem?_eq_getElem hjl];rfl)
  (by rw [hlen,Hd];simp;omega) (fun v hv=>by obtain ⟨b,_,rfl⟩:=List.mem_map.1 hv;rfl)
 refine ⟨goInt (x.acc.map Value.bool).length,this.trans ?_⟩
 congr 2
 have e:=Aaq x h64;show _=(B6 (rst x)).toArray;rw [e,hlen];simp [Am]
theorem Ag8 {σ:Type} {c:Nat→Nat} {bs:List Nat} {st:σ} {nx:σ→Nat→σ} {ac:σ→Bool} {l:List σ} {t:Tbl} (h:Expl c bs st nx ac l t) {a b:Nat→Nat} (hj:Joint a b c bs)
  (hn:∀ s x,x<256→nx s (bs.getD (c x) 0)=nx s x) (w:List UInt8):At nx st w∈l:=by
 have:∀ (w:List UInt8) i s,l[i]? = some s→l[t.run i w]? = some (At nx s w):=fun w=>by
  induction w with
  | nil=>intro i s hi;exact hi
  | cons x w ih=>
   intro i s hi;have h1:=(h.tgt i s hi _ (hj.lt _ x.toNat_lt)).2;rw [hn s _ x.toNat_lt] at h1;refine ih (t.stp i x.toNat) _ ?_;unfold Tbl.stp;rw [h.cell];exact h1
 exact List.mem_of_getElem? (this w 0 st h.zero)
theorem T4 {L M:List UInt8→Prop} {r:Option Dfa} (h:J4 L r) (e:∀ w,L w↔M w):J4 M r:=by
 rw [show M=L from funext fun w=>propext (e w).symm];exact h
def Dd (f:Nat→Bool) (n k:Nat):List Bool:=(List.range n).map fun q=>if q<k then f q else false
theorem Hu (f:Nat→Bool) (n k:Nat):(Dd f n k).length=n:=by simp [Dd]
theorem Agw (f:Nat→Bool) (n k q:Nat) (hq:q<n) (hk:q<k):(Dd f n k).getD q false=f q:=by
 unfold Dd;rw [Cq _ _ _ _ hq,if_pos hk]
theorem Agu (f:Nat→Bool) (n:Nat):Dd f n 0=List.replicate n false:=by
 apply List.ext_getElem?;intro i;simp only [Dd,List.getElem?_map,List.getElem?_replicate,Nat.not_lt_zero,if_false];by_cases h:i<n
 ·simp [h]
 ·simp [h]
theorem Agv (f:Nat→Bool) (n k:Nat) (hk:k<n):(Dd f n k).set k (f k)=Dd f n (k+1):=by
 apply List.ext_getElem?;intro i;rw [List.getElem?_set,Hu];simp only [Dd,List.getElem?_map];by_cases e:k=i
 ·subst e;simp [hk]
 ·by_cases hi:i<n
  ·simp only [List.getElem?_range hi,Option.map_some,e,if_false];by_cases hik:i<k
   ·simp [hik,Nat.lt_succ_of_lt hik]
   ·have:¬ i<k+1:=by omega
    simp [hik,this]
  ·simp [e,hi]
set_option maxHeartbeats 4000000 in
theorem Aay (d:Dfa) (hv:Val d) (hn:d.nxt.length≤64) (v:Value) (w:World) (hT:Tab w) (hsz:0<w.heap.size) (h:IsD w v d) :
  Calls Tryz.prog 18 #[v] w fun e w'=>∃ r,ResOf w' e r∧Xm d r∧Ext w w':=by
 have HD:=Lib.hid h;obtain ⟨ac,lc,cc,an,cn,aa,la,ca,rfl⟩:=h.agg;obtain ⟨Va,hVa⟩:∃ X,dA (.slice ac lc cc) (.slice an d.nxt.length cn) (.slice aa la ca)=X:=⟨_,rfl⟩;have hiVa:(Tryz.prog.info? 30).map (·.size)=some Va.size:=by rw [← hVa];exact Ad
 rw [hVa] at HD ⊢;clear hVa h;have hE0:=((Ext.refl w).alloc (.cells Va 30)).alloc (.cells #[.slice none 0 0,.slice none 0 0,.slice none 0 0] 30);have H0:=Af (Ab w (.cells Va 30)) (.cells #[.slice none 0 0,.slice none 0 0,.slice none 0 0] 30);have H1:=heap_alloc2_new w (.cells Va 30) (.cells #[.slice none 0 0,.slice none 0 0,.slice none 0 0] 30);have HTa:=Lib.hid (fun W (hW:Ext w W)=>hT.below hW.below hsz);have f28:=fun W (hW:Ext w W)=>Lib.hid (Ig d hv hn _ W (HTa.out W hW) (Nat.lt_of_lt_of_le hsz hW.size) (HD.out.ext hW))
 have HRX:=Lib.hid (fun (x:Dfa) (hx:Cano x) (e:∀ u,x.has u=d.has u)=>Nat.le_trans (L1 hx hv e) hn);clear hv hT hn;obtain ⟨i0,hi,hz0,hz1,hz2⟩:=info_parts Dm;go_enter Tryz.func18,Tryz.ntmps18;go_upto_region 1 with (fail)
 obtain ⟨w1,hw1⟩:∃ W,(w.alloc (.cells Va 30)).alloc (.cells #[.slice none 0 0,.slice none 0 0,.slice none 0 0] 30)=W:=⟨_,rfl⟩;have hs1:w.heap.size+1<w1.heap.size:=by rw [← hw1,World.size_alloc,World.size_alloc];omega
 rw [hw1] at hE0 H0 H1;simp only [hw1];clear hw1;have HB0:=Lib.hid H0;have HB1:=Lib.hid H1;clear H0 H1;go_upto_region 4 with (first
  | (refine wpList_load_row rfl 30 (.tmp 1) rfl _ rfl _ _ _ _ HB0.out Tryz.underlying30 rfl hiVa ?_)
  | (go_at_call 28;(with_reducible refine (f28 _ hE0).out.mono ?_);rintro e w2 ⟨x,⟨v2,rfl,hx2⟩,hcan,hhas,hE2⟩;obtain ⟨bc,oc,cc2,bn,on,cn2,ba,oa,ca2,rfl,hC,hR,hA⟩:=hx2.opened hcan.val)
  | (refine wpList_store_row rfl 30 (.tmp 4) (.tmp 23) rfl _ _ rfl rfl _ _ (Ab w2 _) Ad rfl (An _ _ _ rfl rfl rfl) ?_))
 have hx64:=HRX.out x hcan hhas;have hEx:=((Ext.refl w2).alloc (.cells #[.slice none 0 0,.slice none 0 0,.slice none 0 0] 30)).setRow (Nat.le_refl _) (dA (.slice (some ⟨bc,oc,none⟩) x.cls.length cc2) (.slice (some ⟨bn,on,none⟩) x.nxt.length cn2) (.slice (some ⟨ba,oa,none⟩) x.nxt.length ca2));have H4:=setRow_heap (w2.alloc (.cells #[.slice none 0 0,.slice none 0 0,.slice none 0 0] 30)) w2.heap.size _ (dA (.slice (some ⟨bc,oc,none⟩) x.cls.length cc2) (.slice (some ⟨bn,on,none⟩) x.nxt.length cn2) (.slice (some ⟨ba,oa,none⟩) x.nxt.length ca2)) _ _ (Ab w2 _);obtain ⟨w3,hw3⟩:∃ W,(w2.alloc (.cells #[.slice none 0 0,.slice none 0 0,.slice none 0 0] 30)).setRow w2.heap.size (dA (.slice (some ⟨bc,oc,none⟩) x.cls.length cc2) (.slice (some ⟨bn,on,none⟩) x.nxt.length cn2) (.slice (some ⟨ba,oa,none⟩) x.nxt.length ca2))=W:=⟨_,rfl⟩;rw [hw3] at hEx H4;simp only [hw3];clear hw3;have HC:=Lib.hid (fun (W:World) (hW:Ext w3 W)=>hC.ext (hEx.trans hW));have HR:=Lib.hid (fun (W:World) (hW:Ext w3 W)=>hR.ext (hEx.trans hW));have HAC:=Lib.hid (fun (W:World) (hW:Ext w3 W) s (hs:s<x.nxt.length)=>(hEx.trans hW).cell (hA s hs));have HK0:=Lib.hid (fun (W:World) (hW:Ext w3 W)=>(cell_of_row W w2.heap.size 0 _ _ _ (hW.heap H4)).trans (show (dA (.slice (some ⟨bc,oc,none⟩) x.cls.length cc2) (.slice (some ⟨bn,on,none⟩) x.nxt.length cn2) (.slice (some ⟨ba,oa,none⟩) x.nxt.length ca2))[0]? = some (.slice (some ⟨bc,oc,none⟩) x.cls.length cc2) from rfl));have HK1:=Lib.hid (fun (W:World) (hW:Ext w3 W)=>(cell_of_row W w2.heap.size 1 _ _ _ (hW.heap H4)).trans (show (dA (.slice (some ⟨bc,oc,none⟩) x.cls.length cc2) (.slice (some ⟨bn,on,none⟩) x.nxt.length cn2) (.slice (some ⟨ba,oa,none⟩) x.nxt.length ca2))[1]? = some (.slice (some ⟨bn,on,none⟩) x.nxt.length cn2) from rfl));have HK2:=Lib.hid (fun (W:World) (hW:Ext w3 W)=>(cell_of_row W w2.heap.size 2 _ _ _ (hW.heap H4)).trans (show (dA (.slice (some ⟨bc,oc,none⟩) x.cls.length cc2) (.slice (some ⟨bn,on,none⟩) x.nxt.length cn2) (.slice (some ⟨ba,oa,none⟩) x.nxt.length ca2))[2]? = some (.slice (some ⟨ba,oa,none⟩) x.nxt.length ca2) from rfl));have hE3:=(hE0.trans hE2).trans hEx;have HB1:=Lib.hid ((hE2.trans hEx).heap HB1.out);have hs3:w.heap.size+1<w3.heap.size:=Nat.lt_of_lt_of_le hs1 (hE2.trans hEx).size;have HCA:=Lib.hid hcan;have HHA:=Lib.hid hhas;clear hx2 hcan hhas hC hR hA hEx H4 HB0 HD f28 HRX hE2 hE0;generalize w2.heap.size=g4 at *;have HV:=Lib.hid HCA.out.val;have hn0:=HV.out.pos;have hm0:=HV.out.parts.pos;have hm1:=HV.out.parts.le;have HAL:=Lib.hid HV.out.accL;have HBL:=Lib.hid (Nr x.cls);have HCS:=Lib.hid (fun (W:World) (hW:Ext w3 W) (g:Nat) (ty:TypeId) (hg:W.heap[g]? = some (.cells (Am (List.replicate 64 false)) 88 (0,0)))=>Ahk W g x ba oa ca2 ty (by rw [HAL.out];exact hx64) hg (fun s hs=>HAC.out W hW s (by rw [← HAL.out];exact hs)) (.slice (some ⟨ba,oa,none⟩) x.nxt.length ca2) (by rw [HAL.out]))
 obtain ⟨nn,hnn⟩:∃ n,x.nxt.length=n:=⟨_,rfl⟩;obtain ⟨m,hm⟩:∃ n,x.cls.length=n:=⟨_,rfl⟩;rw [hnn] at hn0 hx64 HK1 HK2 HR HCS HAC;rw [hm] at hm0 hm1 HK0 HR HBL;rw [hnn,hm];have HNN:=Lib.hid hnn;have HMM:=Lib.hid hm;clear hnn hm;have hE4:=(Ext.refl w3).alloc (.cells (Am (List.replicate 64 false)) 88);have H6:=Ab w3 (.cells (Am (List.replicate 64 false)) 88);go_upto_region 5 with (fail)
 rw [z64];obtain ⟨w4,hw4⟩:∃ W,w3.alloc (.cells (Am (List.replicate 64 false)) 88)=W:=⟨_,rfl⟩;have hs4:w4.heap.size=w3.heap.size+1:=by rw [← hw4,World.size_alloc]
 rw [hw4] at hE4 H6;simp only [hw4];clear hw4;refine Dh 3 [(0,true),(1,true),(2,true),(3,false)] (by kernel_rfl) (by kernel_rfl) (fun _ _ _ _ h=>h) (fun W=>W.cell? ⟨g4,2,none⟩=some (.slice (some ⟨ba,oa,none⟩) nn ca2)) (HK2.out _ hE4.drew) ?_;iterate 3
  refine Ax (v:=?_) rfl rfl (fun W hW=>?_) ?_
  rotate_left
  ·go_simp;first|done|with_reducible rfl
  simp only [Act.put,List.setIfInBounds_toArray,List.set_cons_zero,List.set_cons_succ]
 obtain ⟨c5,hc5⟩:=HCS.out w4.drew hE4.drew w3.heap.size 3 H6;refine B2 rfl (fun K hK=>?_);refine (if_pos (by rfl)).mpr ?_;refine Xv _ _ 28 28 rfl _ _ rfl rfl hc5 ?_;refine hK _ _ (fun h=>absurd h (by omega)) ?_;clear hK K;refine Di ?_;have hE5:=hE4.drew.setRow (Nat.le_refl w3.heap.size) (Am (rst x));have H6':=Lib.hid (setRow_heap w4.drew w3.heap.size _ (Am (rst x)) _ _ H6);obtain ⟨w5,hw5⟩:∃ W,w4.drew.setRow w3.heap.size (Am (rst x))=W:=⟨_,rfl⟩;have hs5:w3.heap.size<w5.heap.size:=by rw [← hw5,size_setRow];show _<w4.heap.size;omega
 rw [hw5] at hE5 H6';simp only [hw5];clear hw5 hc5 H6 hE4 hs4;have hrl:=Iw x;have hkey0:=R4 (rst x) hrl;have i88:=O7 (rst x) hrl;have hmm:=@run_makeMap Tryz.prog;have hmp6:=I8 w5 88 C0;have hE6:=hE5.alloc (.map #[] 0);have H6m:=Lib.hid (Af H6'.out (.map #[] 0));have hs6:w5.heap.size+1≤(w5.alloc (.map #[] 0)).heap.size:=by rw [World.size_alloc];omega
 go_upto_region 7 with (first
  | (refine wpList_load_row rfl 88 (.tmp 6) rfl _ rfl _ _ _ _ H6m.out Tryz.underlying88 rfl i88 ?_)
  | (refine Qp rfl _ _ _ 89 rfl Lg Tryz.underlying89 rfl hmp6 (by unfold maxLen;omega) R5 (rst x) rfl hkey0 0 rfl (by omega) ?_;intro w6 hmp7 hgr6))
 clear hmm hmp6;have hE7:=hE6.grown hgr6 (fun k e=>by cases e;omega);have H7:=Lib.hid ((hgr6.block w3.heap.size (Ak H6m.out) (fun e=>by have:=Option.some.inj e;omega)).trans H6m.out);have hsz7:w5.heap.size+1≤w6.heap.size:=Nat.le_trans hs6 hgr6.size;clear hgr6 hs6 hE6 H6m H6';go_upto_region 8 with (first
  | (refine wpList_load_row rfl 88 (.tmp 6) rfl _ rfl _ _ _ _ H7.out Tryz.underlying88 rfl i88 ?_)
  | (refine Qq rfl _ rfl (rst x) hrl rfl ?_))
 have hE8:=hE7.alloc (.cells (Am (rst x)) 88);have hmp8:=hmp7.alloc (.cells (Am (rst x)) 88);have hL8:J2 (w6.alloc (.cells (Am (rst x)) 88)) (w5.heap.size+1) (.slice (some ⟨w6.heap.size,0,none⟩) 1 1) [rst x]:=by
  have:=World.ownsRow_lit (base:=w5.heap.size+1) (e:=88) (size:=64) w6 (Am (rst x)) 1 hsz7 (by unfold maxLen;omega) (by rw [Hd,hrl]);show World.ownsRow _ _ _ _ _ _ _;rw [U1];exact this
 have hsz8:w5.heap.size+1≤(w6.alloc (.cells (Am (rst x)) 88)).heap.size:=by rw [World.size_alloc];omega
 obtain ⟨w8,hw8⟩:∃ W,w6.alloc (.cells (Am (rst x)) 88)=W:=⟨_,rfl⟩;rw [hw8] at hE8 hmp8 hL8 hsz8;simp only [hw8];clear hw8 hmp7 hE7 H7 hsz7 hkey0 i88;obtain ⟨go0,hgo0⟩:∃ x,w6.heap.size=x:=⟨_,rfl⟩;rw [hgo0] at hL8 ⊢;clear hgo0;have hbz:w3.heap.size≤w5.heap.size:=by omega
 have HBB:=Lib.hid (fun k (hk:k<m)=>Si HV.out.parts (show k<x.cls.length by rw [HMM.out];exact hk));have hNo:=World.ownsRow_nil w8 (w5.heap.size+1) 68 1;have hVo:RowsO w8 (w5.heap.size+1) [] [] (fun _=>False):=⟨rfl,fun j hj=>by simp at hj⟩;clear hrl;go_wp2_with (fail);go_loopw [8,9,10] (fun vo vn vi W=>∃ (i:Nat) (l:List (List Bool)) (f:List Bool→Option Nat) (N':List (List Nat)) (vs:List Value) (go co:Nat),i≤l.length∧l.length≤4096∧vi=.int .i64 i∧vo=.slice (some ⟨go,0,none⟩) l.length co∧Ext w3 W∧w5.heap.size+1≤W.heap.size∧
   IsMp W 88 C0 w5.heap.size l.length f∧J2 W (w5.heap.size+1) vo l∧W.ownsRow (w5.heap.size+1) 68 1 vn vs.length vs∧
   RowsO W (w5.heap.size+1) vs N' (fun _=>False)∧Hid (EInv (Dk x.cls) (rst x) (rnx x) i 0 l f N' (List.replicate m 0)∧∀ S,S∈l→S.length=64))
  (fun _ _ vi _=>4097-(intOf vi).toNat)
 case atStart=>exact ⟨0,[rst x],_,[],[],go0,1,by omega,by simp,rfl,rfl,hE8,hsz8,hmp8,hL8,hNo,hVo,Lib.hid ⟨Vk (Dk x.cls) (rst x) (rnx x) _ (by rw [HBL.out];simp),fun S hS=>by rw [List.mem_singleton] at hS;rw [hS];exact Iw x⟩⟩
 case round=>
  clear hE8 hmp8 hL8 hsz8 hNo hVo;obtain ⟨i,l,f,N',vs,go,co,hil,hlm,rfl,rfl,hE,hsz,hmp,hL,hNx,hV,HI⟩:=hrel;by_cases hlt:i<l.length
  ·obtain ⟨wo,hwo⟩:∃ W,W=wr:=⟨_,rfl⟩;subst hwo;obtain ⟨S,hsl⟩:∃ s,l[i]? = some s:=⟨l[i],by simp [hlt]⟩;have HSL:=Lib.hid hsl;have HS64:=Lib.hid (HI.out.2 S (List.mem_of_getElem? hsl));clear hsl;have k0:=HK0.out wo hE;go_upto_region 13 with (at_make;refine wpList_make_full _ rfl _ _ 68 rfl (w5.heap.size+1) 3 i0 (.int .i64 0) 1 Tryz.underlying68 hi hz0 hz1 .i64 .i64 _ _ m rfl rfl rfl rfl (by rw [hz2];omega) (by unfold maxLen;omega) (by omega) ?_;intro w7 hown7 hgr7)
   clear k0;have hE5:=hE.grown hgr7 (fun k e=>by cases e);have hQ5:w7.ownsRow (w5.heap.size+1) 3 1 (.slice (some ⟨wo.heap.size,0,none⟩) m m) m ((List.replicate m 0).map iv):=by rw [← Ca];exact hown7
   have hmp5:=hmp.kept hgr7 (by simp);have hL5:=Bt hL hgr7;have hN5:=Bt hNx hgr7;have hV5:=(hV.av (av':=fun o=>o=some wo.heap.size) (fun v l ho hav e=>by
    have:=(ho.lt _ e).2;omega)).kept hgr7 (fun v l ho hav=>by cases v.ownBlock<;>simp)
   have hsz5:=Nat.le_trans hsz hgr7.size;have hgb:=(hQ5.lt wo.heap.size rfl).1;obtain ⟨gr,hgrd⟩:∃ x,wo.heap.size=x:=⟨_,rfl⟩;rw [hgrd] at hQ5 hV5 hgb;rw [hgrd];clear hown7 hgr7 hmp hL hNx hV hE hsz hgrd;have k0:=HK0.out w7 hE5;go_wp2_with (fail);clear k0;go_loopw [8,51] (fun vo vk W=>∃ (k:Nat) (l2:List (List Bool)) (f2:List Bool→Option Nat) (r:List Nat) (go2 co2:Nat),k≤m∧l2.length≤4096+k∧vk=.int .i64 k∧vo=.slice (some ⟨go2,0,none⟩) l2.length co2∧Ext w3 W∧w5.heap.size+1≤W.heap.size∧
     IsMp W 88 C0 w5.heap.size l2.length f2∧J2 W (w5.heap.size+1) vo l2∧W.ownsRow (w5.heap.size+1) 3 1 (.slice (some ⟨gr,0,none⟩) m m) m (r.map iv)∧
     W.ownsRow (w5.heap.size+1) 68 1 u9 vs.length vs∧RowsO W (w5.heap.size+1) vs N' (fun o=>o=some gr)∧
     Hid (EInv (Dk x.cls) (rst x) (rnx x) i k l2 f2 N' r∧i<l2.length∧(∀ j,j≤i→l2[j]? = l[j]?)∧∀ S,S∈l2→S.length=64))
    (fun _ vk _=>m-(intOf vk).toNat)
   case atStart=>exact ⟨0,l,f,_,go,co,by omega,by omega,rfl,rfl,hE5,hsz5,hmp5,hL5,hQ5,hN5,hV5,Lib.hid ⟨HI.out.1,hlt,fun _ _=>rfl,HI.out.2⟩⟩
   case round=>
    clear hE5 hsz5 hmp5 hL5 hQ5 hN5 hV5;obtain ⟨k,l2,f2,r,go2,co2,hk,hlm2,rfl,rfl,hE,hsz,hmp,hL,hQ,hNx,hV,HJ⟩:=hrel;have HLR:Hid (r.length=m):=Lib.hid (by rw [HJ.out.1.lenr,HBL.out]);have hil2:=HJ.out.2.1;have HS2:Hid (l2[i]? = some S):=Lib.hid (by rw [HJ.out.2.2.1 i (Nat.le_refl _)];exact HSL.out);obtain ⟨w7,hw7⟩:∃ W,W=wr:=⟨_,rfl⟩;subst hw7;by_cases hkc:k<m
    ·have hEs:=(Ext.refl w7).alloc (.cells (Am (List.replicate 64 false)) 88);have HSs:=Ab w7 (.cells (Am (List.replicate 64 false)) 88);have hgsl:w7.heap.size<(w7.alloc (.cells (Am (List.replicate 64 false)) 88)).heap.size:=by rw [World.size_alloc];omega
     go_upto_region 17 with (fail)
     rw [z64];obtain ⟨ws,hws⟩:∃ W,w7.alloc (.cells (Am (List.replicate 64 false)) 88)=W:=⟨_,rfl⟩;rw [hws] at hEs HSs hgsl;simp only [hws];clear hws;rw [← Agp x S k] at HSs;obtain ⟨gS,hgS⟩:∃ y,w7.heap.size=y:=⟨_,rfl⟩;rw [hgS] at HSs hgsl;rw [hgS];have HGS:=Lib.hid hgS;clear hgS;have hE7:=hE.trans hEs;have k1:=HK1.out ws hE7;go_wp2_with (fail);clear k1;have HSC:=Lib.hid (fun (W:World) (hW:Ext w7 W) (q:Nat) (hq:q<64)=>hW.cell (R1 hL HJ.out.2.2.2 i S HS2.out q hq));have hgsw:w7.heap.size≤gS:=Nat.le_of_eq HGS.out;go_loopw [57] (fun vs W=>∃ s:Nat,s≤nn∧vs=.int .i64 s∧Ext w7 W∧Hid (W.heap[gS]? = some (.cells (Am (Cr x S k s)) 88 (0,0))))
      (fun vs _=>nn-(intOf vs).toNat)
     case atStart=>exact ⟨0,by omega,rfl,hEs,Lib.hid HSs⟩
     case round=>
      clear HSs hEs;obtain ⟨s,hs,rfl,hEr,HG⟩:=hrel;by_cases hsl:s<nn
      ·have hE3r:=hE.trans hEr;have hE3d:=hE3r.drew;obtain ⟨br,or',cr,hrc,hrr⟩:=HR.out wr.drew hE3d s hsl;have hre:=hrr k hkc;have hyn:x.ent2 s k<nn:=by rw [← HNN.out];exact HV.out.tgt s (by rw [HNN.out];exact hsl) k (by rw [HMM.out];exact hkc)
       obtain ⟨y,hyd⟩:∃ y,x.ent2 s k=y:=⟨_,rfl⟩;rw [hyd] at hre hyn;have hsc:=HSC.out wr.drew hEr.drew y (by omega);obtain ⟨bS,hbS⟩:∃ b,S.getD y false=b:=⟨_,rfl⟩;rw [hbS] at hsc;have HBS:Hid (S.getD (x.ent2 s k) false=bS):=Lib.hid (by rw [hyd];exact hbS);have hs64:s<64:=by omega
       have hy64:(y:Int)<64:=by omega
       have hs64i:(s:Int)<64:=by omega
       have hk1:=HK1.out wr.drew hE3d;have hG':wr.drew.heap[gS]? = some (.cells (Am (Cr x S k s)) 88 (0,0)):=HG.out;have hgc:=(cell_of_row wr.drew gS s _ _ _ hG').trans (R6 _ s (by rw [U9];omega));have hgf:=frozen_of_row wr.drew gS s _ _ hG';have HGc:=Lib.hid hgc;have HGf:=Lib.hid hgf;clear hrr hyd hbS hgc hgf;go_upto_region 20 with (fail)
       refine Dh 15 [(0,true),(1,true),(2,true),(3,true),(4,true),(5,true),(6,true),(7,true),(8,true),(9,true),(10,true),(11,true),(12,true),(13,true),(14,true),(15,false)] (by kernel_rfl) (by kernel_rfl) (fun _ _ _ _ h=>h)
        (fun X=>X.cell? ⟨g4,1,none⟩=some (.slice (some ⟨bn,on,none⟩) nn cn2)∧X.cell? ⟨bn,on+s,none⟩=some (.slice (some ⟨br,or',none⟩) m cr)∧X.cell? ⟨br,or'+k,none⟩=some (iv y)∧X.cell? ⟨go2,i*64+y,none⟩=some (.bool bS)) ⟨hk1,hrc,hre,hsc⟩ ?_
       clear hk1 hrc hre hsc;iterate 15
        refine Ax (v:=?_) rfl rfl (fun X hX=>?_) ?_
        rotate_left
        ·obtain ⟨t0,t1,t2,t3⟩:=hX;go_simp;first|done|with_reducible rfl
        simp only [Act.put,List.setIfInBounds_toArray,List.set_cons_zero,List.set_cons_succ]
       have hgc:=HGc.out;have hgf:=HGf.out;refine B2 rfl (fun K hK=>?_);go_simp;refine hK _ _ (fun h=>absurd h (by omega)) ?_;clear hK K hgc hgf HGc HGf;refine Di ?_;have hstc:wr.setCell ⟨gS,s,none⟩ (.bool bS)=wr.setRow gS (Am (Cr x S k (s+1))):=by
        rw [setCell_eq_setRow wr gS s _ _ _ _ HG.out,← HBS.out,Agq x S k s hs64]
       have HGn:Hid ((wr.setRow gS (Am (Cr x S k (s+1)))).drew.heap[gS]? = some (.cells (Am (Cr x S k (s+1))) 88 (0,0))):=Lib.hid (setRow_heap wr gS _ (Am (Cr x S k (s+1))) _ _ HG.out);have hEn:=(hEr.setRow hgsw (Am (Cr x S k (s+1)))).drew;rw [hstc];clear hstc hG' hE3r hE3d hEr;go_wp2;go_roundw
       case rel=>exact ⟨s+1,by omega,by go_num,hEn,HGn⟩
       case measure=>simp [intOf];omega
      ·obtain rfl:s=nn:=by omega
       obtain ⟨y,hyd⟩:∃ y,rnx x S ((Dk x.cls).getD k 0)=y:=⟨_,rfl⟩;have hG:wr.heap[gS]? = some (.cells (Am y) 88 (0,0)):=by
        have h1:=HG.out;have h2:=Agr x S k (HBB.out k hkc).2;rw [HNN.out,hyd] at h2;rw [h2] at h1;exact h1
       have hy64:y.length=64:=by rw [← hyd];exact Nj _ _ _
       have HY64:=Lib.hid hy64;have HYD:=Lib.hid hyd;have hkey:=R4 y hy64;have i88:=O7 y hy64;have hL7:=Ah hL hEr;have hQ7:=Ah hQ hEr;have hN7:=Ah hNx hEr;have hV7:=hV.kept (hEr.grownBy none) (fun v l _ _=>by cases v.ownBlock<;>simp);have hmp7:=hmp.ext hEr;have hE8:=hE.trans hEr;have hsz7:=Nat.le_trans hsz hEr.size;have HY7:=Lib.hid hG;have hgS2:w5.heap.size+1≤gS:=Nat.le_trans hsz hgsw;clear hL hQ hNx hV hmp hE hsz hE7 hyd hG hy64 HG hgsl hEr HSC;obtain ⟨w9,hw9⟩:∃ W,W=wr:=⟨_,rfl⟩;subst hw9;cases hf:f2 y with
       | some v=>
        have HJ':=Lib.hid (Vm HJ.out.1 (by rw [HBL.out];exact hkc) HS2.out v (by rw [HYD.out];exact hf));have cq:=Ap 0 hQ7 HLR.out.symm k (by rw [HLR.out];exact hkc);have fq:=hQ7.frozenAt k;obtain ⟨hQ8,hgr8⟩:=A3 hQ7 k v;have hE9:=hE8.grown hgr8 (fun k e=>by cases e;omega);have hL8:=hL7.kept hgr8 (Ai hL7 hQ7 (by decide));have hN8:=hN7.kept hgr8 (Ai hN7 hQ7 (by decide));have hV8:=hV7.kept hgr8 (fun v l ho hav=>.inr (fun e=>hav e));have hmp8:=hmp7.kept hgr8 (fun e=>by have:=Option.some.inj e;omega);have hsz8:=Nat.le_trans hsz7 hgr8.size;clear hgr8 hL7 hQ7 hN7 hV7 hE8 hsz7;go_wp2_with (first
         | (refine wpList_load_row rfl 88 (.tmp 13) rfl _ rfl _ _ _ _ HY7.out Tryz.underlying88 rfl i88 ?_)
         | (at_lookup;refine D8 rfl _ _ 89 rfl Lg Tryz.underlying89 rfl hmp7 y rfl hkey ?_;rw [hf];dsimp only [Option.isSome,Option.getD]))
        go_roundw
        case rel=>exact ⟨k+1,l2,f2,r.set k v,go2,co2,by omega,by omega,by go_num,rfl,hE9,hsz8,hmp8,hL8,hQ8,hN8,hV8,Lib.hid ⟨HJ'.out,HJ.out.2⟩⟩
        case measure=>simp [intOf];omega
       | none=>
        have hJ':=Vn HJ.out.1 (by rw [HBL.out];exact hkc) (fun q hq=>(HBB.out q (by rw [← HBL.out];exact hq)).1) HS2.out (by rw [HYD.out];exact hf);rw [HYD.out] at hJ';have HJ':=Lib.hid hJ';clear hJ';obtain ⟨i7,hi7,hu0,hu1,hu2⟩:=info_parts Uc;have hgSw:gS<w9.heap.size:=Ak HY7.out;have hygm:gS≠w5.heap.size:=fun e=>by omega
        go_upto_region 26 with (first
         | (refine wpList_load_row rfl 88 (.tmp 13) rfl _ rfl _ _ _ _ HY7.out Tryz.underlying88 rfl i88 ?_)
         | (at_lookup;refine D8 rfl _ _ 89 rfl Lg Tryz.underlying89 rfl hmp7 y rfl hkey ?_;rw [hf];dsimp only [Option.isSome,Option.getD])
         | (at_mapUpdate;refine Ik rfl _ _ _ 89 rfl Lg Tryz.underlying89 rfl hmp7 (by unfold maxLen;omega) R5 y rfl hkey l2.length rfl (by omega) ?_;intro w10 hmp8 hgr8))
        have hL8:=hL7.kept hgr8 (hmp7.far hL7);have hQ8:=hQ7.kept hgr8 (hmp7.far hQ7);have hN8:=hN7.kept hgr8 (hmp7.far hN7);have hV8:=hV7.kept hgr8 (fun v l ho hav=>hmp7.far ho);have hE9:=hE8.grown hgr8 (fun k e=>by cases e;omega);have hsz8:=Nat.le_trans hsz7 hgr8.size;have HY8:=Lib.hid ((hgr8.block gS hgSw (fun e=>hygm (Option.some.inj e))).trans HY7.out);clear hgr8 hL7 hQ7 hN7 hV7 hE8 hsz7 hmp7 hgSw;go_upto_region 27 with (first
         | (refine wpList_load_row rfl 88 (.tmp 13) rfl _ rfl _ _ _ _ HY8.out Tryz.underlying88 rfl i88 ?_)
         | (refine Qq rfl _ rfl y HY64.out rfl ?_)
         | (at_builtin;refine wpList_append_lies _ rfl _ _ 90 rfl (w5.heap.size+1) 88 i7 (C0 (List.replicate 64 false)) 64 64 Tryz.underlying90 hi7 hu0 hu1 hu2 (by show (Am (List.replicate 64 false)).size=64;rw [Hd];rfl) (by decide) _ _ _ rfl (hL8.alloc _) _ 1 1 (B6 y) rfl (by rw [Gd,HY64.out]) (World.news_of_block (Ab w10 _)) (fun u hu=>by obtain ⟨b,_,rfl⟩:=List.mem_map.1 hu;rfl) (by decide) (by unfold maxLen;omega) (by omega) (by rw [World.size_alloc];omega) _ rfl ?_;intro g9 c9 w11 hL9 hgr9 _ _))
        have hE10:=(hE9.alloc (.cells (Am y) 88)).grown hgr9 (fun k e=>by have:=(hL8.lt k e).1;omega);have hQ9:=(hQ8.alloc (.cells (Am y) 88)).kept hgr9 (Ai hQ8 hL8 (by decide));have hN9:=(hN8.alloc (.cells (Am y) 88)).kept hgr9 (Ai hN8 hL8 (by decide));have hV9:=(hV8.alloc (.cells (Am y) 88)).kept hgr9 (fun v l ho _=>Ai ho (hL8.alloc (.cells (Am y) 88)) (by decide));have hmp9:=(hmp8.alloc (.cells (Am y) 88)).kept hgr9 (hmp8.ne_row hL8);have hsz9:w5.heap.size+1≤w11.heap.size:=by
         have:=hgr9.size;rw [World.size_alloc] at this;omega
        have HL9:Hid (J2 w11 (w5.heap.size+1) (.slice (some ⟨g9,0,none⟩) (l2++[y]).length c9) (l2++[y])):=Lib.hid (by
         show World.ownsRow _ _ _ _ _ _ _;rw [List.length_append,Agi,U1];exact hL9)
        clear hgr9 hL8 hQ8 hN8 hV8 hE9 hsz8 hmp8 hL9 HY8;have cq:=Ap 0 hQ9 HLR.out.symm k (by rw [HLR.out];exact hkc);have fq:=hQ9.frozenAt k;obtain ⟨hQ10,hgr10⟩:=A3 hQ9 k l2.length;have hE11:=hE10.grown hgr10 (fun k e=>by cases e;omega);have HL10:=Lib.hid (HL9.out.kept hgr10 (Ai HL9.out hQ9 (by decide)));have hN10:=hN9.kept hgr10 (Ai hN9 hQ9 (by decide));have hV10:=hV9.kept hgr10 (fun v l ho hav=>.inr (fun e=>hav e));have hmp10:=hmp9.kept hgr10 (fun e=>by have:=Option.some.inj e;omega);have hsz10:=Nat.le_trans hsz9 hgr10.size;clear hgr10 HL9 hQ9 hN9 hV9 hE10 hsz9 hmp9;go_wp2_with (fail);go_roundw
        case rel=>
         refine ⟨k+1,l2++[y],_,r.set k l2.length,g9,c9,by omega,by rw [List.length_append];simp;omega,by go_num,?_,hE11,hsz10,?_,?_,hQ10,hN10,hV10,Lib.hid ⟨HJ'.out,?_,fun j hj=>?_,fun X hX=>?_⟩⟩
         ·rw [List.length_append];rfl
         ·rw [List.length_append];exact hmp10
         ·have h9:World.ownsRow _ _ _ _ _ _ _:=HL10.out;show World.ownsRow _ _ _ _ _ _ _;rw [show (l2++[y]).length=l2.length+1 by simp] at h9 ⊢;exact h9
         ·rw [List.length_append];have:=HJ.out.2.1;omega
         ·rw [List.getElem?_append_left (by have:=HJ.out.2.1;omega)];exact HJ.out.2.2.1 j hj
         ·rcases List.mem_append.1 hX with hX|hX
          ·exact HJ.out.2.2.2 X hX
          ·rw [List.mem_singleton] at hX;rw [hX];exact HY64.out
        case measure=>simp [intOf];omega
    ·obtain rfl:m=k:=by omega
     by_cases hbig:4096<l2.length
     ·have hbI:(4096:Int)<(l2.length:Int):=by omega
      have hMany:=Lib.hid (show Bx (rnx x) (rst x) 4096 from ⟨l2,HJ.out.1.nodup,fun S hS=>HJ.out.1.reach S hS,hbig⟩);have hBz:=Lib.hid Fl;have HB1x:=Lib.hid (hE.heap HB1.out);go_wp2_with (first
       | (refine Ci rfl 30 _ rfl #[.slice none 0 0,.slice none 0 0,.slice none 0 0] ?_ ?_;(simp;with_reducible exact hBz.out))
       | (refine wpList_store_row rfl 30 (.tmp 2) (.tmp 101) rfl _ _ rfl rfl _ _ HB1x.out Ad rfl Ex ?_))
      refine bodyPost_ret (v:=.tuple #[zD,.int .i64 2]) (A2 rfl _ _ _ _ _ _ _ rfl _ rfl (setRow_heap _ _ _ #[.slice none 0 0,.slice none 0 0,.slice none 0 0] 30 (0,0) HB1x.out) Tryz.underlying30 rfl Ad) rfl ?_;exact ⟨none,rfl,⟨x,HCA.out,HHA.out,fun _=>rfl,fun hnm=>absurd hMany.out hnm⟩,(hE3.trans hE).setRow (by omega) _⟩
     ·have hbI:¬ (4096:Int)<(l2.length:Int):=by omega
      obtain ⟨i6,hi6,hx0,hx1,hx2⟩:=info_parts Lk;have hvb:vs.length≤1073741824:=by rw [hV.1,HJ.out.1.lenN];omega
      go_wp2_with (at_builtin;refine wpList_append_lies _ rfl _ _ 27 rfl (w5.heap.size+1) 68 i6 (.slice none 0 0) 1 24 Tryz.underlying27 hi6 hx0 hx1 hx2 rfl (by decide) u9 vs.length vs rfl (hNx.alloc _) _ 1 1 [.slice (some ⟨gr,0,none⟩) m m] rfl rfl (cell_one_new _ _ _) (by simp [Value.oneCell']) (by decide) (by unfold maxLen;omega) (by omega) (by rw [World.size_alloc];omega) _ rfl ?_;intro g7 c7 w8 hN7 hgr7 _ _);have hmp7:=(hmp.alloc (.cells #[.slice (some ⟨gr,0,none⟩) m m] 68)).kept hgr7 (hmp.ne_row hNx);have hL7:=(hL.alloc (.cells #[.slice (some ⟨gr,0,none⟩) m m] 68)).kept hgr7 (Ai hL hNx (by decide));have hQ7:=(hQ.alloc (.cells #[.slice (some ⟨gr,0,none⟩) m m] 68)).kept hgr7 (Ai hQ hNx (by decide));have hV7:=(hV.alloc (.cells #[.slice (some ⟨gr,0,none⟩) m m] 68)).kept hgr7 (fun v l ho _=>Ai ho (hNx.alloc (.cells #[.slice (some ⟨gr,0,none⟩) m m] 68)) (by decide));have hE7:=(hE.alloc (.cells #[.slice (some ⟨gr,0,none⟩) m m] 68)).grown hgr7 (fun k e=>by have:=(hNx.lt k e).1;omega);have hsz7:w5.heap.size+1≤w8.heap.size:=by
       have:=hgr7.size;rw [World.size_alloc] at this;omega
      have hN8:w8.ownsRow (w5.heap.size+1) 68 1 (.slice (some ⟨g7,0,none⟩) (vs.length+1) c7) (vs++[Value.slice (some ⟨gr,0,none⟩) m m]).length (vs++[Value.slice (some ⟨gr,0,none⟩) m m]):=by
       rw [List.length_append];exact hN7
      have hQ13:OwnI w8 (w5.heap.size+1) (.slice (some ⟨gr,0,none⟩) m m) r:=by
       show World.ownsRow _ _ _ _ _ _ _;rw [HLR.out];exact hQ7
      have hV13:=(hV7.av (av':=fun _=>False) (fun v l _ _ e=>e)).snoc hQ13 (fun e=>e);have HNX:=Lib.hid (Vl (by rw [HBL.out];exact HJ.out.1) HJ.out.2.1 (List.replicate m 0) (by rw [HBL.out];simp));clear hgr7 hN7 hQ7 hQ13 hV7;go_roundw
      case rel=>exact ⟨i+1,l2,f2,N'++[r],vs++[.slice (some ⟨gr,0,none⟩) m m],go2,co2,by omega,by omega,by go_num,rfl,hE7,hsz7,hmp7,hL7,hN8,hV13,Lib.hid ⟨HNX.out,HJ.out.2.2.2⟩⟩
      case measure=>simp [intOf];omega
  ·obtain rfl:i=l.length:=by omega
   have HL64:=Lib.hid HI.out.2;have HEX:=Lib.hid (Vo (c:=Aj x.cls) (ac:=fun S=>S.getD 0 false) (A:=Dd (fun q=>(l.getD q []).getD 0 false) l.length l.length) (by
     have h:=HI.out.1;rw [show List.replicate m 0=List.replicate m 0 from rfl] at h;exact h) rfl (Hu _ _ _) (fun j s hs=>by
    have hj:j<l.length:=(List.getElem?_eq_some_iff.1 hs).1;have e:l.getD j []=s:=by rw [List.getD_eq_getElem?_getD,hs];rfl
    rw [Agw _ _ _ _ hj hj,e]))
   have hl0:=HI.out.1.pos;obtain ⟨j0,hj,hy0,hy1,hy2⟩:=info_parts Fd;obtain ⟨nl,hnl⟩:∃ x,l.length=x:=⟨_,rfl⟩;have HNL:=Lib.hid hnl;have hL':World.ownsRow wr (w5.heap.size+1) 88 64 (.slice (some ⟨go,0,none⟩) nl co) nl (flB l):=by
    rw [← hnl];exact hL
   rw [hnl] at hlm hl0;rw [hnl];clear hil hmp hnl hL;go_upto_region 33 with (at_make;refine wpList_make_full _ rfl _ _ 28 rfl (w5.heap.size+1) 4 j0 (.bool false) 1 Tryz.underlying28 hj hy0 hy1 .i64 .i64 _ _ nl rfl rfl rfl rfl (by rw [hy2];omega) (by unfold maxLen;omega) (by omega) ?_;intro w9 hown9 hgr9)
   have hE9:=hE.grown hgr9 (fun k e=>by cases e);have hA9:w9.ownsRow (w5.heap.size+1) 4 1 (.slice (some ⟨wr.heap.size,0,none⟩) nl nl) nl ((Dd (fun q=>(l.getD q []).getD 0 false) nl 0).map Value.bool):=by rw [Agu,← Ca];exact hown9
   have hL9:=Bt hL' hgr9;have hN9:=Bt hNx hgr9;have hV9:=hV.kept hgr9 (fun v l ho hav=>by cases v.ownBlock<;>simp);have hsz9:=Nat.le_trans hsz hgr9.size;obtain ⟨ga,hga⟩:∃ x,wr.heap.size=x:=⟨_,rfl⟩;have hgaw:w5.heap.size+1≤ga:=by rw [← hga];exact hsz
   rw [hga] at hA9;rw [hga];clear hown9 hgr9 hL' hNx hV hE hsz hga;go_wp2_with (fail);go_loopw [111] (fun vj W=>∃ j:Nat,j≤nl∧vj=.int .i64 j∧Ext w3 W∧w5.heap.size+1≤W.heap.size∧W.ownsRow (w5.heap.size+1) 88 64 (.slice (some ⟨go,0,none⟩) nl co) nl (flB l)∧
     W.ownsRow (w5.heap.size+1) 68 1 u9 vs.length vs∧RowsO W (w5.heap.size+1) vs N' (fun _=>False)∧W.ownsRow (w5.heap.size+1) 4 1 (.slice (some ⟨ga,0,none⟩) nl nl) nl ((Dd (fun q=>(l.getD q []).getD 0 false) nl j).map Value.bool))
    (fun vj _=>nl-(intOf vj).toNat)
   case atStart=>exact ⟨0,by omega,rfl,hE9,hsz9,hL9,hN9,hV9,hA9⟩
   case round=>
    clear hE9 hsz9 hL9 hN9 hV9 hA9;obtain ⟨j,hjn,rfl,hE,hsz,hL,hNx,hV,hA⟩:=hrel;obtain ⟨w9,hw9⟩:∃ W,W=wr:=⟨_,rfl⟩;subst hw9;by_cases hlt2:j<nl
    ·obtain ⟨S,hsl⟩:∃ s,l[j]? = some s:=⟨l[j]'(by rw [HNL.out];exact hlt2),by simp [HNL.out,hlt2]⟩;have hS64:=HL64.out S (List.mem_of_getElem? hsl);have hra:w9.rangeAt go (j*64) (B6 S):=fun q v hq=>by
      have hql:q<(B6 S).length:=(List.getElem?_eq_some_iff.1 hq).1;rw [Gd,hS64] at hql;have h1:World.ownsRow w9 (w5.heap.size+1) 88 64 (.slice (some ⟨go,0,none⟩) l.length co) l.length (flB l):=by rw [HNL.out];exact hL
      rw [R1 h1 HL64.out j S hsl q hql];have h2:(B6 S)[q]? = some (.bool (S.getD q false)):=by
       simp [B6,List.getD_eq_getElem?_getD,hS64,hql]
      rw [← h2,hq]
     have i88:=O7 S hS64;have i88l:(Tryz.prog.info? 88).map (·.size)=some (B6 S).length:=by rw [Gd,hS64];exact Ud
     have HRA:=Lib.hid hra;have HSL:=Lib.hid hsl;have HS64:=Lib.hid hS64;clear hra hsl hS64;go_upto_region 36 with (first
      | (refine wpList_load_mid rfl 88 (.tmp 114) rfl go (j*64) rfl (B6 S) _ HRA.out Tryz.underlying88 rfl i88l ?_)
      | (refine wpList_store_row rfl 88 (.tmp 19) (.tmp 115) rfl _ (Am S) rfl rfl _ _ (Ab w9 _) i88 (by rw [Hd,HS64.out];rfl) (Z1 S) ?_))
     have hEz:=((Ext.refl w9).alloc (.cells (Am (List.replicate 64 false)) 88)).setRow (Nat.le_refl w9.heap.size) (Am S);have hz9:=setRow_heap (w9.alloc (.cells (Am (List.replicate 64 false)) 88)) w9.heap.size _ (Am S) _ _ (Ab w9 _);simp only [z64];obtain ⟨wz,hwz⟩:∃ W,(w9.alloc (.cells (Am (List.replicate 64 false)) 88)).setRow w9.heap.size (Am S)=W:=⟨_,rfl⟩;rw [hwz] at hEz hz9;simp only [hwz];clear hwz;have hsz10:=Nat.le_trans hsz hEz.size;generalize w9.heap.size=gT at *;have hLz:=Ah hL hEz;have hNz:=Ah hNx hEz;have hAz:=Ah hA hEz;have hVz:=hV.kept (hEz.grownBy none) (fun v l _ _=>by cases v.ownBlock<;>simp);have hE10:=hE.trans hEz;have hgt:=(cell_of_row wz gT 0 _ _ _ hz9).trans (R6 S 0 (by rw [HS64.out];omega));have ca:=Ap false hAz (Hu _ _ _).symm j (by rw [Hu];exact hlt2);have cf:=hAz.frozenAt j;obtain ⟨hAn,hgrn⟩:=A3 hAz j (S.getD 0 false);have hfs:(Dd (fun q=>(l.getD q []).getD 0 false) nl j).set j (S.getD 0 false)=Dd (fun q=>(l.getD q []).getD 0 false) nl (j+1):=by
      rw [← Agv _ _ _ hlt2];have e:l.getD j []=S:=by rw [List.getD_eq_getElem?_getD,HSL.out];rfl
      rw [e]
     rw [hfs] at hAn;have hLn:=hLz.kept hgrn (Ai hLz hAz (by decide));have hNn:=hNz.kept hgrn (Ai hNz hAz (by decide));have hVn:=hVz.kept hgrn (fun v l ho _=>Ai ho hAz (by decide));have hEn:=hE10.grown hgrn (fun k e=>by cases e;omega);have hszn:=Nat.le_trans hsz10 hgrn.size;clear hL hNx hA hV hE hsz hEz hz9 hLz hNz hVz hE10 hsz10 hAz hgrn hfs i88 i88l;generalize S.getD 0 false=b0 at *;go_wp2_with (fail);go_roundw
     case rel=>exact ⟨j+1,by omega,by go_num,hEn,hszn,hLn,hNn,hVn,hAn⟩
     case measure=>simp [intOf];omega
    ·obtain rfl:nl=j:=by omega
     have k0:=HK0.out w9 hE;have hj0:=Afl HV.out.parts;rw [HNL.out] at HEX;obtain ⟨t,ht⟩:∃ t:Tbl,(⟨Aj x.cls,(Dk x.cls).length,N',Dd (fun q=>(l.getD q []).getD 0 false) nl nl⟩:Tbl)=t:=⟨_,rfl⟩;rw [ht] at HEX;have hrep:∀ b,b<256→Aj x.cls ((Dk x.cls).getD (Aj x.cls b) 0)=Aj x.cls b:=fun b hb=>(HBB.out _ (by rw [← HMM.out];exact cell_lt HV.out.parts hb)).2
     have hstep:∀ (S:List Bool) b,b<256→rnx x S ((Dk x.cls).getD (Aj x.cls b) 0)=rnx x S b:=fun S b hb=>by unfold rnx Dfa.stp;rw [hrep b hb]
     have HHas:=Lib.hid (Aa0 HV.out (by rw [HNN.out];exact hx64) HEX.out hj0 hrep);have hReach:=Ag7 HEX.out hj0 hstep;have hTV:=Expl.tval HEX.out hj0;have HNM:=Lib.hid (I4 l (Ag8 HEX.out hj0 hstep) (by rw [HNL.out];exact hlm));have htl:t.nxt.length=nl:=by rw [HEX.out.len,HNL.out]
     have hlN:N'.length=nl:=by rw [HI.out.1.lenN,HNL.out]
     have hRows:Rows w9 u9 t.nxt:=by
      rw [← ht];exact hV.rows hNx (by rw [hlN];omega) (fun j hj=>by rw [HI.out.1.rows j (by rw [HNL.out,← hlN];exact hj),HBL.out];omega)
     have hBools:Bools w9 (.slice (some ⟨ga,0,none⟩) nl nl) t.acc:=by
      rw [← ht];exact OwnB.bools (base:=w5.heap.size+1) (l:=Dd (fun q=>(l.getD q []).getD 0 false) nl nl) (by
       show World.ownsRow _ _ _ _ _ _ _;rw [Hu];exact hA) (by rw [Hu];omega)
     have hCs:Cs w9 (.slice (some ⟨bc,oc,none⟩) m cc2) x.cls:=by rw [← HMM.out];exact HC.out w9 hE
     have f58:=Lib.hid (Ad7 t hTV (by rw [htl];omega) hReach x.cls HV.out.parts (by rw [← ht];show (Dk x.cls).length=_;rw [HBL.out,HMM.out]) (fun b _=>by rw [← ht]) _ _ _ w9 (HTa.out w9 (hE3.trans hE)) (by omega) hCs hRows hBools);have HLC:=Lib.hid (fun (r:Option Dfa) (h:J4 (fun u=>t.has u=true) r)=>T4 (M:=fun u=>d.has u.reverse=true) h fun u=>by rw [HHas.out,HHA.out]);have HB1x:=Lib.hid (hE.heap HB1.out);have HEf:=Lib.hid (hE3.trans hE);clear hReach hTV htl hlN hRows hBools hCs hL hNx hV hA hE hstep hrep ht HEX;go_wp2_with (first
      | (go_at_call 58;(with_reducible refine f58.out.mono ?_);rintro e w10 ⟨r,hres,hlim,hE10⟩;obtain ⟨ac3,lc3,cc3,an3,ln3,cn3,aa3,la3,ca3,k3,rfl⟩:=hres.form;have HRes:=Lib.hid hres;have HLim:=Lib.hid (HLC.out r hlim);clear hres hlim;have HB1y:=Lib.hid (hE10.heap HB1x.out))
      | (refine wpList_store_row rfl 30 (.tmp 2) (.tmp 127) rfl _ _ rfl rfl _ _ HB1y.out Ad rfl (An _ _ _ rfl rfl rfl) ?_))
     refine bodyPost_ret (v:=.tuple #[.agg (dA (.slice ac3 lc3 cc3) (.slice an3 ln3 cn3) (.slice aa3 la3 ca3)),.int .i64 k3]) (A2 rfl _ _ _ _ _ _ _ rfl _ rfl (setRow_heap w10 _ _ (dA (.slice ac3 lc3 cc3) (.slice an3 ln3 cn3) (.slice aa3 la3 ca3)) 30 (0,0) HB1y.out) Tryz.underlying30 rfl Ad) rfl ?_;exact ⟨r,HRes.out.setRow (fun d' h=>by subst h;exact HLim.out.1.val) HB1y.out _,⟨x,HCA.out,HHA.out,fun hm=>absurd hm HNM.out,fun _=>HLim.out⟩,(HEf.out.trans hE10).setRow (by omega) _⟩
end Go.Proofs.YtaiogolidlamiaaGreatDoor
