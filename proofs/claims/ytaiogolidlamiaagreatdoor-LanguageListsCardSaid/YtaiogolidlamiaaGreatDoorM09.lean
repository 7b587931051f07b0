import Derived.Test.YtaiogolidlamiaaGreatDoorM08
import Derived.Test.YtaiogolidlamiaaGreatDoorM05
import Derived.Test.YtaiogolidlamiaaGreatDoorM06
import Derived.Deep.RegionHeldLaw
import Derived.Maps.OwnSet
import Derived.WideKeyPair
import Derived.DeepKeys4
set_option linter.unusedVariables false
set_option linter.unusedSimpArgs false
namespace Go.Proofs.YtaiogolidlamiaaGreatDoor
set_option maxRecDepth 100000
open Go.RowKit Go.Shelf
theorem Ag1 (n:Int) (a:Option Addr) (l c:Nat) (a':Option Addr) (l' c':Nat):Tryz.prog.built 108 [(1,.int .i64 n),(2,.slice a l c),(3,.slice a' l' c')]=some ((List.replicate 256 (Value.int .i64 0)++[Value.int .i64 n,Value.slice a l c,Value.slice a' l' c']).toArray):=by kernel_rfl
theorem Wx (n:Nat) (vn va:Value):Ai (fun _=>0) n vn va=(List.replicate 256 (Value.int .i64 0)++[iv n,vn,va]).toArray:=by
 unfold Ai Dk;simp [List.map_const']
theorem By.split {W:World} {v:Value} {l:List UInt8} (h:By W v l):∃ a b off cap,v=.slice a l.length cap∧(0<l.length→a=some ⟨b,off,none⟩)∧∀ i,i<l.length→W.cell? ⟨b,off+i,none⟩=some (bv (l.getD i 0)):=by
 obtain ⟨h0,⟨hn,a,cap,rfl⟩|⟨hn,b,off,cap,rfl,hb,hc⟩⟩:=h
 ·exact ⟨a,0,0,cap,by rw [hn],by omega,by omega⟩
 ·exact ⟨_,b,off,cap,rfl,fun _=>rfl,fun i hi=>hc i (by omega)⟩
theorem Wz (c:Nat→Nat) (n:Nat) (a:Option Addr) (l cp:Nat) (a':Option Addr) (l' cp':Nat) (i:Nat) (x:Int):(Ai c n (.slice a l cp) (.slice a' l' cp'))[i]?≠some (.int .u8 x):=by
 intro h;have:=Array.mem_of_getElem? h;simp only [Ai,Dk,List.mem_toArray,List.mem_append,List.mem_map,List.mem_cons,List.not_mem_nil,or_false] at this;rcases this with ⟨b,_,hb⟩|hb|hb|hb<;>simp at hb
theorem Ul (w:World) (g:Nat) (cs:Array Value) (p:Addr) (h:p.block≠g):(w.setRow g cs).cell? p=w.cell? p:=World.cell?_of_block (setRow_other w g p.block cs h)
theorem Cd {P:Program} {ops:Array Oper} {rest:List Oper} {o:Oper} {a:Act} {w:World} {Q:Exit→Act→World→Prop} (hg:o.guard=none) (t:TypeId) (parts:Array (Nat × Operand)) (ho:o.op=.build t parts)
  (A:Array Value) (hb:P.built t (parts.map fun (i,x)=>(i,a.eval x)).toList=some A) (h:wpList P ops Q rest (a.put o.dst (.agg A)) w):wpList P ops Q (o::rest) a w:=
 wpList_build hg t parts ho (by rw [hb];rfl) (by rw [hb];exact h)
theorem Cj:Tryz.zeroCells108.size=259:=by kernel_rfl
set_option maxHeartbeats 1000000 in
theorem L2 (d:Dfa) (hv:Val d) (v:Value) (w:World) (hT:Tab w) (hsz:0<w.heap.size) (h:IsD w v d) :
  Calls Tryz.prog 68 #[v] w fun e w'=>∃ A,e=.returned (.agg A)∧(∀ W,IsD W v d→IsT W A (Ae d))∧Ext w w':=by
 obtain ⟨vc,vn,va,rfl,hC,hN,hA⟩:=h;obtain ⟨bc,oc,cc,rfl,hc⟩:=Sl.form hC (by obtain ⟨c,hc,_⟩:=hv.parts.cov 0 (by omega);exact List.length_pos_of_mem hc);obtain ⟨an,ln,cn,rfl⟩:∃ a n c,vn=.slice a n c:=by obtain ⟨vs,_,hs,_⟩:=hN;obtain ⟨a,c,rfl⟩:=hs.len;exact ⟨_,_,_,rfl⟩
 obtain ⟨aa,la,ca,rfl⟩:∃ a n c,va=.slice a n c:=by obtain ⟨a,c,rfl⟩:=Sl.len hA;exact ⟨_,_,_,rfl⟩
 have hmb:d.cls.length≤4611686018427387904:=hC.1;have HN:=Lib.hid hN;have HA:=Lib.hid hA;have HC:=Lib.hid hc;clear hN hA hc hC;have hB:Hid (Tryz.prog.built 108 [(1,.int .i64 (d.cls.length:Int)),(2,.slice an ln cn),(3,.slice aa la ca)]=some (Ai (fun _=>0) d.cls.length (.slice an ln cn) (.slice aa la ca))):=Lib.hid (by rw [Ag1,Wx]);go_enter Tryz.func68,Tryz.ntmps68;go_upto_region 1 with (fail)
 have hE2:=((Ext.refl w).alloc (.cells #[.slice (some ⟨bc,oc,none⟩) d.cls.length cc,.slice an ln cn,.slice aa la ca] 30)).alloc (.cells Tryz.zeroCells108 108);have H0:=Lib.hid (Af (Ab w (.cells #[.slice (some ⟨bc,oc,none⟩) d.cls.length cc,.slice an ln cn,.slice aa la ca] 30)) (.cells Tryz.zeroCells108 108));have H1:=Lib.hid (heap_alloc2_new w (.cells #[.slice (some ⟨bc,oc,none⟩) d.cls.length cc,.slice an ln cn,.slice aa la ca] 30) (.cells Tryz.zeroCells108 108));obtain ⟨w2,hw2⟩:∃ W,(w.alloc (.cells #[.slice (some ⟨bc,oc,none⟩) d.cls.length cc,.slice an ln cn,.slice aa la ca] 30)).alloc (.cells Tryz.zeroCells108 108)=W:=⟨_,rfl⟩;simp only [hw2] at *;clear hw2;have c0:w2.cell? ⟨w.heap.size,0,none⟩=some (.slice (some ⟨bc,oc,none⟩) d.cls.length cc):=(cell_of_row w2 _ 0 _ _ _ H0.out).trans rfl;have c1:w2.cell? ⟨w.heap.size,1,none⟩=some (.slice an ln cn):=(cell_of_row w2 _ 1 _ _ _ H0.out).trans rfl;have c2:w2.cell? ⟨w.heap.size,2,none⟩=some (.slice aa la ca):=(cell_of_row w2 _ 2 _ _ _ H0.out).trans rfl;obtain ⟨A0,hA0⟩:∃ A,Ai (fun _=>0) d.cls.length (.slice an ln cn) (.slice aa la ca)=A:=⟨_,rfl⟩;have hsz0:A0.size=259:=by rw [← hA0,Dr]
 have hone0:A0.all (·.oneCell')=true:=by rw [← hA0];exact Fr _ _ _ _ rfl rfl
 rw [hA0] at hB;have HA0:=Lib.hid hA0;have HS:=Lib.hid (show Tryz.zeroCells108.size=A0.size by rw [Cj,hsz0]);clear hA0;go_upto_region 2 with (first
  | (refine Cd rfl 108 _ rfl A0 ?_ ?_;(simp [Act.eval];with_reducible exact hB.out))
  | (refine wpList_store_row rfl 108 (.tmp 3) (.tmp 15) rfl w2.heap.size A0 rfl rfl _ _ (Ab w2 (.cells Tryz.zeroCells108 108)) (by rw [hsz0];exact Bw) HS.out hone0 ?_))
 have hs2:=hE2.size;have hE3:Ext w ((w2.alloc (.cells Tryz.zeroCells108 108)).setRow w2.heap.size A0):=(hE2.alloc _).setRow hs2 _;have H3:=setRow_heap (w2.alloc (.cells Tryz.zeroCells108 108)) _ _ A0 108 (0,0) (Ab w2 (.cells Tryz.zeroCells108 108));have H0':=Bq (Af H0.out (.cells Tryz.zeroCells108 108)) (g:=w2.heap.size) (by have:=Al H0.out;omega) A0;have hlt1:=Al H1.out;have HR0:=Bq (Af H1.out (.cells Tryz.zeroCells108 108)) (g:=w2.heap.size) (by omega) A0;obtain ⟨w3,hw3⟩:∃ W,(w2.alloc (.cells Tryz.zeroCells108 108)).setRow w2.heap.size A0=W:=⟨_,rfl⟩;simp only [hw3] at *;clear hw3;have c0:w3.cell? ⟨w.heap.size,0,none⟩=some (.slice (some ⟨bc,oc,none⟩) d.cls.length cc):=(cell_of_row w3 _ 0 _ _ _ H0').trans rfl;rw [← HA0.out] at H3;have H3:=Lib.hid H3;have HR0:=Lib.hid HR0;clear c1 c2 H0' HS hsz0 hone0 H0 H1;generalize w2.heap.size=B at *;go_wp2_with (fail);clear c0;go_loopw [19] (fun i W=>∃ k:Nat,k≤d.cls.length∧i=.int .i64 k∧Ext w W∧W.heap[B]? = some (.cells (Ai (fun b=>if Aj d.cls b<k then Aj d.cls b else 0) d.cls.length (.slice an ln cn) (.slice aa la ca)) 108 (0,0))∧W.heap[w.heap.size+1]? = some (.cells Tryz.zeroCells108 108 (0,0)))
  (fun i _=>d.cls.length-(intOf i).toNat)
 case atStart=>
  refine ⟨0,by omega,rfl,hE3,?_,HR0.out⟩;rw [H3.out,Fs (c:=fun b=>if Aj d.cls b<0 then Aj d.cls b else 0) (c':=fun _=>0) (fun b _=>by simp)]
 case round=>
  obtain ⟨k,hk,rfl,hE,hBk,hRk⟩:=hrel;have HB:=Lib.hid hBk;have HR:=Lib.hid hRk;clear hBk hRk;by_cases hlt:k<d.cls.length
  ·obtain ⟨a0,a1,a2,a3⟩:=Hj (W:=wr) (fun i hi=>hE.cell (HC.out i hi)) k hlt;have HK:=Lib.hid (fun b hb=>Eq hv.parts (b:=b) hb hlt);have HK':=Lib.hid (fun b hb=>E6 hv.parts (b:=b) hb);obtain ⟨c,hcd⟩:∃ c,d.cls.getD k 0#256=c:=⟨_,rfl⟩;rw [hcd] at a0 a1 a2 a3;have HCD:=Lib.hid hcd;have HMem:Hid (∀ b,b<256→(UInt8.ofNat b∈Ak c 256↔Aj d.cls b=k)):=Lib.hid fun b hb=>by
    rw [Kg,u8n b hb,← HCD.out];exact ⟨HK.out b hb,fun e=>by rw [← e];exact HK'.out b hb⟩
   clear hcd HCD HK HK';have hT':=hT.below hE.below hsz;have hs':0<wr.heap.size:=Nat.lt_of_lt_of_le hsz hE.size;have HLen:=Lib.hid (Oo c 256);have hBlt:=Al HB.out;go_upto_region 5 with (fail)
   obtain ⟨wi,hwi⟩:∃ W,wr.alloc (.cells (Aa c) 62)=W:=⟨_,rfl⟩;simp only [hwi];have hEi:Ext wr wi:=hwi▸(Ext.refl wr).alloc _;have H5:=Lib.hid (show wi.heap[wr.heap.size]? = some (.cells (Aa c) 62 (0,0)) from hwi▸Ab wr _);clear hwi a0 a1 a2 a3;have f109:=Lib.hid (Agq c wi (hT'.below hEi.below hs') (Nat.lt_of_lt_of_le hs' hEi.size));generalize Ak c 256=l at *;go_wp2_with (first
    | (refine wpList_load_row rfl 62 (.tmp 5) rfl _ rfl _ _ _ _ H5.out Tryz.underlying62 rfl A3 ?_)
    | (go_at_call 109;with_reducible refine f109.out.mono ?_;rintro e w5 ⟨vb,rfl,hBy,hE5⟩;obtain ⟨ab,bb,ob,cb,hvb,hab,hcb⟩:=hBy.split;rw [hvb]))
   clear f109 H5 hBy hvb;have hEw:=(hE.trans hEi).trans hE5;have HB5:=Lib.hid (hE5.heap (hEi.heap HB.out));have HR5:=Lib.hid (hE5.heap (hEi.heap HR.out));have HCB:=Lib.hid hcb;have HAB:=Lib.hid hab;have hne:Hid (0<l.length→bb≠B):=Lib.hid fun h0 e=>by
    have h1:=hcb 0 h0;rw [e,cell_of_row w5 B _ _ _ _ HB5.out] at h1;exact Wz _ _ _ _ _ _ _ _ _ _ h1
   clear hcb hab;go_loopw [27] (fun i W=>∃ j:Nat,j≤l.length∧i=.int .i64 j∧Ext w W∧Hid (∀ i,i<l.length→W.cell? ⟨bb,ob+i,none⟩=some (bv (l.getD i 0)))∧
     W.heap[B]? = some (.cells (Ai (fun b=>if UInt8.ofNat b∈l.take j then k else if Aj d.cls b<k then Aj d.cls b else 0) d.cls.length (.slice an ln cn) (.slice aa la ca)) 108 (0,0))∧W.heap[w.heap.size+1]? = some (.cells Tryz.zeroCells108 108 (0,0)))
    (fun i _=>l.length-(intOf i).toNat)
   case atStart=>exact ⟨0,by omega,rfl,hEw,HCB,by simpa using HB5.out,HR5.out⟩
   case round=>
    obtain ⟨j,hj,rfl,hEj,hcj,hBj,hRj⟩:=hrel;have HBj:=Lib.hid hBj;have HRj:=Lib.hid hRj;clear hBj hRj;by_cases hlt2:j<l.length
    ·have e:=HAB.out (by omega);subst e;have cj:=hcj.out j hlt2;have hls:=HLen.out;have HTk:=Lib.hid (List.take_succ_eq_append_getElem hlt2);have HGe:Hid (l.getD j 0=l[j]):=Lib.hid (by rw [List.getD_eq_getElem?_getD,List.getElem?_eq_getElem hlt2];rfl);obtain ⟨x,hxd⟩:∃ x,l.getD j 0=x:=⟨_,rfl⟩;rw [hxd] at cj HGe;clear hxd;have hx:=x.toNat_lt;have hcc:=(cell_of_row wr B x.toNat _ _ _ HBj.out).trans (L1 _ _ _ _ x.toNat hx);have hfr:=frozen_of_row wr B x.toNat _ _ HBj.out;generalize (if UInt8.ofNat x.toNat∈l.take j then k else if Aj d.cls x.toNat<k then Aj d.cls x.toNat else 0)=old at *;go_wp2;go_roundw
     case rel=>
      rw [setCell_eq_setRow wr _ _ _ _ _ _ HBj.out,Pq _ _ _ _ _ _ hx];refine ⟨j+1,by omega,by go_num,hEj.setRow hs2 _,Lib.hid fun i hi=>?_,?_,Bq HRj.out (by omega) _⟩
      ·rw [Ul _ _ _ _ (hne.out (by omega))];exact hcj.out i hi
      ·have hq:=Fs (c:=fun b=>if UInt8.ofNat b∈l.take (j+1) then k else if Aj d.cls b<k then Aj d.cls b else 0) (c':=fun y=>if y=x.toNat then k else if UInt8.ofNat y∈l.take j then k else if Aj d.cls y<k then Aj d.cls y else 0) (fun b hb=>by
        rw [HTk.out,← HGe.out];have hbx:UInt8.ofNat b=x↔b=x.toNat:=by rw [← UInt8.toNat_inj,u8n b hb]
        simp only [List.mem_append,List.mem_singleton,hbx];by_cases h1:b=x.toNat<;>by_cases h2:UInt8.ofNat b∈l.take j<;>simp [h1,h2]) d.cls.length (.slice an ln cn) (.slice aa la ca)
       rw [hq];exact setRow_heap wr _ _ _ _ _ HBj.out
     case measure=>simp [intOf];omega
    ·obtain rfl:j=l.length:=by omega
     rw [List.take_length] at HBj;have HBk:=HBj.out;rw [Fs (c':=fun b=>if Aj d.cls b<k+1 then Aj d.cls b else 0) (fun b hb=>by
      by_cases h1:UInt8.ofNat b∈l
      ·have:=(HMem.out b hb).1 h1;simp [h1,this]
      ·have:Aj d.cls b≠k:=fun e=>h1 ((HMem.out b hb).2 e)
       have h2:Aj d.cls b<k+1↔Aj d.cls b<k:=by omega
       simp [h1,h2])] at HBk
     have HBk:=Lib.hid HBk;clear HBj HMem HCB hcj HAB hne;go_wp2;go_roundw
     case rel=>exact ⟨k+1,by omega,by go_num,hEj,HBk.out,HRj.out⟩
     case measure=>simp [intOf];omega
  ·obtain rfl:k=d.cls.length:=by omega
   have HBk:=HB.out;rw [Fs (c':=Aj d.cls) (fun b hb=>by rw [if_pos (cell_lt hv.parts hb)])] at HBk;obtain ⟨A,hA⟩:∃ A,Ai (Aj d.cls) d.cls.length (.slice an ln cn) (.slice aa la ca)=A:=⟨_,rfl⟩;have hAs:A.size=259:=by rw [← hA,Dr]
   have hAo:A.all (·.oneCell')=true:=by rw [← hA];exact Fr _ _ _ _ rfl rfl
   rw [hA] at HBk;have HBk:=Lib.hid HBk;have HA':=Lib.hid hA;have HS:=Lib.hid (show Tryz.zeroCells108.size=A.size by rw [Cj,hAs]);clear hA HB;go_wp2_with (first
    | (refine wpList_load_row rfl 108 (.tmp 3) rfl _ rfl _ _ _ _ HBk.out Tryz.underlying108 rfl (by rw [hAs];exact Bw) ?_)
    | (refine wpList_store_row rfl 108 (.tmp 2) (.tmp 37) rfl _ A rfl rfl _ _ HR.out (by rw [hAs];exact Bw) HS.out hAo ?_))
   refine bodyPost_ret (v:=.agg A) (results_cell_row rfl _ _ _ _ _ _ _ rfl (setRow_heap wr _ _ A 108 (0,0) HR.out) Tryz.underlying108 rfl (by rw [hAs];exact Bw)) rfl ?_;have hEf:=hE.setRow (g:=w.heap.size+1) (by omega) A;exact ⟨A,rfl,fun W hW=>by
    obtain ⟨vc',vn',va',he,_,hn',ha'⟩:=hW;injection he with he
    injection he with he
    injection he with e0 he
    injection he with e1 he
    injection he with e2 he
    subst e1;subst e2
    exact ⟨_,_,HA'.out.symm,hn',ha'⟩,hEf⟩
theorem Hz (d:Dfa) (hv:Val d) (v:Value) (w0 w:World) (hw:Ext w0 w) (hT:Tab w) (hsz:0<w.heap.size) (h:IsD w0 v d) :
  Calls Tryz.prog 68 #[v] w fun e w'=>∃ A,e=.returned (.agg A)∧IsT w0 A (Ae d)∧Ext w w':=
 (L2 d hv v w hT hsz (h.ext hw)).mono fun _ _ ⟨A,he,hA,hE⟩=>⟨A,he,hA w0 h,hE⟩
theorem Gk (d:Dfa) (hv:Val d) (v:Value) (w:World) (hT:Tab w) (hsz:0<w.heap.size) (h:IsD w v d) :
  Calls Tryz.prog 68 #[v] w fun e w'=>∃ A,e=.returned (.agg A)∧IsT w' A (Ae d)∧Ext w w':=
 (Hz d hv v w w (Ext.refl w) hT hsz h).mono fun _ _ ⟨A,he,hA,hE⟩=>⟨A,he,hA.ext hE,hE⟩
def uTo (p:Cls→Bool) (L:List Cls) (i:Nat):Cls:=(L.take i).foldl (fun d c=>if p c then d ||| c else d) 0#256
theorem Wp (p:Cls→Bool) (L:List Cls):uTo p L 0=0#256:=rfl
theorem Wq (p:Cls→Bool) (L:List Cls) (i:Nat) (h:i<L.length):uTo p L (i+1)=if p (L.getD i 0#256) then uTo p L i ||| L.getD i 0#256 else uTo p L i:=by
 unfold uTo;rw [List.take_succ_eq_append_getElem h,List.foldl_append];simp [List.getD_eq_getElem?_getD,h]
theorem Tf (p:Cls→Bool) (b:Nat):∀ (L:List Cls) (d:Cls),(L.foldl (fun d c=>if p c then d ||| c else d) d).getLsbD b=(d.getLsbD b||L.any fun c=>p c&&c.getLsbD b)
 | [],d=>by simp
 | c::L,d=>by
  rw [List.foldl_cons,Tf p b L,List.any_cons];cases hp:p c
  ·simp
  ·rw [if_pos rfl,BitVec.getLsbD_or];simp [Bool.or_assoc]
theorem Pn (p:Cls→Bool) (L:List Cls) (i b:Nat):(uTo p L i).getLsbD b=(L.take i).any fun c=>p c&&c.getLsbD b:=by
 unfold uTo;rw [Tf];simp
theorem Aab {l L:List Cls} (h:IsCells l L) (i:Nat) (hi:i<L.length):uTo (fun _=>true) L i &&& L.getD i 0#256=0#256:=by
 apply BitVec.eq_of_getLsbD_eq;intro b hb;rw [BitVec.getLsbD_and,Pn,BitVec.getLsbD_zero,← Bool.not_eq_true];intro hh;rw [Bool.and_eq_true,List.any_eq_true] at hh;obtain ⟨⟨c,hc,hcb⟩,hd⟩:=hh;rw [Bool.true_and] at hcb;obtain ⟨j,hj,rfl⟩:=List.mem_iff_getElem.1 hc;rw [List.length_take] at hj;rw [List.getElem_take] at hcb;rw [List.getD_eq_getElem?_getD,List.getElem?_eq_getElem hi] at hd;exact (List.pairwise_iff_getElem.1 h.dis j i (by omega) hi (by omega)) b ⟨hcb,hd⟩
theorem Aac {l L:List Cls} (h:IsCells l L):uTo (fun _=>true) L L.length=allC:=by
 apply BitVec.eq_of_getLsbD_eq;intro b hb;rw [Pn,List.take_length];have h1:allC.getLsbD b=true:=by unfold allC;rw [BitVec.getLsbD_not,BitVec.getLsbD_zero];simp [hb]
 rw [h1,List.any_eq_true];obtain ⟨c,hc,hcb⟩:=h.cover b hb;exact ⟨c,hc,by simp [hcb]⟩
theorem Kx (x:Cls) (m:Bool) (h:(x==0#256)=m) (W:World):(Op.equalIn 10000 62 (.agg (Aa x)) (.agg zA)).run Tryz.prog W=.ok m W:=by
 have:=Me x 0#256 W;rw [Fh,h] at this;exact this
theorem Parts.pos {L:List Cls} (h:Parts L):0<L.length:=by
 obtain ⟨c,hc,_⟩:=h.cov 0 (by omega);exact List.length_pos_of_mem hc
theorem Parts.le {L:List Cls} (h:Parts L):L.length≤256:=by
 have:=Gv (fun b=>Aj L b) 256 L.length fun j hj=>by
  obtain ⟨b,hb,e⟩:=Hk h hj;exact ⟨b,hb,e⟩
 exact this
theorem Abi : ~~~allC=0#256:=by decide
set_option maxHeartbeats 2000000 in
theorem Dq (d:Dfa) (hv:Val d) (hn:d.nxt.length≤64) (v:Value) (w:World) (h:IsD w v d) :
  Calls Tryz.prog 47 #[v] w fun e w'=>e=.returned (.bool true)∧Ext w w':=by
 obtain ⟨vc,vn,va,rfl,hC,⟨vs,hvs,hN,hrows⟩,hA⟩:=h;have hm0:=hv.parts.pos;have hm1:=hv.parts.le;have hn0:=hv.pos;obtain ⟨bc,oc,cc,rfl,hc⟩:=Sl.form hC hm0;obtain ⟨bn,on,cn,rfl,hnc⟩:=Sl.form hN hn0;obtain ⟨aa,ca,rfl⟩:=Sl.len hA;rw [hv.accL];have HC:=Lib.hid hc;have HNC:=Lib.hid hnc;have HRow:=Lib.hid (fun s (hs:s<d.nxt.length)=>by
  obtain ⟨b,off,cap,hv1,hc1⟩:=Sl.form (hrows s hs) (by rw [hv.row s hs];exact hm0);exact (⟨b,off,cap,by rw [← hv.row s hs];exact hv1,fun k hk=>by rw [hc1 k (by rw [hv.row s hs];omega)];rfl⟩:∃ b off cap,vs.getD s undef=.slice (some ⟨b,off,none⟩) d.cls.length cap∧∀ k,k<d.cls.length→w.cell? ⟨b,off+k,none⟩=some (iv (d.ent2 s k))))
 have HTgt:=Lib.hid hv.tgt;have HP:=Lib.hid hv.parts;clear hc hnc hN hA hC hrows hvs hv;have d1:decide ((d.nxt.length:Int)<1)=false:=by simp;omega
 have d2:decide ((64:Int)<(d.nxt.length:Int))=false:=by simp;omega
 have dn:((d.nxt.length:Int) != (d.nxt.length:Int))=false:=by simp
 have d3:decide ((d.cls.length:Int)<1)=false:=by simp;omega
 have d4:decide ((256:Int)<(d.cls.length:Int))=false:=by simp;omega
 have hE0:=(Ext.refl w).alloc (.cells #[.slice (some ⟨bc,oc,none⟩) d.cls.length cc,.slice (some ⟨bn,on,none⟩) d.nxt.length cn,.slice aa d.nxt.length ca] 30);have H0:=Ab w (.cells #[.slice (some ⟨bc,oc,none⟩) d.cls.length cc,.slice (some ⟨bn,on,none⟩) d.nxt.length cn,.slice aa d.nxt.length ca] 30);go_enter Tryz.func47,Tryz.ntmps47;go_upto_region 1 with (fail)
 obtain ⟨w1,hw1⟩:∃ W,w.alloc (.cells #[.slice (some ⟨bc,oc,none⟩) d.cls.length cc,.slice (some ⟨bn,on,none⟩) d.nxt.length cn,.slice aa d.nxt.length ca] 30)=W:=⟨_,rfl⟩;simp only [hw1] at *;clear hw1;have HK:=Lib.hid (fun (W:World) (hW:Ext w1 W)=>(⟨(cell_of_row W _ 0 _ _ _ (hW.heap H0)).trans rfl,(cell_of_row W _ 1 _ _ _ (hW.heap H0)).trans rfl,(cell_of_row W _ 2 _ _ _ (hW.heap H0)).trans rfl⟩ :
  W.cell? ⟨w.heap.size,0,none⟩=some (.slice (some ⟨bc,oc,none⟩) d.cls.length cc)∧W.cell? ⟨w.heap.size,1,none⟩=some (.slice (some ⟨bn,on,none⟩) d.nxt.length cn)∧W.cell? ⟨w.heap.size,2,none⟩=some (.slice aa d.nxt.length ca)))
 clear H0;obtain ⟨k0,k1,k2⟩:=HK.out w1 (Ext.refl w1);go_upto_region 4 with (fail)
 clear k0 k1 k2;go_upto_region 5 with (fail)
 have hE1:=(Ext.refl w1).alloc (.cells zA 62);have HS0:=Lib.hid (Ab w1 (.cells zA 62));obtain ⟨w2,hw2⟩:∃ W,w1.alloc (.cells zA 62)=W:=⟨_,rfl⟩;simp only [hw2] at *;clear hw2;obtain ⟨k0,k1,k2⟩:=HK.out w2 hE1;go_wp2_with (fail);clear k0 k1 k2 d1 d2 d3 d4;go_loopw [42] (fun i W=>∃ k:Nat,k≤d.cls.length∧i=.int .i64 k∧Ext w1 W∧W.heap[w1.heap.size]? = some (.cells (Aa (uTo (fun _=>true) d.cls k)) 62 (0,0)))
  (fun i _=>d.cls.length-(intOf i).toNat)
 case atStart=>exact ⟨0,by omega,rfl,hE1,by rw [Wp,Fh];exact HS0.out⟩
 case round=>
  obtain ⟨k,hk,rfl,hE,hBk⟩:=hrel;have HB:=Lib.hid hBk;clear hBk;by_cases hlt:k<d.cls.length
  ·obtain ⟨a0,a1,a2,a3⟩:=Hj (W:=wr) (fun i hi=>(hE0.trans hE).cell (HC.out i hi)) k hlt;have hdi:=Aab (Ko HP.out) k hlt;have hnz:=HP.out.nz (d.cls.getD k 0#256) (by rw [List.getD_eq_getElem?_getD,List.getElem?_eq_getElem hlt];exact List.getElem_mem hlt);have hus:=Wq (fun _=>true) d.cls k hlt;rw [if_pos rfl] at hus;have HUS:=Lib.hid hus;clear hus;obtain ⟨c,hcd⟩:∃ c,d.cls.getD k 0#256=c:=⟨_,rfl⟩;rw [hcd] at a0 a1 a2 a3 hdi hnz HUS;clear hcd;generalize uTo (fun _=>true) d.cls k=A at *;have f92:=fun W=>Lib.hid (Sq A c W)
   have f93:=fun W=>Lib.hid (Pm A c W)
   have g1:=Kx c false (by simpa using hnz);have g2:=Kx (A &&& c) true (by rw [hdi];rfl);have g3:=Iu;clear hdi hnz;generalize A &&& c=x at *;have hBlt:=Al HB.out;go_upto_region 8 with (fail)
   obtain ⟨wi,hwi⟩:∃ W,wr.alloc (.cells (Aa c) 62)=W:=⟨_,rfl⟩;simp only [hwi];have hEi:Ext wr wi:=hwi▸(Ext.refl wr).alloc _;have H6:=Lib.hid (show wi.heap[wr.heap.size]? = some (.cells (Aa c) 62 (0,0)) from hwi▸Ab wr _);have HB:=Lib.hid (hEi.heap HB.out);clear hwi a0 a1 a2 a3;obtain ⟨x0,x1,x2,x3⟩:=Kw H6.out;obtain ⟨y0,y1,y2,y3⟩:=Kw HB.out;obtain ⟨e0,he0⟩:=Afn wi;rw [he0];clear he0;go_wp2_with (first
    | (go_at_call 92;with_reducible refine (f92 _).out.mono ?_;rintro e w' ⟨rfl,hE'⟩;obtain ⟨e',rfl⟩:=Ts hE')
    | (go_at_call 93;with_reducible refine (f93 _).out.mono ?_;rintro e w' ⟨rfl,hE'⟩;obtain ⟨e',rfl⟩:=Ts hE')
    | (refine wpList_store_row rfl 62 (.tmp 4) (.tmp 58) rfl _ _ rfl rfl _ _ (e'.ext.heap HB.out) A3 rfl (Dl _) ?_))
   go_roundw
   case rel=>exact ⟨k+1,by omega,by go_num,((hE.trans hEi).trans e'.ext).setRow (Nat.le_refl _) _,by rw [HUS.out];exact setRow_heap e'.W _ _ _ _ _ (e'.ext.heap HB.out)⟩
   case measure=>simp [intOf];omega
  ·obtain rfl:k=d.cls.length:=by omega
   rw [Aac (Ko HP.out)] at HB;have f94:=fun W=>Lib.hid (Ru allC W)
   have g1:=Kx (~~~allC) true (by rw [Abi];rfl);have g3:=Iu;generalize ~~~allC=x at *;generalize allC=uA at *;go_wp2_with (first
    | (refine wpList_load_row rfl 62 (.tmp 4) rfl _ rfl _ _ _ _ HB.out Tryz.underlying62 rfl A3 ?_)
    | (go_at_call 94;with_reducible refine (f94 _).out.mono ?_;rintro e w5 ⟨rfl,hE5⟩;obtain ⟨k0,k1,k2⟩:=HK.out w5 (hE.trans hE5)))
   clear k0 k1 k2 f94 g1 g3 HB;have hE6:=hE.trans hE5;go_loopw [67] (fun i W=>∃ s:Nat,s≤d.nxt.length∧i=.int .i64 s∧Ext w1 W) (fun i _=>d.nxt.length-(intOf i).toNat)
   case atStart=>exact ⟨0,by omega,rfl,hE6⟩
   case round=>
    obtain ⟨s,hs,rfl,hEs⟩:=hrel;by_cases hsl:s<d.nxt.length
    ·have cs:=(hE0.trans hEs).cell (HNC.out s (by omega));obtain ⟨br,or',cr,hvr,hcr⟩:=HRow.out s hsl;rw [hvr] at cs;have HCR:=Lib.hid (fun k hk=>(hE0.trans hEs).cell (hcr k hk));have HT:=Lib.hid (HTgt.out s hsl);have dm:((d.cls.length:Int) != (d.cls.length:Int))=false:=by simp
     have ds:decide ((s:Int)<(d.nxt.length:Int))=true:=by simp;omega
     obtain ⟨k0,k1,k2⟩:=HK.out wr hEs;clear hvr hcr;obtain ⟨wo,hwo⟩:∃ W,W=wr:=⟨_,rfl⟩;subst hwo;go_wp2_with (fail);clear k0 k1 k2 cs dm ds;go_loopw [79] (fun i W=>∃ j:Nat,j≤d.cls.length∧i=.int .i64 j∧Ext wo W) (fun i _=>d.cls.length-(intOf i).toNat)
     case atStart=>exact ⟨0,by omega,rfl,Ext.refl wo⟩
     case round=>
      obtain ⟨j,hj,rfl,hEj⟩:=hrel;by_cases hjl:j<d.cls.length
      ·have cj:=hEj.cell (HCR.out j hjl);have ht:=HT.out j hjl;generalize d.ent2 s j=t at *;have e1:decide ((t:Int)<0)=false:=by simp
       have e2:decide ((d.nxt.length:Int)≤(t:Int))=false:=by simp;omega
       go_wp2;go_roundw
       case rel=>exact ⟨j+1,by omega,by go_num,hEj⟩
       case measure=>simp [intOf];omega
      ·obtain rfl:j=d.cls.length:=by omega
       have hEo:=hEs.trans hEj;go_wp2;go_roundw
       case rel=>exact ⟨s+1,by omega,by go_num,hEo⟩
       case measure=>simp [intOf];omega
    ·obtain rfl:s=d.nxt.length:=by omega
     go_wp2;go_ret;exact ⟨rfl,hE0.trans hEs⟩
structure BInv (t:Tbl) (l:List Nat) (k q:Nat):Prop where
 pos:0<l.length
 head:l.getD 0 0=0
 nodup:l.Nodup
 lt:∀ s∈l,s<t.nxt.length
 all:∀ s∈l,∃ w,t.run 0 w=s
 done:∀ j,j<k→∀ c,c<t.cells→t.ent2 (l.getD j 0) c∈l
 cur:∀ c,c<q→t.ent2 (l.getD k 0) c∈l
theorem C0 {α:Type} (l:List α) (k:Nat) (d:α) (h:k<l.length):l.getD k d∈l:=by
 rw [List.getD_eq_getElem?_getD,List.getElem?_eq_getElem h];exact List.getElem_mem h
theorem Aha {t:Tbl} (hv:TVal t):BInv t [0] 0 0 where
 pos:=by simp
 head:=rfl
 nodup:=by simp
 lt:=fun s hs=>by rw [List.mem_singleton] at hs;subst hs;exact hv.pos
 all:=fun s hs=>by rw [List.mem_singleton] at hs;subst hs;exact ⟨[],rfl⟩
 done:=fun j hj=>by omega
 cur:=fun c hc=>by omega
theorem Ahb {t:Tbl} {l:List Nat} {k q:Nat} (h:BInv t l k q) (hm:t.ent2 (l.getD k 0) q∈l):BInv t l k (q+1):=
 ⟨h.pos,h.head,h.nodup,h.lt,h.all,h.done,fun c hc=>by
  by_cases e:c=q
  ·subst e;exact hm
  ·exact h.cur c (by omega)⟩
theorem Ahd {t:Tbl} (hv:TVal t) {l:List Nat} {k q:Nat} (h:BInv t l k q) (hk:k<l.length) (hq:q<t.cells) (hm:t.ent2 (l.getD k 0) q∉l):BInv t (l++[t.ent2 (l.getD k 0) q]) k (q+1):=by
 have hs:=C0 l k 0 hk;have hg:∀ j,j<l.length→(l++[t.ent2 (l.getD k 0) q]).getD j 0=l.getD j 0:=fun j hj=>Bk _ _ _ _ hj
 refine ⟨by simp,by rw [hg 0 h.pos];exact h.head,?_,fun s hs'=>?_,fun s hs'=>?_,fun j hj c hc=>?_,fun c hc=>?_⟩
 ·rw [List.nodup_append];exact ⟨h.nodup,by simp,fun a ha b hb=>by rw [List.mem_singleton] at hb;subst hb;rintro rfl;exact hm ha⟩
 ·rw [List.mem_append,List.mem_singleton] at hs';rcases hs' with hs'|rfl
  ·exact h.lt s hs'
  ·exact hv.tgt _ (h.lt _ hs) q hq
 ·rw [List.mem_append,List.mem_singleton] at hs';rcases hs' with hs'|rfl
  ·exact h.all s hs'
  ·obtain ⟨w,hw⟩:=h.all _ hs;obtain ⟨b,hb,hbq⟩:=hv.onto q hq;refine ⟨w++[UInt8.ofNat b],?_⟩;rw [Eu,hw,u8n b hb];unfold Tbl.stp;rw [hbq]
 ·have hjl:j<l.length:=by omega
  rw [hg j hjl,List.mem_append];exact .inl (h.done j hj c hc)
 ·rw [hg k hk,List.mem_append,List.mem_singleton];by_cases e:c=q
  ·subst e;exact .inr rfl
  ·exact .inl (h.cur c (by omega))
theorem Ahc {t:Tbl} {l:List Nat} {k:Nat} (h:BInv t l k t.cells):BInv t l (k+1) 0:=
 ⟨h.pos,h.head,h.nodup,h.lt,h.all,fun j hj c hc=>by
  by_cases e:j=k
  ·subst e;exact h.cur c hc
  ·exact h.done j (by omega) c hc,fun c hc=>by omega⟩
theorem Ahe {t:Tbl} {l:List Nat} (h:BInv t l l.length 0):Reached t l where
 head:=h.head
 ne:=h.pos
 nodup:=h.nodup
 lt:=h.lt
 closed:=fun s hs k hk=>by
  obtain ⟨j,hj,rfl⟩:=Fz (d:=0) hs;exact h.done j hj k hk
 all:=h.all
theorem BInv.le {t:Tbl} {l:List Nat} {k q:Nat} (h:BInv t l k q):l.length≤t.nxt.length:=by
 have:=C2 l (List.range t.nxt.length) h.nodup fun s hs=>List.mem_range.2 (h.lt s hs)
 simpa using this
def D0 (n:Nat) (l:List Nat):List Bool:=(List.range n).map fun s=>decide (s∈l)
theorem Jr (n:Nat) (l:List Nat):(D0 n l).length=n:=by simp [D0]
theorem Yd (n:Nat) (l:List Nat) (s:Nat) (h:s<n):(D0 n l).getD s false=decide (s∈l):=by
 simp [D0,List.getD_eq_getElem?_getD,h]
theorem Yc (n:Nat):D0 n []=List.replicate n false:=by
 unfold D0;rw [List.eq_replicate_iff];exact ⟨by simp,fun x hx=>by obtain ⟨b,_,rfl⟩:=List.mem_map.1 hx;simp⟩
theorem Qh (n:Nat) (l:List Nat) (s:Nat):(D0 n l).set s true=D0 n (l++[s]):=by
 unfold D0;apply List.ext_getElem?;intro i;rw [List.getElem?_set];by_cases hi:i<n
 ·by_cases e:s=i
  ·subst e;simp [hi]
  ·simp [hi,e,Ne.symm e]
 ·by_cases e:s=i
  ·subst e;simp [hi]
  ·simp [hi,e]
def RowsAt (W:World) (bn on n m:Nat) (f:Nat→Nat→Nat):Prop:=
 ∀ s,s<n→∃ b off cap,W.cell? ⟨bn,on+s,none⟩=some (.slice (some ⟨b,off,none⟩) m cap)∧∀ k,k<m→W.cell? ⟨b,off+k,none⟩=some (iv (f s k))
theorem RowsAt.ext {W W':World} {bn on n m:Nat} {f:Nat→Nat→Nat} (h:RowsAt W bn on n m f) (hE:Ext W W'):RowsAt W' bn on n m f:=fun s hs=>by
 obtain ⟨b,off,cap,h1,h2⟩:=h s hs;exact ⟨b,off,cap,hE.cell h1,fun k hk=>hE.cell (h2 k hk)⟩
theorem Mf {W:World} {v:Value} {N:List (List Nat)} (h:Rows W v N) (m:Nat) (h0:0<N.length) (hm:0<m) (hr:∀ s,s<N.length→(N.getD s []).length=m) :
  ∃ bn on cn,v=.slice (some ⟨bn,on,none⟩) N.length cn∧RowsAt W bn on N.length m (fun s k=>(N.getD s []).getD k 0):=by
 obtain ⟨vs,_,hN,hrows⟩:=h;obtain ⟨bn,on,cn,rfl,hnc⟩:=Sl.form hN h0;refine ⟨bn,on,cn,rfl,fun s hs=>?_⟩;obtain ⟨b,off,cap,hv1,hc1⟩:=Sl.form (hrows s hs) (by rw [hr s hs];exact hm);refine ⟨b,off,cap,?_,fun k hk=>hc1 k (by rw [hr s hs];omega)⟩;rw [hnc s (by omega),hv1,hr s hs]
theorem Lg {W:World} {v:Value} {l:List Bool} (h:Bools W v l) (h0:0<l.length):∃ ba oa ca,v=.slice (some ⟨ba,oa,none⟩) l.length ca∧∀ s,s<l.length→W.cell? ⟨ba,oa+s,none⟩=some (.bool (l.getD s false)):=by
 obtain ⟨b,o,c,rfl,hc⟩:=Sl.form h h0;exact ⟨b,o,c,rfl,fun s hs=>hc s (by omega)⟩
theorem TVal.cpos {t:Tbl} (hv:TVal t):0<t.cells:=by have:=hv.cell_lt 0 (by omega);omega
theorem TVal.cle {t:Tbl} (hv:TVal t):t.cells≤256:=Gv t.cell 256 t.cells hv.onto
theorem IsT.opened {W:World} {A:Array Value} {t:Tbl} (h:IsT W A t) (hv:TVal t):∃ bn on cn ba oa ca,A.size=259∧A.all (·.oneCell')=true∧(∀ b,b<256→A[b]? = some (iv (t.cell b)))∧A[256]? = some (iv t.cells)∧
  A[257]? = some (.slice (some ⟨bn,on,none⟩) t.nxt.length cn)∧A[258]? = some (.slice (some ⟨ba,oa,none⟩) t.nxt.length ca)∧RowsAt W bn on t.nxt.length t.cells t.ent2∧∀ s,s<t.nxt.length→W.cell? ⟨ba,oa+s,none⟩=some (.bool (t.ok s)):=by
 obtain ⟨vn,va,rfl,hN,hA⟩:=h;obtain ⟨bn,on,cn,rfl,hr⟩:=Mf hN t.cells hv.pos hv.cpos hv.row;obtain ⟨ba,oa,ca,rfl,ha⟩:=Lg hA (by rw [hv.accL];exact hv.pos);refine ⟨bn,on,cn,ba,oa,ca,Dr _ _ _ _,Fr _ _ _ _ rfl rfl,fun b hb=>L1 _ _ _ _ b hb,Wy _ _ _ _,Hw _ _ _ _,by rw [Ft,hv.accL],hr,fun s hs=>ha s (by rw [hv.accL];exact hs)⟩
abbrev OwnI (W:World) (base:Nat) (v:Value) (l:List Nat):Prop:=W.ownsRow base 3 1 v l.length (l.map iv)
abbrev OwnB (W:World) (base:Nat) (v:Value) (l:List Bool):Prop:=W.ownsRow base 4 1 v l.length (l.map Value.bool)
theorem An {α:Type} {W:World} {base e g n cap:Nat} {l:List α} {f:α→Value} (d:α) (h:W.ownsRow base e 1 (.slice (some ⟨g,0,none⟩) n cap) n (l.map f)) (hn:n=l.length) (k:Nat) (hk:k<l.length) :
  W.cell? ⟨g,k,none⟩=some (f (l.getD k d)):=by
 subst hn;rw [World.ownsRow.cellAt h k (by omega)];simp [List.getD_eq_getElem?_getD,hk]
theorem Av {α:Type} {W:World} {base e g n cap:Nat} {l:List α} {f:α→Value} (h:W.ownsRow base e 1 (.slice (some ⟨g,0,none⟩) n cap) n (l.map f)) (k:Nat) (x:α) :
  (W.setCell ⟨g,k,none⟩ (f x)).ownsRow base e 1 (.slice (some ⟨g,0,none⟩) n cap) n ((l.set k x).map f)∧W.grownBy (W.setCell ⟨g,k,none⟩ (f x)) (some g):=by
 have:=h.stored k (f x);rw [List.map_set];exact this
theorem OwnI.ints {W:World} {base:Nat} {v:Value} {l:List Nat} (h:OwnI W base v l) (hn:l.length≤4611686018427387904):Ints W v l:=
 (Sl.of_owns h hn (iv 0)).congr fun i hi=>by
  simp only [List.getD_eq_getElem?_getD,List.getElem?_map];cases l[i]?<;>rfl
theorem OwnB.bools {W:World} {base:Nat} {v:Value} {l:List Bool} (h:OwnB W base v l) (hn:l.length≤4611686018427387904):Bools W v l:=
 (Sl.of_owns h hn (.bool false)).congr fun i hi=>by
  simp only [List.getD_eq_getElem?_getD,List.getElem?_map];cases l[i]?<;>rfl
theorem Cv:(Tryz.prog.info? 3).map (fun i=>(i.zero,i.size,i.bytes))=some (some (.int .i64 0),1,8):=by kernel_rfl
theorem Eb:(Tryz.prog.info? 4).map (fun i=>(i.zero,i.size,i.bytes))=some (some (.bool false),1,1):=by kernel_rfl
theorem B6 {α:Type} (f:α→Value) (x:α) (n:Nat):(madeCells #[f x] (n*1)).toList=(List.replicate n x).map f:=by
 rw [Nat.mul_one,toList_madeCells_one,List.map_replicate]
open Go.Maps (Keyed)
def IsMp {κ:Type} (W:World) (k:TypeId) (key:κ→Value) (b n:Nat) (f:κ→Option Nat):Prop:=
 ∃ D:DataW Unit,W.ownsMap Tryz.prog k (plainElem Tryz.prog 3) b n D∧∀ x l,keyOf Tryz.prog k (key x)=some l→Maps.has D l=(f x).isSome∧D.atKey l (.lit (.int .i64 0))=.lit (.int .i64 ((f x).getD 0:Nat))
section
variable {κ:Type} {W:World} {k:TypeId} {key:κ→Value} {b n:Nat} {f:κ→Option Nat}
theorem Iq (W:World) (k:TypeId) (key:κ→Value):IsMp (W.alloc (.map #[] 0)) k key W.heap.size 0 (fun _=>none):=
 ⟨.map [],World.ownsMap_made W _ _ _,fun _ _ _=>⟨rfl,rfl⟩⟩
theorem IsMp.kept {W':World} {row:Option Nat} (h:IsMp W k key b n f) (hg:W.grownBy W' row) (hne:some b≠row):IsMp W' k key b n f:=by
 obtain ⟨D,h1,h2⟩:=h;exact ⟨D,h1.kept hg hne,h2⟩
theorem IsMp.ext {W':World} (h:IsMp W k key b n f) (hE:Ext W W'):IsMp W' k key b n f:=h.kept (hE.grownBy none) (by simp)
theorem IsMp.alloc (h:IsMp W k key b n f) (o:Obj):IsMp (W.alloc o) k key b n f:=by
 obtain ⟨D,h1,h2⟩:=h;exact ⟨D,h1.alloc o,h2⟩
theorem IsMp.lt (h:IsMp W k key b n f):b<W.heap.size:=by
 obtain ⟨D,h1,_⟩:=h;exact h1.lt
theorem IsMp.setCell (h:IsMp W k key b n f) {a:Addr} (ha:b≠a.block) (u:Value):IsMp (W.setCell a u) k key b n f:=by
 obtain ⟨D,h1,h2⟩:=h;exact ⟨D,h1.setCell ha u,h2⟩
theorem IsMp.congr {g:κ→Option Nat} (h:IsMp W k key b n f) (hg:∀ x,f x=g x):IsMp W k key b n g:=by
 obtain ⟨D,h1,h2⟩:=h;exact ⟨D,h1,fun x l hl=>by rw [← hg];exact h2 x l hl⟩
theorem IsMp.ne_row {base e size:Nat} {v:Value} {m:Nat} {xs:List Value} (h:IsMp W k key b n f) (ho:W.ownsRow base e size v m xs):some b≠v.ownBlock:=by
 obtain ⟨_,⟨es,clock,hb,_⟩,_⟩:=h;obtain ⟨hl,⟨rfl,rfl⟩|⟨g,cap,cur,rfl,_,hg,_⟩⟩:=ho
 ·simp [Value.ownBlock]
 ·intro e;simp only [Value.ownBlock,Option.some.injEq] at e;rw [e,hg] at hb;cases hb
theorem Am {W:World} {base e size:Nat} {v:Value} {m:Nat} {xs:List Value} (ho:W.ownsRow base e size v m xs) {g:Nat} (hg:g<base):v.ownBlock=none∨v.ownBlock≠some g:=
 .inr fun e=>by have:=(ho.lt _ e).1;omega
theorem IsMp.far {base e size:Nat} {v:Value} {m:Nat} {xs:List Value} (h:IsMp W k key b n f) (ho:W.ownsRow base e size v m xs):v.ownBlock=none∨v.ownBlock≠some b:=.inr (fun e=>h.ne_row ho e.symm)
theorem Bt {W W':World} {base e size:Nat} {v:Value} {m:Nat} {xs:List Value} (ho:W.ownsRow base e size v m xs) (hg:W.grownBy W' none):W'.ownsRow base e size v m xs:=ho.kept hg (by cases v.ownBlock<;>simp)
theorem Vt (W:World):(zeroValue 3).run Tryz.prog W=.ok (.int .i64 0) W:=by kernel_rfl
end
section
variable {κ:Type} {W:World} {k:TypeId} {key:κ→Value} {b n:Nat} {f:κ→Option Nat} {ops:Array Oper} {rest:List Oper} {o:Oper} {a:Act} {Q:Exit→Act→World→Prop}
theorem Dy (hg:o.guard=none) (m x:Operand) (t:TypeId) (hop:o.op=Op.lookup t m x true) (K:Keyed Tryz.prog k) (ht:Tryz.prog.underlying t=some (.map k 3)) (hm:a.eval m=.map (some b)) (h:IsMp W k key b n f)
  (y:κ) (hx:a.eval x=key y) (hl:∃ l,keyOf Tryz.prog k (key y)=some l) (hK:wpList Tryz.prog ops Q rest (a.put o.dst (.tuple #[iv ((f y).getD 0),.bool (f y).isSome])) W):wpList Tryz.prog ops Q (o::rest) a W:=by
 obtain ⟨D,h1,h2⟩:=h;obtain ⟨l,hl⟩:=hl;obtain ⟨e1,e2⟩:=h2 y l hl;refine wpList_lookup_own_ok_int W hg m x t hop k 3 .i64 K ht Tryz.underlying3 (Vt W) b n D hm h1 (key y) l hx hl ?_;intro c hc _;rw [e2] at hc;rw [e1];injection hc with hc
 injection hc with _ hc
 rw [← hc];exact hK
theorem Ht [DecidableEq κ] (hg:o.guard=none) (m x v:Operand) (t:TypeId) (hop:o.op=Op.mapUpdate t m x v) (K:Keyed Tryz.prog k) (ht:Tryz.prog.underlying t=some (.map k 3)) (hm:a.eval m=.map (some b)) (h:IsMp W k key b n f) (hn:n<maxLen)
  (hinj:∀ y z,key y=key z→y=z) (y:κ) (hx:a.eval x=key y) (hl:∃ l,keyOf Tryz.prog k (key y)=some l) (i:Nat) (hv:a.eval v=iv i) (hi:i<9223372036854775808)
  (hK:∀ W',IsMp W' k key b (n+1) (fun z=>if z=y then some i else f z)→W.grownBy W' (some b)→wpList Tryz.prog ops Q rest (a.put o.dst undef) W'):wpList Tryz.prog ops Q (o::rest) a W:=by
 obtain ⟨D,h1,h2⟩:=h;obtain ⟨l,hl⟩:=hl;have hwf:(Lit.int .i64 (i:Int)).wf=true:=by
  have e1:IntKind.i64.min=-9223372036854775808:=rfl;simp [Lit.wf,IntKind.wrap,IntKind.signed,IntKind.bits,e1];omega
 refine wpList_mapUpdate_own W hg m x v t hop k 3 K ht (plainElem Tryz.prog 3) b n D hm h1 hn (key y) (iv i) l hx hv hl (.lit (.int .i64 i)) [] (plainElem_int Tryz.underlying3 hwf) ?_;intro W' hW hgr;refine hK W' ⟨_,hW,fun z lz hz=>?_⟩ hgr;by_cases e:z=y
 ·subst e;rw [hl] at hz;cases hz
  simp only [if_true];exact ⟨Maps.has_put_same h1.isMap (K.key hl) _,Maps.atKey_put_same h1.isMap (K.key hl) _ _⟩
 ·have hne:lz≠l:=fun e'=>e (hinj _ _ (K.inj hz (e'▸hl)))
  simp only [e,if_false];rw [Maps.has_put_other hne,Maps.atKey_put_other hne];exact h2 z lz hz
end
open Go.RowKit Go.Shelf Go.WideMaps
theorem Ns:laidOutB Tryz.prog=true:=by kernel_rfl
theorem Ahg:ArrKey Tryz.prog 166 3 2:=⟨Tryz.underlying166,by kernel_rfl,by kernel_rfl,by kernel_rfl⟩
theorem X9:∃ m,Tryz.prog.types.size=m+1:=⟨_,(Nat.succ_pred_eq_of_pos (of_decide_eq_true (by kernel_rfl))).symm⟩
theorem Nn:Keyed Tryz.prog 166:=Keyed.of_law (deep_law_laid Ns (m:=2) (by omega) (of_decide_eq_true (by kernel_rfl)) (by kernel_rfl) (by rw [Tryz.underlying166]))
def Gu (x:Nat × Nat):Value:=.agg #[iv x.1,iv x.2]
theorem Aaj (x y:Nat × Nat) (h:Gu x=Gu y):x=y:=by
 simp [Gu] at h;exact Prod.ext (by omega) (by omega)
theorem Hu (i:Nat) (hi:i<9223372036854775808):(Lit.int .i64 (i:Int)).wf=true:=by
 have e1:IntKind.i64.min=-9223372036854775808:=rfl;simp [Lit.wf,IntKind.wrap,IntKind.signed,IntKind.bits,e1];omega
theorem Aai (x:Nat × Nat) (h1:x.1<9223372036854775808) (h2:x.2<9223372036854775808):∃ l,keyOf Tryz.prog 166 (Gu x)=some l:=
 ⟨_,keyOf_pair Ahg Tryz.underlying3 X9 (Hu _ h1) (Hu _ h2)⟩
theorem E1:Keyed Tryz.prog 9:=Go.Maps.string_keyed Tryz.underlying9
structure JInv (a b:Nat→Nat) (x:Nat) (c:Nat→Nat) (bs:List Nat) (f:Nat × Nat→Option Nat):Prop where
 le:bs.length≤x
 lt:∀ y,y<x→c y<bs.length
 byte:∀ k,k<bs.length→bs.getD k 0<x∧c (bs.getD k 0)=k
 same:∀ y z,y<x→z<x→(c y=c z↔a y=a z∧b y=b z)
 has:∀ y,y<x→f (a y,b y)=some (c y)
 from_:∀ p i,f p=some i→∃ y,y<x∧p=(a y,b y)∧i=c y
theorem Ads (a b:Nat→Nat):JInv a b 0 (fun _=>0) [] (fun _=>none) where
 le:=by simp
 lt:=fun y hy=>by omega
 byte:=fun k hk=>by simp at hk
 same:=fun y z hy=>by omega
 has:=fun y hy=>by omega
 from_:=fun p i h=>by simp at h
theorem Adt {a b:Nat→Nat} {x:Nat} {c:Nat→Nat} {bs:List Nat} {f:Nat × Nat→Option Nat} (h:JInv a b x c bs f) (i:Nat) (hi:f (a x,b x)=some i):JInv a b (x+1) (fun y=>if y=x then i else c y) bs f:=by
 obtain ⟨z,hz,hp,rfl⟩:=h.from_ _ _ hi;simp only [Prod.mk.injEq] at hp;refine ⟨by have:=h.le;omega,fun y hy=>?_,fun k hk=>?_,fun y y' hy hy'=>?_,fun y hy=>?_,fun p i hp=>?_⟩
 ·split
  ·exact h.lt z hz
  ·exact h.lt y (by omega)
 ·obtain ⟨h1,h2⟩:=h.byte k hk;rw [if_neg (by omega)];exact ⟨by omega,h2⟩
 ·by_cases e:y=x<;>by_cases e':y'=x
  ·subst e;subst e';simp
  ·subst e;rw [if_pos rfl,if_neg e',h.same z y' hz (by omega),hp.1,hp.2]
  ·subst e';rw [if_neg e,if_pos rfl,h.same y z (by omega) hz,hp.1,hp.2]
  ·rw [if_neg e,if_neg e'];exact h.same y y' (by omega) (by omega)
 ·by_cases e:y=x
  ·subst e;rw [if_pos rfl];exact hi
  ·rw [if_neg e];exact h.has y (by omega)
 ·obtain ⟨y,hy,h1,h2⟩:=h.from_ p i hp;exact ⟨y,by omega,h1,by rw [if_neg (by omega)];exact h2⟩
theorem Adu {a b:Nat→Nat} {x:Nat} {c:Nat→Nat} {bs:List Nat} {f:Nat × Nat→Option Nat} (h:JInv a b x c bs f) (hi:f (a x,b x)=none) :
  JInv a b (x+1) (fun y=>if y=x then bs.length else c y) (bs++[x]) (fun p=>if p=(a x,b x) then some bs.length else f p):=by
 have hno:∀ y,y<x→¬ (a y=a x∧b y=b x):=fun y hy he=>by
  have:=h.has y hy;rw [he.1,he.2,hi] at this;cases this
 have hl:(bs++[x]).length=bs.length+1:=by simp
 refine ⟨by have:=h.le;omega,fun y hy=>?_,fun k hk=>?_,fun y y' hy hy'=>?_,fun y hy=>?_,fun p i hp=>?_⟩
 ·rw [hl];split
  ·omega
  ·have:=h.lt y (by omega);omega
 ·rw [hl] at hk;by_cases e:k=bs.length
  ·subst e;have:(bs++[x]).getD bs.length 0=x:=by simp [List.getD_eq_getElem?_getD]
   rw [this,if_pos rfl];exact ⟨by omega,rfl⟩
  ·have hk':k<bs.length:=by omega
   obtain ⟨h1,h2⟩:=h.byte k hk';rw [Bk _ _ _ _ hk',if_neg (by omega)];exact ⟨by omega,h2⟩
 ·by_cases e:y=x<;>by_cases e':y'=x
  ·subst e;subst e';simp
  ·subst e;have h1:=h.lt y' (by omega);rw [if_pos rfl,if_neg e'];exact ⟨fun h2=>by omega,fun h2=>absurd ⟨h2.1.symm,h2.2.symm⟩ (hno y' (by omega))⟩
  ·subst e';have h1:=h.lt y (by omega);rw [if_neg e,if_pos rfl];exact ⟨fun h2=>by omega,fun h2=>absurd h2 (hno y (by omega))⟩
  ·rw [if_neg e,if_neg e'];exact h.same y y' (by omega) (by omega)
 ·by_cases e:y=x
  ·subst e;simp
  ·have h1:=hno y (by omega);rw [if_neg e,if_neg (by simpa using h1)];exact h.has y (by omega)
 ·by_cases e:p=(a x,b x)
  ·simp only [e,if_true] at hp;cases hp
   exact ⟨x,by omega,e,by rw [if_pos rfl]⟩
  ·simp only [e,if_false] at hp;obtain ⟨y,hy,h1,h2⟩:=h.from_ p i hp;exact ⟨y,by omega,h1,by rw [if_neg (by omega)];exact h2⟩
theorem Adv {a b c:Nat→Nat} {bs:List Nat} {f:Nat × Nat→Option Nat} (h:JInv a b 256 c bs f):Joint a b c bs:=
 ⟨h.lt,h.byte,h.same⟩
end Go.Proofs.YtaiogolidlamiaaGreatDoor
