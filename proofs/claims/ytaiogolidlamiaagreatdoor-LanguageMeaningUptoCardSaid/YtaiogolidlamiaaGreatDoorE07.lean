import Derived.Test.YtaiogolidlamiaaGreatDoorE06
import Derived.Test.YtaiogolidlamiaaGreatDoorE05
import Derived.Test.YtaiogolidlamiaaGreatDoorE01
import Derived.Test.YtaiogolidlamiaaGreatDoorE04
import Derived.Test.YtaiogolidlamiaaGreatDoorM34
import Derived.Test.YtaiogolidlamiaaGreatDoorRows
import Derived.ProofKit
import Derived.LaidMore
import Derived.OpenShut
import Derived.Stop.Joined
import Derived.Lib.LaidTab
import Derived.Test.YtaiogolidlamiaaGreatDoorE03
import Derived.Test.YtaiogolidlamiaaGreatDoorE02
set_option linter.unusedVariables false
set_option linter.unusedSimpArgs false
namespace Go.Proofs.YtaiogolidlamiaaGreatDoor
set_option maxRecDepth 100000
open Go.RowKit Go.Shelf Go.WideMaps
theorem Amy (q:Mqq) (hq:q.ok) (node:Nat):node<q.xs.length→Ako q node:=by
 induction node using Nat.strongRecOn with
 | _ node ih=>exact fun hn=>Amx q hq node hn (Am0 q hq node hn fun k hk=>ih k hk (by omega))
set_option maxHeartbeats 4000000 in
theorem Ak3 (xs:List RNode) (hx:VRx xs) (v:Value) (bs:List UInt8) (hb:bs.length≤1000) (vb:Value) (w:World) (h:RxV w v xs) (hby:By w vb bs) :
  Calls Tryz.prog 43 #[v,vb] w fun e w'=>e=.returned (.bool (Ajy (Ajz xs (xs.length-1)) bs 0 bs.length))∧Ext w w':=by
 obtain ⟨b,o,cap,rfl,hr⟩:=h;have f82:=Lib.hid (Yc xs hx b o cap w hr);have HX:=Lib.hid hx;have HR:=Lib.hid hr;have HBY:=Lib.hid hby;obtain ⟨ab,cb,hvb⟩:=hby.len;have HVB:=Lib.hid hvb;have hx0:=hx.pos;have hx1:=hx.le;obtain ⟨N,hN⟩:∃ N,xs.length=N:=⟨_,rfl⟩;obtain ⟨B,hB⟩:∃ B,bs.length=B:=⟨_,rfl⟩;have HN:=Lib.hid hN;have HB:=Lib.hid hB;rw [hN] at f82 hx0 hx1;rw [hB] at hvb hb;rw [hN,hB];have hwN:IntKind.i64.wrap ((N:Int)-1)=((N-1:Nat):Int):=by rw [show (N:Int)-1=((N-1:Nat):Int) by omega];exact IntWalk.i64_in _ ⟨by omega,by omega⟩
 subst hvb;clear hx hr hby hN hB;obtain ⟨r,hr⟩:∃ r,Ajy (Ajz xs (N-1)) bs 0 B=r:=⟨_,rfl⟩;have HRR:=Lib.hid hr;rw [hr];clear hr;have hmm:=@run_makeMap Tryz.prog;go_enter Tryz.func43,Tryz.ntmps43;go_upto_region 3 with (go_at_call 82;(with_reducible refine f82.out.mono ?_);rintro e w1 ⟨rfl,hE1⟩)
 go_upto_region 4 with (fail)
 have HE1:=Lib.hid hE1;have hk0:=World.size_alloc w1 (.map #[] 0);have hmK:=Ab w1 (.map #[] 0);obtain ⟨w2,hw2⟩:∃ X,w1.alloc (.map #[] 0)=X:=⟨_,rfl⟩;have HMV:Hid (IsMv w2 175 Hi w1.heap.size 0 (fun _=>none)):=Lib.hid (by rw [← hw2];exact Amj w1 175 Hi);have HE2:Hid (Ext w w2):=Lib.hid (by rw [← hw2];exact hE1.alloc _);rw [hw2] at hk0 hmK;simp only [hw2];clear hw2;obtain ⟨gK,hgK⟩:∃ y,w1.heap.size=y:=⟨_,rfl⟩;have HGK:Hid (w.heap.size≤gK):=Lib.hid (by rw [← hgK];exact hE1.size);rw [hgK] at HMV hk0 hmK;simp only [hgK];clear hgK hE1 hmm;have HK2:Hid (gK<w2.heap.size):=Lib.hid (by omega);have HMK:=Lib.hid (Af hmK (.cells #[.slice (some ⟨b,o,none⟩) N cap,.slice ab B cb,.map (some gK)] 138));have HMa:=Lib.hid (Ab w2 (.cells #[.slice (some ⟨b,o,none⟩) N cap,.slice ab B cb,.map (some gK)] 138));have hE3:=(Ext.refl w2).alloc (.cells #[.slice (some ⟨b,o,none⟩) N cap,.slice ab B cb,.map (some gK)] 138);obtain ⟨w3,hw3⟩:∃ X,w2.alloc (.cells #[.slice (some ⟨b,o,none⟩) N cap,.slice ab B cb,.map (some gK)] 138)=X:=⟨_,rfl⟩;rw [hw3] at HMK HMa hE3;simp only [hw3];clear hw3 hmK;obtain ⟨gM,hgM⟩:∃ y,gK+1=y:=⟨_,rfl⟩;rw [hk0,hgM] at HMa;simp only [hgM];clear hgM hk0;have HE3:=Lib.hid (HE2.out.trans hE3);have HMV3:=Lib.hid (HMV.out.ext hE3);obtain ⟨q,hq⟩:∃ q,(Mqq.mk xs bs w3 gM gK b o cap (.slice ab B cb))=q:=⟨_,rfl⟩;have hok:q.ok:=by
  rw [← hq];exact ⟨HX.out,by show bs.length≤1000;rw [HB.out];exact hb,by show w3.heap[gM]? = _;rw [HMa.out,HN.out],Nat.lt_of_lt_of_le HK2.out hE3.size,HR.out.ext HE3.out,HBY.out.ext HE3.out,⟨_,_,HMK.out⟩⟩
 have e1:q.xs=xs:=by rw [← hq]
 have e2:q.b=bs:=by rw [← hq]
 have e3:q.gM=gM:=by rw [← hq]
 have e4:q.W0=w3:=by rw [← hq]
 have e5:q.gK=gK:=by rw [← hq]
 clear hq;have hM:Mtq q (fun _=>False) w3 0 (fun _=>none):=⟨by rw [e4];exact (Ext.refl w3).grownBy _,by rw [e5];exact HMV3.out,Nat.zero_le _,fun _ h=>h.elim,fun _ _ h=>by cases h⟩;have f89:=Amy q hok (N-1) (by rw [e1,HN.out];omega) (fun _=>False) w3 0 (fun _=>none) 0 (Nat.zero_le _) hM;rw [e1,e2,e3] at f89;have f89:Hid (Calls Tryz.prog 89 #[.pointer (some ⟨gM,0,none⟩),iv (N-1),.int .i64 0] w3 fun e w'=>Aln q (fun _=>False) w3 (fun _=>none) (N-1) (Aj2 (Ajz xs (N-1)) bs 0) e w'):=Lib.hid f89;have E2q:=Lib.hid e2;have E5q:=Lib.hid e5;obtain ⟨N2q,hN2⟩:∃ y,B+1=y:=⟨_,rfl⟩;have HN2:Hid (q.b.length+1=N2q):=Lib.hid (by rw [e2,HB.out];exact hN2);have hBN:(B:Int)<(N2q:Int):=by omega
 have HBN:=Lib.hid hN2;clear e1 e2 e3 e4 e5 hok hM hE3 HE2 HMV HMV3 hN2;go_wp2_with (go_at_call 89;(with_reducible refine f89.out.mono ?_);rintro e w4 ⟨g,n2,f2,rfl,hg,hrow,hm2,hf2,hg2⟩;rw [HN2.out];have cR:=hrow B (by rw [Aka,HB.out];exact Nat.lt_succ_self B);rw [show (Aj2 (Ajz xs (N-1)) bs 0).getD B false=r by (unfold Aj2;rw [Akb _ _ _ (by rw [HB.out];exact Nat.lt_succ_self B)];exact HRR.out)] at cR;have HG2:=Lib.hid hg2;clear hg hrow hm2 hf2 hg2);go_ret;refine ⟨rfl,HE3.out.grown HG2.out (fun k e=>?_)⟩;have e':=Option.some.inj e;have h1:=E5q.out;have h2:=HGK.out;omega
open Go.ChangeShapes Go.WideShapes Go.ChangeAt Go.WideMaps Go.WideElems Go.RowKit
def O4 : List (String × DataW Unit) := [("math/bits.deBruijn64tab", Rows.laid_math_bits_deBruijn64tab)]
theorem Acr:ownKnob Tryz.prog.godebug=none:=by kernel_rfl
theorem Uu : Tryz.prog.globalNamed "math/bits.deBruijn64tab" = some 0 := by kernel_rfl
theorem Ys:(Tryz.prog.globals[0]?).map (·.type)=some 205:=by kernel_rfl
theorem T6:laidOutB Tryz.prog=true:=by kernel_rfl
theorem Ahe (os:Os) (args:Array Value):laidMetH Tryz.prog O4 ((World.doorLaid Tryz.prog 400 os).forCall (fun _ _=>0) ⟨#[],args,[]⟩).memory:=
 laidMetH_of_parts3 (fuel:=8) (laidMet_of_run' 8 (by kernel_rfl) (by kernel_rfl)) (by kernel_rfl) (by kernel_rfl)
theorem Yr {W:World} (h:laidMetH Tryz.prog O4 W):Tab W∧0<W.heap.size:=by
 rw [MakeChecks.laidMetH_plain _ _ _ (by kernel_rfl)] at h;have h1 : Lib.TabIs Tryz.prog W "math/bits.deBruijn64tab" .u8 (Lib.deBruijn64tab.map Int.ofNat) :=
  Lib.tabIs_of_head Uu Ys Tryz.underlying205 Tryz.underlying5 (by kernel_rfl) (by kernel_rfl) h
 have hT:Tab W:=fun j hj=>by
  rw [h1.cell Uu j (by simpa [Lib.deBruijn64tab] using hj)];have hj':j<Lib.deBruijn64tab.length:=by simpa [Lib.deBruijn64tab] using hj
  simp [List.getD_eq_getElem?_getD,hj']
 exact ⟨hT,World.block_lt_of_cell? W _ (hT 0 (by decide))⟩
theorem Aig {k:Int} (h:(Lit.int .u8 k).wf=true):∃ n:Nat,k=n∧n<256:=by
 simp [Lit.wf,IntKind.min,IntKind.max,IntKind.bits,IntKind.signed] at h;exact ⟨k.toNat,by omega,by omega⟩
theorem Aih {H:Type} {enc:TypeId × Value→H} {W:World} {fuel:Nat} {x:DataW H × List MemPlace} {a:Option Addr} {len cap:Nat} (hf:DataW.trod enc Tryz.prog W 0 (fun _=>true) true fuel 22 [.slice a len cap]=some x) :
  ∃ l:List UInt8,l.length=len∧ByW W (.slice a len cap) l:=by
 rcases open_ints Tryz.underlying22 Tryz.underlying5 (by kernel_rfl) hf with ⟨hcs,_⟩|⟨x,l,c,zs,hcs,_,hl,hm,hz,_,hcell,hwz⟩
 ·simp at hcs;obtain ⟨rfl,rfl,rfl⟩:=hcs;exact ⟨[],rfl,by simp,.inl ⟨rfl,_,_,rfl⟩⟩
 ·simp at hcs;obtain ⟨rfl,rfl,rfl⟩:=hcs;have hz:zs.length=cap:=by simpa using hz
  have hlen:((zs.take len).map fun z=>UInt8.ofNat z.toNat).length=len:=by simp;omega
  refine ⟨(zs.take len).map fun z=>UInt8.ofNat z.toNat,hlen,by rw [hlen];exact Nat.le_trans hl hm,?_⟩;rw [hlen];by_cases h0:len=0
  ·subst h0;exact .inl ⟨rfl,_,_,rfl⟩
  ·obtain ⟨b,off,spot⟩:=x;have hc:=hcell 0 (by omega);have hspot:spot=none:=by simpa [Addr.add] using World.cell?_spot hc
   subst hspot;refine .inr ⟨by omega,b,off,cap,rfl,World.block_lt_of_cell? W _ hc,fun i hi=>?_⟩;have h1:=hcell i (by omega);have h2:i<zs.length:=by omega
   have hw:=hwz _ (List.getElem_mem h2);obtain ⟨n,hn,hn2⟩:=Aig hw;rw [Addr.add_lit] at h1;rw [h1];simp only [List.getD_eq_getElem?_getD,List.getElem?_map,List.getElem?_take,List.getElem?_eq_getElem h2,Option.getD_some,Option.map_some,if_pos hi,hn,bv,Int.toNat_natCast]
   congr 2
   rw [u8n n hn2]
theorem Aim {H:Type} (d:DataW H):1≤Rows.uptoBulk d:=by
 cases d with
 | lit l=>cases l<;>simp [Rows.uptoBulk]
 | nil=>simp [Rows.uptoBulk]
 | ptr d=>simp [Rows.uptoBulk]
 | slice elems spare=>simp [Rows.uptoBulk]
 | agg parts=>simp [Rows.uptoBulk]
 | iface t d=>simp [Rows.uptoBulk]
 | map entries=>simp [Rows.uptoBulk]
 | held h=>simp [Rows.uptoBulk]
theorem Ain {H:Type} (l:List (DataW H)):l.length≤Rows.uptoBulkAll l:=by
 induction l with
 | nil=>simp [Rows.uptoBulkAll]
 | cons x r ih=>have:=Aim x;simp only [Rows.uptoBulkAll,List.length_cons];omega
theorem Ail {H:Type} {l:List (DataW H)} (hk:Rows.uptoSmall H l=true):Rows.uptoBulkAll l≤1048576:=of_decide_eq_true hk
theorem S7 {H:Type} {enc:TypeId × Value→H} {W:World} {b0:Nat} {v:Value} {d:DataW H} {p:List MemPlace} (hv:Value.okWide Tryz.prog W .any b0 22 v) (h:DataW.Trod enc Tryz.prog W 0 (fun _=>true) true 22 v d p) :
  ∃ l:List UInt8,ByC W v l∧l.length≤Rows.uptoBulk d:=by
 obtain ⟨a,len,cap,rfl⟩:=okWide_slice Tryz.underlying22 hv;obtain ⟨fuel,hf⟩:=h;obtain ⟨l,hll,hB⟩:=Aih hf;rcases open_ints Tryz.underlying22 Tryz.underlying5 (by kernel_rfl) hf with ⟨hcs,_⟩|⟨x,l2,c,zs,hcs,_,hlc,hm,hz,hx,_⟩
 ·have hcs:[Value.slice a len cap]=[.slice none 0 0]:=hcs;injection hcs with hcs _
  injection hcs with e1 e2 e3
  subst e1 e2 e3;exact ⟨l,⟨hB,_,0,by rw [hll],by omega⟩,by omega⟩
 ·have hcs:[Value.slice a len cap]=[.slice (some x) l2 c]:=hcs;injection hcs with hcs _
  injection hcs with e1 e2 e3
  subst e1 e2 e3;have hz:zs.length=cap:=by simpa using hz
  refine ⟨l,⟨hB,_,cap,by rw [hll],by omega⟩,?_⟩;injection hx with hd _
  rw [hd];have hb:=Ain (lits (H:=H) .u8 (zs.take len));have hlen:(lits (H:=H) .u8 (zs.take len)).length=len:=by simp [lits];omega
  simp only [Rows.uptoBulk];omega
end Go.Proofs.YtaiogolidlamiaaGreatDoor
