import Derived.Test.YtaiogolidlamiaaGreatDoorRows
import Derived.ProofKit
import Derived.LaidMore
import Derived.OpenShut
import Derived.Stop.Joined
import Derived.Lib.LaidTab
import Derived.Test.YtaiogolidlamiaaGreatDoorM38
set_option linter.unusedVariables false
set_option linter.unusedSimpArgs false
namespace Go.Proofs.YtaiogolidlamiaaGreatDoor
set_option maxRecDepth 100000
open Go.ChangeShapes Go.WideShapes Go.ChangeAt Go.WideMaps Go.WideElems Go.RowKit
def Ip : List (String × DataW Unit) := [("math/bits.deBruijn64tab", Rows.laid_math_bits_deBruijn64tab)]
theorem Aao:ownKnob Tryz.prog.godebug=none:=by kernel_rfl
theorem Tb : Tryz.prog.globalNamed "math/bits.deBruijn64tab" = some 0 := by kernel_rfl
theorem W7:(Tryz.prog.globals[0]?).map (·.type)=some 205:=by kernel_rfl
theorem Nr:laidOutB Tryz.prog=true:=by kernel_rfl
theorem Afr (os:Os) (args:Array Value):laidMetH Tryz.prog Ip ((World.doorLaid Tryz.prog 400 os).forCall (fun _ _=>0) ⟨#[],args,[]⟩).memory:=
 laidMetH_of_parts3 (fuel:=8) (laidMet_of_run' 8 (by kernel_rfl) (by kernel_rfl)) (by kernel_rfl) (by kernel_rfl)
theorem W6 {W:World} (h:laidMetH Tryz.prog Ip W):Tab W∧0<W.heap.size:=by
 rw [MakeChecks.laidMetH_plain _ _ _ (by kernel_rfl)] at h;have h1 : Lib.TabIs Tryz.prog W "math/bits.deBruijn64tab" .u8 (Lib.deBruijn64tab.map Int.ofNat) :=
  Lib.tabIs_of_head Tb W7 Tryz.underlying205 Tryz.underlying5 (by kernel_rfl) (by kernel_rfl) h
 have hT:Tab W:=fun j hj=>by
  rw [h1.cell Tb j (by simpa [Lib.deBruijn64tab] using hj)];have hj':j<Lib.deBruijn64tab.length:=by simpa [Lib.deBruijn64tab] using hj
  simp [List.getD_eq_getElem?_getD,hj']
 exact ⟨hT,World.block_lt_of_cell? W _ (hT 0 (by decide))⟩
theorem Ld {k:Int} (h:(Lit.int .u8 k).wf=true):∃ n:Nat,k=n∧n<256:=by
 simp [Lit.wf,IntKind.min,IntKind.max,IntKind.bits,IntKind.signed] at h;exact ⟨k.toNat,by omega,by omega⟩
theorem Aa0 {H:Type} {enc:TypeId × Value→H} {W:World} {b0:Nat} {v:Value} {d:DataW H} {p:List MemPlace} (hv:Value.okWide Tryz.prog W .any b0 5 v) (h:DataW.Trod enc Tryz.prog W 0 (fun _=>true) true 5 v d p) :
  ∃ n:Nat,n<256∧v=.int .u8 (n:Int):=by
 obtain ⟨a,rfl,_,_,wa⟩:=open_int Tryz.underlying5 hv h;obtain ⟨n,rfl,hn⟩:=Ld wa;exact ⟨n,hn,rfl⟩
theorem Uz {H:Type} {enc:TypeId × Value→H} {W:World} {fuel:Nat} {x:DataW H × List MemPlace} {a:Option Addr} {len cap:Nat} (hf:DataW.trod enc Tryz.prog W 0 (fun _=>true) true fuel 22 [.slice a len cap]=some x) :
  ∃ l:List UInt8,l.length=len∧ByW W (.slice a len cap) l:=by
 rcases open_ints Tryz.underlying22 Tryz.underlying5 (by kernel_rfl) hf with ⟨hcs,_⟩|⟨x,l,c,zs,hcs,_,hl,hm,hz,_,hcell,hwz⟩
 ·simp at hcs;obtain ⟨rfl,rfl,rfl⟩:=hcs;exact ⟨[],rfl,by simp,.inl ⟨rfl,_,_,rfl⟩⟩
 ·simp at hcs;obtain ⟨rfl,rfl,rfl⟩:=hcs;have hz:zs.length=cap:=by simpa using hz
  have hlen:((zs.take len).map fun z=>UInt8.ofNat z.toNat).length=len:=by simp;omega
  refine ⟨(zs.take len).map fun z=>UInt8.ofNat z.toNat,hlen,by rw [hlen];exact Nat.le_trans hl hm,?_⟩;rw [hlen];by_cases h0:len=0
  ·subst h0;exact .inl ⟨rfl,_,_,rfl⟩
  ·obtain ⟨b,off,spot⟩:=x;have hc:=hcell 0 (by omega);have hspot:spot=none:=by simpa [Addr.add] using World.cell?_spot hc
   subst hspot;refine .inr ⟨by omega,b,off,cap,rfl,World.block_lt_of_cell? W _ hc,fun i hi=>?_⟩;have h1:=hcell i (by omega);have h2:i<zs.length:=by omega
   have hw:=hwz _ (List.getElem_mem h2);obtain ⟨n,hn,hn2⟩:=Ld hw;rw [Addr.add_lit] at h1;rw [h1];simp only [List.getD_eq_getElem?_getD,List.getElem?_map,List.getElem?_take,List.getElem?_eq_getElem h2,Option.getD_some,Option.map_some,if_pos hi,hn,bv,Int.toNat_natCast]
   congr 2
   rw [u8n n hn2]
theorem Aa2 {H:Type} {enc:TypeId × Value→H} {W:World} {b0:Nat} {v:Value} {d:DataW H} {p:List MemPlace} (hv:Value.okWide Tryz.prog W .any b0 22 v) (h:DataW.Trod enc Tryz.prog W 0 (fun _=>true) true 22 v d p) :
  ∃ l:List UInt8,ByW W v l:=by
 obtain ⟨a,len,cap,rfl⟩:=okWide_slice Tryz.underlying22 hv;obtain ⟨fuel,hf⟩:=h;obtain ⟨l,_,hl⟩:=Uz hf;exact ⟨l,hl⟩
theorem X8 {H:Type} {enc:TypeId × Value→H} {W:World} {fuel:Nat} {cs:List Value} {x:DataW H × List MemPlace} (hf:DataW.trod enc Tryz.prog W 0 (fun _=>true) true fuel 22 cs=some x):∃ a len cap,cs=[.slice a len cap]:=by
 rcases open_ints Tryz.underlying22 Tryz.underlying5 (by kernel_rfl) hf with ⟨hcs,_⟩|⟨x,l,c,zs,hcs,_⟩
 ·exact ⟨_,_,_,hcs⟩
 ·exact ⟨_,_,_,hcs⟩
theorem Aa1 {H:Type} {enc:TypeId × Value→H} {W:World} {b0:Nat} {v:Value} {d:DataW H} {p:List MemPlace} (hv:Value.okWide Tryz.prog W .any b0 24 v) (h:DataW.Trod enc Tryz.prog W 0 (fun _=>true) true 24 v d p) :
  ∃ S a n c A,v=.agg (Ex S a n c A)∧RawAt W S a n c A:=by
 obtain ⟨cs,rfl,hsz⟩:=okWide_struct Tryz.underlying24 hv;obtain ⟨fuel,hf⟩:=h;obtain ⟨xs,m,_,_,hlen,hxl,hel⟩:=DataW.trod_struct Tryz.underlying24 hf;have hc24:Tryz.prog.cellsOf 24=3:=by kernel_rfl
 have hc5:Tryz.prog.cellsOf 5=1:=by kernel_rfl
 have hc22:Tryz.prog.cellsOf 22=1:=by kernel_rfl
 rw [hc24] at hsz;obtain ⟨L⟩:=cs
 match L,hsz with
 | [u,s,t],_=>
  match xs,hxl with
  | [x0,x1,x2],_=>
   have h0:DataW.trod enc Tryz.prog W 0 (fun _=>true) true m 5 (([u,s,t].drop 0).take (Tryz.prog.cellsOf 5))=some x0:=hel 0 _ rfl;have h1:DataW.trod enc Tryz.prog W 0 (fun _=>true) true m 22 (([u,s,t].drop 1).take (Tryz.prog.cellsOf 22))=some x1:=hel 1 _ rfl;have h2:DataW.trod enc Tryz.prog W 0 (fun _=>true) true m 5 (([u,s,t].drop 2).take (Tryz.prog.cellsOf 5))=some x2:=hel 2 _ rfl;rw [hc5] at h0 h2;rw [hc22] at h1;obtain ⟨k0,e0,_,w0⟩:=DataW.trod_int Tryz.underlying5 h0;obtain ⟨k2,e2,_,w2⟩:=DataW.trod_int Tryz.underlying5 h2;obtain ⟨a,len,cap,e1⟩:=X8 h1;rw [e1] at h1;obtain ⟨l,hl,hb⟩:=Uz h1;obtain ⟨S,rfl,hS⟩:=Ld w0;obtain ⟨A,rfl,hA⟩:=Ld w2;have f0:u=.int .u8 S:=by injection e0
   have f1:s=.slice a len cap:=by injection e1
   have f2:t=.int .u8 A:=by injection e2
   subst f0 f1 f2;exact ⟨S,a,len,cap,A,rfl,hS,hA,l,hl,hb⟩
end Go.Proofs.YtaiogolidlamiaaGreatDoor
