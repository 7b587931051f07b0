import Derived.Great.BuildSlice
import Derived.Deep.MidRow
import Derived.Test.YtaiogolidlamiaaGreatDoorM29
set_option linter.unusedVariables false
set_option linter.unusedSimpArgs false
namespace Go.Proofs.YtaiogolidlamiaaGreatDoor
set_option maxRecDepth 100000
open Go.RowKit Go.Shelf Go.WideMaps
open Go.Maps (Keyed)
def B6 (S:List Bool):List Value:=S.map Value.bool
def Am (S:List Bool):Array Value:=(S.map Value.bool).toArray
def C0 (S:List Bool):Value:=.agg (Am S)
theorem Gd (S:List Bool):(B6 S).length=S.length:=by simp [B6]
theorem R5 (x y:List Bool) (h:C0 x=C0 y):x=y:=by
 simp only [C0,Am,Value.agg.injEq] at h;have h2:x.map Value.bool=y.map Value.bool:=congrArg Array.toList h;exact (List.map_inj_right (fun x y (e:Value.bool x=Value.bool y)=>by injection e)).1 h2
theorem Lg:Keyed Tryz.prog 88:=Keyed.of_law (deep_law_laid O3 (m:=2) (by omega) (of_decide_eq_true (by kernel_rfl)) (by kernel_rfl) (by rw [Tryz.underlying88]))
theorem Aff:Tryz.prog.keyType 88=true:=by kernel_rfl
theorem Vw:Tryz.prog.cellsOf 88=64:=by kernel_rfl
theorem co4:Tryz.prog.cellsOf 4=1:=by kernel_rfl
theorem kl4 (d:Nat) (b:Bool):Tryz.prog.keyLits (d+1) 4 [.bool b]=some [.bool b]:=by
 unfold Program.keyLits;simp only [Tryz.underlying4]
theorem T7 (S:List Bool) (d:Nat):∀ L:List Nat,(∀ i,i∈L→i<S.length)→∃ r,(L.mapM fun i=>Tryz.prog.keyLits (d+1) 4 (((B6 S).drop (i*1)).take 1))=some r
 | [],_=>⟨[],rfl⟩
 | i::L,h=>by
  obtain ⟨r,hr⟩:=T7 S d L fun j hj=>h j (List.mem_cons_of_mem _ hj)
  have hi:i<(B6 S).length:=by rw [Gd];exact h i List.mem_cons_self
  have e:((B6 S).drop (i*1)).take 1=[.bool (S.getD i false)]:=by
   have hi':i<S.length:=h i List.mem_cons_self;rw [Nat.mul_one,List.drop_eq_getElem_cons hi];simp [B6,List.getD_eq_getElem?_getD,hi']
  refine ⟨[.bool (S.getD i false)]::r,?_⟩;rw [List.mapM_cons,hr,e,kl4];rfl
theorem R4 (S:List Bool) (h:S.length=64):∃ l,keyOf Tryz.prog 88 (C0 S)=some l:=by
 obtain ⟨m,hm⟩:=Ry;obtain ⟨r,hr⟩:=T7 S (m+2) (List.range 64) fun i hi=>by rw [h];exact List.mem_range.1 hi
 unfold keyOf;simp only [Tryz.underlying88];rw [if_pos (by simp [Aff,Value.formed,C0,Am,Tryz.underlying88,Vw,h]),hm];have e:(C0 S).cells.toList=B6 S:=rfl;rw [e];have:Tryz.prog.keyLits (m+3+1) 88 (B6 S)=some r.flatten:=by
  show Program.keyLits Tryz.prog ((m+3)+1) 88 _=_;unfold Program.keyLits;simp only [Tryz.underlying88];rw [if_pos (by rw [Vw,Gd,h]),co4,hr];rfl
 rw [this];exact ⟨_,rfl⟩
theorem Ud:(Tryz.prog.info? 88).map (·.size)=some 64:=by kernel_rfl
theorem Hd (S:List Bool):(Am S).size=S.length:=by simp [Am]
theorem Z1 (S:List Bool):(Am S).all (·.oneCell')=true:=by
 simp [Am,Value.oneCell',Array.all_eq_true]
def flB (l:List (List Bool)):List Value:=l.flatMap B6
theorem Agi (l m:List (List Bool)):flB (l++m)=flB l++flB m:=by simp [flB]
theorem U1 (x:List Bool):flB [x]=B6 x:=by simp [flB]
theorem Agh (l:List (List Bool)) (h:∀ S,S∈l→S.length=64) (k:Nat) (S:List Bool) (hk:l[k]? = some S) (q:Nat) (hq:q<64):(flB l)[k*64+q]? = some (.bool (S.getD q false)):=by
 induction l generalizing k with
 | nil=>simp at hk
 | cons y l ih=>
  have e:flB (y::l)=B6 y++flB l:=rfl;have hl:(B6 y).length=64:=by rw [Gd];exact h y List.mem_cons_self
  cases k with
  | zero=>
   have:y=S:=by simpa using hk
   subst this;have hy:=h y List.mem_cons_self;rw [e,List.getElem?_append_left (by omega)];simp [B6,List.getD_eq_getElem?_getD,hy,hq]
  | succ k=>
   have hk':l[k]? = some S:=by simpa using hk
   have:=ih (fun S hS=>h S (List.mem_cons_of_mem _ hS)) k hk';rw [e,List.getElem?_append_right (by rw [hl];omega),hl,show (k+1)*64+q-64=k*64+q by omega];exact this
abbrev J2 (W:World) (base:Nat) (v:Value) (l:List (List Bool)):Prop:=W.ownsRow base 88 64 v l.length (flB l)
theorem R1 {W:World} {base g cap:Nat} {l:List (List Bool)} (h:J2 W base (.slice (some ⟨g,0,none⟩) l.length cap) l) (h64:∀ S,S∈l→S.length=64) (k:Nat) (S:List Bool) (hS:l[k]? = some S) (q:Nat) (hq:q<64) :
  W.cell? ⟨g,k*64+q,none⟩=some (.bool (S.getD q false)):=by
 have hk:k<l.length:=(List.getElem?_eq_some_iff.1 hS).1;rw [h.cellAt _ (by omega)];exact Agh l h64 k S hS q hq
def Xm (a:Dfa) (r:Option Dfa):Prop:=∃ x,Cano x∧(∀ w,x.has w=a.has w)∧
 (Bx (rnx x) (rst x) 4096→r=none)∧(¬ Bx (rnx x) (rst x) 4096→J4 (fun w=>a.has w.reverse=true) r)
theorem Aaq (q:Dfa) (h:q.acc.length≤64):B6 (rst q)=q.acc.map Value.bool++(List.replicate 64 (Value.bool false)).drop q.acc.length:=by
 apply List.ext_getElem?;intro i;by_cases hi:i<64
 ·have e1:(B6 (rst q))[i]? = some (.bool (q.acc.getD i false)):=by
   simp [B6,rst,hi,Dfa.ok]
  rw [e1];by_cases h2:i<q.acc.length
  ·rw [List.getElem?_append_left (by simpa using h2)];simp [List.getD_eq_getElem?_getD,h2]
  ·rw [List.getElem?_append_right (by simp;omega),List.getElem?_drop,List.length_map,show q.acc.length+(i-q.acc.length)=i by omega,List.getElem?_replicate,if_pos hi,List.getD_eq_getElem?_getD,List.getElem?_eq_none (show q.acc.length≤i by omega)];rfl
 ·rw [List.getElem?_eq_none (by rw [Gd,Iw];omega),List.getElem?_eq_none (by rw [List.length_append,List.length_drop,List.length_replicate,List.length_map];omega)]
def Cr (q:Dfa) (S:List Bool) (j k:Nat):List Bool:=(List.range 64).map fun s=>decide (s<k)&&S.getD (q.ent2 s j) false
theorem U9 (q:Dfa) (S:List Bool) (j k:Nat):(Cr q S j k).length=64:=by simp [Cr]
theorem Agp (q:Dfa) (S:List Bool) (j:Nat):Cr q S j 0=List.replicate 64 false:=by
 apply List.ext_getElem?;intro i;by_cases hi:i<64
 ·rw [List.getElem?_replicate,if_pos hi];simp [Cr,hi]
 ·rw [List.getElem?_eq_none (by rw [U9];omega),List.getElem?_eq_none (by rw [List.length_replicate];omega)]
theorem Agq (q:Dfa) (S:List Bool) (j k:Nat) (hk:k<64):(Am (Cr q S j k)).setIfInBounds k (.bool (S.getD (q.ent2 k j) false))=Am (Cr q S j (k+1)):=by
 apply Array.ext';rw [Array.toList_setIfInBounds];simp only [Am];apply List.ext_getElem?;intro i;rw [List.getElem?_set];by_cases e:k=i
 ·subst e;simp [Cr,hk]
 ·rw [if_neg e];by_cases hi:i<64
  ·simp only [Cr,List.map_map,List.getElem?_map,List.getElem?_range hi,Option.map_some,Function.comp]
   congr 3
   simp;omega
  ·rw [List.getElem?_eq_none (by simp [Cr];omega),List.getElem?_eq_none (by simp [Cr];omega)]
theorem Agr (q:Dfa) (S:List Bool) (j:Nat) {x:Nat} (hx:Aj q.cls x=j):Cr q S j q.nxt.length=rnx q S x:=by
 unfold Cr rnx Dfa.stp;rw [hx]
open Classical in
noncomputable def Dk (L:List Cls):List Nat:=(List.range L.length).map fun k=>if h:∃ b,b<256∧Aj L b=k then h.choose else 0
theorem Nr (L:List Cls):(Dk L).length=L.length:=by simp [Dk]
theorem Si {L:List Cls} (hL:Parts L) {k:Nat} (hk:k<L.length):(Dk L).getD k 0<256∧Aj L ((Dk L).getD k 0)=k:=by
 have h:=Id hL hk;have e:(Dk L).getD k 0=h.choose:=by
  unfold Dk;rw [Cq _ _ _ _ hk,dif_pos h]
 rw [e];exact h.choose_spec
theorem Afl {L:List Cls} (hL:Parts L):Joint (Aj L) (Aj L) (Aj L) (Dk L) where
 lt:=fun x hx=>by rw [Nr];exact cell_lt hL hx
 byte:=fun k hk=>Si hL (by rw [← Nr];exact hk)
 same:=fun x y _ _=>⟨fun h=>⟨h,h⟩,fun h=>h.1⟩
theorem Ag7 {σ:Type} {c:Nat→Nat} {bs:List Nat} {st:σ} {nx:σ→Nat→σ} {ac:σ→Bool} {l:List σ} {t:Tbl} (h:Expl c bs st nx ac l t) {a b:Nat→Nat} (hj:Joint a b c bs)
  (hn:∀ s x,x<256→nx s (bs.getD (c x) 0)=nx s x):Reached t (List.range t.nxt.length):=by
 have h0:=h.pos;have hl:=h.len;refine ⟨by rw [List.getD_eq_getElem?_getD,List.getElem?_range (by omega)];rfl,by simp;omega,List.nodup_range,fun s hs=>List.mem_range.1 hs,fun s hs k hk=>?_,fun s hs=>?_⟩
 ·exact List.mem_range.2 ((h.tval hj).tgt s (List.mem_range.1 hs) k hk)
 ·have hs:=List.mem_range.1 hs;have hsl:s<l.length:=by omega
  obtain ⟨w,hw⟩:=h.reach s _ (List.getElem?_eq_getElem hsl);refine ⟨w,?_⟩;have run:∀ (w:List UInt8) i s,l[i]? = some s→l[t.run i w]? = some (At nx s w):=fun w=>by
   induction w with
   | nil=>intro i s hi;exact hi
   | cons x w ih=>
    intro i s hi;have h1:=(h.tgt i s hi _ (hj.lt _ x.toNat_lt)).2;rw [hn s _ x.toNat_lt] at h1;refine ih (t.stp i x.toNat) _ ?_;unfold Tbl.stp;rw [h.cell];exact h1
  have h1:=run w 0 st h.zero;rw [hw] at h1;have h2:=List.getElem?_eq_some_iff.1 h1;obtain ⟨h3,h4⟩:=h2;have hnd:=List.pairwise_iff_getElem.1 (List.nodup_iff_pairwise_ne.1 h.nodup);rcases Nat.lt_trichotomy (t.run 0 w) s with hlt|he|hlt
  ·exact absurd h4 (hnd _ _ h3 hsl hlt)
  ·exact he
  ·exact absurd h4.symm (hnd _ _ hsl h3 hlt)
theorem O7 (S:List Bool) (h:S.length=64):(Tryz.prog.info? 88).map (·.size)=some (Am S).size:=by rw [Hd,h];exact Ud
theorem Uc:(Tryz.prog.info? 88).map (fun i=>(i.zero,i.size,i.bytes))=some (some (C0 (List.replicate 64 false)),64,64):=by kernel_rfl
theorem z64:(#[Value.bool false,Value.bool false,Value.bool false,Value.bool false,Value.bool false,Value.bool false,Value.bool false,Value.bool false,Value.bool false,Value.bool false,Value.bool false,Value.bool false,Value.bool false,Value.bool false,Value.bool false,Value.bool false,Value.bool false,Value.bool false,Value.bool false,Value.bool false,Value.bool false,Value.bool false,Value.bool false,Value.bool false,Value.bool false,Value.bool false,Value.bool false,Value.bool false,Value.bool false,Value.bool false,Value.bool false,Value.bool false,Value.bool false,Value.bool false,Value.bool false,Value.bool false,Value.bool false,Value.bool false,Value.bool false,Value.bool false,Value.bool false,Value.bool false,Value.bool false,Value.bool false,Value.bool false,Value.bool false,Value.bool false,Value.bool false,Value.bool false,Value.bool false,Value.bool false,Value.bool false,Value.bool false,Value.bool false,Value.bool false,Value.bool false,Value.bool false,Value.bool false,Value.bool false,Value.bool false,Value.bool false,Value.bool false,Value.bool false,Value.bool false]:Array Value)=Am (List.replicate 64 false):=by rfl
theorem Agx (cells:Array Value) (hc:cells.size=64) (S:List Bool) (h:S.length=64):Instr.fill (fun i=>some (i*64,64)) cells [(0,C0 S)]=some (Am S):=by
 have hs:(Am S).size=64:=by rw [Hd,h]
 obtain ⟨r,h1,h2,h3⟩:=Great.fill_dense (s:=64) (by omega) [C0 S] 0 cells (fun v hv=>by
  have:v=C0 S:=by simpa using hv
  subst this;exact hs) (by simp;omega)
 rw [show (([C0 S].zipIdx 0).map fun x=>(x.2,x.1))=[(0,C0 S)] from rfl] at h1;rw [h1]
 congr 1
 apply Array.ext_getElem?;intro k;rw [h3];by_cases hk:k<64
 ·rw [if_pos (by simp;omega)];have e1:k / 64-0=0:=by omega
  rw [e1,Nat.mod_eq_of_lt hk];rfl
 ·rw [if_neg (by simp;omega),Array.getElem?_eq_none (by omega),Array.getElem?_eq_none (by omega)]
theorem Qq {ops:Array Oper} {rest:List Oper} {o:Oper} {a:Act} {w:World} {Q:Exit→Act→World→Prop} (hg:o.guard=none) (x:Operand) (ho:o.op=.buildSlice 90 1 #[(0,x)]) (S:List Bool) (hS:S.length=64) (hx:a.eval x=C0 S)
  (h:wpList Tryz.prog ops Q rest (a.put o.dst (.slice (some ⟨w.heap.size,0,none⟩) 1 1)) (w.alloc (.cells (Am S) 88))):wpList Tryz.prog ops Q (o::rest) a w:=by
 obtain ⟨i,hi,hz,hs,hb⟩:=info_parts Uc;refine wpList_buildSlice hg 90 88 1 _ ho (Am S) i _ Tryz.underlying90 hi hz (by rw [hs];omega) (by rw [hs];omega) ?_ h;rw [hs];simp only [Array.toList_map,List.map_cons,List.map_nil,hx];exact Agx _ (by simp) S hS
theorem Xv {P:Program} {w:World} {o:Oper} {a:Act} {K:Act→World→Prop} {Q:Exit→Act→World→Prop} (d s:Operand) (t t':TypeId)
  (ho:o.op=.call { callee:=.builtin .copy,args:=#[d,s],argTypes:=#[t,t'] }) (v u:Value) (hd:a.eval d=v) (hs:a.eval s=u) {v':Value} {w':World}
  (hr:(Builtin.copy_ #[t,t'] o.type #[v,u]).run P w=.ok v' w') (h:K (a.put o.dst v') w'):o.wp P a w K Q:=by
 unfold Oper.wp execOp;simp only [ho,resolve,invoke,builtin,Sem.run_bind,Sem.run_pure,Result.andThen_ok,List.map_toArray,List.map_cons,List.map_nil,hd,hs,hr];exact h
theorem R6 (S:List Bool) (k:Nat) (hk:k<S.length):(Am S)[k]? = some (.bool (S.getD k false)):=by
 simp [Am,List.getD_eq_getElem?_getD,hk]
end Go.Proofs.YtaiogolidlamiaaGreatDoor
