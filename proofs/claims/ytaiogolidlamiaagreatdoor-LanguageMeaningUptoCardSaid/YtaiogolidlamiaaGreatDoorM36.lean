import Derived.Test.YtaiogolidlamiaaGreatDoorM22
import Derived.Test.YtaiogolidlamiaaGreatDoorM31
import Derived.Test.YtaiogolidlamiaaGreatDoorM02
set_option linter.unusedVariables false
set_option linter.unusedSimpArgs false
namespace Go.Proofs.YtaiogolidlamiaaGreatDoor
set_option maxRecDepth 100000
open Go
theorem Ahb {P:Program} {o:Oper} {a:Act} {w:World} (ty:TypeId) (x:Operand) (ho:o.op=.load ty x) (g:Nat) (hx:a.eval x=.pointer (some ⟨g,0,none⟩)) (t:TypeId) (cs:Array Value) (fr:Nat × Nat) (d:TypeDesc) (hg:w.heap[g]? = some (.cells cs t fr))
  (hu:P.underlying ty=some d) (hd:(match d with|.struct _|.array _ _=>true|_=>false)=true) (hi:(P.info? ty).map (·.size)=some cs.size):(execOp a.eval o).run P w=.ok (.value (.agg cs)) w:=by
 unfold execOp;simp only [ho,hx,Instr.loadAt,Instr.sureAddr,Sem.run_bind,Sem.run_pure,Result.andThen_ok,run_loadVar_row w g t ty cs fr d hg hu hd hi]
inductive AV where
 | c (v:Value)
 | r (R:World→Value→Prop)
def AV.holds (x:AV) (W:World) (v:Value):Prop:=match x with
 | .c u=>v=u
 | .r R=>R W v
def AV.val:AV→Value
 | .c u=>u
 | .r _=>undef
def AV.Mono (x:AV):Prop:=∀ W W' v,x.holds W v→Ext W W'→x.holds W' v
theorem AV.mono_c (v:Value):(AV.c v).Mono:=fun _ _ _ h _=>h
def Cx (W:World):List AV→List Value→Prop
 | [],[]=>True
 | x::xs,v::vs=>x.holds W v∧Cx W xs vs
 | _,_=>False
theorem D5 {W:World}:∀ {us vs:List Value},Cx W (us.map AV.c) vs→vs=us
 | [],[],_=>rfl
 | [],_::_,h=>h.elim
 | _::_,[],h=>h.elim
 | u::us,v::vs,h=>by
  have h1:v=u:=h.1;rw [h1,D5 h.2]
theorem Em {W:World} {u:Value} {az:List AV} {vs:List Value} (h:Cx W (.c u::az) vs):∃ vs',vs=u::vs'∧Cx W az vs':=by
 cases vs with
 | nil=>exact h.elim
 | cons v vs=>
  obtain ⟨h1,h2⟩:=h;obtain rfl:v=u:=h1;exact ⟨vs,rfl,h2⟩
theorem Bu {W:World} {R:World→Value→Prop} {az:List AV} {vs:List Value} (h:Cx W (.r R::az) vs):∃ v vs',vs=v::vs'∧R W v∧Cx W az vs':=by
 cases vs with
 | nil=>exact h.elim
 | cons v vs=>exact ⟨v,vs,rfl,h.1,h.2⟩
theorem Ez {W:World} {vs:List Value} (h:Cx W [] vs):vs=[]:=by
 cases vs with
 | nil=>rfl
 | cons v vs=>exact h.elim
inductive Sc (P:Program) (w:World) where
 | pure
 | skip
 | skipu
 | keep
 | load (ty:TypeId) (g:Nat) (cs:Array Value) (t:TypeId) (fr:Nat × Nat) (d:TypeDesc) (hg:∀ W,Ext w W→W.heap[g]? = some (.cells cs t fr)) (hu:P.underlying ty=some d) (hd:(match d with|.struct _|.array _ _=>true|_=>false)=true) (hi:(P.info? ty).map (·.size)=some cs.size)
 | call (f:FuncId) (he:∀ args W,(callFunc f args).run P W=.ok (.enter f args) W) (args:List AV) (res:AV) (hm:res.Mono) (h:∀ W vs,Ext w W→Cx W args vs→Calls P f vs.toArray W fun e w'=>∃ v,e=.returned v∧res.holds w' v∧Ext W w')
 | gen (op:Op) (args:List AV) (res:AV) (hm:res.Mono) (h:∀ (ρ:Operand→Value) (o:Oper) W,o.op=op→Ext w W→Cx W args (op.operands.toList.map ρ)→∃ v,(execOp ρ o).run P W=.ok (.value v) W∧res.holds W v)
def upd (E:Nat→AV) (d:Nat) (x:AV):Nat→AV:=fun n=>if n=d then x else E n
def oev (E:Nat→AV):Operand→AV
 | .tmp t=>E t
 | .const v=>.c v
 | .global g=>.c (.pointer (some ⟨g,0,none⟩))
 | .func f=>.c (.func (.func f) #[] #[])
section
variable {P:Program} {w:World}
def pvX:Result Next→Value
 | .ok (.value v) _=>v
 | _=>undef
def pv (P:Program) (w:World) (E:Nat→AV) (o:Oper):Value:=pvX ((execOp (fun x=>(oev E x).val) o).run P w)
def moved (E:Nat→AV):Op→AV
 | .move x=>oev E x
 | .assign x=>oev E x
 | _=>.c undef
def He (P:Program) (w:World) (E:Nat→AV) (o:Oper):Sc P w→AV
 | .pure=>.c (pv P w E o)
 | .skip=>.c undef
 | .skipu=>.c undef
 | .keep=>moved E o.op
 | .load _ _ cs _ _ _ _ _ _ _=>.c (.agg cs)
 | .call _ _ _ res _ _=>res
 | .gen _ _ res _ _=>res
def scE (P:Program) (w:World):List Oper→List (Sc P w)→(Nat→AV)→(Nat→AV)
 | o::l,s::ss,E=>scE P w l ss (match o.dst with|some d=>upd E d (He P w E o s)|none=>E)
 | _,_,E=>E
inductive XX where
 | av (a:AV)
 | res (r:Result Next)
 | ty (t:TypeId)
 | op (o:Op)
 | fn (f:FuncId)
 | no
def Hz (l:List Oper) (k:Nat):Nat:=match l[k]? with
 | some o=>o.dst.getD 0
 | none=>0
def scL (l:List Oper) (E:Nat→AV) (o:Oper) (W:World) (s:Sc P w):List XX:=
 XX.av (E (o.dst.getD 0))::(match o.guard with|none=>[]|some (k,_)=>[XX.av (E (Hz l k))])++
 match s with
 | .pure=>XX.res ((execOp (fun x=>(oev E x).val) o).run P W)::o.op.operands.toList.map fun x=>XX.av (oev E x)
 | .skip=>[]
 | .skipu=>[]
 | .keep=>match o.op with|.move x=>[XX.op (.move x)]|.assign x=>[XX.op (.move x)]|_=>[XX.no]
 | .load ty _ _ _ _ _ _ _ _ _=>match o.op with|.load t x=>[XX.ty t,XX.av (oev E x)]|_=>[XX.no]
 | .call f _ _ _ _ _=>match o.op with|.call c=>(match c.callee with|.value (.func f)=>XX.fn f::c.args.toList.map fun x=>XX.av (oev E x)|_=>[XX.no])|_=>[XX.no]
 | .gen _ _ _ _ _=>XX.op o.op::o.op.operands.toList.map fun x=>XX.av (oev E x)
def scR (l:List Oper) (E:Nat→AV) (o:Oper) (W:World) (s:Sc P w):List XX:=
 XX.av (He P w E o s)::(match o.guard with|none=>[]|some (_,b)=>[XX.av (.c (match s with|.skip=>.bool (!b)|.skipu=>undef|_=>.bool b))])++
 match s with
 | .pure=>XX.res (.ok (.value (pv P w E o)) W)::o.op.operands.toList.map fun x=>XX.av (.c (oev E x).val)
 | .skip=>(match o.guard with|none=>[XX.no]|some _=>[])
 | .skipu=>(match o.guard with|none=>[XX.no]|some _=>[])
 | .keep=>match o.op with|.move x=>[XX.op (.move x)]|.assign x=>[XX.op (.move x)]|_=>[]
 | .load ty g _ _ _ _ _ _ _ _=>[XX.ty ty,XX.av (.c (.pointer (some ⟨g,0,none⟩)))]
 | .call f _ args _ _ _=>XX.fn f::args.map XX.av
 | .gen op args _ _ _=>XX.op op::args.map XX.av
def J0 (l:List Oper) (E:Nat→AV) (W:World):List Oper→List (Sc P w)→List (List XX)
 | o::os,s::ss=>scL l E o W s::J0 l E W os ss
 | _,_=>[]
def Jz (l:List Oper) (E:Nat→AV) (W:World):List Oper→List (Sc P w)→List (List XX)
 | o::os,s::ss=>scR l E o W s::Jz l E W os ss
 | _,_=>[]
def Rw (l:List Oper) (i:Nat) (t:Nat):Bool:=(List.range l.length).all fun j=>match l[j]? with
 | none=>false
 | some oj=>if oj.dst=some t then Region.waitsFor .any l.toArray i j else true
def Oe (l:List Oper) (i:Nat) (o:Oper):Bool:=
 (match o.op with|.select _ _=>false|_=>true)&&o.dst.isSome&&(o.op.operands.toList.all fun x=>match x with|.tmp t=>Rw l i t|_=>true)&&
 (match o.guard with|none=>true|some (k,_)=>(match l[k]? with|some ok=>ok.dst.isSome|none=>false)&&Region.waitsFor .any l.toArray i k)
def scB (l:List Oper) (sz:Nat):Bool:=Hh l.toArray sz&&(List.range l.length).all fun i=>match l[i]? with
 | none=>false
 | some o=>Oe l i o
def ROp (P:Program) (ops:Array Oper) (Q:Exit→Act→World→Prop) (F:Nat→Value→World→Prop) (a0:Act) (w1:World) (i:Nat):Prop:=
 ∀ o,ops[i]? = some o→∀ a w,Ext w1 w→
  (∀ j oj,ops[j]? = some oj→Region.waitsFor .any ops i j=true→F j (Ch oj a) w)→
  (∀ e,(∀ (j:Nat) (oj:Oper),ops[j]? = some oj→oj.dst≠some e)→a.tmps.getD e undef=a0.tmps.getD e undef)→
  (Region.wanted o (yielded ops a.tmps)=true∧o.wp P a w (fun a' w'=>∃ v,(o.dst=none→v=undef)∧a'=a.put o.dst v∧Ext w w'∧F i v w') Q)∨
  (Region.wanted o (yielded ops a.tmps)=false∧F i undef w)
structure RegI (ops:Array Oper) (F:Nat→Value→World→Prop) (a0:Act) (w1:World) (listed:Nat→Bool) (a:Act) (w:World):Prop where
 ext:Ext w1 w
 defers:a.defers=a0.defers
 size:a.tmps.size=a0.tmps.size
 done:∀ i o,ops[i]? = some o→listed i=true→F i (Ch o a) w
 rest:∀ d,(∀ i o,ops[i]? = some o→listed i=true→o.dst≠some d)→a.tmps.getD d undef=a0.tmps.getD d undef
theorem Kv {ops:Array Oper} {F:Nat→Value→World→Prop} (hF:∀ i v w w',F i v w→Ext w w'→F i v w') {a0:Act} {w1:World} {sz:Nat} (hsz:a0.tmps.size=sz) (hd:Ef ops sz=true) {listed:Nat→Bool} {a:Act} {w w':World} (inv:RegI ops F a0 w1 listed a w)
  {i:Nat} {o:Oper} (ho:ops[i]? = some o) {v:Value} (hvn:o.dst=none→v=undef) (hE:Ext w w') (hv:F i v w'):RegI ops F a0 w1 (fun j=>decide (j=i)||listed j) (a.put o.dst v) w':=by
 have has:a.tmps.size=sz:=by rw [inv.size,hsz]
 refine ⟨inv.ext.trans hE,by rw [(Hg a o.dst v).2];exact inv.defers,by rw [(Hg a o.dst v).1];exact inv.size,fun j oj hoj hlj=>?_,fun e he=>?_⟩
 ·rw [Ka hd ho has hvn hoj];by_cases e:j=i
  ·rw [if_pos e,e];exact hv
  ·rw [if_neg e];have hlj:listed j=true:=by simpa [e] using hlj
   exact hF _ _ _ _ (inv.done j oj hoj hlj) hE
 ·have h1:(a.put o.dst v).tmps.getD e undef=a.tmps.getD e undef:=by
   cases hdd:o.dst with
   | none=>rfl
   | some d=>
    rw [Eb _ _ _ _ (by rw [has];exact (Gs hd i o ho d hdd).1),if_neg];exact fun h=>he i o ho (by simp) (by rw [hdd,h])
  rw [h1];exact inv.rest e fun j oj hoj hlj=>he j oj hoj (by simp [hlj])
theorem RegI.congr {ops:Array Oper} {F:Nat→Value→World→Prop} {a0:Act} {w1:World} {l l':Nat→Bool} {a:Act} {w:World} (inv:RegI ops F a0 w1 l a w) (h:∀ j,j<ops.size→l j=l' j):RegI ops F a0 w1 l' a w where
 ext:=inv.ext
 defers:=inv.defers
 size:=inv.size
 done:=fun i o ho hl=>inv.done i o ho (by rw [h i (Array.getElem?_eq_some_iff.1 ho).1];exact hl)
 rest:=fun d hd=>inv.rest d fun i o ho hl=>hd i o ho (by rw [← h i (Array.getElem?_eq_some_iff.1 ho).1];exact hl)
theorem Q6 {ops:Array Oper} {i j:Nat} {o:Oper} (ho:ops[i]? = some o) (h:Region.waitsFor .any ops i j=true):∃ e∈o.after,Region.binds .any e=true∧e.on=j:=by
 obtain ⟨oi,hoi,e,he,hb,hon⟩:=Region.waitsFor_spec h;obtain rfl:oi=o:=Option.some.inj (hoi.symm.trans ho);exact ⟨e,he,hb,hon⟩
theorem Aa7 {ops:Array Oper} {Q:Exit→Act→World→Prop} {F:Nat→Value→World→Prop} (hF:∀ i v w w',F i v w→Ext w w'→F i v w') {a0:Act} {w1:World} {sz:Nat} (hsz:a0.tmps.size=sz) (hd:Ef ops sz=true) {listed:Array Bool} (hls:listed.size=ops.size) {a:Act} {w:World} (inv:RegI ops F a0 w1 (fun j=>listed.getD j false) a w)
  {i:Nat} (hi:i∈Region.ready .any ops listed) (H:ROp P ops Q F a0 w1 i):wpOp P ops Q i (fun a' w'=>RegI ops F a0 w1 (fun j=>(listed.setIfInBounds i true).getD j false) a' w') a w:=by
 obtain ⟨hun,o,ho,hall⟩:=mem_ready.1 hi;have hin:=(Array.getElem?_eq_some_iff.1 ho).1;have hcon:∀ {a' w'},RegI ops F a0 w1 (fun j=>decide (j=i)||listed.getD j false) a' w'→RegI ops F a0 w1 (fun j=>(listed.setIfInBounds i true).getD j false) a' w':=fun h=>h.congr fun j hj=>by
  by_cases e:i=j
  ·subst e;simp [hls▸hin]
  ·rw [getD_set_ne false e];simp [Ne.symm e]
 have:=H o ho a w inv.ext (fun j oj hoj hw=>by
  obtain ⟨e,he,hb,hej⟩:=Q6 ho hw;exact inv.done j oj hoj (by rw [← hej];exact hall e he hb)) (fun e he=>inv.rest e fun j oj hoj _=>he j oj hoj)
 unfold wpOp;rw [ho];rcases this with ⟨hw,hwp⟩|⟨hw,hv⟩
 ·simp only [hw,if_true];refine .inl (Oper.wp_mono (fun a' w' h=>?_) hwp);obtain ⟨v,hvn,rfl,hE,hv⟩:=h;exact hcon (Kv hF hsz hd inv ho hvn hE hv)
 ·simp only [hw];exact hcon (Kv hF hsz hd inv ho (fun _=>rfl) (Ext.refl w) hv)
theorem Sd {ops:Array Oper} {Q:Exit→Act→World→Prop} {F:Nat→Value→World→Prop} (hF:∀ i v w w',F i v w→Ext w w'→F i v w') {a0:Act} {w1:World} {sz:Nat} (hsz:a0.tmps.size=sz) (hd:Ef ops sz=true) (hE:En ops ops.size=true)
  (hop:∀ i,i<ops.size→ROp P ops Q F a0 w1 i) (hend:∀ a w,RegI ops F a0 w1 (fun _=>true) a w→Q .normal a w) :
  ∀ (f:Nat) (listed:Array Bool) (a:Act) (w:World),listed.size=ops.size→RegI ops F a0 w1 (fun j=>listed.getD j false) a w→unl ops.size listed=f→wpAny P .any ops Q f listed a w
 | 0,listed,a,w,hs,hI,hu=>by
  have hall:=G5 _ listed hu;refine ⟨?_,hend a w (hI.congr fun j hj=>hall j hj)⟩;refine List.eq_nil_iff_forall_not_mem.2 fun i hi=>?_
  obtain ⟨hun,o,ho,_⟩:=mem_ready.1 hi;have hio:=(Array.getElem?_eq_some_iff.1 ho).1;have:=hall i hio;have hil:i<listed.size:=by omega
  rw [Array.getD_eq_getD_getElem?,Array.getElem?_eq_getElem hil] at hun this;rw [Option.getD_some] at hun this;rw [this] at hun;cases hun
 | f+1,listed,a,w,hs,hI,hu=>by
  obtain ⟨k,hk,hku,hkl⟩:=I5 ops.size listed (by omega);have hkr:=Lf hE hs (Nat.le_refl _) k hk hkl hku;refine ⟨fun h0=>(by rw [h0] at hkr;cases hkr),fun i hi=>?_⟩;obtain ⟨hiu,o,ho,_⟩:=mem_ready.1 hi;have hin:=(Array.getElem?_eq_some_iff.1 ho).1;have hil:i<listed.size:=by omega
  have hiu':listed.getD i false=false:=by
   rw [Array.getD_eq_getD_getElem?,Array.getElem?_eq_getElem hil] at hiu ⊢;exact hiu
  refine wpOp_mono (fun a' w' h=>Sd hF hsz hd hE hop hend f _ a' w' (by rw [Array.size_setIfInBounds];exact hs) h ?_) (Aa7 hF hsz hd hs hI hi (hop i hin));have:=Im _ listed i hin hil hiu';show unl ops.size (listed.setIfInBounds i true)=f;omega
theorem Sb {ops:Array Oper} {Q:Exit→Act→World→Prop} {F:Nat→Value→World→Prop} (hF:∀ i v w w',F i v w→Ext w w'→F i v w') {a0:Act} {w1:World} {sz:Nat} (hsz:a0.tmps.size=sz) (hd:Ef ops sz=true) (hE:En ops ops.size=true)
  (hop:∀ i,i<ops.size→ROp P ops Q F a0 w1 i) (hend:∀ a w,RegI ops F a0 w1 (fun _=>true) a w→Q .normal a w) :
  ∀ (l:List Oper) (k:Nat) (a:Act) (w:World),(∀ j,l[j]? = ops[k+j]?)→RegI ops F a0 w1 (fun j=>decide (j<k)) a w→wpList P ops Q l a w
 | [],k,a,w,hl,hI=>hend a w (hI.congr fun j hj=>by
   have:ops[k]? = none:=by simpa using (hl 0).symm
   have:=Array.getElem?_eq_none_iff.1 this;simp;omega)
 | o::l,k,a,w,hl,hI=>by
  have ho:ops[k]? = some o:=by simpa using (hl 0).symm
  have hk:=(Array.getElem?_eq_some_iff.1 ho).1;have hnext:∀ {a' w'},RegI ops F a0 w1 (fun j=>decide (j=k)||decide (j<k)) a' w'→wpList P ops Q l a' w':=fun h=>Sb hF hsz hd hE hop hend l (k+1) _ _ (fun j=>by have:=hl (j+1);simpa [Nat.add_assoc,Nat.add_comm 1 j] using this) (h.congr fun j _=>by rw [Bool.eq_iff_iff];simp only [Bool.or_eq_true,decide_eq_true_eq];omega)
  have:=hop k hk o ho a w hI.ext (fun j oj hoj hw=>hI.done j oj hoj (by
   obtain ⟨e,he,hb,hej⟩:=Q6 ho hw;have h2:=hE;unfold En at h2;rw [List.all_eq_true] at h2;have h3:=h2 k (List.mem_range.2 hk);rw [ho] at h3;simp only [Array.all_eq_true'] at h3;have h4:=h3 e he;simp only [hb,Bool.not_true,Bool.false_or,decide_eq_true_eq] at h4;simp;omega)) (fun e he=>hI.rest e fun j oj hoj _=>he j oj hoj)
  show if _ then _ else _
  rcases this with ⟨hw,hwp⟩|⟨hw,hv⟩
  ·rw [if_pos hw];refine .inl (Oper.wp_mono (fun a' w' h=>?_) hwp);obtain ⟨v,hvn,rfl,hEx,hv⟩:=h;exact hnext (Kv hF hsz hd hI ho hvn hEx hv)
  ·rw [if_neg (by rw [hw];exact Bool.false_ne_true)];exact hnext (Kv hF hsz hd hI ho (fun _=>rfl) (Ext.refl w) hv)
theorem Oo {α:Type} {l:List α} {i:Nat} {x:α} (h:l.toArray[i]? = some x):l[i]? = some x:=by simpa using h
theorem Qg {l:List Oper} {E:Nat→AV} {W:World}:∀ (os:List Oper) (ss:List (Sc P w)) (i:Nat) (o:Oper),J0 l E W os ss=Jz l E W os ss→os.length=ss.length→os[i]? = some o→∃ s,ss[i]? = some s∧scL l E o W s=scR l E o W s
 | [],_,i,o,_,_,h=>by simp at h
 | o'::os,[],i,o,_,hl,_=>by simp at hl
 | o'::os,s::ss,0,o,h,_,ho=>by
  obtain rfl:o'=o:=by simpa using ho
  exact ⟨s,by simp,(List.cons.inj h).1⟩
 | o'::os,s::ss,i+1,o,h,hl,ho=>by
  obtain ⟨s',h1,h2⟩:=Qg os ss i o (List.cons.inj h).2 (by simpa using hl) (by simpa using ho);exact ⟨s',by simpa using h1,h2⟩
theorem J6:∀ {xs ys:List AV},xs.map XX.av=ys.map XX.av→xs=ys
 | [],[],_=>rfl
 | [],_::_,h=>by cases h
 | _::_,[],h=>by cases h
 | x::xs,y::ys,h=>by
  simp only [List.map_cons,List.cons.injEq,XX.av.injEq] at h;rw [h.1,J6 h.2]
theorem Pb {W:World} {E:Nat→AV} {ρ:Operand→Value}:∀ (xs:List Operand),(∀ x∈xs,(oev E x).holds W (ρ x))→Cx W (xs.map (oev E)) (xs.map ρ)
 | [],_=>trivial
 | x::xs,h=>⟨h x List.mem_cons_self,Pb xs fun y hy=>h y (List.mem_cons_of_mem _ hy)⟩
theorem Aar {l:List Oper} {Q:Exit→Act→World→Prop} {E:Nat→AV} {a0:Act} {sz:Nat} (hB:scB l sz=true) {i:Nat} {o:Oper} (ho:l[i]? = some o) {s:Sc P w}
  (hs:∀ W,scL l E o W s=scR l E o W s) (h0:∀ e,(∀ (j:Nat) (oj:Oper),l[j]? = some oj→oj.dst≠some e)→E e=.c (a0.tmps.getD e undef)) :
  ROp P l.toArray Q (fun i v W=>match l[i]? with|some o=>(E (o.dst.getD 0)).holds W v|none=>True) a0 w i:=by
 intro o' ho' a W hE hdep hkeep;obtain rfl:o=o':=Option.some.inj (ho.symm.trans (Oo ho'));simp only [scB,Bool.and_eq_true,List.all_eq_true,List.mem_range] at hB;have hil:i<l.length:=(List.getElem?_eq_some_iff.1 ho).1;have hop:=hB.2 i hil;rw [ho] at hop;simp only [Oe,Bool.and_eq_true] at hop;obtain ⟨⟨⟨hsel,hdst⟩,hopd⟩,hgd⟩:=hop;have hsel':∀ cs b,o.op≠.select cs b:=fun cs b e=>by rw [e] at hsel;cases hsel
 obtain ⟨d,hd⟩:=Option.isSome_iff_exists.1 hdst;have hslot:∀ (j:Nat) (oj:Oper) (dj:Nat),l[j]? = some oj→oj.dst=some dj→Region.waitsFor .any l.toArray i j=true→(E dj).holds W (a.tmps.getD dj undef):=fun j oj dj hoj hdj hw=>by
  have:=hdep j oj (by simpa using hoj) hw;simp only [hoj] at this;unfold Ch at this;rw [hdj] at this;exact this
 have hx:∀ x∈o.op.operands,(oev E x).holds W (a.eval x):=fun x hx=>by
  have hxo:=(List.all_eq_true.1 hopd) x (by simpa using hx);cases x with
  | const v=>rfl
  | global g=>rfl
  | func f=>rfl
  | tmp t=>
   simp only [Rw,List.all_eq_true,List.mem_range] at hxo;by_cases hex:∃ (j:Nat) (oj:Oper),l[j]? = some oj∧oj.dst=some t
   ·obtain ⟨j,oj,hoj,hdj⟩:=hex;have:=hxo j (List.getElem?_eq_some_iff.1 hoj).1;rw [hoj] at this;simp only [hdj,if_true] at this;exact hslot j oj t hoj hdj this
   ·have hno:∀ (j:Nat) (oj:Oper),l[j]? = some oj→oj.dst≠some t:=fun j oj hoj hdj=>hex ⟨j,oj,hoj,hdj⟩
    show (E t).holds W (a.tmps.getD t undef);rw [h0 t hno,hkeep t fun j oj hoj=>hno j oj (Oo hoj)];rfl
 have hs1:=hs W;have hres:E d=He P w E o s:=by
  have:=(List.cons.inj hs1).1;rw [hd] at this;exact XX.av.inj this
 have hF:∀ v W',(match l[i]? with|some o=>(E (o.dst.getD 0)).holds W' v|none=>True)=(He P w E o s).holds W' v:=fun v W'=>by
  rw [ho];show (E (o.dst.getD 0)).holds W' v=_;rw [hd];show (E d).holds W' v=_;rw [hres]
 have hs2:=(List.cons.inj hs1).2;have hgv:∀ (k:Nat) (b x:Bool),o.guard=some (k,b)→E (Hz l k)=.c (.bool x)→yielded l.toArray a.tmps k=some x:=fun k b x hg he=>by
  rw [hg] at hgd;simp only [Bool.and_eq_true] at hgd;cases hok:l[k]? with
  | none=>rw [hok] at hgd;exact absurd hgd.1 (by simp)
  | some ok=>
   rw [hok] at hgd;obtain ⟨dk,hdk⟩:=Option.isSome_iff_exists.1 hgd.1;have h1:=hslot k ok dk hok hdk hgd.2;have h2:Hz l k=dk:=by simp [Hz,hok,hdk]
   rw [h2] at he;rw [he] at h1;have h3:a.tmps.getD dk undef=.bool x:=h1;have h4:a.tmps[dk]? = some (.bool x):=by
    rw [Array.getD_eq_getD_getElem?] at h3;cases hh:a.tmps[dk]? with
    | none=>rw [hh] at h3;cases h3
    | some u=>rw [hh] at h3;exact congrArg some h3
   unfold yielded;have h5:l.toArray[k]? = some ok:=by simpa using hok
   rw [h5];simp only [Option.bind_some,hdk,h4]
 have hwant:∀ b,(∀ k b',o.guard=some (k,b')→yielded l.toArray a.tmps k=some (if b then b' else !b'))→(b=false→o.guard≠none)→Region.wanted o (yielded l.toArray a.tmps)=b:=fun b h1 h2=>by
  unfold Region.wanted;cases hg:o.guard with
  | none=>cases b with
   | false=>exact absurd hg (h2 rfl)
   | true=>rfl
  | some p=>
   obtain ⟨k,b'⟩:=p;simp only [h1 k b' hg];cases b<;>cases b'<;>rfl
 obtain ⟨hG,hT⟩:=List.append_inj hs2 (by cases o.guard<;>rfl);have hguard:∀ b':Bool,(match s with|.skip=>some false|.skipu=>none|_=>some true)=some b'→∀ k b,o.guard=some (k,b)→yielded l.toArray a.tmps k=some (if b' then b else !b):=fun b' hb' k b hg=>by
  rw [hg] at hG;simp only [List.cons.injEq,XX.av.injEq,and_true] at hG;refine hgv k b _ hg (hG.trans ?_);cases s<;>first|(cases hb';rfl)|(cases hb')
 have hv0:∀ v:Value,o.dst=none→v=undef:=fun v h=>by rw [hd] at h;cases h
 have hρ:(∀ x∈o.op.operands,oev E x=.c (oev E x).val)→execOp a.eval o=execOp (fun x=>(oev E x).val) o:=fun h=>execOp_congr o hsel' fun x hxo=>by
  have:=hx x hxo;rw [h x hxo] at this;exact this
 cases s with
 | skip=>
  refine .inr ⟨hwant false (hguard false rfl) (fun _ hg=>?_),?_⟩
  ·rw [hg] at hT;exact absurd hT (by simp)
  ·simp only [hF];rfl
 | skipu=>
  cases hg:o.guard with
  | none=>rw [hg] at hT;exact absurd hT (by simp)
  | some p=>
   obtain ⟨k,b⟩:=p;rw [hg] at hG hgd;simp only [List.cons.injEq,XX.av.injEq,and_true] at hG;simp only [Bool.and_eq_true] at hgd;have hy:yielded l.toArray a.tmps k=none:=by
    cases hok:l[k]? with
    | none=>rw [hok] at hgd;exact absurd hgd.1 (by simp)
    | some ok=>
     rw [hok] at hgd;obtain ⟨dk,hdk⟩:=Option.isSome_iff_exists.1 hgd.1;have h1:=hslot k ok dk hok hdk hgd.2;have h2:Hz l k=dk:=by simp [Hz,hok,hdk]
     rw [h2] at hG;rw [hG] at h1;have h3:a.tmps.getD dk undef=undef:=h1;unfold yielded;have h5:l.toArray[k]? = some ok:=by simpa using hok
     rw [h5];simp only [Option.bind_some,hdk];rw [Array.getD_eq_getD_getElem?] at h3;cases hh:a.tmps[dk]? with
     | none=>rfl
     | some u=>
      rw [hh] at h3;have h4:u=undef:=h3;rw [h4];rfl
   refine .inr ⟨?_,?_⟩
   ·unfold Region.wanted;simp only [hg,hy];rfl
   ·simp only [hF];rfl
 | pure=>
  refine .inl ⟨hwant true (hguard true rfl) (fun h=>by cases h),?_⟩;obtain ⟨hr,hxs⟩:=List.cons.inj hT;have hr:=XX.res.inj hr;have hall:∀ x∈o.op.operands,oev E x=.c (oev E x).val:=fun x hxo=>by
   have e:(o.op.operands.toList.map (oev E)).map XX.av=(o.op.operands.toList.map fun x=>AV.c (oev E x).val).map XX.av:=by
    rw [List.map_map,List.map_map];exact hxs
   exact List.map_inj_left.1 (J6 e) x (by simpa using hxo)
  refine Cy (v:=pv P w E o) (w':=W) (by rw [hρ hall];exact hr) ?_;exact ⟨_,hv0 _,rfl,Ext.refl W,by simp only [hF];rfl⟩
 | keep=>
  refine .inl ⟨hwant true (hguard true rfl) (fun h=>by cases h),?_⟩;cases hop:o.op with
  | move x=>
   refine Cy (v:=a.eval x) (w':=W) (BigFrame.run_move x hop W) ⟨_,hv0 _,rfl,Ext.refl W,?_⟩;simp only [hF,He,moved,hop];exact hx x (by rw [hop];simp [Op.operands])
  | assign x=>
   refine Cy (v:=a.eval x) (w':=W) (BigFrame.run_assign x hop W) ⟨_,hv0 _,rfl,Ext.refl W,?_⟩;simp only [hF,He,moved,hop];exact hx x (by rw [hop];simp [Op.operands])
  | _=>simp [hop] at hT
 | load ty g cs t fr dd hg hu hdd hi=>
  refine .inl ⟨hwant true (hguard true rfl) (fun h=>by cases h),?_⟩;have hT:(match o.op with|.load t x=>[XX.ty t,XX.av (oev E x)]|_=>[XX.no])=[XX.ty ty,XX.av (.c (.pointer (some ⟨g,0,none⟩)))]:=hT;cases hop:o.op with
  | load t' x=>
   simp only [hop,List.cons.injEq,XX.ty.injEq,XX.av.injEq,and_true] at hT;obtain ⟨rfl,hT2⟩:=hT;have hxx:=hx x (by rw [hop];simp [Op.operands]);rw [hT2] at hxx;refine Cy (v:=.agg cs) (w':=W) (Ahb t' x hop g hxx t cs fr dd (hg W hE) hu hdd hi) ⟨_,hv0 _,rfl,Ext.refl W,?_⟩;simp only [hF];rfl
  | _=>simp [hop] at hT
 | call f he args res hm h=>
  refine .inl ⟨hwant true (hguard true rfl) (fun h=>by cases h),?_⟩;have hT:(match o.op with|.call c=>(match c.callee with|.value (.func f)=>XX.fn f::c.args.toList.map fun x=>XX.av (oev E x)|_=>[XX.no])|_=>[XX.no])=XX.fn f::args.map XX.av:=hT;cases hop:o.op with
  | call c=>
   simp only [hop] at hT;cases hc:c.callee with
   | value fx=>
    cases fx with
    | func f'=>
     simp only [hc,List.cons.injEq,XX.fn.injEq] at hT;obtain ⟨rfl,hT2⟩:=hT;have e:(c.args.toList.map (oev E)).map XX.av=args.map XX.av:=by rw [List.map_map];exact hT2
     have hargs:=J6 e;have hh:Cx W args (c.args.toList.map a.eval):=by
      rw [← hargs];exact Pb _ fun x hxo=>hx x (by rw [hop];simp [Op.operands,Call.operands,hc];exact .inr (by simpa using hxo))
     have hC:=h W _ hE hh;have hrun:(execOp a.eval o).run P W=.ok (.enter f' (c.args.toList.map a.eval).toArray) W:=by
      have e1:execOp a.eval o=callFunc f' (c.args.toList.map a.eval).toArray:=by
       obtain ⟨dst,op,type,pos,after,guard⟩:=o;simp only at hop;subst hop;obtain ⟨callee,cargs,ats⟩:=c;simp only at hc;subst hc;rw [execOp_call_go]
       congr 1
       apply Array.toList_inj.1;simp
      rw [e1];exact he _ W
     unfold Oper.wp;rw [hrun,Oper.upon_enter];refine hC.mono fun e W' ⟨v,hev,hv,hEx⟩=>?_
     subst hev;exact ⟨v,hv0 _,rfl,hEx,by simp only [hF];exact hv⟩
    | _=>simp [hc] at hT
   | _=>simp [hc] at hT
  | _=>simp [hop] at hT
 | gen op args res hm h=>
  refine .inl ⟨hwant true (hguard true rfl) (fun h=>by cases h),?_⟩;obtain ⟨hop,hxs⟩:=List.cons.inj hT;have hop:=XX.op.inj hop;have e:(o.op.operands.toList.map (oev E)).map XX.av=args.map XX.av:=by rw [List.map_map];exact hxs
  have hh:Cx W args (op.operands.toList.map a.eval):=by
   rw [← J6 e,← hop];exact Pb _ fun x hxo=>hx x (by simpa using hxo)
  obtain ⟨v,hr,hv⟩:=h a.eval o W hop hE hh;exact Cy hr ⟨v,hv0 _,rfl,Ext.refl W,by simp only [hF];exact hv⟩
theorem R8:∀ (l:List Oper) (ss:List (Sc P w)) (E:Nat→AV),(∀ e,(E e).Mono)→∀ e,(scE P w l ss E e).Mono
 | [],_,E,h,e=>by unfold scE;exact h e
 | _::_,[],E,h,e=>by unfold scE;exact h e
 | o::l,s::ss,E,h,e=>by
  have hoev:∀ x,(oev E x).Mono:=fun x=>by
   cases x with
   | tmp t=>exact h t
   | _=>exact AV.mono_c _
  unfold scE;refine R8 l ss _ (fun e'=>?_) e;cases o.dst with
  | none=>exact h e'
  | some d=>
   show (upd E d _ e').Mono;unfold upd;split
   ·cases s with
    | keep=>
     show (moved E o.op).Mono;unfold moved;split
     ·exact hoev _
     ·exact hoev _
     ·exact AV.mono_c _
    | call f he args res hm hh=>exact hm
    | gen op args res hm hh=>exact hm
    | _=>exact AV.mono_c _
   ·exact h e'
theorem Nc:∀ (l:List Oper) (ss:List (Sc P w)) (E:Nat→AV) (e:Nat),(∀ (j:Nat) (oj:Oper),l[j]? = some oj→oj.dst≠some e)→scE P w l ss E e=E e
 | [],_,E,e,_=>by unfold scE;rfl
 | _::_,[],E,e,_=>by unfold scE;rfl
 | o::l,s::ss,E,e,h=>by
  unfold scE;rw [Nc l ss _ e fun j oj hj=>h (j+1) oj (by simpa using hj)];cases hd:o.dst with
  | none=>rfl
  | some d=>
   show upd E d _ e=E e;unfold upd;rw [if_neg fun he=>h 0 o rfl (by rw [hd,he])]
def ev0 (a:Act):Nat→AV:=fun n=>.c (a.tmps.getD n undef)
theorem Qn {id:Nat} {l:List Oper} {Q:Exit→Act→World→Prop} {a0:Act} (sz:Nat) (dr:Bool) (ss:List (Sc P w)) (hm:dr=true→P.follows .mixedOrders=true) (hB:scB l sz=true) (hsz:a0.tmps.size=sz) (hl:l.length=ss.length)
  (hs:∀ W,J0 l (scE P w l ss (ev0 a0)) W l ss=Jz l (scE P w l ss (ev0 a0)) W l ss)
  (hend:∀ a' W,Ext w W→a'.defers=a0.defers→a'.tmps.size=sz→(∀ e,(scE P w l ss (ev0 a0) e).holds W (a'.tmps.getD e undef))→Q .normal a' W):(Code.region id l.toArray dr).wp P Q a0 w:=by
 have hB':Hh l.toArray sz=true:=by
  have:=hB;simp only [scB,Bool.and_eq_true] at this;exact this.1
 simp only [Hh,Bool.and_eq_true] at hB';obtain ⟨E,hE⟩:∃ E,scE P w l ss (ev0 a0)=E:=⟨_,rfl⟩;have hmono:∀ e,(E e).Mono:=fun e=>by rw [← hE];exact R8 l ss _ (fun e=>AV.mono_c _) e
 have h0:∀ e,(∀ (j:Nat) (oj:Oper),l[j]? = some oj→oj.dst≠some e)→E e=.c (a0.tmps.getD e undef):=fun e he=>by rw [← hE];exact Nc l ss _ e he
 rw [hE] at hs hend;have hF:∀ (i:Nat) v W W',(match l[i]? with|some o=>(E (o.dst.getD 0)).holds W v|none=>True)→Ext W W'→(match l[i]? with|some o=>(E (o.dst.getD 0)).holds W' v|none=>True):=fun i v W W' h hx=>by
  cases hl:l[i]? with
  | none=>trivial
  | some o=>rw [hl] at h;exact hmono _ W W' v h hx
 have hop:∀ i,i<l.toArray.size→ROp P l.toArray Q (fun i v W=>match l[i]? with|some o=>(E (o.dst.getD 0)).holds W v|none=>True) a0 w i:=fun i hi=>by
  have ho:l[i]? = some (l[i]'(by simpa using hi)):=List.getElem?_eq_getElem _;have:∃ s,ss[i]? = some s∧∀ W,scL l E (l[i]'(by simpa using hi)) W s=scR l E (l[i]'(by simpa using hi)) W s:=by
   obtain ⟨s,h1,_⟩:=Qg l ss i _ (hs w) hl ho;refine ⟨s,h1,fun W=>?_⟩;obtain ⟨s',h1',h2⟩:=Qg l ss i _ (hs W) hl ho;rw [h1] at h1';rw [Option.some.inj h1'];exact h2
  obtain ⟨s,_,h2⟩:=this;exact Aar hB ho h2 h0
 have hfin:∀ a W,RegI l.toArray (fun i v W=>match l[i]? with|some o=>(E (o.dst.getD 0)).holds W v|none=>True) a0 w (fun _=>true) a W→Q .normal a W:=fun a W inv=>by
  refine hend a W inv.ext inv.defers (inv.size.trans hsz) fun e=>?_
  by_cases hex:∃ (j:Nat) (oj:Oper),l[j]? = some oj∧oj.dst=some e
  ·obtain ⟨j,oj,hoj,hdj⟩:=hex;have:=inv.done j oj (by simpa using hoj) rfl;rw [hoj] at this;simp only [hdj,Ch] at this;exact this
  ·have hno:∀ (j:Nat) (oj:Oper),l[j]? = some oj→oj.dst≠some e:=fun j oj hoj hdj=>hex ⟨j,oj,hoj,hdj⟩
   rw [h0 e hno,inv.rest e fun j oj hoj _=>hno j oj (Oo hoj)];rfl
 cases dr with
 | false=>exact wp_region_lit (Sb hF hsz hB'.1 hB'.2 hop hfin l 0 a0 w (fun j=>by simp) ⟨Ext.refl w,rfl,rfl,fun i o _ h=>by simp at h,fun d _=>rfl⟩)
 | true=>
  have hop':∀ i,i<l.toArray.size→ROp P l.toArray Q (fun i v W=>match l[i]? with|some o=>(E (o.dst.getD 0)).holds W v|none=>True) a0 w.drew i:=fun i hi o ho a W hx=>hop i hi o ho a W ((Ext.refl w).drew.trans hx)
  refine wp_region_any (hm rfl) (Sd hF hsz hB'.1 hB'.2 hop' (fun a W inv=>hfin a W ⟨(Ext.refl w).drew.trans inv.ext,inv.defers,inv.size,inv.done,inv.rest⟩) _ _ a0 w.drew (by simp) ⟨Ext.refl _,rfl,rfl,fun i o _ hl=>(by rw [getD_replicate_false] at hl;cases hl),fun d _=>rfl⟩ ?_);have hu:∀ m,unl m (Array.replicate l.toArray.size false)=m:=fun m=>by
   induction m with
   | zero=>rfl
   | succ m ih=>rw [Es,ih,getD_replicate_false];simp
  exact hu _
theorem G1 {id:Nat} {l:List Oper} {Q:Exit→Act→World→Prop} {a0:Act} (sz:Nat) (dr:Bool) (t:Nat) (v:Value) (ss:List (Sc P w)) (hm:dr=true→P.follows .mixedOrders=true) (hB:scB l sz=true) (hsz:a0.tmps.size=sz) (hl:l.length=ss.length)
  (hs:∀ W,J0 l (scE P w l ss (ev0 a0)) W l ss=Jz l (scE P w l ss (ev0 a0)) W l ss) (hv:scE P w l ss (ev0 a0) t=.c v)
  (hend:∀ a' W,Ext w W→a'.defers=a0.defers→a'.tmps.getD t undef=v→Q .normal a' W):(Code.region id l.toArray dr).wp P Q a0 w:=
 Qn sz dr ss hm hB hsz hl hs fun a' W h1 h2 _ h4=>hend a' W h1 h2 (by
  have:=h4 t;rw [hv] at this;exact this)
def B7:List Oper→List Value→Act→Act
 | o::l,v::vs,a=>B7 l vs (a.put o.dst v)
 | _,_,a=>a
theorem Nw:∀ (l:List Oper) (vs:List Value) (a:Act),(B7 l vs a).tmps.size=a.tmps.size∧(B7 l vs a).defers=a.defers
 | [],_,a=>by unfold B7;exact ⟨rfl,rfl⟩
 | _::_,[],a=>by unfold B7;exact ⟨rfl,rfl⟩
 | o::l,v::vs,a=>by
  unfold B7;rw [(Nw l vs _).1,(Nw l vs _).2];exact Hg a o.dst v
theorem St (e:Nat):∀ (l:List Oper) (vs:List Value) (a:Act),(∀ o∈l,∃ d,o.dst=some d∧d<a.tmps.size)→l.length=vs.length→
  (B7 l vs a).tmps.getD e undef=a.tmps.getD e undef∧(∀ o∈l,o.dst≠some e)∨∃ (i:Nat) (o:Oper) (v:Value),l[i]? = some o∧vs[i]? = some v∧o.dst=some e∧(B7 l vs a).tmps.getD e undef=v
 | [],_,a,_,_=>by unfold B7;exact .inl ⟨rfl,fun o h=>by simp at h⟩
 | _::_,[],a,_,h=>by simp at h
 | o::l,v::vs,a,h,hl=>by
  obtain ⟨d,hd,hda⟩:=h o List.mem_cons_self;have ih:=St e l vs (a.put o.dst v) (fun o' ho'=>by rw [(Hg a o.dst v).1];exact h o' (List.mem_cons_of_mem _ ho')) (by simpa using hl);unfold B7;rcases ih with ⟨h1,h2⟩|⟨i,o',v',h1,h2,h3,h4⟩
  ·by_cases he:e=d
   ·subst he;refine .inr ⟨0,o,v,rfl,rfl,hd,?_⟩;rw [h1,hd,Eb _ _ _ _ hda,if_pos rfl]
   ·refine .inl ⟨?_,fun o' ho'=>?_⟩
    ·rw [h1,hd,Eb _ _ _ _ hda,if_neg he]
    ·rcases List.mem_cons.1 ho' with rfl|ho'
     ·rw [hd];exact fun h=>he (Option.some.inj h).symm
     ·exact h2 o' ho'
  ·exact .inr ⟨i+1,o',v',by simpa using h1,by simpa using h2,h3,h4⟩
theorem E6 {id:Nat} {l:List Oper} {Q:Exit→Act→World→Prop} {a0:Act} (sz:Nat) (dr:Bool) (az:List AV) (ss:List (Sc P w)) (hm:dr=true→P.follows .mixedOrders=true) (hB:scB l sz=true) (hsz:a0.tmps.size=sz) (hl:l.length=ss.length)
  (hs:∀ W,J0 l (scE P w l ss (ev0 a0)) W l ss=Jz l (scE P w l ss (ev0 a0)) W l ss) (hv:(l.map fun o=>scE P w l ss (ev0 a0) (o.dst.getD 0))=az)
  (hend:∀ W vs,Ext w W→Cx W az vs→Q .normal (B7 l vs a0) W):(Code.region id l.toArray dr).wp P Q a0 w:=by
 refine Qn sz dr ss hm hB hsz hl hs fun a' W h1 h2 h3 h4=>?_
 obtain ⟨vs,hvs⟩:∃ vs,(l.map fun o=>a'.tmps.getD (o.dst.getD 0) undef)=vs:=⟨_,rfl⟩;have hlen:l.length=vs.length:=by simpa using congrArg List.length hvs
 have hh:Cx W az vs:=by
  rw [← hv,← hvs];have:∀ k:List Oper,Cx W (k.map fun o=>scE P w l ss (ev0 a0) (o.dst.getD 0)) (k.map fun o=>a'.tmps.getD (o.dst.getD 0) undef):=fun k=>by
   induction k with
   | nil=>trivial
   | cons o k ih=>exact ⟨h4 _,ih⟩
  exact this l
 have hB':=hB;simp only [scB,Hh,Bool.and_eq_true,List.all_eq_true,List.mem_range] at hB';have hds:∀ o∈l,∃ d,o.dst=some d∧d<a0.tmps.size:=fun o ho=>by
  obtain ⟨i,hi,rfl⟩:=List.getElem_of_mem ho;have h5:=hB'.2 i hi;rw [List.getElem?_eq_getElem hi] at h5;simp only [Oe,Bool.and_eq_true] at h5;obtain ⟨d,hd⟩:=Option.isSome_iff_exists.1 h5.1.1.2;refine ⟨d,hd,?_⟩;rw [hsz];exact (Gs hB'.1.1 i l[i] (by simp) d hd).1
 have he:a'=B7 l vs a0:=by
  obtain ⟨s1,s2⟩:=Nw l vs a0;have ht:a'.tmps=(B7 l vs a0).tmps:=by
   apply Array.ext
   ·rw [s1,h3,hsz]
   ·intro e g1 g2;have hg:a'.tmps.getD e undef=(B7 l vs a0).tmps.getD e undef:=by
     rcases St e l vs a0 hds hlen with ⟨k1,k2⟩|⟨i,o,v,k1,k2,k3,k4⟩
     ·have:=h4 e;rw [Nc l ss _ e (fun j oj hj=>k2 oj (List.mem_of_getElem? hj))] at this;rw [k1];exact this
     ·have hv':=congrArg (fun x=>x[i]?) hvs;simp only [List.getElem?_map,k1,k2,Option.map_some,k3,Option.getD_some] at hv';rw [k4];exact Option.some.inj hv'
    rw [Array.getD_eq_getD_getElem?,Array.getD_eq_getD_getElem?,Array.getElem?_eq_getElem g1,Array.getElem?_eq_getElem g2] at hg;exact hg
  have hdf:=h2;rw [← s2] at hdf;generalize B7 l vs a0=b at *;cases a';cases b
  simp only at ht hdf;rw [ht,hdf]
 rw [he];exact hend W vs h1 hh
end
open Go.RowKit Go.Shelf
def lkL (n x:Nat):Nat:=if 97≤x∧x<97+n then x-97 else n
theorem Aen (n x:Nat):lkL n x<n+1:=by unfold lkL;split<;>omega
def Gn (n:Nat):Nat→Nat→Cls
 | 0,_=>0#256
 | b+1,k=>if lkL n b=k then Bj (Gn n b k) (b:Int) else Gn n b k
theorem Hn (n:Nat):∀ (b k x:Nat),b≤256→((Gn n b k).getLsbD x=true↔x<b∧lkL n x=k)
 | 0,k,x,_=>by simp [Gn]
 | b+1,k,x,hb=>by
  have ih:=Hn n b k x (by omega);unfold Gn;by_cases e:lkL n b=k
  ·rw [if_pos e,Jc _ b x (by omega),Bool.or_eq_true,decide_eq_true_eq,ih];constructor
   ·rintro (⟨h1,h2⟩|rfl)
    ·exact ⟨by omega,h2⟩
    ·exact ⟨by omega,e⟩
   ·rintro ⟨h1,h2⟩;by_cases hx:x=b
    ·exact .inr hx
    ·exact .inl ⟨by omega,h2⟩
  ·rw [if_neg e,ih];constructor
   ·rintro ⟨h1,h2⟩;exact ⟨by omega,h2⟩
   ·rintro ⟨h1,h2⟩;refine ⟨?_,h2⟩;rcases Nat.lt_or_ge x b with h|h
    ·exact h
    ·obtain rfl:x=b:=by omega
     exact absurd h2 e
def Hm (n b:Nat):List Cls:=(List.range (n+1)).map fun k=>Gn n b k
theorem Ae0 (n b:Nat):(Hm n b).length=n+1:=by simp [Hm]
theorem Aez (n:Nat) (hn:n≤100):Parts (Hm n 256) where
 nz:=fun c hc=>by
  obtain ⟨k,hk,rfl⟩:=List.mem_map.1 hc;have hk:=List.mem_range.1 hk;by_cases e:k=n
  ·subst e;exact Fw ((Hn k 256 k 0 (Nat.le_refl _)).2 ⟨by omega,by simp [lkL]⟩)
  ·exact Fw ((Hn n 256 k (97+k) (Nat.le_refl _)).2 ⟨by omega,by unfold lkL;rw [if_pos (by omega)];omega⟩)
 dis:=by
  unfold Hm;rw [List.pairwise_map];refine (List.nodup_iff_pairwise_ne.1 List.nodup_range).imp fun {i j} hij x hx=>hij ?_
  have h1:=(Hn n 256 i x (Nat.le_refl _)).1 hx.1;have h2:=(Hn n 256 j x (Nat.le_refl _)).1 hx.2;exact h1.2.symm.trans h2.2
 cov:=fun x hx=>⟨Gn n 256 (lkL n x),List.mem_map.2 ⟨_,List.mem_range.2 (Aen n x),rfl⟩,(Hn n 256 _ x (Nat.le_refl _)).2 ⟨hx,rfl⟩⟩
def ByW (W:World) (v:Value) (l:List UInt8):Prop:=
 l.length≤9223372036854775807∧((l.length=0∧∃ a cap,v=.slice a 0 cap)∨
  (0<l.length∧∃ b off cap,v=.slice (some ⟨b,off,none⟩) l.length cap∧b<W.heap.size∧∀ i,i<l.length→W.cell? ⟨b,off+i,none⟩=some (bv (l.getD i 0))))
theorem ByW.ext {W W':World} {v:Value} {l:List UInt8} (h:ByW W v l) (hE:Ext W W'):ByW W' v l:=by
 obtain ⟨h0,h|⟨h1,b,off,cap,hv,hb,hc⟩⟩:=h
 ·exact ⟨h0,.inl h⟩
 ·exact ⟨h0,.inr ⟨h1,b,off,cap,hv,Nat.lt_of_lt_of_le hb hE.size,fun i hi=>hE.cell (hc i hi)⟩⟩
theorem ByW.split {W:World} {v:Value} {l:List UInt8} (h:ByW W v l):∃ a b off cap,v=.slice a l.length cap∧(0<l.length→a=some ⟨b,off,none⟩)∧(0<l.length→b<W.heap.size)∧∀ i,i<l.length→W.cell? ⟨b,off+i,none⟩=some (bv (l.getD i 0)):=by
 obtain ⟨h0,⟨hn,a,cap,rfl⟩|⟨hn,b,off,cap,rfl,hb,hc⟩⟩:=h
 ·exact ⟨a,0,0,cap,by rw [hn],by omega,by omega,by omega⟩
 ·exact ⟨_,b,off,cap,rfl,fun _=>rfl,fun _=>hb,hc⟩
def MadeOk (N M s:Nat) (R:List (List Nat)) (Ac:List Bool):Prop:=
 R.length=s∧Ac.length=s∧∀ j,j<s→(R.getD j []).length=M∧∀ k,k<M→(R.getD j []).getD k 0<N
theorem MadeOk.snoc {N M s:Nat} {R:List (List Nat)} {Ac:List Bool} (h:MadeOk N M s R Ac) {r:List Nat} (hl:r.length=M) (hr:∀ k,k<M→r.getD k 0<N) (b:Bool):MadeOk N M (s+1) (R++[r]) (Ac++[b]):=by
 obtain ⟨h1,h2,h3⟩:=h;refine ⟨by simp [h1],by simp [h2],fun j hj=>?_⟩;by_cases e:j<R.length
 ·rw [Bi _ _ _ _ e];exact h3 j (by omega)
 ·obtain rfl:j=R.length:=by omega
  rw [Bw];exact ⟨hl,hr⟩
theorem MadeOk.val {N M:Nat} {R:List (List Nat)} {Ac:List Bool} (h:MadeOk N M N R Ac) (h0:0<N) {C:List Cls} (hC:Parts C) (hM:C.length=M):Val ⟨C,R,Ac⟩ where
 pos:=by show 0<R.length;rw [h.1];exact h0
 accL:=by show Ac.length=R.length;rw [h.1,h.2.1]
 row:=fun s hs=>by
  show (R.getD s []).length=C.length;rw [hM];exact (h.2.2 s (by rw [← h.1];exact hs)).1
 tgt:=fun s hs k hk=>by
  show (R.getD s []).getD k 0<R.length;rw [h.1];exact (h.2.2 s (by rw [← h.1];exact hs)).2 k (by rw [← hM];exact hk)
 parts:=hC
theorem RowsO.moved {W W':World} {base:Nat} {vs:List Value} {R:List (List Nat)} {g g7:Nat} {o:Obj} (h:RowsO W base vs R (fun o=>o=some g)) (hg:some g=some g7∨g7=(W.alloc o).heap.size) (hgr:(W.alloc o).grownBy W' (some g)):RowsO W' base vs R (fun o=>o=some g7):=by
 refine RowsO.kept ((h.av (av':=fun o=>o=some g∨o=some g7) (fun v l ho hav e=>?_)).alloc o) hgr (fun v l ho hav=>.inr fun e=>hav (.inl e)) |>.av (fun v l ho hav e=>hav (.inr e))
 rcases e with e|e
 ·exact hav e
 ·rcases hg with h7|h7
  ·exact hav (by show _=some g;rw [h7,← e])
  ·have:=(ho.lt _ e).2;rw [World.size_alloc] at h7;omega
structure MadeAt (W:World) (L N:Nat) (R:List (List Nat)) (Ac:List Bool) (vs:List Value) (vn va:Value) (ac:Option Addr) (cc base:Nat):Prop where
 n1:0<N
 n5:N≤5
 l3:L≤3
 cls:Cs W (.slice ac (L+1) cc) (Hm L 256)
 clb:∃ b o,ac=some ⟨b,o,none⟩∧b<base
 nxt:W.ownsRow base 68 1 vn vs.length vs
 acc:OwnB W base va Ac
 rows:RowsO W base vs R (fun _=>False)
 apart:vs.Pairwise fun v v'=>v.ownBlock≠v'.ownBlock
 ok:MadeOk N (L+1) N R Ac
theorem Sl.grown {W W':World} {b o c m k n:Nat} {f:Nat→Value} {row:Option Nat} (h:Sl W (.slice (some ⟨b,o,none⟩) m c) k n f) (hg:W.grownBy W' row) (hne:some b≠row):Sl W' (.slice (some ⟨b,o,none⟩) m c) k n f:=by
 obtain ⟨h0,⟨hn,a,cap,he⟩|⟨hn,b',off,cap,he,hb,hc⟩⟩:=h
 ·exact ⟨h0,.inl ⟨hn,a,cap,he⟩⟩
 ·have e1:b=b':=by
   injection he with e1 _ _
   injection e1 with e1
   injection e1
  subst e1;refine ⟨h0,.inr ⟨hn,_,_,_,he,Nat.lt_of_lt_of_le hb hg.size,fun i hi=>?_⟩⟩;rw [World.cell?_of_block (hg.block b hb hne)];exact hc i hi
theorem MadeAt.val {W:World} {L N:Nat} {R:List (List Nat)} {Ac:List Bool} {vs:List Value} {vn va:Value} {ac:Option Addr} {cc base:Nat} (h:MadeAt W L N R Ac vs vn va ac cc base):Val ⟨Hm L 256,R,Ac⟩:=
 h.ok.val h.n1 (Aez L (by have:=h.l3;omega)) (Ae0 _ _)
end Go.Proofs.YtaiogolidlamiaaGreatDoor
