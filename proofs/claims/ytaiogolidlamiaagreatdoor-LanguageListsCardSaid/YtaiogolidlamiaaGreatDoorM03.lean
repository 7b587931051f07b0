import Derived.Test.YtaiogolidlamiaaGreatDoorM02
set_option linter.unusedVariables false
set_option linter.unusedSimpArgs false
namespace Go.Proofs.YtaiogolidlamiaaGreatDoor
set_option maxRecDepth 100000
open Go
theorem Afl {P:Program} {o:Oper} {a:Act} {w:World} (ty:TypeId) (x:Operand) (ho:o.op=.load ty x) (g:Nat) (hx:a.eval x=.pointer (some ⟨g,0,none⟩)) (t:TypeId) (cs:Array Value) (fr:Nat × Nat) (d:TypeDesc) (hg:w.heap[g]? = some (.cells cs t fr))
  (hu:P.underlying ty=some d) (hd:(match d with|.struct _|.array _ _=>true|_=>false)=true) (hi:(P.info? ty).map (·.size)=some cs.size):(execOp a.eval o).run P w=.ok (.value (.agg cs)) w:=by
 unfold execOp;simp only [ho,hx,Instr.loadAt,Instr.sureAddr,Sem.run_bind,Sem.run_pure,Result.andThen_ok,run_loadVar_row w g t ty cs fr d hg hu hd hi]
inductive AV where
 | c (v:Value)
 | r (R:World→Value→Prop)
def AV.holds (x:AV) (W:World) (v:Value):Prop:=match x with
 | .c u=>v=u
 | .r R=>R W v
def AV.val:AV→Value
 | .c u=>u
 | .r _=>undef
def AV.Mono (x:AV):Prop:=∀ W W' v,x.holds W v→Ext W W'→x.holds W' v
theorem AV.mono_c (v:Value):(AV.c v).Mono:=fun _ _ _ h _=>h
def D3 (W:World):List AV→List Value→Prop
 | [],[]=>True
 | x::xs,v::vs=>x.holds W v∧D3 W xs vs
 | _,_=>False
theorem Is {W:World}:∀ {us vs:List Value},D3 W (us.map AV.c) vs→vs=us
 | [],[],_=>rfl
 | [],_::_,h=>h.elim
 | _::_,[],h=>h.elim
 | u::us,v::vs,h=>by
  have h1:v=u:=h.1;rw [h1,Is h.2]
inductive Sc (P:Program) (w:World) where
 | pure
 | skip
 | skipu
 | keep
 | load (ty:TypeId) (g:Nat) (cs:Array Value) (t:TypeId) (fr:Nat × Nat) (d:TypeDesc) (hg:∀ W,Ext w W→W.heap[g]? = some (.cells cs t fr)) (hu:P.underlying ty=some d) (hd:(match d with|.struct _|.array _ _=>true|_=>false)=true) (hi:(P.info? ty).map (·.size)=some cs.size)
 | call (f:FuncId) (he:∀ args W,(callFunc f args).run P W=.ok (.enter f args) W) (args:List AV) (res:AV) (hm:res.Mono) (h:∀ W vs,Ext w W→D3 W args vs→Calls P f vs.toArray W fun e w'=>∃ v,e=.returned v∧res.holds w' v∧Ext W w')
 | gen (op:Op) (args:List AV) (res:AV) (hm:res.Mono) (h:∀ (ρ:Operand→Value) (o:Oper) W,o.op=op→Ext w W→D3 W args (op.operands.toList.map ρ)→∃ v,(execOp ρ o).run P W=.ok (.value v) W∧res.holds W v)
def upd (E:Nat→AV) (d:Nat) (x:AV):Nat→AV:=fun n=>if n=d then x else E n
def oev (E:Nat→AV):Operand→AV
 | .tmp t=>E t
 | .const v=>.c v
 | .global g=>.c (.pointer (some ⟨g,0,none⟩))
 | .func f=>.c (.func (.func f) #[] #[])
section
variable {P:Program} {w:World}
def pvX:Result Next→Value
 | .ok (.value v) _=>v
 | _=>undef
def pv (P:Program) (w:World) (E:Nat→AV) (o:Oper):Value:=pvX ((execOp (fun x=>(oev E x).val) o).run P w)
def moved (E:Nat→AV):Op→AV
 | .move x=>oev E x
 | .assign x=>oev E x
 | _=>.c undef
def Gq (P:Program) (w:World) (E:Nat→AV) (o:Oper):Sc P w→AV
 | .pure=>.c (pv P w E o)
 | .skip=>.c undef
 | .skipu=>.c undef
 | .keep=>moved E o.op
 | .load _ _ cs _ _ _ _ _ _ _=>.c (.agg cs)
 | .call _ _ _ res _ _=>res
 | .gen _ _ res _ _=>res
def scE (P:Program) (w:World):List Oper→List (Sc P w)→(Nat→AV)→(Nat→AV)
 | o::l,s::ss,E=>scE P w l ss (match o.dst with|some d=>upd E d (Gq P w E o s)|none=>E)
 | _,_,E=>E
inductive XX where
 | av (a:AV)
 | res (r:Result Next)
 | ty (t:TypeId)
 | op (o:Op)
 | fn (f:FuncId)
 | no
def Hg (l:List Oper) (k:Nat):Nat:=match l[k]? with
 | some o=>o.dst.getD 0
 | none=>0
def scL (l:List Oper) (E:Nat→AV) (o:Oper) (W:World) (s:Sc P w):List XX:=
 XX.av (E (o.dst.getD 0))::(match o.guard with|none=>[]|some (k,_)=>[XX.av (E (Hg l k))])++
 match s with
 | .pure=>XX.res ((execOp (fun x=>(oev E x).val) o).run P W)::o.op.operands.toList.map fun x=>XX.av (oev E x)
 | .skip=>[]
 | .skipu=>[]
 | .keep=>match o.op with|.move x=>[XX.op (.move x)]|.assign x=>[XX.op (.move x)]|_=>[XX.no]
 | .load ty _ _ _ _ _ _ _ _ _=>match o.op with|.load t x=>[XX.ty t,XX.av (oev E x)]|_=>[XX.no]
 | .call f _ _ _ _ _=>match o.op with|.call c=>(match c.callee with|.value (.func f)=>XX.fn f::c.args.toList.map fun x=>XX.av (oev E x)|_=>[XX.no])|_=>[XX.no]
 | .gen _ _ _ _ _=>XX.op o.op::o.op.operands.toList.map fun x=>XX.av (oev E x)
def scR (l:List Oper) (E:Nat→AV) (o:Oper) (W:World) (s:Sc P w):List XX:=
 XX.av (Gq P w E o s)::(match o.guard with|none=>[]|some (_,b)=>[XX.av (.c (match s with|.skip=>.bool (!b)|.skipu=>undef|_=>.bool b))])++
 match s with
 | .pure=>XX.res (.ok (.value (pv P w E o)) W)::o.op.operands.toList.map fun x=>XX.av (.c (oev E x).val)
 | .skip=>(match o.guard with|none=>[XX.no]|some _=>[])
 | .skipu=>(match o.guard with|none=>[XX.no]|some _=>[])
 | .keep=>match o.op with|.move x=>[XX.op (.move x)]|.assign x=>[XX.op (.move x)]|_=>[]
 | .load ty g _ _ _ _ _ _ _ _=>[XX.ty ty,XX.av (.c (.pointer (some ⟨g,0,none⟩)))]
 | .call f _ args _ _ _=>XX.fn f::args.map XX.av
 | .gen op args _ _ _=>XX.op op::args.map XX.av
def Ho (l:List Oper) (E:Nat→AV) (W:World):List Oper→List (Sc P w)→List (List XX)
 | o::os,s::ss=>scL l E o W s::Ho l E W os ss
 | _,_=>[]
def Hn (l:List Oper) (E:Nat→AV) (W:World):List Oper→List (Sc P w)→List (List XX)
 | o::os,s::ss=>scR l E o W s::Hn l E W os ss
 | _,_=>[]
def Qa (l:List Oper) (i:Nat) (t:Nat):Bool:=(List.range l.length).all fun j=>match l[j]? with
 | none=>false
 | some oj=>if oj.dst=some t then Region.waitsFor .any l.toArray i j else true
def M5 (l:List Oper) (i:Nat) (o:Oper):Bool:=
 (match o.op with|.select _ _=>false|_=>true)&&o.dst.isSome&&(o.op.operands.toList.all fun x=>match x with|.tmp t=>Qa l i t|_=>true)&&
 (match o.guard with|none=>true|some (k,_)=>(match l[k]? with|some ok=>ok.dst.isSome|none=>false)&&Region.waitsFor .any l.toArray i k)
def scB (l:List Oper) (sz:Nat):Bool:=Gt l.toArray sz&&(List.range l.length).all fun i=>match l[i]? with
 | none=>false
 | some o=>M5 l i o
def ROp (P:Program) (ops:Array Oper) (Q:Exit→Act→World→Prop) (F:Nat→Value→World→Prop) (a0:Act) (w1:World) (i:Nat):Prop:=
 ∀ o,ops[i]? = some o→∀ a w,Ext w1 w→
  (∀ j oj,ops[j]? = some oj→Region.waitsFor .any ops i j=true→F j (Ce oj a) w)→
  (∀ e,(∀ (j:Nat) (oj:Oper),ops[j]? = some oj→oj.dst≠some e)→a.tmps.getD e undef=a0.tmps.getD e undef)→
  (Region.wanted o (yielded ops a.tmps)=true∧o.wp P a w (fun a' w'=>∃ v,(o.dst=none→v=undef)∧a'=a.put o.dst v∧Ext w w'∧F i v w') Q)∨
  (Region.wanted o (yielded ops a.tmps)=false∧F i undef w)
structure RegI (ops:Array Oper) (F:Nat→Value→World→Prop) (a0:Act) (w1:World) (listed:Nat→Bool) (a:Act) (w:World):Prop where
 ext:Ext w1 w
 defers:a.defers=a0.defers
 size:a.tmps.size=a0.tmps.size
 done:∀ i o,ops[i]? = some o→listed i=true→F i (Ce o a) w
 rest:∀ d,(∀ i o,ops[i]? = some o→listed i=true→o.dst≠some d)→a.tmps.getD d undef=a0.tmps.getD d undef
theorem J2 {ops:Array Oper} {F:Nat→Value→World→Prop} (hF:∀ i v w w',F i v w→Ext w w'→F i v w') {a0:Act} {w1:World} {sz:Nat} (hsz:a0.tmps.size=sz) (hd:D4 ops sz=true) {listed:Nat→Bool} {a:Act} {w w':World} (inv:RegI ops F a0 w1 listed a w)
  {i:Nat} {o:Oper} (ho:ops[i]? = some o) {v:Value} (hvn:o.dst=none→v=undef) (hE:Ext w w') (hv:F i v w'):RegI ops F a0 w1 (fun j=>decide (j=i)||listed j) (a.put o.dst v) w':=by
 have has:a.tmps.size=sz:=by rw [inv.size,hsz]
 refine ⟨inv.ext.trans hE,by rw [(Gs a o.dst v).2];exact inv.defers,by rw [(Gs a o.dst v).1];exact inv.size,fun j oj hoj hlj=>?_,fun e he=>?_⟩
 ·rw [Jn hd ho has hvn hoj];by_cases e:j=i
  ·rw [if_pos e,e];exact hv
  ·rw [if_neg e];have hlj:listed j=true:=by simpa [e] using hlj
   exact hF _ _ _ _ (inv.done j oj hoj hlj) hE
 ·have h1:(a.put o.dst v).tmps.getD e undef=a.tmps.getD e undef:=by
   cases hdd:o.dst with
   | none=>rfl
   | some d=>
    rw [D1 _ _ _ _ (by rw [has];exact (F8 hd i o ho d hdd).1),if_neg];exact fun h=>he i o ho (by simp) (by rw [hdd,h])
  rw [h1];exact inv.rest e fun j oj hoj hlj=>he j oj hoj (by simp [hlj])
theorem RegI.congr {ops:Array Oper} {F:Nat→Value→World→Prop} {a0:Act} {w1:World} {l l':Nat→Bool} {a:Act} {w:World} (inv:RegI ops F a0 w1 l a w) (h:∀ j,j<ops.size→l j=l' j):RegI ops F a0 w1 l' a w where
 ext:=inv.ext
 defers:=inv.defers
 size:=inv.size
 done:=fun i o ho hl=>inv.done i o ho (by rw [h i (Array.getElem?_eq_some_iff.1 ho).1];exact hl)
 rest:=fun d hd=>inv.rest d fun i o ho hl=>hd i o ho (by rw [← h i (Array.getElem?_eq_some_iff.1 ho).1];exact hl)
theorem Pk {ops:Array Oper} {i j:Nat} {o:Oper} (ho:ops[i]? = some o) (h:Region.waitsFor .any ops i j=true):∃ e∈o.after,Region.binds .any e=true∧e.on=j:=by
 obtain ⟨oi,hoi,e,he,hb,hon⟩:=Region.waitsFor_spec h;obtain rfl:oi=o:=Option.some.inj (hoi.symm.trans ho);exact ⟨e,he,hb,hon⟩
theorem Zg {ops:Array Oper} {Q:Exit→Act→World→Prop} {F:Nat→Value→World→Prop} (hF:∀ i v w w',F i v w→Ext w w'→F i v w') {a0:Act} {w1:World} {sz:Nat} (hsz:a0.tmps.size=sz) (hd:D4 ops sz=true) {listed:Array Bool} (hls:listed.size=ops.size) {a:Act} {w:World} (inv:RegI ops F a0 w1 (fun j=>listed.getD j false) a w)
  {i:Nat} (hi:i∈Region.ready .any ops listed) (H:ROp P ops Q F a0 w1 i):wpOp P ops Q i (fun a' w'=>RegI ops F a0 w1 (fun j=>(listed.setIfInBounds i true).getD j false) a' w') a w:=by
 obtain ⟨hun,o,ho,hall⟩:=mem_ready.1 hi;have hin:=(Array.getElem?_eq_some_iff.1 ho).1;have hcon:∀ {a' w'},RegI ops F a0 w1 (fun j=>decide (j=i)||listed.getD j false) a' w'→RegI ops F a0 w1 (fun j=>(listed.setIfInBounds i true).getD j false) a' w':=fun h=>h.congr fun j hj=>by
  by_cases e:i=j
  ·subst e;simp [hls▸hin]
  ·rw [getD_set_ne false e];simp [Ne.symm e]
 have:=H o ho a w inv.ext (fun j oj hoj hw=>by
  obtain ⟨e,he,hb,hej⟩:=Pk ho hw;exact inv.done j oj hoj (by rw [← hej];exact hall e he hb)) (fun e he=>inv.rest e fun j oj hoj _=>he j oj hoj)
 unfold wpOp;rw [ho];rcases this with ⟨hw,hwp⟩|⟨hw,hv⟩
 ·simp only [hw,if_true];refine .inl (Oper.wp_mono (fun a' w' h=>?_) hwp);obtain ⟨v,hvn,rfl,hE,hv⟩:=h;exact hcon (J2 hF hsz hd inv ho hvn hE hv)
 ·simp only [hw];exact hcon (J2 hF hsz hd inv ho (fun _=>rfl) (Ext.refl w) hv)
theorem Qk {ops:Array Oper} {Q:Exit→Act→World→Prop} {F:Nat→Value→World→Prop} (hF:∀ i v w w',F i v w→Ext w w'→F i v w') {a0:Act} {w1:World} {sz:Nat} (hsz:a0.tmps.size=sz) (hd:D4 ops sz=true) (hE:Ec ops ops.size=true)
  (hop:∀ i,i<ops.size→ROp P ops Q F a0 w1 i) (hend:∀ a w,RegI ops F a0 w1 (fun _=>true) a w→Q .normal a w) :
  ∀ (f:Nat) (listed:Array Bool) (a:Act) (w:World),listed.size=ops.size→RegI ops F a0 w1 (fun j=>listed.getD j false) a w→unl ops.size listed=f→wpAny P .any ops Q f listed a w
 | 0,listed,a,w,hs,hI,hu=>by
  have hall:=Gi _ listed hu;refine ⟨?_,hend a w (hI.congr fun j hj=>hall j hj)⟩;refine List.eq_nil_iff_forall_not_mem.2 fun i hi=>?_
  obtain ⟨hun,o,ho,_⟩:=mem_ready.1 hi;have hio:=(Array.getElem?_eq_some_iff.1 ho).1;have:=hall i hio;have hil:i<listed.size:=by omega
  rw [Array.getD_eq_getD_getElem?,Array.getElem?_eq_getElem hil] at hun this;rw [Option.getD_some] at hun this;rw [this] at hun;cases hun
 | f+1,listed,a,w,hs,hI,hu=>by
  obtain ⟨k,hk,hku,hkl⟩:=Im ops.size listed (by omega);have hkr:=Kl hE hs (Nat.le_refl _) k hk hkl hku;refine ⟨fun h0=>(by rw [h0] at hkr;cases hkr),fun i hi=>?_⟩;obtain ⟨hiu,o,ho,_⟩:=mem_ready.1 hi;have hin:=(Array.getElem?_eq_some_iff.1 ho).1;have hil:i<listed.size:=by omega
  have hiu':listed.getD i false=false:=by
   rw [Array.getD_eq_getD_getElem?,Array.getElem?_eq_getElem hil] at hiu ⊢;exact hiu
  refine wpOp_mono (fun a' w' h=>Qk hF hsz hd hE hop hend f _ a' w' (by rw [Array.size_setIfInBounds];exact hs) h ?_) (Zg hF hsz hd hs hI hi (hop i hin));have:=Hv _ listed i hin hil hiu';show unl ops.size (listed.setIfInBounds i true)=f;omega
theorem Qj {ops:Array Oper} {Q:Exit→Act→World→Prop} {F:Nat→Value→World→Prop} (hF:∀ i v w w',F i v w→Ext w w'→F i v w') {a0:Act} {w1:World} {sz:Nat} (hsz:a0.tmps.size=sz) (hd:D4 ops sz=true) (hE:Ec ops ops.size=true)
  (hop:∀ i,i<ops.size→ROp P ops Q F a0 w1 i) (hend:∀ a w,RegI ops F a0 w1 (fun _=>true) a w→Q .normal a w) :
  ∀ (l:List Oper) (k:Nat) (a:Act) (w:World),(∀ j,l[j]? = ops[k+j]?)→RegI ops F a0 w1 (fun j=>decide (j<k)) a w→wpList P ops Q l a w
 | [],k,a,w,hl,hI=>hend a w (hI.congr fun j hj=>by
   have:ops[k]? = none:=by simpa using (hl 0).symm
   have:=Array.getElem?_eq_none_iff.1 this;simp;omega)
 | o::l,k,a,w,hl,hI=>by
  have ho:ops[k]? = some o:=by simpa using (hl 0).symm
  have hk:=(Array.getElem?_eq_some_iff.1 ho).1;have hnext:∀ {a' w'},RegI ops F a0 w1 (fun j=>decide (j=k)||decide (j<k)) a' w'→wpList P ops Q l a' w':=fun h=>Qj hF hsz hd hE hop hend l (k+1) _ _ (fun j=>by have:=hl (j+1);simpa [Nat.add_assoc,Nat.add_comm 1 j] using this) (h.congr fun j _=>by rw [Bool.eq_iff_iff];simp only [Bool.or_eq_true,decide_eq_true_eq];omega)
  have:=hop k hk o ho a w hI.ext (fun j oj hoj hw=>hI.done j oj hoj (by
   obtain ⟨e,he,hb,hej⟩:=Pk ho hw;have h2:=hE;unfold Ec at h2;rw [List.all_eq_true] at h2;have h3:=h2 k (List.mem_range.2 hk);rw [ho] at h3;simp only [Array.all_eq_true'] at h3;have h4:=h3 e he;simp only [hb,Bool.not_true,Bool.false_or,decide_eq_true_eq] at h4;simp;omega)) (fun e he=>hI.rest e fun j oj hoj _=>he j oj hoj)
  show if _ then _ else _
  rcases this with ⟨hw,hwp⟩|⟨hw,hv⟩
  ·rw [if_pos hw];refine .inl (Oper.wp_mono (fun a' w' h=>?_) hwp);obtain ⟨v,hvn,rfl,hEx,hv⟩:=h;exact hnext (J2 hF hsz hd hI ho hvn hEx hv)
  ·rw [if_neg (by rw [hw];exact Bool.false_ne_true)];exact hnext (J2 hF hsz hd hI ho (fun _=>rfl) (Ext.refl w) hv)
theorem Nf {α:Type} {l:List α} {i:Nat} {x:α} (h:l.toArray[i]? = some x):l[i]? = some x:=by simpa using h
theorem Ox {l:List Oper} {E:Nat→AV} {W:World}:∀ (os:List Oper) (ss:List (Sc P w)) (i:Nat) (o:Oper),Ho l E W os ss=Hn l E W os ss→os.length=ss.length→os[i]? = some o→∃ s,ss[i]? = some s∧scL l E o W s=scR l E o W s
 | [],_,i,o,_,_,h=>by simp at h
 | o'::os,[],i,o,_,hl,_=>by simp at hl
 | o'::os,s::ss,0,o,h,_,ho=>by
  obtain rfl:o'=o:=by simpa using ho
  exact ⟨s,by simp,(List.cons.inj h).1⟩
 | o'::os,s::ss,i+1,o,h,hl,ho=>by
  obtain ⟨s',h1,h2⟩:=Ox os ss i o (List.cons.inj h).2 (by simpa using hl) (by simpa using ho);exact ⟨s',by simpa using h1,h2⟩
theorem Jj:∀ {xs ys:List AV},xs.map XX.av=ys.map XX.av→xs=ys
 | [],[],_=>rfl
 | [],_::_,h=>by cases h
 | _::_,[],h=>by cases h
 | x::xs,y::ys,h=>by
  simp only [List.map_cons,List.cons.injEq,XX.av.injEq] at h;rw [h.1,Jj h.2]
theorem N0 {W:World} {E:Nat→AV} {ρ:Operand→Value}:∀ (xs:List Operand),(∀ x∈xs,(oev E x).holds W (ρ x))→D3 W (xs.map (oev E)) (xs.map ρ)
 | [],_=>trivial
 | x::xs,h=>⟨h x List.mem_cons_self,N0 xs fun y hy=>h y (List.mem_cons_of_mem _ hy)⟩
theorem Y0 {l:List Oper} {Q:Exit→Act→World→Prop} {E:Nat→AV} {a0:Act} {sz:Nat} (hB:scB l sz=true) {i:Nat} {o:Oper} (ho:l[i]? = some o) {s:Sc P w}
  (hs:∀ W,scL l E o W s=scR l E o W s) (h0:∀ e,(∀ (j:Nat) (oj:Oper),l[j]? = some oj→oj.dst≠some e)→E e=.c (a0.tmps.getD e undef)) :
  ROp P l.toArray Q (fun i v W=>match l[i]? with|some o=>(E (o.dst.getD 0)).holds W v|none=>True) a0 w i:=by
 intro o' ho' a W hE hdep hkeep;obtain rfl:o=o':=Option.some.inj (ho.symm.trans (Nf ho'));simp only [scB,Bool.and_eq_true,List.all_eq_true,List.mem_range] at hB;have hil:i<l.length:=(List.getElem?_eq_some_iff.1 ho).1;have hop:=hB.2 i hil;rw [ho] at hop;simp only [M5,Bool.and_eq_true] at hop;obtain ⟨⟨⟨hsel,hdst⟩,hopd⟩,hgd⟩:=hop;have hsel':∀ cs b,o.op≠.select cs b:=fun cs b e=>by rw [e] at hsel;cases hsel
 obtain ⟨d,hd⟩:=Option.isSome_iff_exists.1 hdst;have hslot:∀ (j:Nat) (oj:Oper) (dj:Nat),l[j]? = some oj→oj.dst=some dj→Region.waitsFor .any l.toArray i j=true→(E dj).holds W (a.tmps.getD dj undef):=fun j oj dj hoj hdj hw=>by
  have:=hdep j oj (by simpa using hoj) hw;simp only [hoj] at this;unfold Ce at this;rw [hdj] at this;exact this
 have hx:∀ x∈o.op.operands,(oev E x).holds W (a.eval x):=fun x hx=>by
  have hxo:=(List.all_eq_true.1 hopd) x (by simpa using hx);cases x with
  | const v=>rfl
  | global g=>rfl
  | func f=>rfl
  | tmp t=>
   simp only [Qa,List.all_eq_true,List.mem_range] at hxo;by_cases hex:∃ (j:Nat) (oj:Oper),l[j]? = some oj∧oj.dst=some t
   ·obtain ⟨j,oj,hoj,hdj⟩:=hex;have:=hxo j (List.getElem?_eq_some_iff.1 hoj).1;rw [hoj] at this;simp only [hdj,if_true] at this;exact hslot j oj t hoj hdj this
   ·have hno:∀ (j:Nat) (oj:Oper),l[j]? = some oj→oj.dst≠some t:=fun j oj hoj hdj=>hex ⟨j,oj,hoj,hdj⟩
    show (E t).holds W (a.tmps.getD t undef);rw [h0 t hno,hkeep t fun j oj hoj=>hno j oj (Nf hoj)];rfl
 have hs1:=hs W;have hres:E d=Gq P w E o s:=by
  have:=(List.cons.inj hs1).1;rw [hd] at this;exact XX.av.inj this
 have hF:∀ v W',(match l[i]? with|some o=>(E (o.dst.getD 0)).holds W' v|none=>True)=(Gq P w E o s).holds W' v:=fun v W'=>by
  rw [ho];show (E (o.dst.getD 0)).holds W' v=_;rw [hd];show (E d).holds W' v=_;rw [hres]
 have hs2:=(List.cons.inj hs1).2;have hgv:∀ (k:Nat) (b x:Bool),o.guard=some (k,b)→E (Hg l k)=.c (.bool x)→yielded l.toArray a.tmps k=some x:=fun k b x hg he=>by
  rw [hg] at hgd;simp only [Bool.and_eq_true] at hgd;cases hok:l[k]? with
  | none=>rw [hok] at hgd;exact absurd hgd.1 (by simp)
  | some ok=>
   rw [hok] at hgd;obtain ⟨dk,hdk⟩:=Option.isSome_iff_exists.1 hgd.1;have h1:=hslot k ok dk hok hdk hgd.2;have h2:Hg l k=dk:=by simp [Hg,hok,hdk]
   rw [h2] at he;rw [he] at h1;have h3:a.tmps.getD dk undef=.bool x:=h1;have h4:a.tmps[dk]? = some (.bool x):=by
    rw [Array.getD_eq_getD_getElem?] at h3;cases hh:a.tmps[dk]? with
    | none=>rw [hh] at h3;cases h3
    | some u=>rw [hh] at h3;exact congrArg some h3
   unfold yielded;have h5:l.toArray[k]? = some ok:=by simpa using hok
   rw [h5];simp only [Option.bind_some,hdk,h4]
 have hwant:∀ b,(∀ k b',o.guard=some (k,b')→yielded l.toArray a.tmps k=some (if b then b' else !b'))→(b=false→o.guard≠none)→Region.wanted o (yielded l.toArray a.tmps)=b:=fun b h1 h2=>by
  unfold Region.wanted;cases hg:o.guard with
  | none=>cases b with
   | false=>exact absurd hg (h2 rfl)
   | true=>rfl
  | some p=>
   obtain ⟨k,b'⟩:=p;simp only [h1 k b' hg];cases b<;>cases b'<;>rfl
 obtain ⟨hG,hT⟩:=List.append_inj hs2 (by cases o.guard<;>rfl);have hguard:∀ b':Bool,(match s with|.skip=>some false|.skipu=>none|_=>some true)=some b'→∀ k b,o.guard=some (k,b)→yielded l.toArray a.tmps k=some (if b' then b else !b):=fun b' hb' k b hg=>by
  rw [hg] at hG;simp only [List.cons.injEq,XX.av.injEq,and_true] at hG;refine hgv k b _ hg (hG.trans ?_);cases s<;>first|(cases hb';rfl)|(cases hb')
 have hv0:∀ v:Value,o.dst=none→v=undef:=fun v h=>by rw [hd] at h;cases h
 have hρ:(∀ x∈o.op.operands,oev E x=.c (oev E x).val)→execOp a.eval o=execOp (fun x=>(oev E x).val) o:=fun h=>execOp_congr o hsel' fun x hxo=>by
  have:=hx x hxo;rw [h x hxo] at this;exact this
 cases s with
 | skip=>
  refine .inr ⟨hwant false (hguard false rfl) (fun _ hg=>?_),?_⟩
  ·rw [hg] at hT;exact absurd hT (by simp)
  ·simp only [hF];rfl
 | skipu=>
  cases hg:o.guard with
  | none=>rw [hg] at hT;exact absurd hT (by simp)
  | some p=>
   obtain ⟨k,b⟩:=p;rw [hg] at hG hgd;simp only [List.cons.injEq,XX.av.injEq,and_true] at hG;simp only [Bool.and_eq_true] at hgd;have hy:yielded l.toArray a.tmps k=none:=by
    cases hok:l[k]? with
    | none=>rw [hok] at hgd;exact absurd hgd.1 (by simp)
    | some ok=>
     rw [hok] at hgd;obtain ⟨dk,hdk⟩:=Option.isSome_iff_exists.1 hgd.1;have h1:=hslot k ok dk hok hdk hgd.2;have h2:Hg l k=dk:=by simp [Hg,hok,hdk]
     rw [h2] at hG;rw [hG] at h1;have h3:a.tmps.getD dk undef=undef:=h1;unfold yielded;have h5:l.toArray[k]? = some ok:=by simpa using hok
     rw [h5];simp only [Option.bind_some,hdk];rw [Array.getD_eq_getD_getElem?] at h3;cases hh:a.tmps[dk]? with
     | none=>rfl
     | some u=>
      rw [hh] at h3;have h4:u=undef:=h3;rw [h4];rfl
   refine .inr ⟨?_,?_⟩
   ·unfold Region.wanted;simp only [hg,hy];rfl
   ·simp only [hF];rfl
 | pure=>
  refine .inl ⟨hwant true (hguard true rfl) (fun h=>by cases h),?_⟩;obtain ⟨hr,hxs⟩:=List.cons.inj hT;have hr:=XX.res.inj hr;have hall:∀ x∈o.op.operands,oev E x=.c (oev E x).val:=fun x hxo=>by
   have e:(o.op.operands.toList.map (oev E)).map XX.av=(o.op.operands.toList.map fun x=>AV.c (oev E x).val).map XX.av:=by
    rw [List.map_map,List.map_map];exact hxs
   exact List.map_inj_left.1 (Jj e) x (by simpa using hxo)
  refine C7 (v:=pv P w E o) (w':=W) (by rw [hρ hall];exact hr) ?_;exact ⟨_,hv0 _,rfl,Ext.refl W,by simp only [hF];rfl⟩
 | keep=>
  refine .inl ⟨hwant true (hguard true rfl) (fun h=>by cases h),?_⟩;cases hop:o.op with
  | move x=>
   refine C7 (v:=a.eval x) (w':=W) (BigFrame.run_move x hop W) ⟨_,hv0 _,rfl,Ext.refl W,?_⟩;simp only [hF,Gq,moved,hop];exact hx x (by rw [hop];simp [Op.operands])
  | assign x=>
   refine C7 (v:=a.eval x) (w':=W) (BigFrame.run_assign x hop W) ⟨_,hv0 _,rfl,Ext.refl W,?_⟩;simp only [hF,Gq,moved,hop];exact hx x (by rw [hop];simp [Op.operands])
  | _=>simp [hop] at hT
 | load ty g cs t fr dd hg hu hdd hi=>
  refine .inl ⟨hwant true (hguard true rfl) (fun h=>by cases h),?_⟩;have hT:(match o.op with|.load t x=>[XX.ty t,XX.av (oev E x)]|_=>[XX.no])=[XX.ty ty,XX.av (.c (.pointer (some ⟨g,0,none⟩)))]:=hT;cases hop:o.op with
  | load t' x=>
   simp only [hop,List.cons.injEq,XX.ty.injEq,XX.av.injEq,and_true] at hT;obtain ⟨rfl,hT2⟩:=hT;have hxx:=hx x (by rw [hop];simp [Op.operands]);rw [hT2] at hxx;refine C7 (v:=.agg cs) (w':=W) (Afl t' x hop g hxx t cs fr dd (hg W hE) hu hdd hi) ⟨_,hv0 _,rfl,Ext.refl W,?_⟩;simp only [hF];rfl
  | _=>simp [hop] at hT
 | call f he args res hm h=>
  refine .inl ⟨hwant true (hguard true rfl) (fun h=>by cases h),?_⟩;have hT:(match o.op with|.call c=>(match c.callee with|.value (.func f)=>XX.fn f::c.args.toList.map fun x=>XX.av (oev E x)|_=>[XX.no])|_=>[XX.no])=XX.fn f::args.map XX.av:=hT;cases hop:o.op with
  | call c=>
   simp only [hop] at hT;cases hc:c.callee with
   | value fx=>
    cases fx with
    | func f'=>
     simp only [hc,List.cons.injEq,XX.fn.injEq] at hT;obtain ⟨rfl,hT2⟩:=hT;have e:(c.args.toList.map (oev E)).map XX.av=args.map XX.av:=by rw [List.map_map];exact hT2
     have hargs:=Jj e;have hh:D3 W args (c.args.toList.map a.eval):=by
      rw [← hargs];exact N0 _ fun x hxo=>hx x (by rw [hop];simp [Op.operands,Call.operands,hc];exact .inr (by simpa using hxo))
     have hC:=h W _ hE hh;have hrun:(execOp a.eval o).run P W=.ok (.enter f' (c.args.toList.map a.eval).toArray) W:=by
      have e1:execOp a.eval o=callFunc f' (c.args.toList.map a.eval).toArray:=by
       obtain ⟨dst,op,type,pos,after,guard⟩:=o;simp only at hop;subst hop;obtain ⟨callee,cargs,ats⟩:=c;simp only at hc;subst hc;rw [execOp_call_go]
       congr 1
       apply Array.toList_inj.1;simp
      rw [e1];exact he _ W
     unfold Oper.wp;rw [hrun,Oper.upon_enter];refine hC.mono fun e W' ⟨v,hev,hv,hEx⟩=>?_
     subst hev;exact ⟨v,hv0 _,rfl,hEx,by simp only [hF];exact hv⟩
    | _=>simp [hc] at hT
   | _=>simp [hc] at hT
  | _=>simp [hop] at hT
 | gen op args res hm h=>
  refine .inl ⟨hwant true (hguard true rfl) (fun h=>by cases h),?_⟩;obtain ⟨hop,hxs⟩:=List.cons.inj hT;have hop:=XX.op.inj hop;have e:(o.op.operands.toList.map (oev E)).map XX.av=args.map XX.av:=by rw [List.map_map];exact hxs
  have hh:D3 W args (op.operands.toList.map a.eval):=by
   rw [← Jj e,← hop];exact N0 _ fun x hxo=>hx x (by simpa using hxo)
  obtain ⟨v,hr,hv⟩:=h a.eval o W hop hE hh;exact C7 hr ⟨v,hv0 _,rfl,Ext.refl W,by simp only [hF];exact hv⟩
theorem Qi:∀ (l:List Oper) (ss:List (Sc P w)) (E:Nat→AV),(∀ e,(E e).Mono)→∀ e,(scE P w l ss E e).Mono
 | [],_,E,h,e=>by unfold scE;exact h e
 | _::_,[],E,h,e=>by unfold scE;exact h e
 | o::l,s::ss,E,h,e=>by
  have hoev:∀ x,(oev E x).Mono:=fun x=>by
   cases x with
   | tmp t=>exact h t
   | _=>exact AV.mono_c _
  unfold scE;refine Qi l ss _ (fun e'=>?_) e;cases o.dst with
  | none=>exact h e'
  | some d=>
   show (upd E d _ e').Mono;unfold upd;split
   ·cases s with
    | keep=>
     show (moved E o.op).Mono;unfold moved;split
     ·exact hoev _
     ·exact hoev _
     ·exact AV.mono_c _
    | call f he args res hm hh=>exact hm
    | gen op args res hm hh=>exact hm
    | _=>exact AV.mono_c _
   ·exact h e'
theorem Ma:∀ (l:List Oper) (ss:List (Sc P w)) (E:Nat→AV) (e:Nat),(∀ (j:Nat) (oj:Oper),l[j]? = some oj→oj.dst≠some e)→scE P w l ss E e=E e
 | [],_,E,e,_=>by unfold scE;rfl
 | _::_,[],E,e,_=>by unfold scE;rfl
 | o::l,s::ss,E,e,h=>by
  unfold scE;rw [Ma l ss _ e fun j oj hj=>h (j+1) oj (by simpa using hj)];cases hd:o.dst with
  | none=>rfl
  | some d=>
   show upd E d _ e=E e;unfold upd;rw [if_neg fun he=>h 0 o rfl (by rw [hd,he])]
def ev0 (a:Act):Nat→AV:=fun n=>.c (a.tmps.getD n undef)
theorem O4 {id:Nat} {l:List Oper} {Q:Exit→Act→World→Prop} {a0:Act} (sz:Nat) (dr:Bool) (ss:List (Sc P w)) (hm:dr=true→P.follows .mixedOrders=true) (hB:scB l sz=true) (hsz:a0.tmps.size=sz) (hl:l.length=ss.length)
  (hs:∀ W,Ho l (scE P w l ss (ev0 a0)) W l ss=Hn l (scE P w l ss (ev0 a0)) W l ss)
  (hend:∀ a' W,Ext w W→a'.defers=a0.defers→a'.tmps.size=sz→(∀ e,(scE P w l ss (ev0 a0) e).holds W (a'.tmps.getD e undef))→Q .normal a' W):(Code.region id l.toArray dr).wp P Q a0 w:=by
 have hB':Gt l.toArray sz=true:=by
  have:=hB;simp only [scB,Bool.and_eq_true] at this;exact this.1
 simp only [Gt,Bool.and_eq_true] at hB';obtain ⟨E,hE⟩:∃ E,scE P w l ss (ev0 a0)=E:=⟨_,rfl⟩;have hmono:∀ e,(E e).Mono:=fun e=>by rw [← hE];exact Qi l ss _ (fun e=>AV.mono_c _) e
 have h0:∀ e,(∀ (j:Nat) (oj:Oper),l[j]? = some oj→oj.dst≠some e)→E e=.c (a0.tmps.getD e undef):=fun e he=>by rw [← hE];exact Ma l ss _ e he
 rw [hE] at hs hend;have hF:∀ (i:Nat) v W W',(match l[i]? with|some o=>(E (o.dst.getD 0)).holds W v|none=>True)→Ext W W'→(match l[i]? with|some o=>(E (o.dst.getD 0)).holds W' v|none=>True):=fun i v W W' h hx=>by
  cases hl:l[i]? with
  | none=>trivial
  | some o=>rw [hl] at h;exact hmono _ W W' v h hx
 have hop:∀ i,i<l.toArray.size→ROp P l.toArray Q (fun i v W=>match l[i]? with|some o=>(E (o.dst.getD 0)).holds W v|none=>True) a0 w i:=fun i hi=>by
  have ho:l[i]? = some (l[i]'(by simpa using hi)):=List.getElem?_eq_getElem _;have:∃ s,ss[i]? = some s∧∀ W,scL l E (l[i]'(by simpa using hi)) W s=scR l E (l[i]'(by simpa using hi)) W s:=by
   obtain ⟨s,h1,_⟩:=Ox l ss i _ (hs w) hl ho;refine ⟨s,h1,fun W=>?_⟩;obtain ⟨s',h1',h2⟩:=Ox l ss i _ (hs W) hl ho;rw [h1] at h1';rw [Option.some.inj h1'];exact h2
  obtain ⟨s,_,h2⟩:=this;exact Y0 hB ho h2 h0
 have hfin:∀ a W,RegI l.toArray (fun i v W=>match l[i]? with|some o=>(E (o.dst.getD 0)).holds W v|none=>True) a0 w (fun _=>true) a W→Q .normal a W:=fun a W inv=>by
  refine hend a W inv.ext inv.defers (inv.size.trans hsz) fun e=>?_
  by_cases hex:∃ (j:Nat) (oj:Oper),l[j]? = some oj∧oj.dst=some e
  ·obtain ⟨j,oj,hoj,hdj⟩:=hex;have:=inv.done j oj (by simpa using hoj) rfl;rw [hoj] at this;simp only [hdj,Ce] at this;exact this
  ·have hno:∀ (j:Nat) (oj:Oper),l[j]? = some oj→oj.dst≠some e:=fun j oj hoj hdj=>hex ⟨j,oj,hoj,hdj⟩
   rw [h0 e hno,inv.rest e fun j oj hoj _=>hno j oj (Nf hoj)];rfl
 cases dr with
 | false=>exact wp_region_lit (Qj hF hsz hB'.1 hB'.2 hop hfin l 0 a0 w (fun j=>by simp) ⟨Ext.refl w,rfl,rfl,fun i o _ h=>by simp at h,fun d _=>rfl⟩)
 | true=>
  have hop':∀ i,i<l.toArray.size→ROp P l.toArray Q (fun i v W=>match l[i]? with|some o=>(E (o.dst.getD 0)).holds W v|none=>True) a0 w.drew i:=fun i hi o ho a W hx=>hop i hi o ho a W ((Ext.refl w).drew.trans hx)
  refine wp_region_any (hm rfl) (Qk hF hsz hB'.1 hB'.2 hop' (fun a W inv=>hfin a W ⟨(Ext.refl w).drew.trans inv.ext,inv.defers,inv.size,inv.done,inv.rest⟩) _ _ a0 w.drew (by simp) ⟨Ext.refl _,rfl,rfl,fun i o _ hl=>(by rw [getD_replicate_false] at hl;cases hl),fun d _=>rfl⟩ ?_);have hu:∀ m,unl m (Array.replicate l.toArray.size false)=m:=fun m=>by
   induction m with
   | zero=>rfl
   | succ m ih=>rw [Ei,ih,getD_replicate_false];simp
  exact hu _
theorem Lv {id:Nat} {l:List Oper} {Q:Exit→Act→World→Prop} {a0:Act} (sz:Nat) (dr:Bool) (t:Nat) (v:Value) (ss:List (Sc P w)) (hm:dr=true→P.follows .mixedOrders=true) (hB:scB l sz=true) (hsz:a0.tmps.size=sz) (hl:l.length=ss.length)
  (hs:∀ W,Ho l (scE P w l ss (ev0 a0)) W l ss=Hn l (scE P w l ss (ev0 a0)) W l ss) (hv:scE P w l ss (ev0 a0) t=.c v)
  (hend:∀ a' W,Ext w W→a'.defers=a0.defers→a'.tmps.getD t undef=v→Q .normal a' W):(Code.region id l.toArray dr).wp P Q a0 w:=
 O4 sz dr ss hm hB hsz hl hs fun a' W h1 h2 _ h4=>hend a' W h1 h2 (by
  have:=h4 t;rw [hv] at this;exact this)
def Cf:List Oper→List Value→Act→Act
 | o::l,v::vs,a=>Cf l vs (a.put o.dst v)
 | _,_,a=>a
theorem Mo:∀ (l:List Oper) (vs:List Value) (a:Act),(Cf l vs a).tmps.size=a.tmps.size∧(Cf l vs a).defers=a.defers
 | [],_,a=>by unfold Cf;exact ⟨rfl,rfl⟩
 | _::_,[],a=>by unfold Cf;exact ⟨rfl,rfl⟩
 | o::l,v::vs,a=>by
  unfold Cf;rw [(Mo l vs _).1,(Mo l vs _).2];exact Gs a o.dst v
theorem Q3 (e:Nat):∀ (l:List Oper) (vs:List Value) (a:Act),(∀ o∈l,∃ d,o.dst=some d∧d<a.tmps.size)→l.length=vs.length→
  (Cf l vs a).tmps.getD e undef=a.tmps.getD e undef∧(∀ o∈l,o.dst≠some e)∨∃ (i:Nat) (o:Oper) (v:Value),l[i]? = some o∧vs[i]? = some v∧o.dst=some e∧(Cf l vs a).tmps.getD e undef=v
 | [],_,a,_,_=>by unfold Cf;exact .inl ⟨rfl,fun o h=>by simp at h⟩
 | _::_,[],a,_,h=>by simp at h
 | o::l,v::vs,a,h,hl=>by
  obtain ⟨d,hd,hda⟩:=h o List.mem_cons_self;have ih:=Q3 e l vs (a.put o.dst v) (fun o' ho'=>by rw [(Gs a o.dst v).1];exact h o' (List.mem_cons_of_mem _ ho')) (by simpa using hl);unfold Cf;rcases ih with ⟨h1,h2⟩|⟨i,o',v',h1,h2,h3,h4⟩
  ·by_cases he:e=d
   ·subst he;refine .inr ⟨0,o,v,rfl,rfl,hd,?_⟩;rw [h1,hd,D1 _ _ _ _ hda,if_pos rfl]
   ·refine .inl ⟨?_,fun o' ho'=>?_⟩
    ·rw [h1,hd,D1 _ _ _ _ hda,if_neg he]
    ·rcases List.mem_cons.1 ho' with rfl|ho'
     ·rw [hd];exact fun h=>he (Option.some.inj h).symm
     ·exact h2 o' ho'
  ·exact .inr ⟨i+1,o',v',by simpa using h1,by simpa using h2,h3,h4⟩
theorem Vx {id:Nat} {l:List Oper} {Q:Exit→Act→World→Prop} {a0:Act} (sz:Nat) (dr:Bool) (as:List AV) (ss:List (Sc P w)) (hm:dr=true→P.follows .mixedOrders=true) (hB:scB l sz=true) (hsz:a0.tmps.size=sz) (hl:l.length=ss.length)
  (hs:∀ W,Ho l (scE P w l ss (ev0 a0)) W l ss=Hn l (scE P w l ss (ev0 a0)) W l ss) (hv:(l.map fun o=>scE P w l ss (ev0 a0) (o.dst.getD 0))=as)
  (hend:∀ W vs,Ext w W→D3 W as vs→Q .normal (Cf l vs a0) W):(Code.region id l.toArray dr).wp P Q a0 w:=by
 refine O4 sz dr ss hm hB hsz hl hs fun a' W h1 h2 h3 h4=>?_
 obtain ⟨vs,hvs⟩:∃ vs,(l.map fun o=>a'.tmps.getD (o.dst.getD 0) undef)=vs:=⟨_,rfl⟩;have hlen:l.length=vs.length:=by simpa using congrArg List.length hvs
 have hh:D3 W as vs:=by
  rw [← hv,← hvs];have:∀ k:List Oper,D3 W (k.map fun o=>scE P w l ss (ev0 a0) (o.dst.getD 0)) (k.map fun o=>a'.tmps.getD (o.dst.getD 0) undef):=fun k=>by
   induction k with
   | nil=>trivial
   | cons o k ih=>exact ⟨h4 _,ih⟩
  exact this l
 have hB':=hB;simp only [scB,Gt,Bool.and_eq_true,List.all_eq_true,List.mem_range] at hB';have hds:∀ o∈l,∃ d,o.dst=some d∧d<a0.tmps.size:=fun o ho=>by
  obtain ⟨i,hi,rfl⟩:=List.getElem_of_mem ho;have h5:=hB'.2 i hi;rw [List.getElem?_eq_getElem hi] at h5;simp only [M5,Bool.and_eq_true] at h5;obtain ⟨d,hd⟩:=Option.isSome_iff_exists.1 h5.1.1.2;refine ⟨d,hd,?_⟩;rw [hsz];exact (F8 hB'.1.1 i l[i] (by simp) d hd).1
 have he:a'=Cf l vs a0:=by
  obtain ⟨s1,s2⟩:=Mo l vs a0;have ht:a'.tmps=(Cf l vs a0).tmps:=by
   apply Array.ext
   ·rw [s1,h3,hsz]
   ·intro e g1 g2;have hg:a'.tmps.getD e undef=(Cf l vs a0).tmps.getD e undef:=by
     rcases Q3 e l vs a0 hds hlen with ⟨k1,k2⟩|⟨i,o,v,k1,k2,k3,k4⟩
     ·have:=h4 e;rw [Ma l ss _ e (fun j oj hj=>k2 oj (List.mem_of_getElem? hj))] at this;rw [k1];exact this
     ·have hv':=congrArg (fun x=>x[i]?) hvs;simp only [List.getElem?_map,k1,k2,Option.map_some,k3,Option.getD_some] at hv';rw [k4];exact Option.some.inj hv'
    rw [Array.getD_eq_getD_getElem?,Array.getD_eq_getD_getElem?,Array.getElem?_eq_getElem g1,Array.getElem?_eq_getElem g2] at hg;exact hg
  have hdf:=h2;rw [← s2] at hdf;generalize Cf l vs a0=b at *;cases a';cases b
  simp only at ht hdf;rw [ht,hdf]
 rw [he];exact hend W vs h1 hh
theorem Hs {id:Nat} {l:List Oper} {Q:Exit→Act→World→Prop} {a0:Act} (sz:Nat) (dr:Bool) (vs:List Value) (ss:List (Sc P w)) (hm:dr=true→P.follows .mixedOrders=true) (hB:scB l sz=true) (hsz:a0.tmps.size=sz) (hl:l.length=ss.length)
  (hs:∀ W,Ho l (scE P w l ss (ev0 a0)) W l ss=Hn l (scE P w l ss (ev0 a0)) W l ss) (hv:(l.map fun o=>scE P w l ss (ev0 a0) (o.dst.getD 0))=vs.map AV.c)
  (hend:∀ W,Ext w W→Q .normal (Cf l vs a0) W):(Code.region id l.toArray dr).wp P Q a0 w:=
 Vx sz dr _ ss hm hB hsz hl hs hv fun W vs' h1 h2=>by
  rw [Is h2];exact hend W h1
end
end Go.Proofs.YtaiogolidlamiaaGreatDoor
