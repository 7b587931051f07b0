import Derived.Test.YtaiogolidlamiaaGreatDoorM12
import Derived.Test.YtaiogolidlamiaaGreatDoorM14
import Derived.Test.YtaiogolidlamiaaGreatDoorM27
set_option linter.unusedVariables false
set_option linter.unusedSimpArgs false
namespace Go.Proofs.YtaiogolidlamiaaGreatDoor
def Aj1 (N:Nat) (f:Nat→Bool):List Bool:=(List.range N).map f
theorem Aj4 (N:Nat) (f:Nat→Bool):(Aj1 N f).length=N:=by simp [Aj1]
theorem Akb (N:Nat) (f:Nat→Bool) (x:Nat) (hx:x<N):(Aj1 N f).getD x false=f x:=by
 simp [Aj1,List.getD_eq_getElem?_getD,hx]
theorem Akd (N:Nat) (f:Nat→Bool) (x:Nat) (v:Bool):(Aj1 N f).set x v=Aj1 N fun q=>if q=x then v else f q:=by
 apply List.ext_getElem?;intro i;rw [List.getElem?_set,Aj4];simp only [Aj1,List.getElem?_map];by_cases e:x=i
 ·subst e;by_cases hi:x<N
  ·simp [hi]
  ·simp [hi]
 ·by_cases hi:i<N
  ·simp [List.getElem?_range hi,e,Ne.symm e]
  ·simp [e,hi]
theorem Aj6 {N:Nat} {f g:Nat→Bool} (h:∀ j,j<N→f j=g j):Aj1 N f=Aj1 N g:=by
 unfold Aj1;exact List.map_congr_left fun j hj=>h j (List.mem_range.1 hj)
def hit (L:Av) (b:List UInt8) (i j:Nat):Prop:=i≤j∧j≤b.length∧L ((b.take j).drop i)
theorem Akr {L M:Av} (h:∀ w,L w↔M w) (b:List UInt8) (i j:Nat):hit L b i j↔hit M b i j:=by
 unfold hit;rw [h]
theorem Amo (L:Av) (b:List UInt8):hit L b 0 b.length↔L b:=by simp [hit]
theorem Amm (b:List UInt8) (i j:Nat) (hi:i≤b.length):hit (fun w=>w=[]) b i j↔j=i:=by
 unfold hit;constructor
 ·rintro ⟨h1,h2,h3⟩;have:((b.take j).drop i).length=0:=by rw [h3];rfl
  rw [List.length_drop,List.length_take] at this;omega
 ·rintro rfl;refine ⟨Nat.le_refl _,hi,?_⟩;apply List.eq_nil_of_length_eq_zero;rw [List.length_drop,List.length_take];omega
theorem Amk (p:UInt8→Prop) (b:List UInt8) (i j:Nat):hit (fun w=>∃ x:UInt8,w=[x]∧p x) b i j↔j=i+1∧i<b.length∧p (b.getD i 0):=by
 unfold hit;constructor
 ·rintro ⟨h1,h2,x,h3,h4⟩;have hl:((b.take j).drop i).length=1:=by rw [h3];rfl
  rw [List.length_drop,List.length_take] at hl;have hj:j=i+1:=by omega
  subst hj;refine ⟨rfl,by omega,?_⟩;have:((b.take (i+1)).drop i)[0]? = some x:=by rw [h3];rfl
  rw [List.getElem?_drop,List.getElem?_take,if_pos (by omega)] at this;rw [List.getD_eq_getElem?_getD,show i=i+0 by omega,this];exact h4
 ·rintro ⟨rfl,h2,h3⟩;refine ⟨by omega,by omega,b.getD i 0,?_,h3⟩;apply List.ext_getElem?;intro k;rw [List.getElem?_drop,List.getElem?_take];cases k with
  | zero=>rw [if_pos (by omega),List.getD_eq_getElem?_getD,List.getElem?_eq_getElem (by omega)];simp [h2]
  | succ k=>rw [if_neg (by omega)];simp
theorem Akn (L M:Av) (b:List UInt8) (i j:Nat):hit (Cat L M) b i j↔∃ m,hit L b i m∧hit M b m j:=by
 unfold hit;constructor
 ·rintro ⟨h1,h2,u,v,h3,hu,hv⟩;have hl:((b.take j).drop i).length=u.length+v.length:=by rw [h3,List.length_append]
  rw [List.length_drop,List.length_take] at hl;refine ⟨i+u.length,⟨by omega,by omega,?_⟩,by omega,h2,?_⟩
  ·have:(b.take (i+u.length)).drop i=u:=by
    have h4:((b.take j).drop i).take u.length=u:=by rw [h3];simp
    rw [List.take_drop,List.take_take,Nat.min_eq_left (by omega)] at h4;exact h4
   rw [this];exact hu
  ·have:(b.take j).drop (i+u.length)=v:=by
    rw [← List.drop_drop,h3];simp
   rw [this];exact hv
 ·rintro ⟨m,⟨h1,h2,h3⟩,h4,h5,h6⟩;refine ⟨by omega,h5,_,_,?_,h3,h6⟩;have e1:(b.take m).drop i=((b.take j).drop i).take (m-i):=by
   rw [List.take_drop,List.take_take,show i+(m-i)=m by omega,Nat.min_eq_left h4]
  have e2:(b.take j).drop m=((b.take j).drop i).drop (m-i):=by
   rw [List.drop_drop,show i+(m-i)=m by omega]
  rw [e1,e2,List.take_append_drop]
theorem Ala (L M:Av) (b:List UInt8) (i j:Nat):hit (fun w=>L w∨M w) b i j↔hit L b i j∨hit M b i j:=by
 unfold hit;constructor
 ·rintro ⟨h1,h2,h|h⟩
  ·exact .inl ⟨h1,h2,h⟩
  ·exact .inr ⟨h1,h2,h⟩
 ·rintro (⟨h1,h2,h⟩|⟨h1,h2,h⟩)
  ·exact ⟨h1,h2,.inl h⟩
  ·exact ⟨h1,h2,.inr h⟩
theorem Amn (L M:Av) (b:List UInt8) (i j:Nat):hit (fun w=>L w∧M w) b i j↔hit L b i j∧hit M b i j:=by
 unfold hit;constructor
 ·rintro ⟨h1,h2,h,k⟩;exact ⟨⟨h1,h2,h⟩,h1,h2,k⟩
 ·rintro ⟨⟨h1,h2,h⟩,_,_,k⟩;exact ⟨h1,h2,h,k⟩
theorem Aml (L:Av) (b:List UInt8) (i j:Nat):hit (fun w=>¬ L w) b i j↔i≤j∧j≤b.length∧¬ hit L b i j:=by
 unfold hit;constructor
 ·rintro ⟨h1,h2,h⟩;exact ⟨h1,h2,fun h'=>h h'.2.2⟩
 ·rintro ⟨h1,h2,h⟩;exact ⟨h1,h2,fun h'=>h ⟨h1,h2,h'⟩⟩
open Classical in
noncomputable def Ajy (L:Av) (b:List UInt8) (i j:Nat):Bool:=decide (hit L b i j)
theorem hitB_true {L:Av} {b:List UInt8} {i j:Nat}:Ajy L b i j=true↔hit L b i j:=@decide_eq_true_iff _ (Classical.propDecidable _)
theorem hitB_false {L:Av} {b:List UInt8} {i j:Nat}:Ajy L b i j=false↔¬ hit L b i j:=@decide_eq_false_iff_not _ (Classical.propDecidable _)
theorem Akc {a b:Bool} (h:a=true↔b=true):a=b:=by
 cases a<;>cases b<;>simp_all
theorem Amt {L M:Av} (h:∀ w,L w↔M w) (b:List UInt8) (i j:Nat):Ajy L b i j=Ajy M b i j:=Akc (by rw [hitB_true,hitB_true,Akr h])
noncomputable def Aj2 (L:Av) (b:List UInt8) (i:Nat):List Bool:=Aj1 (b.length+1) (Ajy L b i)
theorem Ak1 {L M:Av} (h:∀ w,L w↔M w) (b:List UInt8) (i:Nat):Aj2 L b i=Aj2 M b i:=Aj6 fun j _=>Amt h b i j
theorem Aly (L:Av) (lo:Nat) (w:List UInt8):rep L lo (lo:Int) w↔pw L lo w:=by
 constructor
 ·rintro ⟨k,h1,h2,h⟩;obtain rfl:k=lo:=by omega
  exact h
 ·intro h;exact ⟨lo,Nat.le_refl _,.inr (Int.le_refl _),h⟩
theorem Akl (L:Av) (k:Nat) (w:List UInt8):pw L (k+1) w↔Cat (pw L k) L w:=by
 rw [Fu L k 1];exact Gu (fun _=>Iff.rfl) (fun v=>by rw [Eu];exact Px L v) w
theorem Alx (L:Av) (lo t:Nat) (w:List UInt8):rep L lo ((lo+(t+1):Nat):Int) w↔rep L lo ((lo+t:Nat):Int) w∨Cat (rep L lo ((lo+t:Nat):Int)) L w:=by
 constructor
 ·rintro ⟨k,h1,h2,h⟩;by_cases e:k≤lo+t
  ·exact .inl ⟨k,h1,.inr (by omega),h⟩
  ·obtain rfl:k=lo+t+1:=by omega
   obtain ⟨u,v,rfl,hu,hv⟩:=(Akl L (lo+t) w).1 h;exact .inr ⟨u,v,rfl,⟨lo+t,by omega,.inr (by omega),hu⟩,hv⟩
 ·rintro (⟨k,h1,h2,h⟩|⟨u,v,rfl,⟨k,h1,h2,h⟩,hv⟩)
  ·exact ⟨k,h1,.inr (by omega),h⟩
  ·exact ⟨k+1,by omega,.inr (by omega),(Akl L k _).2 ⟨u,v,rfl,h,hv⟩⟩
theorem Akm (L:Av) (lo t:Nat) (b:List UInt8) (i j:Nat):hit (rep L lo ((lo+(t+1):Nat):Int)) b i j↔hit (rep L lo ((lo+t:Nat):Int)) b i j∨∃ m,hit (rep L lo ((lo+t:Nat):Int)) b i m∧hit L b m j:=by
 rw [Akr (Alx L lo t),Ala,Akn]
def Akg (L:Av) (lo t:Nat) (b:List UInt8) (i:Nat):Prop:=∀ j m,hit (rep L lo ((lo+t:Nat):Int)) b i m→hit L b m j→hit (rep L lo ((lo+t:Nat):Int)) b i j
theorem Alv {L:Av} {lo t:Nat} {b:List UInt8} {i:Nat} (h:Akg L lo t b i):∀ k,lo≤k→∀ j,hit (pw L k) b i j→hit (rep L lo ((lo+t:Nat):Int)) b i j:=by
 intro k hk;obtain ⟨d,rfl⟩:∃ d,k=lo+d:=⟨k-lo,by omega⟩;induction d with
 | zero=>exact fun j ⟨h1,h2,h3⟩=>⟨h1,h2,lo,Nat.le_refl _,.inr (by omega),h3⟩
 | succ d ih=>
  intro j hj;rw [show lo+(d+1)=lo+d+1 by omega,Akr (Akl L (lo+d)),Akn] at hj;obtain ⟨m,h1,h2⟩:=hj;exact h j m (ih (by omega) m h1) h2
theorem Akz {L:Av} {lo t:Nat} {b:List UInt8} {i:Nat} (h:Akg L lo t b i) {hi:Int} (hhi:hi<0∨((lo+t:Nat):Int)≤hi) (j:Nat):hit (rep L lo hi) b i j↔hit (rep L lo ((lo+t:Nat):Int)) b i j:=by
 constructor
 ·rintro ⟨h1,h2,k,h3,_,h5⟩;exact Alv h k h3 j ⟨h1,h2,h5⟩
 ·rintro ⟨h1,h2,k,h3,h4,h5⟩;exact ⟨h1,h2,k,h3,by omega,h5⟩
def Aj7:Nat→(Nat→Bool)→Nat
 | 0,_=>0
 | N+1,f=>Aj7 N f+(if f N=true then 1 else 0)
theorem Akw (f:Nat→Bool):∀ N,Aj7 N f≤N
 | 0=>Nat.le_refl _
 | N+1=>by
  have:=Akw f N;unfold Aj7;split<;>omega
theorem Alg {f g:Nat→Bool}:∀ N,(∀ x,x<N→f x=true→g x=true)→Aj7 N f≤Aj7 N g
 | 0,_=>Nat.le_refl _
 | N+1,h=>by
  have:=Alg N fun x hx=>h x (by omega)
  have h1:=h N (by omega);unfold Aj7;by_cases e:f N=true
  ·rw [if_pos e,if_pos (h1 e)];omega
  ·rw [if_neg e];omega
theorem Akv {f g:Nat→Bool}:∀ N,(∀ x,x<N→f x=true→g x=true)→(∃ x,x<N∧g x=true∧f x=false)→Aj7 N f<Aj7 N g
 | 0,_,⟨x,hx,_⟩=>by omega
 | N+1,h,⟨x,hx,h1,h2⟩=>by
  unfold Aj7;by_cases e:x=N
  ·subst e;have:=Alg x fun y hy=>h y (by omega)
   rw [if_pos h1,if_neg (by rw [h2];decide)];omega
  ·have:=Akv N (fun y hy=>h y (by omega)) ⟨x,by omega,h1,h2⟩;have h3:=h N (by omega);by_cases e2:f N=true
   ·rw [if_pos e2,if_pos (h3 e2)];omega
   ·rw [if_neg e2];omega
theorem Alh {f:Nat→Bool}:∀ N,N≤Aj7 N f→∀ x,x<N→f x=true
 | 0,_,x,hx=>by omega
 | N+1,h,x,hx=>by
  unfold Aj7 at h;have hl:=Akw f N;by_cases e:f N=true
  ·rw [if_pos e] at h;by_cases e2:x=N
   ·rw [e2];exact e
   ·exact Alh N (by omega) x (by omega)
  ·rw [if_neg e] at h;omega
theorem Alu {L:Av} {lo t:Nat} {b:List UInt8} {i:Nat} (h:b.length+1≤Aj7 (b.length+1) (Ajy (rep L lo ((lo+t:Nat):Int)) b i)):Akg L lo t b i:=fun j m _ h2=>
 hitB_true.1 (Alh _ h j (by have:=h2.2.1;omega))
theorem Am1 {L:Av} {lo t:Nat} {b:List UInt8} {i:Nat} (h:¬ Akg L lo t b i):Aj7 (b.length+1) (Ajy (rep L lo ((lo+t:Nat):Int)) b i)<Aj7 (b.length+1) (Ajy (rep L lo ((lo+(t+1):Nat):Int)) b i):=by
 refine Akv _ (fun x _ hx=>hitB_true.2 ((Akm L lo t b i x).2 (.inl (hitB_true.1 hx)))) ?_;apply Classical.byContradiction;intro hcon;apply h;intro j m h1 h2;apply Classical.byContradiction;intro h3;exact hcon ⟨j,by have:=h2.2.1;omega,hitB_true.2 ((Akm L lo t b i j).2 (.inr ⟨m,h1,h2⟩)),hitB_false.2 h3⟩
theorem Ak8:∀ (xs:List RNode) (n:RNode) (l:List Av),I7 (xs++[n]) l=I7 xs l++[K4 n (I7 xs l)]
 | [],n,l=>rfl
 | x::xs,n,l=>Ak8 xs n (l++[K4 x l])
theorem Akp:∀ (xs:List RNode) (l:List Av),(I7 xs l).length=l.length+xs.length
 | [],l=>rfl
 | x::xs,l=>by
  show (I7 xs (l++[K4 x l])).length=_;rw [Akp,List.length_append,List.length_singleton,List.length_cons];omega
theorem Ak9:∀ (ys xs:List RNode) (l:List Av),∃ t,I7 (xs++ys) l=I7 xs l++t
 | ys,[],l=>by
  induction ys generalizing l with
  | nil=>exact ⟨[],by simp [I7]⟩
  | cons y ys ih=>
   obtain ⟨t,ht⟩:=ih (l++[K4 y l]);exact ⟨[K4 y l]++t,by
    show I7 ys (l++[K4 y l])=l++([K4 y l]++t);rw [← List.append_assoc];exact ht⟩
 | ys,x::xs,l=>Ak9 ys xs (l++[K4 x l])
abbrev noL:Av:=fun _=>False
theorem Al9 {n:RNode} {l l':List Av} {i:Nat} (hg:n.good i) (h:∀ k,k<i→l.getD k noL=l'.getD k noL):K4 n l=K4 n l':=by
 obtain ⟨g1,g2,g3,g4,g5⟩:=hg;have e1:(n.kind=4∨n.kind=5∨n.kind=6∨n.kind=7∨n.kind=8)→l.getD n.l noL=l'.getD n.l noL:=fun hk=>h _ (by
  rcases hk with hk|hk|hk|hk|hk
  ·exact (g1 (by omega)).1
  ·exact (g1 (by omega)).1
  ·exact (g1 (by omega)).1
  ·exact g2 (by omega)
  ·exact g2 (by omega))
 have e2:(n.kind=4∨n.kind=5∨n.kind=6)→l.getD n.r noL=l'.getD n.r noL:=fun hk=>h _ (g1 hk).2
 have hcase:n.kind=1∨n.kind=2∨n.kind=3∨n.kind=4∨n.kind=5∨n.kind=6∨n.kind=7∨n.kind=8:=by omega
 obtain ⟨k,nl,nr,c,mn,mx⟩:=n;simp only at e1 e2 hcase;unfold K4;rcases hcase with rfl|rfl|rfl|rfl|rfl|rfl|rfl|rfl
 ·rfl
 ·rfl
 ·rfl
 ·have a:=e1 (by omega);have b:=e2 (by omega)
  show Cat (l.getD nl noL) (l.getD nr noL)=Cat (l'.getD nl noL) (l'.getD nr noL);rw [a,b]
 ·have a:=e1 (by omega);have b:=e2 (by omega)
  show (fun w=>l.getD nl noL w∨l.getD nr noL w)=fun w=>l'.getD nl noL w∨l'.getD nr noL w
  rw [a,b]
 ·have a:=e1 (by omega);have b:=e2 (by omega)
  show (fun w=>l.getD nl noL w∧l.getD nr noL w)=fun w=>l'.getD nl noL w∧l'.getD nr noL w
  rw [a,b]
 ·have a:=e1 (by omega);show (fun w=>¬ l.getD nl noL w)=fun w=>¬ l'.getD nl noL w
  rw [a]
 ·have a:=e1 (by omega);show rep (l.getD nl noL) mn mx=rep (l'.getD nl noL) mn mx;rw [a]
def Ajz (xs:List RNode) (i:Nat):Av:=(I7 xs []).getD i noL
theorem Al8 {xs:List RNode} {i:Nat} (hi:i<xs.length) {d:RNode} (hg:(xs.getD i d).good i):Ajz xs i=K4 (xs.getD i d) (I7 xs []):=by
 have hx:xs=xs.take i++[xs.getD i d]++xs.drop (i+1):=by
  rw [List.getD_eq_getElem?_getD,List.getElem?_eq_getElem hi,Option.getD_some];simp
 obtain ⟨t,ht⟩:=Ak9 (xs.drop (i+1)) (xs.take i++[xs.getD i d]) [];rw [← hx,Ak8] at ht;have hl:(I7 (xs.take i) []).length=i:=by rw [Akp,List.length_take,List.length_nil];omega
 have h1:Ajz xs i=K4 (xs.getD i d) (I7 (xs.take i) []):=by
  unfold Ajz;rw [ht,List.append_assoc,List.getD_eq_getElem?_getD,List.getElem?_append_right (by omega),hl,Nat.sub_self];rfl
 rw [h1];refine Al9 hg fun k hk=>?_
 rw [ht,List.append_assoc,List.getD_eq_getElem?_getD,List.getD_eq_getElem?_getD,List.getElem?_append_left (by omega)]
set_option maxRecDepth 100000
open Go.RowKit Go.Shelf Go.WideMaps
open Go.Maps (Keyed)
def Akt (v:Value):Option (DataW Value × List MemPlace):=some (.held v,[])
def IsMv {κ:Type} (W:World) (k:TypeId) (key:κ→Value) (b n:Nat) (f:κ→Option Value):Prop:=
 ∃ D:DataW Value,W.ownsMap Tryz.prog k Akt b n D∧∀ x l,keyOf Tryz.prog k (key x)=some l→Maps.has D l=(f x).isSome∧∀ z,D.atKey l (.held z)=.held ((f x).getD z)
section
variable {κ:Type} {W:World} {k:TypeId} {key:κ→Value} {b n:Nat} {f:κ→Option Value}
theorem Amj (W:World) (k:TypeId) (key:κ→Value):IsMv (W.alloc (.map #[] 0)) k key W.heap.size 0 (fun _=>none):=
 ⟨.map [],World.ownsMap_made W _ _ _,fun _ _ _=>⟨rfl,fun _=>rfl⟩⟩
theorem IsMv.kept {W':World} {row:Option Nat} (h:IsMv W k key b n f) (hg:W.grownBy W' row) (hne:some b≠row):IsMv W' k key b n f:=by
 obtain ⟨D,h1,h2⟩:=h;exact ⟨D,h1.kept hg hne,h2⟩
theorem IsMv.ext {W':World} (h:IsMv W k key b n f) (hE:Ext W W'):IsMv W' k key b n f:=h.kept (hE.grownBy none) (by simp)
theorem IsMv.block (h:IsMv W k key b n f):∃ es c,W.heap[b]? = some (.map es c):=by
 obtain ⟨D,⟨es,c,hb,_⟩,_⟩:=h;exact ⟨es,c,hb⟩
variable {ops:Array Oper} {rest:List Oper} {o:Oper} {a:Act} {Q:Exit→Act→World→Prop}
theorem Amb [DecidableEq κ] {m x v:Operand} {t:TypeId} {K:Act→World→Prop} {a:Act} (hop:o.op=Op.mapUpdate t m x v) (K':Keyed Tryz.prog k) {e:TypeId} (ht:Tryz.prog.underlying t=some (.map k e)) (hm:a.eval m=.map (some b)) (h:IsMv W k key b n f) (hn:n<maxLen)
  (hinj:∀ y z,key y=key z→y=z) (y:κ) (hx:a.eval x=key y) (hl:∃ l,keyOf Tryz.prog k (key y)=some l) (i:Value) (hv:a.eval v=i)
  (hK:∀ W',IsMv W' k key b (n+1) (fun z=>if z=y then some i else f z)→W.grownBy W' (some b)→K (a.put o.dst undef) W'):o.wp Tryz.prog a W K Q:=by
 obtain ⟨D,h1,h2⟩:=h;obtain ⟨l,hl⟩:=hl;obtain ⟨W',hrun,r1,r2⟩:=h1.update K' ht hn hl (show Akt i=some (.held i,[]) from rfl);unfold Oper.wp;simp [execOp,hop,hm,hx,hv,hrun,Result.andThen];refine hK W' ⟨_,r1,fun z lz hz=>?_⟩ r2;by_cases e:z=y
 ·subst e;rw [hl] at hz;cases hz
  simp only [if_true];exact ⟨Maps.has_put_same h1.isMap (K'.key hl) _,fun z=>Maps.atKey_put_same h1.isMap (K'.key hl) _ _⟩
 ·have hne:lz≠l:=fun e'=>e (hinj _ _ (K'.inj hz (e'▸hl)))
  simp only [e,if_false];rw [Maps.has_put_other hne];refine ⟨(h2 z lz hz).1,fun z'=>?_⟩;rw [Maps.atKey_put_other hne];exact (h2 z lz hz).2 z'
end
theorem Ak7:Keyed Tryz.prog 175:=Keyed.of_law (deep_law_laid O3 (m:=3) (by omega) (of_decide_eq_true (by kernel_rfl)) (by kernel_rfl) (by rw [Tryz.underlying175]))
theorem Ami:Tryz.prog.keyType 175=true:=by kernel_rfl
theorem Alf:Tryz.prog.cellsOf 175=2:=by kernel_rfl
theorem Alz (x:Nat × Nat) (h1:x.1<9223372036854775808) (h2:x.2<9223372036854775808):∃ l,keyOf Tryz.prog 175 (Hi x)=some l:=by
 obtain ⟨m,hm⟩:=Ry;refine ⟨.string (keyBytes [.int .i64 x.1,.int .i64 x.2]),?_⟩;unfold keyOf;simp only [Tryz.underlying175];rw [if_pos (by simp [Ami,Value.formed,Hi,Tryz.underlying175,Alf]),hm];have e:(Hi x).cells.toList=[iv x.1,iv x.2]:=rfl;rw [e];have:Tryz.prog.keyLits (m+3+1) 175 [iv x.1,iv x.2]=some [.int .i64 x.1,.int .i64 x.2]:=by
  show Program.keyLits Tryz.prog ((m+3)+1) 175 _=_;unfold Program.keyLits;simp only [Tryz.underlying175];rw [if_pos (by rw [Alf];exact ⟨rfl,by kernel_rfl⟩)];rw [List.mapM_cons,List.mapM_cons,List.mapM_nil];simp only [co3,List.drop_zero,List.drop_succ_cons,List.take_succ_cons,List.take_zero];rw [show m+3=(m+2)+1 by omega,kl3 _ _ h1,kl3 _ _ h2];rfl
 rw [this];rfl
theorem Sl.keptm {W W':World} {v:Value} {k n:Nat} {f:Nat→Value} {g:Nat} (h:Sl W v k n f) (hk:0<k) (hg:W.grownBy W' (some g)) (hm:∃ es c,W.heap[g]? = some (.map es c)):Sl W' v k n f:=by
 obtain ⟨h0,h|⟨hn,b,off,cap,hv,hb,hc⟩⟩:=h
 ·exact ⟨h0,.inl h⟩
 ·have hne:b≠g:=fun e=>by
   have:=hc 0 (Nat.mul_pos hn hk);obtain ⟨es,c,hm⟩:=hm;rw [e] at this;simp [World.cell?,hm] at this
  refine ⟨h0,.inr ⟨hn,b,off,cap,hv,Nat.lt_of_lt_of_le hb hg.size,fun i hi=>?_⟩⟩;rw [hg.cell_far ⟨b,off+i,none⟩ hb (by simp;exact hne)];exact hc i hi
theorem Aj9 {W W':World} {g k:Nat} {cs:Array Value} {t:TypeId} {fr:Nat × Nat} (hg:W.grownBy W' (some g)) (hm:∃ es c,W.heap[g]? = some (.map es c)) (h:W.heap[k]? = some (.cells cs t fr)):W'.heap[k]? = some (.cells cs t fr):=
 (hg.block k (Ak h) (fun e=>by
  obtain ⟨es,c,hm⟩:=hm;injection e with e
  subst e;rw [h] at hm;cases hm)).trans h
def RowAt (W:World) (g:Nat) (l:List Bool):Prop:=∀ i,i<l.length→W.cell? ⟨g,i,none⟩=some (.bool (l.getD i false))
theorem RowAt.of_owns {W:World} {base g n c:Nat} {l:List Bool} (h:W.ownsRow base 4 1 (.slice (some ⟨g,0,none⟩) n c) n (l.map Value.bool)) (hn:n=l.length):RowAt W g l:=fun i hi=>by
 rw [h.cellAt i (by omega),List.getElem?_map,List.getElem?_eq_getElem hi,List.getD_eq_getElem?_getD,List.getElem?_eq_getElem hi];rfl
theorem Akj {W:World} {g k:Nat} {p:Addr} {v:Value} (hp:p.block=g) (hc:W.cell? p=some v) (hm:∃ es c,W.heap[k]? = some (.map es c)):g≠k:=fun e=>by
 obtain ⟨es,c,hm⟩:=hm;subst e;simp [World.cell?,hp,hm] at hc
theorem RowAt.keptm {W W':World} {g k:Nat} {l:List Bool} (h:RowAt W g l) (hg:W.grownBy W' (some k)) (hne:g≠k):RowAt W' g l:=fun i hi=>by
 have hc:=h i hi;rw [hg.cell_far ⟨g,i,none⟩ (World.block_lt_of_cell? W _ hc) (by simp;exact hne)];exact hc
theorem RowAt.ext {W W':World} {g:Nat} {l:List Bool} (h:RowAt W g l) (hE:Ext W W'):RowAt W' g l:=fun i hi=>hE.cell (h i hi)
theorem RowAt.lt {W:World} {g:Nat} {l:List Bool} (h:RowAt W g l) (h0:0<l.length):g<W.heap.size:=World.block_lt_of_cell? W _ (h 0 h0)
def Akk (N M:Nat) (f:Nat × Nat→Option Value):Nat:=Aj7 (N*M) fun q=>(f (q / M,q % M)).isSome
theorem Am2 {N M:Nat} {f:Nat × Nat→Option Value} {y:Nat × Nat} (h1:y.1<N) (h2:y.2<M) (hf:f y=none) (v:Value):Akk N M f+1≤Akk N M fun z=>if z=y then some v else f z:=by
 unfold Akk;refine Akv _ (fun x _ hx=>?_) ⟨y.1*M+y.2,?_,?_,?_⟩
 ·simp only;split
  ·rfl
  ·exact hx
 ·have:(y.1+1)*M≤N*M:=Nat.mul_le_mul_right M h1;rw [Nat.add_mul,Nat.one_mul] at this;omega
 ·have e1:(y.1*M+y.2) / M=y.1:=by rw [Nat.mul_comm,Nat.mul_add_div (by omega),Nat.div_eq_of_lt h2];rfl
  have e2:(y.1*M+y.2) % M=y.2:=by rw [Nat.mul_comm,Nat.mul_add_mod,Nat.mod_eq_of_lt h2]
  rw [e1,e2];simp
 ·have e1:(y.1*M+y.2) / M=y.1:=by rw [Nat.mul_comm,Nat.mul_add_div (by omega),Nat.div_eq_of_lt h2];rfl
  have e2:(y.1*M+y.2) % M=y.2:=by rw [Nat.mul_comm,Nat.mul_add_mod,Nat.mod_eq_of_lt h2]
  rw [e1,e2,hf];rfl
structure Mqq where
 xs:List RNode
 b:List UInt8
 W0:World
 gM:Nat
 gK:Nat
 bx:Nat
 ox:Nat
 cx:Nat
 vb:Value
structure Mqq.ok (q:Mqq):Prop where
 hx:VRx q.xs
 hb:q.b.length≤1000
 hM:q.W0.heap[q.gM]? = some (.cells #[.slice (some ⟨q.bx,q.ox,none⟩) q.xs.length q.cx,q.vb,.map (some q.gK)] 138 (0,0))
 hK:q.gK<q.W0.heap.size
 rx:RxAt q.W0 q.bx q.ox q.xs
 by_:By q.W0 q.vb q.b
 ne:∃ es c,q.W0.heap[q.gK]? = some (.map es c)
structure Mtq (q:Mqq) (A:Nat→Prop) (W:World) (n:Nat) (f:Nat × Nat→Option Value):Prop where
 gr:q.W0.grownBy W (some q.gK)
 mp:IsMv W 175 Hi q.gK n f
 le:n≤Akk q.xs.length (q.b.length+1) f
 al:∀ k,A k→q.W0.heap.size≤k∧k<W.heap.size
 ent:∀ y v,f y=some v→∃ g,v=.slice (some ⟨g,0,none⟩) (q.b.length+1) (q.b.length+1)∧¬ A g∧RowAt W g (Aj2 (Ajz q.xs y.1) q.b y.2)
theorem Aka (L:Av) (b:List UInt8) (i:Nat):(Aj2 L b i).length=b.length+1:=Aj4 _ _
theorem Alc {W W1 W2:World} {r:Option Nat} (h:W.grownBy W1 r) (k:W1.grownBy W2 r):W.grownBy W2 r:=h.trans k
theorem Aj8 {W W1:World} {r:Option Nat} (h:W.grownBy W1 none):W.grownBy W1 r:=⟨h.os,h.tape,h.output,h.size,fun k hk _=>h.block k hk (by simp)⟩
theorem Ake {W W1 W2:World} {r:Option Nat} (h:W.grownBy W1 r) {g:Nat} (k:W1.grownBy W2 (some g)) (hg:W.heap.size≤g):W.grownBy W2 r:=
 ⟨k.os.trans h.os,k.tape.trans h.tape,k.output.trans h.output,Nat.le_trans h.size k.size,fun j hj hr=>(k.block j (Nat.lt_of_lt_of_le hj h.size) (fun e=>by injection e with e;omega)).trans (h.block j hj hr)⟩
theorem Mtq.ext {q:Mqq} {A:Nat→Prop} {W W':World} {n:Nat} {f:Nat × Nat→Option Value} (h:Mtq q A W n f) (hE:Ext W W'):Mtq q A W' n f:=
 ⟨h.gr.trans (Aj8 (hE.grownBy none)),h.mp.ext hE,h.le,fun k hk=>⟨(h.al k hk).1,Nat.lt_of_lt_of_le (h.al k hk).2 hE.size⟩,fun y v hv=>by
  obtain ⟨g,e,hg,hr⟩:=h.ent y v hv;exact ⟨g,e,hg,hr.ext hE⟩⟩
theorem Mtq.weak {q:Mqq} {A B:Nat→Prop} {W:World} {n:Nat} {f:Nat × Nat→Option Value} (h:Mtq q A W n f) (hAB:∀ k,B k→A k):Mtq q B W n f:=
 ⟨h.gr,h.mp,h.le,fun k hk=>h.al k (hAB k hk),fun y v hv=>by
  obtain ⟨g,e,hg,hr⟩:=h.ent y v hv;exact ⟨g,e,fun hB=>hg (hAB g hB),hr⟩⟩
theorem Mtq.map {q:Mqq} {A:Nat→Prop} {W:World} {n:Nat} {f:Nat × Nat→Option Value} (h:Mtq q A W n f):∃ es c,W.heap[q.gK]? = some (.map es c):=h.mp.block
theorem Mtq.fresh {q:Mqq} {A:Nat→Prop} {W W':World} {n:Nat} {f:Nat × Nat→Option Value} (h:Mtq q A W n f) (hE:Ext W W') (hs:W.heap.size<W'.heap.size):Mtq q (fun k=>A k∨k=W.heap.size) W' n f:=by
 have h':=h.ext hE;refine ⟨h'.gr,h'.mp,h'.le,fun k hk=>?_,fun y v hv=>?_⟩
 ·rcases hk with hk|rfl
  ·exact h'.al k hk
  ·exact ⟨h.gr.size,hs⟩
 ·obtain ⟨g,e,hg,hr⟩:=h.ent y v hv;refine ⟨g,e,fun hk=>?_,hr.ext hE⟩;rcases hk with hk|hk
  ·exact hg hk
  ·have:=hr.lt (by rw [Aka];omega);omega
theorem Mtq.own {q:Mqq} (hq:q.ok) {A:Nat→Prop} {W W':World} {n:Nat} {f:Nat × Nat→Option Value} {g:Nat} (h:Mtq q A W n f) (hg:W.grownBy W' (some g)) (hA:A g):Mtq q A W' n f:=by
 obtain ⟨h1,h2⟩:=h.al g hA;have hne:q.gK≠g:=fun e=>by have:=hq.hK;omega
 refine ⟨Ake h.gr hg h1,h.mp.kept hg (by simp;exact hne),h.le,fun k hk=>⟨(h.al k hk).1,Nat.lt_of_lt_of_le (h.al k hk).2 hg.size⟩,fun y v hv=>?_⟩;obtain ⟨g',e,hg',hr⟩:=h.ent y v hv;exact ⟨g',e,hg',hr.keptm hg (fun e=>hg' (by rw [e];exact hA))⟩
theorem Mtq.box {q:Mqq} (hq:q.ok) {A:Nat→Prop} {W:World} {n:Nat} {f:Nat × Nat→Option Value} (h:Mtq q A W n f):W.heap[q.gM]? = some (.cells #[.slice (some ⟨q.bx,q.ox,none⟩) q.xs.length q.cx,q.vb,.map (some q.gK)] 138 (0,0)):=
 Aj9 h.gr hq.ne hq.hM
theorem Mtq.node {q:Mqq} (hq:q.ok) {A:Nat→Prop} {W:World} {n:Nat} {f:Nat × Nat→Option Value} (h:Mtq q A W n f) (i:Nat) (hi:i<q.xs.length):W.rangeAt q.bx (q.ox+i*9) (rnC (q.xs.getD i ⟨0,0,0,0#256,0,0⟩)).toList:=fun j v hj=>by
 have hc:=hq.rx i hi j v hj;rw [h.gr.cell_far _ (World.block_lt_of_cell? q.W0 _ hc) (by simp;exact Akj rfl hc hq.ne)];exact hc
theorem Mtq.word {q:Mqq} (hq:q.ok) {A:Nat→Prop} {W:World} {n:Nat} {f:Nat × Nat→Option Value} (h:Mtq q A W n f):By W q.vb q.b:=Sl.keptm hq.by_ (by decide) h.gr hq.ne
def Aln (q:Mqq) (A:Nat→Prop) (W:World) (f:Nat × Nat→Option Value) (node:Nat) (row:List Bool) (e:Ending) (w':World):Prop:=
 ∃ g n' f',e=.returned (.slice (some ⟨g,0,none⟩) (q.b.length+1) (q.b.length+1))∧¬ A g∧RowAt w' g row∧Mtq q A w' n' f'∧(∀ y,node<y.1→f' y=f y)∧W.grownBy w' (some q.gK)
def Ako (q:Mqq) (node:Nat):Prop:=∀ (A:Nat→Prop) (W:World) n f i,i≤q.b.length→Mtq q A W n f→
 Calls Tryz.prog 89 #[.pointer (some ⟨q.gM,0,none⟩),iv node,iv i] W fun e w'=>Aln q A W f node (Aj2 (Ajz q.xs node) q.b i) e w'
def Am7 (q:Mqq) (A:Nat→Prop) (W:World) (f:Nat × Nat→Option Value) (node:Nat) (row:List Bool) (e:Ending) (w':World):Prop:=
 ∃ g n' f',e=.returned (.slice (some ⟨g,0,none⟩) (q.b.length+1) (q.b.length+1))∧W.heap.size≤g∧w'.ownsRow W.heap.size 4 1 (.slice (some ⟨g,0,none⟩) (q.b.length+1) (q.b.length+1)) (q.b.length+1) (row.map Value.bool)∧Mtq q (fun k=>A k∨k=g) w' n' f'∧(∀ y,node<y.1→f' y=f y)∧W.grownBy w' (some q.gK)
noncomputable def Aj3 (L:Av) (b:List UInt8) (S:List Bool) (n j:Nat):Bool:=(List.range n).any fun m=>S.getD m false&&Ajy L b m j
theorem Am5 (L:Av) (b:List UInt8) (S:List Bool) (n j:Nat):Aj3 L b S (n+1) j=(Aj3 L b S n j||(S.getD n false&&Ajy L b n j)):=by
 unfold Aj3;rw [List.range_succ,List.any_append,List.any_cons,List.any_nil,Bool.or_false]
theorem Am4 {L:Av} {b:List UInt8} {S:List Bool} {n j:Nat}:Aj3 L b S n j=true↔∃ m,m<n∧S.getD m false=true∧hit L b m j:=by
 unfold Aj3;rw [List.any_eq_true];constructor
 ·rintro ⟨m,h1,h2⟩;simp only [Bool.and_eq_true] at h2;exact ⟨m,List.mem_range.1 h1,h2.1,hitB_true.1 h2.2⟩
 ·rintro ⟨m,h1,h2,h3⟩;exact ⟨m,List.mem_range.2 h1,by rw [h2,hitB_true.2 h3];rfl⟩
noncomputable def Aki (L:Av) (b:List UInt8) (S:List Bool):List Bool:=Aj1 (b.length+1) (Aj3 L b S (b.length+1))
def Alq (q:Mqq) (node:Nat):Prop:=∀ (A:Nat→Prop) (W:World) n f (gs:Nat) (S:List Bool),Mtq q A W n f→S.length=q.b.length+1→RowAt W gs S→
 Calls Tryz.prog 148 #[.pointer (some ⟨q.gM,0,none⟩),iv node,.slice (some ⟨gs,0,none⟩) (q.b.length+1) (q.b.length+1)] W fun e w'=>Am7 q A W f node (Aki (Ajz q.xs node) q.b S) e w'
set_option maxHeartbeats 4000000 in
theorem Alj (q:Mqq) (hq:q.ok) (node:Nat) (hE:Ako q node):Alq q node:=by
 intro A W n f gs S hM hS hR;have HEO:=Lib.hid hE;have HMt:=Lib.hid hM;have HQ:=Lib.hid hq;have hb:=hq.hb;obtain ⟨i0,hi,hz0,hz1,hz2⟩:=info_parts Fd;have hgs:=Akj rfl (hR 0 (by omega)) hM.map;have HS:=Lib.hid hS;have HR:=Lib.hid hR;obtain ⟨N,hN⟩:∃ N,q.b.length+1=N:=⟨_,rfl⟩;have HN:=Lib.hid hN;have hN1:N≤1001:=by omega
 have hN0:0<N:=by omega
 rw [hN];clear hE hM hq hS hR hN hb;go_enter Tryz.func148,Tryz.ntmps148;go_upto_region 2 with (at_make;refine wpList_make_full _ rfl _ _ 28 rfl W.heap.size 4 i0 (.bool false) 1 Tryz.underlying28 hi hz0 hz1 .i64 .i64 _ _ N rfl rfl rfl rfl (by rw [hz2];omega) (by unfold maxLen;omega) (Nat.le_refl _) ?_;intro w1 hown1 hgrow1)
 have hE1:Ext W w1:=(Ext.refl W).grown hgrow1 (fun k e=>by cases e);have hs1:W.heap.size<w1.heap.size:=by have:=(hown1.lt W.heap.size rfl).2;exact this
 have hM1:=HMt.out.fresh hE1 hs1;have hG1:W.grownBy w1 (some q.gK):=Aj8 hgrow1;have hO1:w1.ownsRow W.heap.size 4 1 (.slice (some ⟨W.heap.size,0,none⟩) N N) N ((Aj1 N (Aj3 (Ajz q.xs node) q.b S 0)).map Value.bool):=by
  have:Aj1 N (Aj3 (Ajz q.xs node) q.b S 0)=List.replicate N false:=by
   apply List.ext_getElem?;intro j;simp only [Aj1,List.getElem?_map,List.getElem?_replicate];by_cases hj:j<N
   ·simp [hj,Aj3]
   ·simp [hj]
  rw [this,← Ca];exact hown1
 obtain ⟨L,hL⟩:∃ L,Ajz q.xs node=L:=⟨_,rfl⟩;rw [hL] at hO1;obtain ⟨gl,hgl⟩:∃ y,W.heap.size=y:=⟨_,rfl⟩;have HGL:Hid (W.heap.size=gl):=Lib.hid hgl;rw [hgl] at hO1 hM1;have HL:=Lib.hid hL;simp only [hgl];clear hown1 hgrow1 hE1 hs1 hL hgl;go_wp2_with (fail);go_loopw [17] (fun vi W'=>∃ (i n':Nat) (f':Nat × Nat→Option Value),i≤N∧vi=.int .i64 i∧Hid (Mtq q (fun k=>A k∨k=gl) W' n' f')∧W'.ownsRow gl 4 1 (.slice (some ⟨gl,0,none⟩) N N) N ((Aj1 N (Aj3 L q.b S i)).map Value.bool)∧Hid (∀ y,node<y.1→f' y=f y)∧Hid (W.grownBy W' (some q.gK)))
  (fun vi _=>N-(intOf vi).toNat)
 case atStart=>exact ⟨0,n,f,by omega,rfl,Lib.hid hM1,hO1,Lib.hid fun _ _=>rfl,Lib.hid hG1⟩
 case round=>
  clear hM1 hO1 hG1;obtain ⟨i,n1,f1,hiN,rfl,HM,hO,HF,HG⟩:=hrel;by_cases hlt:i<N
  ·have hltI:(i:Int)<(N:Int):=by omega
   have cS:=(HR.out.keptm HG.out hgs) i (by rw [HS.out,HN.out];exact hlt);have hnx:=Lib.hid (fun j=>Am5 L q.b S i j);obtain ⟨s,hs⟩:∃ s,S.getD i false=s:=⟨_,rfl⟩;rw [hs] at cS;have HSI:=Lib.hid hs;clear hs;cases s with
   | false=>
    have hO2:wr.ownsRow gl 4 1 (.slice (some ⟨gl,0,none⟩) N N) N ((Aj1 N (Aj3 L q.b S (i+1))).map Value.bool):=by
     rw [Aj6 (fun j _=>by rw [hnx.out j,HSI.out];simp:∀ j,j<N→Aj3 L q.b S (i+1) j=Aj3 L q.b S i j)];exact hO
    clear hO;go_wp2;go_roundw
    case rel=>exact ⟨i+1,n1,f1,by omega,by go_num,HM,hO2,HF,HG⟩
    case measure=>simp [intOf];omega
   | true=>
    have f89:=Lib.hid (HEO.out _ wr n1 f1 i (by have:=HN.out;omega) HM.out);rw [HL.out] at f89;go_wp2_with (go_at_call 89;(with_reducible refine f89.out.mono ?_);rintro e w2 ⟨ge,n2,f2,rfl,hge,hre,hm2,hf2,hg2⟩;rw [HN.out];have HGE:=Lib.hid hge;have HRE:=Lib.hid hre;have HM2:=Lib.hid hm2;have HF2:=Lib.hid hf2;have HG2:=Lib.hid hg2;clear hge hre hm2 hf2 hg2);have HNE:Hid (ge≠gl):=Lib.hid fun e=>HGE.out (.inr e)
    have HGW:Hid (W.heap.size≤gl):=Lib.hid (Nat.le_of_eq HGL.out);have hO2:=hO.kept HG2.out (.inr fun e=>by
     have h1:=(HM.out.al gl (.inr rfl)).1;have h2:=HQ.out.hK;simp [Value.ownBlock] at e;omega)
    have hO3:w2.ownsRow gl 4 1 (.slice (some ⟨gl,0,none⟩) N N) N ((Aj1 N (fun x=>if x<0 then Aj3 L q.b S (i+1) x else Aj3 L q.b S i x)).map Value.bool):=by
     rw [Aj6 (fun j _=>by rw [if_neg (by omega)]:∀ j,j<N→(if j<0 then Aj3 L q.b S (i+1) j else Aj3 L q.b S i j)=Aj3 L q.b S i j)];exact hO2
    have HG3:=Lib.hid (Alc HG.out HG2.out);have HF3:Hid (∀ y,node<y.1→f2 y=f y):=Lib.hid fun y hy=>(HF2.out y hy).trans (HF.out y hy)
    clear hO hO2 f89 cS;go_loopw [28] (fun vj W'=>∃ j:Nat,j≤N∧vj=.int .i64 j∧Hid (Mtq q (fun k=>A k∨k=gl) W' n2 f2)∧W'.ownsRow gl 4 1 (.slice (some ⟨gl,0,none⟩) N N) N ((Aj1 N (fun x=>if x<j then Aj3 L q.b S (i+1) x else Aj3 L q.b S i x)).map Value.bool)∧Hid (RowAt W' ge (Aj2 L q.b i))∧Hid (W.grownBy W' (some q.gK)))
     (fun vj _=>N-(intOf vj).toNat)
    case atStart=>exact ⟨0,by omega,rfl,HM2,hO3,HRE,HG3⟩
    case round=>
     clear hO3 HM2 HRE HG3;obtain ⟨j,hjN,rfl,HM3,hO3,HRE,HG3⟩:=hrel;by_cases hlj:j<N
     ·have hljI:(j:Int)<(N:Int):=by omega
      have cL:=Ap false hO3 (Aj4 _ _).symm j (by rw [Aj4];exact hlj);rw [Akb _ _ _ hlj,if_neg (by omega)] at cL;have cE:=HRE.out j (by rw [Aka,HN.out];exact hlj);unfold Aj2 at cE;rw [Akb _ _ _ (by rw [HN.out];exact hlj)] at cE;have fz:=hO3.frozenAt j;have hset:∀ v,Aj3 L q.b S (i+1) j=v→∀ x,x<N→(if x=j then v else if x<j then Aj3 L q.b S (i+1) x else Aj3 L q.b S i x)=if x<j+1 then Aj3 L q.b S (i+1) x else Aj3 L q.b S i x:=fun v hv x _=>by
       by_cases e1:x=j
       ·subst e1;rw [if_pos rfl,if_pos (by omega),hv]
       ·by_cases e2:x<j
        ·rw [if_neg e1,if_pos e2,if_pos (by omega)]
        ·rw [if_neg e1,if_neg e2,if_neg (by omega)]
      obtain ⟨x,hx⟩:∃ x,Aj3 L q.b S i j=x:=⟨_,rfl⟩;obtain ⟨y,hy⟩:∃ y,Ajy L q.b i j=y:=⟨_,rfl⟩;rw [hx] at cL;rw [hy] at cE;have HX:=Lib.hid hx;have HY:=Lib.hid hy;clear hx hy;obtain ⟨v,hv⟩:∃ v,(x||y)=v:=⟨_,rfl⟩;obtain ⟨hP,hgr⟩:=A3 (f:=Value.bool) hO3 j v;have hP2:(wr.setCell ⟨gl,j,none⟩ (.bool v)).ownsRow gl 4 1 (.slice (some ⟨gl,0,none⟩) N N) N ((Aj1 N (fun x=>if x<j+1 then Aj3 L q.b S (i+1) x else Aj3 L q.b S i x)).map Value.bool):=by
       rw [Akd,Aj6 (hset v (by rw [hnx.out,HSI.out,HX.out,HY.out];exact hv))] at hP;exact hP
      have hM4:=Lib.hid (HM3.out.own HQ.out hgr (.inr rfl));have hR4:=Lib.hid (HRE.out.keptm hgr HNE.out);have hG4:=Lib.hid (Ake HG3.out hgr HGW.out);clear hP hgr hO3 hset HX HY;cases x<;>cases y
      all_goals
       first
       | (obtain rfl:true=v:=hv)
       | (obtain rfl:false=v:=hv)
       go_wp2;go_roundw
       case rel=>exact ⟨j+1,by omega,by go_num,hM4,hP2,hR4,hG4⟩
       case measure=>simp [intOf];omega
     ·obtain rfl:N=j:=by omega
      have hO4:wr.ownsRow gl 4 1 (.slice (some ⟨gl,0,none⟩) N N) N ((Aj1 N (Aj3 L q.b S (i+1))).map Value.bool):=by
       rw [Aj6 (fun j hj=>by rw [if_pos hj]:∀ j,j<N→(if j<N then Aj3 L q.b S (i+1) j else Aj3 L q.b S i j)=Aj3 L q.b S (i+1) j)] at hO3;exact hO3
      clear hO3;go_wp2;go_roundw
      case rel=>exact ⟨i+1,n2,f2,by omega,by go_num,HM3,hO4,HF3,HG3⟩
      case measure=>simp [intOf];omega
  ·obtain rfl:N=i:=by omega
   go_wp2;go_ret;refine ⟨gl,n1,f1,by rw [HN.out];rfl,Nat.le_of_eq HGL.out,?_,HM.out,HF.out,HG.out⟩;rw [HN.out,HGL.out];unfold Aki;rw [HN.out,HL.out];exact hO
end Go.Proofs.YtaiogolidlamiaaGreatDoor
