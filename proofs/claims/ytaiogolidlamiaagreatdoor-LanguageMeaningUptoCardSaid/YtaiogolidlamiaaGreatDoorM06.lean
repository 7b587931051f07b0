import Derived.Deep.AppendLies
import Derived.Deep.MidRow
import Derived.Test.YtaiogolidlamiaaGreatDoorM03
import Derived.Test.YtaiogolidlamiaaGreatDoorM05
import Derived.Test.YtaiogolidlamiaaGreatDoorM04
set_option linter.unusedVariables false
set_option linter.unusedSimpArgs false
namespace Go.Proofs.YtaiogolidlamiaaGreatDoor
set_option maxRecDepth 100000
open Go.RowKit Go.Shelf
theorem Ai {W:World} {b b':Nat} {e e':TypeId} {s s' n m:Nat} {v u:Value} {xs ys:List Value} (h:W.ownsRow b e s v n xs) (h':W.ownsRow b' e' s' u m ys) (hne:e≠e'):v.ownBlock=none∨v.ownBlock≠u.ownBlock:=by
 obtain ⟨_,⟨rfl,_⟩|⟨g,cap,cur,rfl,_,hg,_⟩⟩:=h
 ·exact .inl rfl
 ·obtain ⟨_,⟨rfl,_⟩|⟨g',cap',cur',rfl,_,hg',_⟩⟩:=h'
  ·exact .inr (by simp [Value.ownBlock])
  ·refine .inr fun hb=>?_
   have:g=g':=by simpa [Value.ownBlock] using hb
   subst this;rw [hg] at hg';simp at hg';exact hne hg'.2
theorem Agd (L:List Cls) (k:Nat) (c:Cls) (hk:k<L.length) :
  Dw (L.set k c)=((((Dw L).set (k*4) (.int .u64 (wd c 0))).set (k*4+1) (.int .u64 (wd c 1))).set (k*4+1+1) (.int .u64 (wd c 2))).set (k*4+1+1+1) (.int .u64 (wd c 3)):=by
 have hl:=Uz L;apply List.ext_getElem?;intro i;by_cases hi:i<L.length*4
 ·rw [Jd _ i (by simpa using hi)];simp only [List.getElem?_set,List.length_set,hl];by_cases hd:i / 4=k
  ·subst hd;rw [Us _ _ _ _ hk];have:i % 4=0∨i % 4=1∨i % 4=2∨i % 4=3:=by omega
   rcases this with h|h|h|h
   ·rw [if_neg (by omega),if_neg (by omega),if_neg (by omega),if_pos (by omega),if_pos (by omega),h]
   ·rw [if_neg (by omega),if_neg (by omega),if_pos (by omega),if_pos (by omega),h]
   ·rw [if_neg (by omega),if_pos (by omega),if_pos (by omega),h]
   ·rw [if_pos (by omega),if_pos (by omega),h]
  ·rw [Ut _ _ _ _ _ (Ne.symm hd),if_neg (by omega),if_neg (by omega),if_neg (by omega),if_neg (by omega),Jd _ i hi]
 ·rw [List.getElem?_eq_none (by rw [Uz,List.length_set];omega),List.getElem?_eq_none (by simp only [List.length_set,hl];omega)]
theorem Ng {W:World} {base g cap:Nat} {L:List Cls} (h:Row W base (.slice (some ⟨g,0,none⟩) L.length cap) L) (k:Nat) (hk:k<L.length) (c:Cls) :
  Row (W.setCells g (k*4) (Aa c).toList) base (.slice (some ⟨g,0,none⟩) L.length cap) (L.set k c)∧W.grownBy (W.setCells g (k*4) (Aa c).toList) (some g):=by
 have e:W.setCells g (k*4) (Aa c).toList=(((W.setCell ⟨g,k*4,none⟩ (.int .u64 (wd c 0))).setCell ⟨g,k*4+1,none⟩ (.int .u64 (wd c 1))).setCell ⟨g,k*4+1+1,none⟩ (.int .u64 (wd c 2))).setCell ⟨g,k*4+1+1+1,none⟩ (.int .u64 (wd c 3)):=rfl;have h0:=h.stored (k*4) (.int .u64 (wd c 0));have h1:=h0.1.stored (k*4+1) (.int .u64 (wd c 1));have h2:=h1.1.stored (k*4+1+1) (.int .u64 (wd c 2));have h3:=h2.1.stored (k*4+1+1+1) (.int .u64 (wd c 3));rw [e];refine ⟨?_,h0.2.trans (h1.2.trans (h2.2.trans h3.2))⟩;show World.ownsRow _ _ _ _ _ _ _;rw [Agd L k c hk,List.length_set];exact h3.1
theorem Sa {W:World} {base g cap:Nat} {L:List Cls} (h:Row W base (.slice (some ⟨g,0,none⟩) L.length cap) L) (k:Nat) (hk:k<L.length):W.there g (k*4) 4:=by
 intro j hj;refine ⟨?_,h.frozenAt _⟩;rw [h.cellAt _ (by omega),Jd _ _ (by omega)];rfl
abbrev RowB (W:World) (base:Nat) (v:Value) (l:List UInt8):Prop:=W.ownsRow base 5 1 v l.length (l.map bv)
theorem RowB.cell {W:World} {base g n cap:Nat} {l:List UInt8} (h:W.ownsRow base 5 1 (.slice (some ⟨g,0,none⟩) n cap) l.length (l.map bv)) (hn:n=l.length) (k:Nat) (hk:k<l.length):W.cell? ⟨g,k,none⟩=some (bv (l.getD k 0)):=by
 subst hn;rw [World.ownsRow.cellAt h k (by omega)];simp [List.getD_eq_getElem?_getD,hk]
theorem RowB.form {W:World} {base:Nat} {v:Value} {l:List UInt8} (h:RowB W base v l):(v=.slice none 0 0∧l.length=0)∨∃ g cap,v=.slice (some ⟨g,0,none⟩) l.length cap:=by
 obtain ⟨_,h|⟨g,cap,cur,hv,_⟩⟩:=h
 ·exact .inl h
 ·exact .inr ⟨g,cap,hv⟩
theorem Ew {W:World} {b:Nat} {e:TypeId} {s n:Nat} {v:Value} {xs:List Value} (h:W.ownsRow b e s v n xs):∃ a cap,v=.slice a n cap:=by
 obtain ⟨_,⟨rfl,rfl⟩|⟨g,cap,cur,rfl,_⟩⟩:=h
 ·exact ⟨_,_,rfl⟩
 ·exact ⟨_,_,rfl⟩
theorem Ob {W:World} {b:Nat} {e:TypeId} {s n m cap:Nat} {a:Option Addr} {xs:List Value} (h:W.ownsRow b e s (.slice a m cap) n xs) (hn:0<n):∃ g,a=some ⟨g,0,none⟩:=by
 obtain ⟨_,⟨_,h0⟩|⟨g,cap,cur,hv,_⟩⟩:=h
 ·omega
 ·simp at hv;exact ⟨g,hv.1⟩
theorem Po {W:World} {base g cap:Nat} {L:List Cls} (h:Row W base (.slice (some ⟨g,0,none⟩) L.length cap) L) (k:Nat) (hk:k<L.length) :
  W.cell? ⟨g,k*4,none⟩=some (.int .u64 (wd (L.getD k 0#256) 0))∧W.cell? ⟨g,k*4+1,none⟩=some (.int .u64 (wd (L.getD k 0#256) 1))∧
  W.cell? ⟨g,k*4+2,none⟩=some (.int .u64 (wd (L.getD k 0#256) 2))∧W.cell? ⟨g,k*4+3,none⟩=some (.int .u64 (wd (L.getD k 0#256) 3)):=by
 have H:∀ j,j<4→W.cell? ⟨g,k*4+j,none⟩=some (.int .u64 (wd (L.getD k 0#256) j)):=fun j hj=>by
  rw [h.cellAt _ (by omega),Jd _ _ (by omega),show (k*4+j) / 4=k by omega,show (k*4+j) % 4=j by omega]
 exact ⟨H 0 (by omega),H 1 (by omega),H 2 (by omega),H 3 (by omega)⟩
set_option maxHeartbeats 4000000 in
set_option maxRecDepth 100000 in
theorem Abc (l:List Cls) (v:Value) (w:World) (h:Cs w v l) :
  Calls Tryz.prog 91 #[v] w fun e w'=>∃ v',e=.returned v'∧Cs w' v' (Jn l)∧Ext w w':=by
 have HL:=Lib.hid h;clear h;obtain ⟨i0,hi,hz0,hz1,hz2⟩:=info_parts Uf;obtain ⟨j0,hj,hy0,hy1,hy2⟩:=info_parts O9;go_enter Tryz.func91,Tryz.ntmps91;go_wp2_with (fail);go_loopw [3,4,5] (fun o t i W=>∃ (k:Nat) (out:List Cls) (le:List UInt8),k≤256∧i=.int .i64 k∧Ext w W∧Row W w.heap.size o out∧RowB W w.heap.size t le∧Hid (RInv l k out le))
  (fun _ _ i _=>256-(intOf i).toNat)
 case atStart=>
  refine ⟨0,[],[],by omega,rfl,((Ext.refl w).alloc _).alloc _,?_,?_,Lib.hid (Aau l)⟩
  ·exact (World.ownsRow_made (base:=w.heap.size) (e:=62) (size:=4) w #[] 0 (by simp) (by unfold maxLen;omega) rfl).alloc _
  ·have h:=World.ownsRow_made (base:=w.heap.size) (e:=5) (size:=1) (w.alloc (.cells #[] 62)) #[] 0 (by simp) (by unfold maxLen;omega) rfl
   rwa [World.size_alloc] at h
 case round=>
  obtain ⟨k,out,le,hk,rfl,hE,hrow,hrb,hinv⟩:=hrel;by_cases hlt:k<256
  ·have hlen:=Lib.hid hinv.out.len;have hbd:=hinv.out.bound;have hol:out.length≤k:=by have:=hlen.out;omega
   obtain ⟨ao,co,rfl⟩:=Ew hrow;obtain ⟨al,cl,rfl⟩:=Ew hrb;have hw:IntKind.u8.wrap (k:Int)=k:=IntWalk.u8_in _ ⟨by omega,by omega⟩;obtain ⟨wo,hwo⟩:∃ W,W=wr:=⟨_,rfl⟩;subst hwo;have hd:decide ((k:Int)<256)=true:=by simp;omega
   go_wp2_with (fail);go_loopw [6] (fun j W=>∃ m:Nat,m≤out.length∧j=.int .i64 m∧Ext wo W∧Hid (∀ q,q<m→¬ Alk l (le.getD q 0).toNat k))
    (fun j _=>out.length-(intOf j).toNat)
   case atStart=>exact ⟨0,by omega,rfl,Ext.refl wo,Lib.hid (fun q hq=>by omega)⟩
   case round=>
    obtain ⟨m,hm,rfl,hEm,hno⟩:=hrel;have hE':=hE.trans hEm;have hrow:=Ah hrow hEm;have hrb:=Ah hrb hEm;have hs1:=hE'.size;by_cases hm2:m<out.length
    ·have hm3:m<le.length:=by have:=hlen.out;omega
     obtain ⟨g,rfl⟩:=Ob hrow (by omega);obtain ⟨g',rfl⟩:=Ob hrb (by have:=hlen.out;omega);have cl:=RowB.cell hrb rfl m hm3;obtain ⟨x,hxd⟩:∃ x,le.getD m 0=x:=⟨_,rfl⟩;rw [hxd] at cl;have HXD:=Lib.hid hxd;clear hxd;have HAB:=Lib.hid (Ajp l x.toNat k);have hx:=x.toNat_lt;have hA:=Lib.hid (Ajq l v (x.toNat:Int) (k:Int) (by omega) (by omega) (by omega) (by omega) wr (HL.out.ext hE'));generalize (l.all fun c=>Bb c (x.toNat:Int)==Bb c (k:Int))=b at hA HAB;cases b
     ·go_wp2_with (go_at_call 123;with_reducible refine hA.out.mono ?_;rintro e w1 ⟨rfl,hE1⟩);clear hA cl;go_roundw
      case rel=>exact ⟨m+1,by omega,by go_num,hEm.trans hE1,Lib.hid fun q hq=>by
       by_cases hqm:q=m
       ·rw [hqm,HXD.out];exact fun ha=>Bool.false_ne_true (HAB.out.2 ha)
       ·exact hno.out q (by omega)⟩
      case measure=>simp [intOf];omega
     ·have hne:((m:Int)==(out.length:Int))=false:=by simp;omega
      have HS:=Lib.hid (Aav hinv.out (by omega) m hm3 (by rw [HXD.out];exact HAB.out.1 rfl));obtain ⟨a0,a1,a2,a3⟩:=Po hrow m hm2;generalize out.getD m 0#256=d at *;have hW:=fun W=>Lib.hid (Q5 d (k:Int) (by omega) (by omega) W)
      go_wp2_with (first
       | (go_at_call 123;with_reducible refine hA.out.mono ?_;rintro e w1 ⟨rfl,hE1⟩;have a0:=hE1.cell a0;have a1:=hE1.cell a1;have a2:=hE1.cell a2;have a3:=hE1.cell a3;have hrow1:=Ah hrow hE1)
       | (go_at_call 124;with_reducible refine (hW _).out.mono ?_;rintro e w2 ⟨rfl,hE2⟩)
       | (refine wpList_store_mid rfl 62 (.tmp 52) (.tmp 51) rfl g (m*4) (Aa (Bj d (k:Int))) rfl rfl (Sa (Ah hrow1 hE2) m hm2) Au (De _) ?_))
      go_roundw
      case rel=>
       have hr:=Ng (Ah hrow1 hE2) m hm2 (Bj d (k:Int));have hgb:=(hrow.lt g rfl).1;refine ⟨k+1,_,le,by omega,by go_num,((hE'.trans hE1).trans hE2).grown hr.2 (fun q e=>by cases e;exact hgb),?_,?_,HS⟩
       ·have:=hr.1;show World.ownsRow _ _ _ _ _ _ _;rw [List.length_set];rw [show Row _ _ _ _=World.ownsRow _ _ _ _ _ _ _ from rfl,List.length_set] at this;exact this
       ·exact (Ah (Ah hrb hE1) hE2).kept hr.2 (Ai (Ah (Ah hrb hE1) hE2) (Ah hrow1 hE2) (by decide))
      case measure=>simp [intOf];omega
    ·obtain rfl:m=out.length:=by omega
     have heq:((out.length:Int)==(out.length:Int))=true:=by simp
     have HS:=Lib.hid (Aaw hinv.out (by omega) (by rw [← hlen.out];exact hno.out));have hnew:=Kq wr 0#256;rw [Ee] at hnew;have hW:=fun W=>Lib.hid (Q5 0#256 (k:Int) (by omega) (by omega) W)
     have HN:=Lib.hid hnew;clear hnew;go_wp2_with (at_builtin;(refine wpList_append_lies _ rfl _ _ 26 rfl w.heap.size 62 i0 (.agg zA) 4 32 Tryz.underlying26 hi hz0 hz1 hz2 rfl (by decide) _ _ _ rfl (hrow.alloc _) _ 1 1 (B0 0#256) rfl rfl HN.out (by simp [B0,Value.oneCell']) (by decide) (by unfold maxLen;omega) (by omega) (by simp;omega) _ rfl ?_));intro g cap3 w3 hrow3 hgrow3 _ hlt3;have hE3:Ext w w3:=(hE'.alloc _).grown hgrow3 (fun q e=>by have:=(hrow.lt q e).1;omega);have hrb3:=(hrb.alloc _).kept hgrow3 (Ai hrb hrow (by decide));have hs3:=hE3.size;clear HN hgrow3 hrb;go_wp2_with (at_builtin;(refine wpList_append_lies _ rfl _ _ 22 rfl w.heap.size 5 j0 (.int .u8 0) 1 1 Tryz.underlying22 hj hy0 hy1 hy2 rfl (by decide) _ _ _ rfl (hrb3.alloc _) _ 1 1 [.int .u8 (k:Int)] rfl rfl (cell_one_new _ _ _) (by simp [Value.oneCell']) (by decide) (by unfold maxLen;omega) (by omega) (by simp;omega) _ rfl ?_));intro g4 cap4 w4 hrb4 hgrow4 _ hlt4;have hE4:Ext w w4:=(hE3.alloc _).grown hgrow4 (fun q e=>by have:=(hrb3.lt q e).1;omega);have hrow4:=(hrow3.alloc _).kept hgrow4 (Ai hrow3 hrb3 (by decide));have HR4:Hid (Row w4 w.heap.size (.slice (some ⟨g,0,none⟩) (out++[0#256]).length cap3) (out++[0#256])):=Lib.hid (by
      show World.ownsRow _ _ _ _ _ _ _;rw [Ln,Lm,List.length_append];exact hrow4)
     obtain ⟨a0,a1,a2,a3⟩:=Po HR4.out out.length (by simp);rw [Bw] at a0 a1 a2 a3;have hu:((UInt8.ofNat k).toNat:Int)=k:=by rw [u8n k hlt]
     have HU:=Lib.hid hu;clear hu hgrow4 hrb3 hrow3 hrow4;go_wp2_with (first
      | (go_at_call 124;with_reducible refine (hW _).out.mono ?_;rintro e w5 ⟨rfl,hE5⟩)
      | (refine wpList_store_mid rfl 62 (.tmp 52) (.tmp 51) rfl g (out.length*4) (Aa (Bj 0#256 (k:Int))) rfl rfl (Sa (Ah HR4.out hE5) out.length (by simp)) Au (De _) ?_))
     go_roundw
     case rel=>
      have hr:=Ng (Ah HR4.out hE5) out.length (by simp) (Bj 0#256 (k:Int));have hgb:=(HR4.out.lt g rfl).1;have es:(out++[0#256]).set out.length (Bj 0#256 (k:Int))=out++[Bj 0#256 (k:Int)]:=by simp
      rw [es] at hr;refine ⟨k+1,out++[Bj 0#256 (k:Int)],le++[UInt8.ofNat k],by omega,by go_num,(hE4.trans hE5).grown hr.2 (fun q e=>by cases e;exact hgb),?_,?_,HS⟩
      ·have:=hr.1;simp only [List.length_append,List.length_singleton] at this ⊢;exact this
      ·have:=(Ah hrb4 hE5).kept hr.2 (Ai (Ah hrb4 hE5) (Ah HR4.out hE5) (by decide));show World.ownsRow _ _ _ _ _ _ _;rw [List.length_append,List.map_append,List.map_singleton,bv,HU.out];exact this
     case measure=>simp [intOf];omega
  ·obtain rfl:k=256:=by omega
   have he:=Aax hinv.out;have hcs:=hrow.toCs (by have:=hinv.out.len;have:=hinv.out.bound;omega);rw [he] at hcs;go_wp2;go_ret;exact ⟨_,rfl,hcs,hE⟩
abbrev iv (x:Nat):Value:=.int .i64 (x:Int)
def Ints (W:World) (v:Value) (l:List Nat):Prop:=Sl W v 1 l.length (fun i=>iv (l.getD i 0))
def Bools (W:World) (v:Value) (l:List Bool):Prop:=Sl W v 1 l.length (fun i=>.bool (l.getD i false))
def Rows (W:World) (v:Value) (N:List (List Nat)):Prop:=
 ∃ vs:List Value,vs.length=N.length∧Sl W v 1 N.length (fun i=>vs.getD i undef)∧∀ i,i<N.length→Ints W (vs.getD i undef) (N.getD i [])
theorem Ints.ext {W W':World} {v:Value} {l:List Nat} (h:Ints W v l) (hE:Ext W W'):Ints W' v l:=Sl.ext h hE
theorem Bools.ext {W W':World} {v:Value} {l:List Bool} (h:Bools W v l) (hE:Ext W W'):Bools W' v l:=Sl.ext h hE
theorem Rows.ext {W W':World} {v:Value} {N:List (List Nat)} (h:Rows W v N) (hE:Ext W W'):Rows W' v N:=by
 obtain ⟨vs,h1,h2,h3⟩:=h;exact ⟨vs,h1,h2.ext hE,fun i hi=>(h3 i hi).ext hE⟩
theorem Sl.form {W:World} {v:Value} {k n:Nat} {f:Nat→Value} (h:Sl W v k n f) (h0:0<n) :
  ∃ b off cap,v=.slice (some ⟨b,off,none⟩) n cap∧∀ i,i<n*k→W.cell? ⟨b,off+i,none⟩=some (f i):=by
 obtain ⟨_,⟨hn,_⟩|⟨_,b,off,cap,hv,_,hc⟩⟩:=h
 ·omega
 ·exact ⟨b,off,cap,hv,hc⟩
theorem Sl.len {W:World} {v:Value} {k n:Nat} {f:Nat→Value} (h:Sl W v k n f):∃ a cap,v=.slice a n cap:=by
 obtain ⟨_,⟨hn,a,cap,rfl⟩|⟨_,b,off,cap,rfl,_⟩⟩:=h
 ·exact ⟨a,cap,by rw [hn]⟩
 ·exact ⟨_,cap,rfl⟩
def IsD (W:World) (v:Value) (d:Dfa):Prop:=∃ vc vn va,v=.agg #[vc,vn,va]∧Cs W vc d.cls∧Rows W vn d.nxt∧Bools W va d.acc
theorem IsD.ext {W W':World} {v:Value} {d:Dfa} (h:IsD W v d) (hE:Ext W W'):IsD W' v d:=by
 obtain ⟨vc,vn,va,hv,h1,h2,h3⟩:=h;exact ⟨vc,vn,va,hv,h1.ext hE,h2.ext hE,h3.ext hE⟩
def Du (c:Nat→Nat) (n:Nat) (vn va:Value):List Value:=(List.range 256).map (fun b=>iv (c b))++[iv n,vn,va]
def Ag (c:Nat→Nat) (n:Nat) (vn va:Value):Array Value:=(Du c n vn va).toArray
theorem D1 (c:Nat→Nat) (n:Nat) (vn va:Value):(Ag c n vn va).size=259:=by simp [Ag,Du]
theorem M3 (c:Nat→Nat) (n:Nat) (vn va:Value) (b:Nat) (hb:b<256):(Ag c n vn va)[b]? = some (iv (c b)):=by
 simp [Ag,Du,List.getElem?_append_left,hb]
theorem Yo (c:Nat→Nat) (n:Nat) (vn va:Value):(Ag c n vn va)[256]? = some (iv n):=by
 simp [Ag,Du,List.getElem?_append_right]
theorem Iq (c:Nat→Nat) (n:Nat) (vn va:Value):(Ag c n vn va)[257]? = some vn:=by
 simp [Ag,Du,List.getElem?_append_right]
theorem Gc (c:Nat→Nat) (n:Nat) (vn va:Value):(Ag c n vn va)[258]? = some va:=by
 simp [Ag,Du,List.getElem?_append_right]
theorem Gb {c c':Nat→Nat} (h:∀ b,b<256→c b=c' b) (n:Nat) (vn va:Value):Ag c n vn va=Ag c' n vn va:=by
 unfold Ag Du
 congr 2
 exact List.map_congr_left fun b hb=>by rw [h b (List.mem_range.1 hb)]
theorem Re (c:Nat→Nat) (n:Nat) (vn va:Value) (b x:Nat) (hb:b<256):(Ag c n vn va).setIfInBounds b (iv x)=Ag (fun y=>if y=b then x else c y) n vn va:=by
 apply Array.ext';rw [Array.toList_setIfInBounds];unfold Ag;simp only;apply List.ext_getElem?;intro i;unfold Du;rw [List.getElem?_set];by_cases hi:i<256
 ·by_cases e:b=i
  ·subst e;simp [List.getElem?_append_left,hb];omega
  ·simp [List.getElem?_append_left,hi,e,Ne.symm e]
 ·have:b≠i:=by omega
  rw [if_neg this,List.getElem?_append_right (by simp;omega),List.getElem?_append_right (by simp;omega)];simp
theorem Ga (c:Nat→Nat) (n:Nat) (vn va:Value) (hn:vn.oneCell'=true) (ha:va.oneCell'=true):(Ag c n vn va).all (·.oneCell')=true:=by
 rw [Array.all_eq_true_iff_forall_mem];intro x hx;simp only [Ag,Du,List.mem_toArray,List.mem_append,List.mem_map,List.mem_cons,List.not_mem_nil,or_false] at hx;rcases hx with ⟨b,_,rfl⟩|rfl|rfl|rfl
 ·rfl
 ·rfl
 ·exact hn
 ·exact ha
theorem Bv:(Tryz.prog.info? 108).map (·.size)=some 259:=by kernel_rfl
def IsT (W:World) (A:Array Value) (t:Tbl):Prop:=∃ vn va,A=Ag t.cell t.cells vn va∧Rows W vn t.nxt∧Bools W va t.acc
theorem IsT.ext {W W':World} {A:Array Value} {t:Tbl} (h:IsT W A t) (hE:Ext W W'):IsT W' A t:=by
 obtain ⟨vn,va,hv,h2,h3⟩:=h;exact ⟨vn,va,hv,h2.ext hE,h3.ext hE⟩
theorem Aiw (n:Int) (a:Option Addr) (l c:Nat) (a':Option Addr) (l' c':Nat):Tryz.prog.built 108 [(1,.int .i64 n),(2,.slice a l c),(3,.slice a' l' c')]=some ((List.replicate 256 (Value.int .i64 0)++[Value.int .i64 n,Value.slice a l c,Value.slice a' l' c']).toArray):=by kernel_rfl
theorem Yn (n:Nat) (vn va:Value):Ag (fun _=>0) n vn va=(List.replicate 256 (Value.int .i64 0)++[iv n,vn,va]).toArray:=by
 unfold Ag Du;simp [List.map_const']
theorem By.split {W:World} {v:Value} {l:List UInt8} (h:By W v l):∃ a b off cap,v=.slice a l.length cap∧(0<l.length→a=some ⟨b,off,none⟩)∧∀ i,i<l.length→W.cell? ⟨b,off+i,none⟩=some (bv (l.getD i 0)):=by
 obtain ⟨h0,⟨hn,a,cap,rfl⟩|⟨hn,b,off,cap,rfl,hb,hc⟩⟩:=h
 ·exact ⟨a,0,0,cap,by rw [hn],by omega,by omega⟩
 ·exact ⟨_,b,off,cap,rfl,fun _=>rfl,fun i hi=>hc i (by omega)⟩
theorem Yp (c:Nat→Nat) (n:Nat) (a:Option Addr) (l cp:Nat) (a':Option Addr) (l' cp':Nat) (i:Nat) (x:Int):(Ag c n (.slice a l cp) (.slice a' l' cp'))[i]?≠some (.int .u8 x):=by
 intro h;have:=Array.mem_of_getElem? h;simp only [Ag,Du,List.mem_toArray,List.mem_append,List.mem_map,List.mem_cons,List.not_mem_nil,or_false] at this;rcases this with ⟨b,_,hb⟩|hb|hb|hb<;>simp at hb
theorem Wc (w:World) (g:Nat) (cs:Array Value) (p:Addr) (h:p.block≠g):(w.setRow g cs).cell? p=w.cell? p:=World.cell?_of_block (setRow_other w g p.block cs h)
theorem Ci {P:Program} {ops:Array Oper} {rest:List Oper} {o:Oper} {a:Act} {w:World} {Q:Exit→Act→World→Prop} (hg:o.guard=none) (t:TypeId) (parts:Array (Nat × Operand)) (ho:o.op=.build t parts)
  (A:Array Value) (hb:P.built t (parts.map fun (i,x)=>(i,a.eval x)).toList=some A) (h:wpList P ops Q rest (a.put o.dst (.agg A)) w):wpList P ops Q (o::rest) a w:=
 wpList_build hg t parts ho (by rw [hb];rfl) (by rw [hb];exact h)
theorem Cl:Tryz.zeroCells108.size=259:=by kernel_rfl
set_option maxHeartbeats 1000000 in
theorem M4 (d:Dfa) (hv:Val d) (v:Value) (w:World) (hT:Tab w) (hsz:0<w.heap.size) (h:IsD w v d) :
  Calls Tryz.prog 68 #[v] w fun e w'=>∃ A,e=.returned (.agg A)∧(∀ W,IsD W v d→IsT W A (Ae d))∧Ext w w':=by
 obtain ⟨vc,vn,va,rfl,hC,hN,hA⟩:=h;obtain ⟨bc,oc,cc,rfl,hc⟩:=Sl.form hC (by obtain ⟨c,hc,_⟩:=hv.parts.cov 0 (by omega);exact List.length_pos_of_mem hc);obtain ⟨an,ln,cn,rfl⟩:∃ a n c,vn=.slice a n c:=by obtain ⟨vs,_,hs,_⟩:=hN;obtain ⟨a,c,rfl⟩:=hs.len;exact ⟨_,_,_,rfl⟩
 obtain ⟨aa,la,ca,rfl⟩:∃ a n c,va=.slice a n c:=by obtain ⟨a,c,rfl⟩:=Sl.len hA;exact ⟨_,_,_,rfl⟩
 have hmb:d.cls.length≤4611686018427387904:=hC.1;have HN:=Lib.hid hN;have HA:=Lib.hid hA;have HC:=Lib.hid hc;clear hN hA hc hC;have hB:Hid (Tryz.prog.built 108 [(1,.int .i64 (d.cls.length:Int)),(2,.slice an ln cn),(3,.slice aa la ca)]=some (Ag (fun _=>0) d.cls.length (.slice an ln cn) (.slice aa la ca))):=Lib.hid (by rw [Aiw,Yn]);go_enter Tryz.func68,Tryz.ntmps68;go_upto_region 1 with (fail)
 have hE2:=((Ext.refl w).alloc (.cells #[.slice (some ⟨bc,oc,none⟩) d.cls.length cc,.slice an ln cn,.slice aa la ca] 30)).alloc (.cells Tryz.zeroCells108 108);have H0:=Lib.hid (Af (Ab w (.cells #[.slice (some ⟨bc,oc,none⟩) d.cls.length cc,.slice an ln cn,.slice aa la ca] 30)) (.cells Tryz.zeroCells108 108));have H1:=Lib.hid (heap_alloc2_new w (.cells #[.slice (some ⟨bc,oc,none⟩) d.cls.length cc,.slice an ln cn,.slice aa la ca] 30) (.cells Tryz.zeroCells108 108));obtain ⟨w2,hw2⟩:∃ W,(w.alloc (.cells #[.slice (some ⟨bc,oc,none⟩) d.cls.length cc,.slice an ln cn,.slice aa la ca] 30)).alloc (.cells Tryz.zeroCells108 108)=W:=⟨_,rfl⟩;simp only [hw2] at *;clear hw2;have c0:w2.cell? ⟨w.heap.size,0,none⟩=some (.slice (some ⟨bc,oc,none⟩) d.cls.length cc):=(cell_of_row w2 _ 0 _ _ _ H0.out).trans rfl;have c1:w2.cell? ⟨w.heap.size,1,none⟩=some (.slice an ln cn):=(cell_of_row w2 _ 1 _ _ _ H0.out).trans rfl;have c2:w2.cell? ⟨w.heap.size,2,none⟩=some (.slice aa la ca):=(cell_of_row w2 _ 2 _ _ _ H0.out).trans rfl;obtain ⟨A0,hA0⟩:∃ A,Ag (fun _=>0) d.cls.length (.slice an ln cn) (.slice aa la ca)=A:=⟨_,rfl⟩;have hsz0:A0.size=259:=by rw [← hA0,D1]
 have hone0:A0.all (·.oneCell')=true:=by rw [← hA0];exact Ga _ _ _ _ rfl rfl
 rw [hA0] at hB;have HA0:=Lib.hid hA0;have HS:=Lib.hid (show Tryz.zeroCells108.size=A0.size by rw [Cl,hsz0]);clear hA0;go_upto_region 2 with (first
  | (refine Ci rfl 108 _ rfl A0 ?_ ?_;(simp [Act.eval];with_reducible exact hB.out))
  | (refine wpList_store_row rfl 108 (.tmp 3) (.tmp 15) rfl w2.heap.size A0 rfl rfl _ _ (Ab w2 (.cells Tryz.zeroCells108 108)) (by rw [hsz0];exact Bv) HS.out hone0 ?_))
 have hs2:=hE2.size;have hE3:Ext w ((w2.alloc (.cells Tryz.zeroCells108 108)).setRow w2.heap.size A0):=(hE2.alloc _).setRow hs2 _;have H3:=setRow_heap (w2.alloc (.cells Tryz.zeroCells108 108)) _ _ A0 108 (0,0) (Ab w2 (.cells Tryz.zeroCells108 108));have H0':=Bg (Af H0.out (.cells Tryz.zeroCells108 108)) (g:=w2.heap.size) (by have:=Ak H0.out;omega) A0;have hlt1:=Ak H1.out;have HR0:=Bg (Af H1.out (.cells Tryz.zeroCells108 108)) (g:=w2.heap.size) (by omega) A0;obtain ⟨w3,hw3⟩:∃ W,(w2.alloc (.cells Tryz.zeroCells108 108)).setRow w2.heap.size A0=W:=⟨_,rfl⟩;simp only [hw3] at *;clear hw3;have c0:w3.cell? ⟨w.heap.size,0,none⟩=some (.slice (some ⟨bc,oc,none⟩) d.cls.length cc):=(cell_of_row w3 _ 0 _ _ _ H0').trans rfl;rw [← HA0.out] at H3;have H3:=Lib.hid H3;have HR0:=Lib.hid HR0;clear c1 c2 H0' HS hsz0 hone0 H0 H1;generalize w2.heap.size=B at *;go_wp2_with (fail);clear c0;go_loopw [19] (fun i W=>∃ k:Nat,k≤d.cls.length∧i=.int .i64 k∧Ext w W∧W.heap[B]? = some (.cells (Ag (fun b=>if Aj d.cls b<k then Aj d.cls b else 0) d.cls.length (.slice an ln cn) (.slice aa la ca)) 108 (0,0))∧W.heap[w.heap.size+1]? = some (.cells Tryz.zeroCells108 108 (0,0)))
  (fun i _=>d.cls.length-(intOf i).toNat)
 case atStart=>
  refine ⟨0,by omega,rfl,hE3,?_,HR0.out⟩;rw [H3.out,Gb (c:=fun b=>if Aj d.cls b<0 then Aj d.cls b else 0) (c':=fun _=>0) (fun b _=>by simp)]
 case round=>
  obtain ⟨k,hk,rfl,hE,hBk,hRk⟩:=hrel;have HB:=Lib.hid hBk;have HR:=Lib.hid hRk;clear hBk hRk;by_cases hlt:k<d.cls.length
  ·obtain ⟨a0,a1,a2,a3⟩:=Ic (W:=wr) (fun i hi=>hE.cell (HC.out i hi)) k hlt;have HK:=Lib.hid (fun b hb=>Fj hv.parts (b:=b) hb hlt);have HK':=Lib.hid (fun b hb=>Fk hv.parts (b:=b) hb);obtain ⟨c,hcd⟩:∃ c,d.cls.getD k 0#256=c:=⟨_,rfl⟩;rw [hcd] at a0 a1 a2 a3;have HCD:=Lib.hid hcd;have HMem:Hid (∀ b,b<256→(UInt8.ofNat b∈Al c 256↔Aj d.cls b=k)):=Lib.hid fun b hb=>by
    rw [K9,u8n b hb,← HCD.out];exact ⟨HK.out b hb,fun e=>by rw [← e];exact HK'.out b hb⟩
   clear hcd HCD HK HK';have hT':=hT.below hE.below hsz;have hs':0<wr.heap.size:=Nat.lt_of_lt_of_le hsz hE.size;have HLen:=Lib.hid (P5 c 256);have hBlt:=Ak HB.out;go_upto_region 5 with (fail)
   obtain ⟨wi,hwi⟩:∃ W,wr.alloc (.cells (Aa c) 62)=W:=⟨_,rfl⟩;simp only [hwi];have hEi:Ext wr wi:=hwi▸(Ext.refl wr).alloc _;have H5:=Lib.hid (show wi.heap[wr.heap.size]? = some (.cells (Aa c) 62 (0,0)) from hwi▸Ab wr _);clear hwi a0 a1 a2 a3;have f109:=Lib.hid (Aif c wi (hT'.below hEi.below hs') (Nat.lt_of_lt_of_le hs' hEi.size));generalize Al c 256=l at *;go_wp2_with (first
    | (refine wpList_load_row rfl 62 (.tmp 5) rfl _ rfl _ _ _ _ H5.out Tryz.underlying62 rfl Au ?_)
    | (go_at_call 109;with_reducible refine f109.out.mono ?_;rintro e w5 ⟨vb,rfl,hBy,hE5⟩;obtain ⟨ab,bb,ob,cb,hvb,hab,hcb⟩:=hBy.split;rw [hvb]))
   clear f109 H5 hBy hvb;have hEw:=(hE.trans hEi).trans hE5;have HB5:=Lib.hid (hE5.heap (hEi.heap HB.out));have HR5:=Lib.hid (hE5.heap (hEi.heap HR.out));have HCB:=Lib.hid hcb;have HAB:=Lib.hid hab;have hne:Hid (0<l.length→bb≠B):=Lib.hid fun h0 e=>by
    have h1:=hcb 0 h0;rw [e,cell_of_row w5 B _ _ _ _ HB5.out] at h1;exact Yp _ _ _ _ _ _ _ _ _ _ h1
   clear hcb hab;go_loopw [27] (fun i W=>∃ j:Nat,j≤l.length∧i=.int .i64 j∧Ext w W∧Hid (∀ i,i<l.length→W.cell? ⟨bb,ob+i,none⟩=some (bv (l.getD i 0)))∧
     W.heap[B]? = some (.cells (Ag (fun b=>if UInt8.ofNat b∈l.take j then k else if Aj d.cls b<k then Aj d.cls b else 0) d.cls.length (.slice an ln cn) (.slice aa la ca)) 108 (0,0))∧W.heap[w.heap.size+1]? = some (.cells Tryz.zeroCells108 108 (0,0)))
    (fun i _=>l.length-(intOf i).toNat)
   case atStart=>exact ⟨0,by omega,rfl,hEw,HCB,by simpa using HB5.out,HR5.out⟩
   case round=>
    obtain ⟨j,hj,rfl,hEj,hcj,hBj,hRj⟩:=hrel;have HBj:=Lib.hid hBj;have HRj:=Lib.hid hRj;clear hBj hRj;by_cases hlt2:j<l.length
    ·have e:=HAB.out (by omega);subst e;have cj:=hcj.out j hlt2;have hls:=HLen.out;have HTk:=Lib.hid (List.take_succ_eq_append_getElem hlt2);have HGe:Hid (l.getD j 0=l[j]):=Lib.hid (by rw [List.getD_eq_getElem?_getD,List.getElem?_eq_getElem hlt2];rfl);obtain ⟨x,hxd⟩:∃ x,l.getD j 0=x:=⟨_,rfl⟩;rw [hxd] at cj HGe;clear hxd;have hx:=x.toNat_lt;have hcc:=(cell_of_row wr B x.toNat _ _ _ HBj.out).trans (M3 _ _ _ _ x.toNat hx);have hfr:=frozen_of_row wr B x.toNat _ _ HBj.out;generalize (if UInt8.ofNat x.toNat∈l.take j then k else if Aj d.cls x.toNat<k then Aj d.cls x.toNat else 0)=old at *;go_wp2;go_roundw
     case rel=>
      rw [setCell_eq_setRow wr _ _ _ _ _ _ HBj.out,Re _ _ _ _ _ _ hx];refine ⟨j+1,by omega,by go_num,hEj.setRow hs2 _,Lib.hid fun i hi=>?_,?_,Bg HRj.out (by omega) _⟩
      ·rw [Wc _ _ _ _ (hne.out (by omega))];exact hcj.out i hi
      ·have hq:=Gb (c:=fun b=>if UInt8.ofNat b∈l.take (j+1) then k else if Aj d.cls b<k then Aj d.cls b else 0) (c':=fun y=>if y=x.toNat then k else if UInt8.ofNat y∈l.take j then k else if Aj d.cls y<k then Aj d.cls y else 0) (fun b hb=>by
        rw [HTk.out,← HGe.out];have hbx:UInt8.ofNat b=x↔b=x.toNat:=by rw [← UInt8.toNat_inj,u8n b hb]
        simp only [List.mem_append,List.mem_singleton,hbx];by_cases h1:b=x.toNat<;>by_cases h2:UInt8.ofNat b∈l.take j<;>simp [h1,h2]) d.cls.length (.slice an ln cn) (.slice aa la ca)
       rw [hq];exact setRow_heap wr _ _ _ _ _ HBj.out
     case measure=>simp [intOf];omega
    ·obtain rfl:j=l.length:=by omega
     rw [List.take_length] at HBj;have HBk:=HBj.out;rw [Gb (c':=fun b=>if Aj d.cls b<k+1 then Aj d.cls b else 0) (fun b hb=>by
      by_cases h1:UInt8.ofNat b∈l
      ·have:=(HMem.out b hb).1 h1;simp [h1,this]
      ·have:Aj d.cls b≠k:=fun e=>h1 ((HMem.out b hb).2 e)
       have h2:Aj d.cls b<k+1↔Aj d.cls b<k:=by omega
       simp [h1,h2])] at HBk
     have HBk:=Lib.hid HBk;clear HBj HMem HCB hcj HAB hne;go_wp2;go_roundw
     case rel=>exact ⟨k+1,by omega,by go_num,hEj,HBk.out,HRj.out⟩
     case measure=>simp [intOf];omega
  ·obtain rfl:k=d.cls.length:=by omega
   have HBk:=HB.out;rw [Gb (c':=Aj d.cls) (fun b hb=>by rw [if_pos (cell_lt hv.parts hb)])] at HBk;obtain ⟨A,hA⟩:∃ A,Ag (Aj d.cls) d.cls.length (.slice an ln cn) (.slice aa la ca)=A:=⟨_,rfl⟩;have hAs:A.size=259:=by rw [← hA,D1]
   have hAo:A.all (·.oneCell')=true:=by rw [← hA];exact Ga _ _ _ _ rfl rfl
   rw [hA] at HBk;have HBk:=Lib.hid HBk;have HA':=Lib.hid hA;have HS:=Lib.hid (show Tryz.zeroCells108.size=A.size by rw [Cl,hAs]);clear hA HB;go_wp2_with (first
    | (refine wpList_load_row rfl 108 (.tmp 3) rfl _ rfl _ _ _ _ HBk.out Tryz.underlying108 rfl (by rw [hAs];exact Bv) ?_)
    | (refine wpList_store_row rfl 108 (.tmp 2) (.tmp 37) rfl _ A rfl rfl _ _ HR.out (by rw [hAs];exact Bv) HS.out hAo ?_))
   refine bodyPost_ret (v:=.agg A) (results_cell_row rfl _ _ _ _ _ _ _ rfl (setRow_heap wr _ _ A 108 (0,0) HR.out) Tryz.underlying108 rfl (by rw [hAs];exact Bv)) rfl ?_;have hEf:=hE.setRow (g:=w.heap.size+1) (by omega) A;exact ⟨A,rfl,fun W hW=>by
    obtain ⟨vc',vn',va',he,_,hn',ha'⟩:=hW;injection he with he
    injection he with he
    injection he with e0 he
    injection he with e1 he
    injection he with e2 he
    subst e1;subst e2
    exact ⟨_,_,HA'.out.symm,hn',ha'⟩,hEf⟩
theorem Ir (d:Dfa) (hv:Val d) (v:Value) (w0 w:World) (hw:Ext w0 w) (hT:Tab w) (hsz:0<w.heap.size) (h:IsD w0 v d) :
  Calls Tryz.prog 68 #[v] w fun e w'=>∃ A,e=.returned (.agg A)∧IsT w0 A (Ae d)∧Ext w w':=
 (M4 d hv v w hT hsz (h.ext hw)).mono fun _ _ ⟨A,he,hA,hE⟩=>⟨A,he,hA w0 h,hE⟩
theorem Is (d:Dfa) (hv:Val d) (v:Value) (w:World) (hT:Tab w) (hsz:0<w.heap.size) (h:IsD w v d) :
  Calls Tryz.prog 68 #[v] w fun e w'=>∃ A,e=.returned (.agg A)∧IsT w' A (Ae d)∧Ext w w':=
 (Ir d hv v w w (Ext.refl w) hT hsz h).mono fun _ _ ⟨A,he,hA,hE⟩=>⟨A,he,hA.ext hE,hE⟩
def uTo (p:Cls→Bool) (L:List Cls) (i:Nat):Cls:=(L.take i).foldl (fun d c=>if p c then d ||| c else d) 0#256
theorem Yf (p:Cls→Bool) (L:List Cls):uTo p L 0=0#256:=rfl
theorem Yg (p:Cls→Bool) (L:List Cls) (i:Nat) (h:i<L.length):uTo p L (i+1)=if p (L.getD i 0#256) then uTo p L i ||| L.getD i 0#256 else uTo p L i:=by
 unfold uTo;rw [List.take_succ_eq_append_getElem h,List.foldl_append];simp [List.getD_eq_getElem?_getD,h]
theorem Uy (p:Cls→Bool) (b:Nat):∀ (L:List Cls) (d:Cls),(L.foldl (fun d c=>if p c then d ||| c else d) d).getLsbD b=(d.getLsbD b||L.any fun c=>p c&&c.getLsbD b)
 | [],d=>by simp
 | c::L,d=>by
  rw [List.foldl_cons,Uy p b L,List.any_cons];cases hp:p c
  ·simp
  ·rw [if_pos rfl,BitVec.getLsbD_or];simp [Bool.or_assoc]
theorem Rb (p:Cls→Bool) (L:List Cls) (i b:Nat):(uTo p L i).getLsbD b=(L.take i).any fun c=>p c&&c.getLsbD b:=by
 unfold uTo;rw [Uy];simp
theorem Ab8 {l L:List Cls} (h:IsCells l L) (i:Nat) (hi:i<L.length):uTo (fun _=>true) L i &&& L.getD i 0#256=0#256:=by
 apply BitVec.eq_of_getLsbD_eq;intro b hb;rw [BitVec.getLsbD_and,Rb,BitVec.getLsbD_zero,← Bool.not_eq_true];intro hh;rw [Bool.and_eq_true,List.any_eq_true] at hh;obtain ⟨⟨c,hc,hcb⟩,hd⟩:=hh;rw [Bool.true_and] at hcb;obtain ⟨j,hj,rfl⟩:=List.mem_iff_getElem.1 hc;rw [List.length_take] at hj;rw [List.getElem_take] at hcb;rw [List.getD_eq_getElem?_getD,List.getElem?_eq_getElem hi] at hd;exact (List.pairwise_iff_getElem.1 h.dis j i (by omega) hi (by omega)) b ⟨hcb,hd⟩
theorem Ab9 {l L:List Cls} (h:IsCells l L):uTo (fun _=>true) L L.length=allC:=by
 apply BitVec.eq_of_getLsbD_eq;intro b hb;rw [Rb,List.take_length];have h1:allC.getLsbD b=true:=by unfold allC;rw [BitVec.getLsbD_not,BitVec.getLsbD_zero];simp [hb]
 rw [h1,List.any_eq_true];obtain ⟨c,hc,hcb⟩:=h.cover b hb;exact ⟨c,hc,by simp [hcb]⟩
theorem Lr (x:Cls) (m:Bool) (h:(x==0#256)=m) (W:World):(Op.equalIn 10000 62 (.agg (Aa x)) (.agg zA)).run Tryz.prog W=.ok m W:=by
 have:=Ko x 0#256 W;rw [Ee,h] at this;exact this
theorem Parts.pos {L:List Cls} (h:Parts L):0<L.length:=by
 obtain ⟨c,hc,_⟩:=h.cov 0 (by omega);exact List.length_pos_of_mem hc
theorem Parts.le {L:List Cls} (h:Parts L):L.length≤256:=by
 have:=Hj (fun b=>Aj L b) 256 L.length fun j hj=>by
  obtain ⟨b,hb,e⟩:=Id h hj;exact ⟨b,hb,e⟩
 exact this
theorem Adj : ~~~allC=0#256:=by decide
set_option maxHeartbeats 2000000 in
theorem Dr (d:Dfa) (hv:Val d) (hn:d.nxt.length≤64) (v:Value) (w:World) (h:IsD w v d) :
  Calls Tryz.prog 47 #[v] w fun e w'=>e=.returned (.bool true)∧Ext w w':=by
 obtain ⟨vc,vn,va,rfl,hC,⟨vs,hvs,hN,hrows⟩,hA⟩:=h;have hm0:=hv.parts.pos;have hm1:=hv.parts.le;have hn0:=hv.pos;obtain ⟨bc,oc,cc,rfl,hc⟩:=Sl.form hC hm0;obtain ⟨bn,on,cn,rfl,hnc⟩:=Sl.form hN hn0;obtain ⟨aa,ca,rfl⟩:=Sl.len hA;rw [hv.accL];have HC:=Lib.hid hc;have HNC:=Lib.hid hnc;have HRow:=Lib.hid (fun s (hs:s<d.nxt.length)=>by
  obtain ⟨b,off,cap,hv1,hc1⟩:=Sl.form (hrows s hs) (by rw [hv.row s hs];exact hm0);exact (⟨b,off,cap,by rw [← hv.row s hs];exact hv1,fun k hk=>by rw [hc1 k (by rw [hv.row s hs];omega)];rfl⟩:∃ b off cap,vs.getD s undef=.slice (some ⟨b,off,none⟩) d.cls.length cap∧∀ k,k<d.cls.length→w.cell? ⟨b,off+k,none⟩=some (iv (d.ent2 s k))))
 have HTgt:=Lib.hid hv.tgt;have HP:=Lib.hid hv.parts;clear hc hnc hN hA hC hrows hvs hv;have d1:decide ((d.nxt.length:Int)<1)=false:=by simp;omega
 have d2:decide ((64:Int)<(d.nxt.length:Int))=false:=by simp;omega
 have dn:((d.nxt.length:Int) != (d.nxt.length:Int))=false:=by simp
 have d3:decide ((d.cls.length:Int)<1)=false:=by simp;omega
 have d4:decide ((256:Int)<(d.cls.length:Int))=false:=by simp;omega
 have hE0:=(Ext.refl w).alloc (.cells #[.slice (some ⟨bc,oc,none⟩) d.cls.length cc,.slice (some ⟨bn,on,none⟩) d.nxt.length cn,.slice aa d.nxt.length ca] 30);have H0:=Ab w (.cells #[.slice (some ⟨bc,oc,none⟩) d.cls.length cc,.slice (some ⟨bn,on,none⟩) d.nxt.length cn,.slice aa d.nxt.length ca] 30);go_enter Tryz.func47,Tryz.ntmps47;go_upto_region 1 with (fail)
 obtain ⟨w1,hw1⟩:∃ W,w.alloc (.cells #[.slice (some ⟨bc,oc,none⟩) d.cls.length cc,.slice (some ⟨bn,on,none⟩) d.nxt.length cn,.slice aa d.nxt.length ca] 30)=W:=⟨_,rfl⟩;simp only [hw1] at *;clear hw1;have HK:=Lib.hid (fun (W:World) (hW:Ext w1 W)=>(⟨(cell_of_row W _ 0 _ _ _ (hW.heap H0)).trans rfl,(cell_of_row W _ 1 _ _ _ (hW.heap H0)).trans rfl,(cell_of_row W _ 2 _ _ _ (hW.heap H0)).trans rfl⟩ :
  W.cell? ⟨w.heap.size,0,none⟩=some (.slice (some ⟨bc,oc,none⟩) d.cls.length cc)∧W.cell? ⟨w.heap.size,1,none⟩=some (.slice (some ⟨bn,on,none⟩) d.nxt.length cn)∧W.cell? ⟨w.heap.size,2,none⟩=some (.slice aa d.nxt.length ca)))
 clear H0;obtain ⟨k0,k1,k2⟩:=HK.out w1 (Ext.refl w1);go_upto_region 4 with (fail)
 clear k0 k1 k2;go_upto_region 5 with (fail)
 have hE1:=(Ext.refl w1).alloc (.cells zA 62);have HS0:=Lib.hid (Ab w1 (.cells zA 62));obtain ⟨w2,hw2⟩:∃ W,w1.alloc (.cells zA 62)=W:=⟨_,rfl⟩;simp only [hw2] at *;clear hw2;obtain ⟨k0,k1,k2⟩:=HK.out w2 hE1;go_wp2_with (fail);clear k0 k1 k2 d1 d2 d3 d4;go_loopw [42] (fun i W=>∃ k:Nat,k≤d.cls.length∧i=.int .i64 k∧Ext w1 W∧W.heap[w1.heap.size]? = some (.cells (Aa (uTo (fun _=>true) d.cls k)) 62 (0,0)))
  (fun i _=>d.cls.length-(intOf i).toNat)
 case atStart=>exact ⟨0,by omega,rfl,hE1,by rw [Yf,Ee];exact HS0.out⟩
 case round=>
  obtain ⟨k,hk,rfl,hE,hBk⟩:=hrel;have HB:=Lib.hid hBk;clear hBk;by_cases hlt:k<d.cls.length
  ·obtain ⟨a0,a1,a2,a3⟩:=Ic (W:=wr) (fun i hi=>(hE0.trans hE).cell (HC.out i hi)) k hlt;have hdi:=Ab8 (Lj HP.out) k hlt;have hnz:=HP.out.nz (d.cls.getD k 0#256) (by rw [List.getD_eq_getElem?_getD,List.getElem?_eq_getElem hlt];exact List.getElem_mem hlt);have hus:=Yg (fun _=>true) d.cls k hlt;rw [if_pos rfl] at hus;have HUS:=Lib.hid hus;clear hus;obtain ⟨c,hcd⟩:∃ c,d.cls.getD k 0#256=c:=⟨_,rfl⟩;rw [hcd] at a0 a1 a2 a3 hdi hnz HUS;clear hcd;generalize uTo (fun _=>true) d.cls k=A at *;have f92:=fun W=>Lib.hid (Ua A c W)
   have f93:=fun W=>Lib.hid (Q8 A c W)
   have g1:=Lr c false (by simpa using hnz);have g2:=Lr (A &&& c) true (by rw [hdi];rfl);have g3:=Jb;clear hdi hnz;generalize A &&& c=x at *;have hBlt:=Ak HB.out;go_upto_region 8 with (fail)
   obtain ⟨wi,hwi⟩:∃ W,wr.alloc (.cells (Aa c) 62)=W:=⟨_,rfl⟩;simp only [hwi];have hEi:Ext wr wi:=hwi▸(Ext.refl wr).alloc _;have H6:=Lib.hid (show wi.heap[wr.heap.size]? = some (.cells (Aa c) 62 (0,0)) from hwi▸Ab wr _);have HB:=Lib.hid (hEi.heap HB.out);clear hwi a0 a1 a2 a3;obtain ⟨x0,x1,x2,x3⟩:=Lp H6.out;obtain ⟨y0,y1,y2,y3⟩:=Lp HB.out;obtain ⟨e0,he0⟩:=Ahd wi;rw [he0];clear he0;go_wp2_with (first
    | (go_at_call 92;with_reducible refine (f92 _).out.mono ?_;rintro e w' ⟨rfl,hE'⟩;obtain ⟨e',rfl⟩:=Vg hE')
    | (go_at_call 93;with_reducible refine (f93 _).out.mono ?_;rintro e w' ⟨rfl,hE'⟩;obtain ⟨e',rfl⟩:=Vg hE')
    | (refine wpList_store_row rfl 62 (.tmp 4) (.tmp 58) rfl _ _ rfl rfl _ _ (e'.ext.heap HB.out) Au rfl (De _) ?_))
   go_roundw
   case rel=>exact ⟨k+1,by omega,by go_num,((hE.trans hEi).trans e'.ext).setRow (Nat.le_refl _) _,by rw [HUS.out];exact setRow_heap e'.W _ _ _ _ _ (e'.ext.heap HB.out)⟩
   case measure=>simp [intOf];omega
  ·obtain rfl:k=d.cls.length:=by omega
   rw [Ab9 (Lj HP.out)] at HB;have f94:=fun W=>Lib.hid (Ti allC W)
   have g1:=Lr (~~~allC) true (by rw [Adj];rfl);have g3:=Jb;generalize ~~~allC=x at *;generalize allC=uA at *;go_wp2_with (first
    | (refine wpList_load_row rfl 62 (.tmp 4) rfl _ rfl _ _ _ _ HB.out Tryz.underlying62 rfl Au ?_)
    | (go_at_call 94;with_reducible refine (f94 _).out.mono ?_;rintro e w5 ⟨rfl,hE5⟩;obtain ⟨k0,k1,k2⟩:=HK.out w5 (hE.trans hE5)))
   clear k0 k1 k2 f94 g1 g3 HB;have hE6:=hE.trans hE5;go_loopw [67] (fun i W=>∃ s:Nat,s≤d.nxt.length∧i=.int .i64 s∧Ext w1 W) (fun i _=>d.nxt.length-(intOf i).toNat)
   case atStart=>exact ⟨0,by omega,rfl,hE6⟩
   case round=>
    obtain ⟨s,hs,rfl,hEs⟩:=hrel;by_cases hsl:s<d.nxt.length
    ·have cs:=(hE0.trans hEs).cell (HNC.out s (by omega));obtain ⟨br,or',cr,hvr,hcr⟩:=HRow.out s hsl;rw [hvr] at cs;have HCR:=Lib.hid (fun k hk=>(hE0.trans hEs).cell (hcr k hk));have HT:=Lib.hid (HTgt.out s hsl);have dm:((d.cls.length:Int) != (d.cls.length:Int))=false:=by simp
     have ds:decide ((s:Int)<(d.nxt.length:Int))=true:=by simp;omega
     obtain ⟨k0,k1,k2⟩:=HK.out wr hEs;clear hvr hcr;obtain ⟨wo,hwo⟩:∃ W,W=wr:=⟨_,rfl⟩;subst hwo;go_wp2_with (fail);clear k0 k1 k2 cs dm ds;go_loopw [79] (fun i W=>∃ j:Nat,j≤d.cls.length∧i=.int .i64 j∧Ext wo W) (fun i _=>d.cls.length-(intOf i).toNat)
     case atStart=>exact ⟨0,by omega,rfl,Ext.refl wo⟩
     case round=>
      obtain ⟨j,hj,rfl,hEj⟩:=hrel;by_cases hjl:j<d.cls.length
      ·have cj:=hEj.cell (HCR.out j hjl);have ht:=HT.out j hjl;generalize d.ent2 s j=t at *;have e1:decide ((t:Int)<0)=false:=by simp
       have e2:decide ((d.nxt.length:Int)≤(t:Int))=false:=by simp;omega
       go_wp2;go_roundw
       case rel=>exact ⟨j+1,by omega,by go_num,hEj⟩
       case measure=>simp [intOf];omega
      ·obtain rfl:j=d.cls.length:=by omega
       have hEo:=hEs.trans hEj;go_wp2;go_roundw
       case rel=>exact ⟨s+1,by omega,by go_num,hEo⟩
       case measure=>simp [intOf];omega
    ·obtain rfl:s=d.nxt.length:=by omega
     go_wp2;go_ret;exact ⟨rfl,hE0.trans hEs⟩
end Go.Proofs.YtaiogolidlamiaaGreatDoor
