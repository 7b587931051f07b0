import Derived.Test.YtaiogolidlamiaaGreatDoorM34
set_option linter.unusedVariables false
set_option linter.unusedSimpArgs false
namespace Go.Proofs.YtaiogolidlamiaaGreatDoor
set_option maxRecDepth 100000
open Go.RowKit Go.Shelf
theorem Aep (A B:Cls):(#[.int .i64 3,.int .u64 (wd A 0),.int .u64 (wd A 1),.int .u64 (wd A 2),.int .u64 (wd A 3),.int .i64 0,.int .i64 0,.int .i64 0,.int .i64 0,.int .i64 3,.int .u64 (wd B 0),.int .u64 (wd B 1),.int .u64 (wd B 2),.int .u64 (wd B 3),.int .i64 0,.int .i64 0,.int .i64 0,.int .i64 0,.int .i64 8,.int .u64 0,.int .u64 0,.int .u64 0,.int .u64 0,.int .i64 1,.int .i64 0,.int .i64 0,.int .i64 (-1),.int .i64 4,.int .u64 0,.int .u64 0,.int .u64 0,.int .u64 0,.int .i64 0,.int .i64 2,.int .i64 0,.int .i64 0]:Array Value) =
  (flR [⟨3,0,0,A,0,0⟩,⟨3,0,0,B,0,0⟩,⟨8,1,0,0#256,0,-1⟩,⟨4,0,2,0#256,0,0⟩]).toArray:=by kernel_rfl
theorem Aeq (A:Cls):(#[.int .i64 3,.int .u64 (wd A 0),.int .u64 (wd A 1),.int .u64 (wd A 2),.int .u64 (wd A 3),.int .i64 0,.int .i64 0,.int .i64 0,.int .i64 0,.int .i64 8,.int .u64 0,.int .u64 0,.int .u64 0,.int .u64 0,.int .i64 0,.int .i64 0,.int .i64 16,.int .i64 16,.int .i64 8,.int .u64 0,.int .u64 0,.int .u64 0,.int .u64 0,.int .i64 1,.int .i64 0,.int .i64 5,.int .i64 5]:Array Value) =
  (flR [⟨3,0,0,A,0,0⟩,⟨8,0,0,0#256,16,16⟩,⟨8,1,0,0#256,5,5⟩]).toArray:=by kernel_rfl
theorem X9 (A B:Cls):VRx [⟨3,0,0,A,0,0⟩,⟨3,0,0,B,0,0⟩,⟨8,1,0,0#256,0,-1⟩,⟨4,0,2,0#256,0,0⟩] where
 pos:=by simp
 le:=by simp
 node:=fun i hi=>by
  have hi:i<4:=by simpa using hi
  have:i=0∨i=1∨i=2∨i=3:=by omega
  rcases this with rfl|rfl|rfl|rfl
  all_goals (constructor<;>simp [arK])
 par:=fun j hj=>by
  have hj:j+1<4:=by simpa using hj
  have:j=0∨j=1∨j=2:=by omega
  rcases this with rfl|rfl|rfl<;>simp [par,Ce,arK]
theorem Ya (A:Cls):VRx [⟨3,0,0,A,0,0⟩,⟨8,0,0,0#256,16,16⟩,⟨8,1,0,0#256,5,5⟩] where
 pos:=by simp
 le:=by simp
 node:=fun i hi=>by
  have hi:i<3:=by simpa using hi
  have:i=0∨i=1∨i=2:=by omega
  rcases this with rfl|rfl|rfl
  all_goals (constructor<;>simp [arK])
 par:=fun j hj=>by
  have hj:j+1<3:=by simpa using hj
  have:j=0∨j=1:=by omega
  rcases this with rfl|rfl<;>simp [par,Ce,arK]
theorem Aiy (A B:Cls) (hA:ofL [97]=A) (hB:ofL [98,99]=B) (g:Nat) (W:World) (hT:Tab W) (hsz:0<W.heap.size) (h:W.heap[g]? = some (.cells (flR [⟨3,0,0,A,0,0⟩,⟨3,0,0,B,0,0⟩,⟨8,1,0,0#256,0,-1⟩,⟨4,0,2,0#256,0,0⟩]).toArray 64 (0,0))) :
  Calls Tryz.prog 36 #[.slice (some ⟨g,0,none⟩) 4 4] W fun e w'=>∃ d v,e=.returned (.tuple #[v,.int .i64 0])∧IsD w' v d∧Cano d∧d.nxt.length=3∧d.has [97,99,98]=true∧d.has [98,97]=false∧Ext W w':=
 (P8 _ (X9 A B) g 0 4 W hT hsz (Cv h)).mono fun e w' ⟨r,h1,h2,h3⟩=>by
  obtain ⟨d,rfl,hc,hl,k1,k2⟩:=Z7 A B (fun x=>by rw [← hA,Og];simp) (fun x=>by rw [← hB,Og];simp) _ _ _ 0 _ _ _ 0 _ _ _ _ _ _ h2;obtain ⟨v,he,hD⟩:=h1;exact ⟨d,v,he,hD,hc,hl,k1,k2,h3⟩
theorem Ai0 (A:Cls) (hA:ofL [97]=A) (g:Nat) (W:World) (hT:Tab W) (hsz:0<W.heap.size) (h:W.heap[g]? = some (.cells (flR [⟨3,0,0,A,0,0⟩,⟨8,0,0,0#256,16,16⟩,⟨8,1,0,0#256,5,5⟩]).toArray 64 (0,0))) :
  Calls Tryz.prog 36 #[.slice (some ⟨g,0,none⟩) 3 3] W fun e w'=>e=.returned (.tuple #[zD,.int .i64 2])∧Ext W w':=
 (P8 _ (Ya A) g 0 3 W hT hsz (Cv h)).mono fun e w' ⟨r,h1,h2,h3⟩=>by
  obtain rfl:=Z8 A (fun x=>by rw [← hA,Og];simp) _ _ _ _ _ _ _ _ (.inr (by simp)) h2;exact ⟨h1,h3⟩
theorem Fm {P:Program} {ops:Array Oper} {rest:List Oper} {o:Oper} {a:Act} {w:World} {Q:Exit→Act→World→Prop} (hw:Region.wanted o (yielded ops a.tmps)=true) (ty:TypeId) (x:Operand) (ho:o.op=.load ty x)
  (g:Nat) (hx:a.eval x=.pointer (some ⟨g,0,none⟩)) (t:TypeId) (cs:Array Value) (fr:Nat × Nat) (d:TypeDesc) (hg:w.heap[g]? = some (.cells cs t fr))
  (hu:P.underlying ty=some d) (hd:(match d with|.struct _|.array _ _=>true|_=>false)=true) (hi:(P.info? ty).map (·.size)=some cs.size)
  (h:wpList P ops Q rest (a.put o.dst (.agg cs)) w):wpList P ops Q (o::rest) a w:=
 wpList_step fun K hK=>by rw [if_pos hw];exact wp_load_row ty x ho g hx t cs fr d hg hu hd hi (hK _ _ h)
theorem Qx (l:List UInt8) (hl:l.length≤62) (fr:Nat × Nat) (W:World) (C:Array Value) (hC:C=(l.map bv).toArray) (n:Nat) (hn:n=l.length) :
  Calls Tryz.prog 45 #[.slice (some ⟨W.heap.size,0,none⟩) n n] (W.alloc (.cells C 5 fr)) fun e w'=>∃ d v,e=.returned (.tuple #[v,.int .i64 0])∧IsD w' v d∧Cano d∧(∀ u,d.has u=true↔u=l)∧Ext W w':=by
 subst hC hn;exact (Mv l hl _ _ (L4 W l fr (by omega))).mono fun e w' ⟨d,⟨v,h1,h2⟩,h3,h4,h5⟩=>⟨d,v,h1,h2,h3,h4,((Ext.refl W).alloc _).trans h5⟩
theorem Abf (d:Dfa) (hv:Val d) (hn64:d.nxt.length≤64) (v:Value) (l:List UInt8) (hl:l.length≤62) (fr:Nat × Nat) (W:World) (hT:Tab W) (hsz:0<W.heap.size) (h:IsD W v d) (C:Array Value) (hC:C=(l.map bv).toArray) (n:Nat) (hn:n=l.length) :
  Calls Tryz.prog 14 #[v,.slice (some ⟨W.heap.size,0,none⟩) n n] (W.alloc (.cells C 5 fr)) fun e w'=>∃ q u,e=.returned (.tuple #[u,.int .i64 0])∧IsD w' u q∧Cano q∧(∀ x,q.has x=d.has (l++x))∧Ext W w':=by
 subst hC hn;have hE:=(Ext.refl W).alloc (.cells (l.map bv).toArray 5 fr);exact (Abe d hv hn64 v l _ _ (hT.below hE.below hsz) (Nat.lt_of_lt_of_le hsz hE.size) (h.ext hE) (L4 W l fr (by omega))).mono fun e w' ⟨q,⟨u,h1,h2⟩,h3,h4,h5⟩=>⟨q,u,h1,h2,h3,h4,hE.trans h5⟩
theorem F6 (d:Dfa) (hv:Val d) (hn64:d.nxt.length≤64) (v:Value) (l:List UInt8) (hl:l.length≤62) (b:Bool) (hb:d.has l=b) (fr:Nat × Nat) (W:World) (hT:Tab W) (hsz:0<W.heap.size) (h:IsD W v d) (C:Array Value) (hC:C=(l.map bv).toArray) (n:Nat) (hn:n=l.length) :
  Calls Tryz.prog 29 #[v,.slice (some ⟨W.heap.size,0,none⟩) n n] (W.alloc (.cells C 5 fr)) fun e w'=>e=.returned (.bool b)∧Ext W w':=by
 subst hC hn hb;have hE:=(Ext.refl W).alloc (.cells (l.map bv).toArray 5 fr);exact (Xk d hv hn64 v l _ _ (hT.below hE.below hsz) (Nat.lt_of_lt_of_le hsz hE.size) (h.ext hE) (L4 W l fr (by omega))).mono fun e w' ⟨h1,h2⟩=>⟨h1,hE.trans h2⟩
theorem Abg {d q:Dfa} {l:List UInt8} (hd:Val d) (hq:Cano q) (h:∀ x,q.has x=d.has (l++x)):q.nxt.length≤d.nxt.length:=by
 have:=F3 hq (fun w=>d.run 0 (l++w)) (fun w w' e u=>by
  rw [h,h];unfold Dfa.has;rw [← List.append_assoc,← List.append_assoc,Bz,Bz _ _ (l++w'),e]) (List.range d.nxt.length) fun w=>List.mem_range.2 (hd.run_lt _ hd.pos)
 simpa using this
theorem Abx {d p:Dfa} (hd:Val d) (hp:Cano p) (h:∀ x,p.has x=true↔∃ u,d.has (x++u)=true):p.nxt.length≤d.nxt.length:=by
 have:=F3 hp (fun w=>d.run 0 w) (fun w w' e u=>by
  rw [Bool.eq_iff_iff,h,h];have e1:∀ v,d.has (w++u++v)=d.has (w'++u++v):=fun v=>by
   unfold Dfa.has;rw [List.append_assoc,List.append_assoc,Bz,Bz _ _ w',e]
  simp only [e1]) (List.range d.nxt.length) fun w=>List.mem_range.2 (hd.run_lt _ hd.pos)
 simpa using this
theorem Adi {d p:Dfa} (hd:Val d) (hp:Cano p) (h:∀ x,p.has x=!d.has x):p.nxt.length≤d.nxt.length:=by
 have:=F3 hp (fun w=>d.run 0 w) (fun w w' e u=>by
  rw [h,h];unfold Dfa.has;rw [Bz,Bz _ _ w',e]) (List.range d.nxt.length) fun w=>List.mem_range.2 (hd.run_lt _ hd.pos)
 simpa using this
theorem Qy {d:Dfa} {l:List UInt8} (hd:Cano d) (h:∀ u,d.has u=true↔u=l):d.nxt.length≤l.length+2:=by
 have:=Wl hd (Ep l) fun w=>by rw [Bool.eq_iff_iff,h,Er]
 rwa [D9] at this
abbrev Gz:List UInt8→Prop:=fun w=>w=[97,98]∨w=[97,98,99]
theorem Aaf (x y:Dfa) (hx:Cano x) (hy:Cano y) (ex:∀ u,x.has u=true↔u=[97,98]) (ey:∀ u,y.has u=true↔u=[97,98,99]) (vx vy:Value) (W:World) (hT:Tab W) (hsz:0<W.heap.size) (h1:IsD W vx x) (h2:IsD W vy y) :
  Calls Tryz.prog 33 #[vx,vy] W fun e w'=>∃ d v,e=.returned (.tuple #[v,.int .i64 0])∧IsD w' v d∧Fit d Gz∧Ext W w':=
 (Od x y hx.val hy.val (Nat.le_trans (Qy hx ex) (by decide)) (Nat.le_trans (Qy hy ey) (by decide)) vx vy W hT hsz h1 h2).mono fun e w' ⟨r,q1,q2,q3⟩=>by
  obtain ⟨d,rfl,hf⟩:=Yl q2 [97,98] [97,98,99] (fun w=>by rw [ex,ey]) (by decide);obtain ⟨v,he,hD⟩:=q1;exact ⟨d,v,he,hD,hf,q3⟩
theorem Je {d:Dfa} (h:Fit d Gz) (w:List UInt8):d.has w=decide (w=[97,98]∨w=[97,98,99]):=by
 rw [Bool.eq_iff_iff,h.2,decide_eq_true_eq]
theorem Aad (d:Dfa) (hd:Fit d Gz) (v:Value) (W:World) (hT:Tab W) (hsz:0<W.heap.size) (h:IsD W v d) :
  Calls Tryz.prog 14 #[v,.slice (some ⟨W.heap.size,0,none⟩) 2 2] (W.alloc (.cells #[.int .u8 97,.int .u8 98] 5 (2,3))) fun e w'=>∃ q u,e=.returned (.tuple #[u,.int .i64 0])∧IsD w' u q∧(Val q∧q.nxt.length≤64∧q.has [99]=true∧q.has []=true∧q.has [97]=false)∧Ext W w':=
 (Abf d hd.1.val (Nat.le_trans (F5 hd) (by decide)) v [97,98] (by decide) (2,3) W hT hsz h _ rfl 2 rfl).mono fun e w' ⟨q,u,h1,h2,h3,h4,h5⟩=>
  ⟨q,u,h1,h2,⟨h3.val,Nat.le_trans (Abg hd.1.val h3 h4) (Nat.le_trans (F5 hd) (by decide)),by rw [h4,Je hd];decide,by rw [h4,Je hd];decide,by rw [h4,Je hd];decide⟩,h5⟩
theorem Aae (d:Dfa) (hd:Fit d Gz) (v:Value) (W:World) (hT:Tab W) (hsz:0<W.heap.size) (h:IsD W v d) :
  Calls Tryz.prog 16 #[v] W fun e w'=>∃ q u,e=.returned (.tuple #[u,.int .i64 0])∧IsD w' u q∧(Val q∧q.nxt.length≤64∧q.has [97]=true∧q.has [98]=false)∧Ext W w':=
 (Abv d hd.1.val (Nat.le_trans (F5 hd) (by decide)) v W hT hsz h).mono fun e w' ⟨q,⟨u,h1,h2⟩,h3,h4,h5⟩=>
  ⟨q,u,h1,h2,⟨h3.val,Nat.le_trans (Abx hd.1.val h3 h4) (Nat.le_trans (F5 hd) (by decide)),(h4 _).2 ⟨[98],by rw [Je hd];decide⟩,by
   cases hc:q.has [98] with
   | false=>rfl
   | true=>
    obtain ⟨u,hu⟩:=(h4 _).1 hc;rw [Je hd,decide_eq_true_eq] at hu;rcases hu with hu|hu<;>simp at hu⟩,h5⟩
theorem Aac (d:Dfa) (hd:Fit d Gz) (v:Value) (W:World) (hT:Tab W) (hsz:0<W.heap.size) (h:IsD W v d) :
  Calls Tryz.prog 18 #[v] W fun e w'=>∃ q u,e=.returned (.tuple #[u,.int .i64 0])∧IsD w' u q∧(Val q∧q.nxt.length≤64∧q.has [99,98,97]=true∧q.has [97,98,99]=false)∧Ext W w':=
 (Aay d hd.1.val (Nat.le_trans (F5 hd) (by decide)) v W hT hsz h).mono fun e w' ⟨r,h1,h2,h3⟩=>by
  obtain ⟨q,rfl,hq⟩:=Z6 h2 hd;obtain ⟨u,he,hD⟩:=h1;refine ⟨q,u,he,hD,⟨hq.1.val,?_,(hq.2 _).2 (.inr rfl),?_⟩,h3⟩
  ·have hh:∀ w,q.has w=(decide (w=[98,97])||decide (w=[99,98,97])):=fun w=>by rw [Bool.eq_iff_iff,hq.2,Bool.or_eq_true,decide_eq_true_eq,decide_eq_true_eq]
   have:=Sv (Ep [98,97]) (Ep [99,98,97]) (g:=fun a b=>a||b) hq.1 (fun w=>by
    rw [Bool.eq_iff_iff,hq.2,Bool.or_eq_true,Er,Er])
   rw [D9,D9] at this;simp at this;omega
  ·cases hc:q.has [97,98,99] with
   | false=>rfl
   | true=>
    have:=(hq.2 _).1 hc;simp at this
theorem Aal (d:Dfa) (hd:Fit d Gz) (v:Value) (W:World) (h:IsD W v d) :
  Calls Tryz.prog 20 #[v,.int .i64 3] W fun e w'=>e=.returned (.tuple #[.int .i64 1,.int .i64 0])∧Ext W w':=
 (Pq d hd.1.val (Nat.le_trans (F5 hd) (by decide)) 3 (by decide) v W h).mono fun e w' ⟨h1,h2⟩=>⟨by rw [h1,Ai1 hd];rfl,h2⟩
theorem Aai (d:Dfa) (hd:Fit d Gz) (v:Value) (W:World) (h:IsD W v d) :
  Calls Tryz.prog 22 #[v,.int .i64 2] W fun e w'=>∃ g cap v0,e=.returned (.tuple #[.slice (some ⟨g,0,none⟩) 1 cap,.int .i64 0])∧w'.cell? ⟨g,0,none⟩=some v0∧By w' v0 [97,98]∧Ext W w':=
 (Oq d hd.1.val (Nat.le_trans (F5 hd) (by decide)) 2 (by decide) v W h).mono fun e w' ⟨h1,h2⟩=>by
  have hl:=Ai2 hd;have hc:Df d.has 3=1:=by rw [← Le,hl];rfl
  rcases h2 with ⟨_,vo,he,vs,k1,k2,k3⟩|⟨h2,_⟩
  ·rw [show 2+1=3 from rfl,hl] at k1 k2 k3;obtain ⟨g,cap,rfl⟩:=ownsRow_succ (k:=0) k2;have c0:=k2.cellAt 0 (by decide);obtain ⟨v0,rfl⟩:∃ v0,vs=[v0]:=by
    match vs,k1 with
    | [v0],_=>exact ⟨v0,rfl⟩
   exact ⟨g,cap,v0,he,c0,(k3 0 (by decide)).by (by decide),h1⟩
  ·rw [show 2+1=3 from rfl,hc] at h2;omega
theorem Aag (d:Dfa) (c:Cls) (hall:∀ b,b<256→c.getLsbD b=true) (hd:d=Co c false) (v:Value) (W:World) (hT:Tab W) (hsz:0<W.heap.size) (h:IsD W v d) :
  Calls Tryz.prog 32 #[v] W fun e w'=>∃ q u,e=.returned (.tuple #[u,.int .i64 0])∧IsD w' u q∧(Val q∧q.nxt.length≤64∧∀ x,q.has x=true)∧Ext W w':=by
 subst hd;exact (Tl (Co c false) (K2 c hall false).val (by show (1:Nat)≤64;omega) v W hT hsz h).mono fun e w' ⟨q,⟨u,h1,h2⟩,h3,h4,h5⟩=>
  ⟨q,u,h1,h2,⟨h3.val,Nat.le_trans (Adi (K2 c hall false).val h3 h4) (by show (1:Nat)≤64;omega),fun x=>by rw [h4,S9 c hall];rfl⟩,h5⟩
theorem Aak (d:Dfa) (hd:Val d∧d.nxt.length≤64∧∀ x,d.has x=true) (v:Value) (W:World) (h:IsD W v d) :
  Calls Tryz.prog 20 #[v,.int .i64 5] W fun e w'=>e=.returned (.tuple #[.int .i64 1099511627776,.int .i64 0])∧Ext W w':=
 (Pq d hd.1 hd.2.1 5 (by decide) v W h).mono fun e w' ⟨h1,h2⟩=>⟨by rw [h1,Gt hd.2.2];unfold J5;rw [if_pos (by decide)];rfl,h2⟩
theorem Aaj (d:Dfa) (hd:Val d∧d.nxt.length≤64∧∀ x,d.has x=true) (v:Value) (W:World) (h:IsD W v d) :
  Calls Tryz.prog 20 #[v,.int .i64 6] W fun e w'=>e=.returned (.tuple #[.int .i64 0,.int .i64 2])∧Ext W w':=
 (Pq d hd.1 hd.2.1 6 (by decide) v W h).mono fun e w' ⟨h1,h2⟩=>⟨by rw [h1,Gt hd.2.2];unfold J5;rw [if_neg (by decide)],h2⟩
theorem Aab (d:Dfa) (hd:Val d∧d.nxt.length≤64∧∀ x,d.has x=true) (v:Value) (W:World) (h:IsD W v d) :
  Calls Tryz.prog 22 #[v,.int .i64 1] W fun e w'=>∃ a cap,e=.returned (.tuple #[.slice a 257 cap,.int .i64 0])∧Ext W w':=
 (Oq d hd.1 hd.2.1 1 (by decide) v W h).mono fun e w' ⟨h1,h2⟩=>by
  have hc:Df d.has 2=257:=by
   show 0+Bp d.has 0+Bp d.has 1=257;rw [Gt hd.2.2,Gt hd.2.2]
  rcases h2 with ⟨_,vo,he,vs,k1,k2,k3⟩|⟨h2,_⟩
  ·obtain ⟨a,cap,rfl⟩:=Ew k2;rw [Le,show 1+1=2 from rfl,hc] at he;exact ⟨a,cap,he,h1⟩
  ·rw [show 1+1=2 from rfl,hc] at h2;omega
theorem Aah (d:Dfa) (hd:Val d∧d.nxt.length≤64∧∀ x,d.has x=true) (v:Value) (W:World) (h:IsD W v d) :
  Calls Tryz.prog 22 #[v,.int .i64 2] W fun e w'=>e=.returned (.tuple #[.slice none 0 0,.int .i64 2])∧Ext W w':=
 (Oq d hd.1 hd.2.1 2 (by decide) v W h).mono fun e w' ⟨h1,h2⟩=>by
  have hc:4096<Df d.has 3:=by
   show 4096<0+Bp d.has 0+Bp d.has 1+Bp d.has 2;rw [Gt hd.2.2,Gt hd.2.2,Gt hd.2.2];decide
  rcases h2 with ⟨h2,_⟩|⟨_,he⟩
  ·rw [show 2+1=3 from rfl] at h2;omega
  ·exact ⟨he,h1⟩
theorem Aiz (A:Cls) (hA:ofL [97]=A) (W:World) (hT:Tab W) (hsz:0<W.heap.size) :
  Calls Tryz.prog 36 #[.slice (some ⟨W.heap.size,0,none⟩) 3 3] (W.alloc (.cells #[.int .i64 3,.int .u64 (wd A 0),.int .u64 (wd A 1),.int .u64 (wd A 2),.int .u64 (wd A 3),.int .i64 0,.int .i64 0,.int .i64 0,.int .i64 0,.int .i64 8,.int .u64 0,.int .u64 0,.int .u64 0,.int .u64 0,.int .i64 0,.int .i64 0,.int .i64 16,.int .i64 16,.int .i64 8,.int .u64 0,.int .u64 0,.int .u64 0,.int .u64 0,.int .i64 1,.int .i64 0,.int .i64 5,.int .i64 5] 64)) fun e w'=>e=.returned (.tuple #[.agg #[.slice none 0 0,.slice none 0 0,.slice none 0 0],.int .i64 2])∧Ext W w':=by
 rw [Aeq];have hE:=(Ext.refl W).alloc (.cells (flR [⟨3,0,0,A,0,0⟩,⟨8,0,0,0#256,16,16⟩,⟨8,1,0,0#256,5,5⟩]).toArray 64);exact (Ai0 A hA W.heap.size _ (hT.below hE.below hsz) (Nat.lt_of_lt_of_le hsz hE.size) (Ab W _)).mono fun e w' ⟨h1,h2⟩=>⟨h1,hE.trans h2⟩
set_option maxHeartbeats 4000000 in
theorem Z9 (w:World) (hT:Tab w) (hsz:0<w.heap.size) :
  Calls Tryz.prog 12 #[] w fun e w'=>e=.returned (.bool true)∧Ext w w':=by
 obtain ⟨A,hA⟩:∃ A,ofL [97]=A:=⟨_,rfl⟩;obtain ⟨B,hB⟩:∃ A,ofL [98,99]=A:=⟨_,rfl⟩;have f44a:=fun W=>Lib.hid (Td [97] (by decide) (1,2) W #[.int .u8 97] rfl 1 rfl A hA)
 have f44b:=fun W=>Lib.hid (Td [98,99] (by decide) (2,3) W #[.int .u8 98,.int .u8 99] rfl 2 rfl B hB)
 have kc:=fun (w:World) (C:Array Value) (n c:Nat)=>Lib.run_convert_bytes_const (P:=Tryz.prog) w 22 5 C n c Tryz.underlying22 Tryz.underlying5
 have HA:=Lib.hid hA;have HB:=Lib.hid hB;have HTa:=Lib.hid (fun W (hW:Ext w W)=>hT.below hW.below hsz);have HSZ:=Lib.hid (fun W (hW:Ext w W)=>Nat.lt_of_lt_of_le hsz hW.size);clear hA hB hT hsz;go_enter Tryz.func12,Tryz.ntmps12;go_upto_region 2 with (first
  | (go_at_call 44;(with_reducible refine (f44a _).out.mono ?_);rintro e w2 ⟨rfl,hE2⟩;clear f44a)
  | (go_at_call 44;(with_reducible refine (f44b _).out.mono ?_);rintro e w3 ⟨rfl,hE3⟩;clear f44b))
 simp only [Aep];have hE:=(hE2.trans hE3).alloc (.cells (flR [⟨3,0,0,A,0,0⟩,⟨3,0,0,B,0,0⟩,⟨8,1,0,0#256,0,-1⟩,⟨4,0,2,0#256,0,0⟩]).toArray 64);have hX:=Ab w3 (.cells (flR [⟨3,0,0,A,0,0⟩,⟨3,0,0,B,0,0⟩,⟨8,1,0,0#256,0,-1⟩,⟨4,0,2,0#256,0,0⟩]).toArray 64);obtain ⟨wa,hwa⟩:∃ W,w3.alloc (.cells (flR [⟨3,0,0,A,0,0⟩,⟨3,0,0,B,0,0⟩,⟨8,1,0,0#256,0,-1⟩,⟨4,0,2,0#256,0,0⟩]).toArray 64)=W:=⟨_,rfl⟩;rw [hwa] at hE hX;simp only [hwa];clear hwa hE2 hE3;generalize w3.heap.size=gx at *;have hr0:wa.rangeAt gx 0 [.int .i64 3,.int .u64 (wd A 0),.int .u64 (wd A 1),.int .u64 (wd A 2),.int .u64 (wd A 3),.int .i64 0,.int .i64 0,.int .i64 0,.int .i64 0]:=by
  have:=Cv hX 0 (by simp);rw [show 0+0*9=0 by rfl] at this;exact this
 have HR0:=Lib.hid hr0;have f36:=Lib.hid (Aiy A B HA.out HB.out gx wa (HTa.out wa hE) (HSZ.out wa hE) hX);clear hr0 hX;go_upto_region 3 with (first
  | (go_at_call 36;(with_reducible refine f36.out.mono ?_);rintro e w4 ⟨x,v4,rfl,hD,hc4,hl4,ha4,hb4,hEn⟩;have HL4:=Lib.hid hl4;clear hl4;obtain ⟨ac,lc,cc,an,cn,aa,la,ca,rfl⟩:=hD.agg)
  | (refine wpList_store_row rfl 30 (.tmp 2) (.tmp 48) rfl _ _ rfl rfl _ _ (Ab w4 _) Ad rfl (An _ _ _ rfl rfl rfl) ?_))
 obtain ⟨hEb,hXb,hDb⟩:=Dx hD;obtain ⟨V2,hV⟩:∃ X,dA (.slice ac lc cc) (.slice an x.nxt.length cn) (.slice aa la ca)=X:=⟨_,rfl⟩;have hi2:(Tryz.prog.info? 30).map (·.size)=some V2.size:=by rw [← hV];exact Ad
 have HV2:Hid (V2[1]? = some (.slice an 3 cn)):=Lib.hid (by rw [← hV,HL4.out];rfl);rw [hV] at hEb hXb hDb;rw [hV];obtain ⟨w2x,hw⟩:∃ W,(w4.alloc (.cells #[.slice none 0 0,.slice none 0 0,.slice none 0 0] 30)).setRow w4.heap.size V2=W:=⟨_,rfl⟩;rw [hw] at hEb hXb hDb;simp only [hw];obtain ⟨g2,hg⟩:∃ y,w4.heap.size=y:=⟨_,rfl⟩;rw [hg] at hXb;rw [hg];have hstep:=hEn.trans hEb;have HX2:=Lib.hid hXb;have HD2:=Lib.hid hDb;have HF2:=Lib.hid (And.intro hc4.val (And.intro (show x.nxt.length≤64 by rw [HL4.out];omega) (And.intro ha4 hb4)));replace HR0:=Lib.hid (fun j v hj=>hstep.cell (HR0.out j v hj));clear hc4 ha4 hb4 f36;replace hE:=hE.trans hstep;clear hD hEb hXb hDb hV hw hg hEn hstep;have f36b:=Lib.hid (Aiz A HA.out w2x (HTa.out w2x hE) (HSZ.out w2x hE));have i64l:(Tryz.prog.info? 64).map (·.size)=some [Value.int .i64 3,.int .u64 (wd A 0),.int .u64 (wd A 1),.int .u64 (wd A 2),.int .u64 (wd A 3),.int .i64 0,.int .i64 0,.int .i64 0,.int .i64 0].length:=Cg;go_upto_region 4 with (first
  | (refine wpList_load_mid rfl 64 (.tmp 52) rfl gx 0 rfl _ _ HR0.out Tryz.underlying64 rfl i64l ?_)
  | (go_at_call 36;(with_reducible refine f36b.out.mono ?_);rintro e w5 ⟨rfl,hEn⟩)
  | (refine wpList_store_row rfl 30 (.tmp 4) (.tmp 58) rfl _ _ rfl rfl _ _ (Ab w5 _) Ad rfl Ex ?_))
 have hstep:=hEn.trans (((Ext.refl w5).alloc (.cells #[.slice none 0 0,.slice none 0 0,.slice none 0 0] 30)).setRow (Nat.le_refl w5.heap.size) #[.slice none 0 0,.slice none 0 0,.slice none 0 0]);obtain ⟨w5x,hw⟩:∃ W,(w5.alloc (.cells #[.slice none 0 0,.slice none 0 0,.slice none 0 0] 30)).setRow w5.heap.size #[.slice none 0 0,.slice none 0 0,.slice none 0 0]=W:=⟨_,rfl⟩;rw [hw] at hstep;simp only [hw];generalize w5.heap.size=g5 at *;replace HX2:=Lib.hid (hstep.heap HX2.out);replace HD2:=Lib.hid (HD2.out.ext hstep);replace hE:=hE.trans hstep;clear hw hEn hstep f36b i64l HR0;have f45:=Lib.hid (Qx [97,98] (by decide) (2,3) w5x #[.int .u8 97,.int .u8 98] rfl 2 rfl);go_upto_region 5 with (first
  | (go_at_call 45;(with_reducible refine f45.out.mono ?_);rintro e w6 ⟨d2,v,rfl,hD,hcn,hhs,hEn⟩;obtain ⟨ac,lc,cc,an,cn,aa,la,ca,rfl⟩:=hD.agg)
  | (refine wpList_store_row rfl 30 (.tmp 6) (.tmp 64) rfl _ _ rfl rfl _ _ (Ab w6 _) Ad rfl (An _ _ _ rfl rfl rfl) ?_))
 obtain ⟨hEb,hXb,hDb⟩:=Dx hD;obtain ⟨V6,hV⟩:∃ X,dA (.slice ac lc cc) (.slice an d2.nxt.length cn) (.slice aa la ca)=X:=⟨_,rfl⟩;have hi6:(Tryz.prog.info? 30).map (·.size)=some V6.size:=by rw [← hV];exact Ad
 rw [hV] at hEb hXb hDb;rw [hV];obtain ⟨w6x,hw⟩:∃ W,(w6.alloc (.cells #[.slice none 0 0,.slice none 0 0,.slice none 0 0] 30)).setRow w6.heap.size V6=W:=⟨_,rfl⟩;rw [hw] at hEb hXb hDb;simp only [hw];obtain ⟨g6,hg⟩:∃ y,w6.heap.size=y:=⟨_,rfl⟩;rw [hg] at hXb;rw [hg];have hstep:=hEn.trans hEb;have HX6:=Lib.hid hXb;have HD6:=Lib.hid hDb;have HF6:=Lib.hid (And.intro hcn hhs);clear hcn hhs f45;replace HX2:=Lib.hid (hstep.heap HX2.out);replace HD2:=Lib.hid (HD2.out.ext hstep);replace hE:=hE.trans hstep;clear hD hEb hXb hDb hV hw hg hEn hstep;have f45:=Lib.hid (Qx [97,98,99] (by decide) (3,4) w6x #[.int .u8 97,.int .u8 98,.int .u8 99] rfl 3 rfl);go_upto_region 6 with (first
  | (go_at_call 45;(with_reducible refine f45.out.mono ?_);rintro e w8 ⟨d3,v,rfl,hD,hcn,hhs,hEn⟩;obtain ⟨ac,lc,cc,an,cn,aa,la,ca,rfl⟩:=hD.agg)
  | (refine wpList_store_row rfl 30 (.tmp 8) (.tmp 70) rfl _ _ rfl rfl _ _ (Ab w8 _) Ad rfl (An _ _ _ rfl rfl rfl) ?_))
 obtain ⟨hEb,hXb,hDb⟩:=Dx hD;obtain ⟨V8,hV⟩:∃ X,dA (.slice ac lc cc) (.slice an d3.nxt.length cn) (.slice aa la ca)=X:=⟨_,rfl⟩;have hi8:(Tryz.prog.info? 30).map (·.size)=some V8.size:=by rw [← hV];exact Ad
 rw [hV] at hEb hXb hDb;rw [hV];obtain ⟨w8x,hw⟩:∃ W,(w8.alloc (.cells #[.slice none 0 0,.slice none 0 0,.slice none 0 0] 30)).setRow w8.heap.size V8=W:=⟨_,rfl⟩;rw [hw] at hEb hXb hDb;simp only [hw];obtain ⟨g8,hg⟩:∃ y,w8.heap.size=y:=⟨_,rfl⟩;rw [hg] at hXb;rw [hg];have hstep:=hEn.trans hEb;have HX8:=Lib.hid hXb;have HD8:=Lib.hid hDb;have HF8:=Lib.hid (And.intro hcn hhs);clear hcn hhs f45;replace HX2:=Lib.hid (hstep.heap HX2.out);replace HD2:=Lib.hid (HD2.out.ext hstep);replace HX6:=Lib.hid (hstep.heap HX6.out);replace HD6:=Lib.hid (HD6.out.ext hstep);replace hE:=hE.trans hstep;clear hD hEb hXb hDb hV hw hg hEn hstep;have f33:=Lib.hid (Aaf d2 d3 HF6.out.1 HF8.out.1 HF6.out.2 HF8.out.2 _ _ w8x (HTa.out w8x hE) (HSZ.out w8x hE) HD6.out HD8.out);go_upto_region 7 with (first
  | (refine wpList_load_row rfl 30 (.tmp 6) rfl _ rfl _ _ _ _ HX6.out Tryz.underlying30 rfl hi6 ?_)
  | (refine wpList_load_row rfl 30 (.tmp 8) rfl _ rfl _ _ _ _ HX8.out Tryz.underlying30 rfl hi8 ?_)
  | (go_at_call 33;(with_reducible refine f33.out.mono ?_);rintro e w10 ⟨db,v,rfl,hD,hft,hEn⟩;obtain ⟨ac,lc,cc,an,cn,aa,la,ca,rfl⟩:=hD.agg)
  | (refine wpList_store_row rfl 30 (.tmp 10) (.tmp 76) rfl _ _ rfl rfl _ _ (Ab w10 _) Ad rfl (An _ _ _ rfl rfl rfl) ?_))
 obtain ⟨hEb,hXb,hDb⟩:=Dx hD;obtain ⟨V10,hV⟩:∃ X,dA (.slice ac lc cc) (.slice an db.nxt.length cn) (.slice aa la ca)=X:=⟨_,rfl⟩;have hi10:(Tryz.prog.info? 30).map (·.size)=some V10.size:=by rw [← hV];exact Ad
 rw [hV] at hEb hXb hDb;rw [hV];obtain ⟨w10x,hw⟩:∃ W,(w10.alloc (.cells #[.slice none 0 0,.slice none 0 0,.slice none 0 0] 30)).setRow w10.heap.size V10=W:=⟨_,rfl⟩;rw [hw] at hEb hXb hDb;simp only [hw];obtain ⟨g10,hg⟩:∃ y,w10.heap.size=y:=⟨_,rfl⟩;rw [hg] at hXb;rw [hg];have hstep:=hEn.trans hEb;have HX10:=Lib.hid hXb;have HD10:=Lib.hid hDb;have HF10:=Lib.hid hft;clear hft f33;replace HX2:=Lib.hid (hstep.heap HX2.out);replace HD2:=Lib.hid (HD2.out.ext hstep);replace HX6:=Lib.hid (hstep.heap HX6.out);replace HD6:=Lib.hid (HD6.out.ext hstep);replace HX8:=Lib.hid (hstep.heap HX8.out);replace HD8:=Lib.hid (HD8.out.ext hstep);replace hE:=hE.trans hstep;clear hD hEb hXb hDb hV hw hg hEn hstep;have f14:=Lib.hid (Aad db HF10.out _ w10x (HTa.out w10x hE) (HSZ.out w10x hE) HD10.out);go_upto_region 8 with (first
  | (refine wpList_load_row rfl 30 (.tmp 10) rfl _ rfl _ _ _ _ HX10.out Tryz.underlying30 rfl hi10 ?_)
  | (go_at_call 14;(with_reducible refine f14.out.mono ?_);rintro e w12 ⟨dq,v,rfl,hD,hft,hEn⟩;obtain ⟨ac,lc,cc,an,cn,aa,la,ca,rfl⟩:=hD.agg)
  | (refine wpList_store_row rfl 30 (.tmp 12) (.tmp 83) rfl _ _ rfl rfl _ _ (Ab w12 _) Ad rfl (An _ _ _ rfl rfl rfl) ?_))
 obtain ⟨hEb,hXb,hDb⟩:=Dx hD;obtain ⟨V12,hV⟩:∃ X,dA (.slice ac lc cc) (.slice an dq.nxt.length cn) (.slice aa la ca)=X:=⟨_,rfl⟩;have hi12:(Tryz.prog.info? 30).map (·.size)=some V12.size:=by rw [← hV];exact Ad
 rw [hV] at hEb hXb hDb;rw [hV];obtain ⟨w12x,hw⟩:∃ W,(w12.alloc (.cells #[.slice none 0 0,.slice none 0 0,.slice none 0 0] 30)).setRow w12.heap.size V12=W:=⟨_,rfl⟩;rw [hw] at hEb hXb hDb;simp only [hw];obtain ⟨g12,hg⟩:∃ y,w12.heap.size=y:=⟨_,rfl⟩;rw [hg] at hXb;rw [hg];have hstep:=hEn.trans hEb;have HX12:=Lib.hid hXb;have HD12:=Lib.hid hDb;have HF12:=Lib.hid hft;clear hft f14;replace HX2:=Lib.hid (hstep.heap HX2.out);replace HD2:=Lib.hid (HD2.out.ext hstep);replace HX6:=Lib.hid (hstep.heap HX6.out);replace HD6:=Lib.hid (HD6.out.ext hstep);replace HX8:=Lib.hid (hstep.heap HX8.out);replace HD8:=Lib.hid (HD8.out.ext hstep);replace HX10:=Lib.hid (hstep.heap HX10.out);replace HD10:=Lib.hid (HD10.out.ext hstep);replace hE:=hE.trans hstep;clear hD hEb hXb hDb hV hw hg hEn hstep;have f16:=Lib.hid (Aae db HF10.out _ w12x (HTa.out w12x hE) (HSZ.out w12x hE) HD10.out);go_upto_region 9 with (first
  | (refine wpList_load_row rfl 30 (.tmp 10) rfl _ rfl _ _ _ _ HX10.out Tryz.underlying30 rfl hi10 ?_)
  | (go_at_call 16;(with_reducible refine f16.out.mono ?_);rintro e w14 ⟨dp,v,rfl,hD,hft,hEn⟩;obtain ⟨ac,lc,cc,an,cn,aa,la,ca,rfl⟩:=hD.agg)
  | (refine wpList_store_row rfl 30 (.tmp 14) (.tmp 88) rfl _ _ rfl rfl _ _ (Ab w14 _) Ad rfl (An _ _ _ rfl rfl rfl) ?_))
 obtain ⟨hEb,hXb,hDb⟩:=Dx hD;obtain ⟨V14,hV⟩:∃ X,dA (.slice ac lc cc) (.slice an dp.nxt.length cn) (.slice aa la ca)=X:=⟨_,rfl⟩;have hi14:(Tryz.prog.info? 30).map (·.size)=some V14.size:=by rw [← hV];exact Ad
 rw [hV] at hEb hXb hDb;rw [hV];obtain ⟨w14x,hw⟩:∃ W,(w14.alloc (.cells #[.slice none 0 0,.slice none 0 0,.slice none 0 0] 30)).setRow w14.heap.size V14=W:=⟨_,rfl⟩;rw [hw] at hEb hXb hDb;simp only [hw];obtain ⟨g14,hg⟩:∃ y,w14.heap.size=y:=⟨_,rfl⟩;rw [hg] at hXb;rw [hg];have hstep:=hEn.trans hEb;have HX14:=Lib.hid hXb;have HD14:=Lib.hid hDb;have HF14:=Lib.hid hft;clear hft f16;replace HX2:=Lib.hid (hstep.heap HX2.out);replace HD2:=Lib.hid (HD2.out.ext hstep);replace HX6:=Lib.hid (hstep.heap HX6.out);replace HD6:=Lib.hid (HD6.out.ext hstep);replace HX8:=Lib.hid (hstep.heap HX8.out);replace HD8:=Lib.hid (HD8.out.ext hstep);replace HX10:=Lib.hid (hstep.heap HX10.out);replace HD10:=Lib.hid (HD10.out.ext hstep);replace HX12:=Lib.hid (hstep.heap HX12.out);replace HD12:=Lib.hid (HD12.out.ext hstep);replace hE:=hE.trans hstep;clear hD hEb hXb hDb hV hw hg hEn hstep;have f18:=Lib.hid (Aac db HF10.out _ w14x (HTa.out w14x hE) (HSZ.out w14x hE) HD10.out);go_upto_region 10 with (first
  | (refine wpList_load_row rfl 30 (.tmp 10) rfl _ rfl _ _ _ _ HX10.out Tryz.underlying30 rfl hi10 ?_)
  | (go_at_call 18;(with_reducible refine f18.out.mono ?_);rintro e w16 ⟨dr,v,rfl,hD,hft,hEn⟩;obtain ⟨ac,lc,cc,an,cn,aa,la,ca,rfl⟩:=hD.agg)
  | (refine wpList_store_row rfl 30 (.tmp 16) (.tmp 93) rfl _ _ rfl rfl _ _ (Ab w16 _) Ad rfl (An _ _ _ rfl rfl rfl) ?_))
 obtain ⟨hEb,hXb,hDb⟩:=Dx hD;obtain ⟨V16,hV⟩:∃ X,dA (.slice ac lc cc) (.slice an dr.nxt.length cn) (.slice aa la ca)=X:=⟨_,rfl⟩;have hi16:(Tryz.prog.info? 30).map (·.size)=some V16.size:=by rw [← hV];exact Ad
 rw [hV] at hEb hXb hDb;rw [hV];obtain ⟨w16x,hw⟩:∃ W,(w16.alloc (.cells #[.slice none 0 0,.slice none 0 0,.slice none 0 0] 30)).setRow w16.heap.size V16=W:=⟨_,rfl⟩;rw [hw] at hEb hXb hDb;simp only [hw];obtain ⟨g16,hg⟩:∃ y,w16.heap.size=y:=⟨_,rfl⟩;rw [hg] at hXb;rw [hg];have hstep:=hEn.trans hEb;have HX16:=Lib.hid hXb;have HD16:=Lib.hid hDb;have HF16:=Lib.hid hft;clear hft f18;replace HX2:=Lib.hid (hstep.heap HX2.out);replace HD2:=Lib.hid (HD2.out.ext hstep);replace HX6:=Lib.hid (hstep.heap HX6.out);replace HD6:=Lib.hid (HD6.out.ext hstep);replace HX8:=Lib.hid (hstep.heap HX8.out);replace HD8:=Lib.hid (HD8.out.ext hstep);replace HX10:=Lib.hid (hstep.heap HX10.out);replace HD10:=Lib.hid (HD10.out.ext hstep);replace HX12:=Lib.hid (hstep.heap HX12.out);replace HD12:=Lib.hid (HD12.out.ext hstep);replace HX14:=Lib.hid (hstep.heap HX14.out);replace HD14:=Lib.hid (HD14.out.ext hstep);replace hE:=hE.trans hstep;clear hD hEb hXb hDb hV hw hg hEn hstep;have f20:=Lib.hid (Aal db HF10.out _ w16x HD10.out);go_upto_region 11 with (first
  | (refine wpList_load_row rfl 30 (.tmp 10) rfl _ rfl _ _ _ _ HX10.out Tryz.underlying30 rfl hi10 ?_)
  | (go_at_call 20;(with_reducible refine f20.out.mono ?_);rintro e w18 ⟨rfl,hEn⟩))
 have hstep:=hEn;replace HX2:=Lib.hid (hstep.heap HX2.out);replace HD2:=Lib.hid (HD2.out.ext hstep);replace HX6:=Lib.hid (hstep.heap HX6.out);replace HD6:=Lib.hid (HD6.out.ext hstep);replace HX8:=Lib.hid (hstep.heap HX8.out);replace HD8:=Lib.hid (HD8.out.ext hstep);replace HX10:=Lib.hid (hstep.heap HX10.out);replace HD10:=Lib.hid (HD10.out.ext hstep);replace HX12:=Lib.hid (hstep.heap HX12.out);replace HD12:=Lib.hid (HD12.out.ext hstep);replace HX14:=Lib.hid (hstep.heap HX14.out);replace HD14:=Lib.hid (HD14.out.ext hstep);replace HX16:=Lib.hid (hstep.heap HX16.out);replace HD16:=Lib.hid (HD16.out.ext hstep);replace hE:=hE.trans hstep;clear hEn hstep;have f22:=Lib.hid (Aai db HF10.out _ w18 HD10.out);go_upto_region 12 with (first
  | (refine wpList_load_row rfl 30 (.tmp 10) rfl _ rfl _ _ _ _ HX10.out Tryz.underlying30 rfl hi10 ?_)
  | (go_at_call 22;(with_reducible refine f22.out.mono ?_);rintro e w20 ⟨gl,cpl,v0,rfl,hl0,hby,hEn⟩))
 have hstep:=hEn;have HL0:=Lib.hid (And.intro hl0 hby);clear hl0 hby f20 f22;replace HX2:=Lib.hid (hstep.heap HX2.out);replace HD2:=Lib.hid (HD2.out.ext hstep);replace HX6:=Lib.hid (hstep.heap HX6.out);replace HD6:=Lib.hid (HD6.out.ext hstep);replace HX8:=Lib.hid (hstep.heap HX8.out);replace HD8:=Lib.hid (HD8.out.ext hstep);replace HX10:=Lib.hid (hstep.heap HX10.out);replace HD10:=Lib.hid (HD10.out.ext hstep);replace HX12:=Lib.hid (hstep.heap HX12.out);replace HD12:=Lib.hid (HD12.out.ext hstep);replace HX14:=Lib.hid (hstep.heap HX14.out);replace HD14:=Lib.hid (HD14.out.ext hstep);replace HX16:=Lib.hid (hstep.heap HX16.out);replace HD16:=Lib.hid (HD16.out.ext hstep);replace hE:=hE.trans hstep;clear hEn hstep;have f46:=Lib.hid (Aa8 false w20);go_upto_region 13 with (first
  | (go_at_call 46;(with_reducible refine f46.out.mono ?_);rintro e w21 ⟨vn,cN,rfl,hDn,hall,hEm⟩;have f32:=Lib.hid (Aag _ cN hall rfl _ w21 (HTa.out w21 (hE.trans hEm)) (HSZ.out w21 (hE.trans hEm)) hDn);clear hDn hall)
  | (go_at_call 32;(with_reducible refine f32.out.mono ?_);rintro e w22 ⟨da,v,rfl,hD,hft,hEk⟩;have hEn:=hEm.trans hEk;clear hEm hEk;obtain ⟨ac,lc,cc,an,cn,aa,la,ca,rfl⟩:=hD.agg)
  | (refine wpList_store_row rfl 30 (.tmp 22) (.tmp 108) rfl _ _ rfl rfl _ _ (Ab w22 _) Ad rfl (An _ _ _ rfl rfl rfl) ?_))
 obtain ⟨hEb,hXb,hDb⟩:=Dx hD;obtain ⟨V22,hV⟩:∃ X,dA (.slice ac lc cc) (.slice an da.nxt.length cn) (.slice aa la ca)=X:=⟨_,rfl⟩;have hi22:(Tryz.prog.info? 30).map (·.size)=some V22.size:=by rw [← hV];exact Ad
 rw [hV] at hEb hXb hDb;rw [hV];obtain ⟨w22x,hw⟩:∃ W,(w22.alloc (.cells #[.slice none 0 0,.slice none 0 0,.slice none 0 0] 30)).setRow w22.heap.size V22=W:=⟨_,rfl⟩;rw [hw] at hEb hXb hDb;simp only [hw];obtain ⟨g22,hg⟩:∃ y,w22.heap.size=y:=⟨_,rfl⟩;rw [hg] at hXb;rw [hg];have hstep:=hEn.trans hEb;have HX22:=Lib.hid hXb;have HD22:=Lib.hid hDb;have HF22:=Lib.hid hft;clear hft f46 f32;replace HX2:=Lib.hid (hstep.heap HX2.out);replace HD2:=Lib.hid (HD2.out.ext hstep);replace HX6:=Lib.hid (hstep.heap HX6.out);replace HD6:=Lib.hid (HD6.out.ext hstep);replace HX8:=Lib.hid (hstep.heap HX8.out);replace HD8:=Lib.hid (HD8.out.ext hstep);replace HX10:=Lib.hid (hstep.heap HX10.out);replace HD10:=Lib.hid (HD10.out.ext hstep);replace HX12:=Lib.hid (hstep.heap HX12.out);replace HD12:=Lib.hid (HD12.out.ext hstep);replace HX14:=Lib.hid (hstep.heap HX14.out);replace HD14:=Lib.hid (HD14.out.ext hstep);replace HX16:=Lib.hid (hstep.heap HX16.out);replace HD16:=Lib.hid (HD16.out.ext hstep);replace HL0:=Lib.hid (And.intro (hstep.cell HL0.out.1) (HL0.out.2.ext hstep));replace hE:=hE.trans hstep;clear hD hEb hXb hDb hV hw hg hEn hstep;have f20:=Lib.hid (Aak da HF22.out _ w22x HD22.out);go_upto_region 14 with (first
  | (refine wpList_load_row rfl 30 (.tmp 22) rfl _ rfl _ _ _ _ HX22.out Tryz.underlying30 rfl hi22 ?_)
  | (go_at_call 20;(with_reducible refine f20.out.mono ?_);rintro e w24 ⟨rfl,hEn⟩))
 have hstep:=hEn;clear f20;replace HX2:=Lib.hid (hstep.heap HX2.out);replace HD2:=Lib.hid (HD2.out.ext hstep);replace HX6:=Lib.hid (hstep.heap HX6.out);replace HD6:=Lib.hid (HD6.out.ext hstep);replace HX8:=Lib.hid (hstep.heap HX8.out);replace HD8:=Lib.hid (HD8.out.ext hstep);replace HX10:=Lib.hid (hstep.heap HX10.out);replace HD10:=Lib.hid (HD10.out.ext hstep);replace HX12:=Lib.hid (hstep.heap HX12.out);replace HD12:=Lib.hid (HD12.out.ext hstep);replace HX14:=Lib.hid (hstep.heap HX14.out);replace HD14:=Lib.hid (HD14.out.ext hstep);replace HX16:=Lib.hid (hstep.heap HX16.out);replace HD16:=Lib.hid (HD16.out.ext hstep);replace HX22:=Lib.hid (hstep.heap HX22.out);replace HD22:=Lib.hid (HD22.out.ext hstep);replace HL0:=Lib.hid (And.intro (hstep.cell HL0.out.1) (HL0.out.2.ext hstep));replace hE:=hE.trans hstep;clear hEn hstep;have f20:=Lib.hid (Aaj da HF22.out _ w24 HD22.out);go_upto_region 15 with (first
  | (refine wpList_load_row rfl 30 (.tmp 22) rfl _ rfl _ _ _ _ HX22.out Tryz.underlying30 rfl hi22 ?_)
  | (go_at_call 20;(with_reducible refine f20.out.mono ?_);rintro e w26 ⟨rfl,hEn⟩))
 have hstep:=hEn;clear f20;replace HX2:=Lib.hid (hstep.heap HX2.out);replace HD2:=Lib.hid (HD2.out.ext hstep);replace HX6:=Lib.hid (hstep.heap HX6.out);replace HD6:=Lib.hid (HD6.out.ext hstep);replace HX8:=Lib.hid (hstep.heap HX8.out);replace HD8:=Lib.hid (HD8.out.ext hstep);replace HX10:=Lib.hid (hstep.heap HX10.out);replace HD10:=Lib.hid (HD10.out.ext hstep);replace HX12:=Lib.hid (hstep.heap HX12.out);replace HD12:=Lib.hid (HD12.out.ext hstep);replace HX14:=Lib.hid (hstep.heap HX14.out);replace HD14:=Lib.hid (HD14.out.ext hstep);replace HX16:=Lib.hid (hstep.heap HX16.out);replace HD16:=Lib.hid (HD16.out.ext hstep);replace HX22:=Lib.hid (hstep.heap HX22.out);replace HD22:=Lib.hid (HD22.out.ext hstep);replace HL0:=Lib.hid (And.intro (hstep.cell HL0.out.1) (HL0.out.2.ext hstep));replace hE:=hE.trans hstep;clear hEn hstep;have f22:=Lib.hid (Aab da HF22.out _ w26 HD22.out);go_upto_region 16 with (first
  | (refine wpList_load_row rfl 30 (.tmp 22) rfl _ rfl _ _ _ _ HX22.out Tryz.underlying30 rfl hi22 ?_)
  | (go_at_call 22;(with_reducible refine f22.out.mono ?_);rintro e w28 ⟨a28,c28,rfl,hEn⟩))
 have hstep:=hEn;clear f22;replace HX2:=Lib.hid (hstep.heap HX2.out);replace HD2:=Lib.hid (HD2.out.ext hstep);replace HX6:=Lib.hid (hstep.heap HX6.out);replace HD6:=Lib.hid (HD6.out.ext hstep);replace HX8:=Lib.hid (hstep.heap HX8.out);replace HD8:=Lib.hid (HD8.out.ext hstep);replace HX10:=Lib.hid (hstep.heap HX10.out);replace HD10:=Lib.hid (HD10.out.ext hstep);replace HX12:=Lib.hid (hstep.heap HX12.out);replace HD12:=Lib.hid (HD12.out.ext hstep);replace HX14:=Lib.hid (hstep.heap HX14.out);replace HD14:=Lib.hid (HD14.out.ext hstep);replace HX16:=Lib.hid (hstep.heap HX16.out);replace HD16:=Lib.hid (HD16.out.ext hstep);replace HX22:=Lib.hid (hstep.heap HX22.out);replace HD22:=Lib.hid (HD22.out.ext hstep);replace HL0:=Lib.hid (And.intro (hstep.cell HL0.out.1) (HL0.out.2.ext hstep));replace hE:=hE.trans hstep;clear hEn hstep;have f22:=Lib.hid (Aah da HF22.out _ w28 HD22.out);go_upto_region 17 with (first
  | (refine wpList_load_row rfl 30 (.tmp 22) rfl _ rfl _ _ _ _ HX22.out Tryz.underlying30 rfl hi22 ?_)
  | (go_at_call 22;(with_reducible refine f22.out.mono ?_);rintro e w30 ⟨rfl,hEn⟩))
 have hstep:=hEn;clear f22;replace HX2:=Lib.hid (hstep.heap HX2.out);replace HD2:=Lib.hid (HD2.out.ext hstep);replace HX6:=Lib.hid (hstep.heap HX6.out);replace HD6:=Lib.hid (HD6.out.ext hstep);replace HX8:=Lib.hid (hstep.heap HX8.out);replace HD8:=Lib.hid (HD8.out.ext hstep);replace HX10:=Lib.hid (hstep.heap HX10.out);replace HD10:=Lib.hid (HD10.out.ext hstep);replace HX12:=Lib.hid (hstep.heap HX12.out);replace HD12:=Lib.hid (HD12.out.ext hstep);replace HX14:=Lib.hid (hstep.heap HX14.out);replace HD14:=Lib.hid (HD14.out.ext hstep);replace HX16:=Lib.hid (hstep.heap HX16.out);replace HD16:=Lib.hid (HD16.out.ext hstep);replace HX22:=Lib.hid (hstep.heap HX22.out);replace HD22:=Lib.hid (HD22.out.ext hstep);replace HL0:=Lib.hid (And.intro (hstep.cell HL0.out.1) (HL0.out.2.ext hstep));replace hE:=hE.trans hstep;clear hEn hstep;have k17:=(cell_of_row w30 g2 1 _ _ _ HX2.out).trans HV2.out;go_upto_region 19 with (fail)
 clear k17;have hEc:=Ext.refl w30;have f29a:=fun W (hW:Ext w30 W)=>Lib.hid (F6 _ HF2.out.1 HF2.out.2.1 (.agg V2) [97,99,98] (by decide) true HF2.out.2.2.1 (3,4) W (HTa.out W (hE.trans hW)) (HSZ.out W (hE.trans hW)) (HD2.out.ext hW) #[.int .u8 97,.int .u8 99,.int .u8 98] rfl 3 rfl)
 have f29b:=fun W (hW:Ext w30 W)=>Lib.hid (F6 _ HF2.out.1 HF2.out.2.1 (.agg V2) [98,97] (by decide) false HF2.out.2.2.2 (2,3) W (HTa.out W (hE.trans hW)) (HSZ.out W (hE.trans hW)) (HD2.out.ext hW) #[.int .u8 98,.int .u8 97] rfl 2 rfl)
 go_upto_region 20 with (first
  | (refine Fm rfl 30 (.tmp 2) rfl _ rfl _ _ _ _ HX2.out Tryz.underlying30 rfl hi2 ?_)
  | (go_at_call 29;(with_reducible refine (f29a _ hEc).out.mono ?_);rintro e wA ⟨rfl,hEA⟩;have hEc:=hEc.trans hEA;have HX2:=Lib.hid (hEA.heap HX2.out);have HX12:=Lib.hid (hEA.heap HX12.out);have HX14:=Lib.hid (hEA.heap HX14.out);have HX16:=Lib.hid (hEA.heap HX16.out);clear hEA f29a)
  | (go_at_call 29;(with_reducible refine (f29b _ hEc).out.mono ?_);rintro e wA ⟨rfl,hEA⟩;have hEc:=hEc.trans hEA;have HX2:=Lib.hid (hEA.heap HX2.out);have HX12:=Lib.hid (hEA.heap HX12.out);have HX14:=Lib.hid (hEA.heap HX14.out);have HX16:=Lib.hid (hEA.heap HX16.out);clear hEA f29b))
 have f29a:=fun W (hW:Ext w30 W)=>Lib.hid (F6 _ HF12.out.1 HF12.out.2.1 (.agg V12) [99] (by decide) true HF12.out.2.2.1 (1,2) W (HTa.out W (hE.trans hW)) (HSZ.out W (hE.trans hW)) (HD12.out.ext hW) #[.int .u8 99] rfl 1 rfl)
 have f29n:=fun W (hW:Ext w30 W)=>Lib.hid (show Calls Tryz.prog 29 #[.agg V12,.slice none 0 0] W fun e w'=>e=.returned (.bool true)∧Ext W w' from (Xk _ HF12.out.1 HF12.out.2.1 (.agg V12) [] (.slice none 0 0) W (HTa.out W (hE.trans hW)) (HSZ.out W (hE.trans hW)) (HD12.out.ext hW) (Sl.nil _ _ _)).mono fun e w' ⟨h1,h2⟩=>⟨by rw [h1,HF12.out.2.2.2.1],h2⟩)
 have f29b:=fun W (hW:Ext w30 W)=>Lib.hid (F6 _ HF12.out.1 HF12.out.2.1 (.agg V12) [97] (by decide) false HF12.out.2.2.2.2 (1,2) W (HTa.out W (hE.trans hW)) (HSZ.out W (hE.trans hW)) (HD12.out.ext hW) #[.int .u8 97] rfl 1 rfl)
 have f29c:=fun W (hW:Ext w30 W)=>Lib.hid (F6 _ HF14.out.1 HF14.out.2.1 (.agg V14) [97] (by decide) true HF14.out.2.2.1 (1,2) W (HTa.out W (hE.trans hW)) (HSZ.out W (hE.trans hW)) (HD14.out.ext hW) #[.int .u8 97] rfl 1 rfl)
 have f29d:=fun W (hW:Ext w30 W)=>Lib.hid (F6 _ HF14.out.1 HF14.out.2.1 (.agg V14) [98] (by decide) false HF14.out.2.2.2 (1,2) W (HTa.out W (hE.trans hW)) (HSZ.out W (hE.trans hW)) (HD14.out.ext hW) #[.int .u8 98] rfl 1 rfl)
 have f29e:=fun W (hW:Ext w30 W)=>Lib.hid (F6 _ HF16.out.1 HF16.out.2.1 (.agg V16) [99,98,97] (by decide) true HF16.out.2.2.1 (3,4) W (HTa.out W (hE.trans hW)) (HSZ.out W (hE.trans hW)) (HD16.out.ext hW) #[.int .u8 99,.int .u8 98,.int .u8 97] rfl 3 rfl)
 have f29g:=fun W (hW:Ext w30 W)=>Lib.hid (F6 _ HF16.out.1 HF16.out.2.1 (.agg V16) [97,98,99] (by decide) false HF16.out.2.2.2 (3,4) W (HTa.out W (hE.trans hW)) (HSZ.out W (hE.trans hW)) (HD16.out.ext hW) #[.int .u8 97,.int .u8 98,.int .u8 99] rfl 3 rfl)
 go_upto_region 21 with (first
  | (refine Fm rfl 30 (.tmp 12) rfl _ rfl _ _ _ _ HX12.out Tryz.underlying30 rfl hi12 ?_)
  | (refine Fm rfl 30 (.tmp 14) rfl _ rfl _ _ _ _ HX14.out Tryz.underlying30 rfl hi14 ?_)
  | (refine Fm rfl 30 (.tmp 16) rfl _ rfl _ _ _ _ HX16.out Tryz.underlying30 rfl hi16 ?_)
  | (go_at_call 29;(with_reducible refine (f29a _ hEc).out.mono ?_);rintro e wA ⟨rfl,hEA⟩;have hEc:=hEc.trans hEA;have HX12:=Lib.hid (hEA.heap HX12.out);have HX14:=Lib.hid (hEA.heap HX14.out);have HX16:=Lib.hid (hEA.heap HX16.out);clear hEA f29a)
  | (go_at_call 29;(with_reducible refine (f29n _ hEc).out.mono ?_);rintro e wA ⟨rfl,hEA⟩;have hEc:=hEc.trans hEA;have HX12:=Lib.hid (hEA.heap HX12.out);have HX14:=Lib.hid (hEA.heap HX14.out);have HX16:=Lib.hid (hEA.heap HX16.out);clear hEA f29n)
  | (go_at_call 29;(with_reducible refine (f29b _ hEc).out.mono ?_);rintro e wA ⟨rfl,hEA⟩;have hEc:=hEc.trans hEA;have HX12:=Lib.hid (hEA.heap HX12.out);have HX14:=Lib.hid (hEA.heap HX14.out);have HX16:=Lib.hid (hEA.heap HX16.out);clear hEA f29b)
  | (go_at_call 29;(with_reducible refine (f29c _ hEc).out.mono ?_);rintro e wA ⟨rfl,hEA⟩;have hEc:=hEc.trans hEA;have HX12:=Lib.hid (hEA.heap HX12.out);have HX14:=Lib.hid (hEA.heap HX14.out);have HX16:=Lib.hid (hEA.heap HX16.out);clear hEA f29c)
  | (go_at_call 29;(with_reducible refine (f29d _ hEc).out.mono ?_);rintro e wA ⟨rfl,hEA⟩;have hEc:=hEc.trans hEA;have HX12:=Lib.hid (hEA.heap HX12.out);have HX14:=Lib.hid (hEA.heap HX14.out);have HX16:=Lib.hid (hEA.heap HX16.out);clear hEA f29d)
  | (go_at_call 29;(with_reducible refine (f29e _ hEc).out.mono ?_);rintro e wA ⟨rfl,hEA⟩;have hEc:=hEc.trans hEA;have HX12:=Lib.hid (hEA.heap HX12.out);have HX14:=Lib.hid (hEA.heap HX14.out);have HX16:=Lib.hid (hEA.heap HX16.out);clear hEA f29e)
  | (go_at_call 29;(with_reducible refine (f29g _ hEc).out.mono ?_);rintro e wA ⟨rfl,hEA⟩;have hEc:=hEc.trans hEA;have HX12:=Lib.hid (hEA.heap HX12.out);have HX14:=Lib.hid (hEA.heap HX14.out);have HX16:=Lib.hid (hEA.heap HX16.out);clear hEA f29g))
 have hl0:=hEc.cell HL0.out.1;have hcv:=Ke v0 _ _ (HL0.out.2.ext hEc);have hEF:=Lib.hid (hE.trans hEc);go_wp2;go_ret;exact ⟨rfl,hEF.out⟩
end Go.Proofs.YtaiogolidlamiaaGreatDoor
