import Derived.Test.YtaiogolidlamiaaGreatDoorM13
set_option linter.unusedVariables false
set_option linter.unusedSimpArgs false
namespace Go.Proofs.YtaiogolidlamiaaGreatDoor
section
variable {t:Tbl} {n:Nat} {B N R:List Nat} {f:List UInt8→Option Nat} {m:Nat}
theorem Tn (h:FInv (Cz t fun s=>B.getD s 0) n (fun s=>N.getD s 0) R f):Blk (List.range n) (fun s=>N.getD s 0) R∧∀ s∈List.range n,∀ s'∈List.range n,(N.getD s 0=N.getD s' 0↔Cz t (fun s=>B.getD s 0) s=Cz t (fun s=>B.getD s 0) s'):=
 ⟨⟨fun s hs=>h.lt s (List.mem_range.1 hs),fun i hi=>List.mem_range.2 (h.byte i hi).1,fun i hi=>(h.byte i hi).2⟩,fun s hs s' hs'=>h.same s s' (List.mem_range.1 hs) (List.mem_range.1 hs')⟩
theorem Aes (h:FInv (Cz t fun s=>B.getD s 0) n (fun s=>N.getD s 0) R f) (hn:0<n):N.getD 0 0=0:=by
 have h1:=h.first 0 hn;have h2:=h.lt 0 hn;rcases Nat.eq_zero_or_pos (N.getD 0 0) with e|e
 ·exact e
 ·have h1:R.getD (N.getD 0 0) 0≤0:=h1;have:=h.inc 0 (N.getD 0 0) e h2;omega
theorem Aei (hv:TVal t) (hl:Reached t (List.range n)) (h:OInv t (List.range n) B m) (hm:n≤65536) (hN:N.length=t.nxt.length)
  (hi:FInv (Cz t fun s=>B.getD s 0) n (fun s=>N.getD s 0) R f) (hne:R.length≠m):OInv t (List.range n) N R.length∧m<R.length:=by
 obtain ⟨hb,hs⟩:=Tn hi;have hr:Fo t (List.range n) (fun s=>B.getD s 0) (fun s=>N.getD s 0):=Jw hl h.lt hs;have hle:=Lh hb;rw [List.length_range] at hle;refine ⟨⟨hN,Mk hv hl h.refi hr hb,fun s hs=>?_,by rw [List.length_range];exact hle⟩,?_⟩
 ·have:=hb.lt s hs;show N.getD s 0<65536;omega
 ·have:=(Ml h.refi hr hb hl.ne).1;omega
theorem Aej (hv:TVal t) (hl:Reached t (List.range n)) (h:OInv t (List.range n) B m)
  (hi:FInv (Cz t fun s=>B.getD s 0) n (fun s=>N.getD s 0) R f) (he:R.length=m):Blocks t (List.range n) (fun s=>N.getD s 0) R:=by
 obtain ⟨hb,hs⟩:=Tn hi;have hr:Fo t (List.range n) (fun s=>B.getD s 0) (fun s=>N.getD s 0):=Jw hl h.lt hs;exact ⟨hb,Qv hv hl h.refi hr hb he⟩
end
structure Mrg (t:Tbl) (B:Nat→Nat) (n:Nat) (L:List Cls) (d:Dfa):Prop where
 cls:d.cls=L
 len:d.nxt.length=n
 acl:d.acc.length=n
 row:∀ s,s<t.nxt.length→(d.nxt.getD (B s) []).length=t.cells
 ent:∀ s,s<t.nxt.length→∀ k,k<t.cells→d.ent2 (B s) k=B (t.ent2 s k)
 acc:∀ s,s<t.nxt.length→d.ok (B s)=t.ok s
theorem Abt {t:Tbl} (hv:TVal t) {L:List Cls} (hL:Parts L) (hc:t.cells=L.length) (hcell:∀ b,b<256→t.cell b=Aj L b) {B:Nat→Nat} {R:List Nat} (hb:Blocks t (List.range t.nxt.length) B R) (h0:B 0=0) {d:Dfa} (h:Mrg t B R.length L d) :
  Val d∧∀ w,d.has w=t.has w:=by
 have hR:∀ i,i<R.length→∃ s,s<t.nxt.length∧B s=i:=fun i hi=>⟨_,List.mem_range.1 (hb.blk.mem i hi),hb.blk.rep i hi⟩
 have hval:Val d:=by
  refine ⟨?_,by rw [h.acl,h.len],fun i hi=>?_,fun i hi k hk=>?_,by rw [h.cls];exact hL⟩
  ·rw [h.len];have:=hb.blk.lt 0 (List.mem_range.2 hv.pos);omega
  ·rw [h.len] at hi;obtain ⟨s,hs,rfl⟩:=hR i hi;rw [h.row s hs,h.cls,hc]
  ·rw [h.len] at hi ⊢;rw [h.cls,← hc] at hk;obtain ⟨s,hs,rfl⟩:=hR i hi;rw [h.ent s hs k hk];exact hb.blk.lt _ (List.mem_range.2 (hv.tgt s hs k hk))
 refine ⟨hval,fun w=>?_⟩;have hrun:∀ (w:List UInt8) s,s<t.nxt.length→d.run (B s) w=B (t.run s w):=fun w=>by
  induction w with
  | nil=>intro s _;rfl
  | cons x w ih=>
   intro s hs;show d.run (d.stp (B s) x.toNat) w=B (t.run (t.stp s x.toNat) w);have h1:d.stp (B s) x.toNat=B (t.stp s x.toNat):=by
    unfold Dfa.stp Tbl.stp;rw [h.cls,← hcell _ x.toNat_lt];exact h.ent s hs _ (hv.cell_lt _ x.toNat_lt)
   rw [h1];exact ih _ (hv.stp_lt hs x.toNat_lt)
 unfold Dfa.has;have:=hrun w 0 hv.pos;rw [h0] at this;rw [this];exact h.acc _ (hv.run_lt w hv.pos)
theorem Ag8 {t:Tbl} (hv:TVal t) {R:List Nat} {B:Nat→Nat} {l:List Nat} (hl:Reached t l) (hb:Blocks t l B R) {e:Dfa} (he:Cano e) (h:∀ w,e.has w=t.has w):e.nxt.length=R.length:=by
 have h1:e.nxt.length≤R.length:=by
  have:=Fl he (fun w=>B (t.run 0 w)) (fun w w' hw u=>by
   rw [h,h];unfold Tbl.has;rw [Cx,Cx];exact ((hb.leq _ (hl.run hv w hl.zero) _ (hl.run hv w' hl.zero)).1 hw) u) (List.range R.length) fun w=>List.mem_range.2 (hb.blk.lt _ (hl.run hv w hl.zero))
  simpa using this
 have h2:R.length≤e.nxt.length:=by
  classical
  have hw:∀ s:Nat,∃ w,s∈l→t.run 0 w=s:=fun s=>by
   by_cases hs:s∈l
   ·obtain ⟨w,hw⟩:=hl.all s hs;exact ⟨w,fun _=>hw⟩
   ·exact ⟨[],fun h=>absurd h hs⟩
  have:=On he.val ((List.range R.length).map fun i=>(hw (R.getD i 0)).choose) (by
   rw [List.pairwise_map];refine List.Pairwise.imp_of_mem (fun {i j} hi hj hij=>?_) (List.nodup_iff_pairwise_ne.1 List.nodup_range);have hi:=List.mem_range.1 hi;have hj:=List.mem_range.1 hj;refine Classical.byContradiction fun hx=>hij ?_
   have hx:∀ x,e.has ((hw (R.getD i 0)).choose++x)=e.has ((hw (R.getD j 0)).choose++x):=fun x=>Classical.byContradiction fun hne=>hx ⟨x,hne⟩
   rw [← hb.blk.rep i hi,← hb.blk.rep j hj];refine (hb.leq _ (hb.blk.mem i hi) _ (hb.blk.mem j hj)).2 fun x=>?_
   have:=hx x;rw [h,h] at this;unfold Tbl.has at this;rw [Cx,Cx,(hw (R.getD i 0)).choose_spec (hb.blk.mem i hi),(hw (R.getD j 0)).choose_spec (hb.blk.mem j hj)] at this;exact this)
  simpa using this
 omega
def rnx (d:Dfa) (S:List Bool) (x:Nat):List Bool:=(List.range 64).map fun s=>decide (s<d.nxt.length)&&S.getD (d.stp s x) false
def rst (d:Dfa):List Bool:=(List.range 64).map fun s=>d.ok s
theorem Mh (d:Dfa) (S:List Bool) (x:Nat):(rnx d S x).length=64:=by simp [rnx]
theorem Ic (d:Dfa):(rst d).length=64:=by simp [rst]
theorem Kh (g:Nat→Bool) (s:Nat) (hs:s<64):((List.range 64).map g).getD s false=g s:=by
 simp [List.getD_eq_getElem?_getD,hs]
theorem Fb {d:Dfa} (hd:Val d) (h64:d.nxt.length≤64) (w:List UInt8) (s:Nat) (hs:s<d.nxt.length):(Ar (rnx d) (rst d) w).getD s false=d.ok (d.run s w.reverse):=by
 revert s
 induction w using Du with
 | h0=>intro s hs;exact Kh _ s (by omega)
 | h1 w x ih=>
  intro s hs;rw [D6,rnx,Kh _ s (by omega)];simp only [hs,decide_true,Bool.true_and];rw [ih _ (hd.stp_lt hs x.toNat_lt),List.reverse_append];rfl
theorem Qq {d:Dfa} (w:List UInt8):(Ar (rnx d) (rst d) w).length=64:=by
 induction w using Du with
 | h0=>exact Ic d
 | h1 w x ih=>rw [D6];exact Mh _ _ _
theorem Qr {d:Dfa} (hd:Val d) (w:List UInt8) (s:Nat) (hs:d.nxt.length≤s):(Ar (rnx d) (rst d) w).getD s false=false:=by
 induction w using Du with
 | h0=>
  by_cases h:s<64
  ·show ((List.range 64).map _).getD s false=false;rw [Kh _ s h];unfold Dfa.ok;rw [List.getD_eq_getElem?_getD,List.getElem?_eq_none (by rw [hd.accL];exact hs)];rfl
  ·rw [List.getD_eq_getElem?_getD,List.getElem?_eq_none (by show (rst d).length≤s;rw [Ic];omega)];rfl
 | h1 w x ih=>
  rw [D6];by_cases h:s<64
  ·rw [rnx,Kh _ s h];have:¬ s<d.nxt.length:=by omega
   simp [this]
  ·rw [List.getD_eq_getElem?_getD,List.getElem?_eq_none (by rw [Mh];omega)];rfl
theorem Y8 {d:Dfa} (hd:Val d) (h64:d.nxt.length≤64) (w w':List UInt8):Ar (rnx d) (rst d) w=Ar (rnx d) (rst d) w'↔∀ s,s<d.nxt.length→d.ok (d.run s w.reverse)=d.ok (d.run s w'.reverse):=by
 constructor
 ·intro h s hs;rw [← Fb hd h64 w s hs,← Fb hd h64 w' s hs,h]
 ·intro h;refine List.ext_getElem? fun s=>?_
  have e:∀ w:List UInt8,(Ar (rnx d) (rst d) w)[s]? = if s<64 then some ((Ar (rnx d) (rst d) w).getD s false) else none:=fun w=>by
   by_cases h1:s<64
   ·rw [if_pos h1,List.getD_eq_getElem?_getD,List.getElem?_eq_getElem (by rw [Qq];exact h1)];rfl
   ·rw [if_neg h1,List.getElem?_eq_none (by rw [Qq];omega)]
  rw [e,e];by_cases hs:s<d.nxt.length
  ·rw [Fb hd h64 w s hs,Fb hd h64 w' s hs,h s hs]
  ·rw [Qr hd w s (by omega),Qr hd w' s (by omega)]
theorem Y9 {d:Dfa} (hd:Val d) (h64:d.nxt.length≤64) {c:Nat→Nat} {bs:List Nat} {l:List (List Bool)} {t:Tbl} (h:Expl c bs (rst d) (rnx d) (fun S=>S.getD 0 false) l t) {a b:Nat→Nat} (hj:Joint a b c bs)
  (hn:∀ x,x<256→Aj d.cls (bs.getD (c x) 0)=Aj d.cls x) (w:List UInt8):t.has w=d.has w.reverse:=by
 rw [h.has hj (fun s x hx=>by unfold rnx Dfa.stp;rw [hn x hx]) w];exact Fb hd h64 w 0 hd.pos
def Bb (L:List UInt8→Bool):Nat→List (List UInt8)
 | 0=>if L [] then [[]] else []
 | n+1=>(List.range 256).flatMap fun b=>(Bb (fun w=>L (UInt8.ofNat b::w)) n).map (UInt8.ofNat b::·)
def Ba (L:List UInt8→Bool) (n:Nat):Nat:=(Bb L n).length
def Lex (u v:List UInt8):Prop:=∃ p a b u' v',u=p++a::u'∧v=p++b::v'∧a.toNat<b.toNat
theorem Dp:∀ (n:Nat) (L:List UInt8→Bool) (w:List UInt8),w∈Bb L n↔w.length=n∧L w=true
 | 0,L,w=>by
  unfold Bb;cases h:L []
  ·simp only [Bool.false_eq_true,if_false,List.not_mem_nil,false_iff];rintro ⟨h1,h2⟩;rw [List.eq_nil_of_length_eq_zero h1,h] at h2;cases h2
  ·simp only [if_true,List.mem_singleton];constructor
   ·rintro rfl;exact ⟨rfl,h⟩
   ·rintro ⟨h1,_⟩;exact List.eq_nil_of_length_eq_zero h1
 | n+1,L,w=>by
  unfold Bb;simp only [List.mem_flatMap,List.mem_range,List.mem_map];constructor
  ·rintro ⟨b,hb,v,hv,rfl⟩;obtain ⟨h1,h2⟩:=(Dp n _ v).1 hv;exact ⟨by rw [List.length_cons,h1],h2⟩
  ·rintro ⟨h1,h2⟩;cases w with
   | nil=>simp at h1
   | cons x w=>
    have hx:UInt8.ofNat x.toNat=x:=by simp
    refine ⟨x.toNat,x.toNat_lt,w,(Dp n _ w).2 ⟨by simpa using h1,by rw [hx];exact h2⟩,by rw [hx]⟩
theorem Lx:∀ (n:Nat) (L:List UInt8→Bool),(Bb L n).Pairwise Lex
 | 0,L=>by unfold Bb;split<;>simp
 | n+1,L=>by
  unfold Bb;rw [List.pairwise_flatMap];refine ⟨fun b _=>?_,?_⟩
  ·rw [List.pairwise_map];refine (Lx n _).imp fun {u v} h=>?_
   obtain ⟨p,a,c,u',v',rfl,rfl,hlt⟩:=h;exact ⟨UInt8.ofNat b::p,a,c,u',v',rfl,rfl,hlt⟩
  ·refine List.Pairwise.imp_of_mem (fun {a b} ha hb hab=>?_) List.pairwise_lt_range;intro u hu v hv;obtain ⟨u',_,rfl⟩:=List.mem_map.1 hu;obtain ⟨v',_,rfl⟩:=List.mem_map.1 hv;exact ⟨[],_,_,u',v',rfl,rfl,by rw [u8n _ (List.mem_range.1 ha),u8n _ (List.mem_range.1 hb)];exact hab⟩
theorem Wc:∀ (n:Nat) {L M:List UInt8→Bool},(∀ w,L w=M w)→Bb L n=Bb M n:=fun n L M h=>by rw [show L=M from funext h]
theorem Of (L:List UInt8→Bool):Ba L 0=if L [] then 1 else 0:=by unfold Ba Bb;split<;>rfl
theorem Og (L:List UInt8→Bool) (n:Nat):Ba L (n+1)=((List.range 256).map fun b=>Ba (fun w=>L (UInt8.ofNat b::w)) n).sum:=by
 unfold Ba;rw [Bb,List.length_flatMap];simp
theorem L4 {α:Type} (f g:α→Nat):∀ l:List α,(l.map fun x=>f x+g x).sum=(l.map f).sum+(l.map g).sum
 | []=>rfl
 | a::l=>by simp only [List.map_cons,List.sum_cons,L4 f g l];omega
theorem Gl {α:Type} (k:Nat):∀ l:List α,(l.map fun _=>k).sum=l.length*k
 | []=>by simp
 | a::l=>by simp only [List.map_cons,List.sum_cons,Gl k l,List.length_cons,Nat.add_mul];omega
theorem Ue:∀ (n:Nat) (L:List UInt8→Bool),Ba L n+Ba (fun w=>!L w) n=256 ^ n
 | 0,L=>by rw [Of,Of];cases L []<;>rfl
 | n+1,L=>by
  rw [Og,Og,← L4];rw [show (fun b=>Ba (fun w=>L (UInt8.ofNat b::w)) n+Ba (fun w=>!L (UInt8.ofNat b::w)) n)=fun _:Nat=>256 ^ n from funext fun b=>Ue n _];rw [Gl,List.length_range,Nat.pow_succ];omega
def Bp (d:Dfa):Nat→Nat→Nat
 | 0,s=>if d.ok s then 1 else 0
 | n+1,s=>((List.range d.cls.length).map fun k=>sz (d.cls.getD k 0#256)*Bp d n (d.ent2 s k)).sum
theorem Ua (p:Nat→Bool):∀ n,cnt p n=((List.range n).map fun b=>if p b then 1 else 0).sum
 | 0=>rfl
 | n+1=>by
  rw [cnt,Ua p n,List.range_succ,List.map_append,List.sum_append];simp
theorem Pw {α β:Type} (f:α→β→Nat) (l:List α):∀ m:List β,(l.map fun a=>(m.map fun b=>f a b).sum).sum=(m.map fun b=>(l.map fun a=>f a b).sum).sum
 | []=>by simp [Gl]
 | b::m=>by
  simp only [List.map_cons,List.sum_cons];rw [L4,Pw f l m]
theorem Px (g:Nat→Nat) (j:Nat):∀ n,j<n→((List.range n).map fun k=>if j=k then g k else 0).sum=g j
 | 0,h=>by omega
 | n+1,h=>by
  rw [List.range_succ,List.map_append,List.sum_append];by_cases e:j=n
  ·subst e;have:((List.range j).map fun k=>if j=k then g k else 0)=(List.range j).map fun _=>0:=
    List.map_congr_left fun k hk=>by rw [if_neg];have:=List.mem_range.1 hk;omega
   rw [this,Gl];simp
  ·rw [Px g j n (by omega)];simp [e]
theorem Py (k:Nat) {α:Type} (f:α→Nat):∀ l:List α,(l.map f).sum*k=(l.map fun a=>f a*k).sum
 | []=>by simp
 | a::l=>by simp only [List.map_cons,List.sum_cons,Nat.add_mul,Py k f l]
theorem Xe {L:List Cls} (hL:Parts L) (g:Nat→Nat):((List.range 256).map fun b=>g (Aj L b)).sum=((List.range L.length).map fun k=>sz (L.getD k 0#256)*g k).sum:=by
 have h1:∀ k∈List.range L.length,sz (L.getD k 0#256)*g k=((List.range 256).map fun b=>if Aj L b=k then g k else 0).sum:=fun k hk=>by
  unfold sz;rw [Ua,Py]
  congr 1
  refine List.map_congr_left fun b hb=>?_
  have hb:=List.mem_range.1 hb;have hk:=List.mem_range.1 hk;by_cases e:Aj L b=k
  ·have:=E6 hL hb;rw [e] at this;simp only [this,e,if_true,Nat.one_mul]
  ·have:(L.getD k 0#256).getLsbD b=false:=by
    rw [← Bool.not_eq_true];exact fun h=>e (Eq hL hb hk h)
   simp only [this,e,if_false,Bool.false_eq_true,Nat.zero_mul]
 rw [List.map_congr_left h1,Pw]
 congr 1
 refine List.map_congr_left fun b hb=>?_
 exact (Px g _ _ (cell_lt hL (List.mem_range.1 hb))).symm
theorem K4 {d:Dfa} (hd:Val d):∀ (n s:Nat),s<d.nxt.length→Bp d n s=Ba (fun w=>d.ok (d.run s w)) n
 | 0,s,_=>by rw [Of];rfl
 | n+1,s,hs=>by
  rw [Og];show ((List.range d.cls.length).map fun k=>sz (d.cls.getD k 0#256)*Bp d n (d.ent2 s k)).sum=_;rw [← Xe hd.parts fun k=>Bp d n (d.ent2 s k)]
  congr 1
  refine List.map_congr_left fun b hb=>?_
  have hb:=List.mem_range.1 hb;show Bp d n (d.stp s b)=_;rw [K4 hd n _ (hd.stp_lt hs hb)];unfold Ba;rw [Wc n fun w=>?_];show d.ok (d.run (d.stp s b) w)=d.ok (d.run (d.stp s (UInt8.ofNat b).toNat) w);rw [u8n b hb]
def sat (x:Nat):Nat:=min x 1099511627777
theorem Mb (x:Nat):sat x≤1099511627777:=Nat.min_le_right _ _
def Es (d:Dfa) (n s k:Nat):Nat:=((List.range k).map fun k=>sz (d.cls.getD k 0#256)*Bp d n (d.ent2 s k)).sum
theorem Ahu (d:Dfa) (n s k:Nat):Es d n s (k+1)=Es d n s k+sz (d.cls.getD k 0#256)*Bp d n (d.ent2 s k):=by
 unfold Es;rw [List.range_succ,List.map_append,List.sum_append];simp
theorem Ahv (d:Dfa) (n s:Nat):Es d n s d.cls.length=Bp d (n+1) s:=rfl
theorem Ye (a z x:Nat) (hz:0<z):min (sat a+z*sat x) 1099511627777=sat (a+z*x):=by
 unfold sat;by_cases h:x≤1099511627777
 ·rw [Nat.min_eq_left h];omega
 ·have h1:min x 1099511627777=1099511627777:=by omega
  have h2:1099511627777≤z*1099511627777:=Nat.le_mul_of_pos_left _ hz;have h3:x≤z*x:=Nat.le_mul_of_pos_left _ hz;rw [h1];omega
def Ck (w:List UInt8) (s:Nat):List Nat:=(List.range 256).map fun b=>if s<w.length∧(w.getD s 0).toNat=b then s+1 else w.length+1
def Ca (w:List UInt8):Tbl:=⟨fun b=>b,256,(List.range (w.length+2)).map (Ck w),(List.range (w.length+2)).map fun s=>s==w.length⟩
theorem Ci {α:Type} (g:Nat→α) (n s:Nat) (d:α) (hs:s<n):((List.range n).map g).getD s d=g s:=by
 simp [List.getD_eq_getElem?_getD,hs]
theorem Dz (w:List UInt8):(Ca w).nxt.length=w.length+2:=by simp [Ca]
theorem Ph (w:List UInt8) (s k:Nat) (hs:s<w.length+2) (hk:k<256):(Ca w).ent2 s k=if s<w.length∧(w.getD s 0).toNat=k then s+1 else w.length+1:=by
 unfold Tbl.ent2;show (((List.range (w.length+2)).map (Ck w)).getD s []).getD k 0=_;rw [Ci _ _ _ _ hs];unfold Ck;rw [Ci _ _ _ _ hk]
theorem Eg (w:List UInt8):TVal (Ca w) where
 pos:=by rw [Dz];omega
 accL:=by rw [Dz];simp [Ca]
 row:=fun s hs=>by
  rw [Dz] at hs;show (((List.range (w.length+2)).map (Ck w)).getD s []).length=256;rw [Ci _ _ _ _ hs];simp [Ck]
 tgt:=fun s hs k hk=>by
  rw [Dz] at hs ⊢;rw [Ph w s k hs hk];split<;>omega
 cell_lt:=fun b hb=>hb
 onto:=fun k hk=>⟨k,hk,rfl⟩
theorem Pg (w:List UInt8) (s:Nat) (hs:s<w.length+2):(Ca w).ok s=(s==w.length):=by
 unfold Tbl.ok;show ((List.range (w.length+2)).map fun s=>s==w.length).getD s false=_;rw [Ci _ _ _ _ hs]
theorem Pe (w:List UInt8) (s:Nat) (x:UInt8) (hs:s<w.length+2):(Ca w).stp s x.toNat=if s<w.length∧w.getD s 0=x then s+1 else w.length+1:=by
 show (Ca w).ent2 s x.toNat=_;rw [Ph w s _ hs x.toNat_lt]
 congr 1
 rw [UInt8.toNat_inj]
theorem Pi (w:List UInt8):∀ u:List UInt8,(Ca w).run (w.length+1) u=w.length+1
 | []=>rfl
 | x::u=>by
  show (Ca w).run ((Ca w).stp (w.length+1) x.toNat) u=_;rw [Pe w _ x (by omega),if_neg (by omega)];exact Pi w u
theorem Pf (w:List UInt8):∀ (u:List UInt8) (s:Nat),s≤w.length→((Ca w).ok ((Ca w).run s u)=true↔u=w.drop s)
 | [],s,hs=>by
  show (Ca w).ok s=true↔_;rw [Pg w s (by omega)];constructor
  ·intro h;have:s=w.length:=by simpa using h
   rw [this,List.drop_length]
  ·intro h;have:=congrArg List.length h;rw [List.length_drop] at this;simp only [List.length_nil] at this;simp;omega
 | x::u,s,hs=>by
  show (Ca w).ok ((Ca w).run ((Ca w).stp s x.toNat) u)=true↔_;rw [Pe w s x (by omega)];by_cases h:s<w.length∧w.getD s 0=x
  ·rw [if_pos h,Pf w u (s+1) (by omega),List.drop_eq_getElem_cons h.1];have:w[s]'h.1=x:=by
    have h2:=h.2;rw [List.getD_eq_getElem?_getD,List.getElem?_eq_getElem h.1] at h2;exact h2
   rw [this];simp
  ·rw [if_neg h,Pi,Pg w _ (by omega)];constructor
   ·intro h1;simp at h1
   ·intro h1;exfalso
    by_cases hl:s<w.length
    ·rw [List.drop_eq_getElem_cons hl] at h1;injection h1 with h1 _
     exact h ⟨hl,by rw [h1,List.getD_eq_getElem?_getD,List.getElem?_eq_getElem hl];rfl⟩
    ·rw [List.drop_eq_nil_of_le (by omega)] at h1;cases h1
theorem Eh (w u:List UInt8):(Ca w).has u=true↔u=w:=by
 have:=Pf w u 0 (by omega);rw [List.drop_zero] at this;exact this
def Fx (t:Tbl):Tbl:=⟨t.cell,t.cells,t.nxt,t.acc.map (!·)⟩
theorem Rv {t:Tbl} (h:TVal t):TVal (Fx t) where
 pos:=h.pos
 accL:=by simp [Fx,h.accL]
 row:=h.row
 tgt:=h.tgt
 cell_lt:=h.cell_lt
 onto:=h.onto
theorem Rw {t:Tbl} (h:TVal t) (w:List UInt8):(Fx t).has w=!t.has w:=by
 have hr:∀ (w:List UInt8) s,(Fx t).run s w=t.run s w:=fun _ _=>rfl
 unfold Tbl.has;rw [hr];have hlt:=h.run_lt w h.pos;unfold Tbl.ok Fx;rw [List.getD_eq_getElem?_getD,List.getElem?_map,List.getElem?_eq_getElem (by rw [h.accL];exact hlt),List.getD_eq_getElem?_getD,List.getElem?_eq_getElem (by rw [h.accL];exact hlt)];rfl
def Cc (L:List Cls) (p:Cls→Bool):Dfa:=⟨L,[L.map fun k=>if p k then 1 else 2,L.map fun _=>2,L.map fun _=>2],[false,true,false]⟩
theorem Ac8 {L:List Cls} (hL:Parts L) (p:Cls→Bool):Val (Cc L p) where
 pos:=by simp [Cc]
 accL:=rfl
 row:=fun s hs=>by
  have:s<3:=hs
  match s,this with
  | 0,_=>simp [Cc]
  | 1,_=>simp [Cc]
  | 2,_=>simp [Cc]
 tgt:=fun s hs k hk=>by
  have hs:s<3:=hs;have hk:k<L.length:=hk;show (Cc L p).ent2 s k<3;unfold Dfa.ent2 Cc
  match s,hs with
  | 0,_=>simp [List.getD_eq_getElem?_getD,hk];split<;>omega
  | 1,_=>simp [List.getD_eq_getElem?_getD,hk]
  | 2,_=>simp [List.getD_eq_getElem?_getD,hk]
 parts:=hL
theorem Ac9 {L:List Cls} (hL:Parts L) (p:Cls→Bool) (c:Cls) (hp:∀ b,b<256→(p (L.getD (Aj L b) 0#256)=true↔c.getLsbD b=true)) (w:List UInt8):(Cc L p).has w=true↔∃ x:UInt8,w=[x]∧c.getLsbD x.toNat=true:=by
 have s0:∀ b,b<256→(Cc L p).stp 0 b=if p (L.getD (Aj L b) 0#256) then 1 else 2:=fun b hb=>by
  have hk:=cell_lt hL hb;show ((L.map fun k=>if p k then 1 else 2).getD (Aj L b) 0)=_;simp only [List.getD_eq_getElem?_getD,List.getElem?_map,List.getElem?_eq_getElem hk,Option.map_some,Option.getD_some]
 have s1:∀ b,b<256→(Cc L p).stp 1 b=2:=fun b hb=>by
  have hk:=cell_lt hL hb;show ((L.map fun _=>2).getD (Aj L b) 0)=_;simp only [List.getD_eq_getElem?_getD,List.getElem?_map,List.getElem?_eq_getElem hk,Option.map_some,Option.getD_some]
 have s2:∀ b,b<256→(Cc L p).stp 2 b=2:=fun b hb=>by
  have hk:=cell_lt hL hb;show ((L.map fun _=>2).getD (Aj L b) 0)=_;simp only [List.getD_eq_getElem?_getD,List.getElem?_map,List.getElem?_eq_getElem hk,Option.map_some,Option.getD_some]
 have dead:∀ u:List UInt8,(Cc L p).run 2 u=2:=fun u=>by
  induction u with
  | nil=>rfl
  | cons x u ih=>
   show (Cc L p).run ((Cc L p).stp 2 x.toNat) u=2;rw [s2 _ x.toNat_lt];exact ih
 match w with
 | []=>
  constructor
  ·intro h;exact absurd h (by show ¬ (false=true);decide)
  ·rintro ⟨x,h,_⟩;cases h
 | x::u=>
  show (Cc L p).ok ((Cc L p).run ((Cc L p).stp 0 x.toNat) u)=true↔_;rw [s0 _ x.toNat_lt];have hx:=hp _ x.toNat_lt;cases hc:p (L.getD (Aj L x.toNat) 0#256)
  ·simp only [Bool.false_eq_true,if_false];rw [dead];constructor
   ·intro h;exact absurd h (by show ¬ (false=true);decide)
   ·rintro ⟨y,h,hy⟩;injection h with h1 h2
    subst h1;rw [hc] at hx;exact absurd (hx.2 hy) (by decide)
  ·simp only [if_true]
   match u with
   | []=>
    constructor
    ·intro _;exact ⟨x,rfl,hx.1 hc⟩
    ·intro _;rfl
   | y::v=>
    show (Cc L p).ok ((Cc L p).run ((Cc L p).stp 1 y.toNat) v)=true↔_;rw [s1 _ y.toNat_lt,dead];constructor
    ·intro h;exact absurd h (by show ¬ (false=true);decide)
    ·rintro ⟨z,h,_⟩;injection h with _ h;cases h
def Cn (c:Cls) (a:Bool):Dfa:=⟨[c],[[0]],[a]⟩
theorem Rl (c:Cls) (hc:∀ b,b<256→c.getLsbD b=true) (a:Bool) (w:List UInt8):(Cn c a).has w=a:=by
 have s0:∀ b,b<256→(Cn c a).stp 0 b=0:=fun b hb=>by
  unfold Dfa.stp Dfa.ent2 Cn;have:Aj [c] b=0:=by unfold Aj;simp [hc b hb]
  rw [this];rfl
 have:∀ w:List UInt8,(Cn c a).run 0 w=0:=fun w=>by
  induction w with
  | nil=>rfl
  | cons x u ih=>
   show (Cn c a).run ((Cn c a).stp 0 x.toNat) u=0;rw [s0 _ x.toNat_lt];exact ih
 unfold Dfa.has;rw [this];rfl
theorem J9 (c:Cls) (hc:∀ b,b<256→c.getLsbD b=true) (a:Bool):Cano (Cn c a) where
 val:=by
  refine ⟨by simp [Cn],rfl,fun s hs=>?_,fun s hs k hk=>?_,⟨fun x hx=>?_,by simp [Cn],fun i hi=>⟨c,by simp [Cn],hc i hi⟩⟩⟩
  ·have:s<1:=hs;obtain rfl:s=0:=by omega
   rfl
  ·have:s<1:=hs;have hk:k<1:=hk;obtain rfl:s=0:=by omega
   obtain rfl:k=0:=by omega
   show (0:Nat)<1;omega
  ·simp [Cn] at hx;subst hx;exact Fd (hc 0 (by omega))
 reach:=fun s hs=>⟨[],by have:s<1:=hs;show 0=s;omega⟩
 red:=fun s t hs ht _=>by have:s<1:=hs;have:t<1:=ht;omega
 col:=fun i j hi hj _=>by have:i<1:=hi;have:j<1:=hj;omega
 srt:=by simp [Cn]
 rgf:=fun p hp=>by
  have:p<1*1:=hp;obtain rfl:p=0:=by omega
  have:(Cn c a).ent 0=0:=by simp [Dfa.ent,Dfa.ent2,Cn]
  rw [this];omega
def B7 {σ:Type} (nx:σ→Nat→σ) (st:σ) (m:Nat):Prop:=∃ l:List σ,l.Nodup∧(∀ s,s∈l→∃ w,Ar nx st w=s)∧m<l.length
theorem Il {σ:Type} [DecidableEq σ] {nx:σ→Nat→σ} {st:σ} {m:Nat} (M:List σ) (hM:∀ w,Ar nx st w∈M) (hm:M.length≤m):¬ B7 nx st m:=by
 rintro ⟨l,hn,hr,hl⟩;have:=C2 l M hn fun s hs=>by
  obtain ⟨w,rfl⟩:=hr s hs;exact hM w
 omega
def Lim (L:List UInt8→Prop):Option Dfa→Prop
 | some d=>Cano d∧(∀ w,d.has w=true↔L w)∧d.nxt.length≤64
 | none=>∃ d,Cano d∧(∀ w,d.has w=true↔L w)∧64<d.nxt.length
theorem Gz {L M:List UInt8→Prop} {r:Option Dfa} (h:Lim L r) (hLM:∀ w,L w↔M w):Lim M r:=by
 rw [show M=L from funext fun w=>propext (hLM w).symm];exact h
def Ed (a b:Dfa) (r:Option Dfa):Prop:=∃ x y,Cano x∧Cano y∧(∀ w,x.has w=a.has w)∧(∀ w,y.has w=b.has w)∧
 (B7 (cnx (Ae x) (Ae y)) (cst (Ae x)) 4096→r=none)∧(¬ B7 (cnx (Ae x) (Ae y)) (cst (Ae x)) 4096→Lim (Cat (fun w=>a.has w=true) fun w=>b.has w=true) r)
def Hp (a:Dfa) (r:Option Dfa):Prop:=∃ x,Cano x∧(∀ w,x.has w=a.has w)∧
 (B7 (snx (Ae x)) (1,1) 4096→r=none)∧(¬ B7 (snx (Ae x)) (1,1) 4096→Lim (Star fun w=>a.has w=true) r)
theorem Lz {y:Tbl} (hy:TVal y) (S c:Nat) (hc:c<256):∀ n,n≤y.nxt.length→Ap y S c n<2 ^ y.nxt.length
 | 0,_=>Nat.two_pow_pos _
 | n+1,h=>by
  have ih:=Lz hy S c hc n (by omega);simp only [Ap];split
  ·exact Nat.or_lt_two_pow ih (Nat.pow_lt_pow_right (by omega) (hy.stp_lt (by omega) hc))
  ·exact ih
theorem Rj {S m:Nat} (hm:0<m) (h:S<2 ^ m):S ||| 1<2 ^ m:=Nat.or_lt_two_pow h (by
 have:=Nat.pow_lt_pow_right (show 1<2 by omega) hm
 simpa using this)
theorem Uo {x y:Tbl} (hx:TVal x) (hy:TVal y) (w:List UInt8):(Ar (cnx x y) (cst x) w).1<x.nxt.length∧(Ar (cnx x y) (cst x) w).2<2 ^ y.nxt.length:=by
 have hc:∀ p S,p<x.nxt.length→S<2 ^ y.nxt.length→(E5 x p S).1<x.nxt.length∧(E5 x p S).2<2 ^ y.nxt.length:=fun p S hp hS=>by
  refine ⟨hp,?_⟩;unfold E5;simp only;split
  ·exact Rj hy.pos hS
  ·exact hS
 induction w using Du with
 | h0=>exact hc 0 0 hx.pos (Nat.two_pow_pos _)
 | h1 w b ih=>
  rw [D6];exact hc _ _ (hx.stp_lt ih.1 b.toNat_lt) (Lz hy _ _ b.toNat_lt _ (Nat.le_refl _))
theorem P1 {x:Tbl} (hx:TVal x) (w:List UInt8):(Ar (snx x) (1,1) w).1<2∧(Ar (snx x) (1,1) w).2<2 ^ x.nxt.length:=by
 induction w using Du with
 | h0=>
  refine ⟨by show 1<2;omega,?_⟩;have:=Nat.pow_lt_pow_right (show 1<2 by omega) hx.pos;show 1<_
  simpa using this
 | h1 w b ih=>
  rw [D6];refine ⟨by show 0<2;omega,?_⟩;unfold snx;have:=Lz hx (Ar (snx x) (1,1) w).2 b.toNat b.toNat_lt _ (Nat.le_refl _);simp only;split
  ·exact Rj hx.pos this
  ·exact this
def box (n m:Nat):List (Nat × Nat):=(List.range n).flatMap fun p=>(List.range m).map fun q=>(p,q)
theorem Jb (n m:Nat):(box n m).length=n*m:=by
 unfold box;rw [List.length_flatMap];simp only [List.length_map,List.length_range];rw [Gl,List.length_range]
theorem Ja {n m:Nat} {s:Nat × Nat} (h1:s.1<n) (h2:s.2<m):s∈box n m:=by
 unfold box;rw [List.mem_flatMap];exact ⟨s.1,List.mem_range.2 h1,List.mem_map.2 ⟨s.2,List.mem_range.2 h2,rfl⟩⟩
theorem Agj {x y:Tbl} (hx:TVal x) (hy:TVal y) (h:x.nxt.length*2 ^ y.nxt.length≤4096):¬ B7 (cnx x y) (cst x) 4096:=
 Il (box x.nxt.length (2 ^ y.nxt.length)) (fun w=>Ja (Uo hx hy w).1 (Uo hx hy w).2) (by rw [Jb];exact h)
theorem Xm {x:Tbl} (hx:TVal x) (h:2*2 ^ x.nxt.length≤4096):¬ B7 (snx x) (1,1) 4096:=
 Il (box 2 (2 ^ x.nxt.length)) (fun w=>Ja (P1 hx w).1 (P1 hx w).2) (by rw [Jb];exact h)
theorem Q4 {x y:Tbl} (hx:TVal x) (hy:TVal y) {g:Bool→Bool→Bool} {d:Dfa} (hd:Cano d) (h:∀ w,d.has w=g (x.has w) (y.has w)):d.nxt.length≤x.nxt.length*y.nxt.length:=by
 rw [← Jb];refine Fl hd (fun w=>(x.run 0 w,y.run 0 w)) (fun w w' e u=>?_) _ fun w=>Ja (hx.run_lt w hx.pos) (hy.run_lt w hy.pos)
 injection e with e1 e2
 rw [h,h];unfold Tbl.has;rw [Cx,Cx,Cx,Cx,e1,e2]
theorem Za {d:Dfa} (hd:Val d) (h64:d.nxt.length≤64) (m:Nat) (M:List (List Bool)) (hM:∀ w:List UInt8,((List.range d.nxt.length).map fun s=>d.ok (d.run s w.reverse))∈M) (hm:M.length≤m):¬ B7 (rnx d) (rst d) m:=by
 rintro ⟨l,hn,hr,hl⟩;have hl':(l.map fun S=>(List.range d.nxt.length).map fun s=>S.getD s false).Nodup:=by
  rw [List.nodup_iff_pairwise_ne,List.pairwise_map];refine List.Pairwise.imp_of_mem (fun {a b} ha hb hab e=>hab ?_) (List.nodup_iff_pairwise_ne.1 hn);obtain ⟨w,rfl⟩:=hr a ha;obtain ⟨w',rfl⟩:=hr b hb;refine (Y8 hd h64 w w').2 fun s hs=>?_
  have:=congrArg (fun l=>l.getD s false) e;simp only [Ci _ _ _ _ hs] at this;rw [Fb hd h64 w s hs,Fb hd h64 w' s hs] at this;exact this
 have:=C2 _ M hl' fun S hS=>by
  obtain ⟨T,hT,rfl⟩:=List.mem_map.1 hS;obtain ⟨w,rfl⟩:=hr T hT;rw [show ((List.range d.nxt.length).map fun s=>(Ar (rnx d) (rst d) w).getD s false)=(List.range d.nxt.length).map fun s=>d.ok (d.run s w.reverse) from
   List.map_congr_left fun s hs=>Fb hd h64 w s (List.mem_range.1 hs)]
  exact hM w
 rw [List.length_map] at this;omega
abbrev Ay:=List UInt8→Prop
theorem Ga {L L' M M':Ay} (h:∀ w,L w↔L' w) (k:∀ w,M w↔M' w) (w:List UInt8):Cat L M w↔Cat L' M' w:=by
 unfold Cat;constructor
 ·rintro ⟨u,v,e,hu,hv⟩;exact ⟨u,v,e,(h u).1 hu,(k v).1 hv⟩
 ·rintro ⟨u,v,e,hu,hv⟩;exact ⟨u,v,e,(h u).2 hu,(k v).2 hv⟩
theorem Ur (L M N:Ay) (w:List UInt8):Cat (Cat L M) N w↔Cat L (Cat M N) w:=by
 constructor
 ·rintro ⟨_,v,rfl,⟨a,b,rfl,ha,hb⟩,hv⟩;exact ⟨a,b++v,by simp,ha,b,v,rfl,hb,hv⟩
 ·rintro ⟨a,_,rfl,ha,b,v,rfl,hb,hv⟩;exact ⟨a++b,v,by simp,⟨a,b,rfl,ha,hb⟩,hv⟩
theorem K8 (L:Ay) (w:List UInt8):Cat (fun u=>u=[]) L w↔L w:=by
 constructor
 ·rintro ⟨u,v,rfl,rfl,hv⟩;simpa using hv
 ·intro h;exact ⟨[],w,rfl,rfl,h⟩
theorem Oj (L:Ay) (w:List UInt8):Cat L (fun u=>u=[]) w↔L w:=by
 constructor
 ·rintro ⟨u,v,rfl,hu,rfl⟩;simpa using hu
 ·intro h;exact ⟨w,[],by simp,h,rfl⟩
def pwc (P L:Ay):Nat→Ay
 | 0=>P
 | n+1=>pwc (Cat P L) L n
theorem Qz {P P' L L':Ay} (h:∀ w,P w↔P' w) (k:∀ w,L w↔L' w) (n:Nat) (w:List UInt8):pwc P L n w↔pwc P' L' n w:=by
 rw [show P=P' from funext fun w=>propext (h w),show L=L' from funext fun w=>propext (k w)]
theorem Q0 (A P L:Ay):∀ (n:Nat) (w:List UInt8),pwc (Cat A P) L n w↔Cat A (pwc P L n) w
 | 0,w=>Iff.rfl
 | n+1,w=>by
  show pwc (Cat (Cat A P) L) L n w↔Cat A (pwc (Cat P L) L n) w;rw [← Q0 A (Cat P L) L n w];exact Qz (fun w=>Ur A P L w) (fun _=>Iff.rfl) n w
def pw (L:Ay) (n:Nat):Ay:=pwc (fun w=>w=[]) L n
theorem Qy (P L:Ay) (n:Nat) (w:List UInt8):pwc P L n w↔Cat P (pw L n) w:=by
 rw [pw,← Q0];exact Qz (fun w=>(Oj P w).symm) (fun _=>Iff.rfl) n w
theorem Ey (L:Ay) (n:Nat) (w:List UInt8):pw L (n+1) w↔Cat L (pw L n) w:=by
 show pwc (Cat (fun w=>w=[]) L) L n w↔_;rw [Qy];exact Ga (K8 L) (fun _=>Iff.rfl) w
theorem Fw (L:Ay):∀ (m n:Nat) (w:List UInt8),pw L (m+n) w↔Cat (pw L m) (pw L n) w
 | 0,n,w=>by rw [Nat.zero_add];exact (K8 _ w).symm
 | m+1,n,w=>by
  rw [show m+1+n=(m+n)+1 by omega,Ey];rw [Ga (fun _=>Iff.rfl) (Fw L m n) w,← Ur];exact Ga (fun w=>(Ey L m w).symm) (fun _=>Iff.rfl) w
theorem J4 (L:Ay):∀ (n:Nat) (w:List UInt8),pw (fun w=>L w∨w=[]) n w↔∃ k,k≤n∧pw L k w
 | 0,w=>by
  constructor
  ·intro h;exact ⟨0,by omega,h⟩
  ·rintro ⟨k,hk,h⟩;obtain rfl:k=0:=by omega
   exact h
 | n+1,w=>by
  rw [Ey];constructor
  ·rintro ⟨u,v,rfl,hu,hv⟩;obtain ⟨k,hk,h⟩:=(J4 L n v).1 hv;rcases hu with hu|rfl
   ·exact ⟨k+1,by omega,(Ey L k _).2 ⟨u,v,rfl,hu,h⟩⟩
   ·exact ⟨k,by omega,by simpa using h⟩
  ·rintro ⟨k,hk,h⟩;by_cases e:k=n+1
   ·subst e;obtain ⟨u,v,rfl,hu,hv⟩:=(Ey L n w).1 h;exact ⟨u,v,rfl,.inl hu,(J4 L n v).2 ⟨n,by omega,hv⟩⟩
   ·exact ⟨[],w,rfl,.inr rfl,(J4 L n w).2 ⟨k,by omega,h⟩⟩
theorem Pz (L:Ay) (w:List UInt8):Star L w↔∃ k,pw L k w:=by
 constructor
 ·intro h;induction h with
  | nil=>exact ⟨0,rfl⟩
  | app hu hv ih=>
   obtain ⟨k,hk⟩:=ih;refine ⟨k+1,(Fw L k 1 _).2 ⟨_,_,rfl,hk,?_⟩⟩;rw [Ey];exact (Oj L _).2 hv
 ·rintro ⟨k,hk⟩;induction k generalizing w with
  | zero=>
   have:w=[]:=hk;subst this;exact .nil
  | succ k ih=>
   obtain ⟨u,v,rfl,hu,hv⟩:=(Fw L k 1 w).1 hk;have hv:L v:=by
    rw [Ey] at hv;exact (Oj L _).1 hv
   exact .app (ih u hu) hv
def rep (L:Ay) (lo:Nat) (hi:Int):Ay:=fun w=>∃ k,lo≤k∧(hi<0∨(k:Int)≤hi)∧pw L k w
structure RNode where
 kind:Nat
 l:Nat
 r:Nat
 c:Cls
 min:Nat
 max:Int
def Kb (n:RNode) (l:List Ay):Ay:=
 if n.kind=1 then fun _=>False else if n.kind=2 then fun w=>w=[] else if n.kind=3 then fun w=>∃ x:UInt8,w=[x]∧n.c.getLsbD x.toNat=true else
 if n.kind=4 then Cat (l.getD n.l fun _=>False) (l.getD n.r fun _=>False) else if n.kind=5 then fun w=>l.getD n.l (fun _=>False) w∨l.getD n.r (fun _=>False) w else
 if n.kind=6 then fun w=>l.getD n.l (fun _=>False) w∧l.getD n.r (fun _=>False) w else if n.kind=7 then fun w=>¬ l.getD n.l (fun _=>False) w else rep (l.getD n.l fun _=>False) n.min n.max
def Nq:List RNode→List Ay→List Ay
 | [],l=>l
 | n::x,l=>Nq x (l++[Kb n l])
def Et (L:Ay) (r:Option Dfa):Prop:=∃ d,r=some d∧Cano d∧∀ w,d.has w=true↔L w
def D5 (r:Option Dfa) (f:Dfa→Option Dfa→Prop) (q:Option Dfa):Prop:=match r with|none=>q=none|some d=>f d q
def Di (p d:Dfa):Nat→Option Dfa→Prop
 | 0,r=>r=some p
 | n+1,r=>∃ q,Ed p d q∧D5 q (fun p'=>Di p' d n) r
def Gf (d:Dfa) (lo:Nat) (hi:Int) (r:Option Dfa):Prop:=
 ∃ e,(Cano e∧∀ w,e.has w=true↔w=[])∧∃ q,Di e d lo q∧D5 q (fun p r=>if hi=lo then r=some p else
  if hi<0 then ∃ s,Hp d s∧D5 s (fun s r=>Ed p s r) r else ∃ o,Lim (fun w=>d.has w=true∨e.has w=true) o∧D5 o (fun o r=>Di p o (hi-lo).toNat r) r) r
def dN:Dfa:=⟨[],[],[]⟩
def Fp (n:RNode) (l:List Dfa) (r:Option Dfa):Prop:=
 if n.kind=1 then Et (fun _=>False) r else if n.kind=2 then Et (fun w=>w=[]) r else if n.kind=3 then Et (fun w=>∃ x:UInt8,w=[x]∧n.c.getLsbD x.toNat=true) r else
 if n.kind=4 then Ed (l.getD n.l dN) (l.getD n.r dN) r else if n.kind=5 then Lim (fun w=>(l.getD n.l dN).has w=true∨(l.getD n.r dN).has w=true) r else
 if n.kind=6 then Lim (fun w=>(l.getD n.l dN).has w=true∧(l.getD n.r dN).has w=true) r else if n.kind=7 then Et (fun w=>¬ (l.getD n.l dN).has w=true) r else Gf (l.getD n.l dN) n.min n.max r
def Ee:List RNode→List Dfa→Option Dfa→Prop
 | [],l,r=>r=some (l.getD (l.length-1) dN)
 | n::x,l,r=>∃ q,Fp n l q∧D5 q (fun d=>Ee x (l++[d])) r
def Fit (d:Dfa) (L:Ay):Prop:=Cano d∧∀ w,d.has w=true↔L w
theorem Sg {L:Ay} {d:Dfa} (h:Lim L (some d)):Fit d L:=⟨h.1,h.2.1⟩
theorem I7 {a b d:Dfa} {L M:Ay} (h:Ed a b (some d)) (ha:∀ w,a.has w=true↔L w) (hb:∀ w,b.has w=true↔M w):Fit d (Cat L M)∧d.nxt.length≤64:=by
 obtain ⟨x,y,hx,hy,ex,ey,h1,h2⟩:=h;by_cases hm:B7 (cnx (Ae x) (Ae y)) (cst (Ae x)) 4096
 ·cases h1 hm
 ·obtain ⟨k1,k2,k3⟩:=h2 hm;exact ⟨⟨k1,fun w=>(k2 w).trans (Ga ha hb w)⟩,k3⟩
theorem P3 {a d:Dfa} {L:Ay} (h:Hp a (some d)) (ha:∀ w,a.has w=true↔L w):Fit d (Star L)∧d.nxt.length≤64:=by
 obtain ⟨x,hx,ex,h1,h2⟩:=h;by_cases hm:B7 (snx (Ae x)) (1,1) 4096
 ·cases h1 hm
 ·obtain ⟨k1,k2,k3⟩:=h2 hm;refine ⟨⟨k1,fun w=>?_⟩,k3⟩;rw [k2,show L=fun w=>a.has w=true from funext fun w=>propext (ha w).symm]
theorem Ms {d:Dfa} {L:Ay} (hd:∀ w,d.has w=true↔L w):∀ (n:Nat) (p:Dfa) (P:Ay) (q:Dfa),Fit p P→Di p d n (some q)→Fit q (pwc P L n)
 | 0,p,P,q,hp,h=>by
  injection (show some q=some p from h) with h
  subst h;exact hp
 | n+1,p,P,q,hp,⟨q',h1,h2⟩=>by
  cases q' with
  | none=>cases (show some q=none from h2)
  | some p'=>exact Ms hd n p' (Cat P L) q (I7 h1 hp.2 hd).1 h2
theorem Zc {d q:Dfa} {L:Ay} {lo:Nat} {hi:Int} (hd:∀ w,d.has w=true↔L w) (hlh:hi<0∨(lo:Int)≤hi) (h:Gf d lo hi (some q)):Fit q (rep L lo hi):=by
 obtain ⟨e,he,p,h1,h2⟩:=h;cases p with
 | none=>cases (show some q=none from h2)
 | some p=>
  have hp:Fit p (pw L lo):=Ms hd lo e _ p ⟨he.1,he.2⟩ h1;change (if hi=(lo:Int) then _ else _) at h2
  by_cases c1:hi=lo
  ·rw [if_pos c1] at h2;injection h2 with h2
   subst h2;refine ⟨hp.1,fun w=>(hp.2 w).trans ?_⟩;constructor
   ·intro h;exact ⟨lo,Nat.le_refl _,.inr (by omega),h⟩
   ·rintro ⟨k,k1,k2,h⟩;obtain rfl:k=lo:=by omega
    exact h
  ·rw [if_neg c1] at h2;by_cases c2:hi<0
   ·rw [if_pos c2] at h2;obtain ⟨s,s1,s2⟩:=h2;cases s with
    | none=>cases (show some q=none from s2)
    | some s=>
     have hs:=(P3 s1 hd).1;have hq:=(I7 (show Ed p s (some q) from s2) hp.2 hs.2).1;refine ⟨hq.1,fun w=>(hq.2 w).trans ?_⟩;rw [Ga (fun _=>Iff.rfl) (Pz L) w];constructor
     ·rintro ⟨u,v,rfl,hu,k,hv⟩;exact ⟨lo+k,by omega,.inl c2,(Fw L lo k _).2 ⟨u,v,rfl,hu,hv⟩⟩
     ·rintro ⟨k,k1,_,h⟩;obtain ⟨m,rfl⟩:∃ m,k=lo+m:=⟨k-lo,by omega⟩;obtain ⟨u,v,rfl,hu,hv⟩:=(Fw L lo m w).1 h;exact ⟨u,v,rfl,hu,m,hv⟩
   ·rw [if_neg c2] at h2;obtain ⟨s,s1,s2⟩:=h2;cases s with
    | none=>cases (show some q=none from s2)
    | some s=>
     have hs:∀ w,s.has w=true↔L w∨w=[]:=fun w=>by
      refine (s1.2.1 w).trans ?_;show (d.has w=true∨e.has w=true)↔_;rw [hd,he.2]
     have hq:=Ms hs _ p _ q hp s2;refine ⟨hq.1,fun w=>(hq.2 w).trans ?_⟩;rw [Qy,Ga (fun _=>Iff.rfl) (J4 L _) w];constructor
     ·rintro ⟨u,v,rfl,hu,k,hk,hv⟩;exact ⟨lo+k,by omega,.inr (by omega),(Fw L lo k _).2 ⟨u,v,rfl,hu,hv⟩⟩
     ·rintro ⟨k,k1,k2,h⟩;obtain ⟨m,rfl⟩:∃ m,k=lo+m:=⟨k-lo,by omega⟩;obtain ⟨u,v,rfl,hu,hv⟩:=(Fw L lo m w).1 h;exact ⟨u,v,rfl,hu,m,by omega,hv⟩
def RNode.good (n:RNode) (i:Nat):Prop:=(n.kind=4∨n.kind=5∨n.kind=6→n.l<i∧n.r<i)∧(n.kind=7∨n.kind=8→n.l<i)∧(n.max<0∨(n.min:Int)≤n.max)∧1≤n.kind∧n.kind≤8
def Lr (ds:List Dfa) (ls:List Ay):Prop:=ds.length=ls.length∧∀ i,i<ds.length→Fit (ds.getD i dN) (ls.getD i fun _=>False)
theorem Abp {n:RNode} {ds:List Dfa} {ls:List Ay} (hf:Lr ds ls) (hg:n.good ds.length) {d:Dfa} (h:Fp n ds (some d)):Fit d (Kb n ls):=by
 obtain ⟨g1,g2,g3,g4,g5⟩:=hg;have can:∀ {L:Ay},Et L (some d)→Fit d L:=fun ⟨e,e1,e2,e3⟩=>by
  injection e1 with e1
  subst e1;exact ⟨e2,e3⟩
 unfold Fp at h;unfold Kb;split at h
 ·rename_i c;rw [if_pos c];exact can h
 rename_i c1;rw [if_neg c1]
 split at h
 ·rename_i c;rw [if_pos c];exact can h
 rename_i c2;rw [if_neg c2]
 split at h
 ·rename_i c;rw [if_pos c];exact can h
 rename_i c3;rw [if_neg c3]
 split at h
 ·rename_i c;rw [if_pos c]
  obtain ⟨hl,hr⟩:=g1 (.inl c);exact (I7 h (hf.2 _ hl).2 (hf.2 _ hr).2).1
 rename_i c4;rw [if_neg c4]
 split at h
 ·rename_i c;rw [if_pos c]
  obtain ⟨hl,hr⟩:=g1 (.inr (.inl c));refine ⟨h.1,fun w=>(h.2.1 w).trans ?_⟩;simp only;rw [(hf.2 _ hl).2,(hf.2 _ hr).2]
 rename_i c5;rw [if_neg c5]
 split at h
 ·rename_i c;rw [if_pos c]
  obtain ⟨hl,hr⟩:=g1 (.inr (.inr c));refine ⟨h.1,fun w=>(h.2.1 w).trans ?_⟩;simp only;rw [(hf.2 _ hl).2,(hf.2 _ hr).2]
 rename_i c6;rw [if_neg c6]
 split at h
 ·rename_i c;rw [if_pos c]
  have hl:=g2 (.inl c);have:=can h;refine ⟨this.1,fun w=>(this.2 w).trans ?_⟩;simp only;rw [(hf.2 _ hl).2]
 rename_i c7;rw [if_neg c7]
 have hl:=g2 (.inr (by omega));exact Zc (hf.2 _ hl).2 g3 h
theorem Iw {α:Type} (l:List α) (x d:α) (i:Nat):(l++[x]).getD i d=if i<l.length then l.getD i d else if i=l.length then x else d:=by
 by_cases h:i<l.length
 ·rw [if_pos h,Bk _ _ _ _ h]
 ·rw [if_neg h];by_cases e:i=l.length
  ·rw [if_pos e,e,B9]
  ·rw [if_neg e,List.getD_eq_getElem?_getD,List.getElem?_eq_none (by simp;omega)];rfl
theorem Aer {ds:List Dfa} {ls:List Ay} (h:Lr ds ls) {d:Dfa} {L:Ay} (hd:Fit d L):Lr (ds++[d]) (ls++[L]):=by
 refine ⟨by rw [List.length_append,List.length_append,h.1];rfl,fun i hi=>?_⟩;rw [List.length_append,List.length_singleton] at hi;rw [Iw,Iw,← h.1];by_cases e:i<ds.length
 ·rw [if_pos e,if_pos e];exact h.2 i e
 ·rw [if_neg e,if_neg e,if_pos (by omega),if_pos (by omega)];exact hd
def S7:List RNode→Nat→Prop
 | [],_=>True
 | n::x,i=>n.good i∧S7 x (i+1)
theorem U4:∀ (x:List RNode) (ds:List Dfa) (ls:List Ay),Lr ds ls→S7 x ds.length→(x=[]→0<ds.length)→∀ d,Ee x ds (some d)→Fit d ((Nq x ls).getD ((Nq x ls).length-1) fun _=>False)
 | [],ds,ls,hf,_,h0,d,h=>by
  injection (show some d=some _ from h) with h
  subst h;show Fit _ (ls.getD (ls.length-1) _);rw [← hf.1];exact hf.2 _ (by have:=h0 rfl;omega)
 | n::x,ds,ls,hf,hg,_,d,⟨q,h1,h2⟩=>by
  cases q with
  | none=>cases (show some d=none from h2)
  | some e=>
   have he:=Abp hf hg.1 h1;exact U4 x (ds++[e]) (ls++[Kb n ls]) (Aer hf he) (by rw [List.length_append];exact hg.2) (by intro _;simp) d h2
end Go.Proofs.YtaiogolidlamiaaGreatDoor
