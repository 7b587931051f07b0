import Derived.Test.YtaiogolidlamiaaGreatDoorM10
set_option linter.unusedVariables false
set_option linter.unusedSimpArgs false
namespace Go.Proofs.YtaiogolidlamiaaGreatDoor
section
variable {t:Tbl} {n:Nat} {B N R:List Nat} {f:List UInt8→Option Nat} {m:Nat}
theorem U8 (h:FInv (C2 t fun s=>B.getD s 0) n (fun s=>N.getD s 0) R f):Blk (List.range n) (fun s=>N.getD s 0) R∧∀ s∈List.range n,∀ s'∈List.range n,(N.getD s 0=N.getD s' 0↔C2 t (fun s=>B.getD s 0) s=C2 t (fun s=>B.getD s 0) s'):=
 ⟨⟨fun s hs=>h.lt s (List.mem_range.1 hs),fun i hi=>List.mem_range.2 (h.byte i hi).1,fun i hi=>(h.byte i hi).2⟩,fun s hs s' hs'=>h.same s s' (List.mem_range.1 hs) (List.mem_range.1 hs')⟩
theorem Agk (h:FInv (C2 t fun s=>B.getD s 0) n (fun s=>N.getD s 0) R f) (hn:0<n):N.getD 0 0=0:=by
 have h1:=h.first 0 hn;have h2:=h.lt 0 hn;rcases Nat.eq_zero_or_pos (N.getD 0 0) with e|e
 ·exact e
 ·have h1:R.getD (N.getD 0 0) 0≤0:=h1;have:=h.inc 0 (N.getD 0 0) e h2;omega
theorem Agb (hv:TVal t) (hl:Reached t (List.range n)) (h:OInv t (List.range n) B m) (hm:n≤65536) (hN:N.length=t.nxt.length)
  (hi:FInv (C2 t fun s=>B.getD s 0) n (fun s=>N.getD s 0) R f) (hne:R.length≠m):OInv t (List.range n) N R.length∧m<R.length:=by
 obtain ⟨hb,hs⟩:=U8 hi;have hr:F8 t (List.range n) (fun s=>B.getD s 0) (fun s=>N.getD s 0):=Ks hl h.lt hs;have hle:=Ma hb;rw [List.length_range] at hle;refine ⟨⟨hN,Ns hv hl h.refi hr hb,fun s hs=>?_,by rw [List.length_range];exact hle⟩,?_⟩
 ·have:=hb.lt s hs;show N.getD s 0<65536;omega
 ·have:=(Nt h.refi hr hb hl.ne).1;omega
theorem Agc (hv:TVal t) (hl:Reached t (List.range n)) (h:OInv t (List.range n) B m)
  (hi:FInv (C2 t fun s=>B.getD s 0) n (fun s=>N.getD s 0) R f) (he:R.length=m):Blocks t (List.range n) (fun s=>N.getD s 0) R:=by
 obtain ⟨hb,hs⟩:=U8 hi;have hr:F8 t (List.range n) (fun s=>B.getD s 0) (fun s=>N.getD s 0):=Ks hl h.lt hs;exact ⟨hb,Sj hv hl h.refi hr hb he⟩
end
structure Mrg (t:Tbl) (B:Nat→Nat) (n:Nat) (L:List Cls) (d:Dfa):Prop where
 cls:d.cls=L
 len:d.nxt.length=n
 acl:d.acc.length=n
 row:∀ s,s<t.nxt.length→(d.nxt.getD (B s) []).length=t.cells
 ent:∀ s,s<t.nxt.length→∀ k,k<t.cells→d.ent2 (B s) k=B (t.ent2 s k)
 acc:∀ s,s<t.nxt.length→d.ok (B s)=t.ok s
theorem Adw {t:Tbl} (hv:TVal t) {L:List Cls} (hL:Parts L) (hc:t.cells=L.length) (hcell:∀ b,b<256→t.cell b=Aj L b) {B:Nat→Nat} {R:List Nat} (hb:Blocks t (List.range t.nxt.length) B R) (h0:B 0=0) {d:Dfa} (h:Mrg t B R.length L d) :
  Val d∧∀ w,d.has w=t.has w:=by
 have hR:∀ i,i<R.length→∃ s,s<t.nxt.length∧B s=i:=fun i hi=>⟨_,List.mem_range.1 (hb.blk.mem i hi),hb.blk.rep i hi⟩
 have hval:Val d:=by
  refine ⟨?_,by rw [h.acl,h.len],fun i hi=>?_,fun i hi k hk=>?_,by rw [h.cls];exact hL⟩
  ·rw [h.len];have:=hb.blk.lt 0 (List.mem_range.2 hv.pos);omega
  ·rw [h.len] at hi;obtain ⟨s,hs,rfl⟩:=hR i hi;rw [h.row s hs,h.cls,hc]
  ·rw [h.len] at hi ⊢;rw [h.cls,← hc] at hk;obtain ⟨s,hs,rfl⟩:=hR i hi;rw [h.ent s hs k hk];exact hb.blk.lt _ (List.mem_range.2 (hv.tgt s hs k hk))
 refine ⟨hval,fun w=>?_⟩;have hrun:∀ (w:List UInt8) s,s<t.nxt.length→d.run (B s) w=B (t.run s w):=fun w=>by
  induction w with
  | nil=>intro s _;rfl
  | cons x w ih=>
   intro s hs;show d.run (d.stp (B s) x.toNat) w=B (t.run (t.stp s x.toNat) w);have h1:d.stp (B s) x.toNat=B (t.stp s x.toNat):=by
    unfold Dfa.stp Tbl.stp;rw [h.cls,← hcell _ x.toNat_lt];exact h.ent s hs _ (hv.cell_lt _ x.toNat_lt)
   rw [h1];exact ih _ (hv.stp_lt hs x.toNat_lt)
 unfold Dfa.has;have:=hrun w 0 hv.pos;rw [h0] at this;rw [this];exact h.acc _ (hv.run_lt w hv.pos)
theorem Ai3 {t:Tbl} (hv:TVal t) {R:List Nat} {B:Nat→Nat} {l:List Nat} (hl:Reached t l) (hb:Blocks t l B R) {e:Dfa} (he:Cano e) (h:∀ w,e.has w=t.has w):e.nxt.length=R.length:=by
 have h1:e.nxt.length≤R.length:=by
  have:=F3 he (fun w=>B (t.run 0 w)) (fun w w' hw u=>by
   rw [h,h];unfold Tbl.has;rw [Cz,Cz];exact ((hb.leq _ (hl.run hv w hl.zero) _ (hl.run hv w' hl.zero)).1 hw) u) (List.range R.length) fun w=>List.mem_range.2 (hb.blk.lt _ (hl.run hv w hl.zero))
  simpa using this
 have h2:R.length≤e.nxt.length:=by
  classical
  have hw:∀ s:Nat,∃ w,s∈l→t.run 0 w=s:=fun s=>by
   by_cases hs:s∈l
   ·obtain ⟨w,hw⟩:=hl.all s hs;exact ⟨w,fun _=>hw⟩
   ·exact ⟨[],fun h=>absurd h hs⟩
  have:=P3 he.val ((List.range R.length).map fun i=>(hw (R.getD i 0)).choose) (by
   rw [List.pairwise_map];refine List.Pairwise.imp_of_mem (fun {i j} hi hj hij=>?_) (List.nodup_iff_pairwise_ne.1 List.nodup_range);have hi:=List.mem_range.1 hi;have hj:=List.mem_range.1 hj;refine Classical.byContradiction fun hx=>hij ?_
   have hx:∀ x,e.has ((hw (R.getD i 0)).choose++x)=e.has ((hw (R.getD j 0)).choose++x):=fun x=>Classical.byContradiction fun hne=>hx ⟨x,hne⟩
   rw [← hb.blk.rep i hi,← hb.blk.rep j hj];refine (hb.leq _ (hb.blk.mem i hi) _ (hb.blk.mem j hj)).2 fun x=>?_
   have:=hx x;rw [h,h] at this;unfold Tbl.has at this;rw [Cz,Cz,(hw (R.getD i 0)).choose_spec (hb.blk.mem i hi),(hw (R.getD j 0)).choose_spec (hb.blk.mem j hj)] at this;exact this)
  simpa using this
 omega
def rnx (d:Dfa) (S:List Bool) (x:Nat):List Bool:=(List.range 64).map fun s=>decide (s<d.nxt.length)&&S.getD (d.stp s x) false
def rst (d:Dfa):List Bool:=(List.range 64).map fun s=>d.ok s
theorem Nj (d:Dfa) (S:List Bool) (x:Nat):(rnx d S x).length=64:=by simp [rnx]
theorem Iw (d:Dfa):(rst d).length=64:=by simp [rst]
theorem La (g:Nat→Bool) (s:Nat) (hs:s<64):((List.range 64).map g).getD s false=g s:=by
 simp [List.getD_eq_getElem?_getD,hs]
theorem Ft {d:Dfa} (hd:Val d) (h64:d.nxt.length≤64) (w:List UInt8) (s:Nat) (hs:s<d.nxt.length):(At (rnx d) (rst d) w).getD s false=d.ok (d.run s w.reverse):=by
 revert s
 induction w using Ek with
 | h0=>intro s hs;exact La _ s (by omega)
 | h1 w x ih=>
  intro s hs;rw [Eh,rnx,La _ s (by omega)];simp only [hs,decide_true,Bool.true_and];rw [ih _ (hd.stp_lt hs x.toNat_lt),List.reverse_append];rfl
theorem Se {d:Dfa} (w:List UInt8):(At (rnx d) (rst d) w).length=64:=by
 induction w using Ek with
 | h0=>exact Iw d
 | h1 w x ih=>rw [Eh];exact Nj _ _ _
theorem Sf {d:Dfa} (hd:Val d) (w:List UInt8) (s:Nat) (hs:d.nxt.length≤s):(At (rnx d) (rst d) w).getD s false=false:=by
 induction w using Ek with
 | h0=>
  by_cases h:s<64
  ·show ((List.range 64).map _).getD s false=false;rw [La _ s h];unfold Dfa.ok;rw [List.getD_eq_getElem?_getD,List.getElem?_eq_none (by rw [hd.accL];exact hs)];rfl
  ·rw [List.getD_eq_getElem?_getD,List.getElem?_eq_none (by show (rst d).length≤s;rw [Iw];omega)];rfl
 | h1 w x ih=>
  rw [Eh];by_cases h:s<64
  ·rw [rnx,La _ s h];have:¬ s<d.nxt.length:=by omega
   simp [this]
  ·rw [List.getD_eq_getElem?_getD,List.getElem?_eq_none (by rw [Nj];omega)];rfl
theorem Aaz {d:Dfa} (hd:Val d) (h64:d.nxt.length≤64) (w w':List UInt8):At (rnx d) (rst d) w=At (rnx d) (rst d) w'↔∀ s,s<d.nxt.length→d.ok (d.run s w.reverse)=d.ok (d.run s w'.reverse):=by
 constructor
 ·intro h s hs;rw [← Ft hd h64 w s hs,← Ft hd h64 w' s hs,h]
 ·intro h;refine List.ext_getElem? fun s=>?_
  have e:∀ w:List UInt8,(At (rnx d) (rst d) w)[s]? = if s<64 then some ((At (rnx d) (rst d) w).getD s false) else none:=fun w=>by
   by_cases h1:s<64
   ·rw [if_pos h1,List.getD_eq_getElem?_getD,List.getElem?_eq_getElem (by rw [Se];exact h1)];rfl
   ·rw [if_neg h1,List.getElem?_eq_none (by rw [Se];omega)]
  rw [e,e];by_cases hs:s<d.nxt.length
  ·rw [Ft hd h64 w s hs,Ft hd h64 w' s hs,h s hs]
  ·rw [Sf hd w s (by omega),Sf hd w' s (by omega)]
theorem Aa0 {d:Dfa} (hd:Val d) (h64:d.nxt.length≤64) {c:Nat→Nat} {bs:List Nat} {l:List (List Bool)} {t:Tbl} (h:Expl c bs (rst d) (rnx d) (fun S=>S.getD 0 false) l t) {a b:Nat→Nat} (hj:Joint a b c bs)
  (hn:∀ x,x<256→Aj d.cls (bs.getD (c x) 0)=Aj d.cls x) (w:List UInt8):t.has w=d.has w.reverse:=by
 rw [h.has hj (fun s x hx=>by unfold rnx Dfa.stp;rw [hn x hx]) w];exact Ft hd h64 w 0 hd.pos
def Bm (L:List UInt8→Bool):Nat→List (List UInt8)
 | 0=>if L [] then [[]] else []
 | n+1=>(List.range 256).flatMap fun b=>(Bm (fun w=>L (UInt8.ofNat b::w)) n).map (UInt8.ofNat b::·)
def Bp (L:List UInt8→Bool) (n:Nat):Nat:=(Bm L n).length
def Lex (u v:List UInt8):Prop:=∃ p a b u' v',u=p++a::u'∧v=p++b::v'∧a.toNat<b.toNat
theorem G2:∀ (n:Nat) (L:List UInt8→Bool) (w:List UInt8),w∈Bm L n↔w.length=n∧L w=true
 | 0,L,w=>by
  unfold Bm;cases h:L []
  ·simp only [Bool.false_eq_true,if_false,List.not_mem_nil,false_iff];rintro ⟨h1,h2⟩;rw [List.eq_nil_of_length_eq_zero h1,h] at h2;cases h2
  ·simp only [if_true,List.mem_singleton];constructor
   ·rintro rfl;exact ⟨rfl,h⟩
   ·rintro ⟨h1,_⟩;exact List.eq_nil_of_length_eq_zero h1
 | n+1,L,w=>by
  unfold Bm;simp only [List.mem_flatMap,List.mem_range,List.mem_map];constructor
  ·rintro ⟨b,hb,v,hv,rfl⟩;obtain ⟨h1,h2⟩:=(G2 n _ v).1 hv;exact ⟨by rw [List.length_cons,h1],h2⟩
  ·rintro ⟨h1,h2⟩;cases w with
   | nil=>simp at h1
   | cons x w=>
    have hx:UInt8.ofNat x.toNat=x:=by simp
    refine ⟨x.toNat,x.toNat_lt,w,(G2 n _ w).2 ⟨by simpa using h1,by rw [hx];exact h2⟩,by rw [hx]⟩
theorem Qu:∀ (n:Nat) (L:List UInt8→Bool),(Bm L n).Pairwise Lex
 | 0,L=>by unfold Bm;split<;>simp
 | n+1,L=>by
  unfold Bm;rw [List.pairwise_flatMap];refine ⟨fun b _=>?_,?_⟩
  ·rw [List.pairwise_map];refine (Qu n _).imp fun {u v} h=>?_
   obtain ⟨p,a,c,u',v',rfl,rfl,hlt⟩:=h;exact ⟨UInt8.ofNat b::p,a,c,u',v',rfl,rfl,hlt⟩
  ·refine List.Pairwise.imp_of_mem (fun {a b} ha hb hab=>?_) List.pairwise_lt_range;intro u hu v hv;obtain ⟨u',_,rfl⟩:=List.mem_map.1 hu;obtain ⟨v',_,rfl⟩:=List.mem_map.1 hv;exact ⟨[],_,_,u',v',rfl,rfl,by rw [u8n _ (List.mem_range.1 ha),u8n _ (List.mem_range.1 hb)];exact hab⟩
theorem X3:∀ (n:Nat) {L M:List UInt8→Bool},(∀ w,L w=M w)→Bm L n=Bm M n:=fun n L M h=>by rw [show L=M from funext h]
theorem Pt (L:List UInt8→Bool):Bp L 0=if L [] then 1 else 0:=by unfold Bp Bm;split<;>rfl
theorem Pu (L:List UInt8→Bool) (n:Nat):Bp L (n+1)=((List.range 256).map fun b=>Bp (fun w=>L (UInt8.ofNat b::w)) n).sum:=by
 unfold Bp;rw [Bm,List.length_flatMap];simp
theorem M6 {α:Type} (f g:α→Nat):∀ l:List α,(l.map fun x=>f x+g x).sum=(l.map f).sum+(l.map g).sum
 | []=>rfl
 | a::l=>by simp only [List.map_cons,List.sum_cons,M6 f g l];omega
theorem Hb {α:Type} (k:Nat):∀ l:List α,(l.map fun _=>k).sum=l.length*k
 | []=>by simp
 | a::l=>by simp only [List.map_cons,List.sum_cons,Hb k l,List.length_cons,Nat.add_mul];omega
theorem V3:∀ (n:Nat) (L:List UInt8→Bool),Bp L n+Bp (fun w=>!L w) n=256 ^ n
 | 0,L=>by rw [Pt,Pt];cases L []<;>rfl
 | n+1,L=>by
  rw [Pu,Pu,← M6];rw [show (fun b=>Bp (fun w=>L (UInt8.ofNat b::w)) n+Bp (fun w=>!L (UInt8.ofNat b::w)) n)=fun _:Nat=>256 ^ n from funext fun b=>V3 n _];rw [Hb,List.length_range,Nat.pow_succ];omega
def Bq (d:Dfa):Nat→Nat→Nat
 | 0,s=>if d.ok s then 1 else 0
 | n+1,s=>((List.range d.cls.length).map fun k=>sz (d.cls.getD k 0#256)*Bq d n (d.ent2 s k)).sum
theorem Vz (p:Nat→Bool):∀ n,cnt p n=((List.range n).map fun b=>if p b then 1 else 0).sum
 | 0=>rfl
 | n+1=>by
  rw [cnt,Vz p n,List.range_succ,List.map_append,List.sum_append];simp
theorem Rj {α β:Type} (f:α→β→Nat) (l:List α):∀ m:List β,(l.map fun a=>(m.map fun b=>f a b).sum).sum=(m.map fun b=>(l.map fun a=>f a b).sum).sum
 | []=>by simp [Hb]
 | b::m=>by
  simp only [List.map_cons,List.sum_cons];rw [M6,Rj f l m]
theorem Rk (g:Nat→Nat) (j:Nat):∀ n,j<n→((List.range n).map fun k=>if j=k then g k else 0).sum=g j
 | 0,h=>by omega
 | n+1,h=>by
  rw [List.range_succ,List.map_append,List.sum_append];by_cases e:j=n
  ·subst e;have:((List.range j).map fun k=>if j=k then g k else 0)=(List.range j).map fun _=>0:=
    List.map_congr_left fun k hk=>by rw [if_neg];have:=List.mem_range.1 hk;omega
   rw [this,Hb];simp
  ·rw [Rk g j n (by omega)];simp [e]
theorem Rl (k:Nat) {α:Type} (f:α→Nat):∀ l:List α,(l.map f).sum*k=(l.map fun a=>f a*k).sum
 | []=>by simp
 | a::l=>by simp only [List.map_cons,List.sum_cons,Nat.add_mul,Rl k f l]
theorem Yz {L:List Cls} (hL:Parts L) (g:Nat→Nat):((List.range 256).map fun b=>g (Aj L b)).sum=((List.range L.length).map fun k=>sz (L.getD k 0#256)*g k).sum:=by
 have h1:∀ k∈List.range L.length,sz (L.getD k 0#256)*g k=((List.range 256).map fun b=>if Aj L b=k then g k else 0).sum:=fun k hk=>by
  unfold sz;rw [Vz,Rl]
  congr 1
  refine List.map_congr_left fun b hb=>?_
  have hb:=List.mem_range.1 hb;have hk:=List.mem_range.1 hk;by_cases e:Aj L b=k
  ·have:=Fk hL hb;rw [e] at this;simp only [this,e,if_true,Nat.one_mul]
  ·have:(L.getD k 0#256).getLsbD b=false:=by
    rw [← Bool.not_eq_true];exact fun h=>e (Fj hL hb hk h)
   simp only [this,e,if_false,Bool.false_eq_true,Nat.zero_mul]
 rw [List.map_congr_left h1,Rj]
 congr 1
 refine List.map_congr_left fun b hb=>?_
 exact (Rk g _ _ (cell_lt hL (List.mem_range.1 hb))).symm
theorem Lx {d:Dfa} (hd:Val d):∀ (n s:Nat),s<d.nxt.length→Bq d n s=Bp (fun w=>d.ok (d.run s w)) n
 | 0,s,_=>by rw [Pt];rfl
 | n+1,s,hs=>by
  rw [Pu];show ((List.range d.cls.length).map fun k=>sz (d.cls.getD k 0#256)*Bq d n (d.ent2 s k)).sum=_;rw [← Yz hd.parts fun k=>Bq d n (d.ent2 s k)]
  congr 1
  refine List.map_congr_left fun b hb=>?_
  have hb:=List.mem_range.1 hb;show Bq d n (d.stp s b)=_;rw [Lx hd n _ (hd.stp_lt hs hb)];unfold Bp;rw [X3 n fun w=>?_];show d.ok (d.run (d.stp s b) w)=d.ok (d.run (d.stp s (UInt8.ofNat b).toNat) w);rw [u8n b hb]
def sat (x:Nat):Nat:=min x 1099511627777
theorem Nd (x:Nat):sat x≤1099511627777:=Nat.min_le_right _ _
def E5 (d:Dfa) (n s k:Nat):Nat:=((List.range k).map fun k=>sz (d.cls.getD k 0#256)*Bq d n (d.ent2 s k)).sum
theorem Aju (d:Dfa) (n s k:Nat):E5 d n s (k+1)=E5 d n s k+sz (d.cls.getD k 0#256)*Bq d n (d.ent2 s k):=by
 unfold E5;rw [List.range_succ,List.map_append,List.sum_append];simp
theorem Ajv (d:Dfa) (n s:Nat):E5 d n s d.cls.length=Bq d (n+1) s:=rfl
theorem Z5 (a z x:Nat) (hz:0<z):min (sat a+z*sat x) 1099511627777=sat (a+z*x):=by
 unfold sat;by_cases h:x≤1099511627777
 ·rw [Nat.min_eq_left h];omega
 ·have h1:min x 1099511627777=1099511627777:=by omega
  have h2:1099511627777≤z*1099511627777:=Nat.le_mul_of_pos_left _ hz;have h3:x≤z*x:=Nat.le_mul_of_pos_left _ hz;rw [h1];omega
def Cm (w:List UInt8) (s:Nat):List Nat:=(List.range 256).map fun b=>if s<w.length∧(w.getD s 0).toNat=b then s+1 else w.length+1
def Cc (w:List UInt8):Tbl:=⟨fun b=>b,256,(List.range (w.length+2)).map (Cm w),(List.range (w.length+2)).map fun s=>s==w.length⟩
theorem Cq {α:Type} (g:Nat→α) (n s:Nat) (d:α) (hs:s<n):((List.range n).map g).getD s d=g s:=by
 simp [List.getD_eq_getElem?_getD,hs]
theorem D9 (w:List UInt8):(Cc w).nxt.length=w.length+2:=by simp [Cc]
theorem Q2 (w:List UInt8) (s k:Nat) (hs:s<w.length+2) (hk:k<256):(Cc w).ent2 s k=if s<w.length∧(w.getD s 0).toNat=k then s+1 else w.length+1:=by
 unfold Tbl.ent2;show (((List.range (w.length+2)).map (Cm w)).getD s []).getD k 0=_;rw [Cq _ _ _ _ hs];unfold Cm;rw [Cq _ _ _ _ hk]
theorem Ep (w:List UInt8):TVal (Cc w) where
 pos:=by rw [D9];omega
 accL:=by rw [D9];simp [Cc]
 row:=fun s hs=>by
  rw [D9] at hs;show (((List.range (w.length+2)).map (Cm w)).getD s []).length=256;rw [Cq _ _ _ _ hs];simp [Cm]
 tgt:=fun s hs k hk=>by
  rw [D9] at hs ⊢;rw [Q2 w s k hs hk];split<;>omega
 cell_lt:=fun b hb=>hb
 onto:=fun k hk=>⟨k,hk,rfl⟩
theorem Q1 (w:List UInt8) (s:Nat) (hs:s<w.length+2):(Cc w).ok s=(s==w.length):=by
 unfold Tbl.ok;show ((List.range (w.length+2)).map fun s=>s==w.length).getD s false=_;rw [Cq _ _ _ _ hs]
theorem Qz (w:List UInt8) (s:Nat) (x:UInt8) (hs:s<w.length+2):(Cc w).stp s x.toNat=if s<w.length∧w.getD s 0=x then s+1 else w.length+1:=by
 show (Cc w).ent2 s x.toNat=_;rw [Q2 w s _ hs x.toNat_lt]
 congr 1
 rw [UInt8.toNat_inj]
theorem Q3 (w:List UInt8):∀ u:List UInt8,(Cc w).run (w.length+1) u=w.length+1
 | []=>rfl
 | x::u=>by
  show (Cc w).run ((Cc w).stp (w.length+1) x.toNat) u=_;rw [Qz w _ x (by omega),if_neg (by omega)];exact Q3 w u
theorem Q0 (w:List UInt8):∀ (u:List UInt8) (s:Nat),s≤w.length→((Cc w).ok ((Cc w).run s u)=true↔u=w.drop s)
 | [],s,hs=>by
  show (Cc w).ok s=true↔_;rw [Q1 w s (by omega)];constructor
  ·intro h;have:s=w.length:=by simpa using h
   rw [this,List.drop_length]
  ·intro h;have:=congrArg List.length h;rw [List.length_drop] at this;simp only [List.length_nil] at this;simp;omega
 | x::u,s,hs=>by
  show (Cc w).ok ((Cc w).run ((Cc w).stp s x.toNat) u)=true↔_;rw [Qz w s x (by omega)];by_cases h:s<w.length∧w.getD s 0=x
  ·rw [if_pos h,Q0 w u (s+1) (by omega),List.drop_eq_getElem_cons h.1];have:w[s]'h.1=x:=by
    have h2:=h.2;rw [List.getD_eq_getElem?_getD,List.getElem?_eq_getElem h.1] at h2;exact h2
   rw [this];simp
  ·rw [if_neg h,Q3,Q1 w _ (by omega)];constructor
   ·intro h1;simp at h1
   ·intro h1;exfalso
    by_cases hl:s<w.length
    ·rw [List.drop_eq_getElem_cons hl] at h1;injection h1 with h1 _
     exact h ⟨hl,by rw [h1,List.getD_eq_getElem?_getD,List.getElem?_eq_getElem hl];rfl⟩
    ·rw [List.drop_eq_nil_of_le (by omega)] at h1;cases h1
theorem Er (w u:List UInt8):(Cc w).has u=true↔u=w:=by
 have:=Q0 w u 0 (by omega);rw [List.drop_zero] at this;exact this
def Gh (t:Tbl):Tbl:=⟨t.cell,t.cells,t.nxt,t.acc.map (!·)⟩
theorem Tj {t:Tbl} (h:TVal t):TVal (Gh t) where
 pos:=h.pos
 accL:=by simp [Gh,h.accL]
 row:=h.row
 tgt:=h.tgt
 cell_lt:=h.cell_lt
 onto:=h.onto
theorem Tk {t:Tbl} (h:TVal t) (w:List UInt8):(Gh t).has w=!t.has w:=by
 have hr:∀ (w:List UInt8) s,(Gh t).run s w=t.run s w:=fun _ _=>rfl
 unfold Tbl.has;rw [hr];have hlt:=h.run_lt w h.pos;unfold Tbl.ok Gh;rw [List.getD_eq_getElem?_getD,List.getElem?_map,List.getElem?_eq_getElem (by rw [h.accL];exact hlt),List.getD_eq_getElem?_getD,List.getElem?_eq_getElem (by rw [h.accL];exact hlt)];rfl
def Cf (L:List Cls) (p:Cls→Bool):Dfa:=⟨L,[L.map fun k=>if p k then 1 else 2,L.map fun _=>2,L.map fun _=>2],[false,true,false]⟩
theorem Ae3 {L:List Cls} (hL:Parts L) (p:Cls→Bool):Val (Cf L p) where
 pos:=by simp [Cf]
 accL:=rfl
 row:=fun s hs=>by
  have:s<3:=hs
  match s,this with
  | 0,_=>simp [Cf]
  | 1,_=>simp [Cf]
  | 2,_=>simp [Cf]
 tgt:=fun s hs k hk=>by
  have hs:s<3:=hs;have hk:k<L.length:=hk;show (Cf L p).ent2 s k<3;unfold Dfa.ent2 Cf
  match s,hs with
  | 0,_=>simp [List.getD_eq_getElem?_getD,hk];split<;>omega
  | 1,_=>simp [List.getD_eq_getElem?_getD,hk]
  | 2,_=>simp [List.getD_eq_getElem?_getD,hk]
 parts:=hL
theorem Ae4 {L:List Cls} (hL:Parts L) (p:Cls→Bool) (c:Cls) (hp:∀ b,b<256→(p (L.getD (Aj L b) 0#256)=true↔c.getLsbD b=true)) (w:List UInt8):(Cf L p).has w=true↔∃ x:UInt8,w=[x]∧c.getLsbD x.toNat=true:=by
 have s0:∀ b,b<256→(Cf L p).stp 0 b=if p (L.getD (Aj L b) 0#256) then 1 else 2:=fun b hb=>by
  have hk:=cell_lt hL hb;show ((L.map fun k=>if p k then 1 else 2).getD (Aj L b) 0)=_;simp only [List.getD_eq_getElem?_getD,List.getElem?_map,List.getElem?_eq_getElem hk,Option.map_some,Option.getD_some]
 have s1:∀ b,b<256→(Cf L p).stp 1 b=2:=fun b hb=>by
  have hk:=cell_lt hL hb;show ((L.map fun _=>2).getD (Aj L b) 0)=_;simp only [List.getD_eq_getElem?_getD,List.getElem?_map,List.getElem?_eq_getElem hk,Option.map_some,Option.getD_some]
 have s2:∀ b,b<256→(Cf L p).stp 2 b=2:=fun b hb=>by
  have hk:=cell_lt hL hb;show ((L.map fun _=>2).getD (Aj L b) 0)=_;simp only [List.getD_eq_getElem?_getD,List.getElem?_map,List.getElem?_eq_getElem hk,Option.map_some,Option.getD_some]
 have dead:∀ u:List UInt8,(Cf L p).run 2 u=2:=fun u=>by
  induction u with
  | nil=>rfl
  | cons x u ih=>
   show (Cf L p).run ((Cf L p).stp 2 x.toNat) u=2;rw [s2 _ x.toNat_lt];exact ih
 match w with
 | []=>
  constructor
  ·intro h;exact absurd h (by show ¬ (false=true);decide)
  ·rintro ⟨x,h,_⟩;cases h
 | x::u=>
  show (Cf L p).ok ((Cf L p).run ((Cf L p).stp 0 x.toNat) u)=true↔_;rw [s0 _ x.toNat_lt];have hx:=hp _ x.toNat_lt;cases hc:p (L.getD (Aj L x.toNat) 0#256)
  ·simp only [Bool.false_eq_true,if_false];rw [dead];constructor
   ·intro h;exact absurd h (by show ¬ (false=true);decide)
   ·rintro ⟨y,h,hy⟩;injection h with h1 h2
    subst h1;rw [hc] at hx;exact absurd (hx.2 hy) (by decide)
  ·simp only [if_true]
   match u with
   | []=>
    constructor
    ·intro _;exact ⟨x,rfl,hx.1 hc⟩
    ·intro _;rfl
   | y::v=>
    show (Cf L p).ok ((Cf L p).run ((Cf L p).stp 1 y.toNat) v)=true↔_;rw [s1 _ y.toNat_lt,dead];constructor
    ·intro h;exact absurd h (by show ¬ (false=true);decide)
    ·rintro ⟨z,h,_⟩;injection h with _ h;cases h
def Co (c:Cls) (a:Bool):Dfa:=⟨[c],[[0]],[a]⟩
theorem S9 (c:Cls) (hc:∀ b,b<256→c.getLsbD b=true) (a:Bool) (w:List UInt8):(Co c a).has w=a:=by
 have s0:∀ b,b<256→(Co c a).stp 0 b=0:=fun b hb=>by
  unfold Dfa.stp Dfa.ent2 Co;have:Aj [c] b=0:=by unfold Aj;simp [hc b hb]
  rw [this];rfl
 have:∀ w:List UInt8,(Co c a).run 0 w=0:=fun w=>by
  induction w with
  | nil=>rfl
  | cons x u ih=>
   show (Co c a).run ((Co c a).stp 0 x.toNat) u=0;rw [s0 _ x.toNat_lt];exact ih
 unfold Dfa.has;rw [this];rfl
theorem K2 (c:Cls) (hc:∀ b,b<256→c.getLsbD b=true) (a:Bool):Cano (Co c a) where
 val:=by
  refine ⟨by simp [Co],rfl,fun s hs=>?_,fun s hs k hk=>?_,⟨fun x hx=>?_,by simp [Co],fun i hi=>⟨c,by simp [Co],hc i hi⟩⟩⟩
  ·have:s<1:=hs;obtain rfl:s=0:=by omega
   rfl
  ·have:s<1:=hs;have hk:k<1:=hk;obtain rfl:s=0:=by omega
   obtain rfl:k=0:=by omega
   show (0:Nat)<1;omega
  ·simp [Co] at hx;subst hx;exact Fw (hc 0 (by omega))
 reach:=fun s hs=>⟨[],by have:s<1:=hs;show 0=s;omega⟩
 red:=fun s t hs ht _=>by have:s<1:=hs;have:t<1:=ht;omega
 col:=fun i j hi hj _=>by have:i<1:=hi;have:j<1:=hj;omega
 srt:=by simp [Co]
 rgf:=fun p hp=>by
  have:p<1*1:=hp;obtain rfl:p=0:=by omega
  have:(Co c a).ent 0=0:=by simp [Dfa.ent,Dfa.ent2,Co]
  rw [this];omega
def Bx {σ:Type} (nx:σ→Nat→σ) (st:σ) (m:Nat):Prop:=∃ l:List σ,l.Nodup∧(∀ s,s∈l→∃ w,At nx st w=s)∧m<l.length
theorem I4 {σ:Type} [DecidableEq σ] {nx:σ→Nat→σ} {st:σ} {m:Nat} (M:List σ) (hM:∀ w,At nx st w∈M) (hm:M.length≤m):¬ Bx nx st m:=by
 rintro ⟨l,hn,hr,hl⟩;have:=Db l M hn fun s hs=>by
  obtain ⟨w,rfl⟩:=hr s hs;exact hM w
 omega
def Lim (L:List UInt8→Prop):Option Dfa→Prop
 | some d=>Cano d∧(∀ w,d.has w=true↔L w)∧d.nxt.length≤64
 | none=>∃ d,Cano d∧(∀ w,d.has w=true↔L w)∧64<d.nxt.length
theorem Jr {d e:Dfa} {L:List UInt8→Prop} (hd:Cano d) (he:Cano e) (h:∀ w,d.has w=true↔L w) (k:∀ w,e.has w=true↔L w):d=e:=
 Eo hd he fun w=>by rw [Bool.eq_iff_iff,h,k]
theorem Hl {L:List UInt8→Prop} {r r':Option Dfa} (h:Lim L r) (h':Lim L r'):r=r':=by
 cases r<;>cases r'
 ·rfl
 ·obtain ⟨d,h1,h2,h3⟩:=h;obtain ⟨k1,k2,k3⟩:=h';have:=Jr h1 k1 h2 k2;subst this;omega
 ·obtain ⟨d,h1,h2,h3⟩:=h';obtain ⟨k1,k2,k3⟩:=h;have:=Jr h1 k1 h2 k2;subst this;omega
 ·rw [Jr h.1 h'.1 h.2.1 h'.2.1]
theorem Gm {L M:List UInt8→Prop} {r:Option Dfa} (h:Lim L r) (hLM:∀ w,L w↔M w):Lim M r:=by
 rw [show M=L from funext fun w=>propext (hLM w).symm];exact h
def Dg (a b:Dfa) (r:Option Dfa):Prop:=∃ x y,Cano x∧Cano y∧(∀ w,x.has w=a.has w)∧(∀ w,y.has w=b.has w)∧
 (Bx (cnx (Ae x) (Ae y)) (cst (Ae x)) 4096→r=none)∧(¬ Bx (cnx (Ae x) (Ae y)) (cst (Ae x)) 4096→Lim (Cat (fun w=>a.has w=true) fun w=>b.has w=true) r)
theorem Py {a b:Dfa} {r r':Option Dfa} (h:Dg a b r) (h':Dg a b r'):r=r':=by
 obtain ⟨x,y,hx,hy,ex,ey,h1,h2⟩:=h;obtain ⟨x',y',hx',hy',ex',ey',h1',h2'⟩:=h';obtain rfl:=Eo hx hx' fun w=>by rw [ex,ex']
 obtain rfl:=Eo hy hy' fun w=>by rw [ey,ey']
 by_cases hm:Bx (cnx (Ae x) (Ae y)) (cst (Ae x)) 4096
 ·rw [h1 hm,h1' hm]
 ·exact Hl (h2 hm) (h2' hm)
def F7 (a:Dfa) (r:Option Dfa):Prop:=∃ x,Cano x∧(∀ w,x.has w=a.has w)∧
 (Bx (snx (Ae x)) (1,1) 4096→r=none)∧(¬ Bx (snx (Ae x)) (1,1) 4096→Lim (Star fun w=>a.has w=true) r)
theorem Zf {a:Dfa} {r r':Option Dfa} (h:F7 a r) (h':F7 a r'):r=r':=by
 obtain ⟨x,hx,ex,h1,h2⟩:=h;obtain ⟨x',hx',ex',h1',h2'⟩:=h';obtain rfl:=Eo hx hx' fun w=>by rw [ex,ex']
 by_cases hm:Bx (snx (Ae x)) (1,1) 4096
 ·rw [h1 hm,h1' hm]
 ·exact Hl (h2 hm) (h2' hm)
theorem M1 {y:Tbl} (hy:TVal y) (S c:Nat) (hc:c<256):∀ n,n≤y.nxt.length→Aq y S c n<2 ^ y.nxt.length
 | 0,_=>Nat.two_pow_pos _
 | n+1,h=>by
  have ih:=M1 hy S c hc n (by omega);simp only [Aq];split
  ·exact Nat.or_lt_two_pow ih (Nat.pow_lt_pow_right (by omega) (hy.stp_lt (by omega) hc))
  ·exact ih
theorem S6 {S m:Nat} (hm:0<m) (h:S<2 ^ m):S ||| 1<2 ^ m:=Nat.or_lt_two_pow h (by
 have:=Nat.pow_lt_pow_right (show 1<2 by omega) hm
 simpa using this)
theorem Wg {x y:Tbl} (hx:TVal x) (hy:TVal y) (w:List UInt8):(At (cnx x y) (cst x) w).1<x.nxt.length∧(At (cnx x y) (cst x) w).2<2 ^ y.nxt.length:=by
 have hc:∀ p S,p<x.nxt.length→S<2 ^ y.nxt.length→(Fi x p S).1<x.nxt.length∧(Fi x p S).2<2 ^ y.nxt.length:=fun p S hp hS=>by
  refine ⟨hp,?_⟩;unfold Fi;simp only;split
  ·exact S6 hy.pos hS
  ·exact hS
 induction w using Ek with
 | h0=>exact hc 0 0 hx.pos (Nat.two_pow_pos _)
 | h1 w b ih=>
  rw [Eh];exact hc _ _ (hx.stp_lt ih.1 b.toNat_lt) (M1 hy _ _ b.toNat_lt _ (Nat.le_refl _))
theorem Ro {x:Tbl} (hx:TVal x) (w:List UInt8):(At (snx x) (1,1) w).1<2∧(At (snx x) (1,1) w).2<2 ^ x.nxt.length:=by
 induction w using Ek with
 | h0=>
  refine ⟨by show 1<2;omega,?_⟩;have:=Nat.pow_lt_pow_right (show 1<2 by omega) hx.pos;show 1<_
  simpa using this
 | h1 w b ih=>
  rw [Eh];refine ⟨by show 0<2;omega,?_⟩;unfold snx;have:=M1 hx (At (snx x) (1,1) w).2 b.toNat b.toNat_lt _ (Nat.le_refl _);simp only;split
  ·exact S6 hx.pos this
  ·exact this
def box (n m:Nat):List (Nat × Nat):=(List.range n).flatMap fun p=>(List.range m).map fun q=>(p,q)
theorem Ju (n m:Nat):(box n m).length=n*m:=by
 unfold box;rw [List.length_flatMap];simp only [List.length_map,List.length_range];rw [Hb,List.length_range]
theorem Jt {n m:Nat} {s:Nat × Nat} (h1:s.1<n) (h2:s.2<m):s∈box n m:=by
 unfold box;rw [List.mem_flatMap];exact ⟨s.1,List.mem_range.2 h1,List.mem_map.2 ⟨s.2,List.mem_range.2 h2,rfl⟩⟩
theorem Ah6 {x y:Tbl} (hx:TVal x) (hy:TVal y) (h:x.nxt.length*2 ^ y.nxt.length≤4096):¬ Bx (cnx x y) (cst x) 4096:=
 I4 (box x.nxt.length (2 ^ y.nxt.length)) (fun w=>Jt (Wg hx hy w).1 (Wg hx hy w).2) (by rw [Ju];exact h)
theorem Za {x:Tbl} (hx:TVal x) (h:2*2 ^ x.nxt.length≤4096):¬ Bx (snx x) (1,1) 4096:=
 I4 (box 2 (2 ^ x.nxt.length)) (fun w=>Jt (Ro hx w).1 (Ro hx w).2) (by rw [Ju];exact h)
theorem Sv {x y:Tbl} (hx:TVal x) (hy:TVal y) {g:Bool→Bool→Bool} {d:Dfa} (hd:Cano d) (h:∀ w,d.has w=g (x.has w) (y.has w)):d.nxt.length≤x.nxt.length*y.nxt.length:=by
 rw [← Ju];refine F3 hd (fun w=>(x.run 0 w,y.run 0 w)) (fun w w' e u=>?_) _ fun w=>Jt (hx.run_lt w hx.pos) (hy.run_lt w hy.pos)
 injection e with e1 e2
 rw [h,h];unfold Tbl.has;rw [Cz,Cz,Cz,Cz,e1,e2]
theorem Aa1 {d:Dfa} (hd:Val d) (h64:d.nxt.length≤64) (m:Nat) (M:List (List Bool)) (hM:∀ w:List UInt8,((List.range d.nxt.length).map fun s=>d.ok (d.run s w.reverse))∈M) (hm:M.length≤m):¬ Bx (rnx d) (rst d) m:=by
 rintro ⟨l,hn,hr,hl⟩;have hl':(l.map fun S=>(List.range d.nxt.length).map fun s=>S.getD s false).Nodup:=by
  rw [List.nodup_iff_pairwise_ne,List.pairwise_map];refine List.Pairwise.imp_of_mem (fun {a b} ha hb hab e=>hab ?_) (List.nodup_iff_pairwise_ne.1 hn);obtain ⟨w,rfl⟩:=hr a ha;obtain ⟨w',rfl⟩:=hr b hb;refine (Aaz hd h64 w w').2 fun s hs=>?_
  have:=congrArg (fun l=>l.getD s false) e;simp only [Cq _ _ _ _ hs] at this;rw [Ft hd h64 w s hs,Ft hd h64 w' s hs] at this;exact this
 have:=Db _ M hl' fun S hS=>by
  obtain ⟨T,hT,rfl⟩:=List.mem_map.1 hS;obtain ⟨w,rfl⟩:=hr T hT;rw [show ((List.range d.nxt.length).map fun s=>(At (rnx d) (rst d) w).getD s false)=(List.range d.nxt.length).map fun s=>d.ok (d.run s w.reverse) from
   List.map_congr_left fun s hs=>Ft hd h64 w s (List.mem_range.1 hs)]
  exact hM w
 rw [List.length_map] at this;omega
end Go.Proofs.YtaiogolidlamiaaGreatDoor
