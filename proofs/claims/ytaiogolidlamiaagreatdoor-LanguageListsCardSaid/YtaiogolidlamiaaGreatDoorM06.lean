import Derived.Test.YtaiogolidlamiaaGreatDoorM05
import Derived.Laws.StructEq
import Derived.ChangeKeysEq
import Derived.Test.YtaiogolidlamiaaGreatDoorM04
set_option linter.unusedVariables false
set_option linter.unusedSimpArgs false
namespace Go.Proofs.YtaiogolidlamiaaGreatDoor
structure Dfa where
 cls:List Cls
 nxt:List (List Nat)
 acc:List Bool
def Aj (L:List Cls) (b:Nat):Nat:=L.findIdx fun c=>c.getLsbD b
namespace Dfa
def ent2 (d:Dfa) (s k:Nat):Nat:=(d.nxt.getD s []).getD k 0
def stp (d:Dfa) (s b:Nat):Nat:=d.ent2 s (Aj d.cls b)
def run (d:Dfa) (s:Nat) (w:List UInt8):Nat:=w.foldl (fun s x=>d.stp s x.toNat) s
def ok (d:Dfa) (s:Nat):Bool:=d.acc.getD s false
def has (d:Dfa) (w:List UInt8):Bool:=d.ok (d.run 0 w)
def ent (d:Dfa) (p:Nat):Nat:=d.ent2 (p / d.cls.length) (p % d.cls.length)
end Dfa
structure Parts (L:List Cls):Prop where
 nz:∀ c∈L,c≠0#256
 dis:L.Pairwise Dis
 cov:∀ i,i<256→∃ c∈L,c.getLsbD i=true
structure Val (d:Dfa):Prop where
 pos:0<d.nxt.length
 accL:d.acc.length=d.nxt.length
 row:∀ s,s<d.nxt.length→(d.nxt.getD s []).length=d.cls.length
 tgt:∀ s,s<d.nxt.length→∀ k,k<d.cls.length→d.ent2 s k<d.nxt.length
 parts:Parts d.cls
theorem cell_lt {L:List Cls} (h:Parts L) {b:Nat} (hb:b<256):Aj L b<L.length:=by
 obtain ⟨c,hc,hcb⟩:=h.cov b hb;exact List.findIdx_lt_length_of_exists ⟨c,hc,hcb⟩
theorem E6 {L:List Cls} (h:Parts L) {b:Nat} (hb:b<256):(L.getD (Aj L b) 0#256).getLsbD b=true:=by
 have:=List.findIdx_getElem (w:=cell_lt h hb);rw [List.getD_eq_getElem?_getD,List.getElem?_eq_getElem (cell_lt h hb)];exact this
theorem Eq {L:List Cls} (h:Parts L) {b k:Nat} (hb:b<256) (hk:k<L.length) (hm:(L.getD k 0#256).getLsbD b=true):Aj L b=k:=by
 have h1:=E6 h hb;have h2:=cell_lt h hb;rw [List.getD_eq_getElem?_getD,List.getElem?_eq_getElem h2] at h1;rw [List.getD_eq_getElem?_getD,List.getElem?_eq_getElem hk] at hm;rcases Nat.lt_trichotomy (Aj L b) k with hl|he|hg
 ·exact absurd ⟨h1,hm⟩ (List.pairwise_iff_getElem.1 h.dis _ _ h2 hk hl b)
 ·exact he
 ·exact absurd ⟨hm,h1⟩ (List.pairwise_iff_getElem.1 h.dis _ _ hk h2 hg b)
theorem Hk {L:List Cls} (h:Parts L) {k:Nat} (hk:k<L.length):∃ b,b<256∧Aj L b=k:=by
 have hn:=h.nz (L.getD k 0#256) (by rw [List.getD_eq_getElem?_getD,List.getElem?_eq_getElem hk];exact List.getElem_mem hk);obtain ⟨b,hb,hbb⟩:=Li hn;exact ⟨b,hb,Eq h hb hk hbb⟩
theorem Oy {L:List Cls} (h:Parts L) {i j:Nat} (hi:i<256) (hj:j<256):Alk L i j↔Aj L i=Aj L j:=by
 constructor
 ·intro ha;refine (Eq h hj (cell_lt h hi) ?_).symm;rw [← ha _ (by rw [List.getD_eq_getElem?_getD,List.getElem?_eq_getElem (cell_lt h hi)];exact List.getElem_mem _)];exact E6 h hi
 ·intro he c hc;obtain ⟨k,hk,rfl⟩:=Fz (d:=0#256) hc;rw [Bool.eq_iff_iff];constructor
  ·intro hb;have:=Eq h hi hk hb;rw [← this,he];exact E6 h hj
  ·intro hb;have:=Eq h hj hk hb;rw [← this,← he];exact E6 h hi
theorem Ko {L:List Cls} (h:Parts L):IsCells L L where
 dis:=h.dis
 nz:=h.nz
 cover:=h.cov
 cls:=fun c hc i hi hci j hj=>by
  obtain ⟨k,hk,rfl⟩:=Fz (d:=0#256) hc;rw [Oy h hi hj,Eq h hi hk hci];exact ⟨fun hb=>(Eq h hj hk hb).symm,fun e=>by rw [e];exact E6 h hj⟩
theorem Val.stp_lt {d:Dfa} (h:Val d) {s b:Nat} (hs:s<d.nxt.length) (hb:b<256):d.stp s b<d.nxt.length:=
 h.tgt s hs _ (cell_lt h.parts hb)
theorem Val.run_lt {d:Dfa} (h:Val d):∀ (w:List UInt8) {s:Nat},s<d.nxt.length→d.run s w<d.nxt.length
 | [],_,hs=>hs
 | x::w,_,hs=>h.run_lt w (h.stp_lt hs x.toNat_lt)
theorem Bx (d:Dfa) (s:Nat) (u w:List UInt8):d.run s (u++w)=d.run (d.run s u) w:=by simp [Dfa.run,List.foldl_append]
def mxf (a:Nat→Nat):Nat→Nat
 | 0=>0
 | p+1=>max (mxf a p) (a p)
theorem R7 (a:Nat→Nat) (p q:Nat) (h:q<p):a q≤mxf a p:=by
 induction p with
 | zero=>omega
 | succ p ih=>
  simp only [mxf];by_cases e:q=p
  ·subst e;omega
  ·have:=ih (by omega);omega
theorem Fe (a b:Nat→Nat) (p:Nat) (h:∀ q,q<p→a q=b q):mxf a p=mxf b p:=by
 induction p with
 | zero=>rfl
 | succ p ih=>simp only [mxf];rw [ih fun q hq=>h q (by omega),h p (by omega)]
structure Cano (d:Dfa):Prop where
 val:Val d
 reach:∀ s,s<d.nxt.length→∃ w,d.run 0 w=s
 red:∀ s t,s<d.nxt.length→t<d.nxt.length→(∀ w,d.ok (d.run s w)=d.ok (d.run t w))→s=t
 col:∀ i j,i<d.cls.length→j<d.cls.length→(∀ s,s<d.nxt.length→d.ent2 s i=d.ent2 s j)→i=j
 srt:d.cls.Pairwise fun a b=>key a≤key b
 rgf:∀ p,p<d.nxt.length*d.cls.length→d.ent p≤mxf d.ent p+1
section
variable {d e:Dfa}
theorem Acb (hd:Cano d) (he:Cano e) (h:∀ w,d.has w=e.has w):∃ f:Nat→Nat,(∀ w,f (d.run 0 w)=e.run 0 w):=by
 have key:∀ w w',d.run 0 w=d.run 0 w'→e.run 0 w=e.run 0 w':=fun w w' hw=>by
  refine he.red _ _ (he.val.run_lt _ he.val.pos) (he.val.run_lt _ he.val.pos) fun u=>?_
  rw [← Bx,← Bx];show e.has _=e.has _;rw [← h,← h];unfold Dfa.has;rw [Bx,Bx,hw]
 classical
 refine ⟨fun s=>if hs:∃ w,d.run 0 w=s then e.run 0 hs.choose else 0,fun w=>?_⟩;have hs:∃ w',d.run 0 w'=d.run 0 w:=⟨w,rfl⟩;simp only [dif_pos hs];exact key _ _ hs.choose_spec
theorem La (hd:Cano d) (he:Cano e) (h:∀ w,d.has w=e.has w):d=e:=by
 obtain ⟨f,hf⟩:=Acb hd he h;have f0:f 0=0:=hf [];have fstp:∀ s,s<d.nxt.length→∀ b,b<256→f (d.stp s b)=e.stp (f s) b:=fun s hs b hb=>by
  obtain ⟨w,rfl⟩:=hd.reach s hs;have h1:=hf (w++[UInt8.ofNat b]);rw [Bx,Bx,← hf w] at h1;have h2:∀ (x:Dfa) (s:Nat),x.run s [UInt8.ofNat b]=x.stp s b:=fun x s=>by
   show x.stp s (UInt8.ofNat b).toNat=_;rw [u8n b hb]
  rw [h2,h2] at h1;exact h1
 have flt:∀ s,s<d.nxt.length→f s<e.nxt.length:=fun s hs=>by
  obtain ⟨w,rfl⟩:=hd.reach s hs;rw [hf];exact he.val.run_lt _ he.val.pos
 have fok:∀ s,s<d.nxt.length→e.ok (f s)=d.ok s:=fun s hs=>by
  obtain ⟨w,rfl⟩:=hd.reach s hs;rw [hf];exact (h w).symm
 have frun:∀ (w:List UInt8) s,s<d.nxt.length→f (d.run s w)=e.run (f s) w:=fun w s hs=>by
  obtain ⟨u,rfl⟩:=hd.reach s hs;rw [← Bx,hf,Bx,hf]
 have finj:∀ s t,s<d.nxt.length→t<d.nxt.length→f s=f t→s=t:=fun s t hs ht hst=>
  hd.red s t hs ht fun w=>by
   rw [← fok _ (hd.val.run_lt w hs),← fok _ (hd.val.run_lt w ht),frun w s hs,frun w t ht,hst]
 have fsur:∀ t,t<e.nxt.length→∃ s,s<d.nxt.length∧f s=t:=fun t ht=>by
  obtain ⟨w,rfl⟩:=he.reach t ht;exact ⟨d.run 0 w,hd.val.run_lt w hd.val.pos,hf w⟩
 have colD:∀ (x:Dfa),Cano x→∀ i j,i<256→j<256→(Aj x.cls i=Aj x.cls j↔∀ s,s<x.nxt.length→x.stp s i=x.stp s j):=fun x hx i j hi hj=>
  ⟨fun he s _=>by unfold Dfa.stp;rw [he],fun hs=>hx.col _ _ (cell_lt hx.val.parts hi) (cell_lt hx.val.parts hj) hs⟩
 have hcls:d.cls=e.cls:=by
  refine (Ko hd.val.parts).eq (Ko he.val.parts) (fun i j hi hj=>?_) hd.srt he.srt;rw [Oy hd.val.parts hi hj,Oy he.val.parts hi hj,colD d hd i j hi hj,colD e he i j hi hj];constructor
  ·intro hs t ht;obtain ⟨s,hs',rfl⟩:=fsur t ht;rw [← fstp s hs' i hi,← fstp s hs' j hj,hs s hs']
  ·intro ht s hs;exact finj _ _ (hd.val.stp_lt hs hi) (hd.val.stp_lt hs hj) (by rw [fstp s hs i hi,fstp s hs j hj,ht _ (flt s hs)])
 have hm:d.cls.length=e.cls.length:=by rw [hcls]
 have fto:∀ s,s<d.nxt.length→∀ k,k<d.cls.length→f (d.ent2 s k)=e.ent2 (f s) k:=fun s hs k hk=>by
  obtain ⟨b,hb,hbk⟩:=Hk hd.val.parts hk;have h1:=fstp s hs b hb;unfold Dfa.stp at h1;rw [← hcls,hbk] at h1;exact h1
 have hm0:0<d.cls.length:=by
  obtain ⟨c,hc,_⟩:=hd.val.parts.cov 0 (by omega);exact List.length_pos_of_mem hc
 have main:∀ p,p≤d.nxt.length*d.cls.length→(∀ q,q<p→d.ent q=e.ent q)∧∀ t,t≤mxf d.ent p→f t=t:=by
  intro p;induction p with
  | zero=>exact fun _=>⟨fun q hq=>by omega,fun t ht=>by simp only [mxf] at ht;obtain rfl:t=0:=(by omega);exact f0⟩
  | succ p ih=>
   intro hp;obtain ⟨ih1,ih2⟩:=ih (by omega);have hs:p / d.cls.length<d.nxt.length:=Nat.div_lt_of_lt_mul (by rw [Nat.mul_comm];omega);have hk:p % d.cls.length<d.cls.length:=Nat.mod_lt _ hm0;have hseen:p / d.cls.length≤mxf d.ent p:=by
    apply Classical.byContradiction;intro hn;have hcl:∀ (w:List UInt8) s,s<p / d.cls.length→d.run s w<p / d.cls.length:=fun w=>by
     induction w with
     | nil=>intro s hs;exact hs
     | cons x w ihw=>
      intro s hs';refine ihw _ ?_;have hk':=cell_lt hd.val.parts x.toNat_lt;have hq:s*d.cls.length+Aj d.cls x.toNat<p:=by
       have h1:s*d.cls.length+d.cls.length≤p / d.cls.length*d.cls.length:=by
        rw [← Nat.succ_mul];exact Nat.mul_le_mul_right _ hs'
       have h2:=Nat.div_mul_le_self p d.cls.length;omega
      have h3:=R7 d.ent p _ hq;have h4:d.ent (s*d.cls.length+Aj d.cls x.toNat)=d.stp s x.toNat:=by
       unfold Dfa.ent Dfa.stp;rw [Nat.mul_comm,Nat.mul_add_div hm0,Nat.div_eq_of_lt hk',Nat.add_zero,Nat.mul_add_mod,Nat.mod_eq_of_lt hk']
      show d.stp s x.toNat<_;omega
    obtain ⟨w,hw⟩:=hd.reach _ hs;have:=hcl w 0 (by omega);omega
   have hfs:=ih2 _ hseen;have he1:e.ent p=f (d.ent p):=by
    unfold Dfa.ent;rw [fto _ hs _ hk,hfs,← hm]
   have hlt:d.ent p<d.nxt.length:=hd.val.tgt _ hs _ hk;have hep:p<e.nxt.length*e.cls.length:=by
    have h1:=flt _ hs;rw [hfs] at h1;have h2:=Nat.div_add_mod p d.cls.length;rw [← hm];have h3:(p / d.cls.length+1)*d.cls.length≤e.nxt.length*d.cls.length:=Nat.mul_le_mul_right _ h1;rw [Nat.succ_mul,Nat.mul_comm (p / d.cls.length)] at h3;omega
   have hrd:=hd.rgf p (by omega);have hre:=he.rgf p hep;rw [← Fe d.ent e.ent p ih1,he1] at hre;have hfix:f (d.ent p)=d.ent p:=by
    by_cases hle:d.ent p≤mxf d.ent p
    ·exact ih2 _ hle
    ·have h1:¬ f (d.ent p)≤mxf d.ent p:=fun hc=>by
      have h2:=ih2 _ hc;have h3:f (d.ent p)<d.nxt.length:=by
       have:=hseen;omega
      exact hle (by rw [finj _ _ hlt h3 h2.symm];exact hc)
     omega
   refine ⟨fun q hq=>?_,fun t ht=>?_⟩
   ·by_cases hqp:q=p
    ·subst hqp;rw [he1,hfix]
    ·exact ih1 q (by omega)
   ·simp only [mxf] at ht;by_cases hle:t≤mxf d.ent p
    ·exact ih2 t hle
    ·obtain rfl:t=d.ent p:=by omega
     exact hfix
 obtain ⟨hent,hfx⟩:=main _ (Nat.le_refl _);have entD:∀ (x:Dfa),0<x.cls.length→∀ s k,k<x.cls.length→x.ent (s*x.cls.length+k)=x.ent2 s k:=fun x h0 s k hk=>by
  unfold Dfa.ent;rw [Nat.mul_comm,Nat.mul_add_div h0,Nat.div_eq_of_lt hk,Nat.add_zero,Nat.mul_add_mod,Nat.mod_eq_of_lt hk]
 have posOf:∀ n s k,s<n→k<d.cls.length→s*d.cls.length+k<n*d.cls.length:=fun n s k hs hk=>by
  have:(s+1)*d.cls.length≤n*d.cls.length:=Nat.mul_le_mul_right _ hs;rw [Nat.succ_mul] at this;omega
 have fid:∀ t,t<d.nxt.length→f t=t:=fun t ht=>by
  obtain ⟨w,hw⟩:=hd.reach t ht;rcases List.eq_nil_or_concat w with rfl|⟨u,x,rfl⟩
  ·have:t=0:=hw.symm;rw [this];exact f0
  ·rw [List.concat_eq_append,Bx] at hw;have hk:=cell_lt hd.val.parts x.toNat_lt;have hu:=hd.val.run_lt u hd.val.pos;refine hfx t ?_;have h1:=R7 d.ent _ _ (posOf _ _ _ hu hk);rw [entD d hm0 _ _ hk] at h1;have h2:d.ent2 (d.run 0 u) (Aj d.cls x.toNat)=t:=hw;rw [h2] at h1;exact h1
 have hn:d.nxt.length=e.nxt.length:=by
  apply Nat.le_antisymm
  ·apply Classical.byContradiction;intro hc;have:=flt e.nxt.length (by omega);rw [fid _ (by omega)] at this;omega
  ·apply Classical.byContradiction;intro hc;obtain ⟨s,hs,hse⟩:=fsur d.nxt.length (by omega);rw [fid s hs] at hse;omega
 have hrow:∀ s,s<d.nxt.length→d.nxt.getD s []=e.nxt.getD s []:=fun s hs=>by
  apply List.ext_getElem
  ·rw [hd.val.row s hs,he.val.row s (by omega),hm]
  ·intro k h1 h2;rw [hd.val.row s hs] at h1;have h3:=hent _ (posOf _ s k hs h1);rw [entD d hm0 s k h1] at h3;rw [hm,entD e (by omega) s k (by omega)] at h3;unfold Dfa.ent2 at h3;rw [List.getD_eq_getElem?_getD (l:=d.nxt.getD s []),List.getD_eq_getElem?_getD (l:=e.nxt.getD s []),List.getElem?_eq_getElem,List.getElem?_eq_getElem] at h3;exact h3
 have hnxt:d.nxt=e.nxt:=by
  apply List.ext_getElem hn;intro s h1 h2;have:=hrow s h1
  rwa [List.getD_eq_getElem?_getD,List.getD_eq_getElem?_getD,List.getElem?_eq_getElem h1,List.getElem?_eq_getElem h2] at this
 have hacc:d.acc=e.acc:=by
  apply List.ext_getElem (by rw [hd.val.accL,he.val.accL,hn]);intro s h1 h2;have:=fok s (by rw [← hd.val.accL];exact h1);rw [fid s (by rw [← hd.val.accL];exact h1)] at this;unfold Dfa.ok at this;rw [List.getD_eq_getElem?_getD,List.getD_eq_getElem?_getD,List.getElem?_eq_getElem h1,List.getElem?_eq_getElem h2] at this;exact this.symm
 cases d;cases e
 simp only at hcls hnxt hacc;subst hcls;subst hnxt;subst hacc
 rfl
end
theorem C2 {α:Type} [DecidableEq α]:∀ (L M:List α),L.Nodup→(∀ x∈L,x∈M)→L.length≤M.length
 | [],M,_,_=>by simp
 | x::L,M,hn,hs=>by
  have hx:=hs x List.mem_cons_self;have h1:=C2 L (M.erase x) (List.nodup_cons.1 hn).2 fun y hy=>by
   rw [List.mem_erase_of_ne]
   ·exact hs y (List.mem_cons_of_mem _ hy)
   ·rintro rfl;exact (List.nodup_cons.1 hn).1 hy
  rw [List.length_erase_of_mem hx] at h1;have:=List.length_pos_of_mem hx;rw [List.length_cons];omega
theorem Gv (f:Nat→Nat) (n m:Nat) (h:∀ j,j<m→∃ i,i<n∧f i=j):m≤n:=by
 have:=C2 (List.range m) ((List.range n).map f) List.nodup_range fun j hj=>by
  obtain ⟨i,hi,e⟩:=h j (List.mem_range.1 hj);exact List.mem_map.2 ⟨i,List.mem_range.2 hi,e⟩
 simpa using this
theorem Aa7 (f:Nat→Nat) (m:Nat) (h:∀ j,j<m→∃ i,i<m∧f i=j) (i j:Nat) (hi:i<m) (hj:j<m) (he:f i=f j):i=j:=by
 apply Classical.byContradiction;intro hne;have:=C2 (List.range m) (((List.range m).erase i).map f) List.nodup_range fun q hq=>by
  obtain ⟨p,hp,e⟩:=h q (List.mem_range.1 hq);by_cases hpi:p=i
  ·subst hpi;exact List.mem_map.2 ⟨j,(List.mem_erase_of_ne (fun e=>hne e.symm)).2 (List.mem_range.2 hj),by rw [← he,e]⟩
  ·exact List.mem_map.2 ⟨p,(List.mem_erase_of_ne hpi).2 (List.mem_range.2 hp),e⟩
 rw [List.length_map,List.length_erase_of_mem (List.mem_range.2 hi)] at this;simp at this;omega
structure Tbl where
 cell:Nat→Nat
 cells:Nat
 nxt:List (List Nat)
 acc:List Bool
namespace Tbl
def ent2 (t:Tbl) (s k:Nat):Nat:=(t.nxt.getD s []).getD k 0
def stp (t:Tbl) (s b:Nat):Nat:=t.ent2 s (t.cell b)
def run (t:Tbl) (s:Nat) (w:List UInt8):Nat:=w.foldl (fun s x=>t.stp s x.toNat) s
def ok (t:Tbl) (s:Nat):Bool:=t.acc.getD s false
def has (t:Tbl) (w:List UInt8):Bool:=t.ok (t.run 0 w)
end Tbl
structure TVal (t:Tbl):Prop where
 pos:0<t.nxt.length
 accL:t.acc.length=t.nxt.length
 row:∀ s,s<t.nxt.length→(t.nxt.getD s []).length=t.cells
 tgt:∀ s,s<t.nxt.length→∀ k,k<t.cells→t.ent2 s k<t.nxt.length
 cell_lt:∀ b,b<256→t.cell b<t.cells
 onto:∀ k,k<t.cells→∃ b,b<256∧t.cell b=k
theorem TVal.stp_lt {t:Tbl} (h:TVal t) {s b:Nat} (hs:s<t.nxt.length) (hb:b<256):t.stp s b<t.nxt.length:=h.tgt s hs _ (h.cell_lt b hb)
theorem TVal.run_lt {t:Tbl} (h:TVal t):∀ (w:List UInt8) {s:Nat},s<t.nxt.length→t.run s w<t.nxt.length
 | [],_,hs=>hs
 | x::w,_,hs=>h.run_lt w (h.stp_lt hs x.toNat_lt)
theorem Cx (t:Tbl) (s:Nat) (u w:List UInt8):t.run s (u++w)=t.run (t.run s u) w:=by simp [Tbl.run,List.foldl_append]
def Leq (t:Tbl) (s s':Nat):Prop:=∀ w,t.ok (t.run s w)=t.ok (t.run s' w)
theorem Leq.step {t:Tbl} {s s':Nat} (h:Leq t s s') (b:Nat) (hb:b<256):Leq t (t.stp s b) (t.stp s' b):=fun w=>by
 have:=h (UInt8.ofNat b::w);have e:∀ s,t.run s (UInt8.ofNat b::w)=t.run (t.stp s b) w:=fun s=>by
  show t.run (t.stp s (UInt8.ofNat b).toNat) w=_;rw [u8n b hb]
 rwa [e,e] at this
structure Reached (t:Tbl) (l:List Nat):Prop where
 head:l.getD 0 0=0
 ne:0<l.length
 nodup:l.Nodup
 lt:∀ s∈l,s<t.nxt.length
 closed:∀ s∈l,∀ k,k<t.cells→t.ent2 s k∈l
 all:∀ s∈l,∃ w,t.run 0 w=s
theorem Reached.zero {t:Tbl} {l:List Nat} (h:Reached t l):0∈l:=by
 have:=h.head;rw [List.getD_eq_getElem?_getD,List.getElem?_eq_getElem h.ne] at this;rw [← (show l[0]'h.ne=0 from this)];exact List.getElem_mem _
theorem Reached.stp {t:Tbl} {l:List Nat} (h:Reached t l) (hv:TVal t) {s b:Nat} (hs:s∈l) (hb:b<256):t.stp s b∈l:=h.closed s hs _ (hv.cell_lt b hb)
theorem Reached.run {t:Tbl} {l:List Nat} (h:Reached t l) (hv:TVal t):∀ (w:List UInt8) {s:Nat},s∈l→t.run s w∈l
 | [],_,hs=>hs
 | x::w,_,hs=>h.run hv w (h.stp hv hs x.toNat_lt)
structure Blk (l:List Nat) (B:Nat→Nat) (R:List Nat):Prop where
 lt:∀ s∈l,B s<R.length
 mem:∀ i,i<R.length→R.getD i 0∈l
 rep:∀ i,i<R.length→B (R.getD i 0)=i
def Fo (t:Tbl) (l:List Nat) (B B':Nat→Nat):Prop:=
 ∀ s∈l,∀ s'∈l,(B' s=B' s'↔B s=B s'∧∀ k,k<t.cells→B (t.ent2 s k)=B (t.ent2 s' k))
structure Refi (t:Tbl) (l:List Nat) (B:Nat→Nat) (n:Nat):Prop where
 sound:∀ s∈l,∀ s'∈l,Leq t s s'→B s=B s'
 acc:∀ s∈l,∀ s'∈l,B s=B s'→t.ok s=t.ok s'
 num:0<n→∃ R,Blk l B R∧R.length=n
theorem Zj (t:Tbl) (l:List Nat) (B:Nat→Nat) (hB:∀ s∈l,B s=if t.ok s then 1 else 0):Refi t l B 0 where
 sound:=fun s hs s' hs' h=>by
  have:=h [];rw [hB s hs,hB s' hs',show t.ok s=t.ok s' from this]
 acc:=fun s hs s' hs' h=>by
  rw [hB s hs,hB s' hs'] at h;cases h1:t.ok s<;>cases h2:t.ok s'<;>simp [h1,h2] at h ⊢
 num:=fun h=>by omega
theorem Mk {t:Tbl} (hv:TVal t) {l:List Nat} (hl:Reached t l) {B B':Nat→Nat} {n:Nat} (h:Refi t l B n) (hr:Fo t l B B') {R:List Nat} (hb:Blk l B' R):Refi t l B' R.length where
 sound:=fun s hs s' hs' he=>(hr s hs s' hs').2 ⟨h.sound s hs s' hs' he,fun k hk=>by
  obtain ⟨b,hb,rfl⟩:=hv.onto k hk;exact h.sound _ (hl.stp hv hs hb) _ (hl.stp hv hs' hb) (he.step b hb)⟩
 acc:=fun s hs s' hs' he=>h.acc s hs s' hs' ((hr s hs s' hs').1 he).1
 num:=fun _=>⟨R,hb,rfl⟩
theorem Ml {t:Tbl} {l:List Nat} {B B':Nat→Nat} {n:Nat} (h:Refi t l B n) (hr:Fo t l B B') {R:List Nat} (hb:Blk l B' R) (h0:0<l.length):n≤R.length∧0<R.length:=by
 have hpos:0<R.length:=by
  have:=hb.lt _ (List.getElem_mem h0);omega
 refine ⟨?_,hpos⟩;by_cases hn:n=0
 ·omega
 ·obtain ⟨R0,hb0,rfl⟩:=h.num (by omega);refine Gv (fun i=>B (R.getD i 0)) _ _ fun j hj=>⟨B' (R0.getD j 0),hb.lt _ (hb0.mem j hj),?_⟩
  have h1:=hb.rep _ (hb.lt _ (hb0.mem j hj));have h2:=((hr _ (hb.mem _ (hb.lt _ (hb0.mem j hj))) _ (hb0.mem j hj)).1 h1).1;show B (R.getD (B' (R0.getD j 0)) 0)=j;rw [h2,hb0.rep j hj]
theorem Qv {t:Tbl} (hv:TVal t) {l:List Nat} (hl:Reached t l) {B B':Nat→Nat} {n:Nat} (h:Refi t l B n) (hr:Fo t l B B') {R:List Nat} (hb:Blk l B' R) (hn:R.length=n) :
  ∀ s∈l,∀ s'∈l,(B' s=B' s'↔Leq t s s'):=by
 have hpos:=(Ml h hr hb hl.ne).2;obtain ⟨R0,hb0,h0⟩:=h.num (by omega);have same:∀ s∈l,∀ s'∈l,B s=B s'→B' s=B' s':=fun s hs s' hs' he=>by
  have inj:=Aa7 (fun i=>B (R.getD i 0)) R.length fun j hj=>by
   have hj0:j<R0.length:=by omega
   refine ⟨B' (R0.getD j 0),hb.lt _ (hb0.mem j hj0),?_⟩;have h1:=hb.rep _ (hb.lt _ (hb0.mem j hj0));have h2:=((hr _ (hb.mem _ (hb.lt _ (hb0.mem j hj0))) _ (hb0.mem j hj0)).1 h1).1;show B (R.getD (B' (R0.getD j 0)) 0)=j;rw [h2,hb0.rep j hj0]
  have hB:∀ s∈l,B (R.getD (B' s) 0)=B s:=fun s hs=>
   ((hr _ (hb.mem _ (hb.lt s hs)) _ hs).1 (hb.rep _ (hb.lt s hs))).1
  exact inj _ _ (hb.lt s hs) (hb.lt s' hs') (by show B (R.getD (B' s) 0)=B (R.getD (B' s') 0);rw [hB s hs,hB s' hs',he])
 have stab:∀ (w:List UInt8),∀ s∈l,∀ s'∈l,B' s=B' s'→B' (t.run s w)=B' (t.run s' w):=fun w=>by
  induction w with
  | nil=>intro s _ s' _ he;exact he
  | cons x w ih=>
   intro s hs s' hs' he;refine ih _ (hl.stp hv hs x.toNat_lt) _ (hl.stp hv hs' x.toNat_lt) (same _ (hl.stp hv hs x.toNat_lt) _ (hl.stp hv hs' x.toNat_lt) ?_);exact ((hr s hs s' hs').1 he).2 _ (hv.cell_lt _ x.toNat_lt)
 intro s hs s' hs';constructor
 ·intro he w;have:=stab w s hs s' hs' he;exact h.acc _ (hl.run hv w hs) _ (hl.run hv w hs') ((hr _ (hl.run hv w hs) _ (hl.run hv w hs')).1 this).1
 ·intro he;exact (Mk hv hl h hr hb).sound s hs s' hs' he
structure Blocks (t:Tbl) (l:List Nat) (B:Nat→Nat) (R:List Nat):Prop where
 blk:Blk l B R
 leq:∀ s∈l,∀ s'∈l,(B s=B s'↔Leq t s s')
structure Merged (t:Tbl) (B:Nat→Nat) (R K:List Nat) (L:List Cls):Prop where
 parts:Parts L
 srt:L.Pairwise fun a b=>key a≤key b
 len:K.length=L.length
 lt:∀ k,k<K.length→K.getD k 0<t.cells
 cell:∀ b,b<256→∀ i,i<R.length→B (t.ent2 (R.getD i 0) (K.getD (Aj L b) 0))=B (t.stp (R.getD i 0) b)
 col:∀ k k',k<K.length→k'<K.length→(∀ i,i<R.length→B (t.ent2 (R.getD i 0) (K.getD k 0))=B (t.ent2 (R.getD i 0) (K.getD k' 0)))→k=k'
structure Laid (t:Tbl) (B:Nat→Nat) (R K:List Nat) (L:List Cls) (O:List Nat) (d:Dfa):Prop where
 cls:d.cls=L
 len:d.nxt.length=O.length
 acl:d.acc.length=O.length
 zero:O.getD 0 0=B 0
 pos:0<O.length
 nodup:O.Nodup
 lt:∀ i,i<O.length→O.getD i 0<R.length
 row:∀ i,i<O.length→(d.nxt.getD i []).length=K.length
 tgt:∀ i,i<O.length→∀ k,k<K.length→d.ent2 i k<O.length∧O.getD (d.ent2 i k) 0=B (t.ent2 (R.getD (O.getD i 0) 0) (K.getD k 0))
 acc:∀ i,i<O.length→d.ok i=t.ok (R.getD (O.getD i 0) 0)
 rgf:∀ p,p<d.nxt.length*d.cls.length→d.ent p≤mxf d.ent p+1
 reach:∀ i,0<i→i<O.length→∃ j k,j<i∧k<K.length∧d.ent2 j k=i
theorem Adk {t:Tbl} (hv:TVal t) {l:List Nat} (hl:Reached t l) {B:Nat→Nat} {R K:List Nat} {L:List Cls} {O:List Nat} {d:Dfa}
  (hb:Blocks t l B R) (hm:Merged t B R K L) (h:Laid t B R K L O d):Cano d∧∀ w,d.has w=t.has w:=by
 have hn:=h.len;have hck:d.cls.length=K.length:=by rw [h.cls,hm.len]
 have rmem:∀ i,i<O.length→R.getD (O.getD i 0) 0∈l:=fun i hi=>hb.blk.mem _ (h.lt i hi)
 have rB:∀ i,i<O.length→B (R.getD (O.getD i 0) 0)=O.getD i 0:=fun i hi=>hb.blk.rep _ (h.lt i hi)
 have hval:Val d:=by
  refine ⟨by have:=h.pos;omega,by rw [h.acl,hn],fun s hs=>?_,fun s hs k hk=>?_,by rw [h.cls];exact hm.parts⟩
  ·rw [h.row s (by omega),hck]
  ·rw [hn];exact (h.tgt s (by omega) k (by omega)).1
 have inj:∀ i j,i<O.length→j<O.length→O.getD i 0=O.getD j 0→i=j:=fun i j hi hj he=>by
  rw [List.getD_eq_getElem?_getD,List.getD_eq_getElem?_getD,List.getElem?_eq_getElem hi,List.getElem?_eq_getElem hj] at he;exact (List.getElem_inj h.nodup).1 he
 have step:∀ i s,i<O.length→s∈l→O.getD i 0=B s→∀ b,b<256→O.getD (d.stp i b) 0=B (t.stp s b)∧d.stp i b<O.length:=fun i s hi hs he b hbb=>by
  have hkl:Aj L b<K.length:=by rw [hm.len];exact cell_lt hm.parts hbb
  have h1:=h.tgt i hi _ hkl;have h2:=hm.cell b hbb _ (h.lt i hi);have h3:B (t.stp (R.getD (O.getD i 0) 0) b)=B (t.stp s b):=by
   have hq:Leq t (R.getD (O.getD i 0) 0) s:=(hb.leq _ (rmem i hi) _ hs).1 (by rw [rB i hi,he]);exact (hb.leq _ (hl.stp hv (rmem i hi) hbb) _ (hl.stp hv hs hbb)).2 (hq.step b hbb)
  unfold Dfa.stp;rw [h.cls];exact ⟨by rw [h1.2,h2,h3],h1.1⟩
 have walk:∀ (w:List UInt8) i s,i<O.length→s∈l→O.getD i 0=B s→O.getD (d.run i w) 0=B (t.run s w)∧d.run i w<O.length:=fun w=>by
  induction w with
  | nil=>intro i s hi _ he;exact ⟨he,hi⟩
  | cons x w ih=>
   intro i s hi hs he;have h1:=step i s hi hs he x.toNat x.toNat_lt;exact ih _ _ h1.2 (hl.stp hv hs x.toNat_lt) h1.1
 have okE:∀ i s,i<O.length→s∈l→O.getD i 0=B s→d.ok i=t.ok s:=fun i s hi hs he=>by
  rw [h.acc i hi];exact (hb.leq _ (rmem i hi) _ hs).1 (by rw [rB i hi,he]) []
 have lang:∀ i s,i<O.length→s∈l→O.getD i 0=B s→∀ w,d.ok (d.run i w)=t.ok (t.run s w):=fun i s hi hs he w=>by
  have h1:=walk w i s hi hs he;exact okE _ _ h1.2 (hl.run hv w hs) h1.1
 refine ⟨⟨hval,?_,?_,?_,by rw [h.cls];exact hm.srt,h.rgf⟩,fun w=>lang 0 0 h.pos hl.zero h.zero w⟩
 ·-- reached
  have:∀ n i,i<n→i<O.length→∃ w,d.run 0 w=i:=fun n=>by
   induction n with
   | zero=>intro i hi;omega
   | succ n ih=>
    intro i hi hi';by_cases h0:i=0
    ·exact ⟨[],h0.symm⟩
    ·obtain ⟨j,k,hj,hk,hjk⟩:=h.reach i (by omega) hi';obtain ⟨w,hw⟩:=ih j (by omega) (by omega);obtain ⟨b,hbb,hbk⟩:=Hk hm.parts (k:=k) (by rw [← hm.len];exact hk);refine ⟨w++[UInt8.ofNat b],?_⟩;rw [Bx,hw];show d.stp j (UInt8.ofNat b).toNat=i;rw [u8n b hbb];unfold Dfa.stp;rw [h.cls,hbk,hjk]
  intro s hs;exact this (s+1) s (by omega) (by omega)
 ·-- reduced
  intro i j hi hj he;have hi':i<O.length:=by omega
  have hj':j<O.length:=by omega
  refine inj i j hi' hj' ?_;rw [← rB i hi',← rB j hj'];refine (hb.leq _ (rmem i hi') _ (rmem j hj')).2 fun w=>?_
  rw [← lang i _ hi' (rmem i hi') (rB i hi').symm w,← lang j _ hj' (rmem j hj') (rB j hj').symm w];exact he w
 ·-- the columns differ
  intro k k' hk hk' he;refine hm.col k k' (by omega) (by omega) fun i hi=>?_
  have hall:∀ (w:List UInt8),∃ q,q<O.length∧O.getD q 0=B (t.run 0 w):=fun w=>
   ⟨d.run 0 w,(walk w 0 0 h.pos hl.zero h.zero).2,(walk w 0 0 h.pos hl.zero h.zero).1⟩
  obtain ⟨w,hw⟩:=hl.all _ (hb.blk.mem i hi);obtain ⟨q,hq,hqe⟩:=hall w;rw [hw,hb.blk.rep i hi] at hqe;have h1:=(h.tgt q hq k (by omega)).2;have h2:=(h.tgt q hq k' (by omega)).2;rw [hqe] at h1 h2;rw [← h1,← h2,he q (by omega)]
structure Joint (a b:Nat→Nat) (c:Nat→Nat) (bs:List Nat):Prop where
 lt:∀ x,x<256→c x<bs.length
 byte:∀ k,k<bs.length→bs.getD k 0<256∧c (bs.getD k 0)=k
 same:∀ x y,x<256→y<256→(c x=c y↔a x=a y∧b x=b y)
theorem Joint.rep {a b c:Nat→Nat} {bs:List Nat} (h:Joint a b c bs) (x:Nat) (hx:x<256):bs.getD (c x) 0<256∧a (bs.getD (c x) 0)=a x∧b (bs.getD (c x) 0)=b x:=by
 obtain ⟨h1,h2⟩:=h.byte _ (h.lt x hx);exact ⟨h1,((h.same _ _ h1 hx).1 h2).1,((h.same _ _ h1 hx).1 h2).2⟩
section
variable {σ:Type}
def Ar (nx:σ→Nat→σ) (s:σ) (w:List UInt8):σ:=w.foldl (fun s x=>nx s x.toNat) s
structure Expl (c:Nat→Nat) (bs:List Nat) (st:σ) (nx:σ→Nat→σ) (ac:σ→Bool) (l:List σ) (t:Tbl):Prop where
 cell:t.cell=c
 cells:t.cells=bs.length
 len:t.nxt.length=l.length
 acl:t.acc.length=l.length
 pos:0<l.length
 nodup:l.Nodup
 zero:l[0]? = some st
 row:∀ i,i<l.length→(t.nxt.getD i []).length=bs.length
 tgt:∀ (i:Nat) (s:σ),l[i]? = some s→∀ k,k<bs.length→t.ent2 i k<l.length∧l[t.ent2 i k]? = some (nx s (bs.getD k 0))
 acc:∀ (i:Nat) (s:σ),l[i]? = some s→t.ok i=ac s
 reach:∀ (i:Nat) (s:σ),l[i]? = some s→∃ w,Ar nx st w=s
theorem Expl.tval {c:Nat→Nat} {bs:List Nat} {st:σ} {nx:σ→Nat→σ} {ac:σ→Bool} {l:List σ} {t:Tbl} (h:Expl c bs st nx ac l t) {a b:Nat→Nat} (hj:Joint a b c bs):TVal t where
 pos:=by rw [h.len];exact h.pos
 accL:=by rw [h.acl,h.len]
 row:=fun s hs=>by rw [h.row s (by rw [← h.len];exact hs),h.cells]
 tgt:=fun s hs k hk=>by
  rw [h.len] at hs ⊢;exact (h.tgt s _ (List.getElem?_eq_getElem hs) k (by rw [← h.cells];exact hk)).1
 cell_lt:=fun x hx=>by rw [h.cell,h.cells];exact hj.lt x hx
 onto:=fun k hk=>by
  rw [h.cells] at hk;exact ⟨_,(hj.byte k hk).1,by rw [h.cell];exact (hj.byte k hk).2⟩
theorem Expl.has {c:Nat→Nat} {bs:List Nat} {st:σ} {nx:σ→Nat→σ} {ac:σ→Bool} {l:List σ} {t:Tbl} (h:Expl c bs st nx ac l t) {a b:Nat→Nat} (hj:Joint a b c bs)
  (hn:∀ s x,x<256→nx s (bs.getD (c x) 0)=nx s x) (w:List UInt8):t.has w=ac (Ar nx st w):=by
 have:∀ (w:List UInt8) i s,l[i]? = some s→l[t.run i w]? = some (Ar nx s w):=fun w=>by
  induction w with
  | nil=>intro i s hi;exact hi
  | cons x w ih=>
   intro i s hi;have h1:=(h.tgt i s hi _ (hj.lt _ x.toNat_lt)).2;rw [hn s _ x.toNat_lt] at h1;refine ih (t.stp i x.toNat) _ ?_;unfold Tbl.stp;rw [h.cell];exact h1
 exact h.acc _ _ (this w 0 st h.zero)
end
def Ae (d:Dfa):Tbl:=⟨Aj d.cls,d.cls.length,d.nxt,d.acc⟩
theorem Bf {d:Dfa} (h:Val d):TVal (Ae d) where
 pos:=h.pos
 accL:=h.accL
 row:=h.row
 tgt:=h.tgt
 cell_lt:=fun b hb=>cell_lt h.parts hb
 onto:=fun k hk=>Hk h.parts hk
theorem W4 (d:Dfa) (w:List UInt8):∀ s,(Ae d).run s w=d.run s w:=by
 induction w with
 | nil=>intro s;rfl
 | cons x w ih=>intro s;exact ih _
theorem Da (d:Dfa) (w:List UInt8):(Ae d).has w=d.has w:=by
 unfold Tbl.has Dfa.has;rw [W4];rfl
def Ap (y:Tbl) (S c:Nat):Nat→Nat
 | 0=>0
 | n+1=>if S.testBit n then Ap y S c n ||| 2 ^ y.stp n c else Ap y S c n
theorem Po (y:Tbl) (S c n r:Nat):(Ap y S c n).testBit r=true↔∃ q,q<n∧S.testBit q=true∧y.stp q c=r:=by
 induction n with
 | zero=>simp [Ap]
 | succ n ih=>
  simp only [Ap];split
  ·rename_i h
   rw [Nat.testBit_or,Bool.or_eq_true,ih,Nat.testBit_two_pow,decide_eq_true_eq];constructor
   ·rintro (⟨q,hq,h1,h2⟩|e)
    ·exact ⟨q,by omega,h1,h2⟩
    ·exact ⟨n,by omega,h,e⟩
   ·rintro ⟨q,hq,h1,h2⟩;by_cases e:q=n
    ·subst e;exact .inr h2
    ·exact .inl ⟨q,by omega,h1,h2⟩
  ·rename_i h
   rw [ih];constructor
   ·rintro ⟨q,hq,h1,h2⟩;exact ⟨q,by omega,h1,h2⟩
   ·rintro ⟨q,hq,h1,h2⟩;refine ⟨q,?_,h1,h2⟩;by_cases e:q=n
    ·subst e;exact absurd h1 h
    ·omega
def Cb (y:Tbl) (S:Nat):Bool:=(List.range y.nxt.length).any fun q=>y.ok q&&S.testBit q
theorem Ib (y:Tbl) (S:Nat):Cb y S=true↔∃ q,q<y.nxt.length∧y.ok q=true∧S.testBit q=true:=by
 unfold Cb;rw [List.any_eq_true];constructor
 ·rintro ⟨q,hq,h⟩;rw [Bool.and_eq_true] at h;exact ⟨q,List.mem_range.1 hq,h.1,h.2⟩
 ·rintro ⟨q,hq,h1,h2⟩;exact ⟨q,List.mem_range.2 hq,by rw [h1,h2];rfl⟩
theorem Du {P:List UInt8→Prop} (h0:P []) (h1:∀ w x,P w→P (w++[x])) (w:List UInt8):P w:=by
 have:∀ v:List UInt8,P v.reverse:=fun v=>by
  induction v with
  | nil=>exact h0
  | cons x v ih=>rw [List.reverse_cons];exact h1 _ _ ih
 have h:=this w.reverse
 rwa [List.reverse_reverse] at h
theorem D6 {σ:Type} (nx:σ→Nat→σ) (s:σ) (w:List UInt8) (x:UInt8):Ar nx s (w++[x])=nx (Ar nx s w) x.toNat:=by simp [Ar,List.foldl_append]
theorem Eu (t:Tbl) (s:Nat) (w:List UInt8) (x:UInt8):t.run s (w++[x])=t.stp (t.run s w) x.toNat:=by rw [Cx];rfl
theorem Ou {u v w:List UInt8} {x:UInt8} (h:w++[x]=u++v):(v=[]∧u=w++[x])∨∃ v',v=v'++[x]∧w=u++v':=by
 rcases List.eq_nil_or_concat v with rfl|⟨v',y,rfl⟩
 ·exact .inl ⟨rfl,by simpa using h.symm⟩
 ·rw [List.concat_eq_append,← List.append_assoc] at h;obtain ⟨h1,h2⟩:=List.append_inj' h rfl;simp at h2;subst h2;exact .inr ⟨v',by rw [List.concat_eq_append],h1⟩
def Cat (L M:List UInt8→Prop) (w:List UInt8):Prop:=∃ u v,w=u++v∧L u∧M v
inductive Star (L:List UInt8→Prop):List UInt8→Prop
 | nil:Star L []
 | app {u v:List UInt8}:Star L u→L v→Star L (u++v)
def E5 (x:Tbl) (p S:Nat):Nat × Nat:=(p,if x.ok p then S ||| 1 else S)
def cnx (x y:Tbl) (s:Nat × Nat) (c:Nat):Nat × Nat:=E5 x (x.stp s.1 c) (Ap y s.2 c y.nxt.length)
def cst (x:Tbl):Nat × Nat:=E5 x 0 0
theorem U6 (S r:Nat):(S ||| 1).testBit r=true↔S.testBit r=true∨r=0:=by
 rw [Nat.testBit_or,Bool.or_eq_true,show (1:Nat)=2 ^ 0 from rfl,Nat.testBit_two_pow,decide_eq_true_eq];constructor<;>rintro (h|h)
 ·exact .inl h
 ·exact .inr h.symm
 ·exact .inl h
 ·exact .inr h.symm
theorem Uh (x:Tbl) (p S r:Nat):(E5 x p S).2.testBit r=true↔S.testBit r=true∨(x.ok p=true∧r=0):=by
 unfold E5;cases h:x.ok p
 ·simp
 ·simp only [if_true];rw [U6];simp
theorem Uq {x y:Tbl} (hy:TVal y) (w:List UInt8):(Ar (cnx x y) (cst x) w).1=x.run 0 w∧
  ∀ r,(Ar (cnx x y) (cst x) w).2.testBit r=true↔∃ u v,w=u++v∧x.has u=true∧y.run 0 v=r:=by
 induction w using Du with
 | h0=>
  refine ⟨rfl,fun r=>?_⟩;show (E5 x 0 0).2.testBit r=true↔_;rw [Uh];constructor
  ·rintro (h|⟨h,rfl⟩)
   ·simp at h
   ·exact ⟨[],[],rfl,h,rfl⟩
  ·rintro ⟨u,v,h,h1,h2⟩;obtain ⟨rfl,rfl⟩:=List.append_eq_nil_iff.1 h.symm;exact .inr ⟨h1,h2.symm⟩
 | h1 w z ih=>
  obtain ⟨ih1,ih2⟩:=ih;rw [D6];generalize Ar (cnx x y) (cst x) w=s at *;refine ⟨?_,fun r=>?_⟩
  ·show x.stp s.1 z.toNat=_;rw [ih1,Eu]
  ·show (E5 x (x.stp s.1 z.toNat) (Ap y s.2 z.toNat y.nxt.length)).2.testBit r=true↔_;rw [Uh,Po,ih1,← Eu];constructor
   ·rintro (⟨q,hq,hb,he⟩|⟨h,rfl⟩)
    ·obtain ⟨u,v,rfl,hu,hv⟩:=(ih2 q).1 hb;exact ⟨u,v++[z],by rw [List.append_assoc],hu,by rw [Eu,hv,he]⟩
    ·exact ⟨w++[z],[],by simp,h,rfl⟩
   ·rintro ⟨u,v,h,hu,hv⟩;rcases Ou h with ⟨rfl,rfl⟩|⟨v',rfl,rfl⟩
    ·exact .inr ⟨hu,hv.symm⟩
    ·rw [Eu] at hv;exact .inl ⟨y.run 0 v',hy.run_lt v' hy.pos,(ih2 _).2 ⟨u,v',rfl,hu,rfl⟩,hv⟩
theorem Agi {x y:Tbl} (hy:TVal y) {c:Nat→Nat} {bs:List Nat} {l:List (Nat × Nat)} {t:Tbl} (h:Expl c bs (cst x) (cnx x y) (fun s=>Cb y s.2) l t) (hj:Joint x.cell y.cell c bs) (w:List UInt8) :
  t.has w=true↔Cat (fun u=>x.has u=true) (fun v=>y.has v=true) w:=by
 rw [h.has hj (fun s b hb=>?_),Ib]
 ·constructor
  ·rintro ⟨q,_,ha,hb⟩;obtain ⟨u,v,rfl,hu,rfl⟩:=((Uq hy w).2 q).1 hb;exact ⟨u,v,rfl,hu,ha⟩
  ·rintro ⟨u,v,rfl,hu,hv⟩;exact ⟨y.run 0 v,hy.run_lt v hy.pos,hv,((Uq hy _).2 _).2 ⟨u,v,rfl,hu,rfl⟩⟩
 ·obtain ⟨_,h1,h2⟩:=hj.rep b hb;have e1:∀ p,x.stp p (bs.getD (c b) 0)=x.stp p b:=fun p=>by unfold Tbl.stp;rw [h1]
  have e2:∀ n,Ap y s.2 (bs.getD (c b) 0) n=Ap y s.2 b n:=fun n=>by
   induction n with
   | zero=>rfl
   | succ n ih=>simp only [Ap];rw [ih];unfold Tbl.stp;rw [h2]
  unfold cnx;rw [e1,e2]
def snx (x:Tbl) (s:Nat × Nat) (c:Nat):Nat × Nat:=
 (0,if Cb x (Ap x s.2 c x.nxt.length) then Ap x s.2 c x.nxt.length ||| 1 else Ap x s.2 c x.nxt.length)
theorem Xo {x:Tbl} (hx:TVal x) (w:List UInt8):((Ar (snx x) (1,1) w).1=if w=[] then 1 else 0)∧
  ∀ r,(Ar (snx x) (1,1) w).2.testBit r=true↔∃ u v,w=u++v∧Star (fun u=>x.has u=true) u∧x.run 0 v=r:=by
 induction w using Du with
 | h0=>
  refine ⟨rfl,fun r=>?_⟩;show (1:Nat).testBit r=true↔_;rw [show (1:Nat)=2 ^ 0 from rfl,Nat.testBit_two_pow,decide_eq_true_eq];constructor
  ·rintro rfl;exact ⟨[],[],rfl,.nil,rfl⟩
  ·rintro ⟨u,v,h,h1,h2⟩;obtain ⟨rfl,rfl⟩:=List.append_eq_nil_iff.1 h.symm;exact h2
 | h1 w z ih=>
  obtain ⟨_,ih2⟩:=ih;rw [D6];generalize Ar (snx x) (1,1) w=s at *;have hb:∀ r,(Ap x s.2 z.toNat x.nxt.length).testBit r=true↔∃ u v',w=u++v'∧Star (fun u=>x.has u=true) u∧x.run 0 (v'++[z])=r:=fun r=>by
   rw [Po];constructor
   ·rintro ⟨q,hq,hb,he⟩;obtain ⟨u,v,rfl,hu,hv⟩:=(ih2 q).1 hb;exact ⟨u,v,rfl,hu,by rw [Eu,hv,he]⟩
   ·rintro ⟨u,v',rfl,hu,hv⟩;rw [Eu] at hv;exact ⟨x.run 0 v',hx.run_lt v' hx.pos,(ih2 _).2 ⟨u,v',rfl,hu,rfl⟩,hv⟩
  have hsome:Cb x (Ap x s.2 z.toNat x.nxt.length)=true↔Star (fun u=>x.has u=true) (w++[z]):=by
   rw [Ib];constructor
   ·rintro ⟨q,_,ha,hq⟩;obtain ⟨u,v',rfl,hu,rfl⟩:=(hb q).1 hq;rw [List.append_assoc];exact .app hu ha
   ·intro hs;have:∀ a,Star (fun u=>x.has u=true) a→a=w++[z]→∃ q,q<x.nxt.length∧x.ok q=true∧(Ap x s.2 z.toNat x.nxt.length).testBit q=true:=fun a ha=>by
     induction ha with
     | nil=>intro e;simp at e
     | app hu hv ihu=>
      rename_i u v
      intro e;rcases Ou e.symm with ⟨rfl,he⟩|⟨v',rfl,rfl⟩
      ·exact ihu he
      ·exact ⟨x.run 0 (v'++[z]),hx.run_lt _ hx.pos,hv,(hb _).2 ⟨u,v',rfl,hu,rfl⟩⟩
    exact this _ hs rfl
  refine ⟨?_,fun r=>?_⟩
  ·show (0:Nat)=_;simp
  ·have e:(snx x s z.toNat).2.testBit r=true↔(Ap x s.2 z.toNat x.nxt.length).testBit r=true∨(Star (fun u=>x.has u=true) (w++[z])∧r=0):=by
    show (if Cb x (Ap x s.2 z.toNat x.nxt.length) then _ else _:Nat).testBit r=true↔_;rw [← hsome];cases Cb x (Ap x s.2 z.toNat x.nxt.length)
    ·simp
    ·simp only [if_true];rw [U6];simp
   rw [e,hb];constructor
   ·rintro (⟨u,v',rfl,hu,hv⟩|⟨hs,rfl⟩)
    ·exact ⟨u,v'++[z],by rw [List.append_assoc],hu,hv⟩
    ·exact ⟨w++[z],[],by simp,hs,rfl⟩
   ·rintro ⟨u,v,h,hu,hv⟩;rcases Ou h with ⟨rfl,rfl⟩|⟨v',rfl,rfl⟩
    ·exact .inr ⟨hu,hv.symm⟩
    ·exact .inl ⟨u,v',rfl,hu,hv⟩
theorem Xl {x:Tbl} (hx:TVal x) {c:Nat→Nat} {bs:List Nat} {l:List (Nat × Nat)} {t:Tbl} (h:Expl c bs (1,1) (snx x) (fun s=>s.1==1||Cb x s.2) l t) (hj:Joint x.cell x.cell c bs) (w:List UInt8) :
  t.has w=true↔Star (fun u=>x.has u=true) w:=by
 have hn:∀ (s:Nat × Nat) b,b<256→snx x s (bs.getD (c b) 0)=snx x s b:=fun s b hb=>by
  obtain ⟨_,h1,_⟩:=hj.rep b hb;have e2:∀ n,Ap x s.2 (bs.getD (c b) 0) n=Ap x s.2 b n:=fun n=>by
   induction n with
   | zero=>rfl
   | succ n ih=>simp only [Ap];rw [ih];unfold Tbl.stp;rw [h1]
  unfold snx;rw [e2]
 rw [h.has hj hn,Bool.or_eq_true,Ib];obtain ⟨s1,s2⟩:=Xo hx w;constructor
 ·rintro (h1|⟨q,_,ha,hb⟩)
  ·rw [beq_iff_eq,s1] at h1;have:w=[]:=by
    apply Classical.byContradiction;intro hne;rw [if_neg hne] at h1;omega
   rw [this];exact .nil
  ·obtain ⟨u,v,rfl,hu,rfl⟩:=(s2 q).1 hb;exact .app hu ha
 ·intro hs;by_cases hw:w=[]
  ·left;rw [beq_iff_eq,s1,if_pos hw]
  ·right
   have:∀ a,Star (fun u=>x.has u=true) a→a≠[]→∃ u v,a=u++v∧Star (fun u=>x.has u=true) u∧x.has v=true:=fun a ha hne=>by
    cases ha with
    | nil=>exact absurd rfl hne
    | app hu hv=>exact ⟨_,_,rfl,hu,hv⟩
   obtain ⟨u,v,rfl,hu,hv⟩:=this w hs hw;exact ⟨x.run 0 v,hx.run_lt v hx.pos,hv,(s2 _).2 ⟨u,v,rfl,hu,rfl⟩⟩
set_option maxRecDepth 100000
open Go.RowKit
theorem Wj (c d:Cls):(c==d)=(wd c 0==wd d 0&&(wd c 1==wd d 1&&(wd c 2==wd d 2&&wd c 3==wd d 3))):=by
 rw [Bool.eq_iff_iff];simp only [beq_iff_eq,Bool.and_eq_true];constructor
 ·rintro rfl;exact ⟨rfl,rfl,rfl,rfl⟩
 ·rintro ⟨h0,h1,h2,h3⟩;unfold wd at *;exact Wf fun i hi=>by
   match i,hi with
   | 0,_=>omega
   | 1,_=>omega
   | 2,_=>omega
   | 3,_=>omega
theorem Aag (a b c d:Int) (w:World):(part 60 #[.int .u64 a,.int .u64 b,.int .u64 c,.int .u64 d] 0).run Tryz.prog w=.ok (.int .u64 a) w:=by kernel_rfl
theorem Aaf (a b c d:Int) (w:World):(part 60 #[.int .u64 a,.int .u64 b,.int .u64 c,.int .u64 d] 1).run Tryz.prog w=.ok (.int .u64 b) w:=by kernel_rfl
theorem Aae (a b c d:Int) (w:World):(part 60 #[.int .u64 a,.int .u64 b,.int .u64 c,.int .u64 d] 2).run Tryz.prog w=.ok (.int .u64 c) w:=by kernel_rfl
theorem Aad (a b c d:Int) (w:World):(part 60 #[.int .u64 a,.int .u64 b,.int .u64 c,.int .u64 d] 3).run Tryz.prog w=.ok (.int .u64 d) w:=by kernel_rfl
theorem Agh:Tryz.prog.cellsOf 60=1:=by kernel_rfl
theorem Me (c d:Cls) (w:World):(Op.equalIn 10000 62 (.agg (Aa c)) (.agg (Aa d))).run Tryz.prog w=.ok (c==d) w:=by
 obtain ⟨i,hi⟩:∃ i,Tryz.prog.info? 60=some i:=by
  cases h:Tryz.prog.info? 60 with
  | some i=>exact ⟨i,rfl⟩
  | none => exact absurd h (by intro h; have : (Tryz.prog.info? 60).isSome = true := by kernel_rfl
                               rw [h] at this;cases this)
 rw [Wj];have h:=run_equalIn_array (P:=Tryz.prog) (w:=w) 9999 (Aa c) (Aa d) Tryz.underlying62 hi;refine h.trans ?_;rw [Agh];have e:∀ (x y:Int) (w:World),(Op.equalIn 9999 60 (.int .u64 x) (.int .u64 y)).run Tryz.prog w=.ok (x==y) w:=fun x y w=>run_equalIn_int (P:=Tryz.prog) w 9998 60 .u64 .u64 x y Tryz.underlying60
 simp only [List.range,List.range.loop,Op.eqItems,Sem.run_bind,Aag,Result.andThen_ok,e,Nat.mul_one];cases wd c 0==wd d 0
 ·simp
 simp only [Bool.not_true,Bool.false_eq_true,if_false,Bool.true_and,Sem.run_bind,Aaf,Result.andThen_ok,e];cases wd c 1==wd d 1
 ·simp
 simp only [Bool.not_true,Bool.false_eq_true,if_false,Bool.true_and,Sem.run_bind,Aae,Result.andThen_ok,e];cases wd c 2==wd d 2
 ·simp
 simp only [Bool.not_true,Bool.false_eq_true,if_false,Bool.true_and,Sem.run_bind,Aad,Result.andThen_ok,e];cases wd c 3==wd d 3<;>simp
theorem Iu:Tryz.prog.eqGuardType Tryz.prog.depth 62=false:=by kernel_rfl
open Go.RowKit Go.Shelf
end Go.Proofs.YtaiogolidlamiaaGreatDoor
