import Derived.Test.YtaiogolidlamiaaGreatDoorN01
import Derived.Laws.StructEq
import Derived.ChangeKeysEq
import Derived.Lib.TrailingZeros
import Derived.RangeFuncNested
import Derived.RangeFuncBound
import Derived.RangeFuncCalls
import Derived.RangeFuncLeaves
import Derived.RangeFuncBox
import Derived.OwnWalkIn
import Derived.TacticsInMore
import Derived.LoopNIn
import Derived.LoopIn
import Derived.Maps.AppendAt
import Derived.Shelf.SlLaysF0
import Derived.Ground.SlsfProg
import Derived.Shelf.SlGeneric
import Derived.Test.YtaiogolidlamiaaGreatDoorProg
import Derived.Sort.Grow
import Derived.Deep.Draws
set_option linter.unusedVariables false
set_option linter.unusedSimpArgs false
open Array renaming getElem?_eq_some_iff → ϐ, replicate_succ → ë, replicate_zero → ê
open Bool renaming false → Τ, true → Ξ, eq_iff_iff → ϯ, or_eq_true → Å, and_eq_true → Ϝ, false_eq_true → Þ, true_and → Ì
open Classical renaming byContradiction → ϧ
open Go renaming World → Λ, Value → Ν, cell_of_row → γ, heap_alloc_new → ϰ, undef → ς, frozen_of_row → Ϸ, setCell_eq_setRow → Ϧ, Calls → ϓ, wpQuiet_step → è
open Go.Ending renaming returned → θ
open Go.IntKind renaming u64 → π, u64 → ϱ, i64 → ε
open Go.Lib renaming hid → Α
open Go.Obj renaming cells → Ε
open Go.Proofs.Tryz renaming prog → Ζ, underlying62 → ϑ
open Go.Result renaming andThen_ok → ï
open Go.Value renaming pointer → Ω, int → ö, slice → Β
open Go.World renaming size_alloc → Ρ, putObj_heap_other → Ç
open List renaming getD_eq_getElem?_getD → Η, getElem?_eq_getElem → Μ, pairwise_iff_getElem → Ϯ, getElem_mem → í, length_cons → ϲ, range → ι, mem_range → υ, mem_map → ϸ, append_assoc → Ñ, size_toArray → ð, append_toArray → ô, length_append → Υ
open Nat renaming le_refl → ν, le_trans → ψ, lt_of_lt_of_le → δ, zero_add → é
open Option renaming some → Δ, none → Γ
open UInt8 renaming ofNat → χ
namespace Go.Proofs.YtaiogolidlamiaaGreatDoor
set_option maxRecDepth 100000
structure Dfa where
 cls:List Cls
 n:List (List Nat)
 acc:List Bool
def Ak (L:List Cls) (b:Nat):Nat:=L.findIdx λc=>c.getLsbD b
namespace Dfa
def ent2 (d:Dfa) (s k:Nat):Nat:=(d.n.getD s []).getD k 0
def stp (d:Dfa) (s b:Nat):Nat:=d.ent2 s (Ak d.cls b)
def run (d:Dfa) (s:Nat) (w:List UInt8):Nat:=w.foldl (λs x=>d.stp s x.toNat) s
def ok (d:Dfa) (s:Nat):Bool:=d.acc.getD s Τ
def has (d:Dfa) (w:List UInt8):Bool:=d.ok (d.run 0 w)
def ent (d:Dfa) (p:Nat):Nat:=d.ent2 (p / d.cls.length) (p % d.cls.length)
end Dfa
structure Parts (L:List Cls):Prop where
 nz:∀ c∈L,c≠0#256
 dis:L.Pairwise Dis
 cov:∀ i,i<256->∃ c∈L,c.getLsbD i=Ξ
structure Val (d:Dfa):Prop where
 pos:0<d.n.length
 accL:d.acc.length=d.n.length
 row:∀ s,s<d.n.length->(d.n.getD s []).length=d.cls.length
 tgt:∀ s,s<d.n.length->∀ k,k<d.cls.length->d.ent2 s k<d.n.length
 parts:Parts d.cls
theorem cell_lt {L:List Cls} (h:Parts L) {b:Nat} (D:b<256):Ak L b<L.length:=by
 obtain⟨c,E,G⟩:=h.cov b D;exact List.findIdx_lt_length_of_exists ⟨c,E,G⟩
theorem E7 {L:List Cls} (h:Parts L) {b:Nat} (D:b<256):(L.getD (Ak L b) 0#256).getLsbD b=Ξ:=by
 have:=List.findIdx_getElem (w:=cell_lt h D);rw[Η,Μ (cell_lt h D)];exact this
theorem E6 {L:List Cls} (h:Parts L) {b k:Nat} (I:b<256) (D:k<L.length) (hm:(L.getD k 0#256).getLsbD b=Ξ):Ak L b=k:=by
 have E:=E7 h I;have G:=cell_lt h I;rw[Η,Μ G] at E;rw[Η,Μ D] at hm;rcases Nat.lt_trichotomy (Ak L b) k with J|he|hg
 ·exact absurd ⟨E,hm⟩ (Ϯ.1 h.dis _ _ G D J b)
 ·exact he
 ·exact absurd ⟨hm,E⟩ (Ϯ.1 h.dis _ _ D G hg b)
theorem Jl {L:List Cls} (h:Parts L) {k:Nat} (D:k<L.length):∃ b,b<256/\Ak L b=k:=by
 have hn:=h.nz (L.getD k 0#256) (by rw[Η,Μ D];exact í D);obtain⟨b,E,G⟩:=Nl hn;exact⟨b,E,E6 h E D G⟩
theorem Rj {L:List Cls} (h:Parts L) {i j:Nat} (hi:i<256) (D:j<256):Alk L i j↔Ak L i=Ak L j:=by
 constructor
 ·intro ha;refine (E6 h D (cell_lt h hi) ?_).symm;rw[<-ha _ (by rw[Η,Μ (cell_lt h hi)];exact í _)];exact E7 h hi
 ·intro he c I;obtain⟨k,G,rfl⟩:=Gm (d:=0#256) I;rw[ϯ];constructor
  ·intro E;have:=E6 h hi G E;rw[<-this,he];exact E7 h D
  ·intro E;have:=E6 h D G E;rw[<-this,<-he];exact E7 h hi
theorem My {L:List Cls} (h:Parts L):IsCells L L where
 dis:=h.dis
 nz:=h.nz
 cover:=h.cov
 cls:=λc G i hi I j D=>by
  obtain⟨k,E,rfl⟩:=Gm (d:=0#256) G;rw[Rj h hi D,E6 h hi E I];exact⟨λJ=>(E6 h D E J).symm,λe=>by rw[e];exact E7 h D⟩
theorem Val.stp_lt {d:Dfa} (h:Val d) {s b:Nat} (hs:s<d.n.length) (D:b<256):d.stp s b<d.n.length:=
 h.tgt s hs _ (cell_lt h.parts D)
theorem Val.run_lt {d:Dfa} (h:Val d):∀ (w:List UInt8) {s:Nat},s<d.n.length->d.run s w<d.n.length
 | [],_,hs=>hs
 | x::w,_,hs=>h.run_lt w (h.stp_lt hs x.toNat_lt)
theorem B9 (d:Dfa) (s:Nat) (u w:List UInt8):d.run s (u++w)=d.run (d.run s u) w:=by simp[Dfa.run,List.foldl_append]
def mxf (a:Nat->Nat):Nat->Nat
 | 0=>0
 | p+1=>max (mxf a p) (a p)
theorem Vo (a:Nat->Nat) (p q:Nat) (h:q<p):a q<=mxf a p:=by
 induction p with
 | zero=>omega
 | succ p D=>
  simp only[mxf];by_cases e:q=p
  ·subst e;omega
  ·have:=D (by omega);omega
theorem Gl (a b:Nat->Nat) (p:Nat) (h:∀ q,q<p->a q=b q):mxf a p=mxf b p:=by
 induction p with
 | zero=>rfl
 | succ p D=>simp only[mxf];rw[D λq E=>h q (by omega),h p (by omega)]
structure Cano (d:Dfa):Prop where
 val:Val d
 reach:∀ s,s<d.n.length->∃ w,d.run 0 w=s
 red:∀ s t,s<d.n.length->t<d.n.length->(∀ w,d.ok (d.run s w)=d.ok (d.run t w))->s=t
 col:∀ i j,i<d.cls.length->j<d.cls.length->(∀ s,s<d.n.length->d.ent2 s i=d.ent2 s j)->i=j
 srt:d.cls.Pairwise λa b=>key a<=key b
 rgf:∀ p,p<d.n.length*d.cls.length->d.ent p<=mxf d.ent p+1
section
variable {d e:Dfa}
theorem Ahc (hd:Cano d) (he:Cano e) (h:∀ w,d.has w=e.has w):∃ f:Nat->Nat,(∀ w,f (d.run 0 w)=e.run 0 w):=by
 have key:∀ w w',d.run 0 w=d.run 0 w'->e.run 0 w=e.run 0 w':=λw w' D=>by
  refine he.red _ _ (he.val.run_lt _ he.val.pos) (he.val.run_lt _ he.val.pos) λu=>?_
  rw[<-B9,<-B9];show e.has _=e.has _;rw[<-h,<-h];unfold Dfa.has;rw[B9,B9,D]
 classical
 refine⟨λs=>if hs:∃ w,d.run 0 w=s then e.run 0 hs.choose else 0,λw=>?_⟩;have hs:∃ w',d.run 0 w'=d.run 0 w:=⟨w,rfl⟩;simp only[dif_pos hs];exact key _ _ hs.choose_spec
theorem Gw (hd:Cano d) (he:Cano e) (h:∀ w,d.has w=e.has w):d=e:=by
 obtain⟨f,T⟩:=Ahc hd he h;have f0:f 0=0:=T [];have aa:∀ s,s<d.n.length->∀ b,b<256->f (d.stp s b)=e.stp (f s) b:=λs hs b hb=>by
  obtain⟨w,rfl⟩:=hd.reach s hs;have D:=T (w++[χ b]);rw[B9,B9,<-T w] at D;have G:∀ (x:Dfa) (s:Nat),x.run s [χ b]=x.stp s b:=λx s=>by
   show x.stp s (χ b).toNat=_;rw[u8n b hb]
  rw[G,G] at D;exact D
 have aj:∀ s,s<d.n.length->f s<e.n.length:=λs hs=>by
  obtain⟨w,rfl⟩:=hd.reach s hs;rw[T];exact he.val.run_lt _ he.val.pos
 have ak:∀ s,s<d.n.length->e.ok (f s)=d.ok s:=λs hs=>by
  obtain⟨w,rfl⟩:=hd.reach s hs;rw[T];exact (h w).symm
 have ar:∀ (w:List UInt8) s,s<d.n.length->f (d.run s w)=e.run (f s) w:=λw s hs=>by
  obtain⟨u,rfl⟩:=hd.reach s hs;rw[<-B9,T,B9,T]
 have au:∀ s t,s<d.n.length->t<d.n.length->f s=f t->s=t:=λs t hs E bd=>
  hd.red s t hs E λw=>by
   rw[<-ak _ (hd.val.run_lt w hs),<-ak _ (hd.val.run_lt w E),ar w s hs,ar w t E,bd]
 have aw:∀ t,t<e.n.length->∃ s,s<d.n.length/\f s=t:=λt E=>by
  obtain⟨w,rfl⟩:=he.reach t E;exact⟨d.run 0 w,hd.val.run_lt w hd.val.pos,T w⟩
 have ax:∀ (x:Dfa),Cano x->∀ i j,i<256->j<256->(Ak x.cls i=Ak x.cls j↔∀ s,s<x.n.length->x.stp s i=x.stp s j):=λx hx i j hi M=>
  ⟨λhe s _=>by unfold Dfa.stp;rw[he],λhs=>hx.col _ _ (cell_lt hx.val.parts hi) (cell_lt hx.val.parts M) hs⟩
 have ad:d.cls=e.cls:=by
  refine (My hd.val.parts).eq (My he.val.parts) (λi j hi M=>?_) hd.srt he.srt;rw[Rj hd.val.parts hi M,Rj he.val.parts hi M,ax d hd i j hi M,ax e he i j hi M];constructor
  ·intro hs t E;obtain⟨s,ab,rfl⟩:=aw t E;rw[<-aa s ab i hi,<-aa s ab j M,hs s ab]
  ·intro E s hs;exact au _ _ (hd.val.stp_lt hs hi) (hd.val.stp_lt hs M) (by rw[aa s hs i hi,aa s hs j M,E _ (aj s hs)])
 have hm:d.cls.length=e.cls.length:=by rw[ad]
 have be:∀ s,s<d.n.length->∀ k,k<d.cls.length->f (d.ent2 s k)=e.ent2 (f s) k:=λs hs k I=>by
  obtain⟨b,hb,bf⟩:=Jl hd.val.parts I;have D:=aa s hs b hb;unfold Dfa.stp at D;rw[<-ad,bf] at D;exact D
 have ae:0<d.cls.length:=by
  obtain⟨c,U,_⟩:=hd.val.parts.cov 0 (by omega);exact List.length_pos_of_mem U
 have bg:∀ p,p<=d.n.length*d.cls.length->(∀ q,q<p->d.ent q=e.ent q)/\∀ t,t<=mxf d.ent p->f t=t:=by
  intro p;induction p with
  | zero=>exact λ_=>⟨λq hq=>by omega,λt E=>by simp only[mxf] at E;obtain rfl:t=0:=(by omega);exact f0⟩
  | succ p ih=>
   intro hp;obtain⟨ay,af⟩:=ih (by omega);have hs:p / d.cls.length<d.n.length:=Nat.div_lt_of_lt_mul (by rw[Nat.mul_comm];omega);have I:p % d.cls.length<d.cls.length:=Nat.mod_lt _ ae;have az:p / d.cls.length<=mxf d.ent p:=by
    apply ϧ;intro hn;have bj:∀ (w:List UInt8) s,s<p / d.cls.length->d.run s w<p / d.cls.length:=λw=>by
     induction w with
     | nil=>intro s hs;exact hs
     | cons x w bk=>
      intro s ab;refine bk _ ?_;have a1:=cell_lt hd.val.parts x.toNat_lt;have hq:s*d.cls.length+Ak d.cls x.toNat<p:=by
       have D:s*d.cls.length+d.cls.length<=p / d.cls.length*d.cls.length:=by
        rw[<-Nat.succ_mul];exact Nat.mul_le_mul_right _ ab
       have G:=Nat.div_mul_le_self p d.cls.length;omega
      have J:=Vo d.ent p _ hq;have h4:d.ent (s*d.cls.length+Ak d.cls x.toNat)=d.stp s x.toNat:=by
       unfold Dfa.ent Dfa.stp;rw[Nat.mul_comm,Nat.mul_add_div ae,Nat.div_eq_of_lt a1,Nat.add_zero,Nat.mul_add_mod,Nat.mod_eq_of_lt a1]
      show d.stp s x.toNat<_;omega
    obtain⟨w,hw⟩:=hd.reach _ hs;have:=bj w 0 (by omega);omega
   have a6:=af _ az;have a7:e.ent p=f (d.ent p):=by
    unfold Dfa.ent;rw[be _ hs _ I,a6,<-hm]
   have bl:d.ent p<d.n.length:=hd.val.tgt _ hs _ I;have bm:p<e.n.length*e.cls.length:=by
    have D:=aj _ hs;rw[a6] at D;have G:=Nat.div_add_mod p d.cls.length;rw[<-hm];have J:(p / d.cls.length+1)*d.cls.length<=e.n.length*d.cls.length:=Nat.mul_le_mul_right _ D;rw[Nat.succ_mul,Nat.mul_comm (p / d.cls.length)] at J;omega
   have bz:=hd.rgf p (by omega);have bn:=he.rgf p bm;rw[<-Gl d.ent e.ent p ay,a7] at bn;have a8:f (d.ent p)=d.ent p:=by
    by_cases ah:d.ent p<=mxf d.ent p
    ·exact af _ ah
    ·have D:¬ f (d.ent p)<=mxf d.ent p:=λU=>by
      have G:=af _ U;have J:f (d.ent p)<d.n.length:=by
       have:=az;omega
      exact ah (by rw[au _ _ bl J G.symm];exact U)
     omega
   refine⟨λq hq=>?_,λt E=>?_⟩
   ·by_cases bo:q=p
    ·subst bo;rw[a7,a8]
    ·exact ay q (by omega)
   ·simp only[mxf] at E;by_cases ah:t<=mxf d.ent p
    ·exact af t ah
    ·obtain rfl:t=d.ent p:=by omega
     exact a8
 obtain⟨bp,bq⟩:=bg _ (ν _);have ao:∀ (x:Dfa),0<x.cls.length->∀ s k,k<x.cls.length->x.ent (s*x.cls.length+k)=x.ent2 s k:=λx h0 s k I=>by
  unfold Dfa.ent;rw[Nat.mul_comm,Nat.mul_add_div h0,Nat.div_eq_of_lt I,Nat.add_zero,Nat.mul_add_mod,Nat.mod_eq_of_lt I]
 have ba:∀ n s k,s<n->k<d.cls.length->s*d.cls.length+k<n*d.cls.length:=λn s k hs I=>by
  have:(s+1)*d.cls.length<=n*d.cls.length:=Nat.mul_le_mul_right _ hs;rw[Nat.succ_mul] at this;omega
 have aq:∀ t,t<d.n.length->f t=t:=λt E=>by
  obtain⟨w,hw⟩:=hd.reach t E;rcases List.eq_nil_or_concat w with rfl|⟨u,x,rfl⟩
  ·have:t=0:=hw.symm;rw[this];exact f0
  ·rw[List.concat_eq_append,B9] at hw;have I:=cell_lt hd.val.parts x.toNat_lt;have hu:=hd.val.run_lt u hd.val.pos;refine bq t ?_;have D:=Vo d.ent _ _ (ba _ _ _ hu I);rw[ao d ae _ _ I] at D;have G:d.ent2 (d.run 0 u) (Ak d.cls x.toNat)=t:=hw;rw[G] at D;exact D
 have hn:d.n.length=e.n.length:=by
  apply Nat.le_antisymm
  ·apply ϧ;intro U;have:=aj e.n.length (by omega);rw[aq _ (by omega)] at this;omega
  ·apply ϧ;intro U;obtain⟨s,hs,bt⟩:=aw d.n.length (by omega);rw[aq s hs] at bt;omega
 have bu:∀ s,s<d.n.length->d.n.getD s []=e.n.getD s []:=λs hs=>by
  apply List.ext_getElem
  ·rw[hd.val.row s hs,he.val.row s (by omega),hm]
  ·intro k D G;rw[hd.val.row s hs] at D;have J:=bp _ (ba _ s k hs D);rw[ao d ae s k D] at J;rw[hm,ao e (by omega) s k (by omega)] at J;unfold Dfa.ent2 at J;rw[Η (l:=d.n.getD s []),Η (l:=e.n.getD s []),Μ,Μ] at J;exact J
 have bb:d.n=e.n:=by
  apply List.ext_getElem hn;intro s D G;have:=bu s D
  rwa [Η,Η,Μ D,Μ G] at this
 have bc:d.acc=e.acc:=by
  apply List.ext_getElem (by rw[hd.val.accL,he.val.accL,hn]);intro s D G;have:=ak s (by rw[<-hd.val.accL];exact D);rw[aq s (by rw[<-hd.val.accL];exact D)] at this;unfold Dfa.ok at this;rw[Η,Η,Μ D,Μ G] at this;exact this.symm
 cases d;cases e
 simp only at ad bb bc;subst ad;subst bb;subst bc
 rfl
end
theorem Dy {α:Type} [DecidableEq α]:∀ (L M:List α),L.Nodup->(∀ x∈L,x∈M)->L.length<=M.length
 | [],M,_,_=>by simp
 | x::L,M,hn,hs=>by
  have D:=hs x List.mem_cons_self;have G:=Dy L (M.erase x) (List.nodup_cons.1 hn).2 λy E=>by
   rw[List.mem_erase_of_ne]
   ·exact hs y (List.mem_cons_of_mem _ E)
   ·rintro rfl;exact (List.nodup_cons.1 hn).1 E
  rw[List.length_erase_of_mem D] at G;have:=List.length_pos_of_mem D;rw[ϲ];omega
theorem Is (f:Nat->Nat) (n m:Nat) (h:∀ j,j<m->∃ i,i<n/\f i=j):m<=n:=by
 have:=Dy (ι m) ((ι n).map f) List.nodup_range λj D=>by
  obtain⟨i,hi,e⟩:=h j (υ.1 D);exact ϸ.2 ⟨i,υ.2 hi,e⟩
 simpa using this
theorem Uz (f:Nat->Nat) (m:Nat) (h:∀ j,j<m->∃ i,i<m/\f i=j) (i j:Nat) (hi:i<m) (E:j<m) (he:f i=f j):i=j:=by
 apply ϧ;intro G;have:=Dy (ι m) (((ι m).erase i).map f) List.nodup_range λq I=>by
  obtain⟨p,J,e⟩:=h q (υ.1 I);by_cases D:p=i
  ·subst D;exact ϸ.2 ⟨j,(List.mem_erase_of_ne (λe=>G e.symm)).2 (υ.2 E),by rw[<-he,e]⟩
  ·exact ϸ.2 ⟨p,(List.mem_erase_of_ne D).2 (υ.2 J),e⟩
 rw[List.length_map,List.length_erase_of_mem (υ.2 hi)] at this;simp at this;omega
structure Tbl where
 cell:Nat->Nat
 cells:Nat
 n:List (List Nat)
 acc:List Bool
namespace Tbl
def ent2 (t:Tbl) (s k:Nat):Nat:=(t.n.getD s []).getD k 0
def stp (t:Tbl) (s b:Nat):Nat:=t.ent2 s (t.cell b)
def run (t:Tbl) (s:Nat) (w:List UInt8):Nat:=w.foldl (λs x=>t.stp s x.toNat) s
def ok (t:Tbl) (s:Nat):Bool:=t.acc.getD s Τ
def has (t:Tbl) (w:List UInt8):Bool:=t.ok (t.run 0 w)
end Tbl
structure TVal (t:Tbl):Prop where
 pos:0<t.n.length
 accL:t.acc.length=t.n.length
 row:∀ s,s<t.n.length->(t.n.getD s []).length=t.cells
 tgt:∀ s,s<t.n.length->∀ k,k<t.cells->t.ent2 s k<t.n.length
 cell_lt:∀ b,b<256->t.cell b<t.cells
 onto:∀ k,k<t.cells->∃ b,b<256/\t.cell b=k
theorem TVal.stp_lt {t:Tbl} (h:TVal t) {s b:Nat} (hs:s<t.n.length) (D:b<256):t.stp s b<t.n.length:=h.tgt s hs _ (h.cell_lt b D)
theorem TVal.run_lt {t:Tbl} (h:TVal t):∀ (w:List UInt8) {s:Nat},s<t.n.length->t.run s w<t.n.length
 | [],_,hs=>hs
 | x::w,_,hs=>h.run_lt w (h.stp_lt hs x.toNat_lt)
theorem Ct (t:Tbl) (s:Nat) (u w:List UInt8):t.run s (u++w)=t.run (t.run s u) w:=by simp[Tbl.run,List.foldl_append]
def Leq (t:Tbl) (s s':Nat):Prop:=∀ w,t.ok (t.run s w)=t.ok (t.run s' w)
theorem Leq.step {t:Tbl} {s s':Nat} (h:Leq t s s') (b:Nat) (D:b<256):Leq t (t.stp s b) (t.stp s' b):=λw=>by
 have:=h (χ b::w);have e:∀ s,t.run s (χ b::w)=t.run (t.stp s b) w:=λs=>by
  show t.run (t.stp s (χ b).toNat) w=_;rw[u8n b D]
 rwa [e,e] at this
structure Reached (t:Tbl) (l:List Nat):Prop where
 head:l.getD 0 0=0
 ne:0<l.length
 nodup:l.Nodup
 lt:∀ s∈l,s<t.n.length
 closed:∀ s∈l,∀ k,k<t.cells->t.ent2 s k∈l
 all:∀ s∈l,∃ w,t.run 0 w=s
theorem Reached.zero {t:Tbl} {l:List Nat} (h:Reached t l):0∈l:=by
 have:=h.head;rw[Η,Μ h.ne] at this;rw[<-(show l[0]'h.ne=0 from this)];exact í _
theorem Reached.stp {t:Tbl} {l:List Nat} (h:Reached t l) (hv:TVal t) {s b:Nat} (hs:s∈l) (D:b<256):t.stp s b∈l:=h.closed s hs _ (hv.cell_lt b D)
theorem Reached.run {t:Tbl} {l:List Nat} (h:Reached t l) (hv:TVal t):∀ (w:List UInt8) {s:Nat},s∈l->t.run s w∈l
 | [],_,hs=>hs
 | x::w,_,hs=>h.run hv w (h.stp hv hs x.toNat_lt)
structure Blk (l:List Nat) (B:Nat->Nat) (R:List Nat):Prop where
 lt:∀ s∈l,B s<R.length
 mem:∀ i,i<R.length->R.getD i 0∈l
 rep:∀ i,i<R.length->B (R.getD i 0)=i
def Fp (t:Tbl) (l:List Nat) (B D:Nat->Nat):Prop:=
 ∀ s∈l,∀ s'∈l,(D s=D s'↔B s=B s'/\∀ k,k<t.cells->B (t.ent2 s k)=B (t.ent2 s' k))
structure Refi (t:Tbl) (l:List Nat) (B:Nat->Nat) (n:Nat):Prop where
 sound:∀ s∈l,∀ s'∈l,Leq t s s'->B s=B s'
 acc:∀ s∈l,∀ s'∈l,B s=B s'->t.ok s=t.ok s'
 num:0<n->∃ R,Blk l B R/\R.length=n
theorem Ua (t:Tbl) (l:List Nat) (B:Nat->Nat) (D:∀ s∈l,B s=if t.ok s then 1 else 0):Refi t l B 0 where
 sound:=λs hs s' E h=>by
  have:=h [];rw[D s hs,D s' E,show t.ok s=t.ok s' from this]
 acc:=λs hs s' E h=>by
  rw[D s hs,D s' E] at h;cases G:t.ok s<;>cases I:t.ok s'<;>simp[G,I] at h ⊢
 num:=λh=>by omega
theorem Ow {t:Tbl} (hv:TVal t) {l:List Nat} (I:Reached t l) {B G:Nat->Nat} {n:Nat} (h:Refi t l B n) (J:Fp t l B G) {R:List Nat} (E:Blk l G R):Refi t l G R.length where
 sound:=λs hs s' D he=>(J s hs s' D).2 ⟨h.sound s hs s' D he,λk M=>by
  obtain⟨b,E,rfl⟩:=hv.onto k M;exact h.sound _ (I.stp hv hs E) _ (I.stp hv D E) (he.step b E)⟩
 acc:=λs hs s' D he=>h.acc s hs s' D ((J s hs s' D).1 he).1
 num:=λ_=>⟨R,E,rfl⟩
theorem Md {t:Tbl} {l:List Nat} {B I:Nat->Nat} {n:Nat} (h:Refi t l B n) (M:Fp t l B I) {R:List Nat} (D:Blk l I R) (T:0<l.length):n<=R.length/\0<R.length:=by
 have U:0<R.length:=by
  have:=D.lt _ (í T);omega
 refine⟨?_,U⟩;by_cases hn:n=0
 ·omega
 ·obtain⟨J,E,rfl⟩:=h.num (by omega);refine Is (λi=>B (R.getD i 0)) _ _ λj G=>⟨I (J.getD j 0),D.lt _ (E.mem j G),?_⟩
  have h1:=D.rep _ (D.lt _ (E.mem j G));have h2:=((M _ (D.mem _ (D.lt _ (E.mem j G))) _ (E.mem j G)).1 h1).1;show B (R.getD (I (J.getD j 0)) 0)=j;rw[h2,E.rep j G]
theorem Ox {t:Tbl} (hv:TVal t) {l:List Nat} (I:Reached t l) {B D:Nat->Nat} {n:Nat} (h:Refi t l B n) (J:Fp t l B D) {R:List Nat} (E:Blk l D R) (hn:R.length=n) :
  ∀ s∈l,∀ s'∈l,(D s=D s'↔Leq t s s'):=by
 have ah:=(Md h J E I.ne).2;obtain⟨U,M,h0⟩:=h.num (by omega);have same:∀ s∈l,∀ s'∈l,B s=B s'->D s=D s':=λs hs s' G he=>by
  have ab:=Uz (λi=>B (R.getD i 0)) R.length λj hj=>by
   have T:j<U.length:=by omega
   refine⟨D (U.getD j 0),E.lt _ (M.mem j T),?_⟩;have h1:=E.rep _ (E.lt _ (M.mem j T));have h2:=((J _ (E.mem _ (E.lt _ (M.mem j T))) _ (M.mem j T)).1 h1).1;show B (R.getD (D (U.getD j 0)) 0)=j;rw[h2,M.rep j T]
  have hB:∀ s∈l,B (R.getD (D s) 0)=B s:=λs hs=>
   ((J _ (E.mem _ (E.lt s hs)) _ hs).1 (E.rep _ (E.lt s hs))).1
  exact ab _ _ (E.lt s hs) (E.lt s' G) (by show B (R.getD (D s) 0)=B (R.getD (D s') 0);rw[hB s hs,hB s' G,he])
 have af:∀ (w:List UInt8),∀ s∈l,∀ s'∈l,D s=D s'->D (t.run s w)=D (t.run s' w):=λw=>by
  induction w with
  | nil=>intro s _ s' _ he;exact he
  | cons x w ih=>
   intro s hs s' G he;refine ih _ (I.stp hv hs x.toNat_lt) _ (I.stp hv G x.toNat_lt) (same _ (I.stp hv hs x.toNat_lt) _ (I.stp hv G x.toNat_lt) ?_);exact ((J s hs s' G).1 he).2 _ (hv.cell_lt _ x.toNat_lt)
 intro s hs s' G;constructor
 ·intro he w;have:=af w s hs s' G he;exact h.acc _ (I.run hv w hs) _ (I.run hv w G) ((J _ (I.run hv w hs) _ (I.run hv w G)).1 this).1
 ·intro he;exact (Ow hv I h J E).sound s hs s' G he
structure Blocks (t:Tbl) (l:List Nat) (B:Nat->Nat) (R:List Nat):Prop where
 blk:Blk l B R
 leq:∀ s∈l,∀ s'∈l,(B s=B s'↔Leq t s s')
structure Merged (t:Tbl) (B:Nat->Nat) (R K:List Nat) (L:List Cls):Prop where
 parts:Parts L
 srt:L.Pairwise λa b=>key a<=key b
 len:K.length=L.length
 lt:∀ k,k<K.length->K.getD k 0<t.cells
 cell:∀ b,b<256->∀ i,i<R.length->B (t.ent2 (R.getD i 0) (K.getD (Ak L b) 0))=B (t.stp (R.getD i 0) b)
 col:∀ k k',k<K.length->k'<K.length->(∀ i,i<R.length->B (t.ent2 (R.getD i 0) (K.getD k 0))=B (t.ent2 (R.getD i 0) (K.getD k' 0)))->k=k'
structure Laid (t:Tbl) (B:Nat->Nat) (R K:List Nat) (L:List Cls) (O:List Nat) (d:Dfa):Prop where
 cls:d.cls=L
 len:d.n.length=O.length
 acl:d.acc.length=O.length
 zero:O.getD 0 0=B 0
 pos:0<O.length
 nodup:O.Nodup
 lt:∀ i,i<O.length->O.getD i 0<R.length
 row:∀ i,i<O.length->(d.n.getD i []).length=K.length
 tgt:∀ i,i<O.length->∀ k,k<K.length->d.ent2 i k<O.length/\O.getD (d.ent2 i k) 0=B (t.ent2 (R.getD (O.getD i 0) 0) (K.getD k 0))
 acc:∀ i,i<O.length->d.ok i=t.ok (R.getD (O.getD i 0) 0)
 rgf:∀ p,p<d.n.length*d.cls.length->d.ent p<=mxf d.ent p+1
 reach:∀ i,0<i->i<O.length->∃ j k,j<i/\k<K.length/\d.ent2 j k=i
theorem Wc {t:Tbl} (hv:TVal t) {l:List Nat} (E:Reached t l) {B:Nat->Nat} {R K:List Nat} {L:List Cls} {O:List Nat} {d:Dfa}
  (G:Blocks t l B R) (hm:Merged t B R K L) (h:Laid t B R K L O d):Cano d/\∀ w,d.has w=t.has w:=by
 have hn:=h.len;have ak:d.cls.length=K.length:=by rw[h.cls,hm.len]
 have J:∀ i,i<O.length->R.getD (O.getD i 0) 0∈l:=λi hi=>G.blk.mem _ (h.lt i hi)
 have T:∀ i,i<O.length->B (R.getD (O.getD i 0) 0)=O.getD i 0:=λi hi=>G.blk.rep _ (h.lt i hi)
 have al:Val d:=by
  refine⟨by have:=h.pos;omega,by rw[h.acl,hn],λs hs=>?_,λs hs k hk=>?_,by rw[h.cls];exact hm.parts⟩
  ·rw[h.row s (by omega),ak]
  ·rw[hn];exact (h.tgt s (by omega) k (by omega)).1
 have an:∀ i j,i<O.length->j<O.length->O.getD i 0=O.getD j 0->i=j:=λi j hi hj he=>by
  rw[Η,Η,Μ hi,Μ hj] at he;exact (List.getElem_inj h.nodup).1 he
 have step:∀ i s,i<O.length->s∈l->O.getD i 0=B s->∀ b,b<256->O.getD (d.stp i b) 0=B (t.stp s b)/\d.stp i b<O.length:=λi s hi hs he b M=>by
  have ao:Ak L b<K.length:=by rw[hm.len];exact cell_lt hm.parts M
  have D:=h.tgt i hi _ ao;have h2:=hm.cell b M _ (h.lt i hi);have h3:B (t.stp (R.getD (O.getD i 0) 0) b)=B (t.stp s b):=by
   have hq:Leq t (R.getD (O.getD i 0) 0) s:=(G.leq _ (J i hi) _ hs).1 (by rw[T i hi,he]);exact (G.leq _ (E.stp hv (J i hi) M) _ (E.stp hv hs M)).2 (hq.step b M)
  unfold Dfa.stp;rw[h.cls];exact⟨by rw[D.2,h2,h3],D.1⟩
 have af:∀ (w:List UInt8) i s,i<O.length->s∈l->O.getD i 0=B s->O.getD (d.run i w) 0=B (t.run s w)/\d.run i w<O.length:=λw=>by
  induction w with
  | nil=>intro i s hi _ he;exact⟨he,hi⟩
  | cons x w ih=>
   intro i s hi hs he;have D:=step i s hi hs he x.toNat x.toNat_lt;exact ih _ _ D.2 (E.stp hv hs x.toNat_lt) D.1
 have ar:∀ i s,i<O.length->s∈l->O.getD i 0=B s->d.ok i=t.ok s:=λi s hi hs he=>by
  rw[h.acc i hi];exact (G.leq _ (J i hi) _ hs).1 (by rw[T i hi,he]) []
 have ah:∀ i s,i<O.length->s∈l->O.getD i 0=B s->∀ w,d.ok (d.run i w)=t.ok (t.run s w):=λi s hi hs he w=>by
  have D:=af w i s hi hs he;exact ar _ _ D.2 (E.run hv w hs) D.1
 refine⟨⟨al,?_,?_,?_,by rw[h.cls];exact hm.srt,h.rgf⟩,λw=>ah 0 0 h.pos E.zero h.zero w⟩
 ·-- az
  have:∀ n i,i<n->i<O.length->∃ w,d.run 0 w=i:=λn=>by
   induction n with
   | zero=>intro i hi;omega
   | succ n ih=>
    intro i hi I;by_cases h0:i=0
    ·exact⟨[],h0.symm⟩
    ·obtain⟨j,k,hj,hk,aw⟩:=h.reach i (by omega) I;obtain⟨w,hw⟩:=ih j (by omega) (by omega);obtain⟨b,M,ax⟩:=Jl hm.parts (k:=k) (by rw[<-hm.len];exact hk);refine⟨w++[χ b],?_⟩;rw[B9,hw];show d.stp j (χ b).toNat=i;rw[u8n b M];unfold Dfa.stp;rw[h.cls,ax,aw]
  intro s hs;exact this (s+1) s (by omega) (by omega)
 ·-- a1
  intro i j hi hj he;have I:i<O.length:=by omega
  have U:j<O.length:=by omega
  refine an i j I U ?_;rw[<-T i I,<-T j U];refine (G.leq _ (J i I) _ (J j U)).2 λw=>?_
  rw[<-ah i _ I (J i I) (T i I).symm w,<-ah j _ U (J j U) (T j U).symm w];exact he w
 ·-- a6 a7 differ
  intro k k' hk a8 he;refine hm.col k k' (by omega) (by omega) λi hi=>?_
  have ay:∀ (w:List UInt8),∃ q,q<O.length/\O.getD q 0=B (t.run 0 w):=λw=>
   ⟨d.run 0 w,(af w 0 0 h.pos E.zero h.zero).2,(af w 0 0 h.pos E.zero h.zero).1⟩
  obtain⟨w,hw⟩:=E.all _ (G.blk.mem i hi);obtain⟨q,hq,aj⟩:=ay w;rw[hw,G.blk.rep i hi] at aj;have D:=(h.tgt q hq k (by omega)).2;have h2:=(h.tgt q hq k' (by omega)).2;rw[aj] at D h2;rw[<-D,<-h2,he q (by omega)]
structure Joint (a b:Nat->Nat) (c:Nat->Nat) (bs:List Nat):Prop where
 lt:∀ x,x<256->c x<bs.length
 byte:∀ k,k<bs.length->bs.getD k 0<256/\c (bs.getD k 0)=k
 same:∀ x y,x<256->y<256->(c x=c y↔a x=a y/\b x=b y)
theorem Joint.rep {a b c:Nat->Nat} {bs:List Nat} (h:Joint a b c bs) (x:Nat) (D:x<256):bs.getD (c x) 0<256/\a (bs.getD (c x) 0)=a x/\b (bs.getD (c x) 0)=b x:=by
 obtain⟨E,G⟩:=h.byte _ (h.lt x D);exact⟨E,((h.same _ _ E D).1 G).1,((h.same _ _ E D).1 G).2⟩
section
variable {σ:Type}
def Ax (nx:σ->Nat->σ) (s:σ) (w:List UInt8):σ:=w.foldl (λs x=>nx s x.toNat) s
structure Expl (c:Nat->Nat) (bs:List Nat) (st:σ) (nx:σ->Nat->σ) (ac:σ->Bool) (l:List σ) (t:Tbl):Prop where
 cell:t.cell=c
 cells:t.cells=bs.length
 len:t.n.length=l.length
 acl:t.acc.length=l.length
 pos:0<l.length
 nodup:l.Nodup
 zero:l[0]? = Δ st
 row:∀ i,i<l.length->(t.n.getD i []).length=bs.length
 tgt:∀ (i:Nat) (s:σ),l[i]? = Δ s->∀ k,k<bs.length->t.ent2 i k<l.length/\l[t.ent2 i k]? = Δ (nx s (bs.getD k 0))
 acc:∀ (i:Nat) (s:σ),l[i]? = Δ s->t.ok i=ac s
 reach:∀ (i:Nat) (s:σ),l[i]? = Δ s->∃ w,Ax nx st w=s
theorem Expl.tval {c:Nat->Nat} {bs:List Nat} {st:σ} {nx:σ->Nat->σ} {ac:σ->Bool} {l:List σ} {t:Tbl} (h:Expl c bs st nx ac l t) {a b:Nat->Nat} (E:Joint a b c bs):TVal t where
 pos:=by rw[h.len];exact h.pos
 accL:=by rw[h.acl,h.len]
 row:=λs hs=>by rw[h.row s (by rw[<-h.len];exact hs),h.cells]
 tgt:=λs hs k D=>by
  rw[h.len] at hs ⊢;exact (h.tgt s _ (Μ hs) k (by rw[<-h.cells];exact D)).1
 cell_lt:=λx G=>by rw[h.cell,h.cells];exact E.lt x G
 onto:=λk D=>by
  rw[h.cells] at D;exact⟨_,(E.byte k D).1,by rw[h.cell];exact (E.byte k D).2⟩
theorem Expl.has {c:Nat->Nat} {bs:List Nat} {st:σ} {nx:σ->Nat->σ} {ac:σ->Bool} {l:List σ} {t:Tbl} (h:Expl c bs st nx ac l t) {a b:Nat->Nat} (E:Joint a b c bs)
  (hn:∀ s x,x<256->nx s (bs.getD (c x) 0)=nx s x) (w:List UInt8):t.has w=ac (Ax nx st w):=by
 have:∀ (w:List UInt8) i s,l[i]? = Δ s->l[t.run i w]? = Δ (Ax nx s w):=λw=>by
  induction w with
  | nil=>intro i s hi;exact hi
  | cons x w G=>
   intro i s hi;have D:=(h.tgt i s hi _ (E.lt _ x.toNat_lt)).2;rw[hn s _ x.toNat_lt] at D;refine G (t.stp i x.toNat) _ ?_;unfold Tbl.stp;rw[h.cell];exact D
 exact h.acc _ _ (this w 0 st h.zero)
end
def Ae (d:Dfa):Tbl:=⟨Ak d.cls,d.cls.length,d.n,d.acc⟩
theorem Bj {d:Dfa} (h:Val d):TVal (Ae d) where
 pos:=h.pos
 accL:=h.accL
 row:=h.row
 tgt:=h.tgt
 cell_lt:=λb D=>cell_lt h.parts D
 onto:=λk E=>Jl h.parts E
theorem Sw (d:Dfa) (w:List UInt8):∀ s,(Ae d).run s w=d.run s w:=by
 induction w with
 | nil=>intro s;rfl
 | cons x w D=>intro s;exact D _
theorem Dp (d:Dfa) (w:List UInt8):(Ae d).has w=d.has w:=by
 unfold Tbl.has Dfa.has;rw[Sw];rfl
def Az (y:Tbl) (S c:Nat):Nat->Nat
 | 0=>0
 | n+1=>if S.testBit n then Az y S c n ||| 2 ^ y.stp n c else Az y S c n
theorem St (y:Tbl) (S c n r:Nat):(Az y S c n).testBit r=Ξ↔∃ q,q<n/\S.testBit q=Ξ/\y.stp q c=r:=by
 induction n with
 | zero=>simp[Az]
 | succ n I=>
  simp only[Az];split
  ·rename_i h
   rw[Nat.testBit_or,Å,I,Nat.testBit_two_pow,decide_eq_true_eq];constructor
   ·rintro (⟨q,G,D,E⟩|e)
    ·exact⟨q,by omega,D,E⟩
    ·exact⟨n,by omega,h,e⟩
   ·rintro⟨q,G,D,E⟩;by_cases e:q=n
    ·subst e;exact .inr E
    ·exact .inl ⟨q,by omega,D,E⟩
  ·rename_i h
   rw[I];constructor
   ·rintro⟨q,G,D,E⟩;exact⟨q,by omega,D,E⟩
   ·rintro⟨q,G,D,E⟩;refine⟨q,?_,D,E⟩;by_cases e:q=n
    ·subst e;exact absurd D h
    ·omega
def Cu (y:Tbl) (S:Nat):Bool:=(ι y.n.length).any λq=>y.ok q&&S.testBit q
theorem J8 (y:Tbl) (S:Nat):Cu y S=Ξ↔∃ q,q<y.n.length/\y.ok q=Ξ/\S.testBit q=Ξ:=by
 unfold Cu;rw[List.any_eq_true];constructor
 ·rintro⟨q,D,h⟩;rw[Ϝ] at h;exact⟨q,υ.1 D,h.1,h.2⟩
 ·rintro⟨q,D,E,G⟩;exact⟨q,υ.2 D,by rw[E,G];rfl⟩
theorem Et {P:List UInt8->Prop} (h0:P []) (h1:∀ w x,P w->P (w++[x])) (w:List UInt8):P w:=by
 have:∀ v:List UInt8,P v.reverse:=λv=>by
  induction v with
  | nil=>exact h0
  | cons x v D=>rw[List.reverse_cons];exact h1 _ _ D
 have h:=this w.reverse
 rwa [List.reverse_reverse] at h
theorem Ed {σ:Type} (nx:σ->Nat->σ) (s:σ) (w:List UInt8) (x:UInt8):Ax nx s (w++[x])=nx (Ax nx s w) x.toNat:=by simp[Ax,List.foldl_append]
theorem Ft (t:Tbl) (s:Nat) (w:List UInt8) (x:UInt8):t.run s (w++[x])=t.stp (t.run s w) x.toNat:=by rw[Ct];rfl
theorem Re {u v w:List UInt8} {x:UInt8} (h:w++[x]=u++v):(v=[]/\u=w++[x])\/∃ v',v=v'++[x]/\w=u++v':=by
 rcases List.eq_nil_or_concat v with rfl|⟨v',y,rfl⟩
 ·exact .inl ⟨rfl,by simpa using h.symm⟩
 ·rw[List.concat_eq_append,<-Ñ] at h;obtain⟨E,D⟩:=List.append_inj' h rfl;simp at D;subst D;exact .inr ⟨v',by rw[List.concat_eq_append],E⟩
def Cat (L M:List UInt8->Prop) (w:List UInt8):Prop:=∃ u v,w=u++v/\L u/\M v
inductive Star (L:List UInt8->Prop):List UInt8->Prop
 | nil:Star L []
 | app {u v:List UInt8}:Star L u->L v->Star L (u++v)
def F5 (x:Tbl) (p S:Nat):Nat × Nat:=(p,if x.ok p then S ||| 1 else S)
def cnx (x y:Tbl) (s:Nat × Nat) (c:Nat):Nat × Nat:=F5 x (x.stp s.1 c) (Az y s.2 c y.n.length)
def cst (x:Tbl):Nat × Nat:=F5 x 0 0
theorem Y2 (S r:Nat):(S ||| 1).testBit r=Ξ↔S.testBit r=Ξ\/r=0:=by
 rw[Nat.testBit_or,Å,show (1:Nat)=2 ^ 0 from rfl,Nat.testBit_two_pow,decide_eq_true_eq];constructor<;>rintro (h|h)
 ·exact .inl h
 ·exact .inr h.symm
 ·exact .inl h
 ·exact .inr h.symm
theorem Ye (x:Tbl) (p S r:Nat):(F5 x p S).2.testBit r=Ξ↔S.testBit r=Ξ\/(x.ok p=Ξ/\r=0):=by
 unfold F5;cases h:x.ok p
 ·simp
 ·simp only[if_true];rw[Y2];simp
theorem Yl {x y:Tbl} (D:TVal y) (w:List UInt8):(Ax (cnx x y) (cst x) w).1=x.run 0 w/\
  ∀ r,(Ax (cnx x y) (cst x) w).2.testBit r=Ξ↔∃ u v,w=u++v/\x.has u=Ξ/\y.run 0 v=r:=by
 induction w using Et with
 | h0=>
  refine⟨rfl,λr=>?_⟩;show (F5 x 0 0).2.testBit r=Ξ↔_;rw[Ye];constructor
  ·rintro (h|⟨h,rfl⟩)
   ·simp at h
   ·exact⟨[],[],rfl,h,rfl⟩
  ·rintro⟨u,v,h,h1,I⟩;obtain⟨rfl,rfl⟩:=List.append_eq_nil_iff.1 h.symm;exact .inr ⟨h1,I.symm⟩
 | h1 w z J=>
  obtain⟨E,G⟩:=J;rw[Ed];generalize Ax (cnx x y) (cst x) w=s at *;refine⟨?_,λr=>?_⟩
  ·show x.stp s.1 z.toNat=_;rw[E,Ft]
  ·show (F5 x (x.stp s.1 z.toNat) (Az y s.2 z.toNat y.n.length)).2.testBit r=Ξ↔_;rw[Ye,St,E,<-Ft];constructor
   ·rintro (⟨q,U,M,he⟩|⟨h,rfl⟩)
    ·obtain⟨u,v,rfl,hu,hv⟩:=(G q).1 M;exact⟨u,v++[z],by rw[Ñ],hu,by rw[Ft,hv,he]⟩
    ·exact⟨w++[z],[],by simp,h,rfl⟩
   ·rintro⟨u,v,h,hu,hv⟩;rcases Re h with⟨rfl,rfl⟩|⟨v',rfl,rfl⟩
    ·exact .inr ⟨hu,hv.symm⟩
    ·rw[Ft] at hv;exact .inl ⟨y.run 0 v',D.run_lt v' D.pos,(G _).2 ⟨u,v',rfl,hu,rfl⟩,hv⟩
theorem Amj {x y:Tbl} (D:TVal y) {c:Nat->Nat} {bs:List Nat} {l:List (Nat × Nat)} {t:Tbl} (h:Expl c bs (cst x) (cnx x y) (λs=>Cu y s.2) l t) (G:Joint x.cell y.cell c bs) (w:List UInt8) :
  t.has w=Ξ↔Cat (λu=>x.has u=Ξ) (λv=>y.has v=Ξ) w:=by
 rw[h.has G (λs b E=>?_),J8]
 ·constructor
  ·rintro⟨q,_,ha,E⟩;obtain⟨u,v,rfl,hu,rfl⟩:=((Yl D w).2 q).1 E;exact⟨u,v,rfl,hu,ha⟩
  ·rintro⟨u,v,rfl,hu,hv⟩;exact⟨y.run 0 v,D.run_lt v D.pos,hv,((Yl D _).2 _).2 ⟨u,v,rfl,hu,rfl⟩⟩
 ·obtain⟨_,I,J⟩:=G.rep b E;have M:∀ p,x.stp p (bs.getD (c b) 0)=x.stp p b:=λp=>by unfold Tbl.stp;rw[I]
  have T:∀ n,Az y s.2 (bs.getD (c b) 0) n=Az y s.2 b n:=λn=>by
   induction n with
   | zero=>rfl
   | succ n U=>simp only[Az];rw[U];unfold Tbl.stp;rw[J]
  unfold cnx;rw[M,T]
def snx (x:Tbl) (s:Nat × Nat) (c:Nat):Nat × Nat:=
 (0,if Cu x (Az x s.2 c x.n.length) then Az x s.2 c x.n.length ||| 1 else Az x s.2 c x.n.length)
theorem Abq {x:Tbl} (E:TVal x) (w:List UInt8):((Ax (snx x) (1,1) w).1=if w=[] then 1 else 0)/\
  ∀ r,(Ax (snx x) (1,1) w).2.testBit r=Ξ↔∃ u v,w=u++v/\Star (λu=>x.has u=Ξ) u/\x.run 0 v=r:=by
 induction w using Et with
 | h0=>
  refine⟨rfl,λr=>?_⟩;show (1:Nat).testBit r=Ξ↔_;rw[show (1:Nat)=2 ^ 0 from rfl,Nat.testBit_two_pow,decide_eq_true_eq];constructor
  ·rintro rfl;exact⟨[],[],rfl,.nil,rfl⟩
  ·rintro⟨u,v,h,h1,J⟩;obtain⟨rfl,rfl⟩:=List.append_eq_nil_iff.1 h.symm;exact J
 | h1 w z M=>
  obtain⟨_,G⟩:=M;rw[Ed];generalize Ax (snx x) (1,1) w=s at *;have D:∀ r,(Az x s.2 z.toNat x.n.length).testBit r=Ξ↔∃ u v',w=u++v'/\Star (λu=>x.has u=Ξ) u/\x.run 0 (v'++[z])=r:=λr=>by
   rw[St];constructor
   ·rintro⟨q,I,D,he⟩;obtain⟨u,v,rfl,hu,hv⟩:=(G q).1 D;exact⟨u,v,rfl,hu,by rw[Ft,hv,he]⟩
   ·rintro⟨u,v',rfl,hu,hv⟩;rw[Ft] at hv;exact⟨x.run 0 v',E.run_lt v' E.pos,(G _).2 ⟨u,v',rfl,hu,rfl⟩,hv⟩
  have T:Cu x (Az x s.2 z.toNat x.n.length)=Ξ↔Star (λu=>x.has u=Ξ) (w++[z]):=by
   rw[J8];constructor
   ·rintro⟨q,_,ha,I⟩;obtain⟨u,v',rfl,hu,rfl⟩:=(D q).1 I;rw[Ñ];exact .app hu ha
   ·intro hs;have:∀ a,Star (λu=>x.has u=Ξ) a->a=w++[z]->∃ q,q<x.n.length/\x.ok q=Ξ/\(Az x s.2 z.toNat x.n.length).testBit q=Ξ:=λa ha=>by
     induction ha with
     | nil=>intro e;simp at e
     | app hu hv U=>
      rename_i u v
      intro e;rcases Re e.symm with⟨rfl,he⟩|⟨v',rfl,rfl⟩
      ·exact U he
      ·exact⟨x.run 0 (v'++[z]),E.run_lt _ E.pos,hv,(D _).2 ⟨u,v',rfl,hu,rfl⟩⟩
    exact this _ hs rfl
  refine⟨?_,λr=>?_⟩
  ·show (0:Nat)=_;simp
  ·have e:(snx x s z.toNat).2.testBit r=Ξ↔(Az x s.2 z.toNat x.n.length).testBit r=Ξ\/(Star (λu=>x.has u=Ξ) (w++[z])/\r=0):=by
    show (if Cu x (Az x s.2 z.toNat x.n.length) then _ else _:Nat).testBit r=Ξ↔_;rw[<-T];cases Cu x (Az x s.2 z.toNat x.n.length)
    ·simp
    ·simp only[if_true];rw[Y2];simp
   rw[e,D];constructor
   ·rintro (⟨u,v',rfl,hu,hv⟩|⟨hs,rfl⟩)
    ·exact⟨u,v'++[z],by rw[Ñ],hu,hv⟩
    ·exact⟨w++[z],[],by simp,hs,rfl⟩
   ·rintro⟨u,v,h,hu,hv⟩;rcases Re h with⟨rfl,rfl⟩|⟨v',rfl,rfl⟩
    ·exact .inr ⟨hu,hv.symm⟩
    ·exact .inl ⟨u,v',rfl,hu,hv⟩
theorem Abn {x:Tbl} (E:TVal x) {c:Nat->Nat} {bs:List Nat} {l:List (Nat × Nat)} {t:Tbl} (h:Expl c bs (1,1) (snx x) (λs=>s.1==1||Cu x s.2) l t) (J:Joint x.cell x.cell c bs) (w:List UInt8) :
  t.has w=Ξ↔Star (λu=>x.has u=Ξ) w:=by
 have hn:∀ (s:Nat × Nat) b,b<256->snx x s (bs.getD (c b) 0)=snx x s b:=λs b G=>by
  obtain⟨_,D,_⟩:=J.rep b G;have e2:∀ n,Az x s.2 (bs.getD (c b) 0) n=Az x s.2 b n:=λn=>by
   induction n with
   | zero=>rfl
   | succ n ih=>simp only[Az];rw[ih];unfold Tbl.stp;rw[D]
  unfold snx;rw[e2]
 rw[h.has J hn,Å,J8];obtain⟨M,T⟩:=Abq E w;constructor
 ·rintro (D|⟨q,_,ha,G⟩)
  ·rw[beq_iff_eq,M] at D;have:w=[]:=by
    apply ϧ;intro I;rw[if_neg I] at D;omega
   rw[this];exact .nil
  ·obtain⟨u,v,rfl,hu,rfl⟩:=(T q).1 G;exact .app hu ha
 ·intro hs;by_cases U:w=[]
  ·left;rw[beq_iff_eq,M,if_pos U]
  ·right
   have:∀ a,Star (λu=>x.has u=Ξ) a->a≠[]->∃ u v,a=u++v/\Star (λu=>x.has u=Ξ) u/\x.has v=Ξ:=λa ha I=>by
    cases ha with
    | nil=>exact absurd rfl I
    | app hu hv=>exact⟨_,_,rfl,hu,hv⟩
   obtain⟨u,v,rfl,hu,hv⟩:=this w hs U;exact⟨x.run 0 v,E.run_lt v E.pos,hv,(T _).2 ⟨u,v,rfl,hu,rfl⟩⟩
open Go.RowKit
theorem Aan (c d:Cls):(c==d)=(wd c 0==wd d 0&&(wd c 1==wd d 1&&(wd c 2==wd d 2&&wd c 3==wd d 3))):=by
 rw[ϯ];simp only[beq_iff_eq,Ϝ];constructor
 ·rintro rfl;exact⟨rfl,rfl,rfl,rfl⟩
 ·rintro⟨D,E,G,I⟩;unfold wd at *;exact Aaj λi hi=>by
   match i,hi with
   | 0,_=>omega
   | 1,_=>omega
   | 2,_=>omega
   | 3,_=>omega
theorem Afq (a b c d:Int) (w:Λ):(part 60 #[.int π a,.int π b,.int π c,.int π d] 0).run Ζ w=.ok (.int π a) w:=by kernel_rfl
theorem Afp (a b c d:Int) (w:Λ):(part 60 #[.int π a,.int π b,.int π c,.int π d] 1).run Ζ w=.ok (.int π b) w:=by kernel_rfl
theorem Afo (a b c d:Int) (w:Λ):(part 60 #[.int π a,.int π b,.int π c,.int π d] 2).run Ζ w=.ok (.int π c) w:=by kernel_rfl
theorem Afn (a b c d:Int) (w:Λ):(part 60 #[.int π a,.int π b,.int π c,.int π d] 3).run Ζ w=.ok (.int π d) w:=by kernel_rfl
theorem Amg:Ζ.cellsOf 60=1:=by kernel_rfl
theorem L3 (c d:Cls) (w:Λ):(Op.equalIn 10000 62 (.agg (Ab c)) (.agg (Ab d))).run Ζ w=.ok (c==d) w:=by
 obtain⟨i,hi⟩:∃ i,Ζ.info? 60=Δ i:=by
  cases h:Ζ.info? 60 with
  | some i=>exact⟨i,rfl⟩
  | none => exact absurd h (by intro h; have : (Ζ.info? 60).isSome = Ξ := by kernel_rfl
                               rw[h] at this;cases this)
 rw[Aan];have h:=run_equalIn_array (P:=Ζ) (w:=w) 9999 (Ab c) (Ab d) ϑ hi;refine h.trans ?_;rw[Amg];have e:∀ (x y:Int) (w:Λ),(Op.equalIn 9999 60 (.int π x) (.int π y)).run Ζ w=.ok (x==y) w:=λx y w=>run_equalIn_int (P:=Ζ) w 9998 60 π π x y Tryz.underlying60
 simp only[ι,ι.loop,Op.eqItems,Sem.run_bind,Afq,ï,e,Nat.mul_one];cases wd c 0==wd d 0
 ·simp
 simp only[Bool.not_true,Þ,if_false,Ì,Sem.run_bind,Afp,ï,e];cases wd c 1==wd d 1
 ·simp
 simp only[Bool.not_true,Þ,if_false,Ì,Sem.run_bind,Afo,ï,e];cases wd c 2==wd d 2
 ·simp
 simp only[Bool.not_true,Þ,if_false,Ì,Sem.run_bind,Afn,ï,e];cases wd c 3==wd d 3<;>simp
theorem Agt (c d:Cls) (w:Λ):(binOp .neq 62 (.agg (Ab c)) (.agg (Ab d))).run Ζ w=.ok (.bool (c != d)) w:=by
 rw[run_neq_struct,L3];rfl
theorem Hj:Ζ.eqGuardType Ζ.depth 62=Τ:=by kernel_rfl
open Go.RowKit Go.Shelf
def hiB (x p:Nat):Nat:=x / 2 ^ p*2 ^ p
theorem Ajp (x:Nat):hiB x 0=x:=by simp[hiB]
theorem Wq (x p:Nat):hiB x p<=x:=Nat.div_mul_le_self _ _
theorem I5 (x p j:Nat):(hiB x p).testBit j=(decide (p<=j)&&x.testBit j):=by
 unfold hiB;rw[Nat.testBit_mul_two_pow,<-Nat.shiftRight_eq_div_pow,Nat.testBit_shiftRight];by_cases h:p<=j
 ·simp only[h,decide_true,Ì];congr 1;omega
 ·simp[h]
theorem Ahv (x p:Nat) (M:x<2 ^ 64) (h:hiB x p≠0) :
  p<=Lib.ctz 64 (hiB x p)/\Lib.ctz 64 (hiB x p)<64/\hiB x p &&& (hiB x p-1)=hiB x (Lib.ctz 64 (hiB x p)+1)/\x.testBit (Lib.ctz 64 (hiB x p))=Ξ/\∀ j,p<=j->j<Lib.ctz 64 (hiB x p)->x.testBit j=Τ:=by
 have T:hiB x p<2 ^ 64:=Nat.lt_of_le_of_lt (Wq x p) M;obtain⟨m,hm,U⟩:=Lib.ctzFrom_spec 64 (hiB x p) (by omega) T;have e:Lib.ctz 64 (hiB x p)=Lib.ctzFrom 64 (hiB x p):=by simp[Lib.ctz,h]
 rw[e];generalize hT:Lib.ctzFrom 64 (hiB x p)=t at *;have E:∀ j,(hiB x p).testBit j=(decide (t<=j)&&(2*m+1).testBit (j-t)):=λj=>by
  rw[hm,Nat.mul_comm,Nat.testBit_mul_two_pow]
 have I:p<=t:=by
  apply Nat.le_of_not_lt;intro ag;have D:=I5 x p t;rw[E t] at D;simp only[ν,decide_true,Ì,Nat.sub_self,Nat.testBit_zero] at D;have:decide (p<=t)=Τ:=by simp;omega
  rw[this,Bool.false_and] at D;simp at D
 have aa:x.testBit t=Ξ:=by
  have D:=I5 x p t;rw[E t] at D;simp only[ν,decide_true,Ì,Nat.sub_self,Nat.testBit_zero,I] at D;rw[<-D];simp
 refine⟨I,U,?_,aa,λj ah ai=>?_⟩
 ·have D:hiB x p=2 ^ t*(2*m+1)+0:=by rw[hm];rfl
  have ab:0<2 ^ t:=Nat.pow_pos (by omega);have h2:hiB x p-1=2 ^ t*(2*m)+(2 ^ t-1):=by rw[hm,Nat.mul_add];omega
  rw[h2,D,Hw t _ _ _ _ ab (by omega),Nat.zero_and,Nat.add_zero];have h3:(2*m+1) &&& (2*m)=2*m:=by
   have:=Hw 1 m 1 m 0 (by omega) (by omega)
   simpa [Nat.and_self] using this
  rw[h3];apply Nat.eq_of_testBit_eq;intro j;rw[I5,show 2 ^ t*(2*m)=m*2 ^ (t+1) by rw[Nat.pow_succ,Nat.mul_comm m,Nat.mul_assoc],Nat.testBit_mul_two_pow];by_cases J:t+1<=j
  ·simp only[J,decide_true,Ì];have G:=I5 x p j;rw[E j] at G;rw[show decide (t<=j)=Ξ by simp;omega,show decide (p<=j)=Ξ by simp;omega,Ì,Ì] at G;rw[<-G,show j-t=(j-(t+1))+1 by omega,Nat.testBit_succ]
   congr 1;omega
  ·simp[J]
 ·have D:=I5 x p j;rw[E j,show decide (t<=j)=Τ by simp;omega,show decide (p<=j)=Ξ by simp;omega,Bool.false_and,Ì] at D;exact D.symm
theorem Ys (c:Cls) (a b:Nat) (I:a<=b) (h:∀ j,a<=j->j<b->c.getLsbD j=Τ):Al c b=Al c a:=by
 induction b with
 | zero=>rw[show a=0 by omega]
 | succ b D=>
  by_cases E:a=b+1
  ·rw[E]
  ·simp only[Al];rw[h b (by omega) (by omega),D (by omega) (λj G J=>h j G (by omega))];simp
theorem Ag8 (c:Cls) (i p:Nat) (h:hiB (wn c i) p≠0) :
  Lib.ctz 64 (hiB (wn c i) p)<64/\hiB (wn c i) p &&& (hiB (wn c i) p-1)=hiB (wn c i) (Lib.ctz 64 (hiB (wn c i) p)+1)/\
  Al c (64*i+(Lib.ctz 64 (hiB (wn c i) p)+1))=Al c (64*i+p)++[χ (64*i+Lib.ctz 64 (hiB (wn c i) p))]:=by
 obtain⟨h1,I,J,D,M⟩:=Ahv (wn c i) p (D4 c i) h;refine⟨I,J,?_⟩;generalize Lib.ctz 64 (hiB (wn c i) p)=t at *;have T:∀ j,p<=j->j<t->c.getLsbD (64*i+j)=Τ:=λj E G=>by
  have:=M j E G;rw[Cn,show decide (j<64)=Ξ by simp;omega,Ì] at this;exact this
 have U:c.getLsbD (64*i+t)=Ξ:=by
  rw[Cn,show decide (t<64)=Ξ by simp;omega,Ì] at D;exact D
 rw[<-Nat.add_assoc];show (if c.getLsbD (64*i+t) then Al c (64*i+t)++[χ (64*i+t)] else Al c (64*i+t))=_;rw[if_pos U,Ys c (64*i+p) (64*i+t) (by omega) (λj E G=>by
  have:=T (j-64*i) (by omega) (by omega)
  rwa [show 64*i+(j-64*i)=j by omega] at this)]
theorem Ag9 (c:Cls) (i p:Nat) (D:p<=64) (h:hiB (wn c i) p=0):Al c (64*(i+1))=Al c (64*i+p):=by
 refine Ys c _ _ (by omega) (λj E G=>?_);have:=I5 (wn c i) p (j-64*i);rw[h,Nat.zero_testBit,show decide (p<=j-64*i)=Ξ by simp;omega,Ì,Cn,show decide (j-64*i<64)=Ξ by simp;omega,Ì,show 64*i+(j-64*i)=j by omega] at this;exact this.symm
theorem Yt (c:Cls) (a b:Nat) (G:a<=b):Al c a <+: Al c b:=by
 induction b with
 | zero=>rw[show a=0 by omega];exact List.prefix_refl _
 | succ b D=>
  by_cases E:a=b+1
  ·rw[E];exact List.prefix_refl _
  ·have D:=D (by omega);simp only[Al];split
   ·exact D.trans (List.prefix_append _ _)
   ·exact D
open Go Go.RowKit
def Np {α:Type} (F:Fence) (n:Nat) (P:Program) (g:Nat) (G:Array Ν) (I:α->Array Ν) (M:List α->α->Prop) (S T:List α->Prop) (w:Λ):Prop:=
 ∀ (l:Nat) (J D:List α->Λ->Prop) (W:Λ),(∀ pre W',J pre W'->Below w.heap.size w W')->
  (∀ pre x E,J pre E->M pre x->YieldAt F (n-1) P l (I x) E λe W'=>(e=θ (.bool Ξ)/\J (pre++[x]) W')\/(e=θ (.bool Τ)/\D (pre++[x]) W'))->
  J [] W->
  CallsIn F n P g (#[.func (.yield l) #[] #[]]++G) W λe W'=>(∃ v,e=θ v)/\((∃ xs,S xs/\J xs W')\/(∃ pre,T pre/\D pre W'))
def Af1 {α:Type} (I:List α->Λ->Prop) (D:Code->List α->Λ->Prop) (xs:List α) (W:Λ):Exit->Act->Λ->Prop
 | .normal,_,W'=>KeepsOthers W W'/\I xs W'
 | .ret,_,W'=>KeepsOthers W W'/\D .ret xs W'
 | .exit id,_,W'=>KeepsOthers W W'/\D (.exit id) xs W'
 | .goto t,_,W'=>KeepsOthers W W'/\D (.goto t) xs W'
 | .panic _,_,_=>False
 | .outgrown,_,_=>False
def Nr {β:Type} (B:Nat) (I:β->Λ->Prop):Prop:=∀ s W l (o D:Obj),I s W->B<=l->W.heap[l]? = Δ o->o.isCells=Τ->I s (W.putObj l D)
def Aob {β:Type} (I:β->Λ->Prop):Prop:=∀ s W (o:Obj),I s W->I s (W.alloc o)
variable {F:Fence} {n:Nat} {P:Program}
theorem R4 {α:Type} {g:Operand} {ps:Array Tmp} {assign body:Code} {Q:Exit->Act->Λ->Prop} {a:Act} {w:Λ}
  (a1:F.round=Γ) (h1:1<=n) {gf:Nat} {lb:Array Ν} (hg:a.eval g=.func (.func gf) #[] lb) (a7:F.fn gf) (eg:∀ args w,(callFunc gf args).run P w=.ok (.enter gf args) w)
  {aj:α->Array Ν} {Nx:List α->α->Prop} {S Sp:List α->Prop} {w0:Λ} (ba:Np F (n-1) P gf lb aj Nx S Sp w0) (bb:∀ x,(aj x).size=ps.size)
  (I:List α->Λ->Prop) (Ix:Code->List α->Λ->Prop) (hI:Nr w.heap.size I) (aw:Aob I) (al:∀ c,Nr w.heap.size (Ix c)) (hb:∀ pre W,I pre W->Below w0.heap.size w0 W) (h0:I [] w) (a₁:α->Act)
  (be:∀ (l:Nat) (x:α) (W:Λ) (K:Act->Λ->Prop),K (a₁ x) W->
   assign.wpIn (F.inRound l) (n-1-1) P (Exit.then K (λ_ _ _=>False)) { tmps:=(ps.zip (aj x)).foldl (λt (p,v)=>t.setIfInBounds p v) a.tmps,defers:=[] } W)
  (bf:∀ (l:Nat) (pre:List α) (x:α) (W:Λ),I pre W->Nx pre x->body.wpIn (F.inRound l) (n-1-1) P (Af1 I Ix (pre++[x]) W) (a₁ x) W)
  (bg:∀ (D:Nat) (xs:List α) (W:Λ),w.heap.size<=D->S xs->I xs W->W.heap[D]? = Δ (.deferred (Δ []))->Q .normal { a with defers:={ target:=.collected D,args:=#[] }::a.defers } W)
  (bh:∀ (D:Nat) (c:Code) (pre:List α) (W:Λ),w.heap.size<=D->Sp pre->Ix c pre W->W.heap[D]? = Δ (.deferred (Δ []))->c.wpIn F n P Q { a with defers:={ target:=.collected D,args:=#[] }::a.defers } W) :
  (Code.rangeFunc g ps assign body).wpIn F n P Q a w:=by
 refine wpIn_rangeFunc ?_;intro fn bj;rw[a1];obtain⟨rec,M⟩:∃ rec:LoopState->Option Code->Loop,rec=λst pe=>{ state:=st,pending:=pe,fn,tmps:=a.tmps,params:=ps,assign,body,defers:=w.heap.size }:=⟨_,rfl⟩
 obtain⟨W1,an⟩:∃ W1,(w.alloc (.deferred (Δ []))).alloc (.loop (rec .ready Γ))=W1:=⟨_,rfl⟩;have bl:W1.heap[w.heap.size+1]? = Δ (.loop (rec .ready Γ)):=by
  rw[<-an];have:=Λ.alloc_heap_new (w.alloc (.deferred (Δ []))) (.loop (rec .ready Γ));rwa [Ρ] at this
 have bm:W1.heap[w.heap.size]? = Δ (.deferred (Δ [])):=by
  rw[<-an];exact (Below.heap_alloc _ _ _ (by simp)).trans (Λ.alloc_heap_new w _)
 have bn:I [] W1:=by rw[<-an];exact aw _ _ _ (aw _ _ _ h0)
 refine⟨w.heap.size+1,[{ target:=.collected w.heap.size,args:=#[] }],W1,{ target:=.fn (.func gf) lb,args:=#[.func (.yield (w.heap.size+1)) #[] #[]] },W1,gf,
  #[.func (.yield (w.heap.size+1)) #[] #[]]++lb,W1,?_,?_,?_,?_,λ_=>h1,?_⟩
 ·rw[<-an,M];exact run_enterLoop_outer _ _ _ _ _
 ·simp only[resolve,hg];simp[go_sem]
 ·intro f' ay;simp[Target.leads] at ay;subst ay;exact a7
 ·simp[invoke,go_sem,eg]
 ·refine (ba (w.heap.size+1)
   (λpre W=>I pre W/\W.heap[w.heap.size+1]? = Δ (.loop (rec .ready Γ))/\W.heap[w.heap.size]? = Δ (.deferred (Δ [])))
   (λpre W=>∃ c,Ix c pre W/\W.heap[w.heap.size+1]? = Δ (.loop (rec .done (Δ c)))/\W.heap[w.heap.size]? = Δ (.deferred (Δ [])))
   W1 (λpre W h=>hb _ _ h.1) ?_ ⟨bn,bl,bm⟩).mono ?_
  ·rintro pre x W ⟨hi,T,hk⟩ bo;have bp:w.heap.size+1<W.heap.size:=(ϐ.1 T).1;have hy:=run_yield (P:=P) (args:=aj x) T (by rw[M];exact bb x);rw[M] at hy;refine⟨fn,_,assign,body,hy,roundIn_of_wpIn bj (be _ x W _ ⟨_,run_beginRound T (by rw[M]),?_⟩)⟩;have bq:(W.putObj (w.heap.size+1) (.loop { rec .ready Γ with state:=.busy })).heap[w.heap.size+1]? = Δ (.loop { rec .ready Γ with state:=.busy }):=Λ.putObj_heap_same bp;have br:(W.putObj (w.heap.size+1) (.loop { rec .ready Γ with state:=.busy })).heap[w.heap.size]? = Δ (.deferred (Δ [])):=(Ç (by omega)).trans hk;refine wpIn_mono (bf _ pre x _ (hI _ _ _ _ _ hi (by omega) T rfl) bo) ?_;have ao:∀ (E:Option Code) (G:Λ),KeepsOthers (W.putObj (w.heap.size+1) (.loop { rec .ready Γ with state:=.busy })) G->
     (Instr.endRound (w.heap.size+1) E).run P G=.ok (.bool E.isNone) (G.putObj (w.heap.size+1) (.loop (rec (if E.isNone then .ready else .done) E)))/\
     G.heap[w.heap.size+1]? = Δ (.loop { rec .ready Γ with state:=.busy })/\
     (G.putObj (w.heap.size+1) (.loop (rec (if E.isNone then .ready else .done) E))).heap[w.heap.size+1]? = Δ (.loop (rec (if E.isNone then .ready else .done) E))/\
     (G.putObj (w.heap.size+1) (.loop (rec (if E.isNone then .ready else .done) E))).heap[w.heap.size]? = Δ (.deferred (Δ [])):=λE G U=>by
    have J:=U.same _ _ bq rfl;have:=run_endRound (P:=P) E J;rw[M] at this ⊢;exact⟨this,by rw[M] at J;exact J,Λ.putObj_heap_same (ϐ.1 J).1,(Ç (by omega)).trans (U.same _ _ br rfl)⟩
   rintro e a3 G hp;cases e with
   | normal=>
    obtain⟨U,ab⟩:=hp;obtain⟨hr,J,ae,af⟩:=ao Γ G U;exact⟨_,_,hr,.inl ⟨rfl,hI _ _ _ _ _ ab (by omega) J rfl,ae,af⟩⟩
   | ret=>
    obtain⟨U,ab⟩:=hp;obtain⟨hr,J,ae,af⟩:=ao (Δ .ret) G U;exact⟨_,_,hr,.inr ⟨rfl,.ret,al _ _ _ _ _ _ ab (by omega) J rfl,ae,af⟩⟩
   | exit id=>
    obtain⟨U,ab⟩:=hp;obtain⟨hr,J,ae,af⟩:=ao (Δ (.exit id)) G U;exact⟨_,_,hr,.inr ⟨rfl,.exit id,al _ _ _ _ _ _ ab (by omega) J rfl,ae,af⟩⟩
   | goto t=>
    obtain⟨U,ab⟩:=hp;obtain⟨hr,J,ae,af⟩:=ao (Δ (.goto t)) G U;exact⟨_,_,hr,.inr ⟨rfl,.goto t,al _ _ _ _ _ _ ab (by omega) J rfl,ae,af⟩⟩
   | panic ch=>exact hp.elim
   | outgrown=>exact hp.elim
  ·rintro e W2 ⟨⟨v,rfl⟩,(⟨xs,hS,hi,T,hk⟩|⟨pre,bu,c,hi,T,hk⟩)⟩
   ·exact⟨Γ,_,by have:=run_endLoop (P:=P) T (by rw[M];simp);rw[M] at this;exact this,bg _ xs _ (ν _) hS (hI _ _ _ _ _ hi (by omega) T rfl) ((Ç (by omega)).trans hk)⟩
   ·exact⟨Δ c,_,by have:=run_endLoop (P:=P) T (by rw[M];simp);rw[M] at this;exact this,bh _ c pre _ (ν _) bu (al c _ _ _ _ _ hi (by omega) T rfl) ((Ç (by omega)).trans hk)⟩
theorem Ext.putObj {a b:Λ} (h:Ext a b) {l:Nat} (D:a.heap.size<=l) (o:Obj):Ext a (b.putObj l o):=
 h.grown (grownBy_putObj' b l o) (λk e=>by cases e;exact D)
attribute [local go_sem] Oper.semAt_some
def Tab (w:Λ):Prop:=∀ j,j<64->w.cell? ⟨0,j,Γ⟩=Δ (.int .u8 (Lib.deBruijn64tab.getD j 0:Nat))
theorem Tab.below {w W:Λ} {B:Nat} (h:Tab w) (D:Below B w W) (E:0<B):Tab W:=λj G=>(D.cell (p:=⟨0,j,Γ⟩) E).trans (h j G)
theorem Aav (x a:Nat) (D:x<18446744073709551616) (I:x≠0) (E:x &&& (18446744073709551616-x)=a) :
  ϱ.wrap (bits BinOp.and ϱ (x:Int) (ϱ.wrap (-(x:Int)))*285870213051353865) / 288230376151711744=((a*285870213051353865 % 18446744073709551616 / 288230376151711744:Nat):Int):=by
 have G:ϱ.wrap (-(x:Int))=((18446744073709551616-x:Nat):Int):=by rw[IntKind.wrap_u64];omega
 rw[G,u64_and_nat x _ D (by omega),E,IntKind.wrap_u64];omega
theorem Aaw (F:Fence) (n:Nat) (E:F.fn 153) (G:F.round=Γ) (x k D:Nat) (w:Λ) (I:((x:Int)==0)=Τ)
  (key:ϱ.wrap (bits BinOp.and ϱ (x:Int) (ϱ.wrap (-(x:Int)))*285870213051353865) / 288230376151711744=(D:Int))
  (hi:D<64) (J:k<64) (M:w.cell? ⟨0,D,Γ⟩=Δ (.int .u8 (k:Nat))) :
  CallsIn F n Ζ 153 #[.int π (x:Int)] w λe w'=>e=θ (.int ε (k:Nat))/\w'=w:=by
 refine callsIn_of_wp Tryz.func153 rfl E ?_ G;simp only[Tryz.ntmps153,ð,ϲ,List.length_nil,Nat.reduceAdd,Nat.reduceSub,ë,ê,List.push_toArray,ô,List.nil_append,List.cons_append]
 gi_wp2_with (simp only[key])
 go_ret;exact⟨rfl,rfl⟩
theorem Aax (F:Fence) (n:Nat) (J:F.fn 153) (M:F.round=Γ) (x:Nat) (D:x<18446744073709551616) (E:x≠0) (w:Λ) (T:Tab w) :
  CallsIn F n Ζ 153 #[.int π (x:Int)] w λe w'=>e=θ (.int ε (Lib.ctz 64 x:Nat))/\w'=w:=by
 obtain⟨U,G⟩:=Lib.lowest_bit 64 x E D;obtain⟨hi,aa⟩:=Lib.deBruijn64_at _ G;have I:=T _ hi;rw[aa] at I;exact Aaw F n J M x _ _ w (by simp;omega) (Aav x _ D E U) hi G I
theorem Zf (y:Nat) (D:y≠0) (h:y<18446744073709551616):bits BinOp.and ϱ (y:Int) ((y:Int)-1)=((y &&& (y-1):Nat):Int):=by
 rw[show ((y:Int)-1)=((y-1:Nat):Int) by omega,u64_and_nat _ _ h (by omega)]
theorem Aat (k:Nat) (h:k<256):((χ k).toNat:Int)=(k:Int):=by
 simp
 omega
set_option maxRecDepth 100000 in
theorem Ag7 (F:Fence) (n:Nat) (ao:F.fn 152) (aq:F.fn 153) (ab:F.round=Γ) (hn:1<=n) (l Bc:Nat) (c:Cls) (J Jx:List UInt8->Λ->Prop)
  (hT:∀ pre W,J pre W->Tab W)
  (hY:∀ pre x W,J pre W->(pre++[x]) <+: Al c 256->YieldAt F (n-1) Ζ l #[bv x] W λe W'=>(e=θ (.bool Ξ)/\J (pre++[x]) W')\/(e=θ (.bool Τ)/\Jx (pre++[x]) W'))
  (W:Λ) (E:W.heap[Bc]? = Δ (Ε (Ab c) 62 (0,0))) (h0:J [] W) :
  CallsIn F n Ζ 152 #[.func (.yield l) #[] #[],Ω (Δ ⟨Bc,0,Γ⟩)] W λe W'=>(∃ v,e=θ v)/\((∃ xs,xs=Al c 256/\J xs W')\/(∃ pre,pre <+: Al c 256/\Jx pre W')):=by
 have c0:=(γ W _ 0 _ _ _ E).trans rfl;have c1:=(γ W _ 1 _ _ _ E).trans rfl;have c2:=(γ W _ 2 _ _ _ E).trans rfl;have c3:=(γ W _ 3 _ _ _ E).trans rfl;clear E;refine callsIn_of_wp Tryz.func152 rfl ao ?_ ab;simp only[Tryz.ntmps152,ð,ϲ,List.length_nil,Nat.reduceAdd,Nat.reduceSub,ë,ê,List.push_toArray,ô,List.nil_append,List.cons_append]
 gi_wp2
 clear c0 c1 c2 c3
 gi_loopw [6] (λM wr=>∃ k:Nat,k<=4/\M=.int ε k/\J (Al c (64*k)) wr) (λM _=>4-(intOf M).toNat)
 case atStart=>exact⟨0,by omega,rfl,h0⟩
 case round=>
  obtain⟨k,hk,rfl,hJ⟩:=hrel;by_cases a1:k<4
  ·have a6:=Wn c k a1;have a7:decide ((k:Int)<4)=Ξ:=by simp;omega
   gi_wp2
   obtain⟨wo,rfl⟩:∃ wo:Λ,wo=wr:=⟨_,rfl⟩;clear a6 a7
   gi_loopw [4] (λT wr=>∃ p:Nat,p<=64/\T=.int π (hiB (wn c k) p:Nat)/\J (Al c (64*k+p)) wr) (λT _=>(intOf T).toNat)
   case atStart=>exact⟨0,by omega,by rw[Ajp];rfl,hJ⟩
   case round=>
    obtain⟨p,hp,rfl,G⟩:=hrel;have I:hiB (wn c k) p<18446744073709551616:=Nat.lt_of_le_of_lt (Wq _ _) (D4 c k);by_cases D:hiB (wn c k) p=0
    ·have ah:=Ag9 c k p hp D;rw[D];rw[<-ah] at G;clear ah D I
     gi_wp2
     go_roundw
     case rel=>exact⟨k+1,by omega,by go_num,G⟩
     case measure=>simp[intOf];omega
    ·obtain⟨ht,U,aa⟩:=Ag8 c k p D;have ai:=Aax F (n-1) aq ab (hiB (wn c k) p) I D wr (hT _ _ G);have aj:Al c (64*k+p)++[χ (64*k+Lib.ctz 64 (hiB (wn c k) p))] <+: Al c 256:=by
      rw[<-aa];exact Yt c _ _ (by omega)
     obtain⟨fn,bf,bg,bh,hy,hR⟩:=hY _ _ wr G aj;rw[<-aa] at hR;have HAnd:=Α U;have bj:hiB (wn c k) (Lib.ctz 64 (hiB (wn c k) p)+1)<hiB (wn c k) p:=by
      rw[<-U];have:=Nat.and_le_right (n:=hiB (wn c k) p) (m:=hiB (wn c k) p-1);omega
     clear U aa aj;generalize hiB (wn c k) p=y at *;generalize Lib.ctz 64 y=t at *;have hb:bv (χ (64*k+t))=.int .u8 (64*(k:Int)+(t:Int)):=by
      show ö .u8 ((χ (64*k+t)).toNat:Int)=_;rw[Aat _ (by omega)]
      congr 1
     have hw:IntKind.u8.wrap (64*(k:Int)+(t:Int))=64*(k:Int)+(t:Int):=IntWalk.u8_in _ ⟨by omega,by omega⟩;rw[hb] at hy;have bl:((y:Int) != 0)=Ξ:=by simp;omega
     have bm:1<=y:=by omega
     have HT:=Α ai;clear ai hb D
     gi_wp2_with (gi_at_call 153;refine HT.out.mono ?_;clear HT;rintro e w' ⟨rfl,rfl⟩)
     refine hR.mono ?_;rintro e W3 (⟨rfl,bb⟩|⟨rfl,bc⟩)
     ·gi_wp2
      go_roundw
      case rel=>exact⟨t+1,by omega,by rw[Zf y (by omega) I,HAnd.out],bb⟩
      case measure=>rw[Zf y (by omega) I,HAnd.out];simp[intOf];omega
     ·gi_wp2
      refine bodyPost_ret (results_none rfl _ _ _) rfl ?_;exact⟨⟨_,rfl⟩,.inr ⟨_,Yt c _ _ (by omega),bc⟩⟩
  ·obtain rfl:k=4:=by omega
   gi_wp2
   go_end0
   exact⟨⟨_,rfl⟩,.inl ⟨_,rfl,hJ⟩⟩
attribute [local go_sem] Oper.semAt_some
theorem Vr (F:Fence) (n:Nat) (M:F.fn 152) (T:F.fn 153) (U:F.round=Γ) (hn:1<=n) (D:Nat) (c:Cls) (w:Λ) (hT:Tab w) (E:w.heap[D]? = Δ (Ε (Ab c) 62 (0,0))) :
  Np F n Ζ 152 #[Ω (Δ ⟨D,0,Γ⟩)] (λx=>#[bv x]) (λpre x=>(pre++[x]) <+: Al c 256) (·=Al c 256) (· <+: Al c 256) w:=by
 intro l J Jx W G hY I;have ae:=An E;exact Ag7 F n M T U hn l D c J Jx (λpre W' h=>hT.below (G _ _ h) (by omega)) hY W (((G _ _ I).block D ae).trans E) I
theorem Vs (F:Fence) (n:Nat) (D:F.fn 138) (E:F.round=Γ) (c:Cls) (w:Λ) :
  CallsIn F n Ζ 138 #[.agg (Ab c)] w λe w'=>e=θ (.func (.func 152) #[] #[Ω (Δ ⟨w.heap.size,0,Γ⟩)])/\w'=w.alloc (Ε (Ab c) 62):=by
 refine callsIn_of_wp Tryz.func138 rfl D ?_ E;simp only[Tryz.ntmps138,ð,ϲ,List.length_nil,Nat.reduceAdd,Nat.reduceSub,ë,ê,List.push_toArray,ô,List.nil_append,List.cons_append]
 gi_wp2
 go_ret;exact⟨rfl,rfl⟩
theorem Ke {W:Λ} {k l:Nat} {o o':Obj} {cs:Array Ν} {t:TypeId} {fr:Nat × Nat} (h:W.heap[k]? = Δ (Ε cs t fr)) (D:W.heap[l]? = Δ o) (E:o.isCells=Τ):(W.putObj l o').heap[k]? = Δ (Ε cs t fr):=by
 have G:k≠l:=by rintro rfl;rw[h] at D;cases D;cases E
 exact (Ç G).trans h
theorem Ain (F:Fence) (n:Nat) (au:F.fn 144) (aw:F.fn 138) (ag:F.fn 152) (ax:F.fn 153) (U:F.round=Γ) (hn:3<=n) (c:Cls) (w:Λ) (hT:Tab w) (az:0<w.heap.size) :
  CallsIn F n Ζ 144 #[.agg (Ab c)] w λe w'=>e=θ (.int ε (Bv (Al c 256)))/\Ext w w'/\w.drawn<=w'.drawn:=by
 have h1:1<=n:=by omega
 have h2:1<=n-1:=by omega
 have hA:=Ag (ϰ w (Ε (Ab c) 62)) (Ε #[.int ε 0] 3);have hR:=heap_alloc2_new w (Ε (Ab c) 62) (Ε #[.int ε 0] 3);have G:=((Θ w).alloc (Ε (Ab c) 62)).alloc (Ε #[.int ε 0] 3);have I:w.drawn<=((w.alloc (Ε (Ab c) 62)).alloc (Ε #[.int ε 0] 3)).drawn:=ν _;have hs:((w.alloc (Ε (Ab c) 62)).alloc (Ε #[.int ε 0] 3)).heap.size=w.heap.size+1+1:=by simp
 refine callsIn_of_wp_marks Tryz.func144 rfl au ?_ U;simp only[Tryz.ntmps144,ð,ϲ,List.length_nil,Nat.reduceAdd,Nat.reduceSub,ë,ê,List.push_toArray,ô,List.nil_append,List.cons_append]
 gi_wp2_with (gi_at_call 138;refine (Vs F (n-1) aw U c _).mono ?_;rintro e w' ⟨rfl,rfl⟩)
 have ai:=Ag hR (Ε (Ab c) 62);have aj:=ϰ ((w.alloc (Ε (Ab c) 62)).alloc (Ε #[.int ε 0] 3)) (Ε (Ab c) 62);rw[hs] at aj;have ab:=G.alloc (Ε (Ab c) 62);have ak:w.drawn<=(((w.alloc (Ε (Ab c) 62)).alloc (Ε #[.int ε 0] 3)).alloc (Ε (Ab c) 62)).drawn:=ν _;have bg:w.heap.size+2<(((w.alloc (Ε (Ab c) 62)).alloc (Ε #[.int ε 0] 3)).alloc (Ε (Ab c) 62)).heap.size:=by simp
 clear hA hR G I hs;generalize ((w.alloc (Ε (Ab c) 62)).alloc (Ε #[.int ε 0] 3)).alloc (Ε (Ab c) 62)=w3 at *;have a8:=hT.below ab.below az;have al:=Α ai;clear ai;refine R4 U h1 (gf:=152) (lb:=#[Ω (Δ ⟨w.heap.size+1+1,0,Γ⟩)]) rfl ag (enters_of Tryz.func152 (by kernel_rfl) rfl)
  (Vr F (n-1) ag ax U h2 (w.heap.size+1+1) c w3 a8 aj) (λ_=>rfl)
  (λpre W=>pre=[]/\Ext w3 W/\w3.drawn<=W.drawn)
  (λk pre W=>k=.ret/\∃ x,pre=[x]/\Ext w W/\w.drawn<=W.drawn/\W.heap[w.heap.size+1]? = Δ (Ε #[.int ε (x.toNat:Int)] 3 (0,0)))
  (λs W l o T h hl ho hc=>⟨h.1,h.2.1.putObj hl T,h.2.2⟩)
  (λs W o h=>⟨h.1,h.2.1.alloc o,h.2.2⟩)
  (λk s W l o T h hl ho hc=>by
   obtain⟨hk,x,hs,G,I,E⟩:=h;exact⟨hk,x,hs,G.putObj (by omega) T,I,Ke E ho hc⟩)
  (λpre W h=>h.2.1.below) ⟨rfl,Θ _,ν _⟩
  (λx=>{ tmps:=#[.agg (Ab c),Ω (Δ ⟨w.heap.size,0,Γ⟩),Ω (Δ ⟨w.heap.size+1,0,Γ⟩),bv x,.agg (Ab c),.func (.func 152) #[] #[Ω (Δ ⟨w.heap.size+1+1,0,Γ⟩)],bv x,ς,ς],defers:=[] }) ?assign ?body ?done ?stop
 case assign=>
  intro l x W K J
  gi_wp2
  exact J
 case body=>
  rintro l pre x W ⟨rfl,G,I⟩ _;have E:=G.heap al.out;have bb:=(γ W _ 0 _ _ _ E).trans rfl;have bc:=Ϸ W _ 0 _ _ E;have M:=Α E;have hx:=x.toNat_lt;clear E
  gi_wp2
  refine⟨KeepsOthers.setCell _ _ _,rfl,x,rfl,(ab.trans G).setCell (by simp) _,ψ ak I,?_⟩;rw[Ϧ W _ _ _ _ _ _ M.out,show (#[ö ε 0]:Array Ν).setIfInBounds 0 (.int ε (x.toNat:Int))=#[.int ε (x.toNat:Int)] from rfl];exact setRow_heap W _ _ _ _ _ M.out
 case done=>
  rintro D ys W bd rfl ⟨he,G,I⟩ J;have E:=G.heap al.out;have bb:=(γ W _ 0 _ _ _ E).trans rfl;have bc:=Ϸ W _ 0 _ _ E;have M:=Α E;have HB:=Α he;have HK:=Α J;clear E he J
  gi_wp2
  have ar:=(KeepsOthers.setCell W ⟨w.heap.size+1,0,Γ⟩ (.int ε (-1))).same D _ HK.out rfl;refine⟨by simp,.inl ⟨_,_,rfl,run_takeDeferred ar,?_⟩⟩;have h5:=Ke (o':=.deferred Γ) (by rw[Ϧ W _ _ _ _ _ _ M.out];exact setRow_heap W _ _ _ _ _ M.out) ar rfl;have af:=(γ _ _ 0 _ _ _ h5).trans rfl;refine⟨.int ε (-1),?_,by rw[HB.out];rfl,((ab.trans G).setCell (by simp) _).putObj (by omega) _,ψ ak I⟩;simp[results,Tryz.f144,go_sem,af]
 case stop=>
  rintro D k pre W bd bf ⟨rfl,x,rfl,G,I,E⟩ J;have M:=Α E;have HK:=Α J;clear E J
  gi_wp2
  refine⟨by simp,.inl ⟨_,_,rfl,run_takeDeferred HK.out,?_⟩⟩;have h5:=Ke (o':=.deferred Γ) M.out HK.out rfl;have af:=(γ _ _ 0 _ _ _ h5).trans rfl;refine⟨.int ε (x.toNat:Int),?_,?_,G.putObj (by omega) _,I⟩
  ·simp[results,Tryz.f144,go_sem,af]
  ·obtain⟨r,E⟩:=bf;rw[<-E];rfl
theorem Pz (c:Cls) (w:Λ) (D:Tab w) (E:0<w.heap.size) :
  ϓ Ζ 144 #[.agg (Ab c)] w λe w'=>e=θ (.int ε (Bv (Al c 256)))/\Ext w w'/\w.drawn<=w'.drawn:=
 callsIn_wide.1 (Ain Fence.wide 3 trivial trivial trivial trivial rfl (ν _) c w D E)
attribute [local go_sem] Oper.semAt_some
set_option maxRecDepth 100000 in
theorem Ant (F:Fence) (n:Nat) (ah:F.fn 151) (ab:F.round=Γ) (hn:2<=n) (g:Nat) (G:Array Ν) (ai:F.fn g) (eg:∀ args w,(callFunc g args).run Ζ w=.ok (.enter g args) w)
  (Nx:List UInt8->UInt8->Prop) (S Sp:List UInt8->Prop) (hN:∀ pre x,Nx pre x->pre.length<256) (w:Λ) (an:Np F (n-1) Ζ g G (λx=>#[bv x]) Nx S Sp w) :
  CallsIn F n Ζ 151 #[Β Γ 0 0,.func (.func g) #[] G] w λe w'=>∃ v xs,e=θ v/\S xs/\w'.ownsRow w.heap.size 5 1 v xs.length (xs.map bv)/\Ext w w':=by
 have h1:1<=n:=by omega
 obtain⟨i0,hi,ar,au,aw⟩:=info_parts Qd;have ax:Boxed (w.alloc (Ε #[Β Γ 0 0] 22)) w.heap.size 22 (Β Γ 0 0):=Boxed.new w 22 _;have ay:=(Θ w).alloc (Ε #[Β Γ 0 0] 22);have bd:w.heap.size<(w.alloc (Ε #[Β Γ 0 0] 22)).heap.size:=by simp
 refine callsIn_of_wp_marks Tryz.func151 rfl ah ?_ ab;simp only[Tryz.ntmps151,ð,ϲ,List.length_nil,Nat.reduceAdd,Nat.reduceSub,ë,ê,List.push_toArray,ô,List.nil_append,List.cons_append]
 gi_wp2
 generalize w.alloc (Ε #[Β Γ 0 0] 22)=w1 at *;refine R4 ab h1 (gf:=g) (lb:=G) rfl ai eg an (λ_=>rfl)
  (λpre W=>(∃ v,Boxed W w.heap.size 22 v/\W.ownsRow w.heap.size 5 1 v pre.length (pre.map bv))/\Ext w W)
  (λ_ _ _=>False)
  (λs W l o T h hl ho I=>by
   obtain⟨⟨v,hv,U⟩,E⟩:=h;exact⟨⟨v,Ke hv ho I,ownsRow_putObj U T ho I⟩,E.putObj (by omega) T⟩)
  (λs W o h=>by
   obtain⟨⟨v,hv,U⟩,E⟩:=h;exact⟨⟨v,hv.alloc o,U.alloc o⟩,E.alloc o⟩)
  (λ_ s W l o T h _ _ _=>h)
  (λpre W h=>h.2.below) ⟨⟨_,ax,Λ.ownsRow_nil _ _ _ _⟩,ay⟩
  (λx=>{ tmps:=#[Β Γ 0 0,.func (.func g) #[] G,Ω (Δ ⟨w.heap.size,0,Γ⟩),ς,Β Γ 0 0,bv x,.func (.func g) #[] G,bv x,ς,ς,ς,ς,ς],defers:=[] }) ?assign ?body ?done ?stop
 case assign=>
  intro l x W K J
  gi_wp2
  exact J
 case body=>
  rintro l pre x W ⟨⟨v,hv,M⟩,E⟩ az;have bj:=hN pre x az;have I:=hv.cell;have hB:=E.below;have hx:=x.toNat_lt
  gi_wp2_with (gi_at_builtin;refine wpListIn_append_own _ rfl _ _ 22 rfl w.heap.size 5 i0 (.int .u8 0) 1 1 Tryz.underlying22 hi ar au aw rfl (by decide) _ _ _ rfl (M.alloc _) ⟨W.heap.size,0,Γ⟩ 1 1 [bv x] rfl rfl (cell_one_new _ _ _) (by simp[Ν.oneCell']) (by unfold maxLen;omega) (by omega) (by have:=hB.size;simp;omega) ?_;intro v' w1 af a1 _;obtain⟨g',bm,rfl⟩:=ownsRow_succ af;obtain⟨ag,a6,a7,a8,ba⟩:=hv.appended (by decide) M hB.size (ν _) af a1;have bn:=ag.cell;have bo:=ag.frozen)
  exact⟨a8,⟨_,a6,by simpa using a7⟩,⟨hB.trans ba⟩⟩
 case done=>
  rintro D ys W hD hS ⟨⟨v,hv,M⟩,E⟩ J;have I:=hv.cell
  gi_wp2
  refine⟨by simp,.inl ⟨_,_,rfl,run_takeDeferred J,?_⟩⟩;exact⟨_,results_tmp rfl _ _ _,v,ys,rfl,hS,ownsRow_putObj M _ J rfl,E.putObj (by omega) _⟩
 case stop=>
  rintro D k pre W _ _ h _;exact h.elim
theorem Alt (F:Fence) (n:Nat) (J:F.fn 137) (M:F.fn 151) (G:F.round=Γ) (hn:3<=n) (g:Nat) (D:Array Ν) (T:F.fn g) (U:∀ args w,(callFunc g args).run Ζ w=.ok (.enter g args) w)
  (E:List UInt8->UInt8->Prop) (S I:List UInt8->Prop) (hN:∀ pre x,E pre x->pre.length<256) (w:Λ) (ab:Np F (n-1-1) Ζ g D (λx=>#[bv x]) E S I w) :
  CallsIn F n Ζ 137 #[.func (.func g) #[] D] w λe w'=>∃ v xs,e=θ v/\S xs/\w'.ownsRow w.heap.size 5 1 v xs.length (xs.map bv)/\Ext w w':=by
 have h1:1<=n:=by omega
 refine callsIn_of_wp Tryz.func137 rfl J ?_ G;simp only[Tryz.ntmps137,ð,ϲ,List.length_nil,Nat.reduceAdd,Nat.reduceSub,ë,ê,List.push_toArray,ô,List.nil_append,List.cons_append]
 gi_wp2_with (gi_at_call 151;refine (Ant F (n-1) M G (by omega) g D T U E S I hN _ ab).mono ?_;rintro e w' ⟨v,xs,rfl,hS,ae,hb⟩)
 go_ret;exact⟨v,xs,rfl,hS,ae,hb⟩
theorem Ams (F:Fence) (n:Nat) (U:F.fn 109) (aa:F.fn 137) (ab:F.fn 138) (ad:F.fn 151) (I:F.fn 152) (ae:F.fn 153) (E:F.round=Γ) (hn:5<=n) (c:Cls) (w:Λ) (hT:Tab w) (ag:0<w.heap.size) :
  CallsIn F n Ζ 109 #[.agg (Ab c)] w λe w'=>∃ v,e=θ v/\By w' v (Al c 256)/\Ext w w':=by
 have h1:1<=n:=by omega
 have D:=ϰ w (Ε (Ab c) 62);have hE:=(Θ w).alloc (Ε (Ab c) 62);have J:=hE.alloc (Ε (Ab c) 62);have G:=ϰ (w.alloc (Ε (Ab c) 62)) (Ε (Ab c) 62);have c0:=(γ _ _ 0 _ _ _ D).trans rfl;have c1:=(γ _ _ 1 _ _ _ D).trans rfl;have c2:=(γ _ _ 2 _ _ _ D).trans rfl;have c3:=(γ _ _ 3 _ _ _ D).trans rfl;rw[Ρ] at G;have M:=hT.below J.below ag;have T:=Vr F (n-1-1-1) I ae E (by omega) (w.heap.size+1) c _ M G;clear D G M;have ai:=Α T;clear T;refine callsIn_of_wp Tryz.func109 rfl U ?_ E;simp only[Tryz.ntmps109,ð,ϲ,List.length_nil,Nat.reduceAdd,Nat.reduceSub,ë,ê,List.push_toArray,ô,List.nil_append,List.cons_append]
 gi_wp2_with (first
  | (gi_at_call 138;refine (Vs F (n-1) ab E c _).mono ?_;rintro e w' ⟨rfl,rfl⟩)
  | (gi_at_call 137;refine (Alt F (n-1) aa ad E (by omega) 152 _ I (enters_of Tryz.func152 (by kernel_rfl) rfl) _ _ _ (λpre x h=>by have h2:=h.length_le;have h3:=La c 256;simp at h2;omega) _ ai.out).mono ?_;rintro e w' ⟨v,xs,rfl,rfl,ak,hb⟩))
 go_ret;exact⟨v,rfl,By.of_owns ak (by have:=La c 256;omega),J.trans hb⟩
theorem Amt (c:Cls) (w:Λ) (D:Tab w) (E:0<w.heap.size) :
  ϓ Ζ 109 #[.agg (Ab c)] w λe w'=>∃ v,e=θ v/\By w' v (Al c 256)/\Ext w w':=
 callsIn_wide.1 (Ams Fence.wide 5 trivial trivial trivial trivial trivial trivial rfl (ν _) c w D E)
def L9 (D hi:Nat):Cls:=Qm (λb=>decide (D<=b)) (hi+1)
theorem Aji (c:Cls) (x:Int) (I:0<=x) (J:x<256) (B:Nat) (w:Λ) (D:w.cell? ⟨B,0,Γ⟩=Δ (.int .u8 x)) (_hB:B<w.heap.size) :
  ϓ Ζ 130 #[.agg (Ab c),Ω (Δ ⟨B,0,Γ⟩)] w λe w'=>e=θ (.bool (Aw c x))/\Ext w w':=by
 have E:=ϰ w (Ε (Ab c) 62);have G:=(Θ w).alloc (Ε (Ab c) 62);have U:=G.cell D;have M:=Α E;clear E D;go_enter Tryz.func130,Tryz.ntmps130;go_wp2_with (first
  | (refine wpList_load_row rfl 62 (.tmp 2) rfl _ rfl _ _ _ _ M.out ϑ rfl Bf ?_)
  | (go_at_call 131;refine (Wt c x I J _).mono ?_;rintro e w' ⟨rfl,T⟩))
 go_ret;exact⟨rfl,G.trans T⟩
set_option maxRecDepth 100000 in
theorem Wm (l:List Cls) (x:Int) (al:0<=x) (hx:x<256) (hl:l.length<=4611686018427387904) (a:Option Addr) (b T ao:Nat) (B:Nat) (w:Λ) (U:w.cell? ⟨B,0,Γ⟩=Δ (.int .u8 x)) (hB:B<w.heap.size) (ha:0<l.length->a=Δ ⟨b,T,Γ⟩)
  (hc:∀ i,i<l.length*4->w.cell? ⟨b,T+i,Γ⟩=Δ (.int π (wd (l.getD (i / 4) 0#256) (i % 4)))) :
  ϓ Ζ 129 #[Β a l.length ao,.func (.func 130) #[] #[Ω (Δ ⟨B,0,Γ⟩)]] w λe w'=>e=θ (.int ε (Gq l x))/\Ext w w':=by
 go_enter Tryz.func129,Tryz.ntmps129;go_wp2_with (fail);go_loopw [8] (λi W=>∃ k:Nat,k<=l.length/\i=.int ε k/\Ext w W/\Hid (∀ j,j<k->Aw (l.getD j 0#256) x=Τ))
  (λi _=>l.length-(intOf i).toNat)
 case atStart=>exact⟨0,by omega,rfl,Θ w,Α (λj hj=>by omega)⟩
 case round=>
  obtain⟨k,hk,rfl,D,E⟩:=hrel;by_cases ab:k<l.length
  ·have e:=ha (by omega);obtain⟨a0,a1,a2,a3⟩:=Ji (W:=wr) (λi hi=>D.cell (hc i hi)) k ab;have au:=Α U;clear ha hc U;subst e;obtain⟨c,I⟩:∃ c,l.getD k 0#256=c:=⟨_,rfl⟩;rw[I] at a0 a1 a2 a3;have ag:=Α I;clear I;go_upto_region 4 with (fail)
   have J:=λ(e:EW wr)=>Α (Aji c x al hx B e.W ((D.trans e.ext).cell au.out) (δ hB (D.trans e.ext).size))
   generalize ah:Aw c x=m1 at J;have aj:=Α ah;clear ah;go_cut [16] (λv W=>v=.bool m1/\∃ e:EW wr,W=e.W)
   case first=>
    refine T9 6 ?_;simp only[List.take_succ_cons,List.drop_succ_cons,List.take_nil,List.drop_nil];iterate 6 (refine è (λK G=>?_);go_simp;first|(refine G _ ?_;clear G K)|(apply Exists.intro;refine⟨λ_=>?_,G _ ?_⟩;(with_reducible exact F7 (J _).out);clear G K))
    refine wpQuiet_nil ?_;rintro _ ⟨e,rfl⟩;refine wpList_nil ?_;go_wp2;go_meet
    exact⟨rfl,e,rfl⟩
   case rest=>
    obtain⟨rfl,e,rfl⟩:=hcut;clear a0 a1 a2 a3 J;have ak:=D.trans e.ext;generalize e.W=w1 at *;cases m1
    ·go_wp2;go_roundw
     case rel=>exact⟨k+1,by omega,by go_num,ak,Α (λj hj=>by
      by_cases aw:j=k
      ·subst aw;rw[ag.out,aj.out]
      ·exact E.out j (by omega))⟩
     case measure=>simp[intOf];omega
    ·have M:=Α (Wp l x k ab (by rw[ag.out,aj.out]) E.out);go_wp2;go_ret;exact⟨Ov M.out.symm,ak⟩
  ·obtain rfl:k=l.length:=by omega
   have M:=Α (Ajl l x E.out);clear E;go_wp2;go_ret;exact⟨Ov M.out.symm,D⟩
theorem Wl (l:List Cls) (v:Ν) (x:Int) (G:0<=x) (I:x<256) (w:Λ) (h:Cs w v l) :
  ϓ Ζ 95 #[v,.int .u8 x] w λe w'=>e=θ (.int ε (Gq l x))/\Ext w w':=by
 have J:=(Θ w).alloc (Ε #[.int .u8 x] 5);have D:=Ng w #[.int .u8 x] 5 0 _ rfl;have M:w.heap.size<(w.alloc (Ε #[.int .u8 x] 5)).heap.size:=by simp
 have T:=h.ext J;have U:ϓ Ζ 129 #[v,.func (.func 130) #[] #[Ω (Δ ⟨w.heap.size,0,Γ⟩)]] (w.alloc (Ε #[.int .u8 x] 5)) λe w'=>e=θ (.int ε (Gq l x))/\Ext (w.alloc (Ε #[.int .u8 x] 5)) w':=by
  obtain⟨h0,⟨hn,a,E,rfl⟩|⟨hn,b,aa,E,rfl,hb,hc⟩⟩:=T
  ·have:=Wm l x G I (by omega) a 0 0 E w.heap.size _ D M (by omega) (λi hi=>by omega)
   rwa [hn] at this
  ·exact Wm l x G I h0 (Δ ⟨b,aa,Γ⟩) b aa E w.heap.size _ D M (λ_=>rfl) hc
 have ae:=Α U;clear U D h T;go_enter Tryz.func95,Tryz.ntmps95;go_wp2_with (go_at_call 129;refine ae.out.mono ?_;rintro e w' ⟨rfl,af⟩);go_ret;exact⟨rfl,J.trans af⟩
end Go.Proofs.YtaiogolidlamiaaGreatDoor
namespace Go.Proofs
open Go.Shelf
def Tryz.l155_ren:Go.Shelf.Ren:=⟨fun|6=>155|15=>161|14=>160|28=>170|29=>171|20=>162|21=>163|22=>164|23=>165|24=>166|25=>167|26=>168|27=>169|46=>172|47=>173|48=>174|49=>175|50=>176|57=>177|n=>n,fun|22=>26|24=>62|25=>204|3=>3|39=>156|0=>0|53=>216|55=>60|4=>4|46=>210|45=>209|50=>91|5=>5|9=>9|66=>217|70=>221|76=>223|77=>224|n=>n,fun|n=>n⟩
theorem Tryz.l155:Go.Proofs.SlLaysF0.n6 Ζ Tryz.l155_ren:={
 mixed:=by kernel_rfl
 f6:=⟨Tryz.f155.name,by decide,Tryz.func155.trans (congrArg Δ (by kernel_rfl))⟩
 f14:=⟨Tryz.f160.name,by decide,Tryz.func160.trans (congrArg Δ (by kernel_rfl))⟩
 f15:=Tryz.func161.trans (congrArg Δ (by kernel_rfl))
 f20:=⟨Tryz.f162.name,by decide,Tryz.func162.trans (congrArg Δ (by kernel_rfl))⟩
 f21:=⟨Tryz.f163.name,by decide,Tryz.func163.trans (congrArg Δ (by kernel_rfl))⟩
 f22:=⟨Tryz.f164.name,by decide,Tryz.func164.trans (congrArg Δ (by kernel_rfl))⟩
 f23:=⟨Tryz.f165.name,by decide,Tryz.func165.trans (congrArg Δ (by kernel_rfl))⟩
 f24:=⟨Tryz.f166.name,by decide,Tryz.func166.trans (congrArg Δ (by kernel_rfl))⟩
 f25:=⟨Tryz.f167.name,by decide,Tryz.func167.trans (congrArg Δ (by kernel_rfl))⟩
 f26:=⟨Tryz.f168.name,by decide,Tryz.func168.trans (congrArg Δ (by kernel_rfl))⟩
 f27:=⟨Tryz.f169.name,by decide,Tryz.func169.trans (congrArg Δ (by kernel_rfl))⟩
 f28:=Tryz.func170.trans (congrArg Δ (by kernel_rfl))
 f29:=Tryz.func171.trans (congrArg Δ (by kernel_rfl))
 f46:=⟨Tryz.f172.name,by decide,Tryz.func172.trans (congrArg Δ (by kernel_rfl))⟩
 f47:=Tryz.func173.trans (congrArg Δ (by kernel_rfl))
 f48:=Tryz.func174.trans (congrArg Δ (by kernel_rfl))
 f49:=⟨Tryz.f175.name,by decide,Tryz.func175.trans (congrArg Δ (by kernel_rfl))⟩
 f50:=⟨Tryz.f176.name,by decide,Tryz.func176.trans (congrArg Δ (by kernel_rfl))⟩
 f57:=⟨Tryz.f177.name,by decide,Tryz.func177.trans (congrArg Δ (by kernel_rfl))⟩
 t0:=Tryz.underlying0
 a0:=Tryz.isAgg0
 z0:=Tryz.sizeOf0
 v0:=Tryz.zeroValue0
 t3:=Tryz.underlying3
 a3:=Tryz.isAgg3
 z3:=Tryz.sizeOf3
 v3:=Tryz.zeroValue3
 t4:=Tryz.underlying4
 a4:=Tryz.isAgg4
 z4:=Tryz.sizeOf4
 v4:=Tryz.zeroValue4
 t5:=Tryz.underlying5
 a5:=Tryz.isAgg5
 z5:=Tryz.sizeOf5
 v5:=Tryz.zeroValue5
 t9:=Tryz.underlying9
 a9:=Tryz.isAgg9
 z9:=Tryz.sizeOf9
 v9:=Tryz.zeroValue9
 t22:=Tryz.underlying26
 a22:=Tryz.isAgg26
 z22:=Tryz.sizeOf26
 v22:=Tryz.zeroValue26
 t25:=Tryz.underlying204
 a25:=Tryz.isAgg204
 z25:=Tryz.sizeOf204
 v25:=Tryz.zeroValue204
 t39:=Tryz.underlying156
 a39:=Tryz.isAgg156
 z39:=Tryz.sizeOf156
 v39:=Tryz.zeroValue156
 t45:=Tryz.underlying209
 a45:=Tryz.isAgg209
 z45:=Tryz.sizeOf209
 v45:=Tryz.zeroValue209
 t46:=Tryz.underlying210
 a46:=Tryz.isAgg210
 z46:=Tryz.sizeOf210
 v46:=Tryz.zeroValue210
 t50:=Tryz.underlying91
 a50:=Tryz.isAgg91
 z50:=Tryz.sizeOf91
 v50:=Tryz.zeroValue91
 t53:=Tryz.underlying216
 a53:=Tryz.isAgg216
 z53:=Tryz.sizeOf216
 v53:=Tryz.zeroValue216
 t55:=Tryz.underlying60
 a55:=Tryz.isAgg60
 z55:=Tryz.sizeOf60
 v55:=Tryz.zeroValue60
 t66:=Tryz.underlying217
 a66:=Tryz.isAgg217
 z66:=Tryz.sizeOf217
 v66:=Tryz.zeroValue217
 t70:=Tryz.underlying221
 a70:=Tryz.isAgg221
 z70:=Tryz.sizeOf221
 v70:=Tryz.zeroValue221
 t76:=Tryz.underlying223
 a76:=Tryz.isAgg223
 z76:=Tryz.sizeOf223
 v76:=Tryz.zeroValue223
 t77:=Tryz.underlying224
 a77:=Tryz.isAgg224
 z77:=Tryz.sizeOf224
 v77:=Tryz.zeroValue224 }
end Go.Proofs
namespace Go.Proofs.YtaiogolidlamiaaGreatDoor
open Go.RowKit Go.Shelf Go.Sort
structure ED (w:Λ) where
 W:Λ
 ext:Ext w W
 drawn:w.drawn<=W.drawn
instance (w:Λ):Nonempty (ED w):=⟨⟨w,Θ w,ν _⟩⟩
section
variable {P:Program}
theorem Ad3 {id:Nat} {Q:Exit->Act->Λ->Prop} {a:Act} {w:Λ} {l:List Oper} (hm:P.follows .mixedOrders=Ξ) (D:Region.lexB .any l.toArray=Ξ)
  (h:wpQuiet P l.toArray (λW=>∃ e:ED w,W=e.W) (λE=>∀ w',(∃ e:ED w,w'=e.W)->Q .normal E w') l a):(Code.region id l.toArray Ξ).wp P Q a w:=
 wp_region_quiet (C:=λW=>∃ e:ED w,W=e.W) hm D ⟨⟨_,(Θ w).drawn1,Nat.le_succ _⟩,rfl⟩ (by simpa using h)
theorem Yp {f:FuncId} {args:Array Ν} {w:Λ} {D:ED w} {v:Ν} (h:ϓ P f args D.W λe w'=>e=θ v/\Ext D.W w'/\D.W.drawn<=w'.drawn) :
  ϓ P f args D.W λe E=>e=θ v/\∃ G:ED w,E=G.W:=
 h.mono λ_ w' ⟨he,I,hd⟩=>⟨he,⟨w',D.ext.trans I,ψ D.drawn hd⟩,rfl⟩
theorem M8 {w:Λ} {p:Addr} {v:Ν} (h:w.cell? p=Δ v):∀ e:ED w,e.W.cell? p=Δ v:=λe=>e.ext.cell h
end
theorem Akx {w W:Λ} (h:Ext w W) (hd:w.drawn<=W.drawn):∃ q os,W=grow (w.drewN q) os:=by
 refine⟨W.drawn-w.drawn,W.heap.extract w.heap.size,?_⟩;have D:=h.below.os;have E:=h.below.tape;have G:=h.below.output;have J:=h.below.size;have I:=h.below.block;obtain⟨M,o,t,d,out⟩:=W;obtain⟨T,U,t',d',ad⟩:=w;simp only at *;subst D E G;simp only[grow,Λ.drewN]
 congr 1
 ·refine Array.ext_getElem? λi=>?_
  rw[Array.getElem?_append];split
  ·rename_i hi;exact I i hi
  ·rename_i hi
   rw[Array.getElem?_extract];split
   ·congr 1;omega
   ·rw[Array.getElem?_eq_none (by omega)]
 ·omega
theorem Ws (l:List UInt8):-1<=Bv l/\Bv l<256:=by
 cases l with
 | nil=>simp[Bv]
 | cons x t=>have:=x.toNat_lt;simp[Bv];omega
theorem Xu {w:Λ} {B:Nat} {c:Cls} (h:w.heap[B]? = Δ (Ε (Ab c) 62 (0,0))) :
  (∀ e:ED w,e.W.cell? ⟨B,0,Γ⟩=Δ (.int π (wd c 0)))/\(∀ e:ED w,e.W.cell? ⟨B,1,Γ⟩=Δ (.int π (wd c 1)))/\
  (∀ e:ED w,e.W.cell? ⟨B,2,Γ⟩=Δ (.int π (wd c 2)))/\(∀ e:ED w,e.W.cell? ⟨B,3,Γ⟩=Δ (.int π (wd c 3))):=by
 have H:∀ j v,(Ab c)[j]? = Δ v->w.cell? ⟨B,j,Γ⟩=Δ v:=λj v hv=>by rw[γ w B j _ _ (0,0) h];exact hv
 exact⟨M8 (H 0 _ rfl),M8 (H 1 _ rfl),M8 (H 2 _ rfl),M8 (H 3 _ rfl)⟩
theorem Aa (w:Λ) (o:Obj):(w.alloc o).heap[w.heap.size]? = Δ o:=by show (w.heap.push o)[w.heap.size]? = Δ o;simp
theorem Al5 (a b:Cls) (w:Λ) (I:Tab w) (E:0<w.heap.size) :
  ϓ Ζ 156 #[.agg (Ab a),.agg (Ab b)] w λe w'=>e=θ (.int ε (Bv (Al a 256)-Bv (Al b 256)))/\Ext w w'/\w.drawn<=w'.drawn:=by
 have h1:=λW I E=>Α (Pz a W I E)
 have h2:=λW I E=>Α (Pz b W I E)
 have Hx:=Α (Ws (Al a 256));have Hy:=Α (Ws (Al b 256));generalize Bv (Al a 256)=x at *;generalize Bv (Al b 256)=y at *;go_enter Tryz.func156,Tryz.ntmps156;go_upto_region 1 with (fail)
 have ai:IntKind.i64.wrap (x-y)=x-y:=IntWalk.i64_in _ ⟨by have:=Hx.out;have:=Hy.out;omega,by have:=Hx.out;have:=Hy.out;omega⟩;obtain⟨D,G⟩:∃ W,((w.alloc (Ε (Ab a) 62)).alloc (Ε (Ab b) 62))=W:=⟨_,rfl⟩;have M:Ext w D:=G▸((Θ w).alloc (Ε (Ab a) 62)).alloc (Ε (Ab b) 62);have r1:D.heap[w.heap.size]? = Δ (Ε (Ab a) 62 (0,0)):=by rw[<-G];exact Ag (Aa w _) _
 have r2:D.heap[w.heap.size+1]? = Δ (Ε (Ab b) 62 (0,0)):=by
  rw[<-G];have:=Aa (w.alloc (Ε (Ab a) 62)) (Ε (Ab b) 62)
  simpa using this
 have hd:w.drawn<=D.drawn:=by rw[<-G];exact ν _
 simp only[G];have T:=λ(e:ED D)=>I.below (M.trans e.ext).below E
 have U:=λ(e:ED D)=>δ E (M.trans e.ext).size
 have ag:=λ(e:ED D)=>h1 e.W (T e) (U e)
 have ah:=λ(e:ED D)=>h2 e.W (T e) (U e)
 obtain⟨a0,a1,a2,a3⟩:=Xu r1;obtain⟨b0,b1,b2,b3⟩:=Xu r2;clear h1 h2 T U r1 r2 G;refine Ad3 (by kernel_rfl) (by kernel_rfl) ?_;iterate 6 (refine è (λK J=>?_);go_simp;first|(refine J _ ?_;clear J K)|(apply Exists.intro;refine⟨λ_=>?_,J _ ?_⟩;(first|(with_reducible exact Yp (ag _).out)|(with_reducible exact Yp (ah _).out));clear J K))
 refine wpQuiet_nil ?_;rintro _ ⟨e,rfl⟩;go_wp2;go_ret;exact⟨rfl,M.trans e.ext,ψ hd e.drawn⟩
def K3 (a b:Cls):Int:=Bv (Al a 256)-Bv (Al b 256)
def Cj (c:Cls):List Ν:=[.int π (wd c 0),.int π (wd c 1),.int π (wd c 2),.int π (wd c 3)]
theorem Xt (c:Cls):∀ j,j<4->(Cj c)[j]! = .int π (wd c j)
 | 0,_=>rfl
 | 1,_=>rfl
 | 2,_=>rfl
 | 3,_=>rfl
 | n+4,h=>by omega
def Cy (L:List Cls):List Ν:=L.flatMap Cj
theorem M5 (L M:List Cls):Cy (L++M)=Cy L++Cy M:=by simp[Cy]
theorem M4 (c:Cls):Cy [c]=Cj c:=by simp[Cy]
theorem Qj (L:List Cls):(Cy L).length=L.length*4:=by
 induction L with
 | nil=>rfl
 | cons c L D=>
  show (Cj c++Cy L).length=_;rw[Υ,D,ϲ];show 4+_=_;omega
theorem Ja (L:List Cls):∀ i,i<L.length*4->(Cy L)[i]? = Δ (.int π (wd (L.getD (i / 4) 0#256) (i % 4))):=by
 induction L with
 | nil=>intro i h;simp at h
 | cons c L E=>
  intro i h;show (Cj c++Cy L)[i]? = _;by_cases D:i<4
  ·rw[List.getElem?_append_left (show i<(Cj c).length from D),Nat.div_eq_of_lt D,Nat.mod_eq_of_lt D]
   match i,D with
   | 0,_=>rfl
   | 1,_=>rfl
   | 2,_=>rfl
   | 3,_=>rfl
   | n+4,h=>omega
  ·simp only[ϲ] at h;rw[List.getElem?_append_right (show (Cj c).length<=i from by show 4<=i;omega)];show (Cy L)[i-4]? = _;rw[E (i-4) (by omega),show i / 4=(i-4) / 4+1 by omega,show i % 4=(i-4) % 4 by omega];rfl
abbrev Row (W:Λ) (base:Nat) (v:Ν) (L:List Cls):Prop:=W.ownsRow base 62 4 v L.length (Cy L)
theorem Row.cells {W:Λ} {base:Nat} {v:Ν} {L:List Cls} (h:Row W base v L) (hn:0<L.length):∃ g D,v=Β (Δ ⟨g,0,Γ⟩) L.length D/\base<=g/\g<W.heap.size/\(∀ i,W.frozen? ⟨g,i,Γ⟩=Τ)/\
  ∀ i,i<L.length*4->W.cell? ⟨g,0+i,Γ⟩=Δ (.int π (wd (L.getD (i / 4) 0#256) (i % 4))):=by
 obtain⟨I,⟨_,J⟩|⟨g,D,cur,rfl,E,hg,M,T,U,G⟩⟩:=h
 ·omega
 ·refine⟨g,D,rfl,E,An hg,λi=>?_,λi hi=>?_⟩
  ·simp[Λ.frozen?,hg]
  ·rw[é,γ W g i cur 62 (0,0) hg,<-Ja L i hi,<-G,List.getElem?_take,if_pos hi,Array.getElem?_toList]
theorem Row.toCs {W:Λ} {base:Nat} {v:Ν} {L:List Cls} (h:Row W base v L) (hn:L.length<=4611686018427387904):Cs W v L:=by
 refine⟨hn,?_⟩;by_cases D:L.length=0
 ·obtain⟨J,⟨rfl,_⟩|⟨g,E,cur,rfl,_⟩⟩:=h
  ·exact .inl ⟨D,_,_,rfl⟩
  ·exact .inl ⟨D,_,_,by rw[D]⟩
 ·obtain⟨g,E,rfl,_,G,_,I⟩:=h.cells (by omega);exact .inr ⟨by omega,g,0,E,rfl,G,I⟩
theorem Row.mono {W:Λ} {b b':Nat} {v:Ν} {L:List Cls} (h:Row W b v L) (E:b'<=b):Row W b' v L:=by
 obtain⟨D,h|⟨g,G,cur,hv,hg,r⟩⟩:=h
 ·exact⟨D,.inl h⟩
 ·exact⟨D,.inr ⟨g,G,cur,hv,ψ E hg,r⟩⟩
theorem F6 {W:Λ} {b D:Nat} {l:List Cls} (h:∀ i,i<l.length*4->W.cell? ⟨b,D+i,Γ⟩=Δ (.int π (wd (l.getD (i / 4) 0#256) (i % 4)))) (k:Nat) (E:k<l.length) :
  W.cell? ⟨b,D+k*4,Γ⟩=Δ (.int π (wd (l.getD k 0#256) 0))/\W.cell? ⟨b,D+k*4+1,Γ⟩=Δ (.int π (wd (l.getD k 0#256) 1))/\
  W.cell? ⟨b,D+k*4+2,Γ⟩=Δ (.int π (wd (l.getD k 0#256) 2))/\W.cell? ⟨b,D+k*4+3,Γ⟩=Δ (.int π (wd (l.getD k 0#256) 3)):=by
 obtain⟨a0,G,I,J⟩:=Ji h k E;exact⟨a0 ⟨W,Θ W⟩,G ⟨W,Θ W⟩,I ⟨W,Θ W⟩,J ⟨W,Θ W⟩⟩
theorem Agm (w:Λ):ϓ Ζ 94 #[.agg zA] w λe w'=>e=θ (.agg (Ab allC))/\Ext w w':=by
 have:=Pk 0#256 w
 rwa [F2] at this
theorem Ajn (a b c d e f g h:Int) (w:Λ):(Instr.index 202 (.agg #[.int π a,.int π b,.int π c,.int π d,.int π e,.int π f,.int π g,.int π h]) (.int ε 0)).run Ζ w=.ok (.agg #[.int π a,.int π b,.int π c,.int π d]) w:=by kernel_rfl
theorem Ajm (a b c d e f g h:Int) (w:Λ):(Instr.index 202 (.agg #[.int π a,.int π b,.int π c,.int π d,.int π e,.int π f,.int π g,.int π h]) (.int ε 1)).run Ζ w=.ok (.agg #[.int π e,.int π f,.int π g,.int π h]) w:=by kernel_rfl
theorem Qe:(Ζ.info? 62).map (λi=>(i.zero,i.size,i.bytes))=Δ (Δ (.agg zA),4,32):=by kernel_rfl
def D7 (x y:Cls):Nat->List Cls
 | 0=>[]
 | 1=>if x=0#256 then [] else [x]
 | _=>(if x=0#256 then [] else [x])++(if y=0#256 then [] else [y])
theorem Ae9 (x y:Cls):D7 x y 0=[]:=rfl
theorem Ae8 (S:List Cls) (x y:Cls):S++D7 x y 1=(S++D7 x y 0)++if (x==0#256) then [] else [x]:=by simp[D7]
theorem Ae7 (S:List Cls) (x y:Cls):S++D7 x y 2=(S++D7 x y 1)++if (y==0#256) then [] else [y]:=by simp[D7]
theorem Uo (S:List Cls) (x y:Cls) (q:Nat):(S++D7 x y q).length<=S.length+2:=by
 match q with
 | 0=>simp[D7]
 | 1=>simp only[D7,Υ];split<;>simp
 | n+2=>simp only[D7,Υ];split<;>split<;>simp
theorem L7 (w:Λ) (x:Cls):∀ j u,(Cj x)[j]? = Δ u->(w.alloc (Ε (Ab x) 62)).cell? ((⟨w.heap.size,0,Γ⟩:Addr).add j)=Δ u:=by
 intro j u h;rw[show ((⟨w.heap.size,0,Γ⟩:Addr).add j)=⟨w.heap.size,j,Γ⟩ by rw[Addr.add_lit,é],γ _ _ _ _ 62 (0,0) (ϰ w _)];rw[<-List.getElem?_toArray] at h;exact h
end Go.Proofs.YtaiogolidlamiaaGreatDoor
