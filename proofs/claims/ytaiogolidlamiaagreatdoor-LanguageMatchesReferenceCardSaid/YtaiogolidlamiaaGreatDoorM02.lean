import Derived.Test.YtaiogolidlamiaaGreatDoorM01
import Derived.Laws.StructEq
import Derived.ChangeKeysEq
import Derived.Lib.TrailingZeros
import Derived.RangeFuncNested
import Derived.RangeFuncBound
import Derived.RangeFuncCalls
import Derived.RangeFuncLeaves
import Derived.RangeFuncBox
import Derived.OwnWalkIn
import Derived.TacticsInMore
import Derived.LoopNIn
import Derived.LoopIn
import Derived.Maps.AppendAt
import Derived.Shelf.SlLaysF0
import Derived.Ground.SlsfProg
import Derived.Shelf.SlGeneric
import Derived.Test.YtaiogolidlamiaaGreatDoorProg
import Derived.Sort.Grow
import Derived.Deep.Draws
set_option linter.unusedVariables false
set_option linter.unusedSimpArgs false
open Array renaming getElem?_eq_some_iff → ϒ, replicate_succ → û, replicate_zero → ú
open Bool renaming false → Τ, true → Ξ, eq_iff_iff → ϰ, or_eq_true → Æ, and_eq_true → ϝ, false_eq_true → â, true_and → Ï
open Classical renaming byContradiction → ϩ
open Go renaming World → Κ, Value → Ρ, cell_of_row → Ω, heap_alloc_new → ϱ, undef → ς, frozen_of_row → Ϯ, setCell_eq_setRow → Ϥ, Calls → Ϝ, wpQuiet_step → í
open Go.Ending renaming returned → ν
open Go.IntKind renaming u64 → π, u64 → ϴ, i64 → ζ
open Go.Lib renaming hid → Α
open Go.Obj renaming cells → Ε
open Go.Proofs.Tryz renaming prog → Η, underlying62 → ϗ
open Go.Result renaming andThen_ok → ï
open Go.Value renaming pointer → γ, slice → Β
open Go.World renaming size_alloc → Λ, putObj_heap_other → È
open List renaming getD_eq_getElem?_getD → Ζ, getElem?_eq_getElem → Μ, pairwise_iff_getElem → ϯ, getElem_mem → á, length_cons → Ϲ, range → ι, mem_range → υ, mem_map → À, append_assoc → Ò, size_toArray → ø, append_toArray → ÿ, length_append → Ο
open Nat renaming le_refl → θ, le_trans → ψ, lt_of_lt_of_le → ε, zero_add → î
open Option renaming some → Δ, none → Γ
open UInt8 renaming ofNat → χ
namespace Go.Proofs.YtaiogolidlamiaaGreatDoor
set_option maxRecDepth 100000
structure Dfa where
 cls:List Cls
 n:List (List Nat)
 acc:List Bool
def Ak (L:List Cls) (b:Nat):Nat:=L.findIdx λc=>c.getLsbD b
namespace Dfa
def ent2 (d:Dfa) (s k:Nat):Nat:=(d.n.getD s []).getD k 0
def stp (d:Dfa) (s b:Nat):Nat:=d.ent2 s (Ak d.cls b)
def run (d:Dfa) (s:Nat) (w:List UInt8):Nat:=w.foldl (λs x=>d.stp s x.toNat) s
def ok (d:Dfa) (s:Nat):Bool:=d.acc.getD s Τ
def has (d:Dfa) (w:List UInt8):Bool:=d.ok (d.run 0 w)
def ent (d:Dfa) (p:Nat):Nat:=d.ent2 (p / d.cls.length) (p % d.cls.length)
end Dfa
structure Parts (L:List Cls):Prop where
 nz:∀ c∈L,c≠0#256
 dis:L.Pairwise Dis
 cov:∀ i,i<256->∃ c∈L,c.getLsbD i=Ξ
structure Val (d:Dfa):Prop where
 pos:0<d.n.length
 accL:d.acc.length=d.n.length
 row:∀ s,s<d.n.length->(d.n.getD s []).length=d.cls.length
 tgt:∀ s,s<d.n.length->∀ k,k<d.cls.length->d.ent2 s k<d.n.length
 parts:Parts d.cls
theorem cell_lt {L:List Cls} (h:Parts L) {b:Nat} (D:b<256):Ak L b<L.length:=by
 obtain⟨c,E,G⟩:=h.cov b D;exact List.findIdx_lt_length_of_exists ⟨c,E,G⟩
theorem E9 {L:List Cls} (h:Parts L) {b:Nat} (D:b<256):(L.getD (Ak L b) 0#256).getLsbD b=Ξ:=by
 have:=List.findIdx_getElem (w:=cell_lt h D);rw[Ζ,Μ (cell_lt h D)];exact this
theorem E1 {L:List Cls} (h:Parts L) {b k:Nat} (H:b<256) (D:k<L.length) (hm:(L.getD k 0#256).getLsbD b=Ξ):Ak L b=k:=by
 have E:=E9 h H;have G:=cell_lt h H;rw[Ζ,Μ G] at E;rw[Ζ,Μ D] at hm;rcases Nat.lt_trichotomy (Ak L b) k with I|he|hg
 ·exact absurd ⟨E,hm⟩ (ϯ.1 h.dis _ _ G D I b)
 ·exact he
 ·exact absurd ⟨hm,E⟩ (ϯ.1 h.dis _ _ D G hg b)
theorem Jd {L:List Cls} (h:Parts L) {k:Nat} (D:k<L.length):∃ b,b<256/\Ak L b=k:=by
 have hn:=h.nz (L.getD k 0#256) (by rw[Ζ,Μ D];exact á D);obtain⟨b,E,G⟩:=M7 hn;exact⟨b,E,E1 h E D G⟩
theorem Q6 {L:List Cls} (h:Parts L) {i j:Nat} (hi:i<256) (D:j<256):Alk L i j↔Ak L i=Ak L j:=by
 constructor
 ·intro ha;refine (E1 h D (cell_lt h hi) ?_).symm;rw[<-ha _ (by rw[Ζ,Μ (cell_lt h hi)];exact á _)];exact E9 h hi
 ·intro he c H;obtain⟨k,G,rfl⟩:=Gj (d:=0#256) H;rw[ϰ];constructor
  ·intro E;have:=E1 h hi G E;rw[<-this,he];exact E9 h D
  ·intro E;have:=E1 h D G E;rw[<-this,<-he];exact E9 h hi
theorem Mm {L:List Cls} (h:Parts L):IsCells L L where
 dis:=h.dis
 nz:=h.nz
 cover:=h.cov
 cls:=λc G i hi H j D=>by
  obtain⟨k,E,rfl⟩:=Gj (d:=0#256) G;rw[Q6 h hi D,E1 h hi E H];exact⟨λI=>(E1 h D E I).symm,λe=>by rw[e];exact E9 h D⟩
theorem Val.stp_lt {d:Dfa} (h:Val d) {s b:Nat} (hs:s<d.n.length) (D:b<256):d.stp s b<d.n.length:=
 h.tgt s hs _ (cell_lt h.parts D)
theorem Val.run_lt {d:Dfa} (h:Val d):∀ (w:List UInt8) {s:Nat},s<d.n.length->d.run s w<d.n.length
 | [],_,hs=>hs
 | x::w,_,hs=>h.run_lt w (h.stp_lt hs x.toNat_lt)
theorem B6 (d:Dfa) (s:Nat) (u w:List UInt8):d.run s (u++w)=d.run (d.run s u) w:=by simp[Dfa.run,List.foldl_append]
def mxf (a:Nat->Nat):Nat->Nat
 | 0=>0
 | p+1=>max (mxf a p) (a p)
theorem Ve (a:Nat->Nat) (p q:Nat) (h:q<p):a q<=mxf a p:=by
 induction p with
 | zero=>omega
 | succ p D=>
  simp only[mxf];by_cases e:q=p
  ·subst e;omega
  ·have:=D (by omega);omega
theorem Gi (a b:Nat->Nat) (p:Nat) (h:∀ q,q<p->a q=b q):mxf a p=mxf b p:=by
 induction p with
 | zero=>rfl
 | succ p D=>simp only[mxf];rw[D λq E=>h q (by omega),h p (by omega)]
structure Cano (d:Dfa):Prop where
 val:Val d
 reach:∀ s,s<d.n.length->∃ w,d.run 0 w=s
 red:∀ s t,s<d.n.length->t<d.n.length->(∀ w,d.ok (d.run s w)=d.ok (d.run t w))->s=t
 col:∀ i j,i<d.cls.length->j<d.cls.length->(∀ s,s<d.n.length->d.ent2 s i=d.ent2 s j)->i=j
 srt:d.cls.Pairwise λa b=>key a<=key b
 rgf:∀ p,p<d.n.length*d.cls.length->d.ent p<=mxf d.ent p+1
section
variable {d e:Dfa}
theorem Ag0 (hd:Cano d) (he:Cano e) (h:∀ w,d.has w=e.has w):∃ f:Nat->Nat,(∀ w,f (d.run 0 w)=e.run 0 w):=by
 have key:∀ w w',d.run 0 w=d.run 0 w'->e.run 0 w=e.run 0 w':=λw w' D=>by
  refine he.red _ _ (he.val.run_lt _ he.val.pos) (he.val.run_lt _ he.val.pos) λu=>?_
  rw[<-B6,<-B6];show e.has _=e.has _;rw[<-h,<-h];unfold Dfa.has;rw[B6,B6,D]
 classical
 refine⟨λs=>if hs:∃ w,d.run 0 w=s then e.run 0 hs.choose else 0,λw=>?_⟩;have hs:∃ w',d.run 0 w'=d.run 0 w:=⟨w,rfl⟩;simp only[dif_pos hs];exact key _ _ hs.choose_spec
theorem Gt (hd:Cano d) (he:Cano e) (h:∀ w,d.has w=e.has w):d=e:=by
 obtain⟨f,M⟩:=Ag0 hd he h;have f0:f 0=0:=M [];have U:∀ s,s<d.n.length->∀ b,b<256->f (d.stp s b)=e.stp (f s) b:=λs hs b hb=>by
  obtain⟨w,rfl⟩:=hd.reach s hs;have D:=M (w++[χ b]);rw[B6,B6,<-M w] at D;have G:∀ (x:Dfa) (s:Nat),x.run s [χ b]=x.stp s b:=λx s=>by
   show x.stp s (χ b).toNat=_;rw[u8n b hb]
  rw[G,G] at D;exact D
 have ai:∀ s,s<d.n.length->f s<e.n.length:=λs hs=>by
  obtain⟨w,rfl⟩:=hd.reach s hs;rw[M];exact he.val.run_lt _ he.val.pos
 have aj:∀ s,s<d.n.length->e.ok (f s)=d.ok s:=λs hs=>by
  obtain⟨w,rfl⟩:=hd.reach s hs;rw[M];exact (h w).symm
 have aq:∀ (w:List UInt8) s,s<d.n.length->f (d.run s w)=e.run (f s) w:=λw s hs=>by
  obtain⟨u,rfl⟩:=hd.reach s hs;rw[<-B6,M,B6,M]
 have ar:∀ s t,s<d.n.length->t<d.n.length->f s=f t->s=t:=λs t hs E bc=>
  hd.red s t hs E λw=>by
   rw[<-aj _ (hd.val.run_lt w hs),<-aj _ (hd.val.run_lt w E),aq w s hs,aq w t E,bc]
 have au:∀ t,t<e.n.length->∃ s,s<d.n.length/\f s=t:=λt E=>by
  obtain⟨w,rfl⟩:=he.reach t E;exact⟨d.run 0 w,hd.val.run_lt w hd.val.pos,M w⟩
 have aw:∀ (x:Dfa),Cano x->∀ i j,i<256->j<256->(Ak x.cls i=Ak x.cls j↔∀ s,s<x.n.length->x.stp s i=x.stp s j):=λx hx i j hi J=>
  ⟨λhe s _=>by unfold Dfa.stp;rw[he],λhs=>hx.col _ _ (cell_lt hx.val.parts hi) (cell_lt hx.val.parts J) hs⟩
 have ab:d.cls=e.cls:=by
  refine (Mm hd.val.parts).eq (Mm he.val.parts) (λi j hi J=>?_) hd.srt he.srt;rw[Q6 hd.val.parts hi J,Q6 he.val.parts hi J,aw d hd i j hi J,aw e he i j hi J];constructor
  ·intro hs t E;obtain⟨s,aa,rfl⟩:=au t E;rw[<-U s aa i hi,<-U s aa j J,hs s aa]
  ·intro E s hs;exact ar _ _ (hd.val.stp_lt hs hi) (hd.val.stp_lt hs J) (by rw[U s hs i hi,U s hs j J,E _ (ai s hs)])
 have hm:d.cls.length=e.cls.length:=by rw[ab]
 have bd:∀ s,s<d.n.length->∀ k,k<d.cls.length->f (d.ent2 s k)=e.ent2 (f s) k:=λs hs k H=>by
  obtain⟨b,hb,be⟩:=Jd hd.val.parts H;have D:=U s hs b hb;unfold Dfa.stp at D;rw[<-ab,be] at D;exact D
 have ad:0<d.cls.length:=by
  obtain⟨c,T,_⟩:=hd.val.parts.cov 0 (by omega);exact List.length_pos_of_mem T
 have bf:∀ p,p<=d.n.length*d.cls.length->(∀ q,q<p->d.ent q=e.ent q)/\∀ t,t<=mxf d.ent p->f t=t:=by
  intro p;induction p with
  | zero=>exact λ_=>⟨λq hq=>by omega,λt E=>by simp only[mxf] at E;obtain rfl:t=0:=(by omega);exact f0⟩
  | succ p ih=>
   intro hp;obtain⟨ax,ae⟩:=ih (by omega);have hs:p / d.cls.length<d.n.length:=Nat.div_lt_of_lt_mul (by rw[Nat.mul_comm];omega);have H:p % d.cls.length<d.cls.length:=Nat.mod_lt _ ad;have ay:p / d.cls.length<=mxf d.ent p:=by
    apply ϩ;intro hn;have bh:∀ (w:List UInt8) s,s<p / d.cls.length->d.run s w<p / d.cls.length:=λw=>by
     induction w with
     | nil=>intro s hs;exact hs
     | cons x w bj=>
      intro s aa;refine bj _ ?_;have az:=cell_lt hd.val.parts x.toNat_lt;have hq:s*d.cls.length+Ak d.cls x.toNat<p:=by
       have D:s*d.cls.length+d.cls.length<=p / d.cls.length*d.cls.length:=by
        rw[<-Nat.succ_mul];exact Nat.mul_le_mul_right _ aa
       have G:=Nat.div_mul_le_self p d.cls.length;omega
      have I:=Ve d.ent p _ hq;have h4:d.ent (s*d.cls.length+Ak d.cls x.toNat)=d.stp s x.toNat:=by
       unfold Dfa.ent Dfa.stp;rw[Nat.mul_comm,Nat.mul_add_div ad,Nat.div_eq_of_lt az,Nat.add_zero,Nat.mul_add_mod,Nat.mod_eq_of_lt az]
      show d.stp s x.toNat<_;omega
    obtain⟨w,hw⟩:=hd.reach _ hs;have:=bh w 0 (by omega);omega
   have a1:=ae _ ay;have a6:e.ent p=f (d.ent p):=by
    unfold Dfa.ent;rw[bd _ hs _ H,a1,<-hm]
   have bk:d.ent p<d.n.length:=hd.val.tgt _ hs _ H;have bl:p<e.n.length*e.cls.length:=by
    have D:=ai _ hs;rw[a1] at D;have G:=Nat.div_add_mod p d.cls.length;rw[<-hm];have I:(p / d.cls.length+1)*d.cls.length<=e.n.length*d.cls.length:=Nat.mul_le_mul_right _ D;rw[Nat.succ_mul,Nat.mul_comm (p / d.cls.length)] at I;omega
   have bx:=hd.rgf p (by omega);have bm:=he.rgf p bl;rw[<-Gi d.ent e.ent p ax,a6] at bm;have a7:f (d.ent p)=d.ent p:=by
    by_cases ag:d.ent p<=mxf d.ent p
    ·exact ae _ ag
    ·have D:¬ f (d.ent p)<=mxf d.ent p:=λT=>by
      have G:=ae _ T;have I:f (d.ent p)<d.n.length:=by
       have:=ay;omega
      exact ag (by rw[ar _ _ bk I G.symm];exact T)
     omega
   refine⟨λq hq=>?_,λt E=>?_⟩
   ·by_cases bn:q=p
    ·subst bn;rw[a6,a7]
    ·exact ax q (by omega)
   ·simp only[mxf] at E;by_cases ag:t<=mxf d.ent p
    ·exact ae t ag
    ·obtain rfl:t=d.ent p:=by omega
     exact a7
 obtain⟨bo,bp⟩:=bf _ (θ _);have an:∀ (x:Dfa),0<x.cls.length->∀ s k,k<x.cls.length->x.ent (s*x.cls.length+k)=x.ent2 s k:=λx h0 s k H=>by
  unfold Dfa.ent;rw[Nat.mul_comm,Nat.mul_add_div h0,Nat.div_eq_of_lt H,Nat.add_zero,Nat.mul_add_mod,Nat.mod_eq_of_lt H]
 have a8:∀ n s k,s<n->k<d.cls.length->s*d.cls.length+k<n*d.cls.length:=λn s k hs H=>by
  have:(s+1)*d.cls.length<=n*d.cls.length:=Nat.mul_le_mul_right _ hs;rw[Nat.succ_mul] at this;omega
 have ao:∀ t,t<d.n.length->f t=t:=λt E=>by
  obtain⟨w,hw⟩:=hd.reach t E;rcases List.eq_nil_or_concat w with rfl|⟨u,x,rfl⟩
  ·have:t=0:=hw.symm;rw[this];exact f0
  ·rw[List.concat_eq_append,B6] at hw;have H:=cell_lt hd.val.parts x.toNat_lt;have hu:=hd.val.run_lt u hd.val.pos;refine bp t ?_;have D:=Ve d.ent _ _ (a8 _ _ _ hu H);rw[an d ad _ _ H] at D;have G:d.ent2 (d.run 0 u) (Ak d.cls x.toNat)=t:=hw;rw[G] at D;exact D
 have hn:d.n.length=e.n.length:=by
  apply Nat.le_antisymm
  ·apply ϩ;intro T;have:=ai e.n.length (by omega);rw[ao _ (by omega)] at this;omega
  ·apply ϩ;intro T;obtain⟨s,hs,br⟩:=au d.n.length (by omega);rw[ao s hs] at br;omega
 have bt:∀ s,s<d.n.length->d.n.getD s []=e.n.getD s []:=λs hs=>by
  apply List.ext_getElem
  ·rw[hd.val.row s hs,he.val.row s (by omega),hm]
  ·intro k D G;rw[hd.val.row s hs] at D;have I:=bo _ (a8 _ s k hs D);rw[an d ad s k D] at I;rw[hm,an e (by omega) s k (by omega)] at I;unfold Dfa.ent2 at I;rw[Ζ (l:=d.n.getD s []),Ζ (l:=e.n.getD s []),Μ,Μ] at I;exact I
 have ba:d.n=e.n:=by
  apply List.ext_getElem hn;intro s D G;have:=bt s D
  rwa [Ζ,Ζ,Μ D,Μ G] at this
 have bb:d.acc=e.acc:=by
  apply List.ext_getElem (by rw[hd.val.accL,he.val.accL,hn]);intro s D G;have:=aj s (by rw[<-hd.val.accL];exact D);rw[ao s (by rw[<-hd.val.accL];exact D)] at this;unfold Dfa.ok at this;rw[Ζ,Ζ,Μ D,Μ G] at this;exact this.symm
 cases d;cases e
 simp only at ab ba bb;subst ab;subst ba;subst bb
 rfl
end
theorem Dy {α:Type} [DecidableEq α]:∀ (L M:List α),L.Nodup->(∀ x∈L,x∈M)->L.length<=M.length
 | [],M,_,_=>by simp
 | x::L,M,hn,hs=>by
  have D:=hs x List.mem_cons_self;have G:=Dy L (M.erase x) (List.nodup_cons.1 hn).2 λy E=>by
   rw[List.mem_erase_of_ne]
   ·exact hs y (List.mem_cons_of_mem _ E)
   ·rintro rfl;exact (List.nodup_cons.1 hn).1 E
  rw[List.length_erase_of_mem D] at G;have:=List.length_pos_of_mem D;rw[Ϲ];omega
theorem Ij (f:Nat->Nat) (n m:Nat) (h:∀ j,j<m->∃ i,i<n/\f i=j):m<=n:=by
 have:=Dy (ι m) ((ι n).map f) List.nodup_range λj D=>by
  obtain⟨i,hi,e⟩:=h j (υ.1 D);exact À.2 ⟨i,υ.2 hi,e⟩
 simpa using this
theorem Uo (f:Nat->Nat) (m:Nat) (h:∀ j,j<m->∃ i,i<m/\f i=j) (i j:Nat) (hi:i<m) (E:j<m) (he:f i=f j):i=j:=by
 apply ϩ;intro G;have:=Dy (ι m) (((ι m).erase i).map f) List.nodup_range λq H=>by
  obtain⟨p,I,e⟩:=h q (υ.1 H);by_cases D:p=i
  ·subst D;exact À.2 ⟨j,(List.mem_erase_of_ne (λe=>G e.symm)).2 (υ.2 E),by rw[<-he,e]⟩
  ·exact À.2 ⟨p,(List.mem_erase_of_ne D).2 (υ.2 I),e⟩
 rw[List.length_map,List.length_erase_of_mem (υ.2 hi)] at this;simp at this;omega
structure Tbl where
 cell:Nat->Nat
 cells:Nat
 n:List (List Nat)
 acc:List Bool
namespace Tbl
def ent2 (t:Tbl) (s k:Nat):Nat:=(t.n.getD s []).getD k 0
def stp (t:Tbl) (s b:Nat):Nat:=t.ent2 s (t.cell b)
def run (t:Tbl) (s:Nat) (w:List UInt8):Nat:=w.foldl (λs x=>t.stp s x.toNat) s
def ok (t:Tbl) (s:Nat):Bool:=t.acc.getD s Τ
def has (t:Tbl) (w:List UInt8):Bool:=t.ok (t.run 0 w)
end Tbl
structure TVal (t:Tbl):Prop where
 pos:0<t.n.length
 accL:t.acc.length=t.n.length
 row:∀ s,s<t.n.length->(t.n.getD s []).length=t.cells
 tgt:∀ s,s<t.n.length->∀ k,k<t.cells->t.ent2 s k<t.n.length
 cell_lt:∀ b,b<256->t.cell b<t.cells
 onto:∀ k,k<t.cells->∃ b,b<256/\t.cell b=k
theorem TVal.stp_lt {t:Tbl} (h:TVal t) {s b:Nat} (hs:s<t.n.length) (D:b<256):t.stp s b<t.n.length:=h.tgt s hs _ (h.cell_lt b D)
theorem TVal.run_lt {t:Tbl} (h:TVal t):∀ (w:List UInt8) {s:Nat},s<t.n.length->t.run s w<t.n.length
 | [],_,hs=>hs
 | x::w,_,hs=>h.run_lt w (h.stp_lt hs x.toNat_lt)
theorem Ct (t:Tbl) (s:Nat) (u w:List UInt8):t.run s (u++w)=t.run (t.run s u) w:=by simp[Tbl.run,List.foldl_append]
def Leq (t:Tbl) (s s':Nat):Prop:=∀ w,t.ok (t.run s w)=t.ok (t.run s' w)
theorem Leq.step {t:Tbl} {s s':Nat} (h:Leq t s s') (b:Nat) (D:b<256):Leq t (t.stp s b) (t.stp s' b):=λw=>by
 have:=h (χ b::w);have e:∀ s,t.run s (χ b::w)=t.run (t.stp s b) w:=λs=>by
  show t.run (t.stp s (χ b).toNat) w=_;rw[u8n b D]
 rwa [e,e] at this
structure Reached (t:Tbl) (l:List Nat):Prop where
 head:l.getD 0 0=0
 ne:0<l.length
 nodup:l.Nodup
 lt:∀ s∈l,s<t.n.length
 closed:∀ s∈l,∀ k,k<t.cells->t.ent2 s k∈l
 all:∀ s∈l,∃ w,t.run 0 w=s
theorem Reached.zero {t:Tbl} {l:List Nat} (h:Reached t l):0∈l:=by
 have:=h.head;rw[Ζ,Μ h.ne] at this;rw[<-(show l[0]'h.ne=0 from this)];exact á _
theorem Reached.stp {t:Tbl} {l:List Nat} (h:Reached t l) (hv:TVal t) {s b:Nat} (hs:s∈l) (D:b<256):t.stp s b∈l:=h.closed s hs _ (hv.cell_lt b D)
theorem Reached.run {t:Tbl} {l:List Nat} (h:Reached t l) (hv:TVal t):∀ (w:List UInt8) {s:Nat},s∈l->t.run s w∈l
 | [],_,hs=>hs
 | x::w,_,hs=>h.run hv w (h.stp hv hs x.toNat_lt)
structure Blk (l:List Nat) (B:Nat->Nat) (R:List Nat):Prop where
 lt:∀ s∈l,B s<R.length
 mem:∀ i,i<R.length->R.getD i 0∈l
 rep:∀ i,i<R.length->B (R.getD i 0)=i
def Fp (t:Tbl) (l:List Nat) (B D:Nat->Nat):Prop:=
 ∀ s∈l,∀ s'∈l,(D s=D s'↔B s=B s'/\∀ k,k<t.cells->B (t.ent2 s k)=B (t.ent2 s' k))
structure Refi (t:Tbl) (l:List Nat) (B:Nat->Nat) (n:Nat):Prop where
 sound:∀ s∈l,∀ s'∈l,Leq t s s'->B s=B s'
 acc:∀ s∈l,∀ s'∈l,B s=B s'->t.ok s=t.ok s'
 num:0<n->∃ R,Blk l B R/\R.length=n
theorem Tu (t:Tbl) (l:List Nat) (B:Nat->Nat) (D:∀ s∈l,B s=if t.ok s then 1 else 0):Refi t l B 0 where
 sound:=λs hs s' E h=>by
  have:=h [];rw[D s hs,D s' E,show t.ok s=t.ok s' from this]
 acc:=λs hs s' E h=>by
  rw[D s hs,D s' E] at h;cases G:t.ok s<;>cases H:t.ok s'<;>simp[G,H] at h ⊢
 num:=λh=>by omega
theorem Ob {t:Tbl} (hv:TVal t) {l:List Nat} (H:Reached t l) {B G:Nat->Nat} {n:Nat} (h:Refi t l B n) (I:Fp t l B G) {R:List Nat} (E:Blk l G R):Refi t l G R.length where
 sound:=λs hs s' D he=>(I s hs s' D).2 ⟨h.sound s hs s' D he,λk J=>by
  obtain⟨b,E,rfl⟩:=hv.onto k J;exact h.sound _ (H.stp hv hs E) _ (H.stp hv D E) (he.step b E)⟩
 acc:=λs hs s' D he=>h.acc s hs s' D ((I s hs s' D).1 he).1
 num:=λ_=>⟨R,E,rfl⟩
theorem L2 {t:Tbl} {l:List Nat} {B H:Nat->Nat} {n:Nat} (h:Refi t l B n) (J:Fp t l B H) {R:List Nat} (D:Blk l H R) (M:0<l.length):n<=R.length/\0<R.length:=by
 have T:0<R.length:=by
  have:=D.lt _ (á M);omega
 refine⟨?_,T⟩;by_cases hn:n=0
 ·omega
 ·obtain⟨I,E,rfl⟩:=h.num (by omega);refine Ij (λi=>B (R.getD i 0)) _ _ λj G=>⟨H (I.getD j 0),D.lt _ (E.mem j G),?_⟩
  have U:=D.rep _ (D.lt _ (E.mem j G));have h2:=((J _ (D.mem _ (D.lt _ (E.mem j G))) _ (E.mem j G)).1 U).1;show B (R.getD (H (I.getD j 0)) 0)=j;rw[h2,E.rep j G]
theorem Oc {t:Tbl} (hv:TVal t) {l:List Nat} (H:Reached t l) {B D:Nat->Nat} {n:Nat} (h:Refi t l B n) (I:Fp t l B D) {R:List Nat} (E:Blk l D R) (hn:R.length=n) :
  ∀ s∈l,∀ s'∈l,(D s=D s'↔Leq t s s'):=by
 have ag:=(L2 h I E H.ne).2;obtain⟨T,J,h0⟩:=h.num (by omega);have same:∀ s∈l,∀ s'∈l,B s=B s'->D s=D s':=λs hs s' G he=>by
  have aa:=Uo (λi=>B (R.getD i 0)) R.length λj hj=>by
   have M:j<T.length:=by omega
   refine⟨D (T.getD j 0),E.lt _ (J.mem j M),?_⟩;have h1:=E.rep _ (E.lt _ (J.mem j M));have h2:=((I _ (E.mem _ (E.lt _ (J.mem j M))) _ (J.mem j M)).1 h1).1;show B (R.getD (D (T.getD j 0)) 0)=j;rw[h2,J.rep j M]
  have U:∀ s∈l,B (R.getD (D s) 0)=B s:=λs hs=>
   ((I _ (E.mem _ (E.lt s hs)) _ hs).1 (E.rep _ (E.lt s hs))).1
  exact aa _ _ (E.lt s hs) (E.lt s' G) (by show B (R.getD (D s) 0)=B (R.getD (D s') 0);rw[U s hs,U s' G,he])
 have ae:∀ (w:List UInt8),∀ s∈l,∀ s'∈l,D s=D s'->D (t.run s w)=D (t.run s' w):=λw=>by
  induction w with
  | nil=>intro s _ s' _ he;exact he
  | cons x w ih=>
   intro s hs s' G he;refine ih _ (H.stp hv hs x.toNat_lt) _ (H.stp hv G x.toNat_lt) (same _ (H.stp hv hs x.toNat_lt) _ (H.stp hv G x.toNat_lt) ?_);exact ((I s hs s' G).1 he).2 _ (hv.cell_lt _ x.toNat_lt)
 intro s hs s' G;constructor
 ·intro he w;have:=ae w s hs s' G he;exact h.acc _ (H.run hv w hs) _ (H.run hv w G) ((I _ (H.run hv w hs) _ (H.run hv w G)).1 this).1
 ·intro he;exact (Ob hv H h I E).sound s hs s' G he
structure Blocks (t:Tbl) (l:List Nat) (B:Nat->Nat) (R:List Nat):Prop where
 blk:Blk l B R
 leq:∀ s∈l,∀ s'∈l,(B s=B s'↔Leq t s s')
structure Merged (t:Tbl) (B:Nat->Nat) (R K:List Nat) (L:List Cls):Prop where
 parts:Parts L
 srt:L.Pairwise λa b=>key a<=key b
 len:K.length=L.length
 lt:∀ k,k<K.length->K.getD k 0<t.cells
 cell:∀ b,b<256->∀ i,i<R.length->B (t.ent2 (R.getD i 0) (K.getD (Ak L b) 0))=B (t.stp (R.getD i 0) b)
 col:∀ k k',k<K.length->k'<K.length->(∀ i,i<R.length->B (t.ent2 (R.getD i 0) (K.getD k 0))=B (t.ent2 (R.getD i 0) (K.getD k' 0)))->k=k'
structure Laid (t:Tbl) (B:Nat->Nat) (R K:List Nat) (L:List Cls) (O:List Nat) (d:Dfa):Prop where
 cls:d.cls=L
 len:d.n.length=O.length
 acl:d.acc.length=O.length
 zero:O.getD 0 0=B 0
 pos:0<O.length
 nodup:O.Nodup
 lt:∀ i,i<O.length->O.getD i 0<R.length
 row:∀ i,i<O.length->(d.n.getD i []).length=K.length
 tgt:∀ i,i<O.length->∀ k,k<K.length->d.ent2 i k<O.length/\O.getD (d.ent2 i k) 0=B (t.ent2 (R.getD (O.getD i 0) 0) (K.getD k 0))
 acc:∀ i,i<O.length->d.ok i=t.ok (R.getD (O.getD i 0) 0)
 rgf:∀ p,p<d.n.length*d.cls.length->d.ent p<=mxf d.ent p+1
 reach:∀ i,0<i->i<O.length->∃ j k,j<i/\k<K.length/\d.ent2 j k=i
theorem V0 {t:Tbl} (hv:TVal t) {l:List Nat} (E:Reached t l) {B:Nat->Nat} {R K:List Nat} {L:List Cls} {O:List Nat} {d:Dfa}
  (G:Blocks t l B R) (hm:Merged t B R K L) (h:Laid t B R K L O d):Cano d/\∀ w,d.has w=t.has w:=by
 have hn:=h.len;have aj:d.cls.length=K.length:=by rw[h.cls,hm.len]
 have I:∀ i,i<O.length->R.getD (O.getD i 0) 0∈l:=λi hi=>G.blk.mem _ (h.lt i hi)
 have M:∀ i,i<O.length->B (R.getD (O.getD i 0) 0)=O.getD i 0:=λi hi=>G.blk.rep _ (h.lt i hi)
 have ak:Val d:=by
  refine⟨by have:=h.pos;omega,by rw[h.acl,hn],λs hs=>?_,λs hs k hk=>?_,by rw[h.cls];exact hm.parts⟩
  ·rw[h.row s (by omega),aj]
  ·rw[hn];exact (h.tgt s (by omega) k (by omega)).1
 have al:∀ i j,i<O.length->j<O.length->O.getD i 0=O.getD j 0->i=j:=λi j hi hj he=>by
  rw[Ζ,Ζ,Μ hi,Μ hj] at he;exact (List.getElem_inj h.nodup).1 he
 have step:∀ i s,i<O.length->s∈l->O.getD i 0=B s->∀ b,b<256->O.getD (d.stp i b) 0=B (t.stp s b)/\d.stp i b<O.length:=λi s hi hs he b J=>by
  have an:Ak L b<K.length:=by rw[hm.len];exact cell_lt hm.parts J
  have D:=h.tgt i hi _ an;have U:=hm.cell b J _ (h.lt i hi);have h3:B (t.stp (R.getD (O.getD i 0) 0) b)=B (t.stp s b):=by
   have hq:Leq t (R.getD (O.getD i 0) 0) s:=(G.leq _ (I i hi) _ hs).1 (by rw[M i hi,he]);exact (G.leq _ (E.stp hv (I i hi) J) _ (E.stp hv hs J)).2 (hq.step b J)
  unfold Dfa.stp;rw[h.cls];exact⟨by rw[D.2,U,h3],D.1⟩
 have ae:∀ (w:List UInt8) i s,i<O.length->s∈l->O.getD i 0=B s->O.getD (d.run i w) 0=B (t.run s w)/\d.run i w<O.length:=λw=>by
  induction w with
  | nil=>intro i s hi _ he;exact⟨he,hi⟩
  | cons x w ih=>
   intro i s hi hs he;have D:=step i s hi hs he x.toNat x.toNat_lt;exact ih _ _ D.2 (E.stp hv hs x.toNat_lt) D.1
 have aq:∀ i s,i<O.length->s∈l->O.getD i 0=B s->d.ok i=t.ok s:=λi s hi hs he=>by
  rw[h.acc i hi];exact (G.leq _ (I i hi) _ hs).1 (by rw[M i hi,he]) []
 have ag:∀ i s,i<O.length->s∈l->O.getD i 0=B s->∀ w,d.ok (d.run i w)=t.ok (t.run s w):=λi s hi hs he w=>by
  have D:=ae w i s hi hs he;exact aq _ _ D.2 (E.run hv w hs) D.1
 refine⟨⟨ak,?_,?_,?_,by rw[h.cls];exact hm.srt,h.rgf⟩,λw=>ag 0 0 h.pos E.zero h.zero w⟩
 ·-- ay
  have:∀ n i,i<n->i<O.length->∃ w,d.run 0 w=i:=λn=>by
   induction n with
   | zero=>intro i hi;omega
   | succ n ih=>
    intro i hi H;by_cases h0:i=0
    ·exact⟨[],h0.symm⟩
    ·obtain⟨j,k,hj,hk,au⟩:=h.reach i (by omega) H;obtain⟨w,hw⟩:=ih j (by omega) (by omega);obtain⟨b,J,aw⟩:=Jd hm.parts (k:=k) (by rw[<-hm.len];exact hk);refine⟨w++[χ b],?_⟩;rw[B6,hw];show d.stp j (χ b).toNat=i;rw[u8n b J];unfold Dfa.stp;rw[h.cls,aw,au]
  intro s hs;exact this (s+1) s (by omega) (by omega)
 ·-- az
  intro i j hi hj he;have H:i<O.length:=by omega
  have T:j<O.length:=by omega
  refine al i j H T ?_;rw[<-M i H,<-M j T];refine (G.leq _ (I i H) _ (I j T)).2 λw=>?_
  rw[<-ag i _ H (I i H) (M i H).symm w,<-ag j _ T (I j T) (M j T).symm w];exact he w
 ·-- a1 a6 differ
  intro k k' hk a7 he;refine hm.col k k' (by omega) (by omega) λi hi=>?_
  have ax:∀ (w:List UInt8),∃ q,q<O.length/\O.getD q 0=B (t.run 0 w):=λw=>
   ⟨d.run 0 w,(ae w 0 0 h.pos E.zero h.zero).2,(ae w 0 0 h.pos E.zero h.zero).1⟩
  obtain⟨w,hw⟩:=E.all _ (G.blk.mem i hi);obtain⟨q,hq,ai⟩:=ax w;rw[hw,G.blk.rep i hi] at ai;have D:=(h.tgt q hq k (by omega)).2;have U:=(h.tgt q hq k' (by omega)).2;rw[ai] at D U;rw[<-D,<-U,he q (by omega)]
structure Joint (a b:Nat->Nat) (c:Nat->Nat) (bs:List Nat):Prop where
 lt:∀ x,x<256->c x<bs.length
 byte:∀ k,k<bs.length->bs.getD k 0<256/\c (bs.getD k 0)=k
 same:∀ x y,x<256->y<256->(c x=c y↔a x=a y/\b x=b y)
theorem Joint.rep {a b c:Nat->Nat} {bs:List Nat} (h:Joint a b c bs) (x:Nat) (D:x<256):bs.getD (c x) 0<256/\a (bs.getD (c x) 0)=a x/\b (bs.getD (c x) 0)=b x:=by
 obtain⟨E,G⟩:=h.byte _ (h.lt x D);exact⟨E,((h.same _ _ E D).1 G).1,((h.same _ _ E D).1 G).2⟩
section
variable {σ:Type}
def Aw (nx:σ->Nat->σ) (s:σ) (w:List UInt8):σ:=w.foldl (λs x=>nx s x.toNat) s
structure Expl (c:Nat->Nat) (bs:List Nat) (st:σ) (nx:σ->Nat->σ) (ac:σ->Bool) (l:List σ) (t:Tbl):Prop where
 cell:t.cell=c
 cells:t.cells=bs.length
 len:t.n.length=l.length
 acl:t.acc.length=l.length
 pos:0<l.length
 nodup:l.Nodup
 zero:l[0]? = Δ st
 row:∀ i,i<l.length->(t.n.getD i []).length=bs.length
 tgt:∀ (i:Nat) (s:σ),l[i]? = Δ s->∀ k,k<bs.length->t.ent2 i k<l.length/\l[t.ent2 i k]? = Δ (nx s (bs.getD k 0))
 acc:∀ (i:Nat) (s:σ),l[i]? = Δ s->t.ok i=ac s
 reach:∀ (i:Nat) (s:σ),l[i]? = Δ s->∃ w,Aw nx st w=s
theorem Expl.tval {c:Nat->Nat} {bs:List Nat} {st:σ} {nx:σ->Nat->σ} {ac:σ->Bool} {l:List σ} {t:Tbl} (h:Expl c bs st nx ac l t) {a b:Nat->Nat} (E:Joint a b c bs):TVal t where
 pos:=by rw[h.len];exact h.pos
 accL:=by rw[h.acl,h.len]
 row:=λs hs=>by rw[h.row s (by rw[<-h.len];exact hs),h.cells]
 tgt:=λs hs k D=>by
  rw[h.len] at hs ⊢;exact (h.tgt s _ (Μ hs) k (by rw[<-h.cells];exact D)).1
 cell_lt:=λx G=>by rw[h.cell,h.cells];exact E.lt x G
 onto:=λk D=>by
  rw[h.cells] at D;exact⟨_,(E.byte k D).1,by rw[h.cell];exact (E.byte k D).2⟩
theorem Expl.has {c:Nat->Nat} {bs:List Nat} {st:σ} {nx:σ->Nat->σ} {ac:σ->Bool} {l:List σ} {t:Tbl} (h:Expl c bs st nx ac l t) {a b:Nat->Nat} (E:Joint a b c bs)
  (hn:∀ s x,x<256->nx s (bs.getD (c x) 0)=nx s x) (w:List UInt8):t.has w=ac (Aw nx st w):=by
 have:∀ (w:List UInt8) i s,l[i]? = Δ s->l[t.run i w]? = Δ (Aw nx s w):=λw=>by
  induction w with
  | nil=>intro i s hi;exact hi
  | cons x w G=>
   intro i s hi;have D:=(h.tgt i s hi _ (E.lt _ x.toNat_lt)).2;rw[hn s _ x.toNat_lt] at D;refine G (t.stp i x.toNat) _ ?_;unfold Tbl.stp;rw[h.cell];exact D
 exact h.acc _ _ (this w 0 st h.zero)
end
def Ae (d:Dfa):Tbl:=⟨Ak d.cls,d.cls.length,d.n,d.acc⟩
theorem Bm {d:Dfa} (h:Val d):TVal (Ae d) where
 pos:=h.pos
 accL:=h.accL
 row:=h.row
 tgt:=h.tgt
 cell_lt:=λb D=>cell_lt h.parts D
 onto:=λk E=>Jd h.parts E
theorem Sd (d:Dfa) (w:List UInt8):∀ s,(Ae d).run s w=d.run s w:=by
 induction w with
 | nil=>intro s;rfl
 | cons x w D=>intro s;exact D _
theorem Dn (d:Dfa) (w:List UInt8):(Ae d).has w=d.has w:=by
 unfold Tbl.has Dfa.has;rw[Sd];rfl
def Ax (y:Tbl) (S c:Nat):Nat->Nat
 | 0=>0
 | n+1=>if S.testBit n then Ax y S c n ||| 2 ^ y.stp n c else Ax y S c n
theorem R9 (y:Tbl) (S c n r:Nat):(Ax y S c n).testBit r=Ξ↔∃ q,q<n/\S.testBit q=Ξ/\y.stp q c=r:=by
 induction n with
 | zero=>simp[Ax]
 | succ n H=>
  simp only[Ax];split
  ·rename_i h
   rw[Nat.testBit_or,Æ,H,Nat.testBit_two_pow,decide_eq_true_eq];constructor
   ·rintro (⟨q,G,D,E⟩|e)
    ·exact⟨q,by omega,D,E⟩
    ·exact⟨n,by omega,h,e⟩
   ·rintro⟨q,G,D,E⟩;by_cases e:q=n
    ·subst e;exact .inr E
    ·exact .inl ⟨q,by omega,D,E⟩
  ·rename_i h
   rw[H];constructor
   ·rintro⟨q,G,D,E⟩;exact⟨q,by omega,D,E⟩
   ·rintro⟨q,G,D,E⟩;refine⟨q,?_,D,E⟩;by_cases e:q=n
    ·subst e;exact absurd D h
    ·omega
def Cu (y:Tbl) (S:Nat):Bool:=(ι y.n.length).any λq=>y.ok q&&S.testBit q
theorem Jw (y:Tbl) (S:Nat):Cu y S=Ξ↔∃ q,q<y.n.length/\y.ok q=Ξ/\S.testBit q=Ξ:=by
 unfold Cu;rw[List.any_eq_true];constructor
 ·rintro⟨q,D,h⟩;rw[ϝ] at h;exact⟨q,υ.1 D,h.1,h.2⟩
 ·rintro⟨q,D,E,G⟩;exact⟨q,υ.2 D,by rw[E,G];rfl⟩
theorem Et {P:List UInt8->Prop} (h0:P []) (h1:∀ w x,P w->P (w++[x])) (w:List UInt8):P w:=by
 have:∀ v:List UInt8,P v.reverse:=λv=>by
  induction v with
  | nil=>exact h0
  | cons x v D=>rw[List.reverse_cons];exact h1 _ _ D
 have h:=this w.reverse
 rwa [List.reverse_reverse] at h
theorem Ee {σ:Type} (nx:σ->Nat->σ) (s:σ) (w:List UInt8) (x:UInt8):Aw nx s (w++[x])=nx (Aw nx s w) x.toNat:=by simp[Aw,List.foldl_append]
theorem Fr (t:Tbl) (s:Nat) (w:List UInt8) (x:UInt8):t.run s (w++[x])=t.stp (t.run s w) x.toNat:=by rw[Ct];rfl
theorem Q2 {u v w:List UInt8} {x:UInt8} (h:w++[x]=u++v):(v=[]/\u=w++[x])\/∃ v',v=v'++[x]/\w=u++v':=by
 rcases List.eq_nil_or_concat v with rfl|⟨v',y,rfl⟩
 ·exact .inl ⟨rfl,by simpa using h.symm⟩
 ·rw[List.concat_eq_append,<-Ò] at h;obtain⟨E,D⟩:=List.append_inj' h rfl;simp at D;subst D;exact .inr ⟨v',by rw[List.concat_eq_append],E⟩
def Cat (L M:List UInt8->Prop) (w:List UInt8):Prop:=∃ u v,w=u++v/\L u/\M v
inductive Star (L:List UInt8->Prop):List UInt8->Prop
 | nil:Star L []
 | app {u v:List UInt8}:Star L u->L v->Star L (u++v)
def F3 (x:Tbl) (p S:Nat):Nat × Nat:=(p,if x.ok p then S ||| 1 else S)
def cnx (x y:Tbl) (s:Nat × Nat) (c:Nat):Nat × Nat:=F3 x (x.stp s.1 c) (Ax y s.2 c y.n.length)
def cst (x:Tbl):Nat × Nat:=F3 x 0 0
theorem Yw (S r:Nat):(S ||| 1).testBit r=Ξ↔S.testBit r=Ξ\/r=0:=by
 rw[Nat.testBit_or,Æ,show (1:Nat)=2 ^ 0 from rfl,Nat.testBit_two_pow,decide_eq_true_eq];constructor<;>rintro (h|h)
 ·exact .inl h
 ·exact .inr h.symm
 ·exact .inl h
 ·exact .inr h.symm
theorem X8 (x:Tbl) (p S r:Nat):(F3 x p S).2.testBit r=Ξ↔S.testBit r=Ξ\/(x.ok p=Ξ/\r=0):=by
 unfold F3;cases h:x.ok p
 ·simp
 ·simp only[if_true];rw[Yw];simp
theorem Yf {x y:Tbl} (D:TVal y) (w:List UInt8):(Aw (cnx x y) (cst x) w).1=x.run 0 w/\
  ∀ r,(Aw (cnx x y) (cst x) w).2.testBit r=Ξ↔∃ u v,w=u++v/\x.has u=Ξ/\y.run 0 v=r:=by
 induction w using Et with
 | h0=>
  refine⟨rfl,λr=>?_⟩;show (F3 x 0 0).2.testBit r=Ξ↔_;rw[X8];constructor
  ·rintro (h|⟨h,rfl⟩)
   ·simp at h
   ·exact⟨[],[],rfl,h,rfl⟩
  ·rintro⟨u,v,h,h1,H⟩;obtain⟨rfl,rfl⟩:=List.append_eq_nil_iff.1 h.symm;exact .inr ⟨h1,H.symm⟩
 | h1 w z I=>
  obtain⟨E,G⟩:=I;rw[Ee];generalize Aw (cnx x y) (cst x) w=s at *;refine⟨?_,λr=>?_⟩
  ·show x.stp s.1 z.toNat=_;rw[E,Fr]
  ·show (F3 x (x.stp s.1 z.toNat) (Ax y s.2 z.toNat y.n.length)).2.testBit r=Ξ↔_;rw[X8,R9,E,<-Fr];constructor
   ·rintro (⟨q,T,J,he⟩|⟨h,rfl⟩)
    ·obtain⟨u,v,rfl,hu,hv⟩:=(G q).1 J;exact⟨u,v++[z],by rw[Ò],hu,by rw[Fr,hv,he]⟩
    ·exact⟨w++[z],[],by simp,h,rfl⟩
   ·rintro⟨u,v,h,hu,hv⟩;rcases Q2 h with⟨rfl,rfl⟩|⟨v',rfl,rfl⟩
    ·exact .inr ⟨hu,hv.symm⟩
    ·rw[Fr] at hv;exact .inl ⟨y.run 0 v',D.run_lt v' D.pos,(G _).2 ⟨u,v',rfl,hu,rfl⟩,hv⟩
theorem Alx {x y:Tbl} (D:TVal y) {c:Nat->Nat} {bs:List Nat} {l:List (Nat × Nat)} {t:Tbl} (h:Expl c bs (cst x) (cnx x y) (λs=>Cu y s.2) l t) (G:Joint x.cell y.cell c bs) (w:List UInt8) :
  t.has w=Ξ↔Cat (λu=>x.has u=Ξ) (λv=>y.has v=Ξ) w:=by
 rw[h.has G (λs b E=>?_),Jw]
 ·constructor
  ·rintro⟨q,_,ha,E⟩;obtain⟨u,v,rfl,hu,rfl⟩:=((Yf D w).2 q).1 E;exact⟨u,v,rfl,hu,ha⟩
  ·rintro⟨u,v,rfl,hu,hv⟩;exact⟨y.run 0 v,D.run_lt v D.pos,hv,((Yf D _).2 _).2 ⟨u,v,rfl,hu,rfl⟩⟩
 ·obtain⟨_,H,I⟩:=G.rep b E;have J:∀ p,x.stp p (bs.getD (c b) 0)=x.stp p b:=λp=>by unfold Tbl.stp;rw[H]
  have M:∀ n,Ax y s.2 (bs.getD (c b) 0) n=Ax y s.2 b n:=λn=>by
   induction n with
   | zero=>rfl
   | succ n T=>simp only[Ax];rw[T];unfold Tbl.stp;rw[I]
  unfold cnx;rw[J,M]
def snx (x:Tbl) (s:Nat × Nat) (c:Nat):Nat × Nat:=
 (0,if Cu x (Ax x s.2 c x.n.length) then Ax x s.2 c x.n.length ||| 1 else Ax x s.2 c x.n.length)
theorem Abp {x:Tbl} (E:TVal x) (w:List UInt8):((Aw (snx x) (1,1) w).1=if w=[] then 1 else 0)/\
  ∀ r,(Aw (snx x) (1,1) w).2.testBit r=Ξ↔∃ u v,w=u++v/\Star (λu=>x.has u=Ξ) u/\x.run 0 v=r:=by
 induction w using Et with
 | h0=>
  refine⟨rfl,λr=>?_⟩;show (1:Nat).testBit r=Ξ↔_;rw[show (1:Nat)=2 ^ 0 from rfl,Nat.testBit_two_pow,decide_eq_true_eq];constructor
  ·rintro rfl;exact⟨[],[],rfl,.nil,rfl⟩
  ·rintro⟨u,v,h,h1,I⟩;obtain⟨rfl,rfl⟩:=List.append_eq_nil_iff.1 h.symm;exact I
 | h1 w z J=>
  obtain⟨_,G⟩:=J;rw[Ee];generalize Aw (snx x) (1,1) w=s at *;have D:∀ r,(Ax x s.2 z.toNat x.n.length).testBit r=Ξ↔∃ u v',w=u++v'/\Star (λu=>x.has u=Ξ) u/\x.run 0 (v'++[z])=r:=λr=>by
   rw[R9];constructor
   ·rintro⟨q,H,D,he⟩;obtain⟨u,v,rfl,hu,hv⟩:=(G q).1 D;exact⟨u,v,rfl,hu,by rw[Fr,hv,he]⟩
   ·rintro⟨u,v',rfl,hu,hv⟩;rw[Fr] at hv;exact⟨x.run 0 v',E.run_lt v' E.pos,(G _).2 ⟨u,v',rfl,hu,rfl⟩,hv⟩
  have M:Cu x (Ax x s.2 z.toNat x.n.length)=Ξ↔Star (λu=>x.has u=Ξ) (w++[z]):=by
   rw[Jw];constructor
   ·rintro⟨q,_,ha,H⟩;obtain⟨u,v',rfl,hu,rfl⟩:=(D q).1 H;rw[Ò];exact .app hu ha
   ·intro hs;have:∀ a,Star (λu=>x.has u=Ξ) a->a=w++[z]->∃ q,q<x.n.length/\x.ok q=Ξ/\(Ax x s.2 z.toNat x.n.length).testBit q=Ξ:=λa ha=>by
     induction ha with
     | nil=>intro e;simp at e
     | app hu hv T=>
      rename_i u v
      intro e;rcases Q2 e.symm with⟨rfl,he⟩|⟨v',rfl,rfl⟩
      ·exact T he
      ·exact⟨x.run 0 (v'++[z]),E.run_lt _ E.pos,hv,(D _).2 ⟨u,v',rfl,hu,rfl⟩⟩
    exact this _ hs rfl
  refine⟨?_,λr=>?_⟩
  ·show (0:Nat)=_;simp
  ·have e:(snx x s z.toNat).2.testBit r=Ξ↔(Ax x s.2 z.toNat x.n.length).testBit r=Ξ\/(Star (λu=>x.has u=Ξ) (w++[z])/\r=0):=by
    show (if Cu x (Ax x s.2 z.toNat x.n.length) then _ else _:Nat).testBit r=Ξ↔_;rw[<-M];cases Cu x (Ax x s.2 z.toNat x.n.length)
    ·simp
    ·simp only[if_true];rw[Yw];simp
   rw[e,D];constructor
   ·rintro (⟨u,v',rfl,hu,hv⟩|⟨hs,rfl⟩)
    ·exact⟨u,v'++[z],by rw[Ò],hu,hv⟩
    ·exact⟨w++[z],[],by simp,hs,rfl⟩
   ·rintro⟨u,v,h,hu,hv⟩;rcases Q2 h with⟨rfl,rfl⟩|⟨v',rfl,rfl⟩
    ·exact .inr ⟨hu,hv.symm⟩
    ·exact .inl ⟨u,v',rfl,hu,hv⟩
theorem Abm {x:Tbl} (E:TVal x) {c:Nat->Nat} {bs:List Nat} {l:List (Nat × Nat)} {t:Tbl} (h:Expl c bs (1,1) (snx x) (λs=>s.1==1||Cu x s.2) l t) (I:Joint x.cell x.cell c bs) (w:List UInt8) :
  t.has w=Ξ↔Star (λu=>x.has u=Ξ) w:=by
 have hn:∀ (s:Nat × Nat) b,b<256->snx x s (bs.getD (c b) 0)=snx x s b:=λs b G=>by
  obtain⟨_,D,_⟩:=I.rep b G;have U:∀ n,Ax x s.2 (bs.getD (c b) 0) n=Ax x s.2 b n:=λn=>by
   induction n with
   | zero=>rfl
   | succ n ih=>simp only[Ax];rw[ih];unfold Tbl.stp;rw[D]
  unfold snx;rw[U]
 rw[h.has I hn,Æ,Jw];obtain⟨J,M⟩:=Abp E w;constructor
 ·rintro (D|⟨q,_,ha,G⟩)
  ·rw[beq_iff_eq,J] at D;have:w=[]:=by
    apply ϩ;intro H;rw[if_neg H] at D;omega
   rw[this];exact .nil
  ·obtain⟨u,v,rfl,hu,rfl⟩:=(M q).1 G;exact .app hu ha
 ·intro hs;by_cases T:w=[]
  ·left;rw[beq_iff_eq,J,if_pos T]
  ·right
   have:∀ a,Star (λu=>x.has u=Ξ) a->a≠[]->∃ u v,a=u++v/\Star (λu=>x.has u=Ξ) u/\x.has v=Ξ:=λa ha H=>by
    cases ha with
    | nil=>exact absurd rfl H
    | app hu hv=>exact⟨_,_,rfl,hu,hv⟩
   obtain⟨u,v,rfl,hu,hv⟩:=this w hs T;exact⟨x.run 0 v,E.run_lt v E.pos,hv,(M _).2 ⟨u,v,rfl,hu,rfl⟩⟩
open Go.RowKit
theorem Aaj (c d:Cls):(c==d)=(wd c 0==wd d 0&&(wd c 1==wd d 1&&(wd c 2==wd d 2&&wd c 3==wd d 3))):=by
 rw[ϰ];simp only[beq_iff_eq,ϝ];constructor
 ·rintro rfl;exact⟨rfl,rfl,rfl,rfl⟩
 ·rintro⟨D,E,G,H⟩;unfold wd at *;exact Aag λi hi=>by
   match i,hi with
   | 0,_=>omega
   | 1,_=>omega
   | 2,_=>omega
   | 3,_=>omega
theorem Ae8 (a b c d:Int) (w:Κ):(part 60 #[.int π a,.int π b,.int π c,.int π d] 0).run Η w=.ok (.int π a) w:=by kernel_rfl
theorem Ae7 (a b c d:Int) (w:Κ):(part 60 #[.int π a,.int π b,.int π c,.int π d] 1).run Η w=.ok (.int π b) w:=by kernel_rfl
theorem Ae6 (a b c d:Int) (w:Κ):(part 60 #[.int π a,.int π b,.int π c,.int π d] 2).run Η w=.ok (.int π c) w:=by kernel_rfl
theorem Ae5 (a b c d:Int) (w:Κ):(part 60 #[.int π a,.int π b,.int π c,.int π d] 3).run Η w=.ok (.int π d) w:=by kernel_rfl
theorem Alu:Η.cellsOf 60=1:=by kernel_rfl
theorem Ls (c d:Cls) (w:Κ):(Op.equalIn 10000 62 (.agg (Aa c)) (.agg (Aa d))).run Η w=.ok (c==d) w:=by
 obtain⟨i,hi⟩:∃ i,Η.info? 60=Δ i:=by
  cases h:Η.info? 60 with
  | some i=>exact⟨i,rfl⟩
  | none => exact absurd h (by intro h; have : (Η.info? 60).isSome = Ξ := by kernel_rfl
                               rw[h] at this;cases this)
 rw[Aaj];have h:=run_equalIn_array (P:=Η) (w:=w) 9999 (Aa c) (Aa d) ϗ hi;refine h.trans ?_;rw[Alu];have e:∀ (x y:Int) (w:Κ),(Op.equalIn 9999 60 (.int π x) (.int π y)).run Η w=.ok (x==y) w:=λx y w=>run_equalIn_int (P:=Η) w 9998 60 π π x y Tryz.underlying60
 simp only[ι,ι.loop,Op.eqItems,Sem.run_bind,Ae8,ï,e,Nat.mul_one];cases wd c 0==wd d 0
 ·simp
 simp only[Bool.not_true,â,if_false,Ï,Sem.run_bind,Ae7,ï,e];cases wd c 1==wd d 1
 ·simp
 simp only[Bool.not_true,â,if_false,Ï,Sem.run_bind,Ae6,ï,e];cases wd c 2==wd d 2
 ·simp
 simp only[Bool.not_true,â,if_false,Ï,Sem.run_bind,Ae5,ï,e];cases wd c 3==wd d 3<;>simp
theorem Agg (c d:Cls) (w:Κ):(binOp .neq 62 (.agg (Aa c)) (.agg (Aa d))).run Η w=.ok (.bool (c != d)) w:=by
 rw[run_neq_struct,Ls];rfl
theorem Kh:Η.eqGuardType Η.depth 62=Τ:=by kernel_rfl
open Go.RowKit Go.Shelf
def hiB (x p:Nat):Nat:=x / 2 ^ p*2 ^ p
theorem Ajb (x:Nat):hiB x 0=x:=by simp[hiB]
theorem Wk (x p:Nat):hiB x p<=x:=Nat.div_mul_le_self _ _
theorem Iy (x p j:Nat):(hiB x p).testBit j=(decide (p<=j)&&x.testBit j):=by
 unfold hiB;rw[Nat.testBit_mul_two_pow,<-Nat.shiftRight_eq_div_pow,Nat.testBit_shiftRight];by_cases h:p<=j
 ·simp only[h,decide_true,Ï];congr 1;omega
 ·simp[h]
theorem Ahh (x p:Nat) (J:x<2 ^ 64) (h:hiB x p≠0) :
  p<=Lib.ctz 64 (hiB x p)/\Lib.ctz 64 (hiB x p)<64/\hiB x p &&& (hiB x p-1)=hiB x (Lib.ctz 64 (hiB x p)+1)/\x.testBit (Lib.ctz 64 (hiB x p))=Ξ/\∀ j,p<=j->j<Lib.ctz 64 (hiB x p)->x.testBit j=Τ:=by
 have M:hiB x p<2 ^ 64:=Nat.lt_of_le_of_lt (Wk x p) J;obtain⟨m,hm,T⟩:=Lib.ctzFrom_spec 64 (hiB x p) (by omega) M;have e:Lib.ctz 64 (hiB x p)=Lib.ctzFrom 64 (hiB x p):=by simp[Lib.ctz,h]
 rw[e];generalize hT:Lib.ctzFrom 64 (hiB x p)=t at *;have E:∀ j,(hiB x p).testBit j=(decide (t<=j)&&(2*m+1).testBit (j-t)):=λj=>by
  rw[hm,Nat.mul_comm,Nat.testBit_mul_two_pow]
 have H:p<=t:=by
  apply Nat.le_of_not_lt;intro af;have D:=Iy x p t;rw[E t] at D;simp only[θ,decide_true,Ï,Nat.sub_self,Nat.testBit_zero] at D;have:decide (p<=t)=Τ:=by simp;omega
  rw[this,Bool.false_and] at D;simp at D
 have U:x.testBit t=Ξ:=by
  have D:=Iy x p t;rw[E t] at D;simp only[θ,decide_true,Ï,Nat.sub_self,Nat.testBit_zero,H] at D;rw[<-D];simp
 refine⟨H,T,?_,U,λj ag ah=>?_⟩
 ·have D:hiB x p=2 ^ t*(2*m+1)+0:=by rw[hm];rfl
  have aa:0<2 ^ t:=Nat.pow_pos (by omega);have h2:hiB x p-1=2 ^ t*(2*m)+(2 ^ t-1):=by rw[hm,Nat.mul_add];omega
  rw[h2,D,Ho t _ _ _ _ aa (by omega),Nat.zero_and,Nat.add_zero];have h3:(2*m+1) &&& (2*m)=2*m:=by
   have:=Ho 1 m 1 m 0 (by omega) (by omega)
   simpa [Nat.and_self] using this
  rw[h3];apply Nat.eq_of_testBit_eq;intro j;rw[Iy,show 2 ^ t*(2*m)=m*2 ^ (t+1) by rw[Nat.pow_succ,Nat.mul_comm m,Nat.mul_assoc],Nat.testBit_mul_two_pow];by_cases I:t+1<=j
  ·simp only[I,decide_true,Ï];have G:=Iy x p j;rw[E j] at G;rw[show decide (t<=j)=Ξ by simp;omega,show decide (p<=j)=Ξ by simp;omega,Ï,Ï] at G;rw[<-G,show j-t=(j-(t+1))+1 by omega,Nat.testBit_succ]
   congr 1;omega
  ·simp[I]
 ·have D:=Iy x p j;rw[E j,show decide (t<=j)=Τ by simp;omega,show decide (p<=j)=Ξ by simp;omega,Bool.false_and,Ï] at D;exact D.symm
theorem Ym (c:Cls) (a b:Nat) (H:a<=b) (h:∀ j,a<=j->j<b->c.getLsbD j=Τ):Al c b=Al c a:=by
 induction b with
 | zero=>rw[show a=0 by omega]
 | succ b D=>
  by_cases E:a=b+1
  ·rw[E]
  ·simp only[Al];rw[h b (by omega) (by omega),D (by omega) (λj G I=>h j G (by omega))];simp
theorem Agv (c:Cls) (i p:Nat) (h:hiB (wn c i) p≠0) :
  Lib.ctz 64 (hiB (wn c i) p)<64/\hiB (wn c i) p &&& (hiB (wn c i) p-1)=hiB (wn c i) (Lib.ctz 64 (hiB (wn c i) p)+1)/\
  Al c (64*i+(Lib.ctz 64 (hiB (wn c i) p)+1))=Al c (64*i+p)++[χ (64*i+Lib.ctz 64 (hiB (wn c i) p))]:=by
 obtain⟨U,H,I,D,J⟩:=Ahh (wn c i) p (D4 c i) h;refine⟨H,I,?_⟩;generalize Lib.ctz 64 (hiB (wn c i) p)=t at *;have M:∀ j,p<=j->j<t->c.getLsbD (64*i+j)=Τ:=λj E G=>by
  have:=J j E G;rw[Cn,show decide (j<64)=Ξ by simp;omega,Ï] at this;exact this
 have T:c.getLsbD (64*i+t)=Ξ:=by
  rw[Cn,show decide (t<64)=Ξ by simp;omega,Ï] at D;exact D
 rw[<-Nat.add_assoc];show (if c.getLsbD (64*i+t) then Al c (64*i+t)++[χ (64*i+t)] else Al c (64*i+t))=_;rw[if_pos T,Ym c (64*i+p) (64*i+t) (by omega) (λj E G=>by
  have:=M (j-64*i) (by omega) (by omega)
  rwa [show 64*i+(j-64*i)=j by omega] at this)]
theorem Agw (c:Cls) (i p:Nat) (D:p<=64) (h:hiB (wn c i) p=0):Al c (64*(i+1))=Al c (64*i+p):=by
 refine Ym c _ _ (by omega) (λj E G=>?_);have:=Iy (wn c i) p (j-64*i);rw[h,Nat.zero_testBit,show decide (p<=j-64*i)=Ξ by simp;omega,Ï,Cn,show decide (j-64*i<64)=Ξ by simp;omega,Ï,show 64*i+(j-64*i)=j by omega] at this;exact this.symm
theorem Yn (c:Cls) (a b:Nat) (G:a<=b):Al c a <+: Al c b:=by
 induction b with
 | zero=>rw[show a=0 by omega];exact List.prefix_refl _
 | succ b D=>
  by_cases E:a=b+1
  ·rw[E];exact List.prefix_refl _
  ·have D:=D (by omega);simp only[Al];split
   ·exact D.trans (List.prefix_append _ _)
   ·exact D
open Go Go.RowKit
def Na {α:Type} (F:Fence) (n:Nat) (P:Program) (g:Nat) (G:Array Ρ) (H:α->Array Ρ) (I:List α->α->Prop) (S M:List α->Prop) (w:Κ):Prop:=
 ∀ (l:Nat) (J D:List α->Κ->Prop) (W:Κ),(∀ pre W',J pre W'->Below w.heap.size w W')->
  (∀ pre x E,J pre E->I pre x->YieldAt F (n-1) P l (H x) E λe W'=>(e=ν (.bool Ξ)/\J (pre++[x]) W')\/(e=ν (.bool Τ)/\D (pre++[x]) W'))->
  J [] W->
  CallsIn F n P g (#[.func (.yield l) #[] #[]]++G) W λe W'=>(∃ v,e=ν v)/\((∃ xs,S xs/\J xs W')\/(∃ pre,M pre/\D pre W'))
def Afo {α:Type} (I:List α->Κ->Prop) (D:Code->List α->Κ->Prop) (xs:List α) (W:Κ):Exit->Act->Κ->Prop
 | .normal,_,W'=>KeepsOthers W W'/\I xs W'
 | .ret,_,W'=>KeepsOthers W W'/\D .ret xs W'
 | .exit id,_,W'=>KeepsOthers W W'/\D (.exit id) xs W'
 | .goto t,_,W'=>KeepsOthers W W'/\D (.goto t) xs W'
 | .panic _,_,_=>False
 | .outgrown,_,_=>False
def Nb {β:Type} (B:Nat) (I:β->Κ->Prop):Prop:=∀ s W l (o D:Obj),I s W->B<=l->W.heap[l]? = Δ o->o.isCells=Τ->I s (W.putObj l D)
def Ank {β:Type} (I:β->Κ->Prop):Prop:=∀ s W (o:Obj),I s W->I s (W.alloc o)
variable {F:Fence} {n:Nat} {P:Program}
theorem Rj {α:Type} {g:Operand} {ps:Array Tmp} {assign body:Code} {Q:Exit->Act->Κ->Prop} {a:Act} {w:Κ}
  (az:F.round=Γ) (h1:1<=n) {gf:Nat} {lb:Array Ρ} (hg:a.eval g=.func (.func gf) #[] lb) (a6:F.fn gf) (eg:∀ args w,(callFunc gf args).run P w=.ok (.enter gf args) w)
  {ai:α->Array Ρ} {Nx:List α->α->Prop} {S Sp:List α->Prop} {w0:Κ} (a8:Na F (n-1) P gf lb ai Nx S Sp w0) (ba:∀ x,(ai x).size=ps.size)
  (I:List α->Κ->Prop) (Ix:Code->List α->Κ->Prop) (hI:Nb w.heap.size I) (au:Ank I) (ak:∀ c,Nb w.heap.size (Ix c)) (hb:∀ pre W,I pre W->Below w0.heap.size w0 W) (h0:I [] w) (a₁:α->Act)
  (bd:∀ (l:Nat) (x:α) (W:Κ) (K:Act->Κ->Prop),K (a₁ x) W->
   assign.wpIn (F.inRound l) (n-1-1) P (Exit.then K (λ_ _ _=>False)) { tmps:=(ps.zip (ai x)).foldl (λt (p,v)=>t.setIfInBounds p v) a.tmps,defers:=[] } W)
  (be:∀ (l:Nat) (pre:List α) (x:α) (W:Κ),I pre W->Nx pre x->body.wpIn (F.inRound l) (n-1-1) P (Afo I Ix (pre++[x]) W) (a₁ x) W)
  (bf:∀ (D:Nat) (xs:List α) (W:Κ),w.heap.size<=D->S xs->I xs W->W.heap[D]? = Δ (.deferred (Δ []))->Q .normal { a with defers:={ target:=.collected D,args:=#[] }::a.defers } W)
  (bg:∀ (D:Nat) (c:Code) (pre:List α) (W:Κ),w.heap.size<=D->Sp pre->Ix c pre W->W.heap[D]? = Δ (.deferred (Δ []))->c.wpIn F n P Q { a with defers:={ target:=.collected D,args:=#[] }::a.defers } W) :
  (Code.rangeFunc g ps assign body).wpIn F n P Q a w:=by
 refine wpIn_rangeFunc ?_;intro fn bh;rw[az];obtain⟨rec,J⟩:∃ rec:LoopState->Option Code->Loop,rec=λst pe=>{ state:=st,pending:=pe,fn,tmps:=a.tmps,params:=ps,assign,body,defers:=w.heap.size }:=⟨_,rfl⟩
 obtain⟨U,al⟩:∃ U,(w.alloc (.deferred (Δ []))).alloc (.loop (rec .ready Γ))=U:=⟨_,rfl⟩;have bk:U.heap[w.heap.size+1]? = Δ (.loop (rec .ready Γ)):=by
  rw[<-al];have:=Κ.alloc_heap_new (w.alloc (.deferred (Δ []))) (.loop (rec .ready Γ));rwa [Λ] at this
 have bl:U.heap[w.heap.size]? = Δ (.deferred (Δ [])):=by
  rw[<-al];exact (Below.heap_alloc _ _ _ (by simp)).trans (Κ.alloc_heap_new w _)
 have bm:I [] U:=by rw[<-al];exact au _ _ _ (au _ _ _ h0)
 refine⟨w.heap.size+1,[{ target:=.collected w.heap.size,args:=#[] }],U,{ target:=.fn (.func gf) lb,args:=#[.func (.yield (w.heap.size+1)) #[] #[]] },U,gf,
  #[.func (.yield (w.heap.size+1)) #[] #[]]++lb,U,?_,?_,?_,?_,λ_=>h1,?_⟩
 ·rw[<-al,J];exact run_enterLoop_outer _ _ _ _ _
 ·simp only[resolve,hg];simp[go_sem]
 ·intro f' ax;simp[Target.leads] at ax;subst ax;exact a6
 ·simp[invoke,go_sem,eg]
 ·refine (a8 (w.heap.size+1)
   (λpre W=>I pre W/\W.heap[w.heap.size+1]? = Δ (.loop (rec .ready Γ))/\W.heap[w.heap.size]? = Δ (.deferred (Δ [])))
   (λpre W=>∃ c,Ix c pre W/\W.heap[w.heap.size+1]? = Δ (.loop (rec .done (Δ c)))/\W.heap[w.heap.size]? = Δ (.deferred (Δ [])))
   U (λpre W h=>hb _ _ h.1) ?_ ⟨bm,bk,bl⟩).mono ?_
  ·rintro pre x W ⟨hi,M,hk⟩ bn;have bo:w.heap.size+1<W.heap.size:=(ϒ.1 M).1;have hy:=run_yield (P:=P) (args:=ai x) M (by rw[J];exact ba x);rw[J] at hy;refine⟨fn,_,assign,body,hy,roundIn_of_wpIn bh (bd _ x W _ ⟨_,run_beginRound M (by rw[J]),?_⟩)⟩;have bp:(W.putObj (w.heap.size+1) (.loop { rec .ready Γ with state:=.busy })).heap[w.heap.size+1]? = Δ (.loop { rec .ready Γ with state:=.busy }):=Κ.putObj_heap_same bo;have bq:(W.putObj (w.heap.size+1) (.loop { rec .ready Γ with state:=.busy })).heap[w.heap.size]? = Δ (.deferred (Δ [])):=(È (by omega)).trans hk;refine wpIn_mono (be _ pre x _ (hI _ _ _ _ _ hi (by omega) M rfl) bn) ?_;have an:∀ (E:Option Code) (G:Κ),KeepsOthers (W.putObj (w.heap.size+1) (.loop { rec .ready Γ with state:=.busy })) G->
     (Instr.endRound (w.heap.size+1) E).run P G=.ok (.bool E.isNone) (G.putObj (w.heap.size+1) (.loop (rec (if E.isNone then .ready else .done) E)))/\
     G.heap[w.heap.size+1]? = Δ (.loop { rec .ready Γ with state:=.busy })/\
     (G.putObj (w.heap.size+1) (.loop (rec (if E.isNone then .ready else .done) E))).heap[w.heap.size+1]? = Δ (.loop (rec (if E.isNone then .ready else .done) E))/\
     (G.putObj (w.heap.size+1) (.loop (rec (if E.isNone then .ready else .done) E))).heap[w.heap.size]? = Δ (.deferred (Δ [])):=λE G T=>by
    have H:=T.same _ _ bp rfl;have:=run_endRound (P:=P) E H;rw[J] at this ⊢;exact⟨this,by rw[J] at H;exact H,Κ.putObj_heap_same (ϒ.1 H).1,(È (by omega)).trans (T.same _ _ bq rfl)⟩
   rintro e a3 G hp;cases e with
   | normal=>
    obtain⟨T,aa⟩:=hp;obtain⟨hr,H,ad,ae⟩:=an Γ G T;exact⟨_,_,hr,.inl ⟨rfl,hI _ _ _ _ _ aa (by omega) H rfl,ad,ae⟩⟩
   | ret=>
    obtain⟨T,aa⟩:=hp;obtain⟨hr,H,ad,ae⟩:=an (Δ .ret) G T;exact⟨_,_,hr,.inr ⟨rfl,.ret,ak _ _ _ _ _ _ aa (by omega) H rfl,ad,ae⟩⟩
   | exit id=>
    obtain⟨T,aa⟩:=hp;obtain⟨hr,H,ad,ae⟩:=an (Δ (.exit id)) G T;exact⟨_,_,hr,.inr ⟨rfl,.exit id,ak _ _ _ _ _ _ aa (by omega) H rfl,ad,ae⟩⟩
   | goto t=>
    obtain⟨T,aa⟩:=hp;obtain⟨hr,H,ad,ae⟩:=an (Δ (.goto t)) G T;exact⟨_,_,hr,.inr ⟨rfl,.goto t,ak _ _ _ _ _ _ aa (by omega) H rfl,ad,ae⟩⟩
   | panic ch=>exact hp.elim
   | outgrown=>exact hp.elim
  ·rintro e W2 ⟨⟨v,rfl⟩,(⟨xs,hS,hi,M,hk⟩|⟨pre,bt,c,hi,M,hk⟩)⟩
   ·exact⟨Γ,_,by have:=run_endLoop (P:=P) M (by rw[J];simp);rw[J] at this;exact this,bf _ xs _ (θ _) hS (hI _ _ _ _ _ hi (by omega) M rfl) ((È (by omega)).trans hk)⟩
   ·exact⟨Δ c,_,by have:=run_endLoop (P:=P) M (by rw[J];simp);rw[J] at this;exact this,bg _ c pre _ (θ _) bt (ak c _ _ _ _ _ hi (by omega) M rfl) ((È (by omega)).trans hk)⟩
theorem Ext.putObj {a b:Κ} (h:Ext a b) {l:Nat} (D:a.heap.size<=l) (o:Obj):Ext a (b.putObj l o):=
 h.grown (grownBy_putObj' b l o) (λk e=>by cases e;exact D)
attribute [local go_sem] Oper.semAt_some
def Tab (w:Κ):Prop:=∀ j,j<64->w.cell? ⟨0,j,Γ⟩=Δ (.int .u8 (Lib.deBruijn64tab.getD j 0:Nat))
theorem Tab.below {w W:Κ} {B:Nat} (h:Tab w) (D:Below B w W) (E:0<B):Tab W:=λj G=>(D.cell (p:=⟨0,j,Γ⟩) E).trans (h j G)
theorem Aau (x a:Nat) (D:x<18446744073709551616) (H:x≠0) (E:x &&& (18446744073709551616-x)=a) :
  ϴ.wrap (bits BinOp.and ϴ (x:Int) (ϴ.wrap (-(x:Int)))*285870213051353865) / 288230376151711744=((a*285870213051353865 % 18446744073709551616 / 288230376151711744:Nat):Int):=by
 have G:ϴ.wrap (-(x:Int))=((18446744073709551616-x:Nat):Int):=by rw[IntKind.wrap_u64];omega
 rw[G,u64_and_nat x _ D (by omega),E,IntKind.wrap_u64];omega
theorem Aav (F:Fence) (n:Nat) (E:F.fn 153) (G:F.round=Γ) (x k D:Nat) (w:Κ) (H:((x:Int)==0)=Τ)
  (key:ϴ.wrap (bits BinOp.and ϴ (x:Int) (ϴ.wrap (-(x:Int)))*285870213051353865) / 288230376151711744=(D:Int))
  (hi:D<64) (I:k<64) (J:w.cell? ⟨0,D,Γ⟩=Δ (.int .u8 (k:Nat))) :
  CallsIn F n Η 153 #[.int π (x:Int)] w λe w'=>e=ν (.int ζ (k:Nat))/\w'=w:=by
 refine callsIn_of_wp Tryz.func153 rfl E ?_ G;simp only[Tryz.ntmps153,ø,Ϲ,List.length_nil,Nat.reduceAdd,Nat.reduceSub,û,ú,List.push_toArray,ÿ,List.nil_append,List.cons_append]
 gi_wp2_with (simp only[key])
 go_ret;exact⟨rfl,rfl⟩
theorem Aaw (F:Fence) (n:Nat) (I:F.fn 153) (J:F.round=Γ) (x:Nat) (D:x<18446744073709551616) (E:x≠0) (w:Κ) (M:Tab w) :
  CallsIn F n Η 153 #[.int π (x:Int)] w λe w'=>e=ν (.int ζ (Lib.ctz 64 x:Nat))/\w'=w:=by
 obtain⟨T,G⟩:=Lib.lowest_bit 64 x E D;obtain⟨hi,U⟩:=Lib.deBruijn64_at _ G;have H:=M _ hi;rw[U] at H;exact Aav F n I J x _ _ w (by simp;omega) (Aau x _ D E T) hi G H
theorem Y9 (y:Nat) (D:y≠0) (h:y<18446744073709551616):bits BinOp.and ϴ (y:Int) ((y:Int)-1)=((y &&& (y-1):Nat):Int):=by
 rw[show ((y:Int)-1)=((y-1:Nat):Int) by omega,u64_and_nat _ _ h (by omega)]
theorem Aas (k:Nat) (h:k<256):((χ k).toNat:Int)=(k:Int):=by
 simp
 omega
set_option maxRecDepth 100000 in
theorem Agu (F:Fence) (n:Nat) (an:F.fn 152) (ao:F.fn 153) (aa:F.round=Γ) (hn:1<=n) (l Bc:Nat) (c:Cls) (J Jx:List UInt8->Κ->Prop)
  (hT:∀ pre W,J pre W->Tab W)
  (hY:∀ pre x W,J pre W->(pre++[x]) <+: Al c 256->YieldAt F (n-1) Η l #[bv x] W λe W'=>(e=ν (.bool Ξ)/\J (pre++[x]) W')\/(e=ν (.bool Τ)/\Jx (pre++[x]) W'))
  (W:Κ) (E:W.heap[Bc]? = Δ (Ε (Aa c) 62 (0,0))) (h0:J [] W) :
  CallsIn F n Η 152 #[.func (.yield l) #[] #[],γ (Δ ⟨Bc,0,Γ⟩)] W λe W'=>(∃ v,e=ν v)/\((∃ xs,xs=Al c 256/\J xs W')\/(∃ pre,pre <+: Al c 256/\Jx pre W')):=by
 have c0:=(Ω W _ 0 _ _ _ E).trans rfl;have c1:=(Ω W _ 1 _ _ _ E).trans rfl;have c2:=(Ω W _ 2 _ _ _ E).trans rfl;have c3:=(Ω W _ 3 _ _ _ E).trans rfl;clear E;refine callsIn_of_wp Tryz.func152 rfl an ?_ aa;simp only[Tryz.ntmps152,ø,Ϲ,List.length_nil,Nat.reduceAdd,Nat.reduceSub,û,ú,List.push_toArray,ÿ,List.nil_append,List.cons_append]
 gi_wp2
 clear c0 c1 c2 c3
 gi_loopw [6] (λI wr=>∃ k:Nat,k<=4/\I=.int ζ k/\J (Al c (64*k)) wr) (λI _=>4-(intOf I).toNat)
 case atStart=>exact⟨0,by omega,rfl,h0⟩
 case round=>
  obtain⟨k,hk,rfl,hJ⟩:=hrel;by_cases az:k<4
  ·have a1:=Wh c k az;have a6:decide ((k:Int)<4)=Ξ:=by simp;omega
   gi_wp2
   obtain⟨wo,rfl⟩:∃ wo:Κ,wo=wr:=⟨_,rfl⟩;clear a1 a6
   gi_loopw [4] (λM wr=>∃ p:Nat,p<=64/\M=.int π (hiB (wn c k) p:Nat)/\J (Al c (64*k+p)) wr) (λM _=>(intOf M).toNat)
   case atStart=>exact⟨0,by omega,by rw[Ajb];rfl,hJ⟩
   case round=>
    obtain⟨p,hp,rfl,G⟩:=hrel;have H:hiB (wn c k) p<18446744073709551616:=Nat.lt_of_le_of_lt (Wk _ _) (D4 c k);by_cases D:hiB (wn c k) p=0
    ·have ag:=Agw c k p hp D;rw[D];rw[<-ag] at G;clear ag D H
     gi_wp2
     go_roundw
     case rel=>exact⟨k+1,by omega,by go_num,G⟩
     case measure=>simp[intOf];omega
    ·obtain⟨ht,T,U⟩:=Agv c k p D;have ah:=Aaw F (n-1) ao aa (hiB (wn c k) p) H D wr (hT _ _ G);have ai:Al c (64*k+p)++[χ (64*k+Lib.ctz 64 (hiB (wn c k) p))] <+: Al c 256:=by
      rw[<-U];exact Yn c _ _ (by omega)
     obtain⟨fn,be,bf,bg,hy,hR⟩:=hY _ _ wr G ai;rw[<-U] at hR;have HAnd:=Α T;have bh:hiB (wn c k) (Lib.ctz 64 (hiB (wn c k) p)+1)<hiB (wn c k) p:=by
      rw[<-T];have:=Nat.and_le_right (n:=hiB (wn c k) p) (m:=hiB (wn c k) p-1);omega
     clear T U ai;generalize hiB (wn c k) p=y at *;generalize Lib.ctz 64 y=t at *;have hb:bv (χ (64*k+t))=.int .u8 (64*(k:Int)+(t:Int)):=by
      show Ρ.int .u8 ((χ (64*k+t)).toNat:Int)=_;rw[Aas _ (by omega)]
      congr 1
     have hw:IntKind.u8.wrap (64*(k:Int)+(t:Int))=64*(k:Int)+(t:Int):=IntWalk.u8_in _ ⟨by omega,by omega⟩;rw[hb] at hy;have bk:((y:Int) != 0)=Ξ:=by simp;omega
     have bl:1<=y:=by omega
     have HT:=Α ah;clear ah hb D
     gi_wp2_with (gi_at_call 153;refine HT.out.mono ?_;clear HT;rintro e w' ⟨rfl,rfl⟩)
     refine hR.mono ?_;rintro e W3 (⟨rfl,ba⟩|⟨rfl,bb⟩)
     ·gi_wp2
      go_roundw
      case rel=>exact⟨t+1,by omega,by rw[Y9 y (by omega) H,HAnd.out],ba⟩
      case measure=>rw[Y9 y (by omega) H,HAnd.out];simp[intOf];omega
     ·gi_wp2
      refine bodyPost_ret (results_none rfl _ _ _) rfl ?_;exact⟨⟨_,rfl⟩,.inr ⟨_,Yn c _ _ (by omega),bb⟩⟩
  ·obtain rfl:k=4:=by omega
   gi_wp2
   go_end0
   exact⟨⟨_,rfl⟩,.inl ⟨_,rfl,hJ⟩⟩
attribute [local go_sem] Oper.semAt_some
theorem Vg (F:Fence) (n:Nat) (I:F.fn 152) (M:F.fn 153) (T:F.round=Γ) (hn:1<=n) (D:Nat) (c:Cls) (w:Κ) (U:Tab w) (E:w.heap[D]? = Δ (Ε (Aa c) 62 (0,0))) :
  Na F n Η 152 #[γ (Δ ⟨D,0,Γ⟩)] (λx=>#[bv x]) (λpre x=>(pre++[x]) <+: Al c 256) (·=Al c 256) (· <+: Al c 256) w:=by
 intro l J Jx W G hY H;have ad:=An E;exact Agu F n I M T hn l D c J Jx (λpre W' h=>U.below (G _ _ h) (by omega)) hY W (((G _ _ H).block D ad).trans E) H
theorem Vh (F:Fence) (n:Nat) (D:F.fn 138) (E:F.round=Γ) (c:Cls) (w:Κ) :
  CallsIn F n Η 138 #[.agg (Aa c)] w λe w'=>e=ν (.func (.func 152) #[] #[γ (Δ ⟨w.heap.size,0,Γ⟩)])/\w'=w.alloc (Ε (Aa c) 62):=by
 refine callsIn_of_wp Tryz.func138 rfl D ?_ E;simp only[Tryz.ntmps138,ø,Ϲ,List.length_nil,Nat.reduceAdd,Nat.reduceSub,û,ú,List.push_toArray,ÿ,List.nil_append,List.cons_append]
 gi_wp2
 go_ret;exact⟨rfl,rfl⟩
theorem J3 {W:Κ} {k l:Nat} {o o':Obj} {cs:Array Ρ} {t:TypeId} {fr:Nat × Nat} (h:W.heap[k]? = Δ (Ε cs t fr)) (D:W.heap[l]? = Δ o) (E:o.isCells=Τ):(W.putObj l o').heap[k]? = Δ (Ε cs t fr):=by
 have G:k≠l:=by rintro rfl;rw[h] at D;cases D;cases E
 exact (È G).trans h
theorem Ah8 (F:Fence) (n:Nat) (ar:F.fn 144) (au:F.fn 138) (af:F.fn 152) (aw:F.fn 153) (T:F.round=Γ) (hn:3<=n) (c:Cls) (w:Κ) (hT:Tab w) (ay:0<w.heap.size) :
  CallsIn F n Η 144 #[.agg (Aa c)] w λe w'=>e=ν (.int ζ (Bv (Al c 256)))/\Ext w w'/\w.drawn<=w'.drawn:=by
 have h1:1<=n:=by omega
 have h2:1<=n-1:=by omega
 have hA:=Ag (ϱ w (Ε (Aa c) 62)) (Ε #[.int ζ 0] 3);have hR:=heap_alloc2_new w (Ε (Aa c) 62) (Ε #[.int ζ 0] 3);have G:=((Ι w).alloc (Ε (Aa c) 62)).alloc (Ε #[.int ζ 0] 3);have H:w.drawn<=((w.alloc (Ε (Aa c) 62)).alloc (Ε #[.int ζ 0] 3)).drawn:=θ _;have hs:((w.alloc (Ε (Aa c) 62)).alloc (Ε #[.int ζ 0] 3)).heap.size=w.heap.size+1+1:=by simp
 refine callsIn_of_wp_marks Tryz.func144 rfl ar ?_ T;simp only[Tryz.ntmps144,ø,Ϲ,List.length_nil,Nat.reduceAdd,Nat.reduceSub,û,ú,List.push_toArray,ÿ,List.nil_append,List.cons_append]
 gi_wp2_with (gi_at_call 138;refine (Vh F (n-1) au T c _).mono ?_;rintro e w' ⟨rfl,rfl⟩)
 have ah:=Ag hR (Ε (Aa c) 62);have ai:=ϱ ((w.alloc (Ε (Aa c) 62)).alloc (Ε #[.int ζ 0] 3)) (Ε (Aa c) 62);rw[hs] at ai;have aa:=G.alloc (Ε (Aa c) 62);have aj:w.drawn<=(((w.alloc (Ε (Aa c) 62)).alloc (Ε #[.int ζ 0] 3)).alloc (Ε (Aa c) 62)).drawn:=θ _;have bf:w.heap.size+2<(((w.alloc (Ε (Aa c) 62)).alloc (Ε #[.int ζ 0] 3)).alloc (Ε (Aa c) 62)).heap.size:=by simp
 clear hA hR G H hs;generalize ((w.alloc (Ε (Aa c) 62)).alloc (Ε #[.int ζ 0] 3)).alloc (Ε (Aa c) 62)=w3 at *;have a7:=hT.below aa.below ay;have ak:=Α ah;clear ah;refine Rj T h1 (gf:=152) (lb:=#[γ (Δ ⟨w.heap.size+1+1,0,Γ⟩)]) rfl af (enters_of Tryz.func152 (by kernel_rfl) rfl)
  (Vg F (n-1) af aw T h2 (w.heap.size+1+1) c w3 a7 ai) (λ_=>rfl)
  (λpre W=>pre=[]/\Ext w3 W/\w3.drawn<=W.drawn)
  (λk pre W=>k=.ret/\∃ x,pre=[x]/\Ext w W/\w.drawn<=W.drawn/\W.heap[w.heap.size+1]? = Δ (Ε #[.int ζ (x.toNat:Int)] 3 (0,0)))
  (λs W l o M h hl ho hc=>⟨h.1,h.2.1.putObj hl M,h.2.2⟩)
  (λs W o h=>⟨h.1,h.2.1.alloc o,h.2.2⟩)
  (λk s W l o M h hl ho hc=>by
   obtain⟨hk,x,hs,G,H,E⟩:=h;exact⟨hk,x,hs,G.putObj (by omega) M,H,J3 E ho hc⟩)
  (λpre W h=>h.2.1.below) ⟨rfl,Ι _,θ _⟩
  (λx=>{ tmps:=#[.agg (Aa c),γ (Δ ⟨w.heap.size,0,Γ⟩),γ (Δ ⟨w.heap.size+1,0,Γ⟩),bv x,.agg (Aa c),.func (.func 152) #[] #[γ (Δ ⟨w.heap.size+1+1,0,Γ⟩)],bv x,ς,ς],defers:=[] }) ?assign ?body ?done ?stop
 case assign=>
  intro l x W K I
  gi_wp2
  exact I
 case body=>
  rintro l pre x W ⟨rfl,G,H⟩ _;have E:=G.heap ak.out;have ba:=(Ω W _ 0 _ _ _ E).trans rfl;have bb:=Ϯ W _ 0 _ _ E;have J:=Α E;have hx:=x.toNat_lt;clear E
  gi_wp2
  refine⟨KeepsOthers.setCell _ _ _,rfl,x,rfl,(aa.trans G).setCell (by simp) _,ψ aj H,?_⟩;rw[Ϥ W _ _ _ _ _ _ J.out,show (#[Ρ.int ζ 0]:Array Ρ).setIfInBounds 0 (.int ζ (x.toNat:Int))=#[.int ζ (x.toNat:Int)] from rfl];exact setRow_heap W _ _ _ _ _ J.out
 case done=>
  rintro D ys W bc rfl ⟨he,G,H⟩ I;have E:=G.heap ak.out;have ba:=(Ω W _ 0 _ _ _ E).trans rfl;have bb:=Ϯ W _ 0 _ _ E;have J:=Α E;have HB:=Α he;have U:=Α I;clear E he I
  gi_wp2
  have aq:=(KeepsOthers.setCell W ⟨w.heap.size+1,0,Γ⟩ (.int ζ (-1))).same D _ U.out rfl;refine⟨by simp,.inl ⟨_,_,rfl,run_takeDeferred aq,?_⟩⟩;have h5:=J3 (o':=.deferred Γ) (by rw[Ϥ W _ _ _ _ _ _ J.out];exact setRow_heap W _ _ _ _ _ J.out) aq rfl;have ae:=(Ω _ _ 0 _ _ _ h5).trans rfl;refine⟨.int ζ (-1),?_,by rw[HB.out];rfl,((aa.trans G).setCell (by simp) _).putObj (by omega) _,ψ aj H⟩;simp[results,Tryz.f144,go_sem,ae]
 case stop=>
  rintro D k pre W bc be ⟨rfl,x,rfl,G,H,E⟩ I;have J:=Α E;have U:=Α I;clear E I
  gi_wp2
  refine⟨by simp,.inl ⟨_,_,rfl,run_takeDeferred U.out,?_⟩⟩;have h5:=J3 (o':=.deferred Γ) J.out U.out rfl;have ae:=(Ω _ _ 0 _ _ _ h5).trans rfl;refine⟨.int ζ (x.toNat:Int),?_,?_,G.putObj (by omega) _,H⟩
  ·simp[results,Tryz.f144,go_sem,ae]
  ·obtain⟨r,E⟩:=be;rw[<-E];rfl
theorem Pi (c:Cls) (w:Κ) (D:Tab w) (E:0<w.heap.size) :
  Ϝ Η 144 #[.agg (Aa c)] w λe w'=>e=ν (.int ζ (Bv (Al c 256)))/\Ext w w'/\w.drawn<=w'.drawn:=
 callsIn_wide.1 (Ah8 Fence.wide 3 trivial trivial trivial trivial rfl (θ _) c w D E)
attribute [local go_sem] Oper.semAt_some
set_option maxRecDepth 100000 in
theorem Am1 (F:Fence) (n:Nat) (ag:F.fn 151) (aa:F.round=Γ) (hn:2<=n) (g:Nat) (G:Array Ρ) (ah:F.fn g) (eg:∀ args w,(callFunc g args).run Η w=.ok (.enter g args) w)
  (Nx:List UInt8->UInt8->Prop) (S Sp:List UInt8->Prop) (hN:∀ pre x,Nx pre x->pre.length<256) (w:Κ) (al:Na F (n-1) Η g G (λx=>#[bv x]) Nx S Sp w) :
  CallsIn F n Η 151 #[Β Γ 0 0,.func (.func g) #[] G] w λe w'=>∃ v xs,e=ν v/\S xs/\w'.ownsRow w.heap.size 5 1 v xs.length (xs.map bv)/\Ext w w':=by
 have h1:1<=n:=by omega
 obtain⟨i0,hi,aq,ar,au⟩:=info_parts Pt;have aw:Boxed (w.alloc (Ε #[Β Γ 0 0] 22)) w.heap.size 22 (Β Γ 0 0):=Boxed.new w 22 _;have ax:=(Ι w).alloc (Ε #[Β Γ 0 0] 22);have bc:w.heap.size<(w.alloc (Ε #[Β Γ 0 0] 22)).heap.size:=by simp
 refine callsIn_of_wp_marks Tryz.func151 rfl ag ?_ aa;simp only[Tryz.ntmps151,ø,Ϲ,List.length_nil,Nat.reduceAdd,Nat.reduceSub,û,ú,List.push_toArray,ÿ,List.nil_append,List.cons_append]
 gi_wp2
 generalize w.alloc (Ε #[Β Γ 0 0] 22)=w1 at *;refine Rj aa h1 (gf:=g) (lb:=G) rfl ah eg al (λ_=>rfl)
  (λpre W=>(∃ v,Boxed W w.heap.size 22 v/\W.ownsRow w.heap.size 5 1 v pre.length (pre.map bv))/\Ext w W)
  (λ_ _ _=>False)
  (λs W l o M h hl ho H=>by
   obtain⟨⟨v,hv,T⟩,E⟩:=h;exact⟨⟨v,J3 hv ho H,ownsRow_putObj T M ho H⟩,E.putObj (by omega) M⟩)
  (λs W o h=>by
   obtain⟨⟨v,hv,T⟩,E⟩:=h;exact⟨⟨v,hv.alloc o,T.alloc o⟩,E.alloc o⟩)
  (λ_ s W l o M h _ _ _=>h)
  (λpre W h=>h.2.below) ⟨⟨_,aw,Κ.ownsRow_nil _ _ _ _⟩,ax⟩
  (λx=>{ tmps:=#[Β Γ 0 0,.func (.func g) #[] G,γ (Δ ⟨w.heap.size,0,Γ⟩),ς,Β Γ 0 0,bv x,.func (.func g) #[] G,bv x,ς,ς,ς,ς,ς],defers:=[] }) ?assign ?body ?done ?stop
 case assign=>
  intro l x W K I
  gi_wp2
  exact I
 case body=>
  rintro l pre x W ⟨⟨v,hv,J⟩,E⟩ ay;have bh:=hN pre x ay;have H:=hv.cell;have U:=E.below;have hx:=x.toNat_lt
  gi_wp2_with (gi_at_builtin;refine wpListIn_append_own _ rfl _ _ 22 rfl w.heap.size 5 i0 (.int .u8 0) 1 1 Tryz.underlying22 hi aq ar au rfl (by decide) _ _ _ rfl (J.alloc _) ⟨W.heap.size,0,Γ⟩ 1 1 [bv x] rfl rfl (cell_one_new _ _ _) (by simp[Ρ.oneCell']) (by unfold maxLen;omega) (by omega) (by have:=U.size;simp;omega) ?_;intro v' w1 ae az _;obtain⟨g',bl,rfl⟩:=ownsRow_succ ae;obtain⟨af,a1,a6,a7,a8⟩:=hv.appended (by decide) J U.size (θ _) ae az;have bm:=af.cell;have bn:=af.frozen)
  exact⟨a7,⟨_,a1,by simpa using a6⟩,⟨U.trans a8⟩⟩
 case done=>
  rintro D ys W hD hS ⟨⟨v,hv,J⟩,E⟩ I;have H:=hv.cell
  gi_wp2
  refine⟨by simp,.inl ⟨_,_,rfl,run_takeDeferred I,?_⟩⟩;exact⟨_,results_tmp rfl _ _ _,v,ys,rfl,hS,ownsRow_putObj J _ I rfl,E.putObj (by omega) _⟩
 case stop=>
  rintro D k pre W _ _ h _;exact h.elim
theorem Ak7 (F:Fence) (n:Nat) (I:F.fn 137) (J:F.fn 151) (G:F.round=Γ) (hn:3<=n) (g:Nat) (D:Array Ρ) (M:F.fn g) (T:∀ args w,(callFunc g args).run Η w=.ok (.enter g args) w)
  (E:List UInt8->UInt8->Prop) (S H:List UInt8->Prop) (U:∀ pre x,E pre x->pre.length<256) (w:Κ) (aa:Na F (n-1-1) Η g D (λx=>#[bv x]) E S H w) :
  CallsIn F n Η 137 #[.func (.func g) #[] D] w λe w'=>∃ v xs,e=ν v/\S xs/\w'.ownsRow w.heap.size 5 1 v xs.length (xs.map bv)/\Ext w w':=by
 have h1:1<=n:=by omega
 refine callsIn_of_wp Tryz.func137 rfl I ?_ G;simp only[Tryz.ntmps137,ø,Ϲ,List.length_nil,Nat.reduceAdd,Nat.reduceSub,û,ú,List.push_toArray,ÿ,List.nil_append,List.cons_append]
 gi_wp2_with (gi_at_call 151;refine (Am1 F (n-1) J G (by omega) g D M T E S H U _ aa).mono ?_;rintro e w' ⟨v,xs,rfl,hS,ad,hb⟩)
 go_ret;exact⟨v,xs,rfl,hS,ad,hb⟩
theorem Al5 (F:Fence) (n:Nat) (T:F.fn 109) (U:F.fn 137) (aa:F.fn 138) (ab:F.fn 151) (H:F.fn 152) (ad:F.fn 153) (E:F.round=Γ) (hn:5<=n) (c:Cls) (w:Κ) (hT:Tab w) (af:0<w.heap.size) :
  CallsIn F n Η 109 #[.agg (Aa c)] w λe w'=>∃ v,e=ν v/\By w' v (Al c 256)/\Ext w w':=by
 have h1:1<=n:=by omega
 have D:=ϱ w (Ε (Aa c) 62);have hE:=(Ι w).alloc (Ε (Aa c) 62);have I:=hE.alloc (Ε (Aa c) 62);have G:=ϱ (w.alloc (Ε (Aa c) 62)) (Ε (Aa c) 62);have c0:=(Ω _ _ 0 _ _ _ D).trans rfl;have c1:=(Ω _ _ 1 _ _ _ D).trans rfl;have c2:=(Ω _ _ 2 _ _ _ D).trans rfl;have c3:=(Ω _ _ 3 _ _ _ D).trans rfl;rw[Λ] at G;have J:=hT.below I.below af;have M:=Vg F (n-1-1-1) H ad E (by omega) (w.heap.size+1) c _ J G;clear D G J;have ah:=Α M;clear M;refine callsIn_of_wp Tryz.func109 rfl T ?_ E;simp only[Tryz.ntmps109,ø,Ϲ,List.length_nil,Nat.reduceAdd,Nat.reduceSub,û,ú,List.push_toArray,ÿ,List.nil_append,List.cons_append]
 gi_wp2_with (first
  | (gi_at_call 138;refine (Vh F (n-1) aa E c _).mono ?_;rintro e w' ⟨rfl,rfl⟩)
  | (gi_at_call 137;refine (Ak7 F (n-1) U ab E (by omega) 152 _ H (enters_of Tryz.func152 (by kernel_rfl) rfl) _ _ _ (λpre x h=>by have h2:=h.length_le;have h3:=Kz c 256;simp at h2;omega) _ ah.out).mono ?_;rintro e w' ⟨v,xs,rfl,rfl,aj,hb⟩))
 go_ret;exact⟨v,rfl,By.of_owns aj (by have:=Kz c 256;omega),I.trans hb⟩
theorem Al6 (c:Cls) (w:Κ) (D:Tab w) (E:0<w.heap.size) :
  Ϝ Η 109 #[.agg (Aa c)] w λe w'=>∃ v,e=ν v/\By w' v (Al c 256)/\Ext w w':=
 callsIn_wide.1 (Al5 Fence.wide 5 trivial trivial trivial trivial trivial trivial rfl (θ _) c w D E)
def Ly (D hi:Nat):Cls:=P6 (λb=>decide (D<=b)) (hi+1)
theorem Ai4 (c:Cls) (x:Int) (H:0<=x) (I:x<256) (B:Nat) (w:Κ) (D:w.cell? ⟨B,0,Γ⟩=Δ (.int .u8 x)) (_hB:B<w.heap.size) :
  Ϝ Η 130 #[.agg (Aa c),γ (Δ ⟨B,0,Γ⟩)] w λe w'=>e=ν (.bool (Az c x))/\Ext w w':=by
 have E:=ϱ w (Ε (Aa c) 62);have G:=(Ι w).alloc (Ε (Aa c) 62);have T:=G.cell D;have J:=Α E;clear E D;go_enter Tryz.func130,Tryz.ntmps130;go_wp2_with (first
  | (refine wpList_load_row rfl 62 (.tmp 2) rfl _ rfl _ _ _ _ J.out ϗ rfl Bg ?_)
  | (go_at_call 131;refine (Wn c x H I _).mono ?_;rintro e w' ⟨rfl,M⟩))
 go_ret;exact⟨rfl,G.trans M⟩
set_option maxRecDepth 100000 in
theorem Wg (l:List Cls) (x:Int) (ak:0<=x) (hx:x<256) (hl:l.length<=4611686018427387904) (a:Option Addr) (b M an:Nat) (B:Nat) (w:Κ) (T:w.cell? ⟨B,0,Γ⟩=Δ (.int .u8 x)) (hB:B<w.heap.size) (ha:0<l.length->a=Δ ⟨b,M,Γ⟩)
  (U:∀ i,i<l.length*4->w.cell? ⟨b,M+i,Γ⟩=Δ (.int π (wd (l.getD (i / 4) 0#256) (i % 4)))) :
  Ϝ Η 129 #[Β a l.length an,.func (.func 130) #[] #[γ (Δ ⟨B,0,Γ⟩)]] w λe w'=>e=ν (.int ζ (Gm l x))/\Ext w w':=by
 go_enter Tryz.func129,Tryz.ntmps129;go_wp2_with (fail);go_loopw [8] (λi W=>∃ k:Nat,k<=l.length/\i=.int ζ k/\Ext w W/\Hid (∀ j,j<k->Az (l.getD j 0#256) x=Τ))
  (λi _=>l.length-(intOf i).toNat)
 case atStart=>exact⟨0,by omega,rfl,Ι w,Α (λj hj=>by omega)⟩
 case round=>
  obtain⟨k,hk,rfl,D,E⟩:=hrel;by_cases aa:k<l.length
  ·have e:=ha (by omega);obtain⟨a0,a1,a2,a3⟩:=Ja (W:=wr) (λi hi=>D.cell (U i hi)) k aa;have ar:=Α T;clear ha U T;subst e;obtain⟨c,H⟩:∃ c,l.getD k 0#256=c:=⟨_,rfl⟩;rw[H] at a0 a1 a2 a3;have af:=Α H;clear H;go_upto_region 4 with (fail)
   have I:=λ(e:EW wr)=>Α (Ai4 c x ak hx B e.W ((D.trans e.ext).cell ar.out) (ε hB (D.trans e.ext).size))
   generalize ag:Az c x=m1 at I;have ai:=Α ag;clear ag;go_cut [16] (λv W=>v=.bool m1/\∃ e:EW wr,W=e.W)
   case first=>
    refine Tt 6 ?_;simp only[List.take_succ_cons,List.drop_succ_cons,List.take_nil,List.drop_nil];iterate 6 (refine í (λK G=>?_);go_simp;first|(refine G _ ?_;clear G K)|(apply Exists.intro;refine⟨λ_=>?_,G _ ?_⟩;(with_reducible exact F4 (I _).out);clear G K))
    refine wpQuiet_nil ?_;rintro _ ⟨e,rfl⟩;refine wpList_nil ?_;go_wp2;go_meet
    exact⟨rfl,e,rfl⟩
   case rest=>
    obtain⟨rfl,e,rfl⟩:=hcut;clear a0 a1 a2 a3 I;have aj:=D.trans e.ext;generalize e.W=w1 at *;cases m1
    ·go_wp2;go_roundw
     case rel=>exact⟨k+1,by omega,by go_num,aj,Α (λj hj=>by
      by_cases au:j=k
      ·subst au;rw[af.out,ai.out]
      ·exact E.out j (by omega))⟩
     case measure=>simp[intOf];omega
    ·have J:=Α (Wj l x k aa (by rw[af.out,ai.out]) E.out);go_wp2;go_ret;exact⟨Oa J.out.symm,aj⟩
  ·obtain rfl:k=l.length:=by omega
   have J:=Α (Ai7 l x E.out);clear E;go_wp2;go_ret;exact⟨Oa J.out.symm,D⟩
theorem Wf (l:List Cls) (v:Ρ) (x:Int) (G:0<=x) (H:x<256) (w:Κ) (h:Cs w v l) :
  Ϝ Η 95 #[v,.int .u8 x] w λe w'=>e=ν (.int ζ (Gm l x))/\Ext w w':=by
 have I:=(Ι w).alloc (Ε #[.int .u8 x] 5);have D:=M1 w #[.int .u8 x] 5 0 _ rfl;have J:w.heap.size<(w.alloc (Ε #[.int .u8 x] 5)).heap.size:=by simp
 have M:=h.ext I;have T:Ϝ Η 129 #[v,.func (.func 130) #[] #[γ (Δ ⟨w.heap.size,0,Γ⟩)]] (w.alloc (Ε #[.int .u8 x] 5)) λe w'=>e=ν (.int ζ (Gm l x))/\Ext (w.alloc (Ε #[.int .u8 x] 5)) w':=by
  obtain⟨h0,⟨hn,a,E,rfl⟩|⟨hn,b,U,E,rfl,hb,hc⟩⟩:=M
  ·have:=Wg l x G H (by omega) a 0 0 E w.heap.size _ D J (by omega) (λi hi=>by omega)
   rwa [hn] at this
  ·exact Wg l x G H h0 (Δ ⟨b,U,Γ⟩) b U E w.heap.size _ D J (λ_=>rfl) hc
 have ad:=Α T;clear T D h M;go_enter Tryz.func95,Tryz.ntmps95;go_wp2_with (go_at_call 129;refine ad.out.mono ?_;rintro e w' ⟨rfl,ae⟩);go_ret;exact⟨rfl,I.trans ae⟩
end Go.Proofs.YtaiogolidlamiaaGreatDoor
namespace Go.Proofs
open Go.Shelf
def Tryz.l155_ren:Go.Shelf.Ren:=⟨fun|6=>155|15=>161|14=>160|28=>170|29=>171|20=>162|21=>163|22=>164|23=>165|24=>166|25=>167|26=>168|27=>169|46=>172|47=>173|48=>174|49=>175|50=>176|57=>177|n=>n,fun|22=>26|24=>62|25=>204|3=>3|39=>156|0=>0|53=>216|55=>60|4=>4|46=>210|45=>209|50=>91|5=>5|9=>9|66=>217|70=>221|76=>223|77=>224|n=>n,fun|n=>n⟩
theorem Tryz.l155:Go.Proofs.SlLaysF0.n6 Η Tryz.l155_ren:={
 mixed:=by kernel_rfl
 f6:=⟨Tryz.f155.name,by decide,Tryz.func155.trans (congrArg Δ (by kernel_rfl))⟩
 f14:=⟨Tryz.f160.name,by decide,Tryz.func160.trans (congrArg Δ (by kernel_rfl))⟩
 f15:=Tryz.func161.trans (congrArg Δ (by kernel_rfl))
 f20:=⟨Tryz.f162.name,by decide,Tryz.func162.trans (congrArg Δ (by kernel_rfl))⟩
 f21:=⟨Tryz.f163.name,by decide,Tryz.func163.trans (congrArg Δ (by kernel_rfl))⟩
 f22:=⟨Tryz.f164.name,by decide,Tryz.func164.trans (congrArg Δ (by kernel_rfl))⟩
 f23:=⟨Tryz.f165.name,by decide,Tryz.func165.trans (congrArg Δ (by kernel_rfl))⟩
 f24:=⟨Tryz.f166.name,by decide,Tryz.func166.trans (congrArg Δ (by kernel_rfl))⟩
 f25:=⟨Tryz.f167.name,by decide,Tryz.func167.trans (congrArg Δ (by kernel_rfl))⟩
 f26:=⟨Tryz.f168.name,by decide,Tryz.func168.trans (congrArg Δ (by kernel_rfl))⟩
 f27:=⟨Tryz.f169.name,by decide,Tryz.func169.trans (congrArg Δ (by kernel_rfl))⟩
 f28:=Tryz.func170.trans (congrArg Δ (by kernel_rfl))
 f29:=Tryz.func171.trans (congrArg Δ (by kernel_rfl))
 f46:=⟨Tryz.f172.name,by decide,Tryz.func172.trans (congrArg Δ (by kernel_rfl))⟩
 f47:=Tryz.func173.trans (congrArg Δ (by kernel_rfl))
 f48:=Tryz.func174.trans (congrArg Δ (by kernel_rfl))
 f49:=⟨Tryz.f175.name,by decide,Tryz.func175.trans (congrArg Δ (by kernel_rfl))⟩
 f50:=⟨Tryz.f176.name,by decide,Tryz.func176.trans (congrArg Δ (by kernel_rfl))⟩
 f57:=⟨Tryz.f177.name,by decide,Tryz.func177.trans (congrArg Δ (by kernel_rfl))⟩
 t0:=Tryz.underlying0
 a0:=Tryz.isAgg0
 z0:=Tryz.sizeOf0
 v0:=Tryz.zeroValue0
 t3:=Tryz.underlying3
 a3:=Tryz.isAgg3
 z3:=Tryz.sizeOf3
 v3:=Tryz.zeroValue3
 t4:=Tryz.underlying4
 a4:=Tryz.isAgg4
 z4:=Tryz.sizeOf4
 v4:=Tryz.zeroValue4
 t5:=Tryz.underlying5
 a5:=Tryz.isAgg5
 z5:=Tryz.sizeOf5
 v5:=Tryz.zeroValue5
 t9:=Tryz.underlying9
 a9:=Tryz.isAgg9
 z9:=Tryz.sizeOf9
 v9:=Tryz.zeroValue9
 t22:=Tryz.underlying26
 a22:=Tryz.isAgg26
 z22:=Tryz.sizeOf26
 v22:=Tryz.zeroValue26
 t25:=Tryz.underlying204
 a25:=Tryz.isAgg204
 z25:=Tryz.sizeOf204
 v25:=Tryz.zeroValue204
 t39:=Tryz.underlying156
 a39:=Tryz.isAgg156
 z39:=Tryz.sizeOf156
 v39:=Tryz.zeroValue156
 t45:=Tryz.underlying209
 a45:=Tryz.isAgg209
 z45:=Tryz.sizeOf209
 v45:=Tryz.zeroValue209
 t46:=Tryz.underlying210
 a46:=Tryz.isAgg210
 z46:=Tryz.sizeOf210
 v46:=Tryz.zeroValue210
 t50:=Tryz.underlying91
 a50:=Tryz.isAgg91
 z50:=Tryz.sizeOf91
 v50:=Tryz.zeroValue91
 t53:=Tryz.underlying216
 a53:=Tryz.isAgg216
 z53:=Tryz.sizeOf216
 v53:=Tryz.zeroValue216
 t55:=Tryz.underlying60
 a55:=Tryz.isAgg60
 z55:=Tryz.sizeOf60
 v55:=Tryz.zeroValue60
 t66:=Tryz.underlying217
 a66:=Tryz.isAgg217
 z66:=Tryz.sizeOf217
 v66:=Tryz.zeroValue217
 t70:=Tryz.underlying221
 a70:=Tryz.isAgg221
 z70:=Tryz.sizeOf221
 v70:=Tryz.zeroValue221
 t76:=Tryz.underlying223
 a76:=Tryz.isAgg223
 z76:=Tryz.sizeOf223
 v76:=Tryz.zeroValue223
 t77:=Tryz.underlying224
 a77:=Tryz.isAgg224
 z77:=Tryz.sizeOf224
 v77:=Tryz.zeroValue224 }
end Go.Proofs
namespace Go.Proofs.YtaiogolidlamiaaGreatDoor
open Go.RowKit Go.Shelf Go.Sort
structure ED (w:Κ) where
 W:Κ
 ext:Ext w W
 drawn:w.drawn<=W.drawn
instance (w:Κ):Nonempty (ED w):=⟨⟨w,Ι w,θ _⟩⟩
section
variable {P:Program}
theorem Ady {id:Nat} {Q:Exit->Act->Κ->Prop} {a:Act} {w:Κ} {l:List Oper} (hm:P.follows .mixedOrders=Ξ) (D:Region.lexB .any l.toArray=Ξ)
  (h:wpQuiet P l.toArray (λW=>∃ e:ED w,W=e.W) (λE=>∀ w',(∃ e:ED w,w'=e.W)->Q .normal E w') l a):(Code.region id l.toArray Ξ).wp P Q a w:=
 wp_region_quiet (C:=λW=>∃ e:ED w,W=e.W) hm D ⟨⟨_,(Ι w).drawn1,Nat.le_succ _⟩,rfl⟩ (by simpa using h)
theorem Yj {f:FuncId} {args:Array Ρ} {w:Κ} {D:ED w} {v:Ρ} (h:Ϝ P f args D.W λe w'=>e=ν v/\Ext D.W w'/\D.W.drawn<=w'.drawn) :
  Ϝ P f args D.W λe E=>e=ν v/\∃ G:ED w,E=G.W:=
 h.mono λ_ w' ⟨he,H,hd⟩=>⟨he,⟨w',D.ext.trans H,ψ D.drawn hd⟩,rfl⟩
theorem Mu {w:Κ} {p:Addr} {v:Ρ} (h:w.cell? p=Δ v):∀ e:ED w,e.W.cell? p=Δ v:=λe=>e.ext.cell h
end
theorem Akg {w W:Κ} (h:Ext w W) (hd:w.drawn<=W.drawn):∃ q os,W=grow (w.drewN q) os:=by
 refine⟨W.drawn-w.drawn,W.heap.extract w.heap.size,?_⟩;have D:=h.below.os;have E:=h.below.tape;have G:=h.below.output;have I:=h.below.size;have H:=h.below.block;obtain⟨J,o,t,d,out⟩:=W;obtain⟨M,T,U,d',ab⟩:=w;simp only at *;subst D E G;simp only[grow,Κ.drewN]
 congr 1
 ·refine Array.ext_getElem? λi=>?_
  rw[Array.getElem?_append];split
  ·rename_i hi;exact H i hi
  ·rename_i hi
   rw[Array.getElem?_extract];split
   ·congr 1;omega
   ·rw[Array.getElem?_eq_none (by omega)]
 ·omega
theorem Wm (l:List UInt8):-1<=Bv l/\Bv l<256:=by
 cases l with
 | nil=>simp[Bv]
 | cons x t=>have:=x.toNat_lt;simp[Bv];omega
theorem Xn {w:Κ} {B:Nat} {c:Cls} (h:w.heap[B]? = Δ (Ε (Aa c) 62 (0,0))) :
  (∀ e:ED w,e.W.cell? ⟨B,0,Γ⟩=Δ (.int π (wd c 0)))/\(∀ e:ED w,e.W.cell? ⟨B,1,Γ⟩=Δ (.int π (wd c 1)))/\
  (∀ e:ED w,e.W.cell? ⟨B,2,Γ⟩=Δ (.int π (wd c 2)))/\(∀ e:ED w,e.W.cell? ⟨B,3,Γ⟩=Δ (.int π (wd c 3))):=by
 have H:∀ j v,(Aa c)[j]? = Δ v->w.cell? ⟨B,j,Γ⟩=Δ v:=λj v hv=>by rw[Ω w B j _ _ (0,0) h];exact hv
 exact⟨Mu (H 0 _ rfl),Mu (H 1 _ rfl),Mu (H 2 _ rfl),Mu (H 3 _ rfl)⟩
theorem Ab (w:Κ) (o:Obj):(w.alloc o).heap[w.heap.size]? = Δ o:=by show (w.heap.push o)[w.heap.size]? = Δ o;simp
theorem Alj (a b:Cls) (w:Κ) (H:Tab w) (E:0<w.heap.size) :
  Ϝ Η 156 #[.agg (Aa a),.agg (Aa b)] w λe w'=>e=ν (.int ζ (Bv (Al a 256)-Bv (Al b 256)))/\Ext w w'/\w.drawn<=w'.drawn:=by
 have U:=λW H E=>Α (Pi a W H E)
 have h2:=λW H E=>Α (Pi b W H E)
 have Hx:=Α (Wm (Al a 256));have Hy:=Α (Wm (Al b 256));generalize Bv (Al a 256)=x at *;generalize Bv (Al b 256)=y at *;go_enter Tryz.func156,Tryz.ntmps156;go_upto_region 1 with (fail)
 have ah:IntKind.i64.wrap (x-y)=x-y:=IntWalk.i64_in _ ⟨by have:=Hx.out;have:=Hy.out;omega,by have:=Hx.out;have:=Hy.out;omega⟩;obtain⟨D,G⟩:∃ W,((w.alloc (Ε (Aa a) 62)).alloc (Ε (Aa b) 62))=W:=⟨_,rfl⟩;have J:Ext w D:=G▸((Ι w).alloc (Ε (Aa a) 62)).alloc (Ε (Aa b) 62);have r1:D.heap[w.heap.size]? = Δ (Ε (Aa a) 62 (0,0)):=by rw[<-G];exact Ag (Ab w _) _
 have r2:D.heap[w.heap.size+1]? = Δ (Ε (Aa b) 62 (0,0)):=by
  rw[<-G];have:=Ab (w.alloc (Ε (Aa a) 62)) (Ε (Aa b) 62)
  simpa using this
 have hd:w.drawn<=D.drawn:=by rw[<-G];exact θ _
 simp only[G];have M:=λ(e:ED D)=>H.below (J.trans e.ext).below E
 have T:=λ(e:ED D)=>ε E (J.trans e.ext).size
 have af:=λ(e:ED D)=>U e.W (M e) (T e)
 have ag:=λ(e:ED D)=>h2 e.W (M e) (T e)
 obtain⟨a0,a1,a2,a3⟩:=Xn r1;obtain⟨b0,b1,b2,b3⟩:=Xn r2;clear U h2 M T r1 r2 G;refine Ady (by kernel_rfl) (by kernel_rfl) ?_;iterate 6 (refine í (λK I=>?_);go_simp;first|(refine I _ ?_;clear I K)|(apply Exists.intro;refine⟨λ_=>?_,I _ ?_⟩;(first|(with_reducible exact Yj (af _).out)|(with_reducible exact Yj (ag _).out));clear I K))
 refine wpQuiet_nil ?_;rintro _ ⟨e,rfl⟩;go_wp2;go_ret;exact⟨rfl,J.trans e.ext,ψ hd e.drawn⟩
def Kt (a b:Cls):Int:=Bv (Al a 256)-Bv (Al b 256)
def Cj (c:Cls):List Ρ:=[.int π (wd c 0),.int π (wd c 1),.int π (wd c 2),.int π (wd c 3)]
theorem Xm (c:Cls):∀ j,j<4->(Cj c)[j]! = .int π (wd c j)
 | 0,_=>rfl
 | 1,_=>rfl
 | 2,_=>rfl
 | 3,_=>rfl
 | n+4,h=>by omega
def Cy (L:List Cls):List Ρ:=L.flatMap Cj
theorem Ms (L M:List Cls):Cy (L++M)=Cy L++Cy M:=by simp[Cy]
theorem Mr (c:Cls):Cy [c]=Cj c:=by simp[Cy]
theorem P1 (L:List Cls):(Cy L).length=L.length*4:=by
 induction L with
 | nil=>rfl
 | cons c L D=>
  show (Cj c++Cy L).length=_;rw[Ο,D,Ϲ];show 4+_=_;omega
theorem I2 (L:List Cls):∀ i,i<L.length*4->(Cy L)[i]? = Δ (.int π (wd (L.getD (i / 4) 0#256) (i % 4))):=by
 induction L with
 | nil=>intro i h;simp at h
 | cons c L E=>
  intro i h;show (Cj c++Cy L)[i]? = _;by_cases D:i<4
  ·rw[List.getElem?_append_left (show i<(Cj c).length from D),Nat.div_eq_of_lt D,Nat.mod_eq_of_lt D]
   match i,D with
   | 0,_=>rfl
   | 1,_=>rfl
   | 2,_=>rfl
   | 3,_=>rfl
   | n+4,h=>omega
  ·simp only[Ϲ] at h;rw[List.getElem?_append_right (show (Cj c).length<=i from by show 4<=i;omega)];show (Cy L)[i-4]? = _;rw[E (i-4) (by omega),show i / 4=(i-4) / 4+1 by omega,show i % 4=(i-4) % 4 by omega];rfl
abbrev Row (W:Κ) (base:Nat) (v:Ρ) (L:List Cls):Prop:=W.ownsRow base 62 4 v L.length (Cy L)
theorem Row.cells {W:Κ} {base:Nat} {v:Ρ} {L:List Cls} (h:Row W base v L) (hn:0<L.length):∃ g D,v=Β (Δ ⟨g,0,Γ⟩) L.length D/\base<=g/\g<W.heap.size/\(∀ i,W.frozen? ⟨g,i,Γ⟩=Τ)/\
  ∀ i,i<L.length*4->W.cell? ⟨g,0+i,Γ⟩=Δ (.int π (wd (L.getD (i / 4) 0#256) (i % 4))):=by
 obtain⟨H,⟨_,I⟩|⟨g,D,cur,rfl,E,hg,J,M,T,G⟩⟩:=h
 ·omega
 ·refine⟨g,D,rfl,E,An hg,λi=>?_,λi hi=>?_⟩
  ·simp[Κ.frozen?,hg]
  ·rw[î,Ω W g i cur 62 (0,0) hg,<-I2 L i hi,<-G,List.getElem?_take,if_pos hi,Array.getElem?_toList]
theorem Row.toCs {W:Κ} {base:Nat} {v:Ρ} {L:List Cls} (h:Row W base v L) (hn:L.length<=4611686018427387904):Cs W v L:=by
 refine⟨hn,?_⟩;by_cases D:L.length=0
 ·obtain⟨I,⟨rfl,_⟩|⟨g,E,cur,rfl,_⟩⟩:=h
  ·exact .inl ⟨D,_,_,rfl⟩
  ·exact .inl ⟨D,_,_,by rw[D]⟩
 ·obtain⟨g,E,rfl,_,G,_,H⟩:=h.cells (by omega);exact .inr ⟨by omega,g,0,E,rfl,G,H⟩
theorem Row.mono {W:Κ} {b b':Nat} {v:Ρ} {L:List Cls} (h:Row W b v L) (E:b'<=b):Row W b' v L:=by
 obtain⟨D,h|⟨g,G,cur,hv,hg,r⟩⟩:=h
 ·exact⟨D,.inl h⟩
 ·exact⟨D,.inr ⟨g,G,cur,hv,ψ E hg,r⟩⟩
theorem Gq {W:Κ} {b D:Nat} {l:List Cls} (h:∀ i,i<l.length*4->W.cell? ⟨b,D+i,Γ⟩=Δ (.int π (wd (l.getD (i / 4) 0#256) (i % 4)))) (k:Nat) (E:k<l.length) :
  W.cell? ⟨b,D+k*4,Γ⟩=Δ (.int π (wd (l.getD k 0#256) 0))/\W.cell? ⟨b,D+k*4+1,Γ⟩=Δ (.int π (wd (l.getD k 0#256) 1))/\
  W.cell? ⟨b,D+k*4+2,Γ⟩=Δ (.int π (wd (l.getD k 0#256) 2))/\W.cell? ⟨b,D+k*4+3,Γ⟩=Δ (.int π (wd (l.getD k 0#256) 3)):=by
 obtain⟨a0,G,H,I⟩:=Ja h k E;exact⟨a0 ⟨W,Ι W⟩,G ⟨W,Ι W⟩,H ⟨W,Ι W⟩,I ⟨W,Ι W⟩⟩
theorem Af9 (w:Κ):Ϝ Η 94 #[.agg zA] w λe w'=>e=ν (.agg (Aa allC))/\Ext w w':=by
 have:=Uz 0#256 w
 rwa [Gn] at this
theorem Ai9 (a b c d e f g h:Int) (w:Κ):(Instr.index 202 (.agg #[.int π a,.int π b,.int π c,.int π d,.int π e,.int π f,.int π g,.int π h]) (.int ζ 0)).run Η w=.ok (.agg #[.int π a,.int π b,.int π c,.int π d]) w:=by kernel_rfl
theorem Ai8 (a b c d e f g h:Int) (w:Κ):(Instr.index 202 (.agg #[.int π a,.int π b,.int π c,.int π d,.int π e,.int π f,.int π g,.int π h]) (.int ζ 1)).run Η w=.ok (.agg #[.int π e,.int π f,.int π g,.int π h]) w:=by kernel_rfl
theorem Pu:(Η.info? 62).map (λi=>(i.zero,i.size,i.bytes))=Δ (Δ (.agg zA),4,32):=by kernel_rfl
def D7 (x y:Cls):Nat->List Cls
 | 0=>[]
 | 1=>if x=0#256 then [] else [x]
 | _=>(if x=0#256 then [] else [x])++(if y=0#256 then [] else [y])
theorem Aes (x y:Cls):D7 x y 0=[]:=rfl
theorem Aer (S:List Cls) (x y:Cls):S++D7 x y 1=(S++D7 x y 0)++if (x==0#256) then [] else [x]:=by simp[D7]
theorem Aeq (S:List Cls) (x y:Cls):S++D7 x y 2=(S++D7 x y 1)++if (y==0#256) then [] else [y]:=by simp[D7]
theorem T9 (S:List Cls) (x y:Cls) (q:Nat):(S++D7 x y q).length<=S.length+2:=by
 match q with
 | 0=>simp[D7]
 | 1=>simp only[D7,Ο];split<;>simp
 | n+2=>simp only[D7,Ο];split<;>split<;>simp
theorem Lw (w:Κ) (x:Cls):∀ j u,(Cj x)[j]? = Δ u->(w.alloc (Ε (Aa x) 62)).cell? ((⟨w.heap.size,0,Γ⟩:Addr).add j)=Δ u:=by
 intro j u h;rw[show ((⟨w.heap.size,0,Γ⟩:Addr).add j)=⟨w.heap.size,j,Γ⟩ by rw[Addr.add_lit,î],Ω _ _ _ _ 62 (0,0) (ϱ w _)];rw[<-List.getElem?_toArray] at h;exact h
end Go.Proofs.YtaiogolidlamiaaGreatDoor
