import Derived.Test.YtaiogolidlamiaaGreatDoorM15
import Derived.Test.YtaiogolidlamiaaGreatDoorM14
import Derived.Deep.Upon
import Derived.Test.YtaiogolidlamiaaGreatDoorM04
import Derived.Test.YtaiogolidlamiaaGreatDoorM05
import Derived.Test.YtaiogolidlamiaaGreatDoorM07
import Derived.Test.YtaiogolidlamiaaGreatDoorM08
import Derived.Test.YtaiogolidlamiaaGreatDoorM06
set_option linter.unusedVariables false
set_option linter.unusedSimpArgs false
open And renaming intro → ã
open Bool renaming true → Ξ, false → Τ, eq_iff_iff → ϰ, or_eq_true → Æ
open Go renaming Value → Ρ, World → Κ, Calls → Ϝ, Oper → ϸ, Operand → ϻ, wpList_store_row → Φ, wpList_load_row → Υ, cell_of_row → Ω, wpQuiet_step → í, wpQuiet_nil → ö, heap_alloc2_new → Ϙ, execOp → Ú, setRow_heap → μ
open Go.Ending renaming returned → ν
open Go.IntKind renaming i64 → ζ, u64 → π
open Go.Lib renaming hid → Α
open Go.Obj renaming cells → Ε
open Go.Operand renaming tmp → η
open Go.Proofs.Tryz renaming prog → Η, underlying30 → Ν, zeroCells79 → ϖ, underlying79 → Â
open Go.RowKit renaming Hid → Ϻ
open Go.Value renaming slice → Β, tuple → ϥ, pointer → γ, slice → ϟ, bool → ο
open List renaming append_assoc → Ò, range → ι, mem_range → υ, getD_eq_getElem?_getD → Ζ, getElem?_eq_getElem → Μ, getElem?_append_left → Ϣ, getElem?_append_right → ϑ, replicate → δ, length_append → Ο
open Nat renaming lt_of_lt_of_le → ε, le_trans → ψ, le_refl → θ, le_of_eq → å
open Option renaming some → Δ, none → Γ
namespace Go.Proofs.YtaiogolidlamiaaGreatDoor
set_option maxRecDepth 100000
set_option maxHeartbeats 4000000
open Go.RowKit Go.Shelf
theorem Ahn (A B:Cls):(#[.int ζ 3,.int π (wd A 0),.int π (wd A 1),.int π (wd A 2),.int π (wd A 3),.int ζ 0,.int ζ 0,.int ζ 0,.int ζ 0,.int ζ 3,.int π (wd B 0),.int π (wd B 1),.int π (wd B 2),.int π (wd B 3),.int ζ 0,.int ζ 0,.int ζ 0,.int ζ 0,.int ζ 8,.int π 0,.int π 0,.int π 0,.int π 0,.int ζ 1,.int ζ 0,.int ζ 0,.int ζ (-1),.int ζ 4,.int π 0,.int π 0,.int π 0,.int π 0,.int ζ 0,.int ζ 2,.int ζ 0,.int ζ 0]:Array Ρ) =
  (flR [⟨3,0,0,A,0,0⟩,⟨3,0,0,B,0,0⟩,⟨8,1,0,0#256,0,-1⟩,⟨4,0,2,0#256,0,0⟩]).toArray:=by kernel_rfl
theorem Aho (A:Cls):(#[.int ζ 3,.int π (wd A 0),.int π (wd A 1),.int π (wd A 2),.int π (wd A 3),.int ζ 0,.int ζ 0,.int ζ 0,.int ζ 0,.int ζ 8,.int π 0,.int π 0,.int π 0,.int π 0,.int ζ 0,.int ζ 0,.int ζ 16,.int ζ 16,.int ζ 8,.int π 0,.int π 0,.int π 0,.int π 0,.int ζ 1,.int ζ 0,.int ζ 5,.int ζ 5]:Array Ρ) =
  (flR [⟨3,0,0,A,0,0⟩,⟨8,0,0,0#256,16,16⟩,⟨8,1,0,0#256,5,5⟩]).toArray:=by kernel_rfl
theorem Aak (A B:Cls):VRx [⟨3,0,0,A,0,0⟩,⟨3,0,0,B,0,0⟩,⟨8,1,0,0#256,0,-1⟩,⟨4,0,2,0#256,0,0⟩] where
 pos:=by simp
 le:=by simp
 node:=λi hi=>by
  have hi:i<4:=by simpa using hi
  have:i=0\/i=1\/i=2\/i=3:=by omega
  rcases this with rfl|rfl|rfl|rfl
  all_goals (constructor<;>simp[arK])
 par:=λj D=>by
  have D:j+1<4:=by simpa using D
  have:j=0\/j=1\/j=2:=by omega
  rcases this with rfl|rfl|rfl<;>simp[par,Fi,arK]
theorem Aal (A:Cls):VRx [⟨3,0,0,A,0,0⟩,⟨8,0,0,0#256,16,16⟩,⟨8,1,0,0#256,5,5⟩] where
 pos:=by simp
 le:=by simp
 node:=λi hi=>by
  have hi:i<3:=by simpa using hi
  have:i=0\/i=1\/i=2:=by omega
  rcases this with rfl|rfl|rfl
  all_goals (constructor<;>simp[arK])
 par:=λj D=>by
  have D:j+1<3:=by simpa using D
  have:j=0\/j=1:=by omega
  rcases this with rfl|rfl<;>simp[par,Fi,arK]
theorem Amo (A B:Cls) (D:ofL [97]=A) (E:ofL [98,99]=B) (g:Nat) (W:Κ) (G:Tab W) (H:0<W.heap.size) (h:W.heap[g]? = Δ (Ε (flR [⟨3,0,0,A,0,0⟩,⟨3,0,0,B,0,0⟩,⟨8,1,0,0#256,0,-1⟩,⟨4,0,2,0#256,0,0⟩]).toArray 64 (0,0))) :
  Ϝ Η 36 #[Β (Δ ⟨g,0,Γ⟩) 4 4] W λe w'=>∃ d v,e=ν (ϥ #[v,.int ζ 0])/\IsD w' v d/\Cano d/\d.n.length=3/\d.has [97,99,98]=Ξ/\d.has [98,97]=Τ/\Ext W w':=
 (Ys _ (Aak A B) g 0 4 W G H (N5 h)).mono λe w' ⟨r,I,J,M⟩=>by
  obtain⟨d,rfl,T,U,k1,k2⟩:=Acn A B (λx=>by rw[<-D,O1];simp) (λx=>by rw[<-E,O1];simp) _ _ _ 0 _ _ _ 0 _ _ _ _ _ _ J;obtain⟨v,he,hD⟩:=I;exact⟨d,v,he,hD,T,U,k1,k2,M⟩
theorem Amq (A:Cls) (D:ofL [97]=A) (g:Nat) (W:Κ) (E:Tab W) (G:0<W.heap.size) (h:W.heap[g]? = Δ (Ε (flR [⟨3,0,0,A,0,0⟩,⟨8,0,0,0#256,16,16⟩,⟨8,1,0,0#256,5,5⟩]).toArray 64 (0,0))) :
  Ϝ Η 36 #[Β (Δ ⟨g,0,Γ⟩) 3 3] W λe w'=>e=ν (ϥ #[zD,.int ζ 2])/\Ext W w':=
 (Ys _ (Aal A) g 0 3 W E G (N5 h)).mono λe w' ⟨r,H,I,J⟩=>by
  obtain rfl:=Aco A (λx=>by rw[<-D,O1];simp) _ _ _ _ _ _ _ _ (.inr (by simp)) I;exact⟨H,J⟩
theorem Jn {P:Program} {ops:Array ϸ} {rest:List ϸ} {o:ϸ} {a:Act} {w:Κ} {Q:Exit->Act->Κ->Prop} (D:Region.wanted o (yielded ops a.tmps)=Ξ) (ty:TypeId) (x:ϻ) (E:o.op=.load ty x)
  (g:Nat) (G:a.eval x=γ (Δ ⟨g,0,Γ⟩)) (t:TypeId) (cs:Array Ρ) (fr:Nat × Nat) (d:TypeDesc) (hg:w.heap[g]? = Δ (Ε cs t fr))
  (hu:P.underlying ty=Δ d) (hd:(match d with|.struct _|.array _ _=>Ξ|_=>Τ)=Ξ) (hi:(P.info? ty).map (·.size)=Δ cs.size)
  (h:wpList P ops Q rest (a.put o.dst (.agg cs)) w):wpList P ops Q (o::rest) a w:=
 wpList_step λK H=>by rw[if_pos D];exact wp_load_row ty x E g G t cs fr d hg hu hd hi (H _ _ h)
theorem Rp (l:List UInt8) (D:l.length<=62) (fr:Nat × Nat) (W:Κ) (C:Array Ρ) (E:C=(l.map bv).toArray) (n:Nat) (hn:n=l.length) :
  Ϝ Η 45 #[Β (Δ ⟨W.heap.size,0,Γ⟩) n n] (W.alloc (Ε C 5 fr)) λe w'=>∃ d v,e=ν (ϥ #[v,.int ζ 0])/\IsD w' v d/\Cano d/\(∀ u,d.has u=Ξ↔u=l)/\Ext W w':=by
 subst E hn;exact (Nk l D _ _ (M5 W l fr (by omega))).mono λe w' ⟨d,⟨v,G,H⟩,I,J,M⟩=>⟨d,v,G,H,I,J,((Ι W).alloc _).trans M⟩
theorem Ad8 (d:Dfa) (hv:Val d) (G:d.n.length<=64) (v:Ρ) (l:List UInt8) (hl:l.length<=62) (fr:Nat × Nat) (W:Κ) (H:Tab W) (E:0<W.heap.size) (h:IsD W v d) (C:Array Ρ) (I:C=(l.map bv).toArray) (n:Nat) (hn:n=l.length) :
  Ϝ Η 14 #[v,Β (Δ ⟨W.heap.size,0,Γ⟩) n n] (W.alloc (Ε C 5 fr)) λe w'=>∃ q u,e=ν (ϥ #[u,.int ζ 0])/\IsD w' u q/\Cano q/\(∀ x,q.has x=d.has (l++x))/\Ext W w':=by
 subst I hn;have D:=(Ι W).alloc (Ε (l.map bv).toArray 5 fr);exact (Ty d hv G v l _ _ (H.below D.below E) (ε E D.size) (h.ext D) (M5 W l fr (by omega))).mono λe w' ⟨q,⟨u,J,M⟩,T,U,h5⟩=>⟨q,u,J,M,T,U,D.trans h5⟩
theorem Gv (d:Dfa) (hv:Val d) (G:d.n.length<=64) (v:Ρ) (l:List UInt8) (U:l.length<=62) (b:Bool) (H:d.has l=b) (fr:Nat × Nat) (W:Κ) (I:Tab W) (E:0<W.heap.size) (h:IsD W v d) (C:Array Ρ) (J:C=(l.map bv).toArray) (n:Nat) (hn:n=l.length) :
  Ϝ Η 29 #[v,Β (Δ ⟨W.heap.size,0,Γ⟩) n n] (W.alloc (Ε C 5 fr)) λe w'=>e=ν (.bool b)/\Ext W w':=by
 subst J hn H;have D:=(Ι W).alloc (Ε (l.map bv).toArray 5 fr);exact (Zl d hv G v l _ _ (I.below D.below E) (ε E D.size) (h.ext D) (M5 W l fr (by omega))).mono λe w' ⟨M,T⟩=>⟨M,D.trans T⟩
theorem Ad9 {d q:Dfa} {l:List UInt8} (hd:Val d) (D:Cano q) (h:∀ x,q.has x=d.has (l++x)):q.n.length<=d.n.length:=by
 have:=Gs D (λw=>d.run 0 (l++w)) (λw w' e u=>by
  rw[h,h];unfold Dfa.has;rw[<-Ò,<-Ò,B6,B6 _ _ (l++w'),e]) (ι d.n.length) λw=>υ.2 (hd.run_lt _ hd.pos)
 simpa using this
theorem Aem {d p:Dfa} (hd:Val d) (D:Cano p) (h:∀ x,p.has x=Ξ↔∃ u,d.has (x++u)=Ξ):p.n.length<=d.n.length:=by
 have:=Gs D (λw=>d.run 0 w) (λw w' e u=>by
  rw[ϰ,h,h];have E:∀ v,d.has (w++u++v)=d.has (w'++u++v):=λv=>by
   unfold Dfa.has;rw[Ò,Ò,B6,B6 _ _ w',e]
  simp only[E]) (ι d.n.length) λw=>υ.2 (hd.run_lt _ hd.pos)
 simpa using this
theorem Af4 {d p:Dfa} (hd:Val d) (D:Cano p) (h:∀ x,p.has x=!d.has x):p.n.length<=d.n.length:=by
 have:=Gs D (λw=>d.run 0 w) (λw w' e u=>by
  rw[h,h];unfold Dfa.has;rw[B6,B6 _ _ w',e]) (ι d.n.length) λw=>υ.2 (hd.run_lt _ hd.pos)
 simpa using this
theorem Rq {d:Dfa} {l:List UInt8} (hd:Cano d) (h:∀ u,d.has u=Ξ↔u=l):d.n.length<=l.length+2:=by
 have:=Yi hd (Ff l) λw=>by rw[ϰ,h,Fg]
 rwa [Es] at this
abbrev Hs:List UInt8->Prop:=λw=>w=[97,98]\/w=[97,98,99]
theorem Acy (x y:Dfa) (G:Cano x) (H:Cano y) (I:∀ u,x.has u=Ξ↔u=[97,98]) (J:∀ u,y.has u=Ξ↔u=[97,98,99]) (D E:Ρ) (W:Κ) (M:Tab W) (T:0<W.heap.size) (U:IsD W D x) (h2:IsD W E y) :
  Ϝ Η 33 #[D,E] W λe w'=>∃ d v,e=ν (ϥ #[v,.int ζ 0])/\IsD w' v d/\Fit d Hs/\Ext W w':=
 (Ox x y G.val H.val (ψ (Rq G I) (by decide)) (ψ (Rq H J) (by decide)) D E W M T U h2).mono λe w' ⟨r,q1,q2,q3⟩=>by
  obtain⟨d,rfl,hf⟩:=Aax q2 [97,98] [97,98,99] (λw=>by rw[I,J]) (by decide);obtain⟨v,he,hD⟩:=q1;exact⟨d,v,he,hD,hf,q3⟩
theorem Ki {d:Dfa} (h:Fit d Hs) (w:List UInt8):d.has w=decide (w=[97,98]\/w=[97,98,99]):=by
 rw[ϰ,h.2,decide_eq_true_eq]
theorem Acw (d:Dfa) (hd:Fit d Hs) (v:Ρ) (W:Κ) (G:Tab W) (H:0<W.heap.size) (h:IsD W v d) :
  Ϝ Η 14 #[v,Β (Δ ⟨W.heap.size,0,Γ⟩) 2 2] (W.alloc (Ε #[.int .u8 97,.int .u8 98] 5 (2,3))) λe w'=>∃ q u,e=ν (ϥ #[u,.int ζ 0])/\IsD w' u q/\(Val q/\q.n.length<=64/\q.has [99]=Ξ/\q.has []=Ξ/\q.has [97]=Τ)/\Ext W w':=
 (Ad8 d hd.1.val (ψ (Gu hd) (by decide)) v [97,98] (by decide) (2,3) W G H h _ rfl 2 rfl).mono λe w' ⟨q,u,I,J,E,D,M⟩=>
  ⟨q,u,I,J,⟨E.val,ψ (Ad9 hd.1.val E D) (ψ (Gu hd) (by decide)),by rw[D,Ki hd];decide,by rw[D,Ki hd];decide,by rw[D,Ki hd];decide⟩,M⟩
theorem Acx (d:Dfa) (hd:Fit d Hs) (v:Ρ) (W:Κ) (G:Tab W) (H:0<W.heap.size) (h:IsD W v d) :
  Ϝ Η 16 #[v] W λe w'=>∃ q u,e=ν (ϥ #[u,.int ζ 0])/\IsD w' u q/\(Val q/\q.n.length<=64/\q.has [97]=Ξ/\q.has [98]=Τ)/\Ext W w':=
 (T7 d hd.1.val (ψ (Gu hd) (by decide)) v W G H h).mono λe w' ⟨q,⟨u,I,J⟩,E,D,M⟩=>
  ⟨q,u,I,J,⟨E.val,ψ (Aem hd.1.val E D) (ψ (Gu hd) (by decide)),(D _).2 ⟨[98],by rw[Ki hd];decide⟩,by
   cases T:q.has [98] with
   | false=>rfl
   | true=>
    obtain⟨u,hu⟩:=(D _).1 T;rw[Ki hd,decide_eq_true_eq] at hu;rcases hu with hu|hu<;>simp at hu⟩,M⟩
theorem Acv (d:Dfa) (hd:Fit d Hs) (v:Ρ) (W:Κ) (E:Tab W) (G:0<W.heap.size) (h:IsD W v d) :
  Ϝ Η 18 #[v] W λe w'=>∃ q u,e=ν (ϥ #[u,.int ζ 0])/\IsD w' u q/\(Val q/\q.n.length<=64/\q.has [99,98,97]=Ξ/\q.has [97,98,99]=Τ)/\Ext W w':=
 (Tn d hd.1.val (ψ (Gu hd) (by decide)) v W E G h).mono λe w' ⟨r,H,I,J⟩=>by
  obtain⟨q,rfl,D⟩:=Acm I hd;obtain⟨u,he,M⟩:=H;refine⟨q,u,he,M,⟨D.1.val,?_,(D.2 _).2 (.inr rfl),?_⟩,J⟩
  ·have U:∀ w,q.has w=(decide (w=[98,97])||decide (w=[99,98,97])):=λw=>by rw[ϰ,D.2,Æ,decide_eq_true_eq,decide_eq_true_eq]
   have:=T6 (Ff [98,97]) (Ff [99,98,97]) (g:=λa b=>a||b) D.1 (λw=>by
    rw[ϰ,D.2,Æ,Fg,Fg])
   rw[Es,Es] at this;simp at this;omega
  ·cases T:q.has [97,98,99] with
   | false=>rfl
   | true=>
    have:=(D.2 _).1 T;simp at this
theorem Ac4 (d:Dfa) (hd:Fit d Hs) (v:Ρ) (W:Κ) (h:IsD W v d) :
  Ϝ Η 20 #[v,.int ζ 3] W λe w'=>e=ν (ϥ #[.int ζ 1,.int ζ 0])/\Ext W w':=
 (Mw d hd.1.val (ψ (Gu hd) (by decide)) 3 (by decide) v W h).mono λe w' ⟨D,E⟩=>⟨by rw[D,Amr hd];rfl,E⟩
theorem Ac1 (d:Dfa) (hd:Fit d Hs) (v:Ρ) (W:Κ) (h:IsD W v d) :
  Ϝ Η 22 #[v,.int ζ 2] W λe w'=>∃ g E D,e=ν (ϥ #[Β (Δ ⟨g,0,Γ⟩) 1 E,.int ζ 0])/\w'.cell? ⟨g,0,Γ⟩=Δ D/\By w' D [97,98]/\Ext W w':=
 (Mh d hd.1.val (ψ (Gu hd) (by decide)) 2 (by decide) v W h).mono λe w' ⟨J,G⟩=>by
  have I:=Ams hd;have M:Bw d.has 3=1:=by rw[<-Ir,I];rfl
  rcases G with⟨_,T,he,vs,k1,H,k3⟩|⟨G,_⟩
  ·rw[show 2+1=3 from rfl,I] at k1 H k3;obtain⟨g,E,rfl⟩:=ownsRow_succ (k:=0) H;have c0:=H.cellAt 0 (by decide);obtain⟨D,rfl⟩:∃ D,vs=[D]:=by
    match vs,k1 with
    | [D],_=>exact⟨D,rfl⟩
   exact⟨g,E,D,he,c0,(k3 0 (by decide)).by (by decide),J⟩
  ·rw[show 2+1=3 from rfl,M] at G;omega
theorem Acz (d:Dfa) (c:Cls) (D:∀ b,b<256->c.getLsbD b=Ξ) (hd:d=Df c Τ) (v:Ρ) (W:Κ) (H:Tab W) (I:0<W.heap.size) (h:IsD W v d) :
  Ϝ Η 32 #[v] W λe w'=>∃ q u,e=ν (ϥ #[u,.int ζ 0])/\IsD w' u q/\(Val q/\q.n.length<=64/\∀ x,q.has x=Ξ)/\Ext W w':=by
 subst hd;exact (U2 (Df c Τ) (Ma c D Τ).val (by show (1:Nat)<=64;omega) v W H I h).mono λe w' ⟨q,⟨u,J,M⟩,E,G,T⟩=>
  ⟨q,u,J,M,⟨E.val,ψ (Af4 (Ma c D Τ).val E G) (by show (1:Nat)<=64;omega),λx=>by rw[G,Uq c D];rfl⟩,T⟩
theorem Ac3 (d:Dfa) (hd:Val d/\d.n.length<=64/\∀ x,d.has x=Ξ) (v:Ρ) (W:Κ) (h:IsD W v d) :
  Ϝ Η 20 #[v,.int ζ 5] W λe w'=>e=ν (ϥ #[.int ζ 1099511627776,.int ζ 0])/\Ext W w':=
 (Mw d hd.1 hd.2.1 5 (by decide) v W h).mono λe w' ⟨D,E⟩=>⟨by rw[D,Hk hd.2.2];unfold E3;rw[if_pos (by decide)];rfl,E⟩
theorem Ac2 (d:Dfa) (hd:Val d/\d.n.length<=64/\∀ x,d.has x=Ξ) (v:Ρ) (W:Κ) (h:IsD W v d) :
  Ϝ Η 20 #[v,.int ζ 6] W λe w'=>e=ν (ϥ #[.int ζ 0,.int ζ 2])/\Ext W w':=
 (Mw d hd.1 hd.2.1 6 (by decide) v W h).mono λe w' ⟨D,E⟩=>⟨by rw[D,Hk hd.2.2];unfold E3;rw[if_neg (by decide)],E⟩
theorem Acu (d:Dfa) (hd:Val d/\d.n.length<=64/\∀ x,d.has x=Ξ) (v:Ρ) (W:Κ) (h:IsD W v d) :
  Ϝ Η 22 #[v,.int ζ 1] W λe w'=>∃ a D,e=ν (ϥ #[Β a 257 D,.int ζ 0])/\Ext W w':=
 (Mh d hd.1 hd.2.1 1 (by decide) v W h).mono λe w' ⟨H,E⟩=>by
  have G:Bw d.has 2=257:=by
   show 0+A5 d.has 0+A5 d.has 1=257;rw[Hk hd.2.2,Hk hd.2.2]
  rcases E with⟨_,J,he,vs,k1,I,k3⟩|⟨E,_⟩
  ·obtain⟨a,D,rfl⟩:=Dr I;rw[Ir,show 1+1=2 from rfl,G] at he;exact⟨a,D,he,H⟩
  ·rw[show 1+1=2 from rfl,G] at E;omega
theorem Ac0 (d:Dfa) (hd:Val d/\d.n.length<=64/\∀ x,d.has x=Ξ) (v:Ρ) (W:Κ) (h:IsD W v d) :
  Ϝ Η 22 #[v,.int ζ 2] W λe w'=>e=ν (ϥ #[Β Γ 0 0,.int ζ 2])/\Ext W w':=
 (Mh d hd.1 hd.2.1 2 (by decide) v W h).mono λe w' ⟨E,D⟩=>by
  have G:4096<Bw d.has 3:=by
   show 4096<0+A5 d.has 0+A5 d.has 1+A5 d.has 2;rw[Hk hd.2.2,Hk hd.2.2,Hk hd.2.2];decide
  rcases D with⟨D,_⟩|⟨_,he⟩
  ·rw[show 2+1=3 from rfl] at D;omega
  ·exact⟨he,E⟩
theorem Amp (A:Cls) (G:ofL [97]=A) (W:Κ) (H:Tab W) (E:0<W.heap.size) :
  Ϝ Η 36 #[Β (Δ ⟨W.heap.size,0,Γ⟩) 3 3] (W.alloc (Ε #[.int ζ 3,.int π (wd A 0),.int π (wd A 1),.int π (wd A 2),.int π (wd A 3),.int ζ 0,.int ζ 0,.int ζ 0,.int ζ 0,.int ζ 8,.int π 0,.int π 0,.int π 0,.int π 0,.int ζ 0,.int ζ 0,.int ζ 16,.int ζ 16,.int ζ 8,.int π 0,.int π 0,.int π 0,.int π 0,.int ζ 1,.int ζ 0,.int ζ 5,.int ζ 5] 64)) λe w'=>e=ν (ϥ #[.agg #[Β Γ 0 0,Β Γ 0 0,Β Γ 0 0],.int ζ 2])/\Ext W w':=by
 rw[Aho];have D:=(Ι W).alloc (Ε (flR [⟨3,0,0,A,0,0⟩,⟨8,0,0,0#256,16,16⟩,⟨8,1,0,0#256,5,5⟩]).toArray 64);exact (Amq A G W.heap.size _ (H.below D.below E) (ε E D.size) (Ab W _)).mono λe w' ⟨I,J⟩=>⟨I,D.trans J⟩
theorem Acp (w:Κ) (hT:Tab w) (cr:0<w.heap.size) :
  Ϝ Η 12 #[] w λe w'=>e=ν (.bool Ξ)/\Ext w w':=by
 obtain⟨A,hA⟩:∃ A,ofL [97]=A:=⟨_,rfl⟩;obtain⟨B,hB⟩:∃ A,ofL [98,99]=A:=⟨_,rfl⟩;have c7:=λW=>Α (Uu [97] (by decide) (1,2) W #[.int .u8 97] rfl 1 rfl A hA)
 have c8:=λW=>Α (Uu [98,99] (by decide) (2,3) W #[.int .u8 98,.int .u8 99] rfl 2 rfl B hB)
 have kc:=λ(w:Κ) (C:Array Ρ) (n c:Nat)=>Lib.run_convert_bytes_const (P:=Η) w 22 5 C n c Tryz.underlying22 Tryz.underlying5
 have HA:=Α hA;have HB:=Α hB;have az:=Α (λW (M:Ext w W)=>hT.below M.below cr);have a1:=Α (λW (M:Ext w W)=>ε cr M.size);clear hA hB hT cr;go_enter Tryz.func12,Tryz.ntmps12;go_upto_region 2 with (first
  | (go_at_call 44;(with_reducible refine (c7 _).out.mono ?_);rintro e w2 ⟨rfl,dc⟩;clear c7)
  | (go_at_call 44;(with_reducible refine (c8 _).out.mono ?_);rintro e w3 ⟨rfl,dd⟩;clear c8))
 simp only[Ahn];have E:=(dc.trans dd).alloc (Ε (flR [⟨3,0,0,A,0,0⟩,⟨3,0,0,B,0,0⟩,⟨8,1,0,0#256,0,-1⟩,⟨4,0,2,0#256,0,0⟩]).toArray 64);have hX:=Ab w3 (Ε (flR [⟨3,0,0,A,0,0⟩,⟨3,0,0,B,0,0⟩,⟨8,1,0,0#256,0,-1⟩,⟨4,0,2,0#256,0,0⟩]).toArray 64);obtain⟨wa,cw⟩:∃ W,w3.alloc (Ε (flR [⟨3,0,0,A,0,0⟩,⟨3,0,0,B,0,0⟩,⟨8,1,0,0#256,0,-1⟩,⟨4,0,2,0#256,0,0⟩]).toArray 64)=W:=⟨_,rfl⟩;rw[cw] at E hX;simp only[cw];clear cw dc dd;generalize w3.heap.size=gx at *;have de:wa.rangeAt gx 0 [.int ζ 3,.int π (wd A 0),.int π (wd A 1),.int π (wd A 2),.int π (wd A 3),.int ζ 0,.int ζ 0,.int ζ 0,.int ζ 0]:=by
  have:=N5 hX 0 (by simp);rw[show 0+0*9=0 by rfl] at this;exact this
 have b7:=Α de;have f36:=Α (Amo A B HA.out HB.out gx wa (az.out wa E) (a1.out wa E) hX);clear de hX;go_upto_region 3 with (first
  | (go_at_call 36;(with_reducible refine f36.out.mono ?_);rintro e w4 ⟨x,v4,rfl,hD,df,dg,dh,dk,I⟩;have dm:=Α dg;clear dg;obtain⟨ac,lc,cc,an,cn,aa,la,ca,rfl⟩:=hD.agg)
  | (refine Φ rfl 30 (η 2) (η 48) rfl _ _ rfl rfl _ _ (Ab w4 _) Ad rfl (Ap _ _ _ rfl rfl rfl) ?_))
 obtain⟨T,H,U⟩:=Ec hD;obtain⟨V2,J⟩:∃ X,dA (Β ac lc cc) (Β an x.n.length cn) (Β aa la ca)=X:=⟨_,rfl⟩;have en:(Η.info? 30).map (·.size)=Δ V2.size:=by rw[<-J];exact Ad
 have eo:Ϻ (V2[1]? = Δ (Β an 3 cn)):=Α (by rw[<-J,dm.out];rfl);rw[J] at T H U;rw[J];obtain⟨cy,hw⟩:∃ W,(w4.alloc (Ε #[Β Γ 0 0,Β Γ 0 0,Β Γ 0 0] 30)).setRow w4.heap.size V2=W:=⟨_,rfl⟩;rw[hw] at T H U;simp only[hw];obtain⟨g2,hg⟩:∃ y,w4.heap.size=y:=⟨_,rfl⟩;rw[hg] at H;rw[hg];have D:=I.trans T;have af:=Α H;have ai:=Α U;have bl:=Α (ã df.val (ã (show x.n.length<=64 by rw[dm.out];omega) (ã dh dk)));replace b7:=Α (λj v hj=>D.cell (b7.out j v hj));clear df dh dk f36;replace E:=E.trans D;clear hD T H U J hw hg I D;have dn:=Α (Amp A HA.out cy (az.out cy E) (a1.out cy E));have dt:(Η.info? 64).map (·.size)=Δ [Ρ.int ζ 3,.int π (wd A 0),.int π (wd A 1),.int π (wd A 2),.int π (wd A 3),.int ζ 0,.int ζ 0,.int ζ 0,.int ζ 0].length:=Ps;go_upto_region 4 with (first
  | (refine wpList_load_mid rfl 64 (η 52) rfl gx 0 rfl _ _ b7.out Tryz.underlying64 rfl dt ?_)
  | (go_at_call 36;(with_reducible refine dn.out.mono ?_);rintro e w5 ⟨rfl,I⟩)
  | (refine Φ rfl 30 (η 4) (η 58) rfl _ _ rfl rfl _ _ (Ab w5 _) Ad rfl Ew ?_))
 have D:=I.trans (((Ι w5).alloc (Ε #[Β Γ 0 0,Β Γ 0 0,Β Γ 0 0] 30)).setRow (θ w5.heap.size) #[Β Γ 0 0,Β Γ 0 0,Β Γ 0 0]);obtain⟨et,hw⟩:∃ W,(w5.alloc (Ε #[Β Γ 0 0,Β Γ 0 0,Β Γ 0 0] 30)).setRow w5.heap.size #[Β Γ 0 0,Β Γ 0 0,Β Γ 0 0]=W:=⟨_,rfl⟩;rw[hw] at D;simp only[hw];generalize w5.heap.size=g5 at *;replace af:=Α (D.heap af.out);replace ai:=Α (ai.out.ext D);replace E:=E.trans D;clear hw I D dn dt b7;have f45:=Α (Rp [97,98] (by decide) (2,3) et #[.int .u8 97,.int .u8 98] rfl 2 rfl);go_upto_region 5 with (first
  | (go_at_call 45;(with_reducible refine f45.out.mono ?_);rintro e w6 ⟨d2,v,rfl,hD,bt,bu,I⟩;obtain⟨ac,lc,cc,an,cn,aa,la,ca,rfl⟩:=hD.agg)
  | (refine Φ rfl 30 (η 6) (η 64) rfl _ _ rfl rfl _ _ (Ab w6 _) Ad rfl (Ap _ _ _ rfl rfl rfl) ?_))
 obtain⟨T,H,U⟩:=Ec hD;obtain⟨V6,J⟩:∃ X,dA (Β ac lc cc) (Β an d2.n.length cn) (Β aa la ca)=X:=⟨_,rfl⟩;have eu:(Η.info? 30).map (·.size)=Δ V6.size:=by rw[<-J];exact Ad
 rw[J] at T H U;rw[J];obtain⟨ev,hw⟩:∃ W,(w6.alloc (Ε #[Β Γ 0 0,Β Γ 0 0,Β Γ 0 0] 30)).setRow w6.heap.size V6=W:=⟨_,rfl⟩;rw[hw] at T H U;simp only[hw];obtain⟨g6,hg⟩:∃ y,w6.heap.size=y:=⟨_,rfl⟩;rw[hg] at H;rw[hg];have D:=I.trans T;have ak:=Α H;have al:=Α U;have dv:=Α (ã bt bu);clear bt bu f45;replace af:=Α (D.heap af.out);replace ai:=Α (ai.out.ext D);replace E:=E.trans D;clear hD T H U J hw hg I D;have f45:=Α (Rp [97,98,99] (by decide) (3,4) ev #[.int .u8 97,.int .u8 98,.int .u8 99] rfl 3 rfl);go_upto_region 6 with (first
  | (go_at_call 45;(with_reducible refine f45.out.mono ?_);rintro e w8 ⟨d3,v,rfl,hD,bt,bu,I⟩;obtain⟨ac,lc,cc,an,cn,aa,la,ca,rfl⟩:=hD.agg)
  | (refine Φ rfl 30 (η 8) (η 70) rfl _ _ rfl rfl _ _ (Ab w8 _) Ad rfl (Ap _ _ _ rfl rfl rfl) ?_))
 obtain⟨T,H,U⟩:=Ec hD;obtain⟨V8,J⟩:∃ X,dA (Β ac lc cc) (Β an d3.n.length cn) (Β aa la ca)=X:=⟨_,rfl⟩;have ew:(Η.info? 30).map (·.size)=Δ V8.size:=by rw[<-J];exact Ad
 rw[J] at T H U;rw[J];obtain⟨cz,hw⟩:∃ W,(w8.alloc (Ε #[Β Γ 0 0,Β Γ 0 0,Β Γ 0 0] 30)).setRow w8.heap.size V8=W:=⟨_,rfl⟩;rw[hw] at T H U;simp only[hw];obtain⟨g8,hg⟩:∃ y,w8.heap.size=y:=⟨_,rfl⟩;rw[hg] at H;rw[hg];have D:=I.trans T;have ar:=Α H;have au:=Α U;have dx:=Α (ã bt bu);clear bt bu f45;replace af:=Α (D.heap af.out);replace ai:=Α (ai.out.ext D);replace ak:=Α (D.heap ak.out);replace al:=Α (al.out.ext D);replace E:=E.trans D;clear hD T H U J hw hg I D;have f33:=Α (Acy d2 d3 dv.out.1 dx.out.1 dv.out.2 dx.out.2 _ _ cz (az.out cz E) (a1.out cz E) al.out au.out);go_upto_region 7 with (first
  | (refine Υ rfl 30 (η 6) rfl _ rfl _ _ _ _ ak.out Ν rfl eu ?_)
  | (refine Υ rfl 30 (η 8) rfl _ rfl _ _ _ _ ar.out Ν rfl ew ?_)
  | (go_at_call 33;(with_reducible refine f33.out.mono ?_);rintro e cd ⟨db,v,rfl,hD,be,I⟩;obtain⟨ac,lc,cc,an,cn,aa,la,ca,rfl⟩:=hD.agg)
  | (refine Φ rfl 30 (η 10) (η 76) rfl _ _ rfl rfl _ _ (Ab cd _) Ad rfl (Ap _ _ _ rfl rfl rfl) ?_))
 obtain⟨T,H,U⟩:=Ec hD;obtain⟨dy,J⟩:∃ X,dA (Β ac lc cc) (Β an db.n.length cn) (Β aa la ca)=X:=⟨_,rfl⟩;have bw:(Η.info? 30).map (·.size)=Δ dy.size:=by rw[<-J];exact Ad
 rw[J] at T H U;rw[J];obtain⟨c1,hw⟩:∃ W,(cd.alloc (Ε #[Β Γ 0 0,Β Γ 0 0,Β Γ 0 0] 30)).setRow cd.heap.size dy=W:=⟨_,rfl⟩;rw[hw] at T H U;simp only[hw];obtain⟨fq,hg⟩:∃ y,cd.heap.size=y:=⟨_,rfl⟩;rw[hg] at H;rw[hg];have D:=I.trans T;have ao:=Α H;have aq:=Α U;have bx:=Α be;clear be f33;replace af:=Α (D.heap af.out);replace ai:=Α (ai.out.ext D);replace ak:=Α (D.heap ak.out);replace al:=Α (al.out.ext D);replace ar:=Α (D.heap ar.out);replace au:=Α (au.out.ext D);replace E:=E.trans D;clear hD T H U J hw hg I D;have f14:=Α (Acw db bx.out _ c1 (az.out c1 E) (a1.out c1 E) aq.out);go_upto_region 8 with (first
  | (refine Υ rfl 30 (η 10) rfl _ rfl _ _ _ _ ao.out Ν rfl bw ?_)
  | (go_at_call 14;(with_reducible refine f14.out.mono ?_);rintro e cf ⟨dq,v,rfl,hD,be,I⟩;obtain⟨ac,lc,cc,an,cn,aa,la,ca,rfl⟩:=hD.agg)
  | (refine Φ rfl 30 (η 12) (η 83) rfl _ _ rfl rfl _ _ (Ab cf _) Ad rfl (Ap _ _ _ rfl rfl rfl) ?_))
 obtain⟨T,H,U⟩:=Ec hD;obtain⟨bo,J⟩:∃ X,dA (Β ac lc cc) (Β an dq.n.length cn) (Β aa la ca)=X:=⟨_,rfl⟩;have ez:(Η.info? 30).map (·.size)=Δ bo.size:=by rw[<-J];exact Ad
 rw[J] at T H U;rw[J];obtain⟨c2,hw⟩:∃ W,(cf.alloc (Ε #[Β Γ 0 0,Β Γ 0 0,Β Γ 0 0] 30)).setRow cf.heap.size bo=W:=⟨_,rfl⟩;rw[hw] at T H U;simp only[hw];obtain⟨fs,hg⟩:∃ y,cf.heap.size=y:=⟨_,rfl⟩;rw[hg] at H;rw[hg];have D:=I.trans T;have ab:=Α H;have aw:=Α U;have bj:=Α be;clear be f14;replace af:=Α (D.heap af.out);replace ai:=Α (ai.out.ext D);replace ak:=Α (D.heap ak.out);replace al:=Α (al.out.ext D);replace ar:=Α (D.heap ar.out);replace au:=Α (au.out.ext D);replace ao:=Α (D.heap ao.out);replace aq:=Α (aq.out.ext D);replace E:=E.trans D;clear hD T H U J hw hg I D;have f16:=Α (Acx db bx.out _ c2 (az.out c2 E) (a1.out c2 E) aq.out);go_upto_region 9 with (first
  | (refine Υ rfl 30 (η 10) rfl _ rfl _ _ _ _ ao.out Ν rfl bw ?_)
  | (go_at_call 16;(with_reducible refine f16.out.mono ?_);rintro e cg ⟨dp,v,rfl,hD,be,I⟩;obtain⟨ac,lc,cc,an,cn,aa,la,ca,rfl⟩:=hD.agg)
  | (refine Φ rfl 30 (η 14) (η 88) rfl _ _ rfl rfl _ _ (Ab cg _) Ad rfl (Ap _ _ _ rfl rfl rfl) ?_))
 obtain⟨T,H,U⟩:=Ec hD;obtain⟨ch,J⟩:∃ X,dA (Β ac lc cc) (Β an dp.n.length cn) (Β aa la ca)=X:=⟨_,rfl⟩;have e1:(Η.info? 30).map (·.size)=Δ ch.size:=by rw[<-J];exact Ad
 rw[J] at T H U;rw[J];obtain⟨c3,hw⟩:∃ W,(cg.alloc (Ε #[Β Γ 0 0,Β Γ 0 0,Β Γ 0 0] 30)).setRow cg.heap.size ch=W:=⟨_,rfl⟩;rw[hw] at T H U;simp only[hw];obtain⟨ft,hg⟩:∃ y,cg.heap.size=y:=⟨_,rfl⟩;rw[hg] at H;rw[hg];have D:=I.trans T;have ae:=Α H;have ax:=Α U;have bp:=Α be;clear be f16;replace af:=Α (D.heap af.out);replace ai:=Α (ai.out.ext D);replace ak:=Α (D.heap ak.out);replace al:=Α (al.out.ext D);replace ar:=Α (D.heap ar.out);replace au:=Α (au.out.ext D);replace ao:=Α (D.heap ao.out);replace aq:=Α (aq.out.ext D);replace ab:=Α (D.heap ab.out);replace aw:=Α (aw.out.ext D);replace E:=E.trans D;clear hD T H U J hw hg I D;have f18:=Α (Acv db bx.out _ c3 (az.out c3 E) (a1.out c3 E) aq.out);go_upto_region 10 with (first
  | (refine Υ rfl 30 (η 10) rfl _ rfl _ _ _ _ ao.out Ν rfl bw ?_)
  | (go_at_call 18;(with_reducible refine f18.out.mono ?_);rintro e cj ⟨dr,v,rfl,hD,be,I⟩;obtain⟨ac,lc,cc,an,cn,aa,la,ca,rfl⟩:=hD.agg)
  | (refine Φ rfl 30 (η 16) (η 93) rfl _ _ rfl rfl _ _ (Ab cj _) Ad rfl (Ap _ _ _ rfl rfl rfl) ?_))
 obtain⟨T,H,U⟩:=Ec hD;obtain⟨ck,J⟩:∃ X,dA (Β ac lc cc) (Β an dr.n.length cn) (Β aa la ca)=X:=⟨_,rfl⟩;have e3:(Η.info? 30).map (·.size)=Δ ck.size:=by rw[<-J];exact Ad
 rw[J] at T H U;rw[J];obtain⟨e4,hw⟩:∃ W,(cj.alloc (Ε #[Β Γ 0 0,Β Γ 0 0,Β Γ 0 0] 30)).setRow cj.heap.size ck=W:=⟨_,rfl⟩;rw[hw] at T H U;simp only[hw];obtain⟨fu,hg⟩:∃ y,cj.heap.size=y:=⟨_,rfl⟩;rw[hg] at H;rw[hg];have D:=I.trans T;have ag:=Α H;have a8:=Α U;have bq:=Α be;clear be f18;replace af:=Α (D.heap af.out);replace ai:=Α (ai.out.ext D);replace ak:=Α (D.heap ak.out);replace al:=Α (al.out.ext D);replace ar:=Α (D.heap ar.out);replace au:=Α (au.out.ext D);replace ao:=Α (D.heap ao.out);replace aq:=Α (aq.out.ext D);replace ab:=Α (D.heap ab.out);replace aw:=Α (aw.out.ext D);replace ae:=Α (D.heap ae.out);replace ax:=Α (ax.out.ext D);replace E:=E.trans D;clear hD T H U J hw hg I D;have f20:=Α (Ac4 db bx.out _ e4 aq.out);go_upto_region 11 with (first
  | (refine Υ rfl 30 (η 10) rfl _ rfl _ _ _ _ ao.out Ν rfl bw ?_)
  | (go_at_call 20;(with_reducible refine f20.out.mono ?_);rintro e e5 ⟨rfl,I⟩))
 have D:=I;replace af:=Α (D.heap af.out);replace ai:=Α (ai.out.ext D);replace ak:=Α (D.heap ak.out);replace al:=Α (al.out.ext D);replace ar:=Α (D.heap ar.out);replace au:=Α (au.out.ext D);replace ao:=Α (D.heap ao.out);replace aq:=Α (aq.out.ext D);replace ab:=Α (D.heap ab.out);replace aw:=Α (aw.out.ext D);replace ae:=Α (D.heap ae.out);replace ax:=Α (ax.out.ext D);replace ag:=Α (D.heap ag.out);replace a8:=Α (a8.out.ext D);replace E:=E.trans D;clear I D;have f22:=Α (Ac1 db bx.out _ e5 aq.out);go_upto_region 12 with (first
  | (refine Υ rfl 30 (η 10) rfl _ rfl _ _ _ _ ao.out Ν rfl bw ?_)
  | (go_at_call 22;(with_reducible refine f22.out.mono ?_);rintro e e6 ⟨gl,fw,v0,rfl,c4,ea,I⟩))
 have D:=I;have ay:=Α (ã c4 ea);clear c4 ea f20 f22;replace af:=Α (D.heap af.out);replace ai:=Α (ai.out.ext D);replace ak:=Α (D.heap ak.out);replace al:=Α (al.out.ext D);replace ar:=Α (D.heap ar.out);replace au:=Α (au.out.ext D);replace ao:=Α (D.heap ao.out);replace aq:=Α (aq.out.ext D);replace ab:=Α (D.heap ab.out);replace aw:=Α (aw.out.ext D);replace ae:=Α (D.heap ae.out);replace ax:=Α (ax.out.ext D);replace ag:=Α (D.heap ag.out);replace a8:=Α (a8.out.ext D);replace E:=E.trans D;clear I D;have f46:=Α (Ad0 Τ e6);go_upto_region 13 with (first
  | (go_at_call 46;(with_reducible refine f46.out.mono ?_);rintro e c5 ⟨vn,cN,rfl,eb,ec,cl⟩;have f32:=Α (Acz _ cN ec rfl _ c5 (az.out c5 (E.trans cl)) (a1.out c5 (E.trans cl)) eb);clear eb ec)
  | (go_at_call 32;(with_reducible refine f32.out.mono ?_);rintro e cm ⟨da,v,rfl,hD,be,ed⟩;have I:=cl.trans ed;clear cl ed;obtain⟨ac,lc,cc,an,cn,aa,la,ca,rfl⟩:=hD.agg)
  | (refine Φ rfl 30 (η 22) (η 108) rfl _ _ rfl rfl _ _ (Ab cm _) Ad rfl (Ap _ _ _ rfl rfl rfl) ?_))
 obtain⟨T,H,U⟩:=Ec hD;obtain⟨ee,J⟩:∃ X,dA (Β ac lc cc) (Β an da.n.length cn) (Β aa la ca)=X:=⟨_,rfl⟩;have cp:(Η.info? 30).map (·.size)=Δ ee.size:=by rw[<-J];exact Ad
 rw[J] at T H U;rw[J];obtain⟨e9,hw⟩:∃ W,(cm.alloc (Ε #[Β Γ 0 0,Β Γ 0 0,Β Γ 0 0] 30)).setRow cm.heap.size ee=W:=⟨_,rfl⟩;rw[hw] at T H U;simp only[hw];obtain⟨fx,hg⟩:∃ y,cm.heap.size=y:=⟨_,rfl⟩;rw[hg] at H;rw[hg];have D:=I.trans T;have bf:=Α H;have bg:=Α U;have cq:=Α be;clear be f46 f32;replace af:=Α (D.heap af.out);replace ai:=Α (ai.out.ext D);replace ak:=Α (D.heap ak.out);replace al:=Α (al.out.ext D);replace ar:=Α (D.heap ar.out);replace au:=Α (au.out.ext D);replace ao:=Α (D.heap ao.out);replace aq:=Α (aq.out.ext D);replace ab:=Α (D.heap ab.out);replace aw:=Α (aw.out.ext D);replace ae:=Α (D.heap ae.out);replace ax:=Α (ax.out.ext D);replace ag:=Α (D.heap ag.out);replace a8:=Α (a8.out.ext D);replace ay:=Α (ã (D.cell ay.out.1) (ay.out.2.ext D));replace E:=E.trans D;clear hD T H U J hw hg I D;have f20:=Α (Ac3 da cq.out _ e9 bg.out);go_upto_region 14 with (first
  | (refine Υ rfl 30 (η 22) rfl _ rfl _ _ _ _ bf.out Ν rfl cp ?_)
  | (go_at_call 20;(with_reducible refine f20.out.mono ?_);rintro e fa ⟨rfl,I⟩))
 have D:=I;clear f20;replace af:=Α (D.heap af.out);replace ai:=Α (ai.out.ext D);replace ak:=Α (D.heap ak.out);replace al:=Α (al.out.ext D);replace ar:=Α (D.heap ar.out);replace au:=Α (au.out.ext D);replace ao:=Α (D.heap ao.out);replace aq:=Α (aq.out.ext D);replace ab:=Α (D.heap ab.out);replace aw:=Α (aw.out.ext D);replace ae:=Α (D.heap ae.out);replace ax:=Α (ax.out.ext D);replace ag:=Α (D.heap ag.out);replace a8:=Α (a8.out.ext D);replace bf:=Α (D.heap bf.out);replace bg:=Α (bg.out.ext D);replace ay:=Α (ã (D.cell ay.out.1) (ay.out.2.ext D));replace E:=E.trans D;clear I D;have f20:=Α (Ac2 da cq.out _ fa bg.out);go_upto_region 15 with (first
  | (refine Υ rfl 30 (η 22) rfl _ rfl _ _ _ _ bf.out Ν rfl cp ?_)
  | (go_at_call 20;(with_reducible refine f20.out.mono ?_);rintro e fb ⟨rfl,I⟩))
 have D:=I;clear f20;replace af:=Α (D.heap af.out);replace ai:=Α (ai.out.ext D);replace ak:=Α (D.heap ak.out);replace al:=Α (al.out.ext D);replace ar:=Α (D.heap ar.out);replace au:=Α (au.out.ext D);replace ao:=Α (D.heap ao.out);replace aq:=Α (aq.out.ext D);replace ab:=Α (D.heap ab.out);replace aw:=Α (aw.out.ext D);replace ae:=Α (D.heap ae.out);replace ax:=Α (ax.out.ext D);replace ag:=Α (D.heap ag.out);replace a8:=Α (a8.out.ext D);replace bf:=Α (D.heap bf.out);replace bg:=Α (bg.out.ext D);replace ay:=Α (ã (D.cell ay.out.1) (ay.out.2.ext D));replace E:=E.trans D;clear I D;have f22:=Α (Acu da cq.out _ fb bg.out);go_upto_region 16 with (first
  | (refine Υ rfl 30 (η 22) rfl _ rfl _ _ _ _ bf.out Ν rfl cp ?_)
  | (go_at_call 22;(with_reducible refine f22.out.mono ?_);rintro e fc ⟨fy,fz,rfl,I⟩))
 have D:=I;clear f22;replace af:=Α (D.heap af.out);replace ai:=Α (ai.out.ext D);replace ak:=Α (D.heap ak.out);replace al:=Α (al.out.ext D);replace ar:=Α (D.heap ar.out);replace au:=Α (au.out.ext D);replace ao:=Α (D.heap ao.out);replace aq:=Α (aq.out.ext D);replace ab:=Α (D.heap ab.out);replace aw:=Α (aw.out.ext D);replace ae:=Α (D.heap ae.out);replace ax:=Α (ax.out.ext D);replace ag:=Α (D.heap ag.out);replace a8:=Α (a8.out.ext D);replace bf:=Α (D.heap bf.out);replace bg:=Α (bg.out.ext D);replace ay:=Α (ã (D.cell ay.out.1) (ay.out.2.ext D));replace E:=E.trans D;clear I D;have f22:=Α (Ac0 da cq.out _ fc bg.out);go_upto_region 17 with (first
  | (refine Υ rfl 30 (η 22) rfl _ rfl _ _ _ _ bf.out Ν rfl cp ?_)
  | (go_at_call 22;(with_reducible refine f22.out.mono ?_);rintro e bh ⟨rfl,I⟩))
 have D:=I;clear f22;replace af:=Α (D.heap af.out);replace ai:=Α (ai.out.ext D);replace ak:=Α (D.heap ak.out);replace al:=Α (al.out.ext D);replace ar:=Α (D.heap ar.out);replace au:=Α (au.out.ext D);replace ao:=Α (D.heap ao.out);replace aq:=Α (aq.out.ext D);replace ab:=Α (D.heap ab.out);replace aw:=Α (aw.out.ext D);replace ae:=Α (D.heap ae.out);replace ax:=Α (ax.out.ext D);replace ag:=Α (D.heap ag.out);replace a8:=Α (a8.out.ext D);replace bf:=Α (D.heap bf.out);replace bg:=Α (bg.out.ext D);replace ay:=Α (ã (D.cell ay.out.1) (ay.out.2.ext D));replace E:=E.trans D;clear I D;have fe:=(Ω bh g2 1 _ _ _ af.out).trans eo.out;go_upto_region 19 with (fail)
 clear fe;have aj:=Ι bh;have b0:=λW (M:Ext bh W)=>Α (Gv _ bl.out.1 bl.out.2.1 (.agg V2) [97,99,98] (by decide) Ξ bl.out.2.2.1 (3,4) W (az.out W (E.trans M)) (a1.out W (E.trans M)) (ai.out.ext M) #[.int .u8 97,.int .u8 99,.int .u8 98] rfl 3 rfl)
 have b4:=λW (M:Ext bh W)=>Α (Gv _ bl.out.1 bl.out.2.1 (.agg V2) [98,97] (by decide) Τ bl.out.2.2.2 (2,3) W (az.out W (E.trans M)) (a1.out W (E.trans M)) (ai.out.ext M) #[.int .u8 98,.int .u8 97] rfl 2 rfl)
 go_upto_region 20 with (first
  | (refine Jn rfl 30 (η 2) rfl _ rfl _ _ _ _ af.out Ν rfl en ?_)
  | (go_at_call 29;(with_reducible refine (b0 _ aj).out.mono ?_);rintro e wA ⟨rfl,G⟩;have aj:=aj.trans G;have af:=Α (G.heap af.out);have ab:=Α (G.heap ab.out);have ae:=Α (G.heap ae.out);have ag:=Α (G.heap ag.out);clear G b0)
  | (go_at_call 29;(with_reducible refine (b4 _ aj).out.mono ?_);rintro e wA ⟨rfl,G⟩;have aj:=aj.trans G;have af:=Α (G.heap af.out);have ab:=Α (G.heap ab.out);have ae:=Α (G.heap ae.out);have ag:=Α (G.heap ag.out);clear G b4))
 have b0:=λW (M:Ext bh W)=>Α (Gv _ bj.out.1 bj.out.2.1 (.agg bo) [99] (by decide) Ξ bj.out.2.2.1 (1,2) W (az.out W (E.trans M)) (a1.out W (E.trans M)) (aw.out.ext M) #[.int .u8 99] rfl 1 rfl)
 have ef:=λW (M:Ext bh W)=>Α (show Ϝ Η 29 #[.agg bo,Β Γ 0 0] W λe w'=>e=ν (.bool Ξ)/\Ext W w' from (Zl _ bj.out.1 bj.out.2.1 (.agg bo) [] (Β Γ 0 0) W (az.out W (E.trans M)) (a1.out W (E.trans M)) (aw.out.ext M) (Sl.nil _ _ _)).mono λe w' ⟨h1,h2⟩=>⟨by rw[h1,bj.out.2.2.2.1],h2⟩)
 have b4:=λW (M:Ext bh W)=>Α (Gv _ bj.out.1 bj.out.2.1 (.agg bo) [97] (by decide) Τ bj.out.2.2.2.2 (1,2) W (az.out W (E.trans M)) (a1.out W (E.trans M)) (aw.out.ext M) #[.int .u8 97] rfl 1 rfl)
 have eg:=λW (M:Ext bh W)=>Α (Gv _ bp.out.1 bp.out.2.1 (.agg ch) [97] (by decide) Ξ bp.out.2.2.1 (1,2) W (az.out W (E.trans M)) (a1.out W (E.trans M)) (ax.out.ext M) #[.int .u8 97] rfl 1 rfl)
 have eh:=λW (M:Ext bh W)=>Α (Gv _ bp.out.1 bp.out.2.1 (.agg ch) [98] (by decide) Τ bp.out.2.2.2 (1,2) W (az.out W (E.trans M)) (a1.out W (E.trans M)) (ax.out.ext M) #[.int .u8 98] rfl 1 rfl)
 have ei:=λW (M:Ext bh W)=>Α (Gv _ bq.out.1 bq.out.2.1 (.agg ck) [99,98,97] (by decide) Ξ bq.out.2.2.1 (3,4) W (az.out W (E.trans M)) (a1.out W (E.trans M)) (a8.out.ext M) #[.int .u8 99,.int .u8 98,.int .u8 97] rfl 3 rfl)
 have ej:=λW (M:Ext bh W)=>Α (Gv _ bq.out.1 bq.out.2.1 (.agg ck) [97,98,99] (by decide) Τ bq.out.2.2.2 (3,4) W (az.out W (E.trans M)) (a1.out W (E.trans M)) (a8.out.ext M) #[.int .u8 97,.int .u8 98,.int .u8 99] rfl 3 rfl)
 go_upto_region 21 with (first
  | (refine Jn rfl 30 (η 12) rfl _ rfl _ _ _ _ ab.out Ν rfl ez ?_)
  | (refine Jn rfl 30 (η 14) rfl _ rfl _ _ _ _ ae.out Ν rfl e1 ?_)
  | (refine Jn rfl 30 (η 16) rfl _ rfl _ _ _ _ ag.out Ν rfl e3 ?_)
  | (go_at_call 29;(with_reducible refine (b0 _ aj).out.mono ?_);rintro e wA ⟨rfl,G⟩;have aj:=aj.trans G;have ab:=Α (G.heap ab.out);have ae:=Α (G.heap ae.out);have ag:=Α (G.heap ag.out);clear G b0)
  | (go_at_call 29;(with_reducible refine (ef _ aj).out.mono ?_);rintro e wA ⟨rfl,G⟩;have aj:=aj.trans G;have ab:=Α (G.heap ab.out);have ae:=Α (G.heap ae.out);have ag:=Α (G.heap ag.out);clear G ef)
  | (go_at_call 29;(with_reducible refine (b4 _ aj).out.mono ?_);rintro e wA ⟨rfl,G⟩;have aj:=aj.trans G;have ab:=Α (G.heap ab.out);have ae:=Α (G.heap ae.out);have ag:=Α (G.heap ag.out);clear G b4)
  | (go_at_call 29;(with_reducible refine (eg _ aj).out.mono ?_);rintro e wA ⟨rfl,G⟩;have aj:=aj.trans G;have ab:=Α (G.heap ab.out);have ae:=Α (G.heap ae.out);have ag:=Α (G.heap ag.out);clear G eg)
  | (go_at_call 29;(with_reducible refine (eh _ aj).out.mono ?_);rintro e wA ⟨rfl,G⟩;have aj:=aj.trans G;have ab:=Α (G.heap ab.out);have ae:=Α (G.heap ae.out);have ag:=Α (G.heap ag.out);clear G eh)
  | (go_at_call 29;(with_reducible refine (ei _ aj).out.mono ?_);rintro e wA ⟨rfl,G⟩;have aj:=aj.trans G;have ab:=Α (G.heap ab.out);have ae:=Α (G.heap ae.out);have ag:=Α (G.heap ag.out);clear G ei)
  | (go_at_call 29;(with_reducible refine (ej _ aj).out.mono ?_);rintro e wA ⟨rfl,G⟩;have aj:=aj.trans G;have ab:=Α (G.heap ab.out);have ae:=Α (G.heap ae.out);have ag:=Α (G.heap ag.out);clear G ej))
 have c4:=aj.cell ay.out.1;have ga:=Ib v0 _ _ (ay.out.2.ext aj);have fh:=Α (E.trans aj);go_wp2;go_ret;exact⟨rfl,fh.out⟩
def Fv (S:Nat) (a:Option Addr) (n c A:Nat):Array Ρ:=#[.int .u8 S,Β a n c,.int .u8 A]
theorem We (S:Nat) (a:Option Addr) (n c A:Nat):(Η.info? 24).map (·.size)=Δ (Fv S a n c A).size:=by
 show _=Δ 3
 kernel_rfl
structure RawAt (W:Κ) (S:Nat) (a:Option Addr) (n c A:Nat):Prop where
 hs:S<256
 ha:A<256
 by_:∃ l:List UInt8,l.length=n/\ByW W (Β a n c) l
theorem RawAt.ext {W W':Κ} {S:Nat} {a:Option Addr} {n c A:Nat} (h:RawAt W S a n c A) (D:Ext W W'):RawAt W' S a n c A:=
 ⟨h.hs,h.ha,by obtain⟨l,E,G⟩:=h.by_;exact⟨l,E,G.ext D⟩⟩
theorem Mg {α:Type} [DecidableEq α] (l D:List α) (d:α) (h:l.length=D.length) (G:∀ q,q<l.length->l.getD q d=D.getD q d):l=D:=by
 apply List.ext_getElem h;intro i E H;have:=G i E;rw[Ζ,Ζ,Μ E,Μ H] at this;exact this
theorem Acr (l D:List Nat) (v v':Ρ) (w:Κ) (h:Ints w v l) (J:Ints w v' D) :
  Ϝ Η 66 #[v,v'] w λe w'=>e=ν (.bool (decide (l=D)))/\Ext w w':=by
 obtain⟨a,c,rfl⟩:=Sl.len h;obtain⟨a',c',rfl⟩:=Sl.len J;by_cases H:l.length=D.length
 ·have hb:=h.1;have HC:Ϻ (0<l.length->∃ b o b' G,a=Δ ⟨b,o,Γ⟩/\a'=Δ ⟨b',G,Γ⟩/\(∀ i,i<l.length->w.cell? ⟨b,o+i,Γ⟩=Δ (iv (l.getD i 0)))/\∀ i,i<l.length->w.cell? ⟨b',G+i,Γ⟩=Δ (iv (D.getD i 0))):=Α λh0=>by
   obtain⟨b,o,c1,M,k1⟩:=ä h h0;obtain⟨b',G,c2,T,E⟩:=ä J (by omega);injection M with M
   injection T with T
   exact⟨b,o,b',G,M,T,λi hi=>k1 i (by omega),λi hi=>E i (by omega)⟩
  have HL:=Α H;rw[<-H];obtain⟨n,hn⟩:∃ n,l.length=n:=⟨_,rfl⟩;rw[hn] at HC hb;rw[hn];have HN:=Α hn;clear h J H hn;go_enter Tryz.func66,Tryz.ntmps66;go_wp2_with (fail);go_loopw [5] (λU W=>∃ j:Nat,j<=n/\U=.int ζ j/\Ext w W/\Ϻ (∀ q,q<j->l.getD q 0=D.getD q 0))
   (λU _=>n-(intOf U).toNat)
  case atStart=>exact⟨0,by omega,rfl,Ι w,Α λq hq=>by omega⟩
  case round=>
   obtain⟨j,hj,rfl,I,HQ⟩:=hrel;by_cases ah:j<n
   ·obtain⟨b,o,b',G,rfl,rfl,k1,E⟩:=HC.out (by omega);have k1:=Be (I.cell (k1 j ah));have E:=Be (I.cell (E j ah));obtain⟨x,hx⟩:∃ x,l.getD j 0=x:=⟨_,rfl⟩;obtain⟨y,hy⟩:∃ y,D.getD j 0=y:=⟨_,rfl⟩;rw[hx] at k1;rw[hy] at E;have HX:=Α hx;have HY:=Α hy;clear hx hy;go_upto_region 6 with (fail)
    refine Dx (by kernel_rfl) (by kernel_rfl) ?_;iterate 9 (with_reducible refine í (λK hK=>?_);go_simp;first|(refine hK _ ?_;clear hK K))
    refine ö ?_;rintro _ ⟨e,rfl⟩;have al:=I.trans e.ext;clear k1 E;generalize e.W=w5 at *;by_cases an:x=y
    ·have ax:(x:Int)=(y:Int):=by omega
     go_wp2;go_roundw
     case rel=>exact⟨j+1,by omega,by go_num,al,Α λq hq=>by
      by_cases ay:q<j
      ·exact HQ.out q ay
      ·obtain rfl:q=j:=by omega
       rw[HX.out,HY.out,an]⟩
     case measure=>simp[intOf];omega
    ·have ax:¬ (x:Int)=(y:Int):=by omega
     have ae:Ϻ (decide (l=D)=Τ):=Α (decide_eq_false λe=>an (by rw[<-HX.out,<-HY.out,e]));go_wp2;go_ret;exact⟨by rw[ae.out];rfl,al⟩
   ·obtain rfl:j=n:=by omega
    have az:Ϻ (decide (l=D)=Ξ):=Α (decide_eq_true (Mg l D 0 HL.out λq hq=>HQ.out q (by rw[<-HN.out];exact hq)));go_wp2;go_ret;exact⟨by rw[az.out];rfl,I⟩
 ·have ae:Ϻ (decide (l=D)=Τ):=Α (decide_eq_false λe=>H (by rw[e]));have bb:¬ (l.length:Int)=(D.length:Int):=by omega
  go_enter Tryz.func66,Tryz.ntmps66;go_wp2_with (fail);go_ret;exact⟨by rw[ae.out];rfl,Ι w⟩
theorem Xp {d D:Dfa} (E:d.cls=D.cls) (G:d.n=D.n) (H:d.acc=D.acc):d=D:=by
 cases d;cases D;simp at E G H;simp[E,G,H]
theorem Akx (d D:Dfa):(d.cls=D.cls/\d.n=D.n/\d.acc=D.acc)↔d=D:=
 ⟨fun⟨E,G,H⟩=>Xp E G H,λh=>by subst h;exact⟨rfl,rfl,rfl⟩⟩
instance dfaDec:DecidableEq Dfa:=λd D=>decidable_of_iff _ (Akx d D)
theorem Akz {w W:Κ} {a I:Option Addr} {c M:Nat} {l D:List Cls} (h:Cs w (Β a l.length c) l) (T:Cs w (Β I D.length M) D) (J:Ext w W) (j:Nat) (U:j<l.length) (aa:j<D.length) :
  ∃ b o b' E,a=Δ ⟨b,o,Γ⟩/\I=Δ ⟨b',E,Γ⟩/\((∀ e:EW W,e.W.cell? ⟨b,o+j*4,Γ⟩=Δ (.int π (wd (l.getD j 0#256) 0)))/\(∀ e:EW W,e.W.cell? ⟨b,o+j*4+1,Γ⟩=Δ (.int π (wd (l.getD j 0#256) 1)))/\
  (∀ e:EW W,e.W.cell? ⟨b,o+j*4+2,Γ⟩=Δ (.int π (wd (l.getD j 0#256) 2)))/\(∀ e:EW W,e.W.cell? ⟨b,o+j*4+3,Γ⟩=Δ (.int π (wd (l.getD j 0#256) 3))))/\
  ((∀ e:EW W,e.W.cell? ⟨b',E+j*4,Γ⟩=Δ (.int π (wd (D.getD j 0#256) 0)))/\(∀ e:EW W,e.W.cell? ⟨b',E+j*4+1,Γ⟩=Δ (.int π (wd (D.getD j 0#256) 1)))/\
  (∀ e:EW W,e.W.cell? ⟨b',E+j*4+2,Γ⟩=Δ (.int π (wd (D.getD j 0#256) 2)))/\(∀ e:EW W,e.W.cell? ⟨b',E+j*4+3,Γ⟩=Δ (.int π (wd (D.getD j 0#256) 3)))):=by
 obtain⟨b,o,c1,G,hx⟩:=ä h (by omega);obtain⟨b',E,c2,H,hy⟩:=ä T (by omega);injection G with G _ _
 injection H with H _ _
 exact⟨b,o,b',E,G,H,Ja (λi hi=>J.cell (hx i hi)) j U,Ja (λi hi=>J.cell (hy i hi)) j aa⟩
theorem S4 {w W:Κ} {a I:Option Addr} {c T n E:Nat} {f J:Nat->Ρ} (h:Sl w (Β a n c) 1 n f) (U:Sl w (Β I E T) 1 E J) (M:Ext w W) (j:Nat) (hj:j<n) (ae:j<E) :
  ∃ b o b' D,a=Δ ⟨b,o,Γ⟩/\I=Δ ⟨b',D,Γ⟩/\(∀ e:EW W,e.W.cell? ⟨b,o+j,Γ⟩=Δ (f j))/\(∀ e:EW W,e.W.cell? ⟨b',D+j,Γ⟩=Δ (J j)):=by
 obtain⟨b,o,c1,G,hx⟩:=ä h (by omega);obtain⟨b',D,c2,H,hy⟩:=ä U (by omega);injection G with G _ _
 injection H with H _ _
 exact⟨b,o,b',D,G,H,Be (M.cell (hx j (by omega))),Be (M.cell (hy j (by omega)))⟩
theorem N4 (d D:Dfa) (v v':Ρ) (w:Κ) (h:IsD w v d) (h':IsD w v' D) :
  Ϝ Η 24 #[v,v'] w λe w'=>e=ν (.bool (decide (d=D)))/\Ext w w':=by
 obtain⟨vc,vn,va,rfl,hc,hr,ha⟩:=h;obtain⟨dh,dk,dm,rfl,b5,c8,b6⟩:=h';obtain⟨vs,c9,b0,ck⟩:=hr;obtain⟨da,db,b7,cl⟩:=c8;obtain⟨ac,cc,rfl⟩:=Sl.len hc;obtain⟨be,bf,rfl⟩:=Sl.len b5;obtain⟨an,cn,rfl⟩:=Sl.len b0;obtain⟨bj,bk,rfl⟩:=Sl.len b7;obtain⟨aa,ca,rfl⟩:=Sl.len ha;obtain⟨bn,bo,rfl⟩:=Sl.len b6;have aq:=((Ι w).alloc (Ε (dA (Β ac d.cls.length cc) (Β an d.n.length cn) (Β aa d.acc.length ca)) 30)).alloc (Ε (dA (Β be D.cls.length bf) (Β bj D.n.length bk) (Β bn D.acc.length bo)) 30);have H2:=Ag (Ab w (Ε (dA (Β ac d.cls.length cc) (Β an d.n.length cn) (Β aa d.acc.length ca)) 30)) (Ε (dA (Β be D.cls.length bf) (Β bj D.n.length bk) (Β bn D.acc.length bo)) 30);have H3:=Ϙ w (Ε (dA (Β ac d.cls.length cc) (Β an d.n.length cn) (Β aa d.acc.length ca)) 30) (Ε (dA (Β be D.cls.length bf) (Β bj D.n.length bk) (Β bn D.acc.length bo)) 30);obtain⟨w1,b4⟩:∃ W,(w.alloc (Ε (dA (Β ac d.cls.length cc) (Β an d.n.length cn) (Β aa d.acc.length ca)) 30)).alloc (Ε (dA (Β be D.cls.length bf) (Β bj D.n.length bk) (Β bn D.acc.length bo)) 30)=W:=⟨_,rfl⟩;have HK:Ϻ (∀ W,Ext w1 W->(W.cell? ⟨w.heap.size,0,Γ⟩=Δ (Β ac d.cls.length cc)/\W.cell? ⟨w.heap.size,1,Γ⟩=Δ (Β an d.n.length cn)/\W.cell? ⟨w.heap.size,2,Γ⟩=Δ (Β aa d.acc.length ca))/\
   (W.cell? ⟨w.heap.size+1,0,Γ⟩=Δ (Β be D.cls.length bf)/\W.cell? ⟨w.heap.size+1,1,Γ⟩=Δ (Β bj D.n.length bk)/\W.cell? ⟨w.heap.size+1,2,Γ⟩=Δ (Β bn D.acc.length bo))):=Α λW H=>by
  rw[b4] at H2 H3;exact⟨⟨(Ω W _ 0 _ _ _ (H.heap H2)).trans rfl,(Ω W _ 1 _ _ _ (H.heap H2)).trans rfl,(Ω W _ 2 _ _ _ (H.heap H2)).trans rfl⟩,
   (Ω W _ 0 _ _ _ (H.heap H3)).trans rfl,(Ω W _ 1 _ _ _ (H.heap H3)).trans rfl,(Ω W _ 2 _ _ _ (H.heap H3)).trans rfl⟩
 rw[b4] at aq;have ar:=Α aq;have HC:=Α (λW (H:Ext w1 W) j (T:j<d.cls.length) (h2:j<D.cls.length)=>Akz hc b5 (aq.trans H) j T h2);have HR:=Α (λW (H:Ext w1 W) j (T:j<d.n.length) (h2:j<D.n.length)=>S4 b0 b7 (aq.trans H) j T h2);have cq:=Α (λW (H:Ext w1 W) j (T:j<d.n.length) (h2:j<D.n.length)=>Acr _ _ _ _ W ((ck j T).ext (aq.trans H)) ((cl j h2).ext (aq.trans H)));have HA:=Α (λW (H:Ext w1 W) j (T:j<d.acc.length) (h2:j<D.acc.length)=>S4 ha b6 (aq.trans H) j T h2);obtain⟨n1,aw⟩:∃ n,d.cls.length=n:=⟨_,rfl⟩;obtain⟨n2,ay⟩:∃ n,d.n.length=n:=⟨_,rfl⟩;obtain⟨n3,a1⟩:∃ n,d.acc.length=n:=⟨_,rfl⟩;obtain⟨m1,ba⟩:∃ n,D.cls.length=n:=⟨_,rfl⟩;obtain⟨m2,bb⟩:∃ n,D.n.length=n:=⟨_,rfl⟩;obtain⟨m3,bc⟩:∃ n,D.acc.length=n:=⟨_,rfl⟩;have b1:=hc.1;have b2:=b0.1;have b3:=ha.1;rw[aw,ay,a1,ba,bb,bc] at HK;rw[aw] at b1;rw[ay] at b2;rw[a1] at b3;rw[aw,ba] at HC;rw[ay,bb] at HR cq;rw[a1,bc] at HA;have HN:=Α (ã aw (ã ay a1));have HM:=Α (ã ba (ã bb bc));have hz:∀ W,W=w1->Ext w1 W:=λW h=>h▸Ι w1
 have cd:=b4;rw[aw,ay,a1,ba,bb,bc] at cd;have HW:=Α cd;have cg:Ϻ (¬ (n1=m1/\n2=m2/\n3=m3)->¬ d=D):=Α λhx e=>hx (by subst e;exact⟨HN.out.1.symm.trans HM.out.1,HN.out.2.1.symm.trans HM.out.2.1,HN.out.2.2.symm.trans HM.out.2.2⟩)
 rw[aw,ay,a1,ba,bb,bc];clear aw ay a1 ba bb bc hc b5 b0 b7 ck cl ha b6 H2 H3 aq b4 cd c9 db;go_enter Tryz.func24,Tryz.ntmps24;go_upto_region 1 with (fail)
 simp only[dA] at HW;rw[HW.out];clear HW;obtain⟨⟨I,k1,J⟩,k3,k4,M⟩:=HK.out w1 (Ι w1);by_cases e1:n1=m1
 ·by_cases e2:n2=m2
  ·by_cases e3:n3=m3
   ·subst e1 e2 e3;go_wp2_with (fail);clear I k1 J k3 k4 M;go_loopw [5] (λvi W=>∃ j:Nat,j<=n1/\vi=.int ζ j/\Ext w1 W/\Ϻ (∀ q,q<j->d.cls.getD q 0#256=D.cls.getD q 0#256))
     (λvi _=>n1-(intOf vi).toNat)
    case atStart=>exact⟨0,by omega,rfl,Ι w1,Α λq hq=>by omega⟩
    case round=>
     obtain⟨j,hj,rfl,E,HQ⟩:=hrel;obtain⟨⟨I,k1,J⟩,k3,k4,M⟩:=HK.out wr E;by_cases ah:j<n1
     ·obtain⟨b,o,b',o',rfl,rfl,⟨x0,x1,x2,x3⟩,y0,y1,y2,y3⟩:=HC.out wr E j ah ah;obtain⟨x,af⟩:∃ x,d.cls.getD j 0#256=x:=⟨_,rfl⟩;obtain⟨y,ag⟩:∃ y,D.cls.getD j 0#256=y:=⟨_,rfl⟩;rw[af] at x0 x1 x2 x3;rw[ag] at y0 y1 y2 y3;have HX:=Α af;have HY:=Α ag;have hg:=Agg x y;obtain⟨bx,a6⟩:∃ b,(x != y)=b:=⟨_,rfl⟩;rw[a6] at hg;have bt:=Α a6;clear a6;clear af ag;have I:=Be I;have k3:=Be k3;go_upto_region 6 with (fail)
      refine Dx (by kernel_rfl) (by kernel_rfl) ?_;iterate 11 (with_reducible refine í (λK G=>?_);go_simp;first|(refine G _ ?_;clear G K))
      refine ö ?_;rintro _ ⟨e,rfl⟩;have U:=E.trans e.ext;clear I k1 J k3 k4 M x0 x1 x2 x3 y0 y1 y2 y3;generalize e.W=w5 at *;cases bx with
      | false=>
       have a7:x=y:=by have:=bt.out;simpa using this
       go_wp2;go_roundw
       case rel=>exact⟨j+1,by omega,by go_num,U,Α λq hq=>by
        by_cases a8:q<j
        ·exact HQ.out q a8
        ·obtain rfl:q=j:=by omega
         rw[HX.out,HY.out,a7]⟩
       case measure=>simp[intOf];omega
      | true=>
       have a7:¬ x=y:=by have:=bt.out;simpa using this
       have ao:Ϻ (¬ d=D):=Α λe=>a7 (by rw[<-HX.out,<-HY.out,e])
       go_wp2;go_ret;exact⟨by rw[decide_eq_false ao.out];rfl,ar.out.trans U⟩
     ·obtain rfl:j=n1:=by omega
      have de:=HQ;have bw:=E;clear k1 J k4 M E;go_wp2_with (fail);clear I k3;go_loopw [6] (λvi W=>∃ j:Nat,j<=n2/\vi=.int ζ j/\Ext w1 W/\Ϻ (∀ q,q<j->d.n.getD q []=D.n.getD q []))
       (λvi _=>n2-(intOf vi).toNat)
      case atStart=>exact⟨0,by omega,rfl,bw,Α λq hq=>by omega⟩
      case round=>
       clear bw;obtain⟨j,hj,rfl,E,HQ⟩:=hrel;obtain⟨⟨I,k1,J⟩,k3,k4,M⟩:=HK.out wr E;by_cases ah:j<n2
       ·obtain⟨b,o,b',o',rfl,rfl,r1,r2⟩:=HR.out wr E j ah ah;obtain⟨u,hu⟩:∃ u,vs.getD j undef=u:=⟨_,rfl⟩;obtain⟨u',c5⟩:∃ u,da.getD j undef=u:=⟨_,rfl⟩;have f66:=λ(e:EW wr)=>Α (cq.out e.W (E.trans e.ext) j ah ah)
        rw[hu] at r1 f66;rw[c5] at r2 f66;obtain⟨x,af⟩:∃ x,d.n.getD j []=x:=⟨_,rfl⟩;obtain⟨y,ag⟩:∃ y,D.n.getD j []=y:=⟨_,rfl⟩;rw[af,ag] at f66;have HX:=Α af;have HY:=Α ag;obtain⟨bx,a6⟩:∃ b,decide (x=y)=b:=⟨_,rfl⟩;rw[a6] at f66;have bt:=Α a6;clear a6 af ag hu c5;have k1:=Be k1;have k4:=Be k4;go_upto_region 11 with (fail)
        refine Dx (by kernel_rfl) (by kernel_rfl) ?_;iterate 12 (with_reducible refine í (λK G=>?_);go_simp;first|(refine G _ ?_;clear G K)|(apply Exists.intro;refine⟨λ_=>?_,G _ ?_⟩;(with_reducible exact F4 (f66 _).out);clear G K))
        refine ö ?_;rintro _ ⟨e,rfl⟩;have U:=E.trans e.ext;clear I k1 J k3 k4 M r1 r2 f66;generalize e.W=w5 at *;cases bx with
        | true=>
         have a7:x=y:=of_decide_eq_true bt.out;go_wp2;go_roundw
         case rel=>exact⟨j+1,by omega,by go_num,U,Α λq hq=>by
          by_cases a8:q<j
          ·exact HQ.out q a8
          ·obtain rfl:q=j:=by omega
           rw[HX.out,HY.out,a7]⟩
         case measure=>simp[intOf];omega
        | false=>
         have a7:¬ x=y:=of_decide_eq_false bt.out;have ao:Ϻ (¬ d=D):=Α λe=>a7 (by rw[<-HX.out,<-HY.out,e])
         go_wp2;go_ret;exact⟨by rw[decide_eq_false ao.out];rfl,ar.out.trans U⟩
       ·obtain rfl:j=n2:=by omega
        have df:=HQ;have bw:=E;clear I J k3 M E;go_wp2_with (fail);clear k1 k4;go_loopw [7] (λvi W=>∃ j:Nat,j<=n3/\vi=.int ζ j/\Ext w1 W/\Ϻ (∀ q,q<j->d.acc.getD q Τ=D.acc.getD q Τ))
         (λvi _=>n3-(intOf vi).toNat)
        case atStart=>exact⟨0,by omega,rfl,bw,Α λq hq=>by omega⟩
        case round=>
         clear bw;obtain⟨j,hj,rfl,E,HQ⟩:=hrel;obtain⟨⟨I,k1,J⟩,k3,k4,M⟩:=HK.out wr E;by_cases ah:j<n3
         ·obtain⟨b,o,b',o',rfl,rfl,r1,r2⟩:=HA.out wr E j ah ah;obtain⟨x,af⟩:∃ x,d.acc.getD j Τ=x:=⟨_,rfl⟩;obtain⟨y,ag⟩:∃ y,D.acc.getD j Τ=y:=⟨_,rfl⟩;rw[af] at r1;rw[ag] at r2;have HX:=Α af;have HY:=Α ag;clear af ag;have J:=Be J;have M:=Be M;rcases (show (x=Ξ/\y=Ξ)\/(x=Τ/\y=Τ)\/(x=Ξ/\y=Τ)\/(x=Τ/\y=Ξ) by cases x<;>cases y<;>simp) with h|h|h|h
          ·obtain⟨rfl,rfl⟩:=h;go_upto_region 16 with (fail)
           refine Dx (by kernel_rfl) (by kernel_rfl) ?_;iterate 11 (with_reducible refine í (λK G=>?_);go_simp;first|(refine G _ ?_;clear G K))
           refine ö ?_;rintro _ ⟨e,rfl⟩;have U:=E.trans e.ext;clear I k1 J k3 k4 M r1 r2;generalize e.W=w5 at *;go_wp2;go_roundw
           case rel=>exact⟨j+1,by omega,by go_num,U,Α λq hq=>by
            by_cases a8:q<j
            ·exact HQ.out q a8
            ·obtain rfl:q=j:=by omega
             rw[HX.out,HY.out]⟩
           case measure=>simp[intOf];omega
          ·obtain⟨rfl,rfl⟩:=h;go_upto_region 16 with (fail)
           refine Dx (by kernel_rfl) (by kernel_rfl) ?_;iterate 11 (with_reducible refine í (λK G=>?_);go_simp;first|(refine G _ ?_;clear G K))
           refine ö ?_;rintro _ ⟨e,rfl⟩;have U:=E.trans e.ext;clear I k1 J k3 k4 M r1 r2;generalize e.W=w5 at *;go_wp2;go_roundw
           case rel=>exact⟨j+1,by omega,by go_num,U,Α λq hq=>by
            by_cases a8:q<j
            ·exact HQ.out q a8
            ·obtain rfl:q=j:=by omega
             rw[HX.out,HY.out]⟩
           case measure=>simp[intOf];omega
          ·obtain⟨rfl,rfl⟩:=h;go_upto_region 16 with (fail)
           refine Dx (by kernel_rfl) (by kernel_rfl) ?_;iterate 11 (with_reducible refine í (λK G=>?_);go_simp;first|(refine G _ ?_;clear G K))
           refine ö ?_;rintro _ ⟨e,rfl⟩;have U:=E.trans e.ext;clear I k1 J k3 k4 M r1 r2;generalize e.W=w5 at *;have ao:Ϻ (¬ d=D):=Α λe=>by
            have T:=HX.out;have h2:=HY.out;rw[e,h2] at T;cases T
           go_wp2;go_ret;exact⟨by rw[decide_eq_false ao.out];rfl,ar.out.trans U⟩
          ·obtain⟨rfl,rfl⟩:=h;go_upto_region 16 with (fail)
           refine Dx (by kernel_rfl) (by kernel_rfl) ?_;iterate 11 (with_reducible refine í (λK G=>?_);go_simp;first|(refine G _ ?_;clear G K))
           refine ö ?_;rintro _ ⟨e,rfl⟩;have U:=E.trans e.ext;clear I k1 J k3 k4 M r1 r2;generalize e.W=w5 at *;have ao:Ϻ (¬ d=D):=Α λe=>by
            have T:=HX.out;have h2:=HY.out;rw[e,h2] at T;cases T
           go_wp2;go_ret;exact⟨by rw[decide_eq_false ao.out];rfl,ar.out.trans U⟩
         ·obtain rfl:j=n3:=by omega
          have ao:Ϻ (d=D):=Α (Xp (Mg _ _ 0#256 (HN.out.1.trans HM.out.1.symm) λq hq=>de.out q (by rw[<-HN.out.1];exact hq))
           (Mg _ _ [] (HN.out.2.1.trans HM.out.2.1.symm) λq hq=>df.out q (by rw[<-HN.out.2.1];exact hq)) (Mg _ _ Τ (HN.out.2.2.trans HM.out.2.2.symm) λq hq=>HQ.out q (by rw[<-HN.out.2.2];exact hq)))
          clear I k1 k3 k4;go_wp2;go_ret;exact⟨by rw[decide_eq_true ao.out];rfl,ar.out.trans E⟩
   ·have dq:¬ (n3:Int)=(m3:Int):=by omega
    subst e1 e2;go_wp2;go_ret;exact⟨by rw[decide_eq_false (cg.out (by omega))];rfl,ar.out⟩
  ·have dr:¬ (n2:Int)=(m2:Int):=by omega
   subst e1;go_wp2;go_ret;exact⟨by rw[decide_eq_false (cg.out (by omega))];rfl,ar.out⟩
 ·have dt:¬ (n1:Int)=(m1:Int):=by omega
  go_wp2;go_ret;exact⟨by rw[decide_eq_false (cg.out (by omega))];rfl,ar.out⟩
def ldA {w:Κ} {g:Nat} {V:Array Ρ} (h:w.heap[g]? = Δ (Ε V 30 (0,0))) (hi:(Η.info? 30).map (·.size)=Δ V.size):Sc Η w:=
 .load 30 g V 30 (0,0) _ (λ_ D=>D.heap h) Ν rfl hi
def Jg {P:Program} {w:Κ} (f:FuncId) (he:Enters P f) (args:List Ρ) (v:Ρ) (h:∀ W,Ext w W->Ϝ P f args.toArray W λe w'=>e=ν v/\Ext W w'):Sc P w:=
 .call f he (args.map AV.c) (.c v) (AV.mono_c v) λW vs D E=>by
  rw[Kf E];exact (h W D).mono λe w' ⟨G,H⟩=>⟨v,G,rfl,H⟩
theorem Qf:Enters Η 24:=enters_of Tryz.func24 (by kernel_rfl) rfl
theorem C6 {W:Κ} {ρ:ϻ->Ρ} {x y:ϻ} {u v:Ρ} (h:Ey W [.c u,.c v] [ρ x,ρ y]):ρ x=u/\ρ y=v:=by
 have:=Kf (us:=[u,v]) h;injection this with E D
 injection D with D _
 exact⟨E,D⟩
theorem Oz {W:Κ} {ρ:ϻ->Ρ} {x:ϻ} {u:Ρ} (h:Ey W [.c u] [ρ x]):ρ x=u:=by
 have:=Kf (us:=[u]) h;injection this
theorem Aiv (ρ:ϻ->Ρ) (o:ϸ) (W:Κ) (x y:ϻ) (b n c k:Nat) (H:k<n) (D:o.op=.indexAddr 38 x y) (E:ρ x=Β (Δ ⟨b,0,Γ⟩) n c) (G:ρ y=.int ζ k):(Ú ρ o).run Η W=.ok (.value (γ (Δ ⟨b,k,Γ⟩))) W:=by
 have I:(k:Int)<(n:Int):=by omega
 unfold Ú;simp only[D,E,G];go_simp
def ix38 {w:Κ} (x y:ϻ) (b n c k:Nat) (E:k<n):Sc Η w:=
 .gen (.indexAddr 38 x y) [.c (Β (Δ ⟨b,0,Γ⟩) n c),.c (.int ζ k)] (.c (γ (Δ ⟨b,k,Γ⟩))) (AV.mono_c _) λρ o W G _ D=>⟨_,Aiv ρ o W x y b n c k E G (C6 D).1 (C6 D).2,rfl⟩
theorem Aiu (ρ:ϻ->Ρ) (o:ϸ) (W:Κ) (x y:ϻ) (b n c k:Nat) (H:k<n) (D:o.op=.indexAddr 68 x y) (E:ρ x=Β (Δ ⟨b,0,Γ⟩) n c) (G:ρ y=.int ζ k):(Ú ρ o).run Η W=.ok (.value (γ (Δ ⟨b,k,Γ⟩))) W:=by
 have I:(k:Int)<(n:Int):=by omega
 unfold Ú;simp only[D,E,G];go_simp
def Gl {w:Κ} (x y:ϻ) (b n c k:Nat) (E:k<n):Sc Η w:=
 .gen (.indexAddr 68 x y) [.c (Β (Δ ⟨b,0,Γ⟩) n c),.c (.int ζ k)] (.c (γ (Δ ⟨b,k,Γ⟩))) (AV.mono_c _) λρ o W G _ D=>⟨_,Aiu ρ o W x y b n c k E G (C6 D).1 (C6 D).2,rfl⟩
theorem Aid (ρ:ϻ->Ρ) (o:ϸ) (W:Κ) (x:ϻ) (b k:Nat) (v:Ρ) (G:W.cell? ⟨b,k,Γ⟩=Δ v) (D:o.op=.load 3 x) (E:ρ x=γ (Δ ⟨b,k,Γ⟩)):(Ú ρ o).run Η W=.ok (.value v) W:=by
 unfold Ú;simp only[D,E];go_simp
def ld3 {w:Κ} (x:ϻ) (b k:Nat) (v:Ρ) (D:∀ W,Ext w W->W.cell? ⟨b,k,Γ⟩=Δ v):Sc Η w:=
 .gen (.load 3 x) [.c (γ (Δ ⟨b,k,Γ⟩))] (.c v) (AV.mono_c _) λρ o W E G H=>⟨_,Aid ρ o W x b k v (D W G) E (Oz H),rfl⟩
theorem Ajf (ρ:ϻ->Ρ) (o:ϸ) (W:Κ) (x y:ϻ) (a b:Int) (D:o.op=.binOp .gtr 3 x y 3) (E:ρ x=.int ζ a) (G:ρ y=.int ζ b):(Ú ρ o).run Η W=.ok (.value (.bool (decide (b<a)))) W:=by
 unfold Ú;simp only[D,E,G];go_simp
def gtrC {w:Κ} (x y:ϻ) (a b:Int) (r:Bool) (E:decide (b<a)=r):Sc Η w:=
 .gen (.binOp .gtr 3 x y 3) [.c (.int ζ a),.c (.int ζ b)] (.c (.bool r)) (AV.mono_c _) λρ o W G _ D=>⟨_,Ajf ρ o W x y a b G (C6 D).1 (C6 D).2,by rw[E];rfl⟩
theorem Akp (ρ:ϻ->Ρ) (o:ϸ) (W:Κ) (x y:ϻ) (a b:Int) (D:o.op=.binOp .eql 3 x y 3) (E:ρ x=.int ζ a) (G:ρ y=.int ζ b):(Ú ρ o).run Η W=.ok (.value (.bool (decide (a=b)))) W:=by
 unfold Ú;simp only[D,E,G];go_simp;rfl
def Qe {w:Κ} (x y:ϻ) (a b:Int) (r:Bool) (E:decide (a=b)=r):Sc Η w:=
 .gen (.binOp .eql 3 x y 3) [.c (.int ζ a),.c (.int ζ b)] (.c (.bool r)) (AV.mono_c _) λρ o W G _ D=>⟨_,Akp ρ o W x y a b G (C6 D).1 (C6 D).2,by rw[E];rfl⟩
theorem Agf (ρ:ϻ->Ρ) (o:ϸ) (W:Κ) (x y:ϻ) (a b:Int) (D:o.op=.binOp .neq 3 x y 3) (E:ρ x=.int ζ a) (G:ρ y=.int ζ b):(Ú ρ o).run Η W=.ok (.value (.bool (!decide (a=b)))) W:=by
 unfold Ú;simp only[D,E,G];go_simp;rfl
def Io {w:Κ} (x y:ϻ) (a b:Int) (r:Bool) (E:(!decide (a=b))=r):Sc Η w:=
 .gen (.binOp .neq 3 x y 3) [.c (.int ζ a),.c (.int ζ b)] (.c (.bool r)) (AV.mono_c _) λρ o W G _ D=>⟨_,Agf ρ o W x y a b G (C6 D).1 (C6 D).2,by rw[E];rfl⟩
def trL (c:Nat->Nat) (vn va:Ρ):List Ρ:=(ι 256).map (λb=>iv (c b))++[vn,va]
def trA (c:Nat->Nat) (vn va:Ρ):Array Ρ:=(trL c vn va).toArray
theorem Dw (c:Nat->Nat) (vn va:Ρ):(trA c vn va).size=258:=by simp[trA,trL]
theorem Hw (c:Nat->Nat) (vn va:Ρ) (b:Nat) (D:b<256):(trA c vn va)[b]? = Δ (iv (c b)):=by
 simp[trA,trL,Ϣ,D]
theorem F9 (c:Nat->Nat) (vn va:Ρ):(trA c vn va)[256]? = Δ vn:=by
 simp[trA,trL,ϑ]
theorem Jr (c:Nat->Nat) (vn va:Ρ):(trA c vn va)[257]? = Δ va:=by
 simp[trA,trL,ϑ]
theorem Jq {c c':Nat->Nat} (h:∀ b,b<256->c b=c' b) (vn va:Ρ):trA c vn va=trA c' vn va:=by
 unfold trA trL
 congr 2
 exact List.map_congr_left λb D=>by rw[h b (υ.1 D)]
theorem R8 (c:Nat->Nat) (vn va:Ρ) (b x:Nat) (D:b<256):(trA c vn va).setIfInBounds b (iv x)=trA (λy=>if y=b then x else c y) vn va:=by
 apply Array.ext';rw[Array.toList_setIfInBounds];unfold trA;simp only;apply List.ext_getElem?;intro i;unfold trL;rw[List.getElem?_set];by_cases hi:i<256
 ·by_cases e:b=i
  ·subst e;simp[Ϣ,D];omega
  ·simp[Ϣ,hi,e,Ne.symm e]
 ·have:b≠i:=by omega
  rw[if_neg this,ϑ (by simp;omega),ϑ (by simp;omega)];simp
theorem Gy (c:Nat->Nat) (vn va:Ρ) (hn:vn.oneCell'=Ξ) (ha:va.oneCell'=Ξ):(trA c vn va).all (·.oneCell')=Ξ:=by
 rw[Array.all_eq_true_iff_forall_mem];intro x D;simp only[trA,trL,List.mem_toArray,List.mem_append,List.mem_map,List.mem_cons,List.not_mem_nil,or_false] at D;rcases D with⟨b,_,rfl⟩|rfl|rfl
 ·rfl
 ·exact hn
 ·exact ha
theorem R6 (vn va:Ρ):trA (λ_=>0) vn va=(δ 256 (Ρ.int ζ 0)++[vn,va]).toArray:=by
 unfold trA trL
 congr 2
theorem Cp:(Η.info? 79).map (·.size)=Δ 258:=by kernel_rfl
theorem Fe:ϖ.size=258:=by kernel_rfl
theorem Amd (a D:Option Addr) (l c E G:Nat):Η.built 79 [(1,Β a l c),(2,Β D E G)]=Δ (δ 256 (Ρ.int ζ 0)++[ϟ a l c,ϟ D E G]).toArray:=by kernel_rfl
def IsR (W:Κ) (A:Array Ρ) (t:Tbl):Prop:=∃ vn va,A=trA t.cell vn va/\Rows W vn t.n/\Bools W va t.acc
theorem IsR.ext {W W':Κ} {A:Array Ρ} {t:Tbl} (h:IsR W A t) (D:Ext W W'):IsR W' A t:=by
 obtain⟨vn,va,hv,E,G⟩:=h;exact⟨vn,va,hv,E.ext D,G.ext D⟩
theorem J5 (d:Dfa) (hv:Val d) (hm:d.cls.length<=256) (v:Ρ) (w:Κ) (h:IsD w v d) :
  Ϝ Η 51 #[v] w λe w'=>∃ A,e=ν (.agg A)/\IsR w' A (Ae d)/\Ext w w':=by
 obtain⟨bc,oc,cc,G,H,I,J,M,T,rfl,hC,-,-⟩:=h.opened hv;have HD:=Α h;have cu:=Ad;have HC:=Α (λW (hW:Ext w W) b (hb:b<256)=>Ai3 d.cls hv.parts hm b hb (Β (Δ ⟨bc,oc,Γ⟩) d.cls.length cc) W (hC.ext hW));clear hC h;obtain⟨nc,af⟩:∃ n,d.cls.length=n:=⟨_,rfl⟩;have cv:=Α af;obtain⟨D,a1⟩:∃ n,d.n.length=n:=⟨_,rfl⟩;rw[af,a1] at HD;rw[af] at HC;rw[af,a1];clear af a1;have hB:Ϻ (Η.built 79 [(1,Β (Δ ⟨G,H,Γ⟩) D I),(2,Β (Δ ⟨J,M,Γ⟩) D T)]=Δ (trA (λ_=>0) (Β (Δ ⟨G,H,Γ⟩) D I) (Β (Δ ⟨J,M,Γ⟩) D T))):=Α (by rw[Amd,R6]);go_enter Tryz.func51,Tryz.ntmps51;go_upto_region 1 with (fail)
 obtain⟨V,hV⟩:∃ X,dA (Β (Δ ⟨bc,oc,Γ⟩) nc cc) (Β (Δ ⟨G,H,Γ⟩) D I) (Β (Δ ⟨J,M,Γ⟩) D T)=X:=⟨_,rfl⟩;have a7:=((Ι w).alloc (Ε V 30)).alloc (Ε ϖ 79);have H0:=Ag (Ab w (Ε V 30)) (Ε ϖ 79);have H1:=Ϙ w (Ε V 30) (Ε ϖ 79);have bo:V[0]? = Δ (Β (Δ ⟨bc,oc,Γ⟩) nc cc):=by rw[<-hV];rfl
 have bp:V[1]? = Δ (Β (Δ ⟨G,H,Γ⟩) D I):=by rw[<-hV];rfl
 have bq:V[2]? = Δ (Β (Δ ⟨J,M,Γ⟩) D T):=by rw[<-hV];rfl
 have b4:=Α hV;rw[hV] at HD;rw[hV];clear hV;obtain⟨E,bb⟩:∃ W,(w.alloc (Ε V 30)).alloc (Ε ϖ 79)=W:=⟨_,rfl⟩;rw[bb] at a7 H0 H1;simp only[bb];clear bb;have b5:=Α (λW (hW:Ext E W)=>(Ω W w.heap.size 0 _ _ _ (hW.heap H0)).trans bo);have c1:=(Ω E w.heap.size 1 _ _ _ H0).trans bp;have c2:=(Ω E w.heap.size 2 _ _ _ H0).trans bq;have b8:=Α H1;clear H0 H1 bo bp bq;obtain⟨U,ah⟩:∃ A,trA (λ_=>0) (Β (Δ ⟨G,H,Γ⟩) D I) (Β (Δ ⟨J,M,Γ⟩) D T)=A:=⟨_,rfl⟩;have bd:U.size=258:=by rw[<-ah,Dw]
 have br:U.all (·.oneCell')=Ξ:=by rw[<-ah];exact Gy _ _ _ rfl rfl
 rw[ah] at hB;have bt:=Α ah;have HS:=Α (show ϖ.size=U.size by rw[Fe,bd]);clear ah;go_upto_region 2 with (first
  | (refine B3 rfl 79 _ rfl U ?_ ?_;(simp[Act.eval];with_reducible exact hB.out))
  | (refine Φ rfl 79 (η 3) (η 9) rfl E.heap.size U rfl rfl _ _ (Ab E (Ε ϖ 79)) (by rw[bd];exact Cp) HS.out br ?_))
 clear c1 c2;have be:Ext E ((E.alloc (Ε ϖ 79)).setRow E.heap.size U):=((Ι E).alloc _).setRow (θ _) _;have H3:=μ (E.alloc (Ε ϖ 79)) _ _ U 79 (0,0) (Ab E (Ε ϖ 79));have b9:E.heap.size<=E.heap.size:=θ _;obtain⟨w3,bf⟩:∃ W,(E.alloc (Ε ϖ 79)).setRow E.heap.size U=W:=⟨_,rfl⟩;rw[bf] at be H3;simp only[bf];clear bf;rw[<-bt.out,Jq (c:=λ_=>0) (c':=λb=>if b<0 then Ak d.cls b else 0) (λb _=>by simp)] at H3;have H3:=Α H3;have bw:=Α a7;clear bd br HS bt hB a7;have cb:∃ B,E.heap.size=B:=⟨_,rfl⟩;obtain⟨B,ao⟩:=cb;have cd:=Α ao;rw[ao] at H3;simp only[ao];clear ao b9;go_wp2_with (fail);go_loopw [4] (λvi W=>∃ k:Nat,k<=256/\vi=.int ζ k/\Ext E W/\Ϻ (W.heap[B]? = Δ (Ε (trA (λb=>if b<k then Ak d.cls b else 0) (Β (Δ ⟨G,H,Γ⟩) D I) (Β (Δ ⟨J,M,Γ⟩) D T)) 79 (0,0))))
  (λvi _=>256-(intOf vi).toNat)
 case atStart=>exact⟨0,by omega,rfl,be,H3⟩
 case round=>
  clear be H3;obtain⟨k,hk,rfl,hE,HB⟩:=hrel;by_cases bh:k<256
  ·have c0:=b5.out wr hE;have f97:=Α (HC.out wr (bw.out.trans hE) k bh);obtain⟨q,hq⟩:∃ q,Ak d.cls k=q:=⟨_,rfl⟩;have HQ:=Α hq;rw[hq] at f97;clear hq;have cy:(k:Int)<256:=by omega
   go_upto_region 4 with (first
    | (go_at_call 97;(with_reducible refine f97.out.mono ?_);rintro e wy ⟨rfl,bj⟩;have ai:=Α (bj.heap HB.out);have ky:=(Ω wy B k _ _ _ ai.out).trans (Hw _ _ _ k bh);have fy:=frozen_of_row wy B k _ _ ai.out))
   clear ky fy c0 f97;have bx:=hE.trans bj;rw[setCell_eq_setRow wy _ _ _ _ _ _ ai.out,R8 _ _ _ _ _ bh];have hq:=Jq (c:=λy=>if y=k then q else if y<k then Ak d.cls y else 0) (c':=λb=>if b<k+1 then Ak d.cls b else 0) (λb hb=>by
    by_cases e:b=k
    ·subst e;rw[if_pos rfl,if_pos (by omega),HQ.out]
    ·rw[if_neg e];by_cases h:b<k
     ·rw[if_pos h,if_pos (by omega)]
     ·rw[if_neg h,if_neg (by omega)]) (Β (Δ ⟨G,H,Γ⟩) D I) (Β (Δ ⟨J,M,Γ⟩) D T)
   rw[hq];have cj:=Α (μ wy B _ (trA (λb=>if b<k+1 then Ak d.cls b else 0) (Β (Δ ⟨G,H,Γ⟩) D I) (Β (Δ ⟨J,M,Γ⟩) D T)) _ _ ai.out);have ck:=bx.setRow (g:=B) (by rw[cd.out];exact θ _) (trA (λb=>if b<k+1 then Ak d.cls b else 0) (Β (Δ ⟨G,H,Γ⟩) D I) (Β (Δ ⟨J,M,Γ⟩) D T));clear hq hE bx HB ai bj;go_wp2;go_roundw
   case rel=>exact⟨k+1,by omega,by go_num,ck,cj⟩
   case measure=>simp[intOf];omega
  ·obtain rfl:k=256:=by omega
   have aj:=HB.out;rw[Jq (c':=Ak d.cls) (λb hb=>by rw[if_pos hb])] at aj;obtain⟨A,hA⟩:∃ A,trA (Ak d.cls) (Β (Δ ⟨G,H,Γ⟩) D I) (Β (Δ ⟨J,M,Γ⟩) D T)=A:=⟨_,rfl⟩;have au:A.size=258:=by rw[<-hA,Dw]
   have cl:A.all (·.oneCell')=Ξ:=by rw[<-hA];exact Gy _ _ _ rfl rfl
   rw[hA] at aj;have aj:=Α aj;have cm:=Α hA;have HS:=Α (show ϖ.size=A.size by rw[Fe,au]);have HR:=Α (hE.heap b8.out);have b0:=(bw.out.trans hE).setRow (g:=w.heap.size+1) (by omega) A;clear hA HB;go_wp2_with (first
    | (refine Υ rfl 79 (η 3) rfl _ rfl _ _ _ _ aj.out Â rfl (by rw[au];exact Cp) ?_)
    | (refine Φ rfl 79 (η 2) (η 21) rfl _ A rfl rfl _ _ HR.out (by rw[au];exact Cp) HS.out cl ?_))
   refine bodyPost_ret (v:=.agg A) (results_cell_row rfl _ _ _ _ _ _ _ rfl (μ wr _ _ A 79 (0,0) HR.out) Â rfl (by rw[au];exact Cp)) rfl ?_;refine⟨A,rfl,?_,b0⟩;obtain⟨cz,c3,c4,he,_,cp,cq⟩:=HD.out.ext b0;rw[<-b4.out] at he;injection he with he
   unfold dA at he;injection he with he
   injection he with e0 he
   injection he with e1 he
   injection he with e2 he
   subst e1;subst e2
   exact⟨_,_,cm.out.symm,cp,cq⟩
theorem IsR.opened {W:Κ} {A:Array Ρ} {t:Tbl} (h:IsR W A t) (hv:TVal t):∃ D E I G H J,A.size=258/\A.all (·.oneCell')=Ξ/\(∀ b,b<256->A[b]? = Δ (iv (t.cell b)))/\
  A[256]? = Δ (Β (Δ ⟨D,E,Γ⟩) t.n.length I)/\A[257]? = Δ (Β (Δ ⟨G,H,Γ⟩) t.n.length J)/\RowsAt W D E t.n.length t.cells t.ent2/\∀ s,s<t.n.length->W.cell? ⟨G,H+s,Γ⟩=Δ (.bool (t.ok s)):=by
 obtain⟨vn,va,rfl,M,T⟩:=h;obtain⟨D,E,I,rfl,U⟩:=Lu M t.cells hv.pos hv.cpos hv.row;obtain⟨G,H,J,rfl,ha⟩:=K2 T (by rw[hv.accL];exact hv.pos);refine⟨D,E,I,G,H,J,Dw _ _ _,Gy _ _ _ rfl rfl,λb hb=>Hw _ _ _ b hb,F9 _ _ _,by rw[Jr,hv.accL],U,λs hs=>ha s (by rw[hv.accL];exact hs)⟩
theorem Anf (t:Tbl) (hv:TVal t) (A:Array Ρ) (s:Nat) (hs:s<t.n.length) (l:List UInt8) (u:Ρ) (w:Κ) (h:IsR w A t) (H:By w u l) :
  Ϝ Η 53 #[.agg A,.int ζ s,u] w λe w'=>e=ν (iv (t.run s l))/\Ext w w':=by
 obtain⟨bn,on,cn,ba,oa,ca,b4,b5,bf,ao,-,hR,-⟩:=h.opened hv;obtain⟨au,bu,ou,cu,rfl,ar,aw⟩:=H.split;have cb:=hv.cle;have I:=(Ι w).alloc (Ε A 79);have J:=Ab w (Ε A 79);have bg:l.length<=4611686018427387904:=H.1;have HU:=Α (λW (M:Ext w W) i (hi:i<l.length)=>M.cell (aw i hi));have ay:=Α ar;have HR:=Α (λW (M:Ext w W)=>hR.ext M);have T:=Α (λk (hk:k<=l.length)=>hv.run_lt (l.take k) hs);have HV:=Α hv;clear H h hR ar aw hv;obtain⟨nn,U⟩:∃ n,t.n.length=n:=⟨_,rfl⟩;have cf:=Α U;rw[U] at HR T ao;clear U hs;obtain⟨D,G⟩:∃ n,l.length=n:=⟨_,rfl⟩;have aa:=Α G;rw[G] at HU ay T bg;rw[G];clear G;go_enter Tryz.func53,Tryz.ntmps53;go_upto_region 1 with (fail)
 obtain⟨w1,ab⟩:∃ W,w.alloc (Ε A 79)=W:=⟨_,rfl⟩;rw[ab] at I J;simp only[ab];clear ab;have HX:=Α J;have ae:=Α I;clear J I;obtain⟨B,hB⟩:∃ y,w.heap.size=y:=⟨_,rfl⟩;rw[hB] at HX;simp only[hB];clear hB;go_wp2_with (fail);go_loopw [1,7] (λvs vi W=>∃ i q:Nat,i<=D/\vs=.int ζ q/\vi=.int ζ i/\Ϻ (q=t.run s (l.take i))/\Ext w1 W)
  (λ_ vi _=>D-(intOf vi).toNat)
 case atStart=>exact⟨0,s,by omega,rfl,rfl,Α rfl,Ι _⟩
 case round=>
  obtain⟨i,q,hi,rfl,rfl,HQ,hE⟩:=hrel;by_cases ai:i<D
  ·have cg:(i:Int)<(D:Int):=by omega
   obtain rfl:=ay.out (by omega);obtain⟨x,hx⟩:∃ x,l.getD i 0=x:=⟨_,rfl⟩;have a7:=x.toNat_lt;have bj:q<nn:=by rw[HQ.out];exact T.out i hi
   have ch:(q:Int)<(nn:Int):=by omega
   have E:=hE.drew;have kx:=HU.out wr.drew (ae.out.trans E) i ai;rw[hx] at kx;obtain⟨br,ck,cr,kr,bb⟩:=HR.out wr.drew (ae.out.trans E) q bj;have kn:=(Ω wr.drew B 256 _ _ _ (E.heap HX.out)).trans ao;have kc:=(Ω wr.drew B x.toNat _ _ _ (E.heap HX.out)).trans (bf x.toNat a7);have bd:=HV.out.cell_lt x.toNat a7;obtain⟨cx,al⟩:∃ c,t.cell x.toNat=c:=⟨_,rfl⟩;rw[al] at kc bd;have ke:=bb cx bd;obtain⟨z,hz⟩:∃ z,t.ent2 q cx=z:=⟨_,rfl⟩;rw[hz] at ke;have cm:(cx:Int)<(t.cells:Int):=by omega
   have HZ:Ϻ (z=t.run s (l.take (i+1))):=Α (by
    rw[<-hz,<-al,List.take_succ_eq_append_getElem (by rw[aa.out];exact ai)];have e:l[i]'(by rw[aa.out];exact ai)=x:=by
     rw[<-hx,Ζ,Μ];rfl
    rw[e,Ct,<-HQ.out];rfl)
   have cp:(x.toNat:Int)<256:=by omega
   have cq:(0:Int)<=(x.toNat:Int):=by omega
   clear bb hx al hz;go_upto_region 4 with (fail)
   go_region
   clear kx kr kn kc ke;go_wp2;go_roundw
   case rel=>exact⟨i+1,z,by omega,rfl,by go_num,HZ,E⟩
   case measure=>simp[intOf];omega
  ·obtain rfl:i=D:=by omega
   have bo:Ϻ (q=t.run s l):=Α (by rw[HQ.out,List.take_of_length_le (by rw[aa.out];exact θ _)]);have bp:=ae.out.trans hE;go_wp2;go_ret;exact⟨congrArg (λz:Nat=>Ending.returned (iv z)) bo.out,bp⟩
theorem Ad4 (t:Tbl) (hv:TVal t) (hn:t.n.length<=65536) (A:Array Ρ) (w:Κ) (h:IsR w A t) :
  Ϝ Η 101 #[.agg A] w λe w'=>∃ v l,e=ν v/\Reached t l/\Ints w' v l/\Ext w w':=by
 obtain⟨bn,on,cn,ba,oa,ca,b0,b4,_,a7,_,hR,_⟩:=h.opened hv;have b5:=hv.pos;have dg:=hv.cpos;have dh:=hv.cle;have HR:=Α hR;have HV:=Α hv;obtain⟨i0,hi,b8,b9,cb⟩:=info_parts Cg;obtain⟨j0,hj,cg,ch,cj⟩:=info_parts Dt;have aa:=(Ι w).alloc (Ε A 79);have H0:=Ab w (Ε A 79);have HK:=Α (λ(W:Κ) (hW:Ext (w.alloc (Ε A 79)) W)=>(Ω W w.heap.size 256 _ _ _ (hW.heap H0)).trans a7);clear hR hv h H0 a7 b4 b0;go_enter Tryz.func101,Tryz.ntmps101;go_upto_region 1 with (fail)
 generalize w.alloc (Ε A 79)=w1 at *;have k1:=HK.out w1 (Ι w1);go_upto_region 2 with (at_make;refine wpList_make_full _ rfl _ _ 28 rfl w1.heap.size 4 j0 (.bool Τ) 1 Tryz.underlying28 hj cg ch ζ ζ _ _ t.n.length rfl rfl rfl rfl (by rw[cj];omega) (by unfold maxLen;omega) (θ _) ?_;intro w2 bd be)
 have cm:Ext w1 w2:=(Ι w1).grown be (λk e=>by cases e);have ab:w2.ownsRow w1.heap.size 4 1 (Β (Δ ⟨w1.heap.size,0,Γ⟩) t.n.length t.n.length) t.n.length ((D6 t.n.length []).map ο):=by rw[Tb,<-B7];exact bd
 have cs:=Am Τ ab (Gd _ _).symm 0 (by rw[Gd];exact b5);have fs:=ab.frozenAt 0;obtain⟨bf,bg⟩:=Bj ab 0 Ξ;rw[Lo,List.nil_append] at bf;have bh:=cm.grown bg (λk e=>by cases e;exact θ _);clear bd be k1 ab bg;go_upto_region 3 with (fail)
 clear cs fs;obtain⟨w3,bk⟩:∃ W,w2.setCell ⟨w1.heap.size,0,Γ⟩ (.bool Ξ)=W:=⟨_,rfl⟩;simp only[bk] at *;clear bk;have ct:=bh.alloc (Ε #[.int ζ 0] 3);have cu:=bf.alloc (Ε #[.int ζ 0] 3);have cv:=Κ.ownsRow_lit (base:=w1.heap.size) (e:=3) (size:=1) w3 #[.int ζ 0] 1 bh.size (by unfold maxLen;omega) rfl;generalize bl:w1.heap.size=E at *;have bm:=Α bl;clear bl;go_wp2_with (fail);go_loopw [4,5] (λv i W=>∃ (l:List Nat) (k g c:Nat),k<=l.length/\i=.int ζ k/\v=Β (Δ ⟨g,0,Γ⟩) l.length c/\Ext w1 W/\OwnI W E v l/\
   W.ownsRow E 4 1 (Β (Δ ⟨E,0,Γ⟩) t.n.length t.n.length) t.n.length ((D6 t.n.length l).map ο)/\Ϻ (BInv t l k 0))
  (λ_ i _=>t.n.length-(intOf i).toNat)
 case atStart=>exact⟨[0],0,w3.heap.size,1,by omega,rfl,rfl,ct,cv,cu,Α (Yy HV.out)⟩
 case round=>
  obtain⟨l,k,g,c,hk,rfl,rfl,hE,M,hS,HI⟩:=hrel;have dm:=HI.out.le;by_cases au:k<l.length
  ·have cl:=Be (Am 0 M rfl k au);have aw:=HI.out.lt _ (D9 l k 0 au);obtain⟨s,ax⟩:∃ s,l.getD k 0=s:=⟨_,rfl⟩;rw[ax] at cl aw;have cw:=Α ax;clear ax;obtain⟨br,or',cr,bp,bq⟩:=HR.out s aw;have cx:=Be ((aa.trans hE).cell bp);have k1:=Be (HK.out wr hE);have bt:=Α bq;clear bp bq;go_upto_region 7 with (fail)
   refine Dx (by kernel_rfl) (by kernel_rfl) ?_;iterate 9 (with_reducible refine í (λK hK=>?_);go_simp;(refine hK _ ?_;clear hK K))
   refine ö ?_;rintro _ ⟨e,rfl⟩;clear cl cx k1;have cy:=hE.trans e.ext;have M:=Ah M e.ext;have hS:=Ah hS e.ext;generalize e.W=w5 at *;have cz:w1.heap.size<=E:=å bm.out;have dr:E<=w1.heap.size:=å bm.out.symm;go_wp2_with (fail);go_loopw [4,7] (λv i W=>∃ (D:List Nat) (q g' c':Nat),q<=t.cells/\i=.int ζ q/\v=Β (Δ ⟨g',0,Γ⟩) D.length c'/\Ext w1 W/\OwnI W E v D/\
     W.ownsRow E 4 1 (Β (Δ ⟨E,0,Γ⟩) t.n.length t.n.length) t.n.length ((D6 t.n.length D).map ο)/\Ϻ (BInv t D k q)/\Ϻ (k<D.length/\D.getD k 0=s))
    (λ_ i _=>t.cells-(intOf i).toNat)
   case atStart=>exact⟨l,0,g,c,by omega,rfl,rfl,cy,M,hS,HI,Α ⟨au,cw.out⟩⟩
   case round=>
    obtain⟨D,q,g',c',hq,rfl,rfl,T,U,H,ah,G⟩:=hrel;have du:=ah.out.le;by_cases ai:q<t.cells
    ·have cq:=(aa.trans T).cell (bt.out q ai);have ay:=HV.out.tgt s aw q ai;obtain⟨x,az⟩:∃ x,t.ent2 s q=x:=⟨_,rfl⟩;rw[az] at cq ay;have aj:=Α az;clear az;have ak:=Am Τ H (Gd _ _).symm x (by rw[Gd];exact ay);rw[Tc _ _ _ ay] at ak;have c1:=H.frozenAt x;have dv:=T.size;by_cases I:x∈D
     ·rw[decide_eq_true I] at ak;have J:=Α (Yz ah.out (by rw[G.out.2,aj.out];exact I));clear I;go_wp2;go_roundw
      case rel=>exact⟨D,q+1,g',c',by omega,by go_num,rfl,T,U,H,J,G⟩
      case measure=>simp[intOf];omega
     ·rw[decide_eq_false I] at ak;have J:=Α (Y1 HV.out ah.out G.out.1 ai (by rw[G.out.2,aj.out];exact I));rw[G.out.2,aj.out] at J;clear I;obtain⟨al,bx⟩:=Bj H x Ξ;rw[Lo] at al;have an:=U.kept bx (Ai U H (by decide));have a1:=T.grown bx (λk e=>by cases e;exact cz);go_upto_region 13 with (fail)
      obtain⟨w6,bz⟩:∃ W,wr.setCell ⟨E,x,Γ⟩ (.bool Ξ)=W:=⟨_,rfl⟩;simp only[bz] at *;clear bz ak c1 H U cq;have dx:=a1.size;have c2:=(aa.trans a1).cell (bt.out q ai);rw[aj.out] at c2;go_wp2_with (at_builtin;refine wpList_append_lies _ rfl _ _ 68 rfl E 3 i0 (.int ζ 0) 1 8 Tryz.underlying68 hi b8 b9 cb rfl (by decide) _ _ _ rfl (an.alloc _) _ 1 1 [iv x] rfl rfl (cell_one_new _ _ _) (by simp[Ρ.oneCell']) (by decide) (by unfold maxLen;omega) (by omega) (by simp;omega) _ rfl ?_);intro g7 c7 w7 c5 a6 _ _;have c6:=(al.alloc (Ε #[iv x] 3)).kept a6 (Ai al an (by decide));have c8:=(a1.alloc (Ε #[iv x] 3)).grown a6 (λk e=>by have:=(an.lt k e).1;omega);clear a6 an al;go_wp2;go_roundw
      case rel=>
       refine⟨D++[x],q+1,g7,c7,by omega,by go_num,by rw[Ο];rfl,c8,?_,c6,J,Α ⟨by rw[Ο];have:=G.out.1;omega,by rw[Bt _ _ _ _ G.out.1];exact G.out.2⟩⟩;show Κ.ownsRow _ _ _ _ _ _ _;rw[Ο,List.map_append];exact c5
      case measure=>simp[intOf];omega
    ·obtain rfl:q=t.cells:=by omega
     have J:=Α (Y0 ah.out);go_wp2;go_roundw
     case rel=>exact⟨D,k+1,g',c',by have:=G.out.1;omega,by go_num,rfl,T,U,H,J⟩
     case measure=>simp[intOf];omega
  ·obtain rfl:k=l.length:=by omega
   have c9:=Α (Y2 HI.out);go_wp2;go_ret;exact⟨_,l,rfl,c9.out,M.ints (by omega),aa.trans hE⟩
theorem Air (ρ:ϻ->Ρ) (o:ϸ) (W:Κ) (x y:ϻ) (b D n c k:Nat) (I:k<n) (E:o.op=.indexAddr 68 x y) (G:ρ x=Β (Δ ⟨b,D,Γ⟩) n c) (H:ρ y=.int ζ k):(Ú ρ o).run Η W=.ok (.value (γ (Δ ⟨b,D+k,Γ⟩))) W:=by
 have J:(k:Int)<(n:Int):=by omega
 unfold Ú;simp only[E,G,H];go_simp
def Cx {w:Κ} (x y:ϻ) (b D n c k:Nat) (G:k<n):Sc Η w:=
 .gen (.indexAddr 68 x y) [.c (Β (Δ ⟨b,D,Γ⟩) n c),.c (.int ζ k)] (.c (γ (Δ ⟨b,D+k,Γ⟩))) (AV.mono_c _) λρ o W H _ E=>⟨_,Air ρ o W x y b D n c k G H (C6 E).1 (C6 E).2,rfl⟩
theorem Ais (ρ:ϻ->Ρ) (o:ϸ) (W:Κ) (x y:ϻ) (b D n c k:Nat) (I:k<n) (E:o.op=.indexAddr 27 x y) (G:ρ x=Β (Δ ⟨b,D,Γ⟩) n c) (H:ρ y=.int ζ k):(Ú ρ o).run Η W=.ok (.value (γ (Δ ⟨b,D+k,Γ⟩))) W:=by
 have J:(k:Int)<(n:Int):=by omega
 unfold Ú;simp only[E,G,H];go_simp
def Iw {w:Κ} (x y:ϻ) (b D n c k:Nat) (G:k<n):Sc Η w:=
 .gen (.indexAddr 27 x y) [.c (Β (Δ ⟨b,D,Γ⟩) n c),.c (.int ζ k)] (.c (γ (Δ ⟨b,D+k,Γ⟩))) (AV.mono_c _) λρ o W H _ E=>⟨_,Ais ρ o W x y b D n c k G H (C6 E).1 (C6 E).2,rfl⟩
theorem Aie (ρ:ϻ->Ρ) (o:ϸ) (W:Κ) (x:ϻ) (b k:Nat) (v:Ρ) (G:W.cell? ⟨b,k,Γ⟩=Δ v) (D:o.op=.load 27 x) (E:ρ x=γ (Δ ⟨b,k,Γ⟩)):(Ú ρ o).run Η W=.ok (.value v) W:=by
 unfold Ú;simp only[D,E];go_simp
def Iv {w:Κ} (x:ϻ) (b k:Nat) (v:Ρ) (D:∀ W,Ext w W->W.cell? ⟨b,k,Γ⟩=Δ v):Sc Η w:=
 .gen (.load 27 x) [.c (γ (Δ ⟨b,k,Γ⟩))] (.c v) (AV.mono_c _) λρ o W E G H=>⟨_,Aie ρ o W x b k v (D W G) E (Oz H),rfl⟩
theorem Aic (ρ:ϻ->Ρ) (o:ϸ) (W:Κ) (x:ϻ) (b k:Nat) (v:Ρ) (G:W.cell? ⟨b,k,Γ⟩=Δ v) (D:o.op=.load 68 x) (E:ρ x=γ (Δ ⟨b,k,Γ⟩)):(Ú ρ o).run Η W=.ok (.value v) W:=by
 unfold Ú;simp only[D,E];go_simp
def Iu {w:Κ} (x:ϻ) (b k:Nat) (v:Ρ) (D:∀ W,Ext w W->W.cell? ⟨b,k,Γ⟩=Δ v):Sc Η w:=
 .gen (.load 68 x) [.c (γ (Δ ⟨b,k,Γ⟩))] (.c v) (AV.mono_c _) λρ o W E G H=>⟨_,Aic ρ o W x b k v (D W G) E (Oz H),rfl⟩
end Go.Proofs.YtaiogolidlamiaaGreatDoor
