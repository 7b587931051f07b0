import Derived.Lib.SlBytesConst
import Derived.Test.YtilncahcpjlfnaaGreatDoorM17
import Derived.Test.YtilncahcpjlfnaaGreatDoorM14
import Derived.Test.YtilncahcpjlfnaaGreatDoorM09
import Derived.Test.YtilncahcpjlfnaaGreatDoorM16
import Derived.Test.YtilncahcpjlfnaaGreatDoorM15
set_option linter.unusedVariables false
set_option linter.unusedSimpArgs false
set_option maxRecDepth 100000
set_option maxHeartbeats 4000000
open Bool renaming false → Ε, true → Α
open Go renaming World → Γ, Value → Δ, Operand → Ñ, Calls → ϛ, execOp → ê
open Go.Ending renaming returned → Ψ
open Go.IntKind renaming i64 → Φ
open Go.Lib renaming hid → Z
open Go.Obj renaming cells → Β
open Go.Operand renaming tmp → δ
open Go.Proofs.Tryz renaming prog → Η, underlying40 → Ο
open Go.Value renaming slice → U, tuple → ϗ, pointer → ε
open List renaming mem_singleton → ϙ
open Nat renaming lt_of_lt_of_le → Ξ
open Option renaming none → I, some → J
namespace Go.Proofs.YtilncahcpjlfnaaGreatDoor
open Go.RowKit Go.Shelf
def CasAns (W:Γ) (e:Ending) (ps:List PtN):Prop:=∃ ds,DsOf ps ds/\((∃ l a c,Ef (pts ps ds) l/\(Ar l).length<=256/\(∀ c∈Ar l,∀ o∈c,(Cano o.head/\o.head.n.length<=64)/\Cano o.rest/\o.rest.n.length<=64)/\e=Ψ (ϗ #[U a (Ar l).length c,.int Φ 0])/\CsV W (U a (Ar l).length c) (Ar l))\/(e=Ψ (ϗ #[U I 0 0,.int Φ 2])/\Gy ps ds))
theorem CasOut.ans {W:Γ} {e:Ending} {ps:List PtN} (h:CasOut W e ps):CasAns W e ps:=by
 obtain⟨ds,T,⟨l,v,h1,X,h3,rfl,h5⟩|h⟩:=h
 ·have G:∀ c∈Ar l,∀ o∈c,(Cano o.head/\o.head.n.length<=64)/\Cano o.rest/\o.rest.n.length<=64:=λc hc=>VJ (λos H o E=>⟨⟨(T2 h1 os H o E).1,(X os H o E).1⟩,(T2 h1 os H o E).2,(X os H o E).2⟩) hc
  have h6:=h5.view λc hc o E=>⟨⟨(G c hc o E).1.1.val,(G c hc o E).1.2⟩,(G c hc o E).2.1.val,(G c hc o E).2.2⟩
  have h7:=h6;obtain⟨a,c,rfl,_⟩:=h7;exact⟨ds,T,.inl ⟨l,a,c,h1,h3,G,rfl,h6⟩⟩
 exact⟨ds,T,.inr h⟩
theorem CasAns.form {W:Γ} {e:Ending} {ps:List PtN} (h:CasAns W e ps):∃ a n c k,e=Ψ (ϗ #[U a n c,.int Φ k]):=by
 obtain⟨ds,E,⟨l,a,c,_,_,_,rfl,_⟩|⟨rfl,_⟩⟩:=h
 ·exact⟨_,_,_,_,rfl⟩
 exact⟨_,_,_,_,rfl⟩
theorem MatOut.form {W:Γ} {e:Ending} {ps:List PtN} {x:List UInt8} (h:MatOut W e ps x):∃ a n c k,e=Ψ (ϗ #[U a n c,.bool k]):=by
 obtain⟨ds,G,⟨_,rfl⟩|⟨l,v,_,E,rfl⟩⟩:=h
 ·exact⟨_,_,_,_,rfl⟩
 obtain⟨a,c,rfl⟩:=Sl.len E;exact⟨_,_,_,_,rfl⟩
theorem Ir:Ce [0,1]=[⟨exQ 0,Ε⟩,⟨exQ 1,Ε⟩]:=rfl
theorem Lu:Ce [10,1]=[⟨exQ 10,Α⟩,⟨exQ 1,Ε⟩]:=rfl
theorem IS {W:Γ} {e:Ending} (h:MatOut W e (Ce [0,1]) [97,97,98]):∃ v,e=Ψ (ϗ #[v,.bool Α])/\SpV W v [(0,2),(2,3)]:=by
 rw[Ir] at h;obtain⟨ds,G,h⟩:=h;obtain⟨d0,d1,rfl,f0,f1⟩:=Md G;have hm:Cb (pts [⟨exQ 0,Ε⟩,⟨exQ 1,Ε⟩] [d0,d1]) [97,97,98] 0 [(0,2),(2,3)]:=IP f0 f1;rcases h with⟨h,_⟩|⟨l,v,h1,E,rfl⟩
 ·exact absurd (N1 (Nat.zero_le _) hm) (by rw[Et (by rfl)];exact h)
 rw[Q3 h1 hm] at E;exact⟨v,rfl,E⟩
theorem IR {W:Γ} {e:Ending} (h:MatOut W e (Ce [10,1]) [97,97,98]):∃ v,e=Ψ (ϗ #[v,.bool Α])/\SpV W v [(0,0),(0,3)]:=by
 rw[Lu] at h;obtain⟨ds,G,h⟩:=h;obtain⟨d0,d1,rfl,f0,f1⟩:=Md G;have hm:Cb (pts [⟨exQ 10,Α⟩,⟨exQ 1,Ε⟩] [d0,d1]) [97,97,98] 0 [(0,0),(0,3)]:=IO1 f0 f1;rcases h with⟨h,_⟩|⟨l,v,h1,E,rfl⟩
 ·exact absurd (N1 (Nat.zero_le _) hm) (by rw[Et (by rfl)];exact h)
 rw[Q3 h1 hm] at E;exact⟨v,rfl,E⟩
theorem IT {W:Γ} {e:Ending} (h:MatOut W e (Ce [0,1]) [99]):e=Ψ (ϗ #[U I 0 0,.bool Ε]):=by
 rw[Ir] at h;obtain⟨ds,E,h⟩:=h;obtain⟨d0,d1,rfl,f0,f1⟩:=Md E;rcases h with⟨_,h⟩|⟨l,v,h1,G,rfl⟩
 ·exact h
 have:=N1 (Nat.zero_le _) h1;rw[Et (by rfl)] at this;exact absurd this (IQ f0 f1)
structure San2 (W:Γ) (g gh gr ch cr:Nat) (h0 h1 r0 r1:Array Δ) (o0 o1:Opt):Prop where
 c0:W.cell? ⟨g,0,I⟩=J (U (J ⟨gh,0,I⟩) 2 ch)
 c1:W.cell? ⟨g,1,I⟩=J (U (J ⟨gr,0,I⟩) 2 cr)
 h0:W.rangeAt gh 0 h0.toList/\IsD W (.agg h0) o0.head/\h0.size=3
 h1:W.rangeAt gh 3 h1.toList/\IsD W (.agg h1) o1.head/\h1.size=3
 r0:W.rangeAt gr 0 r0.toList/\IsD W (.agg r0) o0.rest/\r0.size=3
 r1:W.rangeAt gr 3 r1.toList/\IsD W (.agg r1) o1.rest/\r1.size=3
theorem San2.ext {W W':Γ} {g gh gr ch cr:Nat} {h0 h1 r0 r1:Array Δ} {o0 o1:Opt} (h:San2 W g gh gr ch cr h0 h1 r0 r1 o0 o1) (E:Ext W W'):San2 W' g gh gr ch cr h0 h1 r0 r1 o0 o1 where
 c0:=E.cell h.c0
 c1:=E.cell h.c1
 h0:=⟨λj v G=>E.cell (h.h0.1 j v G),h.h0.2.1.ext E,h.h0.2.2⟩
 h1:=⟨λj v G=>E.cell (h.h1.1 j v G),h.h1.2.1.ext E,h.h1.2.2⟩
 r0:=⟨λj v G=>E.cell (h.r0.1 j v G),h.r0.2.1.ext E,h.r0.2.2⟩
 r1:=⟨λj v G=>E.cell (h.r1.1 j v G),h.r1.2.1.ext E,h.r1.2.2⟩
theorem HdV.two {W:Γ} {v:Δ} {d0 d1:Dfa} (h:HdV W v [d0,d1]):∃ g c a0 E,v=U (J ⟨g,0,I⟩) 2 c/\(W.rangeAt g 0 (a0:Array Δ).toList/\IsD W (.agg a0) d0/\a0.size=3)/\(W.rangeAt g 3 (E:Array Δ).toList/\IsD W (.agg E) d1/\E.size=3):=by
 obtain⟨a,c,rfl,h⟩:=h;obtain⟨g,G,H,T,rfl,X,hd⟩:=h 0 (by simp);obtain⟨g',y1,y2,y3,e,ae,af⟩:=h 1 (by simp);injection e with e
 injection e with e
 subst e;exact⟨g,c,#[G,H,T],#[y1,y2,y3],rfl,⟨X,hd,rfl⟩,ae,af,rfl⟩
theorem Vw {W:Γ} {v:Δ} {o0 o1:Opt} (h:CsV W v [[o0,o1]]):∃ g c gh gr ch cr h0 h1 r0 r1,v=U (J ⟨g,0,I⟩) 1 c/\San2 W g gh gr ch cr h0 h1 r0 r1 o0 o1:=by obtain⟨a,c,rfl,h⟩:=h;obtain⟨g,v1,v2,rfl,E,G,h1,H⟩:=h 0 (by simp);obtain⟨gh,ch,a0,T,rfl,k1,X⟩:=HdV.two h1;obtain⟨gr,cr,b0,b1,rfl,k3,k4⟩:=HdV.two H;exact⟨g,c,gh,gr,ch,cr,a0,T,b0,b1,rfl,E,G,k1,X,k3,k4⟩
theorem IV {W:Γ} {e:Ending} (h:CasAns W e (Ce [0,1])):∃ g c gh gr ch cr h0 h1 r0 r1 o0 o1,e=Ψ (ϗ #[U (J ⟨g,0,I⟩) 1 c,.int Φ 0])/\San2 W g gh gr ch cr h0 h1 r0 r1 o0 o1/\(Cano o0.rest/\o0.rest.n.length<=64/\o0.rest.has []=Α/\o0.rest.has [98,97]=Α/\o0.rest.has [97,98]=Ε)/\Cano o1.rest/\∀ v,o1.rest.has v=Α↔v=[]:=by
 rw[Ir] at h;obtain⟨ds,H,h⟩:=h;obtain⟨d0,d1,rfl,f0,f1⟩:=Md H;rcases h with⟨l,a,c,h1,h2,E,rfl,G⟩|⟨_,h⟩
 ·obtain⟨o0,o1,e,k1,T,k3,k4⟩:=Vv f0 f1 (l:=l) h1;rw[e] at E G ⊢;obtain⟨g,X,gh,gr,ch,cr,x0,x1,y0,y1,e2,h6⟩:=Vw G;obtain⟨_,m1,m2⟩:=E _ (ϙ.2 rfl) o0 (by simp);obtain⟨_,n1,_⟩:=E _ (ϙ.2 rfl) o1 (by simp);exact⟨g,X,gh,gr,ch,cr,x0,x1,y0,y1,o0,o1,by rw[e2],h6,⟨m1,m2,k1,T,k3⟩,n1,k4⟩
 exact absurd h (Vt f0 f1 λl hl=>by obtain⟨o0,o1,e,_⟩:=Vv f0 f1 (l:=l) hl;rw[e];rfl)
theorem IU {W:Γ} {e:Ending} (h:CasAns W e (Ce [10,1])):∃ g c gh gr ch cr h0 h1 r0 r1 o0 o1,e=Ψ (ϗ #[U (J ⟨g,0,I⟩) 1 c,.int Φ 0])/\San2 W g gh gr ch cr h0 h1 r0 r1 o0 o1/\Cano o0.head/\∀ v,o0.head.has v=Α↔v=[]:=by
 rw[Lu] at h;obtain⟨ds,H,h⟩:=h;obtain⟨d0,d1,rfl,f0,f1⟩:=Md H;rcases h with⟨l,a,c,h1,h2,E,rfl,G⟩|⟨_,h⟩
 ·obtain⟨o0,o1,e,k1⟩:=Vu f0 f1 (l:=l) h1;rw[e] at E G ⊢;obtain⟨g,T,gh,gr,ch,cr,X,x1,y0,y1,e2,h6⟩:=Vw G;obtain⟨⟨m1,_⟩,_⟩:=E _ (ϙ.2 rfl) o0 (by simp);exact⟨g,T,gh,gr,ch,cr,X,x1,y0,y1,o0,o1,by rw[e2],h6,m1,k1⟩
 exact absurd h (Vt f0 f1 λl hl=>by obtain⟨o0,o1,e,_⟩:=Vu f0 f1 (l:=l) hl;rw[e];rfl)
theorem Kw {P:Program} {ops:Array Oper} {rest:List Oper} {o:Oper} {a:Act} {w:Γ} {Q:Exit->Act->Γ->Prop} (E:Region.wanted o (yielded ops a.tmps)=Α) (ty:TypeId) (x:Ñ) (G:o.op=.load ty x)
  (g:Nat) (hx:a.eval x=ε (J ⟨g,0,I⟩)) (t:TypeId) (cs:Array Δ) (fr:Nat × Nat) (d:TypeDesc) (hg:w.heap[g]? = J (Β cs t fr))
  (hu:P.underlying ty=J d) (hd:(match d with|.struct _|.array _ _=>Α|_=>Ε)=Α) (hi:(P.info? ty).map (·.size)=J cs.size)
  (h:wpList P ops Q rest (a.put o.dst (.agg cs)) w):wpList P ops Q (o::rest) a w:=
 wpList_step λK hK=>by rw[if_pos E];exact wp_load_row ty x G g hx t cs fr d hg hu hd hi (hK _ _ h)
theorem By.w {W:Γ} {v:Δ} {l:List UInt8} (h:By W v l):ByW W v l:=by
 obtain⟨h1,E⟩:=h;refine⟨by omega,?_⟩;rcases E with E|⟨G,b,o,c,H,T,X⟩
 ·exact .inl E
 exact .inr ⟨G,b,o,c,H,T,λi hi=>X i (by omega)⟩
theorem X9 (l:List UInt8) (X:l.length<=62) (fr:Nat × Nat) (W:Γ) (C:Array Δ) (E:C=(l.map bv).toArray) (n m:Nat) (G:n=l.length) (hm:(Ce l).length=m) :
  ϛ Η 10 #[U (J ⟨W.heap.size,0,I⟩) n n] (W.alloc (Β C 5 fr)) λe w'=>∃ g c,e=Ψ (U (J ⟨g,0,I⟩) m c)/\PatAt w' g 0 (Ce l)/\Ext W w':=by
 subst E G hm;exact (X8 l _ _ (Tl W l fr (by omega)).w).mono λe w' ⟨g,c,h1,H,T⟩=>⟨g,c,h1,H,((Κ W).alloc _).trans T⟩
theorem Q2 (p:List UInt8) (m:Nat) (hm:(Ce p).length=m) (g c:Nat) (l:List UInt8) (hl:l.length<=62) (fr:Nat × Nat) (W:Γ) (H:Tab W) (G:0<W.heap.size) (h:PatAt W g 0 (Ce p)) (C:Array Δ) (T:C=(l.map bv).toArray) (n:Nat) (X:n=l.length) :
  ϛ Η 21 #[U (J ⟨g,0,I⟩) m c,U (J ⟨W.heap.size,0,I⟩) n n] (W.alloc (Β C 5 fr)) λe w'=>MatOut w' e (Ce p) l/\Ext W w':=by
 subst T X hm;have E:=(Κ W).alloc (Β (l.map bv).toArray 5 fr);exact (Jt _ (N4 p) l (by omega) g 0 c _ _ (H.below E.below G) (Ξ G E.size) (h.ext E) (Tl W l fr (by omega))).mono λe w' ⟨h1,h2⟩=>⟨h1,E.t h2⟩
theorem BT (p:List UInt8) (m:Nat) (hm:(Ce p).length=m) (g c:Nat) (W:Γ) (E:Tab W) (G:0<W.heap.size) (h:PatAt W g 0 (Ce p)) :
  ϛ Η 11 #[U (J ⟨g,0,I⟩) m c] W λe w'=>CasAns w' e (Ce p)/\Ext W w':=by
 subst hm;exact (Te _ (N4 p) g 0 c W E G h).mono λe w' ⟨h1,H⟩=>⟨h1.ans,H⟩
theorem DM (d:Dfa) (H:Val d) (T:d.n.length<=64) (v:Δ) (l:List UInt8) (hl:l.length<=62) (b:Bool) (hb:d.has l=b) (fr:Nat × Nat) (W:Γ) (X:Tab W) (G:0<W.heap.size) (h:IsD W v d) (C:Array Δ) (hC:C=(l.map bv).toArray) (n:Nat) (hn:n=l.length) :
  ϛ Η 24 #[v,U (J ⟨W.heap.size,0,I⟩) n n] (W.alloc (Β C 5 fr)) λe w'=>e=Ψ (.bool b)/\Ext W w':=by
 subst hC hn hb;have E:=(Κ W).alloc (Β (l.map bv).toArray 5 fr);exact (Mv d H T v l _ _ (X.below E.below G) (Ξ G E.size) (h.ext E) (Tl W l fr (by omega))).mono λe w' ⟨h1,h2⟩=>⟨h1,E.t h2⟩
theorem EL (W:Γ):ϛ Η 16 #[U I 0 0] W λe w'=>∃ d v,e=Ψ (ϗ #[v,.int Φ 0])/\IsD w' v d/\Cano d/\(∀ u,d.has u=Α↔u=[])/\Ext W w':=
 (Kx [] (by decide) _ W (Sl.nil _ _ _)).mono λe w' ⟨d,⟨v,h1,E⟩,G,H,T⟩=>⟨d,v,h1,E,G,H,T⟩
theorem BU {a b:Dfa} (E:Cano a) (hb:Cano b) {l:List UInt8} (h1:∀ v,a.has v=Α↔v=l) (G:∀ v,b.has v=Α↔v=l):a=b:=I4 E hb h1 G
theorem PN (ρ:Ñ->Δ) (o:Oper) (W:Γ) (x:Ñ) (b k:Nat) (v:Δ) (hc:W.cell? ⟨b,k,I⟩=J v) (E:o.op=.load 31 x) (hx:ρ x=ε (J ⟨b,k,I⟩)):(ê ρ o).run Η W=.ok (.value v) W:=by unfold ê;simp only[E,hx];go_simp
def N6 {w:Γ} (x:Ñ) (b k:Nat) (v:Δ) (hc:∀ W,Ext w W->W.cell? ⟨b,k,I⟩=J v):Sc Η w:=
 .gen (.load 31 x) [.c (ε (J ⟨b,k,I⟩))] (.c v) (AV.mono_c _) λρ o W E G H=>⟨_,PN ρ o W x b k v (hc W G) E (Qw H),rfl⟩
theorem PM (ρ:Ñ->Δ) (op:Oper) (W:Γ) (x:Ñ) (b k:Nat) (A:Array Δ) (E:A.size=3) (hc:W.rangeAt b k A.toList) (G:op.op=.load 40 x) (hx:ρ x=ε (J ⟨b,k,I⟩)):(ê ρ op).run Η W=.ok (.value (.agg A)) W:=by unfold ê;simp only[G,hx,Instr.loadAt,Instr.sureAddr,Sem.run_bind,Sem.run_pure,Result.andThen_ok,run_loadVar_mid W b k 40 A.toList _ hc Ο rfl (by rw[Array.length_toList,E];kernel_rfl)]
def ldR {w:Γ} (x:Ñ) (b k:Nat) (A:Array Δ) (E:A.size=3) (hc:∀ W,Ext w W->W.rangeAt b k A.toList):Sc Η w:=
 .gen (.load 40 x) [.c (ε (J ⟨b,k,I⟩))] (.c (.agg A)) (AV.mono_c _) λρ o W G H T=>⟨_,PM ρ o W x b k A E (hc W H) G (Qw T),rfl⟩
theorem IB (W:Γ) (E G H T:Nat):SpV (W.alloc (Β #[iv E,iv G,iv H,iv T] 60)) (U (J ⟨W.heap.size,0,I⟩) 2 2) [(E,G),(H,T)]:=by
 refine⟨by simp,.inr ⟨by simp,W.heap.size,0,2,rfl,by rw[Γ.size_alloc];omega,λi hi=>?_⟩⟩;have hi:i<4:=hi;rw[Nat.zero_add,cell_of_row _ _ _ _ _ _ (Ad W _)]
 match i,hi with
 | 0,_=>rfl
 | 1,_=>rfl
 | 2,_=>rfl
 | 3,_=>rfl
theorem Vg (E G H T:Nat) (v:Δ) (W:Γ) (h:SpV W v [(E,G),(H,T)]) (C:Array Δ) (hC:C=#[iv E,iv G,iv H,iv T]) :
  ϛ Η 25 #[v,U (J ⟨W.heap.size,0,I⟩) 2 2] (W.alloc (Β C 60)) λe w'=>e=Ψ (.bool Α)/\Ext W w':=by
 subst hC;have X:=(Κ W).alloc (Β #[iv E,iv G,iv H,iv T] 60);exact (IW _ _ _ _ _ (SpV.ext h X) (IB W E G H T)).mono λe w' ⟨h1,h2⟩=>⟨by rw[h1,decide_eq_true rfl],X.t h2⟩
theorem Jj (w:Γ) (hT:Tab w) (bp:0<w.heap.size) :
  ϛ Η 9 #[] w λe w'=>e=Ψ (.bool Α)/\Ext w w':=by
 have ao:=Z (λW (E:Ext w W)=>hT.below E.below bp);have aq:=Z (λW (E:Ext w W)=>Ξ bp E.size);have kc:=λ(w:Γ) (C:Array Δ) (n c:Nat)=>Lib.run_convert_bytes_const (P:=Η) w 22 5 C n c Tryz.underlying22 Tryz.underlying5
 have f51:=Z (X9 [0,1] (by decide) (0,0) w #[.int .u8 0,.int .u8 1] rfl 2 2 rfl (by rw[Ir];rfl));clear hT bp;go_enter Tryz.func9,Tryz.ntmps9;go_upto_region 2 with (go_at_call 10;(with_reducible refine f51.o.mono ?_);rintro e w1 ⟨gp,cp,rfl,ba,H⟩)
 have T:=Z ba;clear ba f51;have f51:=Z (X9 [10,1] (by decide) (0,0) w1 #[.int .u8 10,.int .u8 1] rfl 2 2 rfl (by rw[Lu];rfl));go_upto_region 3 with (go_at_call 10;(with_reducible refine f51.o.mono ?_);rintro e w2 ⟨gq,cq,rfl,ba,G⟩)
 have ai:=Z ba;replace T:=Z (T.o.ext G);replace H:=H.t G;clear ba f51 G;have f56:=Z (Q2 [0,1] 2 (by rw[Ir];rfl) gp cp [97,97,98] (by decide) (3,4) w2 (ao.o w2 H) (aq.o w2 H) T.o #[.int .u8 97,.int .u8 97,.int .u8 98] rfl 3 rfl);go_upto_region 4 with (go_at_call 21;(with_reducible refine f56.o.mono ?_);rintro e w3 ⟨hm,G⟩;obtain⟨v3,rfl,hs⟩:=IS hm;obtain⟨a3,c3,rfl⟩:=Sl.len hs;have ae:=Z (show SpV w3 (U a3 2 c3) _ from hs);clear hs hm)
 replace T:=Z (T.o.ext G);replace ai:=Z (ai.o.ext G);replace H:=H.t G;clear f56 G;have f56:=Z (Q2 [10,1] 2 (by rw[Lu];rfl) gq cq [97,97,98] (by decide) (3,4) w3 (ao.o w3 H) (aq.o w3 H) ai.o #[.int .u8 97,.int .u8 97,.int .u8 98] rfl 3 rfl);go_upto_region 5 with (go_at_call 21;(with_reducible refine f56.o.mono ?_);rintro e w4 ⟨hm,G⟩;obtain⟨v4,rfl,hs⟩:=IR hm;obtain⟨a4,c4,rfl⟩:=Sl.len hs;have ag:=Z (show SpV w4 (U a4 2 c4) _ from hs);clear hs hm)
 replace T:=Z (T.o.ext G);replace ai:=Z (ai.o.ext G);replace ae:=Z (ae.o.ext G);replace H:=H.t G;clear f56 G;have f56:=Z (Q2 [0,1] 2 (by rw[Ir];rfl) gp cp [99] (by decide) (1,2) w4 (ao.o w4 H) (aq.o w4 H) T.o #[.int .u8 99] rfl 1 rfl);go_upto_region 6 with (go_at_call 21;(with_reducible refine f56.o.mono ?_);rintro e w5 ⟨hm,G⟩;obtain rfl:=IT hm;clear hm)
 replace T:=Z (T.o.ext G);replace ai:=Z (ai.o.ext G);replace ae:=Z (ae.o.ext G);replace ag:=Z (ag.o.ext G);replace H:=H.t G;clear f56 G;have f52:=Z (BT [0,1] 2 (by rw[Ir];rfl) gp cp w5 (ao.o w5 H) (aq.o w5 H) T.o);go_upto_region 7 with (go_at_call 11;(with_reducible refine f52.o.mono ?_);rintro e w6 ⟨hm,G⟩;obtain⟨g1,k1,ec,bw,ed,de,x0,x1,y0,y1,o0,o1,rfl,bb,bc,cf⟩:=IV hm;have X:=Z bb;have ar:=Z bc;have cg:=Z cf;clear hm bb bc cf)
 replace T:=Z (T.o.ext G);replace ai:=Z (ai.o.ext G);replace ae:=Z (ae.o.ext G);replace ag:=Z (ag.o.ext G);replace H:=H.t G;clear f52 G;have f52:=Z (BT [10,1] 2 (by rw[Lu];rfl) gq cq w6 (ao.o w6 H) (aq.o w6 H) ai.o);go_upto_region 8 with (go_at_call 11;(with_reducible refine f52.o.mono ?_);rintro e w7 ⟨hm,G⟩;obtain⟨g2,k2,cj,eh,dh,ei,X0,X1,Y0,Y1,p0,p1,rfl,bb,bc⟩:=IU hm;have aj:=Z bb;have ck:=Z bc;clear hm bb bc)
 replace T:=Z (T.o.ext G);replace ae:=Z (ae.o.ext G);replace ag:=Z (ag.o.ext G);replace X:=Z (X.o.ext G);replace H:=H.t G;clear f52 G ai;have c1:=X.o.c0;have c2:=X.o.c1;have c3:=aj.o.c0;go_upto_region 10 with (fail)
 clear c1 c2 c3;have f54:=Z (EL w7);go_upto_region 11 with (first
  | (go_at_call 16;(with_reducible refine f54.o.mono ?_);rintro e w8 ⟨d,v,rfl,hD,cl,cm,G⟩;obtain⟨ac,lc,cc,an,cn,aa,la,ca,rfl⟩:=hD.agg)
  | (refine Sr 40 (δ 13) (δ 95) rfl (Ad w8 _) Ae rfl (Av _ _ _ rfl rfl rfl) ?_))
 clear f54;obtain⟨af,ak,aw⟩:=AO hD;obtain⟨V,hV⟩:=Xq (dA (U ac lc cc) (U an d.n.length cn) (U aa la ca));have ct:(Η.info? 40).map (·.size)=J V.size:=by rw[<-hV];exact Ae
 rw[hV] at af ak aw;rw[hV];obtain⟨w9,hw⟩:=Xq ((w8.alloc (Β #[U I 0 0,U I 0 0,U I 0 0] 40)).setRow w8.heap.size V);rw[hw] at af ak aw;simp only[hw];obtain⟨gv,hg⟩:=Xq (w8.heap.size);rw[hg] at ak;rw[hg];replace G:=G.t af;have HX:=Z ak;have HD:=Z aw;have bn:=Z (And.intro cl cm);replace T:=Z (T.o.ext G);replace ae:=Z (ae.o.ext G);replace ag:=Z (ag.o.ext G);replace X:=Z (X.o.ext G);replace aj:=Z (aj.o.ext G);replace H:=H.t G;clear hD af ak aw hV hw hg G cl cm;have c2:=X.o.c1;have hr:=X.o.r0.1;have bo:=X.o.r0.2.2;have cv:(Η.info? 40).map (·.size)=J y0.toList.length:=by rw[Array.length_toList,bo];kernel_rfl
 have cw:(Η.info? 40).map (·.size)=J y0.size:=by rw[bo];kernel_rfl
 have cy:y0.all (·.oneCell')=Α:=by
  obtain⟨_,_,_,_,_,_,_,_,b5⟩:=X.o.r0.2.1.agg;injection b5 with b5
  rw[b5];exact Av _ _ _ rfl rfl rfl
 go_upto_region 12 with (first
  | (refine wpList_load_mid rfl 40 (δ 101) rfl bw 0 rfl _ _ hr Ο rfl cv ?_)
  | (refine Sr 40 (δ 15) (δ 102) rfl (Ad w9 _) cw bo.symm cy ?_))
 clear cv c2 hr;obtain⟨af,ak,aw⟩:=AO X.o.r0.2.1;obtain⟨wB,hw⟩:=Xq ((w9.alloc (Β #[U I 0 0,U I 0 0,U I 0 0] 40)).setRow w9.heap.size y0);rw[hw] at af ak aw;simp only[hw];obtain⟨gb,hg⟩:=Xq (w9.heap.size);rw[hg] at ak;rw[hg];have a6:=Z ak;have b6:=Z aw;replace T:=Z (T.o.ext af);replace ae:=Z (ae.o.ext af);replace ag:=Z (ag.o.ext af);replace X:=Z (X.o.ext af);replace aj:=Z (aj.o.ext af);replace HX:=Z (af.heap HX.o);replace HD:=Z (HD.o.ext af);replace H:=H.t af;clear af ak aw hw hg bo cy;have ab:=Κ wB;have cz:=λW (E:Ext wB W)=>Z (show ϛ Η 24 #[.agg y0,U I 0 0] W λe w'=>e=Ψ (.bool Α)/\Ext W w' from (Mv _ ar.o.1.val ar.o.2.1 (.agg y0) [] (U I 0 0) W (ao.o W (H.t E)) (aq.o W (H.t E)) (b6.o.ext E) (Sl.nil _ _ _)).mono λe w' ⟨h1,h2⟩=>⟨by rw[h1,ar.o.2.2.1],h2⟩)
 have c5:=λW (E:Ext wB W)=>Z (DM _ ar.o.1.val ar.o.2.1 (.agg y0) [98,97] (by decide) Α ar.o.2.2.2.1 (2,3) W (ao.o W (H.t E)) (aq.o W (H.t E)) (b6.o.ext E) #[.int .u8 98,.int .u8 97] rfl 2 rfl)
 have c6:=λW (E:Ext wB W)=>Z (DM _ ar.o.1.val ar.o.2.1 (.agg y0) [97,98] (by decide) Ε ar.o.2.2.2.2 (2,3) W (ao.o W (H.t E)) (aq.o W (H.t E)) (b6.o.ext E) #[.int .u8 97,.int .u8 98] rfl 2 rfl)
 go_upto_region 13 with (first
  | (refine Kw rfl 40 (δ 15) rfl _ rfl _ _ _ _ a6.o Ο rfl cw ?_)
  | (go_at_call 24;(with_reducible refine (cz _ ab).o.mono ?_);rintro e wA ⟨rfl,ad⟩;have ab:=ab.t ad;have a6:=Z (ad.heap a6.o);clear ad cz)
  | (go_at_call 24;(with_reducible refine (c5 _ ab).o.mono ?_);rintro e wA ⟨rfl,ad⟩;have ab:=ab.t ad;have a6:=Z (ad.heap a6.o);clear ad c5)
  | (go_at_call 24;(with_reducible refine (c6 _ ab).o.mono ?_);rintro e wA ⟨rfl,ad⟩;have ab:=ab.t ad;have a6:=Z (ad.heap a6.o);clear ad c6))
 replace T:=Z (T.o.ext ab);replace ae:=Z (ae.o.ext ab);replace ag:=Z (ag.o.ext ab);replace X:=Z (X.o.ext ab);replace aj:=Z (aj.o.ext ab);replace HX:=Z (ab.heap HX.o);replace HD:=Z (HD.o.ext ab);replace H:=H.t ab;clear ab;have c7:=λW (E:Ext wA W)=>Z (Vg 0 2 2 3 _ W (ae.o.ext E) #[.int Φ 0,.int Φ 2,.int Φ 2,.int Φ 3] rfl)
 have c8:=λW (E:Ext wA W)=>Z (Vg 0 0 0 3 _ W (ag.o.ext E) #[.int Φ 0,.int Φ 0,.int Φ 0,.int Φ 3] rfl)
 have ah:=Κ wA;go_upto_region 14 with (first
  | (go_at_call 25;(with_reducible refine (c7 _ ah).o.mono ?_);rintro e wB ⟨rfl,ad⟩;have ah:=ah.t ad;clear ad c7)
  | (go_at_call 25;(with_reducible refine (c8 _ ah).o.mono ?_);rintro e wC ⟨rfl,ad⟩;have ah:=ah.t ad;clear ad c8))
 replace T:=Z (T.o.ext ah);replace X:=Z (X.o.ext ah);replace aj:=Z (aj.o.ext ah);replace HX:=Z (ah.heap HX.o);replace HD:=Z (HD.o.ext ah);replace H:=H.t ah;clear ah;have c9:Enters Η 26:=enters_of Tryz.func26 (by kernel_rfl) rfl;have b7:=λW (E:Ext wC W)=>X.o.ext E
 have b8:=λW (E:Ext wC W)=>aj.o.ext E
 have du:∀ W,Ext wC W->ϛ Η 14 [.agg y1,.agg V].toArray W λe w'=>e=Ψ (.bool Α)/\Ext W w':=λW E=>(Lg _ _ _ _ W (b7 W E).r1.2.1 (HD.o.ext E)).mono λe w' ⟨h1,h2⟩=>⟨by rw[h1,decide_eq_true (BU cg.o.1 bn.o.1 cg.o.2 bn.o.2)],h2⟩
 have dv:∀ W,Ext wC W->ϛ Η 14 [.agg X0,.agg V].toArray W λe w'=>e=Ψ (.bool Α)/\Ext W w':=λW E=>(Lg _ _ _ _ W (b8 W E).h0.2.1 (HD.o.ext E)).mono λe w' ⟨h1,h2⟩=>⟨by rw[h1,decide_eq_true (BU ck.o.1 bn.o.1 ck.o.2 bn.o.2)],h2⟩
 have f104:∀ W,Ext wC W->ϛ Η 26 [U (J ⟨gp,0,I⟩) 2 cp].toArray W λe w'=>e=Ψ (.int Φ 0)/\Ext W w':=λW E=>EV (Ce [0,1]) (N4 _) gp 0 cp W (ao.o W (H.t E)) (aq.o W (H.t E)) (T.o.ext E)
 refine EJ 177 Α 0 (.bool Α) [.keep,.keep,.keep,.pure,.keep,.keep,.pure,.pure,.keep,.keep,.pure,.pure,N6 (δ 151) g1 1 (U (J ⟨bw,0,I⟩) 2 de) (λW E=>(b7 W E).c1),.pure,ldR (δ 153) bw 3 y1 X.o.r1.2.2 (λW E=>(b7 W E).r1.1),ldA HX.o ct,Mo 14 Sh [.agg y1,.agg V] _ λW E=>du W E,.pure,.keep,.keep,.pure,.pure,N6 (δ 161) g2 0 (U (J ⟨cj,0,I⟩) 2 dh) (λW E=>(b8 W E).c0),.pure,ldR (δ 163) cj 0 X0 aj.o.h0.2.2 (λW E=>(b8 W E).h0.1),ldA HX.o ct,Mo 14 Sh [.agg X0,.agg V] _ λW E=>dv W E,.pure,.keep,Mo 26 c9 [U I 0 0] _ λW E=>EX W,.pure,.pure,.keep,.keep,Mo 26 c9 [U (J ⟨gp,0,I⟩) 2 cp] _ λW E=>f104 W E,.pure,.pure,.keep] (λ_=>rfl) (by kernel_rfl) rfl rfl (λW=>by kernel_rfl) (by kernel_rfl) ?_;intro a' W' dw dx ht;go_wp2;refine bodyPost_ret (results_tmp rfl _ _ _) dx ?_;rw[ht];exact⟨rfl,H.t dw⟩
theorem Jv (l:List UInt8) (v:Δ) (w:Γ) (E:ByW w v l):ϛ Η 10 #[v] w λe w'=>∃ ps g c,e=Ψ (U (J ⟨g,0,I⟩) ps.length c)/\PatOk ps/\ps.length<=3/\PatAt w' g 0 ps/\Ext w w':=
 (X8 l v w E).mono λe w' ⟨g,c,h1,G,H⟩=>⟨_,g,c,h1,N4 l,(Ya l).2,G,H⟩
theorem Le {W:Γ} {b o m n c k:Nat} {f:Nat->Δ} (h:Sl W (U (J ⟨b,o,I⟩) m c) k n f) (i:Nat) (hi:i<n*k):W.cell? ⟨b,o+i,I⟩=J (f i):=by
 obtain⟨_,⟨G,_⟩|⟨_,b',T,X,E,_,hc⟩⟩:=h
 ·rw[G,Nat.zero_mul] at hi;omega
 injection E with E _ _
 injection E with E
 injection E with hb H _
 subst hb H;exact hc i hi
theorem Np {W:Γ} {b o:Nat} {ps:List PtN} (h:PatAt W b o ps) (i:Nat) (hi:i<ps.length):W.cell? ⟨b,o+i*2+1,I⟩=J (.bool (ps.getD i pN).lz):=by obtain⟨_,_,_,h1,_⟩:=h i hi;exact h1 1 _ rfl
theorem MatOut.cases {W:Γ} {e:Ending} {ps:List PtN} {x:List UInt8} (H:PatOk ps) (h:MatOut W e ps x):∃ ds,DsOf ps ds/\((¬ Bp ds x/\e=Ψ (ϗ #[U I 0 0,.bool Ε]))\/∃ l b o c,Cb (pts ps ds) x 0 l/\l.length=ps.length/\(∀ i,i<ps.length->W.cell? ⟨b,o+i*2,I⟩=J (iv (l.getD i (0,0)).1)/\W.cell? ⟨b,o+i*2+1,I⟩=J (iv (l.getD i (0,0)).2))/\e=Ψ (ϗ #[U (J ⟨b,o,I⟩) ps.length c,.bool Α])):=by
 obtain⟨ds,G,h|⟨l,v,h1,T,rfl⟩⟩:=h
 ·exact⟨ds,G,.inl h⟩
 have E:=(Ot H G h1).1;obtain⟨b,o,c,rfl,hc⟩:=â T (by rw[E];exact H.pos);refine⟨ds,G,.inr ⟨l,b,o,c,h1,E,λi hi=>⟨?_,?_⟩,by rw[E]⟩⟩
 ·rw[hc _ (by rw[E];omega),P0]
 rw[Nat.add_assoc,hc _ (by rw[E];omega),Pz]
end Go.Proofs.YtilncahcpjlfnaaGreatDoor
