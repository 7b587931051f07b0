/-
  The walk of PatternUnique.
-/
import Derived.Test.YtilncahcpjlfnaaGreatDoorM18
import Derived.Test.YtilncahcpjlfnaaGreatDoorM17
import Derived.Test.YtilncahcpjlfnaaGreatDoorM13
set_option linter.unusedVariables false
set_option linter.unusedSimpArgs false
set_option maxRecDepth 100000
set_option maxHeartbeats 8000000
open Bool renaming false → Ε, true → Α, and_eq_true → ψ
open Go renaming World → Γ, Value → Δ, undef → Ω
open Go.IntKind renaming i64 → Φ
open Go.Lib renaming hid → Z
open Go.Obj renaming cells → Β
open Go.Proofs.Tryz renaming prog → Η
open Go.Value renaming slice → U
open Go.World renaming ownsRow_lit → Á
open List renaming getD_eq_getElem?_getD → Ζ, getElem?_append_left → χ, getElem?_append_right → ς, range → π, getElem?_eq_getElem → Ι, drop_zero → ϰ, setIfInBounds_toArray → Θ, set_cons_zero → Μ, set_cons_succ → Λ
open Nat renaming zero_add → ϖ, add_zero → è, le_refl → Υ
open Option renaming some → J, none → I
namespace Go.Proofs.YtilncahcpjlfnaaGreatDoor
open Go.RowKit Go.Shelf
structure QRow (wp:Γ) (xs:List Δ) (ps:List PtN) (n:Nat):Prop where
 len:xs.length=n*2
 at_:∀ i,i<n->∃ b o c z,xs.getD (i*2) Ω=U (J ⟨b,o,I⟩) (ps.getD i pN).xs.length c/\RxAt wp b o (ps.getD i pN).xs/\xs.getD (i*2+1) Ω=.bool z
theorem QRow.nil (wp:Γ) (ps:List PtN):QRow wp [] ps 0:=⟨rfl,λi hi=>by omega⟩
theorem QRow.snoc {wp:Γ} {xs:List Δ} {ps:List PtN} {n:Nat} (h:QRow wp xs ps n) {b o c:Nat} {z:Bool} (G:RxAt wp b o (ps.getD n pN).xs):QRow wp (xs++[U (J ⟨b,o,I⟩) (ps.getD n pN).xs.length c,.bool z]) ps (n+1) where
 len:=by rw[List.length_append,h.len];simp;omega
 at_:=λi hi=>by
  have E:=h.len;by_cases e:i<n
  ·obtain⟨b',H,T,X,h1,h2,h3⟩:=h.at_ i e;refine⟨b',H,T,X,?_,h2,?_⟩
   ·rw[Ζ,χ (by omega),<-Ζ,h1]
   rw[Ζ,χ (by omega),<-Ζ,h3]
  obtain rfl:i=n:=by omega
  refine⟨b,o,c,z,?_,G,?_⟩
  ·rw[Ζ,ς (by omega),E,Nat.sub_self];rfl
  rw[Ζ,ς (by omega),E,Nat.add_sub_cancel_left];rfl
def Ts:Δ->Bool
 | .bool z=>z
 | _=>Ε
theorem QRow.pat {wp:Γ} {xs:List Δ} {ps:List PtN} (h:QRow wp xs ps ps.length):∃ G:List PtN,G.length=ps.length/\(∀ i,i<ps.length->(G.getD i pN).xs=(ps.getD i pN).xs)/\∀ W g,Ext wp W->(∀ j,j<ps.length*2->W.cell? ⟨g,j,I⟩=J (xs.getD j Ω))->PatAt W g 0 G:=by
 have hg:∀ i,i<ps.length->((π ps.length).map λi=>(⟨(ps.getD i pN).xs,Ts (xs.getD (i*2+1) Ω)⟩:PtN)).getD i pN=⟨(ps.getD i pN).xs,Ts (xs.getD (i*2+1) Ω)⟩:=λi hi=>by rw[Ζ,List.getElem?_map,List.getElem?_range hi];rfl
 refine⟨(π ps.length).map λi=>⟨(ps.getD i pN).xs,Ts (xs.getD (i*2+1) Ω)⟩,by simp,λi hi=>by rw[hg i hi],λW g H hc i hi=>?_⟩;have hi:i<ps.length:=by simpa using hi
 obtain⟨b,o,c,z,h1,T,X⟩:=h.at_ i hi;rw[hg i hi];refine⟨b,o,c,λj v E=>?_,T.ext H⟩;rw[ϖ]
 match j,E with
 | 0,E=>
  injection E with E
  rw[<-E,è,hc _ (by omega),h1]
 | 1,E=>
  injection E with E
  rw[<-E,hc _ (by omega),X];rfl
 | j+2,E=>simp at E
theorem PatOk.same {ps E:List PtN} (G:PatOk ps) (H:E.length=ps.length) (hx:∀ i,i<ps.length->(E.getD i pN).xs=(ps.getD i pN).xs):PatOk E:=
 ⟨by rw[H];exact G.pos,by rw[H];exact G.le,λi hi=>by rw[hx i (by omega)];exact G.part i (by omega)⟩
theorem Zc:(Η.info? 48).map (λi=>(i.zero,i.size,i.bytes))=J (J (.agg #[U I 0 0,.bool Ε]),2,32):=by kernel_rfl
structure UInv (ok V:Nat->Nat->Prop) (n c0 c1:Nat):Prop where
 z:n=0->∀ a b,V a b->¬ ok a b
 p:0<n->ok c0 c1
 u:n=1->∀ a b,V a b->ok a b->a=c0/\b=c1
theorem UInv.hit {ok V V':Nat->Nat->Prop} {n c0 c1 i k:Nat} (h:UInv ok V n c0 c1) (H:ok i k) (T:∀ a b,V' a b->ok a b->V a b\/(a=i/\b=k)):UInv ok V' (n+1) i k where
 z:=λe=>by omega
 p:=λ_=>H
 u:=λe a b h1 G=>by
  rcases T a b h1 G with E|E
  ·exact absurd G (h.z (by omega) a b E)
  exact E
theorem UInv.next {ok V V':Nat->Nat->Prop} {n c0 c1:Nat} (h:UInv ok V n c0 c1) (G:∀ a b,V' a b->ok a b->V a b):UInv ok V' n c0 c1:=
 ⟨λe a b h1 E=>h.z e a b (G a b h1 E) E,h.p,λe a b h1 E=>h.u e a b (G a b h1 E) E⟩
def OkU (ps:List PtN) (x:List UInt8) (a b:Nat):Prop:=(ps.length<3->b=0)/\(ps.length<2->a=0)/\a<=x.length/\b<=x.length/\Co ps x [a,b] 0 0 ps.length=Α
theorem Pk {X a b:Nat} (E:a<=X) (hb:b<=X):∀ i,i<[a,b].length->[a,b].getD i 0<=X:=λi hi=>by
 have:i=0\/i=1:=by simp at hi;omega
 rcases this with rfl|rfl
 ·exact E
 exact hb
theorem Un {ps qs:List PtN} {ds:List Dfa} {x:List UInt8} (H:PatOk ps) (T:ps.length<=3) (X:DsOf ps ds) (ah:PatOk qs) (hq:DsOf qs ds) (ai:qs.length=ps.length) {n c0 c1:Nat} (h:UInv (OkU ps x) (λa _=>a<=x.length) n c0 c1) :
  (¬ Bp ds x->n=0)/\∀ l,Cb (pts qs ds) x 0 l->0<n/\(n=1->∀ i,i+1<ps.length->(l.getD i (0,0)).2=[c0,c1].getD i 0):=by
 refine⟨λhn=>?_,λl hl=>?_⟩
 ·by_cases e:n=0
  ·exact e
  have:=h.p (by omega);exact absurd (Lk H X (Pk this.2.2.1 this.2.2.2.1) (by simpa using T) this.2.2.2.2).1 hn
 obtain⟨ak,ad⟩:=Ot ah hq hl;rw[ai] at ak ad;have hX:∀ i,i<ps.length->(l.getD i (0,0)).2<=x.length:=λi hi=>(ad i hi).2.2.1
 obtain⟨a,G⟩:=Xq ((if 1<ps.length then (l.getD 0 (0,0)).2 else 0));obtain⟨b,hb⟩:=Xq ((if 2<ps.length then (l.getD 1 (0,0)).2 else 0));have E:a<=x.length:=by
  rw[<-G];split
  ·exact hX 0 (by omega)
  omega
 have af:b<=x.length:=by
  rw[<-hb];split
  ·exact hX 1 (by omega)
  omega
 have hg:∀ i,i+1<ps.length->[a,b].getD i 0=(l.getD i (0,0)).2:=λi hi=>by
  have:i=0\/i=1:=by omega
  rcases this with rfl|rfl
  ·show a=_;rw[<-G,if_pos (by omega)]
  show b=_;rw[<-hb,if_pos (by omega)]
 have ag:OkU ps x a b:=⟨λh=>by rw[<-hb,if_neg (by omega)],λh=>by rw[<-G,if_neg (by omega)],E,af,NY H X hq hl (Pk E af) (by simpa using T) hg⟩;refine⟨Nat.pos_of_ne_zero λe=>h.z e a b E ag,λe i hi=>?_⟩;obtain⟨e1,e2⟩:=h.u e a b E ag;rw[<-hg i hi,e1,e2]
theorem Zh {ps:List PtN} {ds:List Dfa} (X:PatOk ps) (G:DsOf ps ds) {E:List (List UInt8)} (hl:E.length=ps.length) (h:∀ i,i<ps.length->Fk (ps.getD i pN).xs (E.getD i [])=Α):InR (pts ps ds) E:=by
 have key:∀ k i,i+k=ps.length->InR ((pts ps ds).drop i) (E.drop i):=by
  intro k;induction k with
  | zero=>
   intro i hi;have e1:(pts ps ds).drop i=[]:=List.drop_eq_nil_of_le (by have:=congrArg List.length (Et (ps:=ps) G.len);rw[List.length_map] at this;rw[this,G.len];omega)
   have e2:E.drop i=[]:=List.drop_eq_nil_of_le (by omega);rw[e1,e2];rfl
  | succ k ih=>
   intro i hi;have H:i<ds.length:=by rw[G.len];omega
   have T:i<E.length:=by omega
   rw[Qh G.len H,List.drop_eq_getElem_cons T];refine⟨_,_,rfl,?_,ih (i+1) (by omega)⟩;have:=h i (by omega);rw[Rv (X.part i (by omega)).1 (G.at_ i H).1,Ζ (l:=E),Ι T] at this;exact this
 have:=key ps.length 0 (by omega)
 rwa [ϰ,ϰ] at this
def MchI (c:List Opt) (E:List (List UInt8)) (j:Nat) (z:Bool):Prop:=z=Α↔∀ k,j<=k->k<E.length->(c.getD k oN).head.has (E.getD k [])=Α/\(c.getD k oN).rest.has (E.drop (k+1)).flatten=Α
theorem MchI.start (c:List Opt) (E:List (List UInt8)):MchI c E E.length Α:=⟨λ_ k h1 G=>by omega,λ_=>rfl⟩
theorem MchI.step {c:List Opt} {E:List (List UInt8)} {j:Nat} {z:Bool} (H:j<E.length) (h:MchI c E (j+1) z):MchI c E j (z&&((c.getD j oN).head.has (E.getD j [])&&(c.getD j oN).rest.has (E.drop (j+1)).flatten)):=by
 unfold MchI at h ⊢;rw[ψ,ψ,h];constructor
 ·rintro⟨h1,T⟩ k X G;by_cases e:k=j
  ·subst e;exact T
  exact h1 k (by omega) G
 exact λh=>⟨λk X G=>h k (by omega) G,h j (Υ _) H⟩
theorem MchI.cnt {cs:List (List Opt)} {E:List (List UInt8)} {i:Nat} {z:Bool} (H:(cs.getD i []).length=E.length) (h:MchI (cs.getD i []) E 0 z):Db cs E (i+1)=Db cs E i+(if z=Α then 1 else 0):=by
 have hd:Ee (cs.getD i []) E↔z=Α:=by unfold MchI at h;rw[Sx,h];exact⟨λh k _ G=>h.2 k G,λh=>⟨H,λk G=>h k (by omega) G⟩⟩
 rw[Db];by_cases e:Ee (cs.getD i []) E
 ·rw[if_pos e,if_pos (hd.1 e)]
 rw[if_neg e,if_neg λh=>e (hd.2 h)]
theorem QV {W:Γ} {g base c0 c1:Nat} (h:W.ownsRow base 3 1 (U (J ⟨g,0,I⟩) 2 2) 2 [iv c0,iv c1]):Ints W (U (J ⟨g,0,I⟩) 2 2) [c0,c1]:=by
 have h1:=Sl.of_owns h (by decide) Ω;refine Sl.congr h1 λi hi=>?_
 have hi:i<2:=by simpa using hi
 match i,hi with
 | 0,_=>rfl
 | 1,_=>rfl
theorem Rm (W:Γ) (a b:Nat):Ints (W.alloc (Β #[.int Φ a,.int Φ b] 3)) (U (J ⟨W.heap.size,0,I⟩) 2 2) [a,b]:=
 QV (base:=W.heap.size) (Á W #[.int Φ a,.int Φ b] 2 (Υ _) (by unfold maxLen;omega) rfl)
theorem FA (l:List UInt8) (vl:Δ) (b:List UInt8) (vb:Δ) (F:Nat) (hF:F<256) (w:Γ) (hT:Tab w) (ay:0<w.heap.size) (hl:ByW w vl l) (hb:ByW w vb b) :
  Calls Η 7 #[vl,vb,.int .u8 F] w λe w'=>e=.returned (.bool Α)/\Ext w w':=by
 obtain⟨j0,hj,ek,en,eo⟩:=info_parts Zc;have ep:=Z (λW (hW:Ext w W)=>hT.below hW.below ay);have er:=Z (λW (hW:Ext w W)=>Nat.lt_of_lt_of_le ay hW.size);have HL:=Z (λW (hW:Ext w W)=>hl.ext hW);have HB:=Z (λW (hW:Ext w W)=>hb.ext hW);have f50:=Z (Jj w hT ay);obtain⟨bg,hZ⟩:=Xq ((F:Int):Int);have fp:0<=bg:=by omega
 have fq:bg<256:=by omega
 rw[hZ];clear hl hb hT ay hZ hF;go_enter Tryz.func7,Tryz.ntmps7;go_upto_region 2 with (go_at_call 9;(with_reducible refine f50.o.mono ?_);rintro e w1 ⟨rfl,E⟩)
 clear f50;have f51:=Z (Jv l vl w1 (HL.o w1 E));go_upto_region 3 with (go_at_call 10;(with_reducible refine f51.o.mono ?_);rintro e w2 ⟨ps,gp,cp,rfl,hp,bh,c6,af⟩)
 clear f51;have HP:=Z hp;have a1:=Z c6;have ey:=hp.pos;obtain⟨N,hN⟩:=Xq (ps.length);have G:=Z hN;rw[hN] at bh ey;rw[hN];replace E:=E.t af;clear hp c6 af hN;have f33:=Z (Sb 8 8 rfl (by decide) b vb w2 (HB.o w2 E));go_upto_region 4 with (go_at_call 19;(with_reducible refine f33.o.mono ?_);rintro e w3 ⟨x,gx,cx,rfl,ez,c9,da,af⟩)
 clear f33;replace a1:=Z (a1.o.ext af);replace E:=E.t af;have b4:=Z c9;obtain⟨X,hX⟩:=Xq (x.length);have HX:=Z hX;rw[hX] at b4 ez da;rw[hX];have e0:=Z E;clear c9 af hX E;have E:=(Κ w3).alloc (Β #[.int Φ 0,.int Φ 0] 3);have db:=Z (Rm w3 0 0);have dc:Hid (UInv (OkU ps x) (λa b=>a<0\/(a=0/\b<0)) 0 0 0):=Z ⟨λ_ a b h=>by omega,λh=>by omega,λh=>by omega⟩;go_wp2_with (fail);go_loopw [10,11,12] (λvn vo H W=>∃ (i n c0 c1 g:Nat),i<=X+1/\n<=9*i/\vn=.int Φ n/\vo=U (J ⟨g,0,I⟩) 2 2/\H=.int Φ i/\Ext w3 W/\Hid (Ints W (U (J ⟨g,0,I⟩) 2 2) [c0,c1])/\Hid (UInv (OkU ps x) (λa b=>a<i\/(a=i/\b<0)) n c0 c1))
  (λ_ _ H _=>X+1-(intOf H).toNat)
 case atStart=>exact⟨0,0,0,0,_,by omega,by omega,rfl,rfl,rfl,E,db,dc⟩
 clear E db dc;obtain⟨i,n,c0,c1,g,fs,b7,rfl,rfl,rfl,E,HI,T⟩:=hrel;by_cases a6:i<=X
 ·have b8:(i:Int)<=(X:Int):=by omega
  have dd:Hid (UInv (OkU ps x) (λa b=>a<i\/(a=i/\b<0)) n c0 c1):=T;have de:n<=9*i+0:=by omega
  clear T;go_wp2_with (fail);go_loopw [10,11,13] (λvn vo H W=>∃ (k n c0 c1 g:Nat),k<=X+1/\n<=9*i+k/\vn=.int Φ n/\vo=U (J ⟨g,0,I⟩) 2 2/\H=.int Φ k/\Ext w3 W/\Hid (Ints W (U (J ⟨g,0,I⟩) 2 2) [c0,c1])/\Hid (UInv (OkU ps x) (λa b=>a<i\/(a=i/\b<k)) n c0 c1))
   (λ_ _ H _=>X+1-(intOf H).toNat)
  case atStart=>exact⟨0,n,c0,c1,g,by omega,de,rfl,rfl,rfl,E,HI,dd⟩
  clear E HI dd b7 de;obtain⟨k,n,c0,c1,g,ft,b7,rfl,rfl,rfl,E,HI,T⟩:=hrel;by_cases df:k<=X
  ·obtain⟨K,hK⟩:=Xq ((k:Int):Int);obtain⟨ad,hI⟩:=Xq ((i:Int):Int);have HK:=Z hK;have ca:=Z hI;have e1:K<=(X:Int):=by omega
   have fu:0<=K:=by omega
   have fv:0<=ad:=by omega
   have dg:(n:Int)<=1000:=by omega
   by_cases ae:(N<3->k=0)/\(N<2->i=0)
   ·have hg:(¬ (N:Int)<3/\¬ (N:Int)<2/\(0:Int)<=K/\(0:Int)<=ad)\/((N:Int)<3/\¬ (N:Int)<2/\¬ (0:Int)<K/\(0:Int)<=ad)\/((N:Int)<3/\(N:Int)<2/\¬ (0:Int)<K/\¬ (0:Int)<ad):=by
     by_cases h3:N<3
     ·have:=ae.1 h3;by_cases h2:N<2
      ·have:=ae.2 h2;omega
      omega
     omega
    have f55:=Su ps HP.o x (by rw[HX.o];omega) [i,k] (by rw[G.o];exact bh) (λj hj=>by rw[HX.o];exact Pk a6 df j hj) gp 0 cp gx cx (by rw[HX.o];exact da) _ (wr.alloc (Β #[.int Φ i,.int Φ k] 3)) (a1.o.ext (E.alloc _)) (by rw[HX.o];exact b4.o.ext (E.alloc _)) (Rm wr i k);rw[G.o,HX.o] at f55;obtain⟨d,hd⟩:=Xq (Co ps x [i,k] 0 0 N);rw[hd] at f55;rw[hK,hI] at f55;have f55:=Z f55;rw[hK,hI];clear hK hI;cases d with
    | true=>
     have dh:OkU ps x i k:=⟨by rw[G.o];exact ae.1,by rw[G.o];exact ae.2,by rw[HX.o];exact a6,by rw[HX.o];exact df,by rw[G.o];exact hd⟩;have aw:=Z (T.o.hit dh (V':=λa b=>a<i\/(a=i/\b<k+1)) (λa b h _=>by have h:a<i\/(a=i/\b<k+1):=h;show (a<i\/(a=i/\b<k))\/_;omega))
     clear hd dh T ae;rcases hg with⟨g1,g2,g3,g4⟩|⟨g1,g2,g3,g4⟩|⟨g1,g2,g3,g4⟩
     all_goals
      go_wp2_with (go_at_call 20;(with_reducible refine f55.o.mono ?_);rintro e w5 ⟨rfl,af⟩);have cc:=((E.alloc (Β #[.int Φ ad,.int Φ K] 3)).trans af).alloc (Β #[.int Φ ad,.int Φ K] 3);obtain rfl:=HK.o;obtain rfl:=ca.o;go_roundw
      case rel=>exact⟨k+1,n+1,i,k,w5.heap.size,by omega,by omega,by go_num,rfl,by go_num,cc,Z (Rm w5 i k),aw⟩
      simp[intOf]<;>omega
    | false=>
     have ar:¬ OkU ps x i k:=λh=>by have:=h.2.2.2.2;rw[G.o,hd] at this;cases this
     have aw:=Z (T.o.next (V':=λa b=>a<i\/(a=i/\b<k+1)) (λa b h h2=>by
      have h:a<i\/(a=i/\b<k+1):=h;show a<i\/(a=i/\b<k);by_cases e:a=i/\b=k
      ·obtain⟨rfl,rfl⟩:=e;exact absurd h2 ar
      omega))
     clear hd ar T ae;rcases hg with⟨g1,g2,g3,g4⟩|⟨g1,g2,g3,g4⟩|⟨g1,g2,g3,g4⟩
     all_goals
      go_wp2_with (go_at_call 20;(with_reducible refine f55.o.mono ?_);rintro e w5 ⟨rfl,af⟩);have dk:=((Κ wr).alloc (Β #[.int Φ ad,.int Φ K] 3)).trans af;have cc:=E.t dk;obtain rfl:=HK.o;obtain rfl:=ca.o;go_roundw
      case rel=>exact⟨k+1,n,c0,c1,g,by omega,by omega,rfl,rfl,by go_num,cc,Z (show Ints w5 _ [c0,c1] from Sl.ext HI.o dk),aw⟩
      simp[intOf]<;>omega
   have hg:((N:Int)<3/\¬ (N:Int)<2/\(0:Int)<K/\(0:Int)<=ad)\/((N:Int)<3/\(N:Int)<2/\(0:Int)<K/\(0:Int)<ad)\/((N:Int)<3/\(N:Int)<2/\(0:Int)<K/\¬ (0:Int)<ad)\/((N:Int)<3/\(N:Int)<2/\¬ (0:Int)<K/\(0:Int)<ad):=by
    by_cases h3:N<3
    ·by_cases h2:N<2
     ·have:¬ (k=0/\i=0):=λh=>ae ⟨λ_=>h.1,λ_=>h.2⟩
      omega
     have:¬ k=0:=λh=>ae ⟨λ_=>h,λh=>absurd h h2⟩
     omega
    exact absurd ⟨λh=>absurd h h3,λh=>by omega⟩ ae
   have ar:¬ OkU ps x i k:=λh=>ae ⟨by rw[<-G.o];exact h.1,by rw[<-G.o];exact h.2.1⟩
   have aw:=Z (T.o.next (V':=λa b=>a<i\/(a=i/\b<k+1)) (λa b h h2=>by
    have h:a<i\/(a=i/\b<k+1):=h;show a<i\/(a=i/\b<k);by_cases e:a=i/\b=k
    ·obtain⟨rfl,rfl⟩:=e;exact absurd h2 ar
    omega))
   rw[hK,hI];clear ar T ae hK hI;rcases hg with⟨g1,g2,g3,g4⟩|⟨g1,g2,g3,g4⟩|⟨g1,g2,g3,g4⟩|⟨g1,g2,g3,g4⟩
   all_goals
    go_wp2_with (fail);obtain rfl:=HK.o;obtain rfl:=ca.o;go_roundw
    case rel=>exact⟨k+1,n,c0,c1,g,by omega,by omega,rfl,rfl,by go_num,E,HI,aw⟩
    simp[intOf]<;>omega
  obtain rfl:k=X+1:=by omega
  have e1:¬ ((X:Int)+1<=(X:Int)):=by omega
  have fw:((X+1:Nat):Int)=(X:Int)+1:=by omega
  have aw:=Z (T.o.next (V':=λa b=>a<i+1\/(a=i+1/\b<0)) (λa b h h2=>by have h:a<i+1\/(a=i+1/\b<0):=h;have hb:=h2.2.2.2.1;rw[HX.o] at hb;show a<i\/(a=i/\b<X+1);omega))
  clear T;go_wp2_with (fail);go_roundw
  case rel=>exact⟨i+1,n,c0,c1,g,by omega,by omega,rfl,rfl,by go_num,E,HI,aw⟩
  simp[intOf]<;>omega
 obtain rfl:i=X+1:=by omega
 have b8:¬ ((X:Int)+1<=(X:Int)):=by omega
 have fx:((X+1:Nat):Int)=(X:Int)+1:=by omega
 have cd:=Z (T.o.next (V':=λa _=>a<=x.length) (λa b h h2=>by have h:a<=x.length:=h;rw[HX.o] at h;show a<X+1\/(a=X+1/\b<0);omega))
 have dg:(n:Int)<=1000:=by omega
 clear T b7;obtain⟨w4,e2⟩:∃ V,V=wr:=⟨_,rfl⟩;subst e2;have e3:=HI;have e4:=Z E;replace a1:=Z (a1.o.ext E);replace E:=e0.o.t E;clear HI;have dm:=(Κ w4).alloc (Β #[] 48);have dn:Γ.ownsRow (w4.alloc (Β #[] 48)) w4.heap.size 48 2 (U (J ⟨w4.heap.size,0,I⟩) 0 0) 0 []:=Á (base:=w4.heap.size) (e:=48) (size:=2) w4 #[] 0 (Υ _) (by unfold maxLen;omega) rfl;have e5:=Z E;clear E;go_wp2_with (fail);go_loopw [16,17] (λvx H W=>∃ (j:Nat) (xs:List Δ) (g c:Nat),j<=N/\vx=U (J ⟨g,0,I⟩) j c/\H=.int Φ j/\Ext w4 W/\W.ownsRow w4.heap.size 48 2 (U (J ⟨g,0,I⟩) j c) j xs/\Hid (QRow w4 xs ps j))
  (λ_ H _=>N-(intOf H).toNat)
 case atStart=>exact⟨0,[],_,_,by omega,rfl,rfl,dm,dn,Z (QRow.nil _ _)⟩
 clear dm dn;obtain⟨i,xs,g,c,e7,rfl,rfl,E,hO,HI⟩:=hrel;have ay:=E.size;by_cases a6:i<N
 ·have b8:(i:Int)<(N:Int):=by omega
  have fy:(0:Int)<=(i:Int):=by omega
  obtain⟨b',o',c',dp,dq⟩:=a1.o i (by rw[G.o];exact a6);have dr:=Z dq;have k1:=dp 0 _ rfl;simp only[ϖ,è] at k1;have cf:=Z (λV (hV:Ext w4 V)=>hV.cell k1);obtain⟨nx,cg⟩:=Xq ((ps.getD i pN).xs.length);have dt:=Z cg;rw[cg] at cf;clear k1 cg dp dq;go_upto_region 21 with (fail)
  refine Bl 14 [(0,Α),(1,Α),(2,Α),(3,Α),(4,Α),(5,Α),(6,Α),(7,Α),(8,Α),(9,Α),(10,Α),(11,Α),(12,Ε),(13,Ε),(14,Ε)] (by kernel_rfl) (by kernel_rfl) (λ_ _ _ _ h=>h) (λV=>Ext w4 V) (E.t (Κ wr).drew) ?_;have bc:=E.t (Κ wr).drew;have bq:=Aa hO (Κ wr).drew;obtain⟨wy,cj⟩:=Xq (wr.drew);rw[cj] at bc bq;rw[cj];clear cj E hO;iterate 11
   refine Af (v:=?_) rfl rfl (λV hV=>?_) ?_
   rotate_left
   ·have k1:=cf.o V hV;clear hV;go_simp;first|done|with_reducible rfl
   simp only[Act.put,Θ,Μ,Λ]
  obtain⟨z,hz⟩:=Xq (((bg / 2 ^ i).tmod 2==1):Bool);simp only[hz];clear hz;obtain⟨S,hS⟩:=Xq (bg / 2 ^ i);simp only[hS];clear hS;have dw:=Z (Tm (U (J ⟨b',o',I⟩) nx c') _ _ _ rfl z);refine Af (v:=.agg #[U (J ⟨b',o',I⟩) nx c',.bool z]) rfl rfl (λV _=>?_) ?_
  ·exact Fy 48 _ rfl (by simpa [Act.eval] using dw.o) V
  simp only[Act.put,Θ,Μ,Λ];refine Ao rfl (λKk hK=>?_);go_simp;refine hK _ _ (λ_=>bc.alloc _) ?_;clear hK Kk;refine Ao rfl (λKk hK=>?_);refine step_append_lies _ rfl _ _ 25 rfl w4.heap.size 48 j0 (.agg #[U I 0 0,.bool Ε]) 2 32 Tryz.underlying25 hj ek en eo rfl (by decide) (U (J ⟨g,0,I⟩) i c) _ _ rfl (bq.alloc _) _ 1 1 [U (J ⟨b',o',I⟩) nx c',.bool z] rfl rfl (Hs _ _ _ _) (by simp[Δ.oneCell']) (by decide) (by unfold maxLen;omega) (by omega) (by have:=bc.size;simp;omega) _ rfl ?_;intro g7 c7 w7 fa dx fb _;have dy:=(bc.alloc (Β #[U (J ⟨b',o',I⟩) nx c',.bool z] 48)).grown dx (λk e=>(bq.lt k e).1);refine hK _ _ (λ_=>dy) ?_;clear hK Kk;refine Ao rfl (λKk hK=>?_);go_simp;refine hK _ _ (λh=>absurd h (by omega)) ?_;clear hK Kk;refine Bj ?_;have ck:=HI.o.snoc (c:=c') (z:=z) dr.o;rw[dt.o] at ck;have HF:=Z ck;clear ck dx fb bq bc dw cf dr dt;go_wp2_with (fail);go_roundw
  case rel=>exact⟨i+1,_,g7,c7,by omega,rfl,by go_num,dy,fa,HF⟩
  simp[intOf]<;>omega
 obtain rfl:N=i:=by omega
 have cl:=HI.o;rw[<-G.o] at cl;obtain⟨qs,cm,cn,dz⟩:=cl.pat;have ea:=hO.1;have eb:=dz wr g E (λj hj=>by rw[hO.cellAt j (by rw[<-G.o];exact hj),Ζ,Ι (by rw[ea,<-G.o];exact hj)];rfl)
 have br:=Z (HP.o.same cm cn);have ec:=Z cn;have ao:=Z (cm.trans G.o);have fe:=Z eb;have cq:=Z (show Ints wr _ [c0,c1] from Sl.ext e3.o E);have ct:=Z (b4.o.ext (e4.o.t E));have ff:=Z (e5.o.t E);clear cl cm cn dz ea eb hO HI ay E;have E:=ff.o;obtain⟨w5,fg⟩:∃ V,V=wr:=⟨_,rfl⟩;subst fg;have f56:=Jt qs br.o x (by rw[HX.o];omega) g 0 c (U (J ⟨gx,0,I⟩) X cx) w5 (ep.o w5 E) (er.o w5 E) fe.o ct.o;rw[ao.o] at f56;have f56:=Z f56;go_upto_region 23 with (go_at_call 21;(with_reducible refine f56.o.mono ?_);rintro e w6 ⟨hm,bf⟩;obtain⟨ds,ax,⟨ar,rfl⟩|⟨ll,bs,os,ss,cv,cw,bt,rfl⟩⟩:=hm.cases br.o)
 ·have a8:=St (ps:=qs) (qs:=ps) (G.o.trans ao.o.symm) (λi hi=>(ec.o i (by rw[G.o,<-ao.o];exact hi)).symm) ax;have cy:=(Un HP.o (by rw[G.o];exact bh) a8 br.o ax (ao.o.trans G.o.symm) cd.o).1 ar;have ed:¬ (0:Int)<(n:Int):=by omega
  have fj:((n:Int)=1)=False:=eq_false (by omega);clear f56 hm a8 ar ax cy;go_wp2_with (fail);go_ret;exact⟨rfl,E.t bf⟩
 have a8:=St (ps:=qs) (qs:=ps) (G.o.trans ao.o.symm) (λi hi=>(ec.o i (by rw[G.o,<-ao.o];exact hi)).symm) ax;obtain⟨cy,bu⟩:=(Un HP.o (by rw[G.o];exact bh) a8 br.o ax (ao.o.trans G.o.symm) cd.o).2 ll cv;rw[ao.o] at bt cw;rw[G.o] at bu;rw[ao.o];have ed:(0:Int)<(n:Int):=by omega
 have fk:=Z bt;have fl:=Z (show Ints w6 _ [c0,c1] from Sl.ext cq.o bf);have ee:=Z (E.t bf);by_cases ef:n=1
 ·have fm:=Z (bu ef);subst ef;rw[show ((1:Nat):Int)=1 from rfl];clear f56 hm a8 ax cy bu cv cw bt E bf cq ct ed dg cd;go_wp2_with (fail);have E:=Κ w6;go_loopw [20] (λH W=>∃ (i:Nat),i<=N/\H=.int Φ i/\Ext w6 W)
   (λH _=>N-(intOf H).toNat)
  case atStart=>exact⟨0,by omega,rfl,E⟩
  clear E;obtain⟨i,e7,rfl,E⟩:=hrel;have gd:IntKind.i64.wrap ((i:Int)+1)=(i:Int)+1:=IntKind.wrap_i64_id (by omega) (by omega);by_cases a6:i+1<N
  ·have gf:(i:Int)+1<(N:Int):=by omega
   have b8:(i:Int)<(N:Int):=by omega
   have gg:(i:Int)<2:=by omega
   have k1:=Aw (E.cell (fk.o i (by omega)).2);have k2:=Aw (E.cell (Le fl.o i (by simp;omega)));have eg:=fm.o i a6;rw[eg] at k1;clear eg;obtain⟨s,hs⟩:=Xq ([c0,c1].getD i 0);rw[hs] at k1 k2;clear hs;go_upto_region 30 with (fail)
   simp only[ϖ] at k2;refine B2 (by kernel_rfl) (by kernel_rfl) ?_;iterate 10 (with_reducible refine wpQuiet_step (λK hK=>?_);go_simp;(refine hK _ ?_;clear hK K))
   refine wpQuiet_nil ?_;rintro _ ⟨e,rfl⟩;have fo:=E.t e.ext;clear k1 k2 E;generalize e.W=w8 at *;go_wp2_with (fail);go_roundw
   case rel=>exact⟨i+1,by omega,by go_num,fo⟩
   simp[intOf]<;>omega
  go_wp2_with (fail);go_ret;exact⟨rfl,ee.o.t E⟩
 have fj:((n:Int)=1)=False:=eq_false (by omega);clear f56 hm a8 ax bu cv cw bt E bf cq ct;go_wp2_with (fail);go_ret;exact⟨rfl,ee.o⟩
end Go.Proofs.YtilncahcpjlfnaaGreatDoor
