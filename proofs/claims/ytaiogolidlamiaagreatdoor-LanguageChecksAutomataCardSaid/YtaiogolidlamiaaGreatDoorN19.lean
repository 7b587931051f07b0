import Derived.Test.YtaiogolidlamiaaGreatDoorN18
import Derived.Test.YtaiogolidlamiaaGreatDoorN03
import Derived.Maps.AppendAt
import Derived.Test.YtaiogolidlamiaaGreatDoorN15
import Derived.Test.YtaiogolidlamiaaGreatDoorN16
import Derived.Test.YtaiogolidlamiaaGreatDoorN10
set_option linter.unusedVariables false
set_option linter.unusedSimpArgs false
open BitVec renaming getLsbD_and → ç, getLsbD_zero → õ
open Bool renaming true → Ξ, false → Τ
open Go renaming World → Λ, Value → Ν, Calls → ϓ, wpList_load_row → Ο, wpList_store_row → Φ, setRow_heap → μ, info_parts → Ϟ, wpList_make_full → ϩ, maxLen → ϛ, undef → ς, cell_one_new → ϭ, wpList_append_lies → Ϙ
open Go.Act renaming put → Ϛ
open Go.Ending renaming returned → θ
open Go.IntKind renaming i64 → ε, i64 → þ
open Go.IntWalk renaming i64_in → ý
open Go.Lib renaming hid → Α
open Go.Obj renaming cells → Ε
open Go.Operand renaming tmp → η
open Go.Proofs.Tryz renaming prog → Ζ, underlying30 → Κ, zeroCells79 → ϖ, underlying79 → Ϻ, underlying62 → ϑ, underlying28 → Ã, underlying68 → ϔ
open Go.RowKit renaming Hid → À
open Go.Value renaming slice → Β, bool → ο, oneCell' → ό
open Go.World renaming ownsRow → Ϡ
open List renaming length_map → ϋ, setIfInBounds_toArray → Ι, set_cons_zero → Χ, set_cons_succ → Ψ, replicate → ζ, length_replicate → Ò, getD_eq_getElem?_getD → Η, getElem?_replicate → Ϭ, length_set → ϒ, eq_nil_of_length_eq_zero → Ð, getElem?_eq_getElem → Μ, length_append → Υ, getElem?_append_left → Ϣ, getElem?_eq_some_iff → ϊ, length_cons → ϲ, append_assoc → Ñ, range → ι
open Nat renaming le_refl → ν, le_trans → ψ, zero_add → é
open Option renaming some → Δ, none → Γ
open Option.some renaming inj → ύ
open UInt8 renaming ofNat → χ
namespace Go.Proofs.YtaiogolidlamiaaGreatDoor
set_option maxRecDepth 100000
set_option maxHeartbeats 8000000
open Go.RowKit Go.Shelf
def B0 (z:Dz):Prop:=z.n.length<=64/\Lj z
theorem IsDz.agg {W:Λ} {v:Ν} {z:Dz} (h:IsDz W v z):∃ ac J cc D E G M I,v=.agg (dA (Β ac J cc) (Β D z.n.length E) (Β G M I)):=by
 obtain⟨vc,vn,va,rfl,T,⟨vs,_,U,_⟩,hA⟩:=h;obtain⟨ac,cc,rfl⟩:=Sl.len T;obtain⟨D,E,rfl⟩:=Sl.len U;obtain⟨G,I,rfl⟩:=SlW.len hA;exact⟨_,_,_,_,_,_,_,_,rfl⟩
theorem Ie (z:Dz) (r:Bool) (hr:r=Ξ↔B0 z) (v:Ν) (w:Λ) (h:IsDz w v z) :
  ϓ Ζ 50 #[v] w λe w'=>e=θ (.bool r)/\Ext w w':=by
 have HD:=Α h;have I:=Α hr;obtain⟨p,hp⟩:∃ p:Bool,(p=Ξ↔Lj z):=by
  by_cases h:Lj z
  ·exact⟨Ξ,by simp[h]⟩
  ·exact⟨Τ,by simp[h]⟩
 have J:=Α hp;have ak:z.n.length<=4611686018427387904:=by
  obtain⟨_,_,_,_,_,⟨_,_,hN,_⟩,_⟩:=h;exact hN.1
 obtain⟨ac,lc,cc,an,cn,aa,la,ca,rfl⟩:=h.agg;obtain⟨V,E⟩:∃ X,dA (Β ac lc cc) (Β an z.n.length cn) (Β aa la ca)=X:=⟨_,rfl⟩;have ah:V[1]? = Δ (Β an z.n.length cn):=by rw[<-E];rfl
 have hi:(Ζ.info? 30).map (·.size)=Δ V.size:=by rw[<-E];exact Ad
 rw[E] at HD ⊢;have G:=(Θ w).alloc (Ε V 30);have D:=Aa w (Ε V 30);clear h hp hr E;obtain⟨M,T⟩:∃ n,z.n.length=n:=⟨_,rfl⟩;have ai:=Α T;rw[T] at ah ak;clear T;have f96:=λW (hW:Ext w W)=>Α (Ab7 z p J.out _ W (HD.out.ext hW))
 go_enter Tryz.func50,Tryz.ntmps50;go_upto_region 1 with (fail)
 obtain⟨w1,U⟩:∃ X,w.alloc (Ε V 30)=X:=⟨_,rfl⟩;rw[U] at G D;simp only[U];clear U;have c1:=Av D ah;have D:=Α D;have f96:=f96 w1 G;by_cases aj:M<=64
 ·have ax:(M:Int)<=64:=by omega
  obtain rfl:r=p:=by
   cases r with
   | true=>exact ((J.out.2 (I.out.1 rfl).2)).symm
   | false=>
    cases p with
    | false=>rfl
    | true=>exact I.out.2 ⟨by rw[ai.out];exact aj,J.out.1 rfl⟩
  go_wp2_with (first
   | (refine Jy rfl 30 (η 1) rfl _ rfl _ _ _ _ D.out Κ rfl hi ?_)
   | (go_at_call 96;(with_reducible refine f96.out.mono ?_);rintro e w2 ⟨rfl,ay⟩))
  go_ret;exact⟨rfl,G.trans ay⟩
 ·obtain rfl:=Ec I.out (λh=>aj (by rw[<-ai.out];exact h.1));have ax:¬ (M:Int)<=64:=by omega
  go_wp2;go_ret;exact⟨rfl,G⟩
theorem G1 (d:Dfa) (hv:Val d) (hn:d.n.length<=64) (v:Ν) (w:Λ) (h:IsD w v d) :
  ϓ Ζ 50 #[v] w λe w'=>e=θ (.bool Ξ)/\Ext w w':=
 Ie (dz d) Ξ ⟨λ_=>⟨by show (d.n.map _).length<=64;rw[ϋ];exact hn,hv.z⟩,λ_=>rfl⟩ v w h.dz
theorem An6 (t:Tbl) (hv:TVal t) (A:Array Ν) (hs:0<t.n.length) (l:List UInt8) (u:Ν) (w:Λ) (h:IsR w A t) (D:By w u l) :
  ϓ Ζ 53 #[.agg A,.int ε 0,u] w λe w'=>e=θ (iv (t.run 0 l))/\Ext w w':=An7 t hv A 0 hs l u w h D
theorem Aec (d:Dfa) (hv:Val d) (hn:d.n.length<=64) (v:Ν) (l:List UInt8) (u:Ν) (w:Λ) (h:IsD w v d) (hb:By w u l) :
  ϓ Ζ 15 #[v,u] w λe w'=>∃ r,ResOf w' e (Δ r)/\Cano r/\(∀ x,r.has x=d.has (l++x))/\Ext w w':=by
 have HD:=Α h;have b8:=Α hb;have f50:=λW (U:Ext w W)=>Α (G1 d hv hn _ W (HD.out.ext U))
 have f51:=λW (U:Ext w W)=>Α (Kg d hv hv.parts.le _ W (HD.out.ext U))
 have af:=Α (Bj hv);have HV:=Α hv;have bk:=Α (Sw d);obtain⟨ac,lc,cc,an,cn,aa,la,ca,rfl⟩:=h.agg;obtain⟨V,hV⟩:∃ X,dA (Β ac lc cc) (Β an d.n.length cn) (Β aa la ca)=X:=⟨_,rfl⟩;have hi:(Ζ.info? 30).map (·.size)=Δ V.size:=by rw[<-hV];exact Ad
 rw[hV] at HD f50 f51 ⊢;have aq:=((Θ w).alloc (Ε V 30)).alloc (Ε #[Β Γ 0 0,Β Γ 0 0,Β Γ 0 0] 30);have H0:=Ag (Aa w (Ε V 30)) (Ε #[Β Γ 0 0,Β Γ 0 0,Β Γ 0 0] 30);have H1:=heap_alloc2_new w (Ε V 30) (Ε #[Β Γ 0 0,Β Γ 0 0,Β Γ 0 0] 30);obtain⟨ub,uc,rfl⟩:=hb.len;clear h hb hV;go_enter Tryz.func15,Tryz.ntmps15;go_upto_region 1 with (fail)
 obtain⟨w1,ar⟩:∃ X,(w.alloc (Ε V 30)).alloc (Ε #[Β Γ 0 0,Β Γ 0 0,Β Γ 0 0] 30)=X:=⟨_,rfl⟩;rw[ar] at aq H0 H1;simp only[ar];clear ar;obtain⟨g2,au⟩:∃ y,w.heap.size=y:=⟨_,rfl⟩;obtain⟨g4,aw⟩:∃ y,g2+1=y:=⟨_,rfl⟩;have cl:À (w.heap.size<=g4):=Α (by omega);rw[au] at H0 H1;rw[aw] at H1;simp only[au,aw];clear au aw;have ae:=Α H0;have E:=Α H1;have ax:=Α aq;clear H0 H1 aq;go_upto_region 3 with (first
  | (refine Ο rfl 30 (η 2) rfl _ rfl _ _ _ _ ae.out Κ rfl hi ?_)
  | (go_at_call 50;(with_reducible refine (f50 _ ax.out).out.mono ?_);rintro e w2 ⟨rfl,ah⟩;have ay:=Α (ax.out.trans ah);have ae:=Α (ah.heap ae.out);have E:=Α (ah.heap E.out);clear ah))
 go_upto_region 4 with (first
  | (refine Ο rfl 30 (η 2) rfl _ rfl _ _ _ _ ae.out Κ rfl hi ?_)
  | (go_at_call 51;(with_reducible refine (f51 _ ay.out).out.mono ?_);rintro e G ⟨A,rfl,hA,a1⟩;have bm:=Α (ay.out.trans a1);have E:=Α (a1.heap E.out);have HA:=Α hA;clear a1;obtain⟨_,_,_,_,_,_,bn,cm,_⟩:=hA.opened af.out;have bo:(Ζ.info? 79).map (·.size)=Δ A.size:=(by rw[bn];exact Co);have bp:ϖ.size=A.size:=(by rw[Fb,bn]))
  | (refine Φ rfl 79 (η 6) (η 12) rfl _ A rfl rfl _ _ (Aa G _) bo bp cm ?_))
 have J:=((Θ G).alloc (Ε ϖ 79)).setRow (ν _) A;have M:=μ (G.alloc (Ε ϖ 79)) G.heap.size _ A _ _ (Aa G _);obtain⟨w4,aj⟩:∃ X,(G.alloc (Ε ϖ 79)).setRow G.heap.size A=X:=⟨_,rfl⟩;obtain⟨g6,a6⟩:∃ y,G.heap.size=y:=⟨_,rfl⟩;rw[a6] at aj M J;rw[aj] at J M;simp only[a6];simp only[aj];clear aj a6 hA bp f50 f51;have bt:=Α (bm.out.trans J);have E:=Α (J.heap E.out);have HA:=Α (HA.out.ext J);have M:=Α M;have bu:0<(Ae d).n.length:=HV.out.pos;have hd:=(Θ w4).drew;have ak:=hd.heap M.out;clear ay bm ax ae J;refine B2 6 [(0,Ξ),(1,Ξ),(2,Ξ),(3,Τ),(4,Τ),(5,Τ),(6,Τ)] (by kernel_rfl) (by kernel_rfl) (λ_ _ _ _ h=>h)
  (λW=>W.heap[g6]? = Δ (Ε A 79 (0,0))) ak ?_
 obtain⟨wq,a7⟩:∃ X,w4.drew=X:=⟨_,rfl⟩;rw[a7] at hd ak;rw[a7];clear a7;iterate 2
  refine Ao (v:=.agg A) rfl rfl (λW U=>D2 79 (η 6) rfl _ rfl _ _ _ _ U Ϻ rfl bo) ?_;simp only[Ϛ,Ι,Χ,Ψ]
 refine Ao (v:=?_) rfl rfl (λV hV=>?_) ?_
 rotate_left
 ·clear hV;go_simp;first|done|with_reducible rfl
 simp only[Ϛ,Ι,Χ,Ψ];refine A5 rfl (λI D=>?_);go_simp;with_reducible refine (An6 (Ae d) af.out A bu l _ wq (HA.out.ext hd) (b8.out.ext (bt.out.trans hd))).mono ?_
 rintro e w5 ⟨rfl,a8⟩;have bw:=hd.trans a8;refine D _ _ (λ_=>a8.heap ak) ?_;clear D I;have bx:=af.out.run_lt l bu;have HS:À ((Ae d).run 0 l=d.run 0 l):=Α (bk.out l 0);have cr:(Ae d).n.length<=65535:=by show d.n.length<=_;omega
 obtain⟨s,hs⟩:∃ x,(Ae d).run 0 l=x:=⟨_,rfl⟩;rw[hs] at bx HS;simp only[hs];clear hs;refine A5 rfl (λI D=>?_);go_simp;with_reducible refine (Aj4 (Ae d) af.out cr A s bx w5 (HA.out.ext bw)).mono ?_
 rintro e w6 ⟨v6,d6,rfl,b0,b4,cu,b5⟩;have b6:=bw.trans b5;have b7:=b5.heap (a8.heap ak);have cv:g6≠g4:=λe=>by
  have T:=E.out;rw[<-e,M.out] at T;injection T with T
  injection T with _ T
  cases T
 refine D _ _ (λ_=>b7) ?_;clear D I;obtain⟨ba,bb,bc,bd,be,bf,bg,bh,rfl⟩:=b0.agg;have bj:=Α (b6.heap E.out);refine A5 rfl (λI D=>?_);refine Gf 30 (η 4) (η 17) rfl rfl _ (dA (Β ba bb bc) (Β bd d6.n.length be) (Β bf bg bh)) rfl rfl _ _ bj.out Ad rfl (Aq _ _ _ rfl rfl rfl) ?_;refine D _ _ (λ_=>(setRow_other _ _ _ _ cv).trans b7) ?_;clear D I;refine A5 rfl (λI D=>?_);go_simp;refine D _ _ (λh=>absurd h (by omega)) ?_;clear D I;refine B3 ?_;go_wp2;refine bodyPost_ret (v:=.tuple #[.agg (dA (Β ba bb bc) (Β bd d6.n.length be) (Β bf bg bh)),.int ε 0]) (A3 rfl _ _ _ _ _ _ _ rfl _ rfl (μ w6 _ _ (dA (Β ba bb bc) (Β bd d6.n.length be) (Β bf bg bh)) 30 (0,0) bj.out) Κ rfl Ad) rfl ?_;exact⟨d6,⟨_,rfl,b0.setRow b4.val bj.out _⟩,b4,λx=>by
  rw[cu];show (Ae d).ok ((Ae d).run s x)=d.ok (d.run 0 (l++x));rw[bk.out,B9,HS.out];rfl,(bt.out.trans b6).setRow cl.out _⟩
abbrev uA (l:List Cls) (k:Nat):Cls:=uTo (λ_=>Ξ) l k
theorem So (l:List Cls) (k:Nat) (D:k<l.length):uA l (k+1)=uA l k ||| l.getD k 0#256:=by
 unfold uA;rw[Sm _ _ _ D,if_pos rfl]
structure GoodU (l:List Cls) (k:Nat):Prop where
 nz:∀ i,i<k->l.getD i 0#256≠0#256
 cnt:∀ b,b<256->Eb l b k=if (uA l k).getLsbD b then 1 else 0
theorem Ajw (l:List Cls):GoodU l 0 where
 nz:=λi hi=>by omega
 cnt:=λb _=>by
  unfold uA;rw[N6];simp[Eb]
theorem Kl (c:Cls) (b:Nat):Aw c b=c.getLsbD b:=by unfold Aw;simp
theorem Ajx {l:List Cls} {k:Nat} (h:GoodU l k) (D:k<l.length) (E:l.getD k 0#256≠0#256) (G:uA l k &&& l.getD k 0#256=0#256):GoodU l (k+1) where
 nz:=λi hi=>by
  by_cases e:i=k
  ·rw[e];exact E
  ·exact h.nz i (by omega)
 cnt:=λb I=>by
  rw[Hs l b k D,h.cnt b I,So l k D,BitVec.getLsbD_or,Kl];have:=congrArg (λc=>c.getLsbD b) G;simp only[ç,õ] at this;cases J:(uA l k).getLsbD b<;>cases M:(l.getD k 0#256).getLsbD b<;>simp_all
theorem Nf (l:List Cls) (b i:Nat):∀ d,i+d<=l.length->Eb l b i<=Eb l b (i+d)
 | 0,_=>ν _
 | d+1,h=>by
  have:=Nf l b i d (by omega);rw[show i+(d+1)=i+d+1 by omega,Hs l b (i+d) (by omega)];omega
theorem Anp {l:List Cls} {k:Nat} (D:k<l.length) (E:l.getD k 0#256=0#256):¬ Fq l:=λh=>h.2.2.1 k D E
theorem Ano {l:List Cls} {k:Nat} (h:GoodU l k) (E:k<l.length) (G:uA l k &&& l.getD k 0#256≠0#256):¬ Fq l:=λI=>by
 refine G ?_;apply BitVec.eq_of_getLsbD_eq;intro b D;rw[ç,õ];have J:=I.2.2.2 b D;have M:=Nf l b (k+1) (l.length-(k+1)) (by omega);rw[show k+1+(l.length-(k+1))=l.length by omega,J,Hs l b k E,h.cnt b D,Kl] at M;cases T:(uA l k).getLsbD b<;>cases U:(l.getD k 0#256).getLsbD b<;>simp_all
theorem Ajy {l:List Cls} (h:GoodU l l.length) (I:1<=l.length) (J:l.length<=256):Fq l↔~~~ uA l l.length=0#256:=by
 constructor
 ·intro M;apply BitVec.eq_of_getLsbD_eq;intro b D;have E:=M.2.2.2 b D;rw[h.cnt b D] at E;rw[BitVec.getLsbD_not,õ];cases G:(uA l l.length).getLsbD b
  ·rw[G] at E;simp at E
  ·simp
 ·intro T;refine⟨I,J,h.nz,λb D=>?_⟩;rw[h.cnt b D];have:=congrArg (λc=>c.getLsbD b) T;simp only[BitVec.getLsbD_not,õ] at this;cases G:(uA l l.length).getLsbD b
  ·rw[G] at this;simp[D] at this
  ·rfl
theorem J0 (z:Dz) (r:Bool) (hr:r=Ξ↔B0 z) (v:Ν) (w:Λ) (h:IsDz w v z) :
  ϓ Ζ 47 #[v] w λe w'=>e=θ (.bool r)/\Ext w w':=by
 obtain⟨vc,vn,va,rfl,hC,⟨vs,ee,hN,cm⟩,hA⟩:=h;obtain⟨ac,cc,rfl⟩:=Sl.len hC;obtain⟨an,cn,rfl⟩:=Sl.len hN;obtain⟨aa,ca,rfl⟩:=SlW.len hA;have HR:=Α hr;have HC:=Α hC;have HN:=Α hN;have ef:=Α cm;obtain⟨V,hV⟩:∃ X,dA (Β ac z.cls.length cc) (Β an z.n.length cn) (Β aa z.acc.length ca)=X:=⟨_,rfl⟩;have cv:V[0]? = Δ (Β ac z.cls.length cc):=by rw[<-hV];rfl
 have cw:V[1]? = Δ (Β an z.n.length cn):=by rw[<-hV];rfl
 have cx:V[2]? = Δ (Β aa z.acc.length ca):=by rw[<-hV];rfl
 have cy:#[Β ac z.cls.length cc,Β an z.n.length cn,Β aa z.acc.length ca]=V:=hV;rw[cy];have bw:=(Θ w).alloc (Ε V 30);have H0:=Aa w (Ε V 30);clear hr hC hN hA cm ee hV cy;go_enter Tryz.func47,Tryz.ntmps47;go_upto_region 1 with (fail)
 obtain⟨w1,bx⟩:∃ W,w.alloc (Ε V 30)=W:=⟨_,rfl⟩;obtain⟨M,bz⟩:∃ y,w.heap.size=y:=⟨_,rfl⟩;rw[bx] at bw H0;rw[bz] at H0;simp only[bx,bz];clear bx bz;have HK:=Α (λ(W:Λ) (I:Ext w1 W)=>(show W.cell? ⟨M,0,Γ⟩=Δ (Β ac z.cls.length cc)/\W.cell? ⟨M,1,Γ⟩=Δ (Β an z.n.length cn)/\W.cell? ⟨M,2,Γ⟩=Δ (Β aa z.acc.length ca) from⟨Av (I.heap H0) cv,Av (I.heap H0) cw,Av (I.heap H0) cx⟩));have al:=Α bw;clear H0 cv cw cx bw;obtain⟨T,k1,k2⟩:=HK.out w1 (Θ w1);have cz:¬ B0 z->∀ W,Ext w1 W->(Ending.returned (.bool Τ)=θ (.bool r)/\Ext w W):=λhn W I=>⟨by rw[Ec HR.out hn],al.out.trans I⟩
 have D:=Α cz;clear cz;by_cases c1:z.n.length<1
 ·have d1:(z.n.length:Int)<1:=by omega
  go_wp2;go_ret;exact D.out (λh=>by have:=h.2.1;omega) _ (Θ _)
 by_cases c2:64<z.n.length
 ·have d1:¬ (z.n.length:Int)<1:=by omega
  have d2:(64:Int)<(z.n.length:Int):=by omega
  go_wp2;go_ret;exact D.out (λh=>by have:=h.1;omega) _ (Θ _)
 have d1:¬ (z.n.length:Int)<1:=by omega
 have d2:¬ (64:Int)<(z.n.length:Int):=by omega
 by_cases c3:¬ z.acc.length=z.n.length
 ·have d3:((z.acc.length:Int) != (z.n.length:Int))=Ξ:=by simp;omega
  go_wp2;go_ret;exact D.out (λh=>c3 h.2.2.1) _ (Θ _)
 replace c3:z.acc.length=z.n.length:=by omega
 have d3:((z.acc.length:Int) != (z.n.length:Int))=Τ:=by simp;omega
 by_cases c4:z.cls.length<1
 ·have d4:(z.cls.length:Int)<1:=by omega
  go_wp2;go_ret;exact D.out (λh=>by have:=h.2.2.2.1.1;omega) _ (Θ _)
 have d4:¬ (z.cls.length:Int)<1:=by omega
 by_cases c5:256<z.cls.length
 ·have d5:(256:Int)<(z.cls.length:Int):=by omega
  go_wp2;go_ret;exact D.out (λh=>by have:=h.2.2.2.1.2.1;omega) _ (Θ _)
 have d5:¬ (256:Int)<(z.cls.length:Int):=by omega
 have ek:=Α c3;clear c3;go_upto_region 4 with (fail)
 clear T k1 k2 d1 d2 d3 d4 d5;have en:0<z.cls.length:=by omega
 have fk:z.cls.length<=256:=by omega
 have c6:0<z.n.length:=by omega
 have fl:z.n.length<=64:=by omega
 clear c1 c2 c4 c5;obtain⟨bc,oc,fp,eo,c7⟩:=Û HC.out en;injection eo with e1 e2 e3
 subst e1;clear e2 e3;obtain⟨bn,on,ft,ep,c8⟩:=Û HN.out c6;injection ep with e1 e2 e3
 subst e1;clear e2 e3;have er:=Α (λW (I:Ext w W) k (hk:k<z.cls.length)=>F6 (W:=W) (λi hi=>I.cell (c7 i hi)) k hk);have et:=Α (λW (I:Ext w W) s (hs:s<z.n.length)=>I.cell (c8 s (by omega)));clear c7 c8 HC HN;go_upto_region 5 with (fail)
 have b0:=(Θ w1).alloc (Ε zA 62);have b4:=Α (Aa w1 (Ε zA 62));obtain⟨w2,b5⟩:∃ W,w1.alloc (Ε zA 62)=W:=⟨_,rfl⟩;obtain⟨g4,b6⟩:∃ y,w1.heap.size=y:=⟨_,rfl⟩;have ev:À (w1.heap.size<=g4):=Α (by omega);rw[b5] at b0 b4;rw[b6] at b4;simp only[b5,b6];clear b5 b6;obtain⟨T,k1,k2⟩:=HK.out w2 b0;go_wp2_with (fail);clear T k1 k2;go_loopw [42] (λi W=>∃ k:Nat,k<=z.cls.length/\i=.int ε k/\Ext w1 W/\W.heap[g4]? = Δ (Ε (Ab (uA z.cls k)) 62 (0,0))/\À (GoodU z.cls k))
  (λi _=>z.cls.length-(intOf i).toNat)
 case atStart=>exact⟨0,by omega,rfl,b0,by unfold uA;rw[N6,F2];exact b4.out,Α (Ajw _)⟩
 case round=>
  obtain⟨k,hk,rfl,hE,da,HG⟩:=hrel;have E:=Α da;clear da;by_cases aw:k<z.cls.length
  ·obtain⟨a0,a1,a2,a3⟩:=er.out wr (al.out.trans hE) k aw;have b7:=Α (So z.cls k aw);have bh:=Α (λh1 G=>Ajx HG.out aw h1 G);have de:=Α (λh1=>Anp aw h1);have bj:=Α (λG=>Ano HG.out aw G);obtain⟨c,df⟩:∃ c,z.cls.getD k 0#256=c:=⟨_,rfl⟩;rw[df] at a0 a1 a2 a3 b7 bh de bj;clear df;obtain⟨A,dg⟩:∃ A,uA z.cls k=A:=⟨_,rfl⟩;rw[dg] at b7 bh bj E;clear dg;have f92:=λW=>Α (Qa A c W)
   have f93:=λW=>Α (N5 A c W)
   obtain⟨m1,b9⟩:∃ m,(c==0#256)=m:=⟨_,rfl⟩;obtain⟨m2,cb⟩:∃ m,(A &&& c==0#256)=m:=⟨_,rfl⟩;have M:=Gr c m1 b9;have g2:=Gr (A &&& c) m2 cb;have g3:=Hj;have dp:=Α b9;have cd:=Α cb;clear b9 cb;obtain⟨x,hx⟩:∃ x,A &&& c=x:=⟨_,rfl⟩;rw[hx] at g2 cd bh bj;simp only[hx] at f92;clear hx;go_upto_region 8 with (fail)
   obtain⟨wi,bk⟩:∃ W,wr.alloc (Ε (Ab c) 62)=W:=⟨_,rfl⟩;simp only[bk];have bl:Ext wr wi:=bk▸(Θ wr).alloc _;have H6:=Α (show wi.heap[wr.heap.size]? = Δ (Ε (Ab c) 62 (0,0)) from bk▸Aa wr _);have E:=Α (bl.heap E.out);clear bk a0 a1 a2 a3;obtain⟨x0,x1,x2,x3⟩:=Hn H6.out;obtain⟨y0,y1,y2,y3⟩:=Hn E.out;obtain⟨e0,dq⟩:=Xp wi;rw[dq];clear dq;cases m1 with
   | true=>
    have ax:=de.out (by simpa using dp.out);go_wp2_with (fail);go_ret;exact D.out (λh=>ax h.2.2.2.1) _ (hE.trans (bl.trans e0.ext))
   | false=>
    cases m2 with
    | false=>
     have ax:=bj.out (by simpa using cd.out);go_wp2_with (first
      | (go_at_call 92;with_reducible refine (f92 _).out.mono ?_;rintro e w' ⟨rfl,ay⟩;obtain⟨e',rfl⟩:=Kx ay))
     go_ret;exact D.out (λh=>ax h.2.2.2.1) _ (hE.trans (bl.trans e'.ext))
    | true=>
     have dr:=bh.out (by simpa using dp.out) (by simpa using cd.out);have e4:=Α dr;clear dr;go_wp2_with (first
      | (go_at_call 92;with_reducible refine (f92 _).out.mono ?_;rintro e w' ⟨rfl,ay⟩;obtain⟨e',rfl⟩:=Kx ay)
      | (go_at_call 93;with_reducible refine (f93 _).out.mono ?_;rintro e w' ⟨rfl,ay⟩;obtain⟨e',rfl⟩:=Kx ay)
      | (refine Φ rfl 62 (η 4) (η 58) rfl _ _ rfl rfl _ _ (e'.ext.heap E.out) Bf rfl (Eq _) ?_))
     go_roundw
     case rel=>exact⟨k+1,by omega,by go_num,((hE.trans bl).trans e'.ext).setRow ev.out _,by rw[b7.out];exact μ e'.W _ _ _ _ _ (e'.ext.heap E.out),e4⟩
     case measure=>simp[intOf];omega
  ·obtain rfl:k=z.cls.length:=by omega
   have bm:=Α (Ajy HG.out (by omega) (by omega));obtain⟨U,hU⟩:∃ U,uA z.cls z.cls.length=U:=⟨_,rfl⟩;rw[hU] at bm E;clear hU HG;have f94:=λW=>Α (Pk U W)
   obtain⟨m,cg⟩:∃ m,(~~~U==0#256)=m:=⟨_,rfl⟩;have M:=Gr (~~~U) m cg;have g3:=Hj;have HM:=Α cg;clear cg;obtain⟨x,hx⟩:∃ x,~~~U=x:=⟨_,rfl⟩;rw[hx] at M HM bm;simp only[hx] at f94;clear hx;cases m with
   | false=>
    have ax:¬ Fq z.cls:=λh=>by have:=bm.out.1 h;have G:=HM.out;rw[this] at G;simp at G
    go_wp2_with (first
     | (refine Ο rfl 62 (η 4) rfl _ rfl _ _ _ _ E.out ϑ rfl Bf ?_)
     | (go_at_call 94;with_reducible refine (f94 _).out.mono ?_;rintro e w5 ⟨rfl,bo⟩))
    go_ret;exact D.out (λh=>ax h.2.2.2.1) _ (hE.trans bo)
   | true=>
    have e5:=Α (bm.out.2 (by simpa using HM.out));go_wp2_with (first
     | (refine Ο rfl 62 (η 4) rfl _ rfl _ _ _ _ E.out ϑ rfl Bf ?_)
     | (go_at_call 94;with_reducible refine (f94 _).out.mono ?_;rintro e w5 ⟨rfl,bo⟩;obtain⟨T,k1,k2⟩:=HK.out w5 (hE.trans bo)))
    clear T k1 k2 f94 M g3 E;have e6:=hE.trans bo;go_loopw [67] (λi W=>∃ s:Nat,s<=z.n.length/\i=.int ε s/\Ext w1 W/\À (∀ s',s'<s->(z.n.getD s' []).length=z.cls.length/\∀ k,k<z.cls.length->0<=Ci z s' k/\Ci z s' k<z.n.length)) (λi _=>z.n.length-(intOf i).toNat)
    case atStart=>exact⟨0,by omega,rfl,e6,Α (λs' h=>by omega)⟩
    case round=>
     obtain⟨s,hs,rfl,J,HQ⟩:=hrel;by_cases az:s<z.n.length
     ·have cs:=et.out wr (al.out.trans J) s az;have ai:=ef.out s az;have bp:=λk=>(show Ci z s k=(z.n.getD s []).getD k 0 from rfl)
      obtain⟨ar,cr,dw⟩:=SlW.len ai;rw[dw] at cs ai;obtain⟨row,bq⟩:∃ row,z.n.getD s []=row:=⟨_,rfl⟩;have dx:=Α bq;rw[bq] at cs ai;simp only[bq] at bp;clear dw bq;have ds:(s:Int)<(z.n.length:Int):=by omega
      obtain⟨T,k1,k2⟩:=HK.out wr J;by_cases a6:row.length=z.cls.length
      ·have dm:((row.length:Int) != (z.cls.length:Int))=Τ:=by rw[a6];simp
       obtain⟨br,or',gh,e7,ea⟩:=SlW.form ai (by omega);injection e7 with e1 e2 e3
       subst e1;clear e2 e3;have e8:=Α (λk (hk:k<row.length)=>(al.out.trans J).cell (ea k (by omega)));have gi:row.length<=256:=by omega
       have aj:=Α a6;have e9:=Α bp;clear a6 ea ai bp;obtain⟨wo,fa⟩:∃ W,W=wr:=⟨_,rfl⟩;subst fa;go_wp2_with (fail);clear T k1 k2 cs dm ds;go_loopw [79] (λi W=>∃ j:Nat,j<=row.length/\i=.int ε j/\Ext wo W/\À (∀ k,k<j->0<=Ci z s k/\Ci z s k<z.n.length)) (λi _=>row.length-(intOf i).toNat)
       case atStart=>exact⟨0,by omega,rfl,Θ wo,Α (λk h=>by omega)⟩
       case round=>
        obtain⟨j,hj,rfl,a7,HJ⟩:=hrel;by_cases fb:j<row.length
        ·have gk:(j:Int)<(row.length:Int):=by omega
         have cj:=a7.cell (e8.out j fb);have he:=e9.out j;obtain⟨t,ht⟩:∃ t,row.getD j 0=t:=⟨_,rfl⟩;rw[ht] at cj he;have HT:=Α he;clear he ht;by_cases t1:t<0
         ·go_wp2;go_ret;exact D.out (λh=>by have G:=((h.2.2.2.2 s az).2 j (by have:=aj.out;omega)).1;rw[HT.out] at G;omega) _ (J.trans a7)
         by_cases t2:(z.n.length:Int)<=t
         ·go_wp2;go_ret;exact D.out (λh=>by have G:=((h.2.2.2.2 s az).2 j (by have:=aj.out;omega)).2;rw[HT.out] at G;omega) _ (J.trans a7)
         have fe:À (∀ k,k<j+1->0<=Ci z s k/\Ci z s k<z.n.length):=Α (λk hk=>by
          by_cases e:k=j
          ·rw[e,HT.out];omega
          ·exact HJ.out k (by omega))
         go_wp2;go_roundw
         case rel=>exact⟨j+1,by omega,by go_num,a7,fe⟩
         case measure=>simp[intOf];omega
        ·obtain rfl:j=row.length:=by omega
         have ff:=J.trans a7;have fg:À (∀ s',s'<s+1->(z.n.getD s' []).length=z.cls.length/\∀ k,k<z.cls.length->0<=Ci z s' k/\Ci z s' k<z.n.length):=Α (λs' gl=>by
          by_cases e:s'=s
          ·subst e;refine⟨by rw[dx.out,aj.out],λk hk=>HJ.out k (by rw[aj.out];exact hk)⟩
          ·exact HQ.out s' (by omega))
         go_wp2;go_roundw
         case rel=>exact⟨s+1,by omega,by go_num,ff,fg⟩
         case measure=>simp[intOf];omega
      ·have dm:((row.length:Int) != (z.cls.length:Int))=Ξ:=by simp;omega
       have aj:=Α a6;clear a6 ai bp;go_wp2_with (fail);go_ret;exact D.out (λh=>aj.out (by rw[<-dx.out];exact (h.2.2.2.2 s az).1)) _ J
     ·obtain rfl:s=z.n.length:=by omega
      have hv:B0 z:=⟨by omega,c6,ek.out,e5.out,HQ.out⟩;have fh:=Α (HR.out.2 hv);clear hv;go_wp2;go_ret;exact⟨by rw[fh.out];rfl,al.out.trans J⟩
def AtW (t:Tbl) (s i q:Nat):Prop:=∃ w:List UInt8,w.length=i/\t.run s w=q
structure TgI (t:Tbl) (Z:List Bool) (q k:Nat) (X:List Bool):Prop where
 len:X.length=t.n.length
 at_:∀ p,X.getD p Τ=Ξ↔(∃ q' k',q'<q/\Z.getD q' Τ=Ξ/\k'<t.cells/\t.ent2 q' k'=p)\/∃ k',k'<k/\Z.getD q Τ=Ξ/\t.ent2 q k'=p
theorem Aa1 (t:Tbl) (Z:List Bool):TgI t Z 0 0 (ζ t.n.length Τ) where
 len:=Ò
 at_:=λp=>by
  have:(ζ t.n.length Τ).getD p Τ=Τ:=by
   rw[Η,Ϭ];split<;>rfl
  rw[this];constructor
  ·intro h;cases h
  ·rintro (⟨q',_,h,_⟩|⟨k',h,_⟩)<;>omega
theorem Aa4 {t:Tbl} (hv:TVal t) {Z X:List Bool} {q k:Nat} (h:TgI t Z q k X) (I:q<t.n.length) (J:k<t.cells) (M:Z.getD q Τ=Ξ):TgI t Z q (k+1) (X.set (t.ent2 q k) Ξ) where
 len:=by rw[ϒ];exact h.len
 at_:=λp=>by
  rw[Bb _ _ _ _ _ (by rw[h.len];exact hv.tgt q I k J)];by_cases e:p=t.ent2 q k
  ·rw[if_pos e];exact⟨λ_=>.inr ⟨k,by omega,M,e.symm⟩,λ_=>rfl⟩
  ·rw[if_neg e,h.at_ p];constructor
   ·rintro (D|⟨k',D,E⟩)
    ·exact .inl D
    ·exact .inr ⟨k',by omega,E⟩
   ·rintro (D|⟨k',D,E,G⟩)
    ·exact .inl D
    ·refine .inr ⟨k',?_,E,G⟩;have:k'≠k:=λT=>e (by rw[<-G,T])
     omega
theorem Aa2 {t:Tbl} {Z X:List Bool} {q k:Nat} (h:TgI t Z q k X) (E:Z.getD q Τ=Τ):TgI t Z (q+1) 0 X where
 len:=h.len
 at_:=λp=>by
  rw[h.at_ p];constructor
  ·rintro (⟨q',k',G,D⟩|⟨k',_,D,_⟩)
   ·exact .inl ⟨q',k',by omega,D⟩
   ·rw[E] at D;cases D
  ·rintro (⟨q',k',G,D⟩|⟨k',G,_⟩)
   ·refine .inl ⟨q',k',?_,D⟩;have:q'≠q:=λe=>by rw[e,E] at D;cases D.1
    omega
   ·omega
theorem Aa3 {t:Tbl} {Z X:List Bool} {q:Nat} (h:TgI t Z q t.cells X) (J:Z.getD q Τ=Ξ):TgI t Z (q+1) 0 X where
 len:=h.len
 at_:=λp=>by
  rw[h.at_ p];constructor
  ·rintro (⟨q',k',E,D⟩|⟨k',E,D,G⟩)
   ·exact .inl ⟨q',k',by omega,D⟩
   ·exact .inl ⟨q,k',by omega,D,E,G⟩
  ·rintro (⟨q',k',E,D,G,I⟩|⟨k',E,_⟩)
   ·by_cases e:q'=q
    ·subst e;exact .inr ⟨k',G,D,I⟩
    ·exact .inl ⟨q',k',by omega,D,G,I⟩
   ·omega
theorem Aa5 {t:Tbl} (hv:TVal t) {Z X:List Bool} {s i:Nat} (hs:s<t.n.length) (h:TgI t Z t.n.length 0 X) (E:∀ q,Z.getD q Τ=Ξ↔AtW t s i q) (p:Nat):X.getD p Τ=Ξ↔AtW t s (i+1) p:=by
 rw[h.at_ p];constructor
 ·rintro (⟨q',k',G,I,J,M⟩|⟨k',G,_⟩)
  ·obtain⟨w,D,rfl⟩:=(E q').1 I;obtain⟨b,T,rfl⟩:=hv.onto k' J;exact⟨w++[χ b],by simp[D],by rw[Ft,u8n b T];exact M⟩
  ·omega
 ·rintro⟨w,D,rfl⟩;rcases List.eq_nil_or_concat w with rfl|⟨w',x,rfl⟩
  ·simp at D
  ·rw[List.concat_eq_append] at D ⊢;rw[Ft];refine .inl ⟨t.run s w',t.cell x.toNat,hv.run_lt w' hs,(E _).2 ⟨w',by simpa using D,rfl⟩,hv.cell_lt _ x.toNat_lt,rfl⟩
theorem Anq {t:Tbl} {s:Nat} (hs:s<t.n.length) (q:Nat):((ζ t.n.length Τ).set s Ξ).getD q Τ=Ξ↔AtW t s 0 q:=by
 rw[Bb _ _ _ _ _ (by rw[Ò];exact hs)];have:(ζ t.n.length Τ).getD q Τ=Τ:=by
  rw[Η,Ϭ];split<;>rfl
 rw[this];constructor
 ·intro h;split at h
  ·rename_i e;exact⟨[],rfl,e.symm⟩
  ·cases h
 ·rintro⟨w,D,rfl⟩;obtain rfl:w=[]:=Ð D;exact if_pos rfl
theorem Ub (t:Tbl) (hv:TVal t) (hn:t.n.length<=65536) (A:Array Ν) (s n:Nat) (hs:s<t.n.length) (c7:n<=64) (r:Bool) (hr:r=Ξ↔∃ w:List UInt8,w.length=n/\t.ok (t.run s w)=Ξ) (w:Λ) (h:IsR w A t) :
  ϓ Ζ 108 #[.agg A,.int ε s,.int ε n] w λe w'=>e=θ (.bool r)/\Ext w w':=by
 obtain⟨bn,on,cn,ba,oa,ca,b9,cb,cd,a1,a6,a7,a8⟩:=h.opened hv;obtain⟨i4,bc,bd,be,bf⟩:=Ϟ D8;have de:=hv.cle;have df:=hv.pos;have ai:=(Θ w).alloc (Ε A 79);have H0:=Aa w (Ε A 79);have HR:=Α hr;have HV:=Α hv;have cf:=Α (λW (J:Ext w W)=>a7.ext J);have cg:=Α (λW (J:Ext w W) s (hs:s<t.n.length)=>J.cell (a8 s hs));have dg:(s:Int)<(t.n.length:Int):=by omega
 clear h hv hr a7 a8 cd cb b9;go_enter Tryz.func108,Tryz.ntmps108;go_upto_region 1 with (fail)
 obtain⟨w1,aj⟩:∃ X,w.alloc (Ε A 79)=X:=⟨_,rfl⟩;obtain⟨g3,ak⟩:∃ y,w.heap.size=y:=⟨_,rfl⟩;rw[aj] at ai H0;rw[ak] at H0;simp only[aj,ak];clear aj ak;have bh:=Α (λW (J:Ext w1 W)=>Av (J.heap H0) a1);have ch:=Α (λW (J:Ext w1 W)=>Av (J.heap H0) a6);have ae:=Α ai;have k1:=bh.out w1 (Θ w1);clear ai H0 a1 a6;go_upto_region 2 with (at_make;refine ϩ _ rfl _ _ 28 rfl w1.heap.size 4 i4 (.bool Τ) 1 Ã bc bd be ε ε _ _ t.n.length rfl rfl rfl rfl (by rw[bf];omega) (by unfold ϛ;omega) (ν _) ?_;intro w2 bj bk)
 have D:=(Hp.nil w1).made (show w2.ownsRow w1.heap.size 4 1 (Β (Δ ⟨w1.heap.size,0,Γ⟩) t.n.length t.n.length) t.n.length ((ζ t.n.length Τ).map ο) by rw[<-B6];exact bj) bk;obtain⟨ga,al⟩:∃ y,w1.heap.size=y:=⟨_,rfl⟩;rw[al] at D;simp only[al];clear al bj bk k1;have co:=Am Τ (D.row 0 rfl) (by simp) s (by simpa using hs);have fo:=(D.row 0 rfl).frozenAt s;have G:=D.putf 0 rfl s Ξ;have bl:=Α (Anq hs);clear D;go_wp2_with (fail);clear co fo;go_loopw [7,8] (λvc vi W=>∃ (Z:List Bool) (g i:Nat),i<=n/\vc=Β (Δ ⟨g,0,Γ⟩) t.n.length t.n.length/\vi=.int ε i/\Hp w1 W [.row 4 1 (Β (Δ ⟨g,0,Γ⟩) t.n.length t.n.length) t.n.length (Z.map ο)]/\À (Z.length=t.n.length/\∀ q,Z.getD q Τ=Ξ↔AtW t s i q))
  (λ_ vi _=>n-(intOf vi).toNat)
 case atStart=>exact⟨_,ga,0,by omega,rfl,rfl,G,Α ⟨by simp,bl.out⟩⟩
 case round=>
  clear G bl;obtain⟨Z,gz,i,dk,rfl,rfl,D,M⟩:=hrel;by_cases dm:i<n
  ·have dn:(i:Int)<(n:Int):=by omega
   have bo:=D.size;go_upto_region 7 with (at_make;refine ϩ _ rfl _ _ 28 rfl w1.heap.size 4 i4 (.bool Τ) 1 Ã bc bd be ε ε _ _ t.n.length rfl rfl rfl rfl (by rw[bf];omega) (by unfold ϛ;omega) bo ?_;intro w4 bp bq)
   have G:=D.made (show w4.ownsRow w1.heap.size 4 1 (Β (Δ ⟨wr.heap.size,0,Γ⟩) t.n.length t.n.length) t.n.length ((ζ t.n.length Τ).map ο) by rw[<-B6];exact bp) bq;obtain⟨gx,aq⟩:∃ y,wr.heap.size=y:=⟨_,rfl⟩;rw[aq] at G;simp only[aq];clear aq bp bq D bo;go_wp2_with (fail);go_loopw [10] (λT W=>∃ (X:List Bool) (q:Nat),q<=t.n.length/\T=.int ε q/\Hp w1 W [.row 4 1 (Β (Δ ⟨gx,0,Γ⟩) t.n.length t.n.length) t.n.length (X.map ο),.row 4 1 (Β (Δ ⟨gz,0,Γ⟩) t.n.length t.n.length) t.n.length (Z.map ο)]/\À (TgI t Z q 0 X))
    (λT _=>t.n.length-(intOf T).toNat)
   case atStart=>exact⟨_,0,by omega,rfl,G,Α (Aa1 t Z)⟩
   case round=>
    clear G;obtain⟨X,q,hq,rfl,D,E⟩:=hrel;by_cases U:q<t.n.length
    ·have cu:(q:Int)<(t.n.length:Int):=by omega
     obtain⟨br,dq,cr,bt,bu⟩:=cf.out w (Θ w) q U;have cv:=Α bt;have cw:=Α bu;clear bt bu;obtain⟨b,hb⟩:∃ b,Z.getD q Τ=b:=⟨_,rfl⟩;have HB:=Α hb;clear hb;go_wp2_with (fail);go_loopw [11] (λvk W=>∃ (X:List Bool) (k:Nat),k<=t.cells/\vk=.int ε k/\Hp w1 W [.row 4 1 (Β (Δ ⟨gx,0,Γ⟩) t.n.length t.n.length) t.n.length (X.map ο),.row 4 1 (Β (Δ ⟨gz,0,Γ⟩) t.n.length t.n.length) t.n.length (Z.map ο)]/\À (TgI t Z q k X))
      (λvk _=>t.cells-(intOf vk).toNat)
     case atStart=>exact⟨X,0,by omega,rfl,D,E⟩
     case round=>
      clear D E;obtain⟨X,k,hk,rfl,D,E⟩:=hrel;have cz:=Am Τ (D.row 1 rfl) M.out.1.symm q (by rw[M.out.1];exact U);rw[HB.out] at cz;cases b with
      | false=>
       have I:=Α (Aa2 E.out HB.out);clear E;go_wp2;go_roundw
       case rel=>exact⟨X,q+1,by omega,by go_num,D,I⟩
       case measure=>simp[intOf];omega
      | true=>
       have c1:=bh.out wr D.ext;have c2:=(ae.out.trans D.ext).cell cv.out;by_cases aw:k<t.cells
       ·have dw:(k:Int)<(t.cells:Int):=by omega
        have I:=Α (Aa4 HV.out E.out U aw HB.out);have bw:=Α E.out.len;have ce:=(ae.out.trans D.ext).cell (cw.out k aw);have bx:=HV.out.tgt q U k aw;obtain⟨x,hx⟩:∃ x,t.ent2 q k=x:=⟨_,rfl⟩;rw[hx] at ce bx I;clear hx;have dx:(x:Int)<(t.n.length:Int):=by omega
        have cx:=Am Τ (D.row 0 rfl) bw.out.symm x (by rw[bw.out];exact bx);have fx:=(D.row 0 rfl).frozenAt x;have G:=D.putf 0 rfl x Ξ;clear D E;go_wp2;go_roundw
        case rel=>exact⟨_,k+1,by omega,by go_num,G,I⟩
        case measure=>simp[intOf];omega
       ·obtain rfl:k=t.cells:=by omega
        have I:=Α (Aa3 E.out HB.out);clear E;go_wp2;go_roundw
        case rel=>exact⟨X,q+1,by omega,by go_num,D,I⟩
        case measure=>simp[intOf];omega
    ·obtain rfl:q=t.n.length:=by omega
     have I:À (X.length=t.n.length/\∀ q,X.getD q Τ=Ξ↔AtW t s (i+1) q):=Α ⟨E.out.len,Aa5 HV.out hs E.out M.out.2⟩;have c3:=D.swap.tail;clear D E;go_wp2;go_roundw
     case rel=>exact⟨X,gx,i+1,by omega,rfl,by go_num,c3,I⟩
     case measure=>simp[intOf];omega
  ·obtain rfl:i=n:=by omega
   go_wp2_with (fail);go_loopw [12] (λT W=>∃ q:Nat,q<=t.n.length/\T=.int ε q/\Ext wr W/\À (∀ p,p<q->¬ (Z.getD p Τ=Ξ/\t.ok p=Ξ)))
    (λT _=>t.n.length-(intOf T).toNat)
   case atStart=>exact⟨0,by omega,rfl,Θ wr,Α λp hp=>by omega⟩
   case round=>
    obtain⟨wo,c5⟩:∃ W,W=wr:=⟨_,rfl⟩;subst c5;obtain⟨q,hq,rfl,hE,HQ⟩:=hrel;have af:=D.extW hE;by_cases U:q<t.n.length
    ·have cu:(q:Int)<(t.n.length:Int):=by omega
     have cz:=Am Τ (af.row 0 rfl) M.out.1.symm q (by rw[M.out.1];exact U);have eb:=ch.out wo af.ext;have ck:=cg.out wo (ae.out.trans af.ext) q U;obtain⟨b,hb⟩:∃ b,Z.getD q Τ=b:=⟨_,rfl⟩;obtain⟨b2,ax⟩:∃ b,t.ok q=b:=⟨_,rfl⟩;rw[hb] at cz;rw[ax] at ck;have HB:=Α hb;have b6:=Α ax;clear hb ax;by_cases ag:b=Ξ/\b2=Ξ
     ·obtain⟨rfl,rfl⟩:=ag;obtain rfl:r=Ξ:=HR.out.2 (by
       obtain⟨u,hu,e⟩:=(M.out.2 q).1 HB.out;exact⟨u,hu,by rw[e];exact b6.out⟩)
      have ay:=ae.out.trans af.ext;go_wp2;go_ret;exact⟨rfl,ay⟩
     ·have b7:À (∀ p,p<q+1->¬ (Z.getD p Τ=Ξ/\t.ok p=Ξ)):=Α λp hp=>by
       by_cases e:p=q
       ·rw[e,HB.out,b6.out];exact ag
       ·exact HQ.out p (by omega)
      have b8:=hE;cases b with
      | false=>
       clear ag;go_wp2;go_roundw
       case rel=>exact⟨q+1,by omega,by go_num,b8,b7⟩
       case measure=>simp[intOf];omega
      | true=>
       cases b2 with
       | true=>exact absurd ⟨rfl,rfl⟩ ag
       | false=>
        clear ag;go_wp2;go_roundw
        case rel=>exact⟨q+1,by omega,by go_num,b8,b7⟩
        case measure=>simp[intOf];omega
    ·obtain rfl:q=t.n.length:=by omega
     obtain rfl:=Ec HR.out (by
      rintro⟨u,hu,e⟩;exact HQ.out _ (HV.out.run_lt u hs) ⟨(M.out.2 _).2 ⟨u,hu,rfl⟩,e⟩)
     have ay:=ae.out.trans af.ext;go_wp2;go_ret;exact⟨rfl,ay⟩
theorem Ch.weak {b b':Nat} {W:Λ} {c:Ch} (h:c.At b W) (D:b'<=b):c.At b' W:=by
 cases c with
 | row e size v n xs=>exact Mk h D
 | obj g o=>exact⟨ψ D h.1,h.2⟩
theorem Hp.join {w0 W W':Λ} {L G:List Ch} (h:Hp w0 W L) (E:Hp W W' G):Hp w0 W' (G++L):=by
 refine⟨h.ext.trans E.ext,λc D=>?_,List.pairwise_append.2 ⟨E.far,h.far,λc D d hd g I J=>?_⟩⟩
 ·rcases List.mem_append.1 D with D|D
  ·exact Ch.weak (E.at_ c D) h.ext.size
  ·exact Ch.kept (h.at_ c D) (E.ext.grownBy Γ) (λ_ _=>by simp)
 ·have:=(Ch.lt (E.at_ c D) g I).1;have:=(Ch.lt (h.at_ d hd) g J).2;omega
theorem Hp.sub {w0 W:Λ} {L D:List Ch} (h:Hp w0 W L) (hs:D.Sublist L):Hp w0 W D:=⟨h.ext,λc E=>h.at_ c (hs.subset E),h.far.sublist hs⟩
def Cq (D:List Ν) (E:List (List UInt8)):List Ch:=List.zipWith (λv (l:List UInt8)=>Ch.row 5 1 v l.length (l.map bv)) D E
theorem Aae {D:List Ν} {E:List (List UInt8)} (h:D.length=E.length) (v:Ν) (l:List UInt8):Cq (D++[v]) (E++[l])=Cq D E++[.row 5 1 v l.length (l.map bv)]:=by
 unfold Cq;rw[List.zipWith_append h];rfl
theorem R9 {E:List Ν} {D:List (List UInt8)} (h:E.length=D.length) (j:Nat) (G:j<D.length):(Cq E D)[j]? = Δ (.row 5 1 (E.getD j ς) (D.getD j []).length ((D.getD j []).map bv)):=by
 unfold Cq;rw[List.getElem?_zipWith,Μ (by omega),Μ G];simp[Η,G,h]
theorem Aaf {E:List Ν} {D:List (List UInt8)} (h:E.length=D.length):(Cq E D).length=D.length:=by
 unfold Cq;rw[List.length_zipWith,h,Nat.min_self]
def Som (E:List Ν) (D:List (List UInt8)):Prop:=E.length=D.length/\∀ i,i<D.length->∃ g c,E.getD i ς=Β (Δ ⟨g,0,Γ⟩) (D.getD i []).length c
theorem Acb {E:List Ν} {D:List (List UInt8)} (h:Som E D) (g c:Nat) (l:List UInt8):Som (E++[Β (Δ ⟨g,0,Γ⟩) l.length c]) (D++[l]):=by
 refine⟨by simp[h.1],λi hi=>?_⟩;rw[Υ,List.length_singleton] at hi;by_cases e:i<D.length
 ·rw[Bt _ _ _ _ e,Bt _ _ _ _ (by rw[h.1];exact e)];exact h.2 i e
 ·obtain rfl:i=D.length:=by omega
  refine⟨g,c,?_⟩;rw[Cm,<-h.1,Cm]
theorem Aj2 (L:List UInt8->Bool) (n:Nat) {k k':Nat} (h:k<=k'):(Dm L n k).length<=(Dm L n k').length:=by
 induction h with
 | refl=>exact ν _
 | step _ D=>rw[I8,Υ];omega
theorem Aj3 (L:List UInt8->Bool) (n b:Nat) (D:b<256):(Dm L n b).length+(Bo (λw=>L (χ b::w)) n).length<=Ba L (n+1):=by
 have:=Aj2 L n (show b+1<=256 by omega);rw[I8,Υ,ϋ,W6] at this;exact this
theorem Zn (b o j:Nat):(⟨b,o,Γ⟩:Addr).add j=⟨b,o+j,Γ⟩:=by
 unfold Addr.add;by_cases D:j=0
 ·subst D;rfl
 ·simp[D]
theorem Afh (r o g:Ch) (A B:List Ch):(o::r::g::(A++B)).Perm ((r::A)++(o::g::B)):=by
 have D:((r::A)++(o::g::B)).Perm (o::((r::A)++(g::B))):=List.perm_middle;have E:(A++g::B).Perm (g::(A++B)):=List.perm_middle;exact (D.trans ((E.cons r).cons o)).symm
abbrev wfs (t:Tbl) (s n:Nat):List (List UInt8):=Bo (λu=>t.ok (t.run s u)) n
theorem Aah (t:Tbl) (hv:TVal t) (hn:t.n.length<=65536) (A:Array Ν):∀ (n:Nat) (s:Nat) (w:Λ),n<=8->s<t.n.length->IsR w A t->Ba (λu=>t.ok (t.run s u)) n<=4096->
  ϓ Ζ 65 #[.agg A,.int ε s,.int ε n] w λe w'=>∃ g c I,e=θ (Β (Δ ⟨g,0,Γ⟩) I.length c)/\Hp w w' (.row 22 1 (Β (Δ ⟨g,0,Γ⟩) I.length c) I.length I::Cq I (wfs t s n))/\Som I (wfs t s n):=by
 obtain⟨i5,er,et,eu,ev⟩:=Ϟ (show (Ζ.info? 5).map (λi=>(i.zero,i.size,i.bytes))=Δ (Δ (.int .u8 0),1,1) by kernel_rfl);obtain⟨c3,c4,c5,c6,da⟩:=Ϟ (show (Ζ.info? 22).map (λi=>(i.zero,i.size,i.bytes))=Δ (Δ (Β Γ 0 0),1,24) by kernel_rfl);have HV:=Α hv;have fl:=hv.cle;clear hv;intro n;induction n with
 | zero=>
  intro s w _ hs h ax;obtain⟨_,_,_,_,_,_,bb,b4,_⟩:=h.opened HV.out;have ay:(Ζ.info? 79).map (·.size)=Δ A.size:=by rw[bb];exact Co
  have D:=(Hp.nil w).new (Ε A 79);have az:=λW (J:Ext w W)=>h.ext J
  obtain⟨r,hr⟩:∃ r:Bool,(r=Ξ↔∃ u:List UInt8,u.length=0/\t.ok (t.run s u)=Ξ):=by
   by_cases h:∃ u:List UInt8,u.length=0/\t.ok (t.run s u)=Ξ
   ·exact⟨Ξ,⟨λ_=>h,λ_=>rfl⟩⟩
   ·exact⟨Τ,⟨λh'=>(by cases h'),λh'=>absurd h' h⟩⟩
  have HR:=Α hr;have f108:=λW (J:Ext w W)=>Α (show ϓ Ζ 108 #[.agg A,.int ε s,.int ε 0] W _ from Ub t HV.out hn A s 0 hs (by omega) r HR.out W (az W J))
  show ϓ Ζ 65 #[.agg A,.int ε s,.int ε 0] w _;clear h hr az b4 bb;go_enter Tryz.func65,Tryz.ntmps65;go_upto_region 1 with (fail)
  obtain⟨w1,ak⟩:∃ X,w.alloc (Ε A 79)=X:=⟨_,rfl⟩;obtain⟨g3,al⟩:∃ y,w.heap.size=y:=⟨_,rfl⟩;rw[ak,al] at D;simp only[ak,al];clear ak al;have T:=D.lit 22 1 #[] 0 (by unfold ϛ;omega) rfl;go_upto_region 2 with (fail)
  obtain⟨w2,an⟩:∃ X,w1.alloc (Ε #[] 22)=X:=⟨_,rfl⟩;obtain⟨g7,ao⟩:∃ y,w1.heap.size=y:=⟨_,rfl⟩;rw[an,ao] at T;simp only[an,ao];clear an ao D;have HO:=Α (T.obj 1 rfl);have f108:=f108 w2 T.ext;cases r with
  | false=>
   have bd:wfs t s 0=[]:=Lp λu hu=>by
    rw[<-Bool.not_eq_true];exact λe=>by
     have:=HR.out.2 ⟨u,hu,e⟩;cases this
   go_wp2_with (first
    | (refine Ο rfl 79 (η 3) rfl _ rfl _ _ _ _ HO.out Ϻ rfl ay ?_)
    | (go_at_call 108;(with_reducible refine f108.out.mono ?_);rintro e w3 ⟨rfl,ae⟩))
   go_ret;exact⟨g7,0,[],rfl,(by rw[bd];exact (T.extW ae).sub (List.Sublist.cons_cons _ (List.Sublist.cons _ List.Sublist.slnil))),(by rw[bd];exact⟨rfl,λi hi=>by simp at hi⟩)⟩
  | true=>
   have db:wfs t s 0=[[]]:=by
    obtain⟨u,hu,e⟩:=HR.out.1 rfl;obtain rfl:u=[]:=Ð hu;show (if t.ok (t.run s []) then [[]] else [])=_;rw[if_pos e]
   have dc:=Α db;clear HR db;go_upto_region 5 with (first
    | (refine Ο rfl 79 (η 3) rfl _ rfl _ _ _ _ HO.out Ϻ rfl ay ?_)
    | (go_at_call 108;(with_reducible refine f108.out.mono ?_);rintro e w3 ⟨rfl,ae⟩))
   have be:=(T.extW ae).lit 5 1 #[] 0 (by unfold ϛ;omega) rfl;have b6:=be.alloc (Ε #[Β (Δ ⟨w3.heap.size,0,Γ⟩) 0 0] 22);have bm:=b6.size;have dd:=ϭ (w3.alloc (Ε #[] 5)) (Β (Δ ⟨w3.heap.size,0,Γ⟩) 0 0) 22;rw[Λ.size_alloc] at dd;clear T be f108 HO ae;go_wp2_with (at_builtin;refine Ϙ _ rfl _ _ 38 rfl w.heap.size 22 c3 (Β Γ 0 0) 1 24 Tryz.underlying38 c4 c5 c6 da rfl (by decide) _ _ _ rfl (b6.row 1 rfl) _ 1 1 [Β (Δ ⟨w3.heap.size,0,Γ⟩) 0 0] rfl rfl dd (by simp[ό]) (by decide) (by unfold ϛ;omega) (by omega) bm _ rfl ?_;intro gq c7 w7 bf bo bp _);have ah:=(b6.app 1 rfl bf bo bp).swap;go_ret;exact⟨gq,c7,[Β (Δ ⟨w3.heap.size,0,Γ⟩) 0 0],rfl,(by rw[dc.out];exact ah.sub (List.Sublist.cons_cons _ (List.Sublist.cons_cons _ (List.Sublist.cons _ List.Sublist.slnil)))),(by rw[dc.out];exact⟨rfl,λi hi=>by
    obtain rfl:i=0:=by simpa using hi
    exact⟨_,_,rfl⟩⟩)⟩
 | succ m ih=>
  intro s w hm hs h ax;obtain⟨bn,on,cn,ba,oa,ca,bb,b4,dk,dm,ez,dn,e0⟩:=h.opened HV.out;have ay:(Ζ.info? 79).map (·.size)=Δ A.size:=by rw[bb];exact Co
  have D:=(Hp.nil w).new (Ε A 79);have az:=λW (J:Ext w W)=>h.ext J
  obtain⟨r,hr⟩:∃ r:Bool,(r=Ξ↔∃ u:List UInt8,u.length=m+1/\t.ok (t.run s u)=Ξ):=by
   by_cases h:∃ u:List UInt8,u.length=m+1/\t.ok (t.run s u)=Ξ
   ·exact⟨Ξ,⟨λ_=>h,λ_=>rfl⟩⟩
   ·exact⟨Τ,⟨λh'=>(by cases h'),λh'=>absurd h' h⟩⟩
  have HR:=Α hr;have f108:=λW (J:Ext w W)=>Α (Ub t HV.out hn A s (m+1) hs (by omega) r HR.out W (az W J))
  have IH:=Α (λb (hb:b<256) W (J:Ext w W)=>ih (t.stp s b) W (by omega) (HV.out.stp_lt hs hb) (az W J));have e2:=Α dk;have e3:=Α dm;have bq:=Α ax;obtain⟨br,dr,cr,dt,du⟩:=dn s hs;have e5:=Α dt;have e6:=Α du;clear h hr az b4 bb dk dm ez dn e0 ax ih dt du;have fq:(s:Int)<(t.n.length:Int):=by omega
  obtain⟨n,bt⟩:∃ n:Nat,m+1=n:=⟨_,rfl⟩;have bg:=Α bt;have fs:1<=n:=by omega
  have ft:n<=8:=by omega
  rw[bt] at f108 bq;simp only[bt];have fu:((n:Int)==0)=Τ:=by simp;omega
  have fv:(n:Int)-1=(m:Int):=by omega
  clear bt;go_enter Tryz.func65,Tryz.ntmps65;go_upto_region 1 with (fail)
  obtain⟨w1,ak⟩:∃ X,w.alloc (Ε A 79)=X:=⟨_,rfl⟩;obtain⟨g3,al⟩:∃ y,w.heap.size=y:=⟨_,rfl⟩;rw[ak,al] at D;simp only[ak,al];clear ak al;have T:=D.lit 22 1 #[] 0 (by unfold ϛ;omega) rfl;go_upto_region 2 with (fail)
  obtain⟨w2,an⟩:∃ X,w1.alloc (Ε #[] 22)=X:=⟨_,rfl⟩;obtain⟨g7,ao⟩:∃ y,w1.heap.size=y:=⟨_,rfl⟩;rw[an,ao] at T;simp only[an,ao];clear an ao D;have HO:=Α (T.obj 1 rfl);have f108:=f108 w2 T.ext;cases r with
  | false=>
   have bd:wfs t s n=[]:=Lp λu hu=>by
    rw[<-Bool.not_eq_true];exact λe=>by
     have:=HR.out.2 ⟨u,by rw[bg.out];exact hu,e⟩;cases this
   go_wp2_with (first
    | (refine Ο rfl 79 (η 3) rfl _ rfl _ _ _ _ HO.out Ϻ rfl ay ?_)
    | (go_at_call 108;(with_reducible refine f108.out.mono ?_);rintro e w3 ⟨rfl,ae⟩))
   go_ret;exact⟨g7,0,[],rfl,(by rw[bd];exact (T.extW ae).sub (List.Sublist.cons_cons _ (List.Sublist.cons _ List.Sublist.slnil))),(by rw[bd];exact⟨rfl,λi hi=>by simp at hi⟩)⟩
  | true=>
   clear HR;go_wp2_with (first
    | (refine Ο rfl 79 (η 3) rfl _ rfl _ _ _ _ HO.out Ϻ rfl ay ?_)
    | (go_at_call 108;(with_reducible refine f108.out.mono ?_);rintro e w3 ⟨rfl,ae⟩))
   have be:=T.extW ae;clear T f108 HO ae;go_loopw [7,8] (λvo vb W=>∃ (I:List Ν) (ws:List (List UInt8)) (g c b:Nat),b<=256/\vo=Β (Δ ⟨g,0,Γ⟩) I.length c/\vb=.int ε b/\Hp w W (.row 22 1 (Β (Δ ⟨g,0,Γ⟩) I.length c) I.length I::.obj g3 (Ε A 79 (0,0))::Cq I ws)/\À (Som I ws/\ws=Dm (λu=>t.ok (t.run s u)) m b))
    (λ_ vb _=>256-(intOf vb).toNat)
   case atStart=>exact⟨[],[],g7,0,0,by omega,rfl,rfl,be,Α ⟨⟨rfl,λi hi=>by simp at hi⟩,rfl⟩⟩
   case round=>
    clear be;obtain⟨I,ws,g,c,b,hb,rfl,rfl,D,M⟩:=hrel;by_cases aq:b<256
    ·have fw:(b:Int)<256:=by omega
     have cb:=Α (Aj3 (λu=>t.ok (t.run s u)) m b aq);have ax:Ba (λu=>t.ok (t.run (t.stp s b) u)) m<=4096:=by
      have h1:=cb.out;have h2:=bq.out;have e:(λw=>t.ok (t.run s (χ b::w)))=λu=>t.ok (t.run (t.stp s b) u):=funext λu=>by
       show t.ok (t.run (t.stp s (χ b).toNat) u)=_;rw[u8n b aq]
      rw[e] at h1;rw[bg.out] at h1;unfold Ba at h2 ⊢;unfold Ba at h1;omega
     have a7:=Α (show wfs t (t.stp s b) m=Bo (λw=>t.ok (t.run s (χ b::w))) m by
      have e:(λw=>t.ok (t.run s (χ b::w)))=λu=>t.ok (t.run (t.stp s b) u):=funext λu=>by
       show t.ok (t.run (t.stp s (χ b).toNat) u)=_;rw[u8n b aq]
      rw[e])
     have cf:=Α ax;clear ax;go_upto_region 9 with (fail)
     have dv:=HV.out.cell_lt b aq;have cg:À (t.ent2 s (t.cell b)=t.stp s b):=Α rfl;obtain⟨q,hq⟩:∃ x,t.cell b=x:=⟨_,rfl⟩;rw[hq] at dv cg;obtain⟨x,hx⟩:∃ y,t.ent2 s q=y:=⟨_,rfl⟩;rw[hx] at cg;have fx:(q:Int)<(t.cells:Int):=by omega
     have HF:=Α (λW (J:Ext wr W)=>(show W.cell? ⟨g3,256,Γ⟩=Δ (Β (Δ ⟨bn,on,Γ⟩) t.n.length cn)/\W.cell? ⟨bn,on+s,Γ⟩=Δ (Β (Δ ⟨br,dr,Γ⟩) t.cells cr)/\W.cell? ⟨g3,b,Γ⟩=Δ (iv q)/\W.cell? ⟨br,dr+q,Γ⟩=Δ (iv x) from
      ⟨Av (J.heap (D.obj 1 rfl)) e3.out,(D.ext.trans J).cell e5.out,by rw[<-hq];exact Av (J.heap (D.obj 1 rfl)) (e2.out b aq),by rw[<-hx];exact (D.ext.trans J).cell (e6.out q dv)⟩))
     have HO:=Α (D.obj 1 rfl);have ck:=Α (IH.out b aq);rw[<-cg.out] at ck cf a7;have hd:=(Θ wr).drew;clear hq hx;refine B2 15 [(0,Ξ),(1,Ξ),(2,Ξ),(3,Ξ),(4,Ξ),(5,Ξ),(6,Ξ),(7,Ξ),(8,Ξ),(9,Ξ),(10,Ξ),(11,Ξ),(12,Ξ),(13,Ξ),(14,Τ),(15,Τ)] (by kernel_rfl) (by kernel_rfl) (λ_ _ _ _ h=>h)
      (λW=>Ext wr W) hd ?_
     obtain⟨wq,cl⟩:∃ X,wr.drew=X:=⟨_,rfl⟩;rw[cl] at hd;rw[cl];clear cl;refine Ao (v:=.agg A) rfl rfl (λW J=>D2 79 (η 3) rfl _ rfl _ _ _ _ (J.heap HO.out) Ϻ rfl ay) ?_;simp only[Ϛ,Ι,Χ,Ψ];iterate 12
      refine Ao (v:=?_) rfl rfl (λV hV=>?_) ?_
      rotate_left
      ·obtain⟨k0,k1,k2,k3⟩:=HF.out V hV;clear hV;go_simp;first|done|with_reducible rfl
      simp only[Ϛ,Ι,Χ,Ψ]
     refine Ao (v:=iv m) rfl rfl (λV hV=>?_) ?_
     ·have cm:þ.wrap (m:Int)=(m:Int):=ý _ ⟨by omega,by omega⟩;clear hV;go_simp
     simp only[Ϛ,Ι,Χ,Ψ];refine A5 rfl (λKq bh=>?_);go_simp;with_reducible refine (ck.out wq (D.ext.trans hd) cf.out).mono ?_
     rintro e w7 ⟨g9,c9,E,rfl,cq,ea⟩;refine bh _ _ (λ_=>hd.trans cq.ext) ?_;clear bh Kq;refine A5 rfl (λKq bh=>?_);go_simp;refine bh _ _ (λh=>absurd h (by omega)) ?_;clear bh Kq;refine B3 ?_;have ct:=((D.extW hd).join cq).perm (Afh _ _ _ _ _);have au:=Α ea;clear D hd cq ea HF HO ck cf;obtain⟨U,eb⟩:∃ y,wfs t x m=y:=⟨_,rfl⟩;rw[eb] at ct au a7;clear eb;have ga:E.length<=4096:=by
      have h1:=cb.out;rw[<-a7.out,bg.out] at h1;have h2:=bq.out;have h3:=au.out.1;omega
     go_wp2_with (fail);go_loopw [7,10] (λvo vi W=>∃ (G:List Ν) (aa:List (List UInt8)) (g c i:Nat),i<=E.length/\vo=Β (Δ ⟨g,0,Γ⟩) G.length c/\vi=.int ε i/\Hp w W (.row 22 1 (Β (Δ ⟨g,0,Γ⟩) G.length c) G.length G::.row 22 1 (Β (Δ ⟨g9,0,Γ⟩) E.length c9) E.length E::.obj g3 (Ε A 79 (0,0))::(Cq E U++Cq G aa))/\À (Som G aa/\aa=Dm (λu=>t.ok (t.run s u)) m b++(U.take i).map (χ b::·)))
      (λ_ vi _=>E.length-(intOf vi).toNat)
     case atStart=>exact⟨I,ws,g,c,0,by omega,rfl,rfl,ct,Α ⟨M.out.1,by rw[M.out.2];simp⟩⟩
     case round=>
      clear ct M;obtain⟨G,aa,g,c,i,gd,rfl,rfl,D,M⟩:=hrel;have gf:G.length<=4096:=by
       have h1:=cb.out;rw[<-a7.out,bg.out] at h1;have h2:=bq.out;rw[M.out.1.1,M.out.2,Υ,ϋ,List.length_take];omega
      by_cases cv:i<E.length
      ·have gg:(i:Int)<(E.length:Int):=by omega
       have a8:i<U.length:=by rw[<-au.out.1];exact cv
       obtain⟨gi,ci,cy⟩:=au.out.2 i a8;have cR:=(Ϡ.cellAt (D.row 1 rfl) i (by omega)).trans (Μ cv);have ec:E[i]=Β (Δ ⟨gi,0,Γ⟩) (U.getD i []).length ci:=by
        rw[<-cy,Η,Μ cv];rfl
       rw[ec] at cR;have bx:=D.row (i+3) (show (.row 22 1 (Β (Δ ⟨g,0,Γ⟩) G.length c) G.length G::.row 22 1 (Β (Δ ⟨g9,0,Γ⟩) E.length c9) E.length E::.obj g3 (Ε A 79 (0,0))::(Cq E U++Cq G aa))[i+3]? = Δ (.row 5 1 (E.getD i ς) (U.getD i []).length ((U.getD i []).map bv)) from by
        show (Cq E U++Cq G aa)[i]? = _;rw[Ϣ (by rw[Aaf au.out.1];exact a8)];exact R9 au.out.1 i a8)
       rw[cy] at bx;have e9:=Α (List.take_succ_eq_append_getElem a8);have ed:À (U[i]=U.getD i []):=Α (by rw[Η,Μ a8];rfl);obtain⟨wi,cz⟩:∃ y,U.getD i []=y:=⟨_,rfl⟩;rw[cz] at bx cR ed;have gh:wi.length<=8:=by
        have:wi∈Bo (λw=>t.ok (t.run s (χ b::w))) m:=by rw[<-a7.out,<-cz];exact D9 _ _ _ a8
        have:=((Ga m _ wi).1 this).1;omega
       clear cy ec cz;have fa:IntKind.u8.wrap (b:Int)=(b:Int):=by
        simp[IntKind.wrap,IntKind.signed,IntKind.bits];omega
       have ee:bv (χ b)=.int .u8 (b:Int):=by show Ν.int .u8 ((χ b).toNat:Int)=_;rw[u8n b aq]
       have bz:=D.lit 5 1 #[.int .u8 (b:Int)] 1 (by unfold ϛ;omega) rfl;have bm:=bz.size;have ef:∀ j v,(wi.map bv)[j]? = Δ v->(wr.alloc (Ε #[.int .u8 (b:Int)] 5)).cell? ((⟨gi,0,Γ⟩:Addr).add j)=Δ v:=λj v hj=>by
        rw[Zn,é,Ϡ.cellAt (bx.alloc _) j (by have:=(ϊ.1 hj).1;simpa using this)];exact hj
       have eh:=Α ef;have fb:=((Θ wr).alloc (Ε #[.int .u8 (b:Int)] 5)).cell cR;have ei:∀ u∈wi.map bv,u.oneCell'=Ξ:=λu hu=>by
        obtain⟨b,_,rfl⟩:=List.mem_map.1 hu;rfl
       clear bx ef cR D;go_upto_region 14 with (at_builtin;refine wpList_append_own_at _ rfl _ _ 22 rfl w.heap.size 5 i5 (.int .u8 0) 1 1 Tryz.underlying22 er et eu ev rfl (by decide) _ _ _ rfl (bz.row 0 rfl) ⟨gi,0,Γ⟩ wi.length _ (wi.map bv) rfl (by simp) eh.out ei (by unfold ϛ;omega) (by omega) bm ?_;intro v7 w7 bf bo _ bp)
       obtain⟨gw,cw,rfl,_,_⟩:=Ϡ.form bf (by omega);have ah:=bz.app 0 rfl bf bo (by
        rcases bp with e|e
        ·exact .inl e.symm
        ·exact .inr (ύ e))
       have c1:(1+wi.length)=(χ b::wi).length:=by rw[ϲ];omega
       have cm:(#[.int .u8 (b:Int)]:Array Ν).toList++wi.map bv=(χ b::wi).map bv:=by
        rw[List.map_cons,ee];rfl
       rw[c1,cm] at ah;have fc:(χ b::wi).length<=9:=by rw[ϲ];omega
       simp only[c1];obtain⟨wz,b0⟩:∃ y,χ b::wi=y:=⟨_,rfl⟩;have fe:=Α b0;rw[b0] at ah fc;simp only[b0];clear bf bo bp bz eh ei bm fb fa ee c1 cm b0;have ff:=ah.size;go_upto_region 12 with (at_builtin;refine Ϙ _ rfl _ _ 38 rfl w.heap.size 22 c3 (Β Γ 0 0) 1 24 Tryz.underlying38 c4 c5 c6 da rfl (by decide) _ _ _ rfl ((ah.row 1 rfl).alloc _) _ 1 1 [Β (Δ ⟨gw,0,Γ⟩) wz.length cw] rfl rfl (ϭ _ _ _) (by simp[ό]) (by decide) (by unfold ϛ;omega) (by omega) (by simp;omega) _ rfl ?_;intro gq c8 w8 ej ek en _)
       have fh:=((ah.alloc (Ε #[Β (Δ ⟨gw,0,Γ⟩) wz.length cw] 22)).app 1 rfl ej ek en).park;clear ej ek en ah ff;have c2:À (Som (G++[Β (Δ ⟨gw,0,Γ⟩) wz.length cw]) (aa++[wz])/\aa++[wz]=Dm (λu=>t.ok (t.run s u)) m b++(U.take (i+1)).map (χ b::·)):=Α ⟨Acb M.out.1 gw cw wz,by
        rw[e9.out,List.map_append,<-Ñ,<-M.out.2,ed.out,<-fe.out];rfl⟩
       have fj:=Α M.out.1.1;clear M;go_wp2;go_roundw
       case rel=>exact⟨G++[Β (Δ ⟨gw,0,Γ⟩) wz.length cw],aa++[wz],gq,c8,i+1,by omega,by rw[Υ];rfl,by go_num,by
        rw[Aae fj.out,<-Ñ,Υ];exact fh,c2⟩
       case measure=>simp[intOf];omega
      ·obtain rfl:i=E.length:=by omega
       have fk:=D.sub (List.Sublist.cons_cons _ (List.Sublist.cons _ (List.Sublist.cons_cons _ (List.sublist_append_right (Cq E U) (Cq G aa)))));have c2:À (Som G aa/\aa=Dm (λu=>t.ok (t.run s u)) m (b+1)):=Α ⟨M.out.1,by rw[M.out.2,I8,au.out.1,List.take_length,a7.out]⟩;clear D M;go_wp2;go_roundw
       case rel=>exact⟨G,aa,g,c,b+1,by omega,rfl,by go_num,fk,c2⟩
       case measure=>simp[intOf];omega
    ·obtain rfl:b=256:=by omega
     have eo:À (ws=wfs t s n):=Α (by rw[M.out.2,W6,bg.out]);go_wp2;go_ret;exact⟨g,c,I,rfl,(by rw[<-eo.out];exact D.sub (List.Sublist.cons_cons _ (List.Sublist.cons _ (List.Sublist.refl _)))),(by rw[<-eo.out];exact M.out.1)⟩
theorem Adb (c:Cls) (w:Λ):ϓ Ζ 63 #[.agg (Ab c)] w λe w'=>e=θ (.int ε (sz c))/\Ext w w':=by
 have:=Ada c w;rw[Amu] at this;exact this
theorem Acl (d:Dfa) (s:Nat):sat (A4 d 0 s)=if d.ok s then 1 else 0:=by unfold sat A4;split<;>rfl
theorem Xz (d:Dfa) (hv:Val d) (hn:d.n.length<=64) (N:Nat) (hN:N<=64) (v:Ν) (w:Λ) (h:IsD w v d) :
  ϓ Ζ 21 #[v,iv N] w λe w'=>e=E1 (Ba d.has N)/\Ext w w':=by
 have HD:=Α h;have f50:=λW (G:Ext w W)=>Α (G1 d hv hn _ W (HD.out.ext G))
 obtain⟨M,T,cC,bn,on,cn,ba,oa,ca,rfl,hC,b9,cb⟩:=h.opened hv;obtain⟨e8,e9,fa,af,cd⟩:=Û hC hv.parts.pos;injection af with af ed ee
 injection af with af
 injection af with ef eg _
 subst ef;subst eg;clear ed ee;obtain⟨i0,hi,cg,ch,cj⟩:=Ϟ Cp;have fb:=hv.parts.le;have fc:=hv.parts.pos;have ck:=hv.pos;have eh:=Α (λW (G:Ext w W) k (hk:k<d.cls.length)=>F6 (W:=W) (λi hi=>G.cell (cd i hi)) k hk);have ei:=Α b9;have ej:=Α (λW (G:Ext w W) s (hs:s<d.n.length)=>G.cell (cb s hs));have HV:=Α hv;have ek:=Α (K2 hv N 0 hv.pos);obtain⟨V,I⟩:∃ X,dA (Β (Δ ⟨M,T,Γ⟩) d.cls.length cC) (Β (Δ ⟨bn,on,Γ⟩) d.n.length cn) (Β (Δ ⟨ba,oa,Γ⟩) d.n.length ca)=X:=⟨_,rfl⟩;have cp:V[0]? = Δ (Β (Δ ⟨M,T,Γ⟩) d.cls.length cC):=by rw[<-I];rfl
 have cq:V[1]? = Δ (Β (Δ ⟨bn,on,Γ⟩) d.n.length cn):=by rw[<-I];rfl
 have ct:V[2]? = Δ (Β (Δ ⟨ba,oa,Γ⟩) d.n.length ca):=by rw[<-I];rfl
 have en:(Ζ.info? 30).map (·.size)=Δ V.size:=by rw[<-I];exact Ad
 rw[I] at HD f50 ⊢;have a8:=(Θ w).alloc (Ε V 30);have H0:=Aa w (Ε V 30);have fe:(N:Int)<=64:=by omega
 clear hC cd b9 cb hv h I;go_enter Tryz.func21,Tryz.ntmps21;go_upto_region 1 with (fail)
 obtain⟨w1,bb⟩:∃ X,w.alloc (Ε V 30)=X:=⟨_,rfl⟩;rw[bb] at a8 H0;simp only[bb];clear bb;obtain⟨g2,bc⟩:∃ y,w.heap.size=y:=⟨_,rfl⟩;rw[bc] at H0;simp only[bc];clear bc;have ab:=Α H0;have bd:=Α a8;clear H0 a8;go_upto_region 4 with (first
  | (refine Ο rfl 30 (η 2) rfl _ rfl _ _ _ _ ab.out Κ rfl en ?_)
  | (go_at_call 50;(with_reducible refine (f50 _ bd.out).out.mono ?_);rintro e E ⟨rfl,be⟩;have ag:=Α (bd.out.trans be);have ab:=Α (be.heap ab.out);clear be))
 have cv:=Α (λW (G:Ext E W)=>Av (G.heap ab.out) cp);have cw:=Α (λW (G:Ext E W)=>Av (G.heap ab.out) cq);have eo:=Α (λW (G:Ext E W)=>Av (G.heap ab.out) ct);have k1:=cw.out E (Θ E);clear f50 bd cp cq ct;go_upto_region 5 with (at_make;refine ϩ _ rfl _ _ 68 rfl E.heap.size 3 i0 (.int ε 0) 1 ϔ hi cg ch ε ε _ _ d.n.length rfl rfl rfl rfl (by rw[cj];omega) (by unfold ϛ;omega) (ν _) ?_;intro w3 cx cy)
 have D:=(Hp.nil E).made (show w3.ownsRow E.heap.size 3 1 (Β (Δ ⟨E.heap.size,0,Γ⟩) d.n.length d.n.length) d.n.length ((Br (λq=>sat (A4 d 0 q)) d.n.length 0).map iv) by rw[Hl,<-B6];exact cx) cy;obtain⟨gc,bf⟩:∃ y,E.heap.size=y:=⟨_,rfl⟩;rw[bf] at D;simp only[bf];clear bf cx cy k1;go_wp2_with (fail);go_loopw [8] (λU W=>∃ s:Nat,s<=d.n.length/\U=.int ε s/\Hp E W [.row 3 1 (Β (Δ ⟨gc,0,Γ⟩) d.n.length d.n.length) d.n.length ((Br (λq=>sat (A4 d 0 q)) d.n.length s).map iv)])
  (λU _=>d.n.length-(intOf U).toNat)
 case atStart=>exact⟨0,by omega,rfl,D⟩
 case round=>
  clear D;obtain⟨s,hs,rfl,D⟩:=hrel;by_cases J:s<d.n.length
  ·have er:(s:Int)<(d.n.length:Int):=by omega
   have k2:=eo.out wr D.ext;have ka:=ej.out wr (ag.out.trans D.ext) s J;have ah:=Acl d s;obtain⟨b,hb⟩:∃ b,d.ok s=b:=⟨_,rfl⟩;rw[hb] at ka ah;clear hb;cases b with
   | true=>
    have co:=Am 0 (D.row 0 rfl) (C2 _ _ _).symm s (by rw[C2];exact J);have fo:=(D.row 0 rfl).frozenAt s;have ad:=D.putf 0 rfl s (sat (A4 d 0 s));rw[F1 (λq=>sat (A4 d 0 q)) _ _ J,ah] at ad;clear ah D;go_wp2;go_roundw
    case rel=>exact⟨s+1,by omega,by go_num,ad⟩
    case measure=>simp[intOf];omega
   | false=>
    have dd:=Xl (λq=>sat (A4 d 0 q)) d.n.length s (by rw[ah];rfl);rw[dd] at D;clear ah dd;go_wp2;go_roundw
    case rel=>exact⟨s+1,by omega,by go_num,D⟩
    case measure=>simp[intOf];omega
  ·obtain rfl:s=d.n.length:=by omega
   rw[Jd] at D;go_wp2_with (fail);go_loopw [7,9] (λvc U W=>∃ g i:Nat,i<=N/\vc=Β (Δ ⟨g,0,Γ⟩) d.n.length d.n.length/\U=.int ε i/\Hp E W [.row 3 1 (Β (Δ ⟨g,0,Γ⟩) d.n.length d.n.length) d.n.length (((ι d.n.length).map λq=>sat (A4 d i q)).map iv)])
    (λ_ U _=>N-(intOf U).toNat)
   case atStart=>exact⟨gc,0,by omega,rfl,rfl,D⟩
   case round=>
    clear D;obtain⟨gx,i,fg,rfl,rfl,D⟩:=hrel;by_cases fh:i<N
    ·have fj:(i:Int)<(N:Int):=by omega
     have de:=D.size;go_upto_region 14 with (at_make;refine ϩ _ rfl _ _ 68 rfl E.heap.size 3 i0 (.int ε 0) 1 ϔ hi cg ch ε ε _ _ d.n.length rfl rfl rfl rfl (by rw[cj];omega) (by unfold ϛ;omega) de ?_;intro w4 df dg)
     have ad:=D.made (show w4.ownsRow E.heap.size 3 1 (Β (Δ ⟨wr.heap.size,0,Γ⟩) d.n.length d.n.length) d.n.length ((Br (λq=>sat (A4 d (i+1) q)) d.n.length 0).map iv) by rw[Hl,<-B6];exact df) dg;obtain⟨gy,bh⟩:∃ y,wr.heap.size=y:=⟨_,rfl⟩;rw[bh] at ad;simp only[bh];clear bh df dg D de;go_wp2_with (fail);go_loopw [11] (λvs W=>∃ s:Nat,s<=d.n.length/\vs=.int ε s/\Hp E W [.row 3 1 (Β (Δ ⟨gy,0,Γ⟩) d.n.length d.n.length) d.n.length ((Br (λq=>sat (A4 d (i+1) q)) d.n.length s).map iv),.row 3 1 (Β (Δ ⟨gx,0,Γ⟩) d.n.length d.n.length) d.n.length (((ι d.n.length).map λq=>sat (A4 d i q)).map iv)])
      (λvs _=>d.n.length-(intOf vs).toNat)
     case atStart=>exact⟨0,by omega,rfl,ad⟩
     case round=>
      clear ad;obtain⟨s,hs,rfl,D⟩:=hrel;by_cases J:s<d.n.length
      ·have er:(s:Int)<(d.n.length:Int):=by omega
       rw[<-Xm (λq=>sat (A4 d (i+1) q)) d.n.length s] at D;have dh:sat (Du d i s 0)=0:=rfl;rw[<-dh] at D;clear dh;obtain⟨br,dm,cr,dn,dp⟩:=ei.out s J;have ey:=Α dn;have ez:=Α dp;clear dn dp;go_wp2_with (fail);go_loopw [12] (λvk W=>∃ k:Nat,k<=d.cls.length/\vk=.int ε k/\Hp E W [.row 3 1 (Β (Δ ⟨gy,0,Γ⟩) d.n.length d.n.length) d.n.length (((Br (λq=>sat (A4 d (i+1) q)) d.n.length s).set s (sat (Du d i s k))).map iv),.row 3 1 (Β (Δ ⟨gx,0,Γ⟩) d.n.length d.n.length) d.n.length (((ι d.n.length).map λq=>sat (A4 d i q)).map iv)])
        (λvk _=>d.cls.length-(intOf vk).toNat)
       case atStart=>exact⟨0,by omega,rfl,D⟩
       case round=>
        clear D;obtain⟨k,hk,rfl,D⟩:=hrel;have c0:=cv.out wr D.ext;by_cases aw:k<d.cls.length
        ·have fk:(k:Int)<(d.cls.length:Int):=by omega
         go_upto_region 20 with (fail)
         clear c0;have bk:=HV.out.tgt s J k aw;have bl:d.cls.getD k 0#256≠0#256:=HV.out.parts.nz _ (D9 _ _ _ aw);have bm:=Zs d i s k;obtain⟨c,ae⟩:∃ c,d.cls.getD k 0#256=c:=⟨_,rfl⟩;rw[ae] at bl bm;have ai:=Tt (Du d i s k) (sz c) (A4 d i (d.ent2 s k)) (by
          rcases Nat.eq_zero_or_pos (sz c) with h1|h1
          ·exact absurd ((Lu c).1 h1) bl
          ·exact h1)
         rw[<-bm] at ai;have e0:=J9 (Du d i s k);have bp:=J9 (A4 d i (d.ent2 s k));have dq:sz c<=256:=S1 c;have f63:=λW=>Α (Adb c W)
         have bq:s<(Br (λq=>sat (A4 d (i+1) q)) d.n.length s).length:=by rw[C2];exact J
         have aj:=Α (λ(X:Λ) (hX:Ext wr X)=>(show
           X.cell? ⟨gy,s,Γ⟩=Δ (iv (sat (Du d i s k)))/\X.cell? ⟨g2,0,Γ⟩=Δ (Β (Δ ⟨M,T,Γ⟩) d.cls.length cC)/\X.cell? ⟨g2,1,Γ⟩=Δ (Β (Δ ⟨bn,on,Γ⟩) d.n.length cn)/\
           X.cell? ⟨bn,on+s,Γ⟩=Δ (Β (Δ ⟨br,dm,Γ⟩) d.cls.length cr)/\X.cell? ⟨br,dm+k,Γ⟩=Δ (iv (d.ent2 s k))/\X.cell? ⟨gx,d.ent2 s k,Γ⟩=Δ (iv (sat (A4 d i (d.ent2 s k))))/\
           (X.cell? ⟨M,T+k*4,Γ⟩=Δ (.int .u64 (wd c 0))/\X.cell? ⟨M,T+k*4+1,Γ⟩=Δ (.int .u64 (wd c 1))/\X.cell? ⟨M,T+k*4+2,Γ⟩=Δ (.int .u64 (wd c 2))/\X.cell? ⟨M,T+k*4+3,Γ⟩=Δ (.int .u64 (wd c 3))) from
          ⟨by
           have:=Am 0 (Ah (D.row 0 rfl) hX) (by rw[ϒ,C2]) s (by rw[ϒ];exact bq);rw[Bb _ _ _ _ _ bq,if_pos rfl] at this;exact this,cv.out X (D.ext.trans hX),cw.out X (D.ext.trans hX),(ag.out.trans (D.ext.trans hX)).cell ey.out,(ag.out.trans (D.ext.trans hX)).cell (ez.out k aw),by
           have:=Am 0 (Ah (D.row 1 rfl) hX) (by simp) (d.ent2 s k) (by simpa using bk);rw[show ((ι d.n.length).map λq=>sat (A4 d i q)).getD (d.ent2 s k) 0=sat (A4 d i (d.ent2 s k)) by simp[Η,bk]] at this;exact this,by rw[<-ae];exact eh.out X (ag.out.trans (D.ext.trans hX)) k aw⟩))
         clear bm bl ae bq;obtain⟨A,hA⟩:∃ x,sat (Du d i s k)=x:=⟨_,rfl⟩;obtain⟨x,hx⟩:∃ x,d.ent2 s k=x:=⟨_,rfl⟩;rw[hA,hx] at aj;rw[hA,hx] at ai;rw[hA] at e0 D;rw[hx] at bk bp;obtain⟨B,hB⟩:∃ y,sat (A4 d i x)=y:=⟨_,rfl⟩;rw[hB] at aj ai bp;have ak:=Α ai;obtain⟨z,hz⟩:∃ y,sz c=y:=⟨_,rfl⟩;simp only[hz] at f63;rw[hz] at ak dq;clear ai hz hB hx hA;have dt:z*B<=256*1099511627777:=Nat.mul_le_mul dq bp;obtain⟨p,hp⟩:∃ p:Nat,z*B=p:=⟨_,rfl⟩;rw[hp] at dt ak;have e1:(z:Int)*(B:Int)=(p:Int):=by rw[<-hp];push_cast;rfl
         clear hp;have e2:þ.wrap (p:Int)=(p:Int):=ý _ ⟨by omega,by omega⟩;have e3:þ.wrap ((A:Int)+(p:Int))=((A+p:Nat):Int):=by rw[show ((A+p:Nat):Int)=(A:Int)+(p:Int) by push_cast;rfl];exact ý _ ⟨by omega,by omega⟩
         have fl:(x:Int)<(d.n.length:Int):=by omega
         refine B2 29 [(0,Ξ),(1,Ξ),(2,Ξ),(3,Ξ),(4,Ξ),(5,Ξ),(6,Ξ),(7,Ξ),(8,Ξ),(9,Ξ),(10,Ξ),(12,Ξ),(13,Ξ),(14,Ξ),(15,Ξ),(16,Ξ),(17,Ξ),(18,Ξ),(19,Ξ),(20,Ξ),(21,Ξ),(22,Ξ),(25,Ξ),(26,Ξ),(11,Τ),(23,Ξ),(24,Ξ),(27,Ξ),(28,Ξ),(29,Τ)] (by kernel_rfl) (by kernel_rfl) (λ_ _ _ _ h=>h)
          (λW=>Ext wr W) (Θ wr).drew ?_
         have hd:=(Θ wr).drew;obtain⟨wq,bw⟩:∃ X,wr.drew=X:=⟨_,rfl⟩;rw[bw] at hd;rw[bw];clear bw;iterate 24
          refine Ao (v:=?_) rfl rfl (λV I=>?_) ?_
          rotate_left
          ·obtain⟨c0,c1,c2,c3,c4,c5,c6,c7,c8,c9⟩:=aj.out V I;clear I;go_simp;first|done|with_reducible rfl
          simp only[Ϛ,Ι,Χ,Ψ]
         refine A5 rfl (λKq al=>?_);go_simp;with_reducible refine (f63 wq).out.mono ?_
         rintro e w7 ⟨rfl,du⟩;have az:=hd.trans du;refine al _ _ (λ_=>az) ?_;clear al Kq;refine Ao (v:=.int ε (p:Int)) rfl rfl (λV _=>?_) ?_
         ·go_simp
         simp only[Ϛ,Ι,Χ,Ψ];refine Ao (v:=.int ε ((A+p:Nat):Int)) rfl rfl (λV _=>?_) ?_
         ·go_simp
         simp only[Ϛ,Ι,Χ,Ψ];refine Ao (v:=.int ε ((min (A+p) 1099511627777:Nat):Int)) rfl rfl (λV _=>?_) ?_
         ·go_simp;rw[show þ.wrap 1099511627777=1099511627777 from ý _ ⟨by omega,by omega⟩];omega
         simp only[Ϛ,Ι,Χ,Ψ];refine Ao (v:=?_) rfl rfl (λV I=>?_) ?_
         rotate_left
         ·clear I;go_simp;first|done|with_reducible rfl
         simp only[Ϛ,Ι,Χ,Ψ];have bz:=D.extW az;have fo:=(bz.row 0 rfl).frozenAt s;have co:=(aj.out w7 az).1;have dv:=bz.putf 0 rfl s (min (A+p) 1099511627777);rw[List.set_set,ak.out] at dv;have dw:=Α ak.out;refine A5 rfl (λKq al=>?_);go_simp;refine al _ _ (λh=>absurd h (by omega)) ?_;clear al Kq;refine B3 ?_;have dx:((min (A+p) 1099511627777:Nat):Int)=((sat (Du d i s (k+1)):Nat):Int):=congrArg _ dw.out;simp only[dx];clear dx dw ak fo co e2 e3 e1 dt D bz du az hd aj f63;go_wp2;go_roundw
         case rel=>exact⟨k+1,by omega,by go_num,dv⟩
         case measure=>simp[intOf];omega
        ·obtain rfl:k=d.cls.length:=by omega
         rw[Zt,F1 (λq=>sat (A4 d (i+1) q)) _ _ J] at D;go_wp2;go_roundw
         case rel=>exact⟨s+1,by omega,by go_num,D⟩
         case measure=>simp[intOf];omega
      ·obtain rfl:s=d.n.length:=by omega
       rw[Jd] at D;have e6:=D.swap.tail;go_wp2;go_roundw
       case rel=>exact⟨gy,i+1,by omega,rfl,by go_num,e6⟩
       case measure=>simp[intOf];omega
    ·obtain rfl:i=N:=by omega
     have cz:=Am 0 (D.row 0 rfl) (by simp) 0 (by simpa using ck);have dy:((ι d.n.length).map λq=>sat (A4 d i q)).getD 0 0=sat (A4 d i 0):=by simp[Η,ck]
     have ae:A4 d i 0=Ba d.has i:=ek.out;rw[dy,ae] at cz;obtain⟨C,b0⟩:∃ C,Ba d.has i=C:=⟨_,rfl⟩;rw[b0] at cz;have ea:=ag.out.trans D.ext;have eb:=Α b0;clear dy ae b0 D;by_cases ec:C<=1099511627776
     ·have an:sat C=C:=Nat.min_eq_left (by omega);rw[an] at cz;clear an;have fy:¬ (1099511627776:Int)<(C:Int):=by omega
      go_wp2;go_ret2;exact⟨by rw[eb.out];unfold E1;rw[if_pos ec];rfl,ea⟩
     ·have an:sat C=1099511627777:=Nat.min_eq_right (by omega);rw[an] at cz;clear an;go_wp2;go_ret2;exact⟨by rw[eb.out];unfold E1;rw[if_neg ec];rfl,ea⟩
theorem Aag {D G:List Ν} {E I:List (List UInt8)} (h:D.length=E.length):Cq (D++G) (E++I)=Cq D E++Cq G I:=List.zipWith_append h
theorem Acc {G I:List Ν} {D J:List (List UInt8)} (h:Som G D) (M:Som I J):Som (G++I) (D++J):=by
 refine⟨by simp[h.1,M.1],λi hi=>?_⟩;rw[Υ] at hi;have T:∀ {α:Type} (l m:List α) (d:α),i<l.length->(l++m).getD i d=l.getD i d:=λl m d E=>by
  rw[Η,Η,Ϣ E]
 have U:∀ {α:Type} (l m:List α) (d:α),l.length<=i->(l++m).getD i d=m.getD (i-l.length) d:=λl m d E=>by
  rw[Η,Η,List.getElem?_append_right E]
 have E:=h.1;by_cases e:i<D.length
 ·rw[T D J _ e,T G I _ (by omega)];exact h.2 i e
 ·rw[U D J _ (by omega),U G I _ (by omega),E];exact M.2 _ (by omega)
theorem Afg (r o:Ch) (A B:List Ch):(o::r::(B++A)).Perm ((r::A)++(o::B)):=by
 have D:((r::A)++(o::B)).Perm (o::((r::A)++B)):=List.perm_middle;exact (D.trans (((List.perm_append_comm (l₁:=A) (l₂:=B)).cons r).cons o)).symm
theorem Hp.wrds {w0 W:Λ} {v:Ν} {D:List Ν} {E:List (List UInt8)} (h:Hp w0 W (.row 22 1 v D.length D::Cq D E)) (hs:D.length=E.length):Wrds W v E:=by
 refine⟨D,hs,?_,λi hi=>?_⟩
 ·rw[<-hs];exact Gh (h.row 0 rfl)
 ·exact Gh (h.row (i+1) (R9 hs i hi))
theorem Aib (d:Dfa) (hv:Val d) (hn:d.n.length<=64) (N:Nat) (hN:N<=8) (v:Ν) (w:Λ) (h:IsD w v d) :
  ϓ Ζ 23 #[v,iv N] w λe w'=>Ext w w'/\((Bx d.has (N+1)<=4096/\∃ vo,e=θ (.tuple #[vo,.int ε 0])/\Wrds w' vo (Ca d.has (N+1)))\/(4096<Bx d.has (N+1)/\e=θ (.tuple #[Β Γ 0 0,.int ε 2]))):=by
 have HD:=Α h;have f50:=λW (J:Ext w W)=>Α (G1 d hv hn _ W (HD.out.ext J))
 have f51:=λW (J:Ext w W)=>Α (Kg d hv hv.parts.le _ W (HD.out.ext J))
 have f21:=Α (λk (hk:k<=N) W (J:Ext w W)=>Xz d hv hn k (by omega) _ W (HD.out.ext J));have a8:=Α (Bj hv);have cj:=Α (Dp d);obtain⟨ck,cl,cm,cp,cr⟩:=Ϟ (show (Ζ.info? 22).map (λi=>(i.zero,i.size,i.bytes))=Δ (Δ (Β Γ 0 0),1,24) by kernel_rfl);obtain⟨ac,lc,cc,an,cn,aa,la,ca,rfl⟩:=h.agg;obtain⟨V,hV⟩:∃ X,dA (Β ac lc cc) (Β an d.n.length cn) (Β aa la ca)=X:=⟨_,rfl⟩;have hi:(Ζ.info? 30).map (·.size)=Δ V.size:=by rw[<-hV];exact Ad
 rw[hV] at HD f50 f51 f21 ⊢;have bb:=(Θ w).alloc (Ε V 30);have H0:=Aa w (Ε V 30);have dx:(N:Int)<=8:=by omega
 clear h hV hv;go_enter Tryz.func23,Tryz.ntmps23;go_upto_region 1 with (fail)
 obtain⟨w1,bc⟩:∃ X,w.alloc (Ε V 30)=X:=⟨_,rfl⟩;rw[bc] at bb H0;simp only[bc];clear bc;obtain⟨g2,bd⟩:∃ y,w.heap.size=y:=⟨_,rfl⟩;rw[bd] at H0;simp only[bd];clear bd;have ai:=Α H0;have be:=Α bb;clear H0 bb;go_wp2_with (first
  | (refine Ο rfl 30 (η 2) rfl _ rfl _ _ _ _ ai.out Κ rfl hi ?_)
  | (go_at_call 50;(with_reducible refine (f50 _ be.out).out.mono ?_);rintro e w2 ⟨rfl,bf⟩;have aj:=Α (be.out.trans bf);have ai:=Α (bf.heap ai.out);clear bf))
 clear f50 be;go_loopw [6,7] (λvs vk W=>∃ (k:Nat),k<=N+1/\vs=.int ε (Bx d.has k)/\vk=.int ε k/\Ext w2 W/\À (Bx d.has k<=4096))
  (λ_ vk _=>N+1-(intOf vk).toNat)
 case atStart=>exact⟨0,by omega,rfl,rfl,Θ _,Α (Nat.zero_le _)⟩
 case round=>
  obtain⟨k,hk,rfl,rfl,M,HC⟩:=hrel;by_cases au:k<=N
  ·have aw:(k:Int)<=(N:Int):=by omega
   have ag:=Α (M.heap ai.out);have f:=f21.out k au wr (aj.out.trans M);have bo:Bx d.has (k+1)=Bx d.has k+Ba d.has k:=rfl;have ah:=Α bo;have bp:=Α (Nc d.has (show k+1<=N+1 by omega));obtain⟨c,hc⟩:∃ c,Ba d.has k=c:=⟨_,rfl⟩;rw[hc] at f ah;obtain⟨a,ha⟩:∃ a,Bx d.has k=a:=⟨_,rfl⟩;rw[ha] at ah HC;simp only[ha];clear bo hc;by_cases br:c<=1099511627776
   ·unfold E1 at f;rw[if_pos br] at f;have F:=Α f;clear f;have c1:=HC.out;have c2:þ.wrap ((a:Int)+(c:Int))=((a+c:Nat):Int):=by rw[show ((a+c:Nat):Int)=(a:Int)+(c:Int) by push_cast;rfl];exact ý _ ⟨by omega,by omega⟩
    by_cases c3:a+c<=4096
    ·have c4:¬ (4096:Int)<((a+c:Nat):Int):=by omega
     have c5:À (Bx d.has (k+1)<=4096):=Α (by rw[ah.out];exact c3);have c6:À (((a+c:Nat):Int)=((Bx d.has (k+1):Nat):Int)):=Α (by rw[ah.out]);go_wp2_with (first
      | (refine Ο rfl 30 (η 2) rfl _ rfl _ _ _ _ ag.out Κ rfl hi ?_)
      | (go_at_call 21;(with_reducible refine F.out.mono ?_);rintro e I ⟨rfl,D⟩))
     have c7:=M.trans D;go_roundw
     case rel=>exact⟨k+1,by omega,by rw[<-c6.out];rfl,by go_num,c7,c5⟩
     case measure=>simp[intOf];omega
    ·have c4:(4096:Int)<((a+c:Nat):Int):=by omega
     have bg:À (4096<Bx d.has (N+1)):=Α (by have:=bp.out;have:=ah.out;omega);go_wp2_with (first
      | (refine Ο rfl 30 (η 2) rfl _ rfl _ _ _ _ ag.out Κ rfl hi ?_)
      | (go_at_call 21;(with_reducible refine F.out.mono ?_);rintro e I ⟨rfl,D⟩))
     go_ret2;exact⟨(aj.out.trans M).trans D,.inr ⟨bg.out,rfl⟩⟩
   ·unfold E1 at f;rw[if_neg br] at f;have F:=Α f;clear f;have bg:À (4096<Bx d.has (N+1)):=Α (by have:=bp.out;have:=ah.out;omega);have c1:=HC.out;have c2:þ.wrap ((a:Int)+0)=(a:Int):=by rw[Int.add_zero];exact ý _ ⟨by omega,by omega⟩
    go_wp2_with (first
     | (refine Ο rfl 30 (η 2) rfl _ rfl _ _ _ _ ag.out Κ rfl hi ?_)
     | (go_at_call 21;(with_reducible refine F.out.mono ?_);rintro e I ⟨rfl,D⟩))
    go_ret2;exact⟨(aj.out.trans M).trans D,.inr ⟨bg.out,rfl⟩⟩
  ·obtain rfl:k=N+1:=by omega
   have aw:¬ ((N+1:Nat):Int)<=(N:Int):=by omega
   have ag:=Α (M.heap ai.out);have f51:=f51 wr (aj.out.trans M);have ax:∀ A,IsR w1 A (Ae d)->True:=λ_ _=>trivial
   clear ax;go_upto_region 12 with (first
    | (refine Ο rfl 30 (η 2) rfl _ rfl _ _ _ _ ag.out Κ rfl hi ?_)
    | (go_at_call 51;(with_reducible refine f51.out.mono ?_);rintro e T ⟨A,rfl,hA,bt⟩;have c8:=Α ((aj.out.trans M).trans bt);have HA:=Α hA;clear bt;obtain⟨_,_,_,_,_,_,bu,da,_⟩:=hA.opened a8.out;have ax:(Ζ.info? 79).map (·.size)=Δ A.size:=(by rw[bu];exact Co);have bw:ϖ.size=A.size:=(by rw[Fb,bu]))
    | (refine Φ rfl 79 (η 10) (η 45) rfl _ A rfl rfl _ _ (Aa T _) ax bw da ?_))
   have D:=((Θ T).alloc (Ε ϖ 79)).setRow (ν _) A;have ay:=μ (T.alloc (Ε ϖ 79)) T.heap.size _ A _ _ (Aa T _);obtain⟨I,az⟩:∃ X,(T.alloc (Ε ϖ 79)).setRow T.heap.size A=X:=⟨_,rfl⟩;obtain⟨ea,bk⟩:∃ y,T.heap.size=y:=⟨_,rfl⟩;rw[bk] at az ay D;rw[az] at D ay;simp only[bk];simp only[az];clear az bk hA bw M ag f51;have HA:=Α (λW (J:Ext I W)=>HA.out.ext (D.trans J));have HO:=Α (λW (J:Ext I W)=>J.heap ay);have dc:=Α (c8.out.trans D);have E:=(Hp.nil I).lit 22 1 #[] 0 (by unfold ϛ;omega) rfl;have bx:=Α (λk=>(show wfs (Ae d) 0 k=Bo d.has k from R8 k λu=>cj.out u));have bz:=Α (λk (hk:k<=N)=>(show Ba (λu=>(Ae d).ok ((Ae d).run 0 u)) k<=4096 by
    have h1:Ba (λu=>(Ae d).ok ((Ae d).run 0 u)) k=Ba d.has k:=congrArg List.length (bx.out k);have h2:Bx d.has (k+1)=Bx d.has k+Ba d.has k:=rfl;have h3:=Nc d.has (show k+1<=N+1 by omega);have h4:=HC.out;omega))
   have df:(Ae d).n.length<=65536:=by show d.n.length<=_;omega
   have dg:0<(Ae d).n.length:=a8.out.pos;clear D ay;go_upto_region 13 with (fail)
   obtain⟨w5,bl⟩:∃ X,I.alloc (Ε #[] 22)=X:=⟨_,rfl⟩;obtain⟨dh,bm⟩:∃ y,I.heap.size=y:=⟨_,rfl⟩;rw[bl,bm] at E;simp only[bl,bm];clear bl bm;go_wp2_with (fail);go_loopw [11,12] (λvo vk W=>∃ (G:List Ν) (ws:List (List UInt8)) (g c k:Nat),k<=N+1/\vo=Β (Δ ⟨g,0,Γ⟩) G.length c/\vk=.int ε k/\Hp I W (.row 22 1 (Β (Δ ⟨g,0,Γ⟩) G.length c) G.length G::Cq G ws)/\À (Som G ws/\ws=Ca d.has k))
    (λ_ vk _=>N+1-(intOf vk).toNat)
   case atStart=>exact⟨[],[],dh,0,0,by omega,rfl,rfl,E,Α ⟨⟨rfl,λi hi=>by simp at hi⟩,rfl⟩⟩
   case round=>
    clear E aw hk;obtain⟨G,ws,g,c,k,hk,rfl,rfl,E,U⟩:=hrel;by_cases au:k<=N
    ·have aw:(k:Int)<=(N:Int):=by omega
     have f65:=Α (show ϓ Ζ 65 #[.agg A,.int ε 0,.int ε k] wr _ from Aah (Ae d) a8.out df A k 0 wr (by omega) dg (HA.out wr E.ext) (bz.out k au));have b0:=Α (HO.out wr E.ext);go_upto_region 15 with (first
      | (refine Ο rfl 79 (η 10) rfl _ rfl _ _ _ _ b0.out Ϻ rfl ax ?_)
      | (go_at_call 65;(with_reducible refine f65.out.mono ?_);rintro e w7 ⟨g9,c9,ab,rfl,b5,b6⟩;have ak:=(E.join b5).perm (Afg _ _ _ _);have a6:=Α b6;have ee:ab.length<=4096:=(by rw[a6.out.1];exact bz.out k au);have ef:G.length<=4096:=(by
        rw[U.out.1.1,U.out.2,Iy];have h3:=Nc d.has (show k<=N+1 by omega);have h4:=HC.out;omega);have b7:=ak.size;have b8:∀ j v,ab[j]? = Δ v->w7.cell? ((⟨g9,0,Γ⟩:Addr).add j)=Δ v:=(λj v hj=>by
        rw[Zn,é,Ϡ.cellAt (ak.row 1 rfl) j (by have:=(ϊ.1 hj).1;omega)];exact hj);have b9:=Α b8;have cb:∀ u∈ab,u.oneCell'=Ξ:=(λu hu=>by
        obtain⟨j,hj,rfl⟩:=Gm (d:=ς) hu;obtain⟨g',c',e⟩:=a6.out.2 j (by rw[<-a6.out.1];exact hj);rw[e];rfl);clear b8 E b5 b6)
      | (at_builtin;refine wpList_append_own_at _ rfl _ _ 38 rfl I.heap.size 22 ck (Β Γ 0 0) 1 24 Tryz.underlying38 cl cm cp cr rfl (by decide) _ _ _ rfl (ak.row 0 rfl) ⟨g9,0,Γ⟩ ab.length _ ab rfl (by simp) b9.out cb (by unfold ϛ;omega) (by omega) b7 ?_;intro v8 w8 bn cd cf cg))
     obtain⟨gq,cq,rfl⟩:∃ g c,v8=Β (Δ ⟨g,0,Γ⟩) (G.length+ab.length) c:=by
      rcases bn.2 with⟨h1,_⟩|⟨g,dq,_,h1,_⟩
      ·have:=(cf.1 h1).1;cases this
      ·exact⟨g,dq,h1⟩
     have dr:=(ak.app 0 rfl bn cd (by
      rcases cg with e|e
      ·exact .inl e.symm
      ·exact .inr (ύ e))).sub (List.Sublist.cons_cons _ (List.Sublist.cons _ (List.Sublist.refl _)))
     have dt:À (Som (G++ab) (ws++wfs (Ae d) 0 k)/\ws++wfs (Ae d) 0 k=Ca d.has (k+1)):=Α ⟨Acc U.out.1 a6.out,by rw[U.out.2,bx.out];rfl⟩;have du:=Α U.out.1.1;clear bn cd cf cg ak b9 cb b7 U f65 b0;go_wp2;go_roundw
     case rel=>exact⟨G++ab,ws++wfs (Ae d) 0 k,gq,cq,k+1,by omega,by rw[Υ],by go_num,by rw[Aag du.out,Υ];exact dr,dt⟩
     case measure=>simp[intOf];omega
    ·obtain rfl:k=N+1:=by omega
     have aw:¬ ((N+1:Nat):Int)<=(N:Int):=by omega
     have dv:=dc.out.trans E.ext;have ch:=Α (E.wrds U.out.1.1);rw[U.out.2] at ch;clear E;go_wp2;go_ret2;exact⟨dv,.inl ⟨HC.out,_,rfl,ch.out⟩⟩
theorem Acs (u v:List UInt8) (va D:Ν) (w:Λ) (hu:By w va u) (hv:By w D v) :
  ϓ Ζ 42 #[va,D] w λe w'=>e=θ (.bool (decide (u=v)))/\Ext w w':=by
 have I:=Ik va u w hu;have J:=Ik D v w hv;have E:=Θ w;go_enter Tryz.func42,Tryz.ntmps42;go_wp2;have G:(u==v)=decide (u=v):=by rw[Bool.eq_iff_iff];simp
 rw[G];go_ret;exact⟨rfl,E⟩
theorem WordV.toBy {W:Λ} {v:Ν} {x:List UInt8} (h:WordV W v x) (hn:x.length<=4611686018427387904):By W v x:=
 (Sl.of_owns h hn (bv 0)).congr λi hi=>by
  simp only[Η,List.getElem?_map];cases x[i]?<;>rfl
theorem Wrds.nil (W:Λ):Wrds W (Β Γ 0 0) []:=⟨[],rfl,Λ.ownsRow_nil W 0 22 1,λi hi=>by simp at hi⟩
theorem Acq (D E:List (List UInt8)) (r:Bool) (hr:r=Ξ↔D=E) (bz:D.length<=65536) (b0:E.length<=65536) (a8:∀ x∈D,x.length<=65536) (bc:∀ x∈E,x.length<=65536) (va vb:Ν) (w:Λ) (h:Wrds w va D) (h':Wrds w vb E) :
  ϓ Ζ 25 #[va,vb] w λe w'=>e=θ (.bool r)/\Ext w w':=by
 obtain⟨us,b6,ag,ah⟩:=h;obtain⟨b7,b8,ai,aj⟩:=h';have I:=Sl.of_owns ag (by omega) ς;have J:=Sl.of_owns ai (by omega) ς;obtain⟨aa,ca,rfl⟩:=Sl.len I;obtain⟨ab,cb,rfl⟩:=Sl.len J;have HR:=Α hr;have ak:=Α (λi (hi:i<D.length)=>(ah i hi).toBy (ψ (a8 _ (D9 D i [] hi)) (by omega)));have al:=Α (λi (hi:i<E.length)=>(aj i hi).toBy (ψ (bc _ (D9 E i [] hi)) (by omega)));have an:=Θ w;by_cases M:D.length=E.length
 ·obtain⟨n,hn⟩:∃ n,D.length=n:=⟨_,rfl⟩;have HN:=Α hn;have b9:À (E.length=n):=Α (by rw[<-M,hn]);rw[hn] at M I ak bz ⊢;rw[<-M] at J al ⊢;have bg:((n:Int) != (n:Int))=Τ:=by simp
  have cd:=Α I;have cf:=Α J;clear ag ai ah aj b6 b8 hr a8 bc hn M I J b0;go_enter Tryz.func25,Tryz.ntmps25;go_wp2_with (fail);go_loopw [5] (λvi W=>∃ i:Nat,i<=n/\vi=.int ε i/\Ext w W/\À (∀ j,j<i->D.getD j []=E.getD j []))
   (λvi _=>n-(intOf vi).toNat)
  case atStart=>exact⟨0,by omega,rfl,an,Α λj hj=>by omega⟩
  case round=>
   clear an bg;obtain⟨i,hi,rfl,G,HQ⟩:=hrel;by_cases bj:i<n
   ·have cw:(i:Int)<(n:Int):=by omega
    obtain⟨ba,oa,cx,aq,bk⟩:=Û cd.out (by omega);obtain⟨bb,ob,cy,ar,bl⟩:=Û cf.out (by omega);injection aq with aq _ _
    injection ar with ar _ _
    subst aq;subst ar;go_upto_region 6 with (fail)
    have ga:=bk i (by omega);have gb:=bl i (by omega);have ad:=ak.out i bj;have ae:=al.out i bj;obtain⟨x,hx⟩:∃ x,D.getD i []=x:=⟨_,rfl⟩;obtain⟨y,hy⟩:∃ x,E.getD i []=x:=⟨_,rfl⟩;rw[hx] at ad;rw[hy] at ae;obtain⟨vx,bn⟩:∃ v,us.getD i ς=v:=⟨_,rfl⟩;obtain⟨vy,bp⟩:∃ v,b7.getD i ς=v:=⟨_,rfl⟩;rw[bn] at ga ad;rw[bp] at gb ae;have HF:=Α (λW (T:Ext wr W)=>(show W.cell? ⟨ba,oa+i,Γ⟩=Δ vx/\W.cell? ⟨bb,ob+i,Γ⟩=Δ vy from⟨(G.trans T).cell ga,(G.trans T).cell gb⟩));have F:=Α (λW (T:Ext wr W)=>Acs x y vx vy W (ad.ext (G.trans T)) (ae.ext (G.trans T)));have hd:=(Θ wr).drew;obtain⟨q,hq⟩:∃ q,decide (x=y)=q:=⟨_,rfl⟩;simp only[hq] at F;have br:=Α hq;have HX:=Α hx;have HY:=Α hy;clear bk bl ga gb ad ae bn bp hq hx hy;refine B2 9 [(0,Ξ),(1,Ξ),(2,Ξ),(3,Ξ),(4,Ξ),(5,Ξ),(6,Ξ),(7,Ξ),(8,Τ),(9,Τ)] (by kernel_rfl) (by kernel_rfl) (λ_ _ _ _ h=>h)
     (λW=>Ext wr W) hd ?_
    obtain⟨wq,a1⟩:∃ X,wr.drew=X:=⟨_,rfl⟩;rw[a1] at hd;rw[a1];clear a1;iterate 8
     refine Ao (v:=?_) rfl rfl (λV hV=>?_) ?_
     rotate_left
     ·obtain⟨k0,k1⟩:=HF.out V hV;clear hV;go_simp;first|done|with_reducible rfl
     simp only[Ϛ,Ι,Χ,Ψ]
    refine A5 rfl (λKq U=>?_);go_simp;with_reducible refine (F.out wq hd).mono ?_
    rintro e w7 ⟨rfl,a7⟩;have cn:=G.trans (hd.trans a7);refine U _ _ (λ_=>hd.trans a7) ?_;clear U Kq;refine A5 rfl (λKq U=>?_);go_simp;refine U _ _ (λh=>absurd h (by omega)) ?_;clear U Kq;refine B3 ?_;clear HF F hd a7;cases q with
    | true=>
     have cp:À (∀ j,j<i+1->D.getD j []=E.getD j []):=Α λj hj=>by
      by_cases e:j=i
      ·rw[e,HX.out,HY.out];exact of_decide_eq_true br.out
      ·exact HQ.out j (by omega)
     go_wp2;go_roundw
     case rel=>exact⟨i+1,by omega,by omega,cp⟩
     case measure=>simp[intOf];omega
    | false=>
     obtain rfl:=Ec HR.out (λe=>by
      have:=of_decide_eq_false br.out;exact this (by rw[<-HX.out,<-HY.out,e]))
     go_wp2;go_ret;exact⟨rfl,cn⟩
   ·obtain rfl:i=n:=by omega
    obtain rfl:r=Ξ:=HR.out.2 (by
     refine List.ext_getElem (by rw[HN.out,b9.out]) λj h1 h2=>?_
     have:=HQ.out j (by rw[<-HN.out];exact h1);rw[Η,Η,Μ h1,Μ h2] at this;exact this)
    go_wp2;go_ret;exact⟨rfl,G⟩
 ·obtain rfl:=Ec hr (λe=>M (by rw[e]));have bg:((D.length:Int) != (E.length:Int))=Ξ:=by simp;omega
  clear ag ai ah aj ak al I J;go_enter Tryz.func25,Tryz.ntmps25;go_wp2;go_ret;exact⟨rfl,an⟩
end Go.Proofs.YtaiogolidlamiaaGreatDoor
