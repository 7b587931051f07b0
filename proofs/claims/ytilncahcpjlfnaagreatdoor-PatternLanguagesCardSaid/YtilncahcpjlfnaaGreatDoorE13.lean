/-
  The walk of PatternLanguages.
-/
import Derived.Test.YtilncahcpjlfnaaGreatDoorM14
import Derived.Test.YtilncahcpjlfnaaGreatDoorM18
set_option linter.unusedVariables false
set_option linter.unusedSimpArgs false
set_option maxRecDepth 100000
set_option maxHeartbeats 4000000
open Bool renaming true → Α, false → Ε
open Go renaming World → Γ, Value → Δ, undef → Ω
open Go.Ending renaming returned → Ψ
open Go.Lib renaming hid → Z
open Go.Obj renaming cells → Β
open Go.Operand renaming tmp → δ
open Go.Proofs.Tryz renaming prog → Η, underlying40 → Ο
open Go.Value renaming slice → U
open List renaming drop_eq_getElem_cons → Ϝ, getD_eq_getElem?_getD → Ζ, getElem?_eq_getElem → Ι, getElem?_append_left → χ, getElem?_append_right → ς, range → π, setIfInBounds_toArray → Θ, set_cons_zero → Μ, set_cons_succ → Λ
open Nat renaming le_trans → μ, zero_add → ϖ, add_zero → è
open Option renaming some → J, none → I
namespace Go.Proofs.YtilncahcpjlfnaaGreatDoor
theorem V2 {d e:Dfa} {ds:List Dfa} {c:Dfa} (h:Cj (d::e::ds) (J c)):∃ q,Cj (e::ds) (J q)/\Cp d q (J c):=by
 obtain⟨q,h1,E⟩:=h;cases q with
 | none=>cases E
 | some q=>exact⟨q,h1,E⟩
theorem V3:∀ (ds:List Dfa) (c:Dfa) (i:Nat),i<ds.length->Cj ds (J c)->∃ q,Cj (ds.drop i) (J q)
 | [],_,_,h,_=>absurd h (by simp)
 | [d],c,i,h,E=>by
  obtain rfl:i=0:=by simp at h;omega
  exact⟨c,E⟩
 | d::e::ds,c,0,_,E=>⟨c,E⟩
 | d::e::ds,c,i+1,h,E=>by obtain⟨q,G,_⟩:=V2 E;exact V3 (e::ds) q i (by simpa using h) G
def My (ds:List Dfa) (i:Nat) (q:Dfa):Prop:=(Cano q/\q.n.length<=64)/\(ds.length<=i->∀ w,q.has w=Α↔w=[])/\(i<ds.length->Cj (ds.drop i) (J q))
theorem AI {ds:List Dfa} {i:Nat} (h:i+1<ds.length):ds.drop i=ds.getD i dN::ds.getD (i+1) dN::ds.drop (i+2):=by rw[Ϝ (by omega),Ϝ h,Ζ,Ι (by omega),Ζ,Ι h];rfl
theorem PY {ds:List Dfa} (hc:∀ d∈ds,Cano d/\d.n.length<=64) {c:Dfa} (hr:Cj ds (J c)) {i:Nat} (hi:i<ds.length) {q:Dfa} (h:My ds (i+1) q) {r:Option Dfa} (aa:Cp (ds.getD i dN) q r):∃ q',r=J q'/\My ds i q':=by
 obtain⟨ci,E⟩:=V3 ds c i hi hr;have ai:ds.getD i dN∈ds:=by rw[Ζ,Ι hi];exact List.getElem_mem hi
 obtain⟨G,H⟩:=hc _ ai;have ab:∀ d∈ds.drop i,Cano d/\d.n.length<=64:=λd hd=>hc d (List.mem_of_mem_drop hd)
 have ad:=He (ds.drop i) (λd hd=>(ab d hd).1) E;have aj:=Nh (ds.drop i) (λd hd=>(ab d hd).2) E ad.1;by_cases h1:i+1<ds.length
 ·have T:=h.2.2 h1;rw[AI h1] at E;obtain⟨q0,ae,ak⟩:=V2 E;have e2:ds.getD (i+1) dN::ds.drop (i+2)=ds.drop (i+1):=by rw[Ϝ h1,Ζ,Ι h1];rfl
  rw[e2] at ae;have X:=Ng _ T ae;injection X with X
  subst X;refine⟨ci,Mk aa ak,⟨ad.1,aj⟩,λh=>by omega,λ_=>?_⟩;rw[AI h1];exact E
 have au:i+1=ds.length:=by omega
 have T:=h.2.1 (by omega);have e1:ds.drop i=[ds.getD i dN]:=by rw[Ϝ hi,List.drop_eq_nil_of_le (by omega),Ζ,Ι hi];rfl
 have hq:Fit q (λw=>w=[]):=⟨h.1.1,T⟩;have hl:=Gl hq;have hp:2 ^ q.n.length<=4:=μ (Nat.pow_le_pow_right (by omega) hl) (by decide);have key:∀ d,Fit d (Cat (wd1 (ds.getD i dN)) (λw=>w=[]))->d=ds.getD i dN:=λd hd=>E8 hd.1 G λw=>by rw[Bool.eq_iff_iff,hd.2,I0];exact Iff.rfl
 obtain⟨d,rfl,hd⟩:=I1 aa (L:=wd1 (ds.getD i dN)) ⟨G,λ_=>Iff.rfl⟩ hq (μ (Nat.mul_le_mul H hp) (by decide)) λd hd=>by rw[key d hd];exact H
 rw[key d hd];refine⟨_,rfl,⟨G,H⟩,λh=>by omega,λ_=>?_⟩;rw[e1];exact rfl
theorem PZ {ds:List Dfa} (h0:0<ds.length) {c q:Dfa} (E:Cj ds (J c)) (h:My ds 0 q):q=c:=by have:=h.2.2 h0;rw[List.drop_zero] at this;have e:=Ng _ this E;injection e
open Go.RowKit Go.Shelf
structure QRow (wp:Γ) (xs:List Δ) (ps:List PtN) (n:Nat):Prop where
 len:xs.length=n*2
 at_:∀ i,i<n->∃ b o c z,xs.getD (i*2) Ω=U (J ⟨b,o,I⟩) (ps.getD i pN).xs.length c/\RxAt wp b o (ps.getD i pN).xs/\xs.getD (i*2+1) Ω=.bool z
theorem QRow.nil (wp:Γ) (ps:List PtN):QRow wp [] ps 0:=⟨rfl,λi hi=>by omega⟩
theorem QRow.snoc {wp:Γ} {xs:List Δ} {ps:List PtN} {n:Nat} (h:QRow wp xs ps n) {b o c:Nat} {z:Bool} (G:RxAt wp b o (ps.getD n pN).xs):QRow wp (xs++[U (J ⟨b,o,I⟩) (ps.getD n pN).xs.length c,.bool z]) ps (n+1) where
 len:=by rw[List.length_append,h.len];simp;omega
 at_:=λi hi=>by
  have E:=h.len;by_cases e:i<n
  ·obtain⟨b',H,T,X,h1,h2,h3⟩:=h.at_ i e;refine⟨b',H,T,X,?_,h2,?_⟩
   ·rw[Ζ,χ (by omega),<-Ζ,h1]
   rw[Ζ,χ (by omega),<-Ζ,h3]
  obtain rfl:i=n:=by omega
  refine⟨b,o,c,z,?_,G,?_⟩
  ·rw[Ζ,ς (by omega),E,Nat.sub_self];rfl
  rw[Ζ,ς (by omega),E,Nat.add_sub_cancel_left];rfl
def Ts:Δ->Bool
 | .bool z=>z
 | _=>Ε
theorem QRow.pat {wp:Γ} {xs:List Δ} {ps:List PtN} (h:QRow wp xs ps ps.length):∃ G:List PtN,G.length=ps.length/\(∀ i,i<ps.length->(G.getD i pN).xs=(ps.getD i pN).xs)/\∀ W g,Ext wp W->(∀ j,j<ps.length*2->W.cell? ⟨g,j,I⟩=J (xs.getD j Ω))->PatAt W g 0 G:=by
 have hg:∀ i,i<ps.length->((π ps.length).map λi=>(⟨(ps.getD i pN).xs,Ts (xs.getD (i*2+1) Ω)⟩:PtN)).getD i pN=⟨(ps.getD i pN).xs,Ts (xs.getD (i*2+1) Ω)⟩:=λi hi=>by rw[Ζ,List.getElem?_map,List.getElem?_range hi];rfl
 refine⟨(π ps.length).map λi=>⟨(ps.getD i pN).xs,Ts (xs.getD (i*2+1) Ω)⟩,by simp,λi hi=>by rw[hg i hi],λW g H hc i hi=>?_⟩;have hi:i<ps.length:=by simpa using hi
 obtain⟨b,o,c,z,h1,T,X⟩:=h.at_ i hi;rw[hg i hi];refine⟨b,o,c,λj v E=>?_,T.ext H⟩;rw[ϖ]
 match j,E with
 | 0,E=>
  injection E with E
  rw[<-E,è,hc _ (by omega),h1]
 | 1,E=>
  injection E with E
  rw[<-E,hc _ (by omega),X];rfl
 | j+2,E=>simp at E
theorem PatOk.same {ps E:List PtN} (G:PatOk ps) (H:E.length=ps.length) (hx:∀ i,i<ps.length->(E.getD i pN).xs=(ps.getD i pN).xs):PatOk E:=
 ⟨by rw[H];exact G.pos,by rw[H];exact G.le,λi hi=>by rw[hx i (by omega)];exact G.part i (by omega)⟩
theorem Zc:(Η.info? 48).map (λi=>(i.zero,i.size,i.bytes))=J (J (.agg #[U I 0 0,.bool Ε]),2,32):=by kernel_rfl
theorem QT (W:Γ):IsD W zD dN:=⟨_,_,_,rfl,Sl.nil _ _ _,⟨[],rfl,Sl.nil _ _ _,λi hi=>absurd hi (by simp[dN])⟩,Sl.nil _ _ _⟩
theorem ResOf.box {W:Γ} {A:Array Δ} {k:Int} {r:Option Dfa} (h:ResOf W (Ψ (.tuple #[.agg A,.int .i64 k])) r):IsD W (.agg A) (r.getD dN):=by
 cases r with
 | none=>rw[h.none_inv.2];exact QT W
 | some d=>exact h.some_inv.2
theorem ResOf.code {W:Γ} {A:Array Δ} {k:Int} {r:Option Dfa} (h:ResOf W (Ψ (.tuple #[.agg A,.int .i64 k])) r):k=if r.isSome=Α then 0 else 2:=by
 cases r with
 | none=>exact h.none_inv.1
 | some d=>exact h.some_inv.1
theorem PX (l:List UInt8) (vl:Δ) (F:Nat) (hF:F<256) (w:Γ) (hT:Tab w) (be:0<w.heap.size) (hl:ByW w vl l) :
  Calls Η 4 #[vl,.int .u8 F] w λe w'=>e=Ψ (.bool Α)/\Ext w w':=by
 obtain⟨j0,hj,gg,gi,gj⟩:=info_parts Zc;have cd:=Z (λW (hW:Ext w W)=>hT.below hW.below be);have cf:=Z (λW (hW:Ext w W)=>Nat.lt_of_lt_of_le be hW.size);have HL:=Z (λW (hW:Ext w W)=>hl.ext hW);have f50:=Z (Jj w hT be);obtain⟨cg,hZ⟩:=Xq ((F:Int):Int);have h9:0<=cg:=by omega
 have ia:cg<256:=by omega
 rw[hZ];clear hl hT be hZ hF;go_enter Tryz.func4,Tryz.ntmps4;go_upto_region 2 with (go_at_call 9;(with_reducible refine f50.o.mono ?_);rintro e w1 ⟨rfl,E⟩)
 clear f50;have f51:=Z (Jv l vl w1 (HL.o w1 E));go_upto_region 3 with (go_at_call 10;(with_reducible refine f51.o.mono ?_);rintro e w2 ⟨ps,gp,cp,rfl,hp,gn,ey,H⟩)
 clear f51;have HP:=Z hp;have aq:=Z ey;have ez:=hp.pos;obtain⟨N,hN⟩:=Xq (ps.length);have HN:=Z hN;rw[hN] at gn ez;rw[hN];replace E:=E.t H;clear hp ey H hN;have e0:=(Κ w2).alloc (Β #[] 48);have e1:Γ.ownsRow (w2.alloc (Β #[] 48)) w2.heap.size 48 2 (U (J ⟨w2.heap.size,0,I⟩) 0 0) 0 []:=Γ.ownsRow_lit (base:=w2.heap.size) (e:=48) (size:=2) w2 #[] 0 (Nat.le_refl _) (by unfold maxLen;omega) rfl;have gq:=Z E;clear E;go_wp2_with (fail);go_loopw [7,8] (λvx vi W=>∃ (j:Nat) (xs:List Δ) (g c:Nat),j<=N/\vx=U (J ⟨g,0,I⟩) j c/\vi=.int .i64 j/\Ext w2 W/\W.ownsRow w2.heap.size 48 2 (U (J ⟨g,0,I⟩) j c) j xs/\Hid (QRow w2 xs ps j))
  (λ_ vi _=>N-(intOf vi).toNat)
 case atStart=>exact⟨0,[],_,_,by omega,rfl,rfl,e0,e1,Z (QRow.nil _ _)⟩
 clear e0 e1;obtain⟨i,xs,g,c,gv,rfl,rfl,E,hO,HI⟩:=hrel;have be:=E.size;by_cases gw:i<N
 ·have ib:(i:Int)<(N:Int):=by omega
  have gx:(0:Int)<=(i:Int):=by omega
  obtain⟨b',o',c',bm,bn⟩:=aq.o i (by rw[HN.o];exact gw);have e2:=Z bn;have k1:=bm 0 _ rfl;simp only[ϖ,è] at k1;have bo:=Z (λV (hV:Ext w2 V)=>hV.cell k1);obtain⟨nx,bg⟩:=Xq ((ps.getD i pN).xs.length);have e3:=Z bg;rw[bg] at bo;clear k1 bg bm bn;go_upto_region 7 with (fail)
  refine Bl 14 [(0,Α),(1,Α),(2,Α),(3,Α),(4,Α),(5,Α),(6,Α),(7,Α),(8,Α),(9,Α),(10,Α),(11,Α),(12,Ε),(13,Ε),(14,Ε)] (by kernel_rfl) (by kernel_rfl) (λ_ _ _ _ h=>h) (λV=>Ext w2 V) (E.t (Κ wr).drew) ?_;have bp:=E.t (Κ wr).drew;have ck:=Aa hO (Κ wr).drew;obtain⟨wy,dc⟩:=Xq (wr.drew);rw[dc] at bp ck;rw[dc];clear dc E hO;iterate 11
   refine Af (v:=?_) rfl rfl (λV hV=>?_) ?_
   rotate_left
   ·have k1:=bo.o V hV;clear hV;go_simp;first|done|with_reducible rfl
   simp only[Act.put,Θ,Μ,Λ]
  obtain⟨z,hz⟩:=Xq (((cg / 2 ^ i).tmod 2==1):Bool);simp only[hz];clear hz;obtain⟨S,hS⟩:=Xq (cg / 2 ^ i);simp only[hS];clear hS;have e6:=Z (Tm (U (J ⟨b',o',I⟩) nx c') _ _ _ rfl z);refine Af (v:=.agg #[U (J ⟨b',o',I⟩) nx c',.bool z]) rfl rfl (λV _=>?_) ?_
  ·exact Fy 48 _ rfl (by simpa [Act.eval] using e6.o) V
  simp only[Act.put,Θ,Μ,Λ];refine Ao rfl (λKk hK=>?_);go_simp;refine hK _ _ (λ_=>bp.alloc _) ?_;clear hK Kk;refine Ao rfl (λKk hK=>?_);refine step_append_lies _ rfl _ _ 25 rfl w2.heap.size 48 j0 (.agg #[U I 0 0,.bool Ε]) 2 32 Tryz.underlying25 hj gg gi gj rfl (by decide) (U (J ⟨g,0,I⟩) i c) _ _ rfl (ck.alloc _) _ 1 1 [U (J ⟨b',o',I⟩) nx c',.bool z] rfl rfl (Hs _ _ _ _) (by simp[Δ.oneCell']) (by decide) (by unfold maxLen;omega) (by omega) (by have:=bp.size;simp;omega) _ rfl ?_;intro g7 c7 w7 hf e7 hh _;have e8:=(bp.alloc (Β #[U (J ⟨b',o',I⟩) nx c',.bool z] 48)).grown e7 (λk e=>(ck.lt k e).1);refine hK _ _ (λ_=>e8) ?_;clear hK Kk;refine Ao rfl (λKk hK=>?_);go_simp;refine hK _ _ (λh=>absurd h (by omega)) ?_;clear hK Kk;refine Bj ?_;have dd:=HI.o.snoc (c:=c') (z:=z) e2.o;rw[e3.o] at dd;have HF:=Z dd;clear dd e7 hh ck bp e6 bo e2 e3;go_wp2_with (fail);go_roundw
  case rel=>exact⟨i+1,_,g7,c7,by omega,rfl,by go_num,e8,hf,HF⟩
  simp[intOf]<;>omega
 obtain rfl:N=i:=by omega
 have de:=HI.o;rw[<-HN.o] at de;obtain⟨qs,df,dg,e9⟩:=de.pat;have fa:=hO.1;have fb:=e9 wr g E (λj hj=>by rw[hO.cellAt j (by rw[<-HN.o];exact hj),Ζ,Ι (by rw[fa,<-HN.o];exact hj)];rfl)
 have fc:=Z (HP.o.same df dg);have fe:=Z dg;have dh:=Z (df.trans HN.o);have cl:=Z fb;replace aq:=Z (aq.o.ext E);have hq:=Z (gq.o.t E);clear de df dg e9 fa fb hO HI be E;have E:=hq.o;obtain⟨w3,hr⟩:∃ V,V=wr:=⟨_,rfl⟩;subst hr;have f53:=Rj ps HP.o gp 0 cp w3 (cd.o w3 E) (cf.o w3 E) aq.o;rw[HN.o] at f53;have f53:=Z f53;go_upto_region 9 with (first
  | (go_at_call 15;(with_reducible refine f53.o.mono ?_);rintro e w4 ⟨ds,r,bt,bu,T,H⟩;obtain⟨ac,lc,cc,an,ln,cn,aa,la,ca,k1,rfl⟩:=T.form;have az:=Z T;clear T)
  | (refine Sr 40 (δ 9) (δ 47) rfl (Ad w4 _) Ae rfl (Av _ _ _ rfl rfl rfl) ?_))
 obtain⟨au,X⟩:=Dv w4 (dA (U ac lc cc) (U an ln cn) (U aa la ca));have G:=H.t au;have bh:=Z bt;have dm:=Z bu;have bo:=Z az.o.code;have ab:=Z (az.o.box.ext au);clear bt bu az f53;obtain⟨d,hd⟩:=Xq (r.getD dN);have ff:=Z hd;rw[hd] at ab;clear hd;obtain⟨V9,dn⟩:=Xq (dA (U ac lc cc) (U an ln cn) (U aa la ca));have fg:(Η.info? 40).map (·.size)=J V9.size:=by rw[<-dn];exact Ae
 simp only[dn] at X G ab ⊢;obtain⟨dp,aw⟩:=Xq ((w4.alloc (Β #[U I 0 0,U I 0 0,U I 0 0] 40)).setRow w4.heap.size V9);rw[aw] at G X ab;simp only[aw];obtain⟨g9,dq⟩:=Xq (w4.heap.size);rw[dq] at X;simp only[dq];have a6:=Z X;have bd:=ab;replace aq:=Z (aq.o.ext G);replace cl:=Z (cl.o.ext G);replace E:=E.t G;clear aw dq au X dn H G ab;have f53:=Rj qs fc.o g 0 c dp (cd.o dp E) (cf.o dp E) cl.o;rw[dh.o] at f53;have f53:=Z f53;go_upto_region 10 with (first
  | (go_at_call 15;(with_reducible refine f53.o.mono ?_);rintro e w5 ⟨ig,r',bt,bu,T,H⟩;obtain rfl:=(St (dh.o.trans HN.o.symm) fe.o bh.o).unique bt;obtain rfl:=Ng _ dm.o bu;obtain⟨ac,lc,cc,an,ln,cn,aa,la,ca,k2,rfl⟩:=T.form;have az:=Z T;clear T)
  | (refine Sr 40 (δ 11) (δ 52) rfl (Ad w5 _) Ae rfl (Av _ _ _ rfl rfl rfl) ?_))
 obtain⟨au,X⟩:=Dv w5 (dA (U ac lc cc) (U an ln cn) (U aa la ca));have G:=H.t au;have dt:=Z az.o.code;have ab:=Z (az.o.box.ext au);rw[ff.o] at ab;clear bt bu az f53;obtain⟨cm,du⟩:=Xq (dA (U ac lc cc) (U an ln cn) (U aa la ca));have fh:(Η.info? 40).map (·.size)=J cm.size:=by rw[<-du];exact Ae
 simp only[du] at X G ab ⊢;obtain⟨dv,aw⟩:=Xq ((w5.alloc (Β #[U I 0 0,U I 0 0,U I 0 0] 40)).setRow w5.heap.size cm);rw[aw] at G X ab;simp only[aw];obtain⟨ij,dw⟩:=Xq (w5.heap.size);rw[dw] at X;simp only[dw];have cq:=Z X;have ct:=ab;replace a6:=Z (G.heap a6.o);replace bd:=Z (bd.o.ext G);replace aq:=Z (aq.o.ext G);replace E:=E.t G;clear aw dw au X du H G ab;clear cl fc dh fe;have hk:k2=k1:=by rw[dt.o,bo.o]
 subst hk;have f54:=Z (Kx [] (by decide) (U I 0 0) dv (Sl.nil _ _ _));have b4:=Z E;have hs:=a6;have ht:=bd;have hv:=aq;go_upto_region 11 with (first
  | (go_at_call 16;(with_reducible refine f54.o.mono ?_);rintro e w6 ⟨r0,T,fj,fk,H⟩;obtain⟨ac,lc,cc,an,ln,cn,aa,la,ca,k3,rfl⟩:=T.form;have az:=Z T;clear T;obtain⟨rfl,fl⟩:=az.o.some_inv)
  | (refine Sr 40 (δ 13) (δ 56) rfl (Ad w6 _) Ae rfl (Av _ _ _ rfl rfl rfl) ?_))
 obtain⟨au,X⟩:=Dv w6 (dA (U ac lc cc) (U an ln cn) (U aa la ca));have G:=H.t au;have cu:=Z (And.intro fj fk);have ab:=Z (fl.ext au);clear fj fk fl az f54;obtain⟨cv,bj⟩:=Xq (dA (U ac lc cc) (U an ln cn) (U aa la ca));have fm:(Η.info? 40).map (·.size)=J cv.size:=by rw[<-bj];exact Ae
 simp only[bj] at X G ab ⊢;obtain⟨hy,aw⟩:=Xq ((w6.alloc (Β #[U I 0 0,U I 0 0,U I 0 0] 40)).setRow w6.heap.size cv);rw[aw] at G X ab;simp only[aw];obtain⟨dx,cw⟩:=Xq (w6.heap.size);rw[cw] at X;simp only[cw];have cy:=Z X;have cz:=ab;replace a6:=Z (G.heap a6.o);replace bd:=Z (bd.o.ext G);replace cq:=Z (G.heap cq.o);replace ct:=Z (ct.o.ext G);replace aq:=Z (aq.o.ext G);have c3:=G;have h3:dv.heap.size<=dx:=by rw[<-cw];exact H.size
 replace E:=E.t G;clear aw cw au X bj H G ab;have f30:=Z (λV (hV:Ext hy V)=>show Calls Η 14 #[.agg V9,.agg cm] V λe w'=>e=Ψ (.bool Α)/\Ext V w' from (Lg d d (.agg V9) (.agg cm) V (bd.o.ext hV) (ct.o.ext hV)).mono λe w' ⟨h1,h2⟩=>⟨by rw[h1,decide_eq_true rfl],h2⟩);go_upto_region 13 with (first
  | (refine Kw rfl 40 (δ 9) rfl _ rfl _ _ _ _ a6.o Ο rfl fg ?_)
  | (refine Kw rfl 40 (δ 11) rfl _ rfl _ _ _ _ cq.o Ο rfl fh ?_)
  | (go_at_call 14;(with_reducible refine (f30.o _ (Κ _)).mono ?_);rintro e w7 ⟨rfl,H⟩))
 replace cy:=Z (H.heap cy.o);replace cz:=Z (cz.o.ext H);replace E:=E.t H;replace c3:=c3.t H;clear f30 H cq ct fh a6 bd aq;cases r with
 | none=>have hk:k2=2:=dt.o;subst hk;go_wp2_with (fail);go_ret;exact⟨rfl,E⟩
 | some c0=>
  have hk:k2=0:=dt.o;subst hk;obtain rfl:c0=d:=ff.o;have fo:My ds N r0:=⟨⟨cu.o.1,μ (Gl cu.o) (by decide)⟩,λ_=>cu.o.2,λh=>by rw[bh.o.len,HN.o] at h;omega⟩;have a8:=Z fo;have HE:=Z E;have fp:=Z (Or bh.o);clear E fo cu;have bj:Hid (cv.size=3):=Z (by
   have h:=fm;rw[show (Η.info? 40).map (·.size)=J 3 by kernel_rfl] at h;injection h with h
   exact h.symm)
  clear fm;go_wp2_with (fail);go_loopw [15] (λvi W=>∃ (i:Nat) (q:Dfa) (V:Array Δ),i<=N/\vi=.int .i64 ((i:Int)-1)/\Ext dv W/\Hid (W.heap[dx]? = J (Β V 40 (0,0)))/\Hid (V.size=3)/\Hid (IsD W (.agg V) q)/\Hid (My ds i q))
   (λvi _=>(intOf vi+1).toNat)
  case atStart=>exact⟨N,r0,cv,by omega,by go_num,c3,cy,bj,cz,a8⟩
  clear c3 cy bj cz a8;obtain⟨i,q,V,gv,rfl,E,HX,HV,HD,a8⟩:=hrel;have eb:(Η.info? 40).map (·.size)=J V.size:=by rw[HV.o];kernel_rfl
  by_cases gx:0<i
  ·obtain⟨n,rfl⟩:∃ n,i=n+1:=⟨i-1,by omega⟩;rw[show ((n+1:Nat):Int)-1=(n:Int) by omega];have il:(n:Int)<(N:Int):=by omega
   have im:(0:Int)<=(n:Int):=by omega
   obtain⟨b',o',c',bm,bn⟩:=hv.o n (by rw[HN.o];omega);have fs:=(HP.o.part n (by rw[HN.o];omega)).1;have k1:=E.cell (bm 0 _ rfl);simp only[ϖ,è] at k1;have f42:=CG (ps.getD n pN).xs fs b' o' c' wr (cd.o wr (b4.o.t E)) (cf.o wr (b4.o.t E)) (bn.ext E);obtain⟨nx,bg⟩:=Xq ((ps.getD n pN).xs.length);rw[bg] at f42 k1;have f42:=Z f42;have ft:n<ds.length:=by rw[bh.o.len,HN.o];omega
   have ec:=Z ft;clear bg fs bm bn ft;go_upto_region 19 with (first
    | (go_at_call 17;(with_reducible refine f42.o.mono ?_);rintro e wb ⟨r1,T,fu,H⟩;obtain⟨ac,lc,cc,an,ln,cn,aa,la,ca,k1,rfl⟩:=T.form;obtain rfl:=Tp _ _ fu (bh.o.at_ n ec.o).1;obtain⟨rfl,hD⟩:=T.some_inv;clear T fu)
    | (refine Sr 40 (δ 16) (δ 92) rfl (Ad wb _) Ae rfl (Av _ _ _ rfl rfl rfl) ?_))
   clear f42 k1;obtain⟨ax,ay⟩:=Dv wb (dA (U ac lc cc) (U an ln cn) (U aa la ca));have a7:=hD.ext ax;obtain⟨VA,ee⟩:=Xq (dA (U ac lc cc) (U an ln cn) (U aa la ca));have fv:(Η.info? 40).map (·.size)=J VA.size:=by rw[<-ee];exact Ae
   simp only[ee] at ax ay a7 ⊢;obtain⟨wc,ef⟩:=Xq ((wb.alloc (Β #[U I 0 0,U I 0 0,U I 0 0] 40)).setRow wb.heap.size VA);rw[ef] at ax ay a7;simp only[ef];obtain⟨gA,eg⟩:=Xq (wb.heap.size);rw[eg] at ay;simp only[eg];have G:=H.t ax;have b8:=Z ay;have c4:=E.t G;have eh:=Z (G.heap HX.o);have ei:=Z (HD.o.ext G);obtain⟨fw,fx⟩:=fp.o (ds.getD n dN) (Io ec.o);have f37:=Z (Ka (ds.getD n dN) q fw.val a8.o.1.1.val fx a8.o.1.2 (.agg VA) (.agg V) wc (cd.o wc (b4.o.t c4)) (cf.o wc (b4.o.t c4)) a7 ei.o);clear ef eg ee ay a7 hD fw fx H ax G E HX HD;go_upto_region 20 with (first
    | (refine Lr 40 (δ 16) b8.o Ο fv ?_)
    | (refine Lr 40 (δ 13) eh.o Ο eb ?_)
    | (go_at_call 18;(with_reducible refine f37.o.mono ?_);rintro e wd ⟨r1,T,fy,H⟩;obtain⟨ac,lc,cc,an,ln,cn,aa,la,ca,k1,rfl⟩:=T.form;obtain⟨q',rfl,ej⟩:=PY fp.o dm.o ec.o a8.o fy;obtain⟨rfl,hD⟩:=T.some_inv;clear T fy)
    | (refine Sr 40 (δ 18) (δ 98) rfl (Ad wd _) Ae rfl (Av _ _ _ rfl rfl rfl) ?_))
   clear f37 b8 fv;obtain⟨ax,ay⟩:=Dv wd (dA (U ac lc cc) (U an ln cn) (U aa la ca));have a7:=hD.ext ax;obtain⟨VB,b9⟩:=Xq (dA (U ac lc cc) (U an ln cn) (U aa la ca));have ek:(Η.info? 40).map (·.size)=J VB.size:=by rw[<-b9];exact Ae
   have en:VB.size=3:=by rw[<-b9];rfl
   have fz:VB.all (·.oneCell')=Α:=by rw[<-b9];exact Av _ _ _ rfl rfl rfl
   simp only[b9] at ax ay a7 ⊢;obtain⟨we,eo⟩:=Xq ((wd.alloc (Β #[U I 0 0,U I 0 0,U I 0 0] 40)).setRow wd.heap.size VB);rw[eo] at ax ay a7;simp only[eo];obtain⟨gB,ep⟩:=Xq (wd.heap.size);rw[ep] at ay;simp only[ep];have G:=H.t ax;have b8:=Z ay;have c5:=Z (G.heap eh.o);have er:=IsD.setBox ej.1.1.val a7 a8.o.1.1.val (ei.o.ext G) c5.o VB;have ga:=(c4.t G).setRow h3 VB;have et:=setRow_heap we _ _ VB 40 (0,0) c5.o;have gb:V.size=VB.size:=by rw[HV.o,en]
   have h4:=Z en;have h5:=Z ej;clear eo ep b9 ay a7 hD H ax G c4 eh ei ej en eb;go_upto_region 17 with (first
    | (refine Lr 40 (δ 18) b8.o Ο ek ?_)
    | (refine Sr 40 (δ 13) (δ 106) rfl c5.o ek gb fz ?_))
   obtain⟨wf,eu⟩:=Xq (we.setRow dx VB);rw[eu] at er ga et;rw[eu];have h6:=Z et;have h7:=Z er;clear eu et er b8 c5 gb fz ek;go_wp2_with (fail);go_roundw
   case rel=>exact⟨n,q',VB,by omega,by go_num,ga,h6,h4,h7,h5⟩
   simp[intOf]<;>omega
  obtain rfl:i=0:=by omega
  rw[show (((0:Nat):Int)-1)=-1 from rfl];obtain rfl:q=c0:=PZ (by rw[bh.o.len,HN.o];exact ez) dm.o a8.o;have f30:=Z (show Calls Η 14 #[.agg V,.agg V9] wr λe w'=>e=Ψ (.bool Α)/\Ext wr w' from (Lg _ _ _ _ wr HD.o (ht.o.ext E)).mono λe w' ⟨h1,h2⟩=>⟨by rw[h1,decide_eq_true rfl],h2⟩);have a6:=Z (E.heap hs.o);have h8:=Z (b4.o.t E);go_wp2_with (first
   | (refine Lr 40 (δ 13) HX.o Ο eb ?_)
   | (refine Lr 40 (δ 9) a6.o Ο fg ?_)
   | (go_at_call 14;(with_reducible refine f30.o.mono ?_);rintro e wz ⟨rfl,H⟩))
  go_ret;exact⟨rfl,h8.o.t H⟩
end Go.Proofs.YtilncahcpjlfnaaGreatDoor
