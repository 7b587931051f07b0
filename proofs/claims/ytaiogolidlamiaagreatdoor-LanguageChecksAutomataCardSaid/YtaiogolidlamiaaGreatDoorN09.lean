import Derived.Deep.MidRow
import Derived.Test.YtaiogolidlamiaaGreatDoorN08
import Derived.Test.YtaiogolidlamiaaGreatDoorN07
import Derived.Laws.EntriesVeiled
import Derived.Test.YtaiogolidlamiaaGreatDoorN05
set_option linter.unusedVariables false
set_option linter.unusedSimpArgs false
open Array renaming getD_eq_getD_getElem? → ϡ, getElem?_eq_getElem → ϟ, getElem?_eq_some_iff → ϐ
open Bool renaming true → Ξ, false → Τ, and_eq_true → Ϝ, or_eq_true → Å
open Classical renaming byContradiction → ϧ
open Go renaming Value → Ν, World → Λ, Calls → ϓ, heap_alloc2_new → Ϗ, cell_of_row → γ, wpList_load_row → Ο, wpList_store_row → Φ, setRow_heap → μ, frozen_of_row → Ϸ, Act → ú, bodyPost_ret → ω, results_cell_row → Ϲ, setCell_eq_setRow → Ϧ, Oper → ϳ, execOp → Ù, undef → ς, getD_replicate_false → ϫ
open Go.Act renaming put → Ϛ
open Go.Ending renaming returned → θ
open Go.IntKind renaming i64 → ε, u64 → π, u64 → ϱ
open Go.Lib renaming hid → Α
open Go.Obj renaming cells → Ε
open Go.Operand renaming tmp → η
open Go.Proofs.Tryz renaming prog → Ζ, underlying108 → Ϫ, underlying116 → Ê, zeroCells108 → ξ, underlying30 → Κ, zeroCells77 → ώ
open Go.Region renaming waitsFor → ø, ready → É
open Go.Value renaming pointer → Ω, oneCell' → ό, slice → Β, tuple → ϙ
open Go.World renaming size_alloc → Ρ
open List renaming nodup_iff_pairwise_ne → ϣ, length_map → ϋ, getElem?_map → ϕ, mem_map → ϸ, mem_append → Ó, setIfInBounds_toArray → Ι, set_cons_zero → Χ, set_cons_succ → Ψ, range → ι, all_eq_true → Ø, mem_range → υ, drop_succ_cons → ó, getElem?_toArray → Ü, getElem?_cons_zero → ä, getElem?_cons_succ → È
open List.Pairwise renaming imp_of_mem → á
open Nat renaming le_refl → ν, lt_of_lt_of_le → δ, le_trans → ψ
open Option renaming some → Δ, none → Γ, getD_some → ì
open Option.some renaming inj → ύ
open UInt8 renaming ofNat → χ
namespace Go.Proofs.YtaiogolidlamiaaGreatDoor
set_option maxRecDepth 100000
set_option maxHeartbeats 2000000
open Go.RowKit Go.Shelf
theorem Zb {σ τ:Type} {nx:σ->Nat->σ} {D:τ->Nat->τ} (φ:σ->τ) (h:∀ s b,φ (nx s b)=D (φ s) b) (w:List UInt8):∀ s,φ (Ax nx s w)=Ax D (φ s) w:=by
 induction w with
 | nil=>exact λs=>rfl
 | cons x w E=>
  intro s;show φ (Ax nx (nx s x.toNat) w)=Ax D (D (φ s) x.toNat) w;rw[E,h]
theorem Vi {σ τ:Type} {nx:σ->Nat->σ} {st:σ} (φ:σ->τ) (hi:∀ w w',φ (Ax nx st w)=φ (Ax nx st w')->Ax nx st w=Ax nx st w') (l:List σ) (E:l.Nodup) (D:∀ s,s∈l->∃ w,Ax nx st w=s):(l.map φ).Nodup:=by
 rw[ϣ,List.pairwise_map];refine á (λ{a b} ha G I e=>I ?_) (ϣ.1 E);obtain⟨w,rfl⟩:=D a ha;obtain⟨w',rfl⟩:=D b G;exact hi w w' e
theorem Expl.conv {σ τ:Type} {c:Nat->Nat} {bs:List Nat} {st:σ} {nx:σ->Nat->σ} {ac:σ->Bool} {l:List σ} {t:Tbl} (h:Expl c bs st nx ac l t) (φ:σ->τ) {E:τ->Nat->τ} {G:τ->Bool} (hn:∀ s b,φ (nx s b)=E (φ s) b) (ha:∀ s,ac s=G (φ s))
  (hi:∀ w w',φ (Ax nx st w)=φ (Ax nx st w')->Ax nx st w=Ax nx st w'):Expl c bs (φ st) E G (l.map φ) t where
 cell:=h.cell
 cells:=h.cells
 len:=by rw[ϋ];exact h.len
 acl:=by rw[ϋ];exact h.acl
 pos:=by rw[ϋ];exact h.pos
 nodup:=Vi φ hi l h.nodup λs hs=>by
  obtain⟨i,hi⟩:=List.getElem?_of_mem hs;exact h.reach i s hi
 zero:=by rw[ϕ,h.zero];rfl
 row:=λi I=>h.row i (by simpa using I)
 tgt:=λi s hs k J=>by
  rw[ϕ] at hs;obtain⟨x,D,rfl⟩:=Option.map_eq_some_iff.1 hs;obtain⟨M,T⟩:=h.tgt i x D k J;exact⟨by simpa using M,by rw[ϕ,T,<-hn];rfl⟩
 acc:=λi s hs=>by
  rw[ϕ] at hs;obtain⟨x,D,rfl⟩:=Option.map_eq_some_iff.1 hs;rw[h.acc i x D,ha]
 reach:=λi s hs=>by
  rw[ϕ] at hs;obtain⟨x,D,rfl⟩:=Option.map_eq_some_iff.1 hs;obtain⟨w,rfl⟩:=h.reach i x D;exact⟨w,(Zb φ hn w st).symm⟩
theorem Vv {σ τ:Type} {st:σ} {nx:σ->Nat->σ} {m:Nat} (h:B8 nx st m) (φ:σ->τ) {D:τ->Nat->τ} (hn:∀ s b,φ (nx s b)=D (φ s) b) (hi:∀ w w',φ (Ax nx st w)=φ (Ax nx st w')->Ax nx st w=Ax nx st w'):B8 D (φ st) m:=by
 obtain⟨l,G,E,I⟩:=h;refine⟨l.map φ,Vi φ hi l G E,λs hs=>?_,by simpa using I⟩;obtain⟨x,J,rfl⟩:=ϸ.1 hs;obtain⟨w,rfl⟩:=E x J;exact⟨w,(Zb φ hn w st).symm⟩
theorem Xn {σ:Type} [DecidableEq σ] {c:Nat->Nat} {bs:List Nat} {st:σ} {nx:σ->Nat->σ} {ac:σ->Bool} {l:List σ} {t:Tbl} (h:Expl c bs st nx ac l t) {a b:Nat->Nat} (E:Joint a b c bs) (hn:∀ s x,x<256->nx s (bs.getD (c x) 0)=nx s x) {m:Nat} (hm:l.length<=m):¬ B8 nx st m:=by
 refine Iw l (λw=>?_) hm;have:∀ (w:List UInt8) i s,l[i]? = Δ s->Ax nx s w∈l:=λw=>by
  induction w with
  | nil=>intro i s hi;exact List.mem_of_getElem? hi
  | cons x w G=>
   intro i s hi;have D:=(h.tgt i s hi _ (E.lt _ x.toNat_lt)).2;rw[hn s _ x.toNat_lt] at D;exact G _ _ D
 exact this w 0 st h.zero
def stP (s:Sta):Nat × Nat:=(s.p,s.s)
theorem Lw {s t:Sta} (hs:s.q=0) (D:t.q=0) (h:stP s=stP t):s=t:=by
 cases s;cases t
 simp[stP] at h hs D;simp[h,hs,D]
def sNx (x:Tbl) (s:Sta) (b:Nat):Sta:=⟨0,0,if Cu x (Az x s.s b x.n.length) then Az x s.s b x.n.length ||| 1 else Az x s.s b x.n.length⟩
def sAc (x:Tbl) (s:Sta):Bool:=s.p==1||Cu x s.s
def L2 (s:Sta):Prop:=s.p<2/\s.q=0/\s.s<18446744073709551616
theorem Ac5 {x:Tbl} (D:TVal x) (hn:x.n.length<=64) (s:Sta) (b:Nat) (E:b<256):L2 (sNx x s b):=by
 refine⟨by show 0<2;omega,rfl,?_⟩;have h:=Ii D hn s.s b E _ (ν _);unfold sNx;simp only;split
 ·exact Nat.or_lt_two_pow (n:=64) h (by omega)
 ·exact h
theorem L1 (x:Tbl) (w:List UInt8):(Ax (sNx x) ⟨1,0,1⟩ w).q=0:=by
 induction w using Et with
 | h0=>rfl
 | h1 w y G=>rw[Ed];rfl
theorem i114:(Ζ.info? 114).map (·.size)=Δ 1:=by kernel_rfl
theorem Am3 (x:Int):Ζ.built 116 [(2,.agg #[.int π x])]=Δ #[.int ε 0,.int ε 0,.int π x]:=by kernel_rfl
theorem Ux (x:Nat) (D:x<18446744073709551616):bits BinOp.or ϱ (x:Int) 1=((x ||| 1:Nat):Int):=by
 rw[show (1:Int)=((1:Nat):Int) from rfl,u64_or_nat _ _ D (by omega)]
theorem Acd (x:Tbl) (U:TVal x) (hn:x.n.length<=64) (A:Array Ν) (gx:Nat) (w:Λ) (hA:IsT w A x) (aa:w.heap[gx]? = Δ (Ε A 108 (0,0))) :
  Nt w 157 #[Ω (Δ ⟨gx,0,Γ⟩)] (sNx x) L2:=by
 intro W hW s hs b hb;obtain⟨-,-,bj⟩:=hs;have ab:=hA.ext hW;obtain⟨_,_,_,_,_,_,bk,bt,_⟩:=ab.opened U;have a8:(Ζ.info? 108).map (·.size)=Δ A.size:=by rw[bk];exact Cc
 have aa:=hW.heap aa;have f73:=λV (hV:Ext W V)=>Α (Sx x U hn A s.s bj b hb V (ab.ext hV))
 have ba:=Ii U hn s.s b hb _ (ν _);have f76:=λV (hV:Ext W V)=>Α (Oi x U hn A (Az x s.s b x.n.length) ba V (ab.ext hV))
 show ϓ _ _ _ _ λe w'=>e=θ (.agg #[.int ε ((0:Nat):Int),.int ε ((0:Nat):Int),.int π ((if Cu x (Az x s.s b x.n.length) then Az x s.s b x.n.length ||| 1 else Az x s.s b x.n.length:Nat):Int)])/\Ext W w'
 have ad:=((Θ W).alloc (Ε #[iv s.p,iv s.q,.int π (s.s:Int)] 116)).alloc (Ε #[.int ε 0,.int ε 0,.int π 0] 116);have H3:=Ag (Aa W (Ε #[iv s.p,iv s.q,.int π (s.s:Int)] 116)) (Ε #[.int ε 0,.int ε 0,.int π 0] 116);have H5:=Ϗ W (Ε #[iv s.p,iv s.q,.int π (s.s:Int)] 116) (Ε #[.int ε 0,.int ε 0,.int π 0] 116);generalize Az x s.s b x.n.length=T at *;generalize Cu x T=bo at *;have HO:=Α (Ux T ba);clear hA ab hW;go_enter Tryz.func157,Tryz.ntmps157;go_upto_region 1 with (fail)
 obtain⟨w1,ae⟩:∃ V,(W.alloc (Ε #[iv s.p,iv s.q,.int π (s.s:Int)] 116)).alloc (Ε #[.int ε 0,.int ε 0,.int π 0] 116)=V:=⟨_,rfl⟩;have bu:W.heap.size+1<w1.heap.size:=by rw[<-ae,Ρ,Ρ];omega
 rw[ae] at ad H3 H5;simp only[ae];clear ae;have af:=Α (ad.heap aa);have bc:w1.rangeAt W.heap.size 2 [.int π (s.s:Int)]:=λj v hv=>by
  obtain rfl:j=0:=by
   rcases j with _|j
   ·rfl
   ·simp at hv
  rw[γ w1 W.heap.size _ _ _ _ H3];exact hv
 have D:=Α H5;have bd:=Α ad;clear H3 H5 aa ad;go_upto_region 2 with (first
  | (refine Ο rfl 108 (η 2) rfl _ rfl _ _ _ _ af.out Ϫ rfl a8 ?_)
  | (refine wpList_load_mid rfl 114 (η 8) rfl _ 2 rfl _ _ bc Tryz.underlying114 rfl i114 ?_)
  | (go_at_call 73;(with_reducible refine (f73 _ bd.out).out.mono ?_);rintro e G ⟨rfl,ar⟩)
  | (refine Φ rfl 114 (η 6) (η 11) rfl _ _ rfl rfl _ _ (Aa G (Ε #[.int π 0] 114)) i114 rfl (U2 _) ?_))
 have au:=((Θ G).alloc (Ε #[.int π 0] 114)).setRow (ν _) #[.int π (T:Int)];have H6:=μ (G.alloc (Ε #[.int π 0] 114)) G.heap.size _ #[.int π (T:Int)] _ _ (Aa G _);obtain⟨w3,ax⟩:∃ V,(G.alloc (Ε #[.int π 0] 114)).setRow G.heap.size #[.int π (T:Int)]=V:=⟨_,rfl⟩;rw[ax] at au H6;simp only[ax];clear ax;have ag:=ar.trans au;have bx:=ar.size;have D:=Α (ag.heap D.out);have af:=Α (ag.heap af.out);have E:=Α H6;have be:=Α (bd.out.trans ag);generalize G.heap.size=I at *;clear H6 ar au ag bc f73;go_upto_if 14 with (first
  | (refine Ο rfl 108 (η 2) rfl _ rfl _ _ _ _ af.out Ϫ rfl a8 ?_)
  | (refine Ο rfl 114 (η 6) rfl _ rfl _ _ _ _ E.out Tryz.underlying114 rfl i114 ?_)
  | (go_at_call 76;(with_reducible refine (f76 _ be.out).out.mono ?_);rintro e J ⟨rfl,ay⟩;have D:=Α (ay.heap D.out);have E:=Α (ay.heap E.out);have bf:=Α (be.out.trans ay)))
 have c6:=(γ J I 0 _ _ _ E.out).trans (show (#[Ν.int π (T:Int)])[0]? = Δ (.int π (T:Int)) from rfl);have f6:=Ϸ J I 0 _ _ E.out;have bg:=λz=>Α (Am3 z)
 cases bo
 ·go_wp2_with (first
   | (refine Ο rfl 114 (η 6) rfl _ rfl _ _ _ _ E.out Tryz.underlying114 rfl i114 ?_)
   | (refine Bw rfl 116 _ rfl #[.int ε 0,.int ε 0,.int π (T:Int)] ?_ ?_;(simp[ú.eval];with_reducible exact (bg _).out))
   | (refine Φ rfl 116 (η 5) (η 20) rfl _ _ rfl rfl _ _ D.out D0 rfl (by simp[ό]) ?_))
  refine ω (v:=.agg #[.int ε 0,.int ε 0,.int π (T:Int)]) (Ϲ rfl _ _ _ _ _ _ _ rfl (μ J _ _ _ 116 (0,0) D.out) Ê rfl D0) rfl ?_;exact⟨rfl,bf.out.setRow (by omega) _⟩
 ·go_upto_region 4 with (fail)
  have bh:J.setCell ⟨I,0,Γ⟩ (.int π (bits BinOp.or ϱ (T:Int) 1))=J.setRow I #[.int π ((T ||| 1:Nat):Int)]:=by
   rw[Ϧ J _ _ _ _ _ _ E.out,HO.out];rfl
  have bn:W.heap.size+1≠I:=λe=>by
   have M:=D.out;rw[e,E.out] at M;injection M with M
   injection M with M _
   simp at M
  rw[bh];have ah:=μ J I _ #[.int π ((T ||| 1:Nat):Int)] _ _ E.out;have ai:=B7 D.out bn #[.int π ((T ||| 1:Nat):Int)];have aj:=bf.out.setRow (show W.heap.size<=I by omega) #[.int π ((T ||| 1:Nat):Int)];obtain⟨z,hz⟩:∃ z:Int,((T ||| 1:Nat):Int)=z:=⟨_,rfl⟩;rw[hz] at ah ai aj;rw[hz];obtain⟨w6,az⟩:∃ V,J.setRow I #[.int π z]=V:=⟨_,rfl⟩;rw[az] at ah ai aj;rw[az];have E:=Α ah;have D:=Α ai;have bq:=Α aj;have HZ:=Α hz;clear c6 f6 bh ai ah aj hz HO az;go_wp2_with (first
   | (refine Ο rfl 114 (η 6) rfl _ rfl _ _ _ _ E.out Tryz.underlying114 rfl i114 ?_)
   | (refine Bw rfl 116 _ rfl #[.int ε 0,.int ε 0,.int π z] ?_ ?_;(simp[ú.eval];with_reducible exact (bg _).out))
   | (refine Φ rfl 116 (η 5) (η 20) rfl _ _ rfl rfl _ _ D.out D0 rfl (by simp[ό]) ?_))
  refine ω (v:=.agg #[.int ε 0,.int ε 0,.int π z]) (Ϲ rfl _ _ _ _ _ _ _ rfl (μ w6 _ _ _ 116 (0,0) D.out) Ê rfl D0) rfl ?_;exact⟨by rw[<-HZ.out],bq.out.setRow (by omega) _⟩
theorem Abj (x:Tbl) (hx:TVal x) (hn:x.n.length<=64) (A:Array Ν) (gx:Nat) (w:Λ) (hA:IsT w A x) (D:w.heap[gx]? = Δ (Ε A 108 (0,0))) :
  Nn w 158 #[Ω (Δ ⟨gx,0,Γ⟩)] (sAc x) L2:=by
 intro W I s hs;obtain⟨hp,-,ae⟩:=hs;have J:=hA.ext I;obtain⟨_,_,_,_,_,_,al,ar,_⟩:=J.opened hx;have af:(Ζ.info? 108).map (·.size)=Δ A.size:=by rw[al];exact Cc
 have D:=I.heap D;have f76:=λV (hV:Ext W V)=>Α (Oi x hx hn A s.s ae V (J.ext hV))
 show ϓ _ _ _ _ λe w'=>e=θ (.bool (s.p==1||Cu x s.s))/\Ext W w'
 have E:=(Θ W).alloc (Ε #[iv s.p,iv s.q,.int π (s.s:Int)] 116);have G:=Aa W (Ε #[iv s.p,iv s.q,.int π (s.s:Int)] 116);generalize Cu x s.s=bo at *;clear hA J I;go_enter Tryz.func158,Tryz.ntmps158;go_upto_region 1 with (fail)
 obtain⟨w1,M⟩:∃ V,W.alloc (Ε #[iv s.p,iv s.q,.int π (s.s:Int)] 116)=V:=⟨_,rfl⟩;rw[M] at E G;simp only[M];clear M;have ag:=Α (E.heap D);have ah:w1.rangeAt W.heap.size 2 [.int π (s.s:Int)]:=λj v hv=>by
  obtain rfl:j=0:=by
   rcases j with _|j
   ·rfl
   ·simp at hv
  rw[γ w1 W.heap.size _ _ _ _ G];exact hv
 have c0:=(γ w1 W.heap.size 0 _ _ _ G).trans (show (#[iv s.p,iv s.q,.int π (s.s:Int)]:Array Ν)[0]? = Δ (iv s.p) from rfl);have T:=Α E;clear G D E;obtain⟨bp,U⟩:∃ b,(s.p==1)=b:=⟨_,rfl⟩;have aw:((s.p:Int)==1)=bp:=by
  rw[<-U,Bool.eq_iff_iff];simp
  omega
 have aj:=Α U;clear U hp ae;cases bp
 ·go_wp2_with (first
   | (refine El rfl (wp_load_row 108 (η 1) rfl _ rfl _ _ _ _ ag.out Ϫ rfl af ?_))
   | (refine El rfl (wp_load_mid 114 (η 9) rfl _ 2 rfl _ _ ah Tryz.underlying114 rfl i114 ?_))
   | (go_at_call 76;(with_reducible refine (f76 _ T.out).out.mono ?_);rintro e w5 ⟨rfl,ao⟩;have aq:=Α (T.out.trans ao)))
  go_ret;exact⟨by rw[aj.out];rfl,aq.out⟩
 ·clear ah f76 ag af;go_wp2_with (fail);go_ret;exact⟨by rw[aj.out];rfl,T.out⟩
theorem Yx (p s:Int):Ζ.built 116 [(0,.int ε p),(2,.agg #[.int π s])]=Δ #[.int ε p,.int ε 0,.int π s]:=by kernel_rfl
theorem Am5:Ζ.built 114 [(0,.int π 1)]=Δ #[.int π 1]:=by kernel_rfl
theorem Ru:ξ.all (·.oneCell')=Ξ:=by kernel_rfl
theorem Zz:∃ vn va,ξ=Ai (λ_=>0) 0 vn va/\vn=Β Γ 0 0/\va=Β Γ 0 0:=⟨_,_,(show ξ=Ai (λ_=>0) 0 (Β Γ 0 0) (Β Γ 0 0) by kernel_rfl),rfl,rfl⟩
theorem Ny (o:Nat) (x:Int):ξ[o]?≠Δ (.int π x):=by
 obtain⟨vn,va,h,rfl,rfl⟩:=Zz;rw[h];intro h;have:=Array.mem_of_getElem? h;simp only[Ai,Eh,List.mem_toArray,Ó,ϸ,List.mem_cons,List.not_mem_nil,or_false] at this;rcases this with⟨b,_,D⟩|D|D|D<;>simp at D
theorem Abp {x:Tbl} (I:TVal x) {c:Nat->Nat} {bs:List Nat} (D:Joint x.cell x.cell c bs) {l:List Sta} {t:Tbl} (h:Expl c bs ⟨1,0,1⟩ (sNx x) (sAc x) l t) (E:l.length<=4096) :
  TVal t/\t.n.length<=4096/\¬ B8 (snx x) (1,1) 4096/\∀ u,t.has u=Ξ↔Star (λu=>x.has u=Ξ) u:=by
 have G:Expl c bs (1,1) (snx x) (λs=>s.1==1||Cu x s.2) (l.map stP) t:=
  h.conv (st:=⟨1,0,1⟩) stP (λs b=>rfl) (λs=>rfl) (λw w' e=>Lw (L1 x w) (L1 x w') e)
 have hn:∀ (s:Nat × Nat) b,b<256->snx x s (bs.getD (c b) 0)=snx x s b:=λs b J=>by
  obtain⟨_,M,_⟩:=D.rep b J;have T:∀ n,Az x s.2 (bs.getD (c b) 0) n=Az x s.2 b n:=λn=>by
   induction n with
   | zero=>rfl
   | succ n U=>simp only[Az];rw[U];unfold Tbl.stp;rw[M]
  unfold snx;rw[T]
 exact⟨h.tval D,by rw[h.len];exact E,Xn G D hn (by simpa using E),λu=>Abn I G D u⟩
theorem Abr (a:Dfa) (ha:Val a) (dy:a.n.length<=64) (va:Ν) (w:Λ) (U:Tab w) (ay:0<w.heap.size) (bd:IsD w va a) :
  ϓ Ζ 147 #[va] w λe w'=>∃ r,ResOf w' e r/\Jt a r/\Ext w w':=by
 have be:=Α bd;have cb:=Α ha;obtain⟨ac,lc,cc,an,cn,aa,la,ca,rfl⟩:=bd.agg;have f47:=λW (T:Ext w W)=>Α (Ef a ha dy _ W (be.out.ext T))
 have bf:=λW (T:Ext w W)=>Α (J6 a ha _ W (U.below T.below ay) (δ ay T.size) (be.out.ext T))
 have eg:=Α (λW (T:Ext w W)=>U.below T.below ay);obtain⟨Va,az⟩:∃ X,dA (Β ac lc cc) (Β an a.n.length cn) (Β aa la ca)=X:=⟨_,rfl⟩;have cd:(Ζ.info? 30).map (·.size)=Δ Va.size:=by rw[<-az];exact Ad
 rw[az] at f47 bf be;rw[az];have bg:=((Θ w).alloc (Ε Va 30)).alloc (Ε #[Β Γ 0 0,Β Γ 0 0,Β Γ 0 0] 30);have H1:=Ag (Aa w (Ε Va 30)) (Ε #[Β Γ 0 0,Β Γ 0 0,Β Γ 0 0] 30);have H2:=Ϗ w (Ε Va 30) (Ε #[Β Γ 0 0,Β Γ 0 0,Β Γ 0 0] 30);clear bd ha U az;go_enter Tryz.func147,Tryz.ntmps147;go_upto_region 1 with (fail)
 obtain⟨w1,a1⟩:∃ W,(w.alloc (Ε Va 30)).alloc (Ε #[Β Γ 0 0,Β Γ 0 0,Β Γ 0 0] 30)=W:=⟨_,rfl⟩;have fj:w.heap.size+1<w1.heap.size:=by rw[<-a1,Ρ,Ρ];omega
 rw[a1] at bg H1 H2;simp only[a1];clear a1;have ah:=Α H1;have D:=Α H2;have bk:=Α bg;clear H1 H2 bg;go_upto_region 3 with (first
  | (refine Ο rfl 30 (η 1) rfl _ rfl _ _ _ _ ah.out Κ rfl cd ?_)
  | (go_at_call 47;(with_reducible refine (f47 _ bk.out).out.mono ?_);rintro e w2 ⟨rfl,cf⟩;have a6:=Α cf;clear cf))
 have ai:=Α (bk.out.trans a6.out);have ah:=Α (a6.out.heap ah.out);have D:=Α (a6.out.heap D.out);go_upto_region 4 with (first
  | (refine Ο rfl 30 (η 1) rfl _ rfl _ _ _ _ ah.out Κ rfl cd ?_)
  | (go_at_call 68;(with_reducible refine (bf _ ai.out).out.mono ?_);rintro e w3 ⟨A1,rfl,cg,ch⟩;have aj:=Α ch;clear ch;have hC:=Α (K7 (Ae a) (Bj cb.out) (show a.n.length<=65536 by omega) A1 w3 cg);clear cg)
  | (go_at_call 69;(with_reducible refine hC.out.mono ?_);rintro e w4 ⟨v,d,rfl,hd,cl,ak,cm⟩;have al:=Α cm;have G:=Α cl;have HH:=Α ak;clear cl ak cm hC;have cp:=Α (J6 d G.out.val v w4 (eg.out w4 ((ai.out.trans aj.out).trans al.out)) (δ ay ((ai.out.trans aj.out).trans al.out).size) hd);obtain⟨fl,fm,fo,fp,fq,fs,ft,fu,rfl⟩:=hd.agg;clear hd)
  | (go_at_call 68;(with_reducible refine cp.out.mono ?_);rintro e I ⟨A,rfl,hA,cq⟩;have J:=Α hA;have bm:=Α cq;obtain⟨_,_,_,_,_,_,bn,ej,_⟩:=hA.opened (Bj G.out.val);clear hA cq cp;have cr:(Ζ.info? 108).map (·.size)=Δ A.size:=(by rw[bn];exact Cc);have ek:ξ.size=A.size:=(by rw[Da,bn]);clear bn)
  | (refine Φ rfl 108 (η 4) (η 17) rfl _ _ rfl rfl _ _ (Aa I (Ε ξ 108)) cr ek ej ?_))
 have ao:=((Θ I).alloc (Ε ξ 108)).setRow (ν _) A;have H4:=μ (I.alloc (Ε ξ 108)) I.heap.size _ A _ _ (Aa I _);obtain⟨w6,bq⟩:∃ W,(I.alloc (Ε ξ 108)).setRow I.heap.size A=W:=⟨_,rfl⟩;rw[bq] at ao H4;simp only[bq];clear bq;have ct:=Α ((((ai.out.trans aj.out).trans al.out).trans bm.out).trans ao);have D:=Α ((((aj.out.trans al.out).trans bm.out).trans ao).heap D.out);have J:=Α (J.out.ext ao);have ab:=Α H4;generalize I.heap.size=g4 at *;clear ao H4 bf f47 bk a6 ai aj al bm ah;have fv:d.n.length<=a.n.length:=K8 G.out cb.out (λu=>by rw[HH.out,Dp]);have cu:=Α (P8 (Ae d) (Ae d) (Bj G.out.val) (Bj G.out.val) A A w6 J.out J.out);have cv:∀ c,ώ.size=(Ar c).size:=λc=>by rw[F9,C3,C3]
 have cw:∀ c,(Ζ.info? 77).map (·.size)=Δ (Ar c).size:=λc=>by rw[C3];exact Fj
 go_upto_region 5 with (first
  | (refine Ο rfl 108 (η 4) rfl _ rfl _ _ _ _ ab.out Ϫ rfl cr ?_)
  | (go_at_call 70;(with_reducible refine cu.out.mono ?_);rintro e E ⟨c,bs,vj,rfl,cy,cz,c1⟩;have br:=cv c;have bt:=cw c;have bu:=Ht c;obtain⟨A9,ba⟩:∃ X,Ar c=X:=⟨_,rfl⟩;rw[ba] at br bt bu;rw[ba])
  | (refine Φ rfl 77 (η 5) (η 22) rfl _ _ rfl rfl _ _ (Aa E (Ε ώ 77)) bt br bu ?_))
 have ae:=c1.trans (((Θ E).alloc (Ε ώ 77)).setRow (ν _) A9);have H5:=μ (E.alloc (Ε ώ 77)) E.heap.size _ A9 _ _ (Aa E _);have bx:=cz.ext (((Θ E).alloc (Ε ώ 77)).setRow (ν _) A9);obtain⟨w8,bz⟩:∃ W,(E.alloc (Ε ώ 77)).setRow E.heap.size A9=W:=⟨_,rfl⟩;rw[bz] at ae H5 bx;simp only[bz];clear bz c1 cz cv cw cu;have c2:=Α H5;have ar:=Α cy;have eo:=Α ba;have D:=Α (ae.heap D.out);have ab:=Α (ae.heap ab.out);have J:=Α (J.out.ext ae);have ep:=Α (ct.out.trans ae);clear H5 cy ba br bu ae ct;generalize E.heap.size=g5 at *;have er:0<bs.length:=by have:=ar.out.lt 0 (by omega);omega
 have et:bs.length<=256:=by
  have:=Is c 256 bs.length (λj hj=>⟨bs.getD j 0,(ar.out.byte j hj).1,(ar.out.byte j hj).2⟩);exact this
 have b0:(Ae d).n.length<=64:=by show d.n.length<=64;omega
 have bb:=Α (Bj G.out.val);have c4:=Α (Acd (Ae d) bb.out b0 A g4 w8 J.out ab.out);have c5:=Α (Abj (Ae d) bb.out b0 A g4 w8 J.out ab.out);have hX:=Α (Qq c bs er et (λk hk=>(ar.out.byte k hk).1) ⟨1,0,1⟩ (sNx (Ae d)) (sAc (Ae d)) L2
  (λx hx=>⟨by have:=hx.1;omega,by have:=hx.2.1;omega,hx.2.2⟩) ⟨by show 1<2;omega,rfl,by show 1<18446744073709551616;omega⟩
  (λx hx k hk=>Ac5 bb.out b0 x k hk) 4096 (by omega) (by omega) 157 158 _ _ (enters_of Tryz.func157 (by kernel_rfl) rfl) (enters_of Tryz.func158 (by kernel_rfl) rfl) vj w8 bx c4.out c5.out)
 rw[eo.out] at hX;have c6:Hid (ϓ Ζ 74 #[.agg A9,vj,.agg #[.int ε 1,.int ε 0,.int π 1],.func (.func 157) #[] #[Ω (Δ ⟨g4,0,Γ⟩)],.func (.func 158) #[] #[Ω (Δ ⟨g4,0,Γ⟩)],.int ε 4096] w8 λe w'=>
   ∃ A b,e=θ (ϙ #[.agg A,.bool b])/\A.size=259/\A.all (·.oneCell')=Ξ/\(b=Τ->B8 (snx (Ae d)) (1,1) 4096)/\(b=Ξ->∃ t,IsT w' A t/\TVal t/\t.n.length<=4096/\¬ B8 (snx (Ae d)) (1,1) 4096/\(∀ u,t.has u=Ξ↔Star (λu=>d.has u=Ξ) u))/\Ext w8 w'):=Α (ϓ.mono hX.out λe w' ⟨hE,h⟩=>by
  rcases h with⟨A,l,t,he,U,hX,hl,fx⟩|⟨hM,he⟩
  ·obtain⟨h1,h2,h3,h4⟩:=Abp bb.out ar.out hX hl;obtain⟨_,_,_,_,_,_,aw,b5,_⟩:=U.opened h1;refine⟨A,Ξ,he,aw,b5,λh=>by simp at h,λ_=>⟨t,U,h1,h2,h3,λu=>?_⟩,hE⟩;rw[h4];have:(λu=>(Ae d).has u=Ξ)=λu=>d.has u=Ξ:=funext λu=>by rw[Dp]
   rw[this]
  ·exact⟨ξ,Τ,he,Da,Ru,λ_=>Vv hM stP (λs b=>rfl) (λw w' e=>Lw (L1 _ w) (L1 _ w') e),λh=>by simp at h,hE⟩)
 clear hX c4 c5 bx;have e0:=Α (Yx 1 1);have e1:=Α Am5;have e2:(Ζ.info? 77).map (·.size)=Δ A9.size:=bt;go_upto_region 7 with (first
  | (refine Ο rfl 77 (η 5) rfl _ rfl _ _ _ _ c2.out Tryz.underlying77 rfl e2 ?_)
  | (refine Bw rfl 114 _ rfl #[.int π 1] ?_ ?_;(simp;with_reducible exact e1.out))
  | (refine Bw rfl 116 _ rfl #[.int ε 1,.int ε 0,.int π 1] ?_ ?_;(simp[ú.eval];with_reducible exact e0.out))
  | (go_at_call 74;(with_reducible refine c6.out.mono ?_);rintro e M ⟨AT,bo,rfl,aw,b5,c9,da,b6⟩;have e4:=Α c9;have e5:=Α da;clear c9 da;have db:(Ζ.info? 108).map (·.size)=Δ AT.size:=(by rw[aw];exact Cc);have e6:ξ.size=AT.size:=(by rw[Da,aw]);clear aw)
  | (refine Φ rfl 108 (η 8) (η 33) rfl _ _ rfl rfl _ _ (Aa M (Ε ξ 108)) db e6 b5 ?_))
 have ax:=((Θ M).alloc (Ε ξ 108)).setRow (ν _) AT;have H8:=μ (M.alloc (Ε ξ 108)) M.heap.size _ AT _ _ (Aa M _);obtain⟨dc,b8⟩:∃ W,(M.alloc (Ε ξ 108)).setRow M.heap.size AT=W:=⟨_,rfl⟩;rw[b8] at ax H8;simp only[b8];clear b8;have e7:=Α H8;have D:=Α ((b6.trans ax).heap D.out);have dd:=Α ((ep.out.trans b6).trans ax);have e8:=Α ax;clear b6 ax H8 ab c2 c6;generalize M.heap.size=g8 at *;cases bo
 ·have e9:=Α Dn;go_wp2_with (first
   | (refine Bw rfl 30 _ rfl #[Β Γ 0 0,Β Γ 0 0,Β Γ 0 0] ?_ ?_;(simp;with_reducible exact e9.out))
   | (refine Φ rfl 30 (η 2) (η 37) rfl _ _ rfl rfl _ _ D.out Ad rfl C8 ?_))
  refine ω (v:=ϙ #[zD,.int ε 2]) (A3 rfl _ _ _ _ _ _ _ rfl _ rfl (μ dc _ _ #[Β Γ 0 0,Β Γ 0 0,Β Γ 0 0] 30 (0,0) D.out) Κ rfl Ad) rfl ?_;exact⟨Γ,rfl,⟨d,G.out,λu=>by rw[HH.out,Dp],λ_=>rfl,λh=>absurd (e4.out (by simp)) h⟩,dd.out.setRow (by omega) _⟩
 ·obtain⟨t,de,df,fa,dg,ak⟩:=e5.out rfl;have hL:=Α (Pt t df (show t.n.length<=65536 by omega) AT dc (de.ext e8.out));have fc:=Α ak;have fe:=Α dg;clear de df fa dg ak;go_wp2_with (first
   | (refine Ο rfl 108 (η 8) rfl _ rfl _ _ _ _ e7.out Ϫ rfl db ?_)
   | (go_at_call 77;(with_reducible refine hL.out.mono ?_);rintro e ff ⟨r,b9,dh,dk⟩;obtain⟨dm,dn,dp,dq,dr,dt,du,dv,dw,k2,rfl⟩:=b9.form;have fh:=Α b9;have dx:=Α dh;clear b9 dh;have D:=Α (dk.heap D.out))
   | (refine Φ rfl 30 (η 2) (η 40) rfl _ _ rfl rfl _ _ D.out Ad rfl (Aq _ _ _ rfl rfl rfl) ?_))
  refine ω (v:=ϙ #[.agg (dA (Β dm dn dp) (Β dq dr dt) (Β du dv dw)),.int ε k2]) (A3 rfl _ _ _ _ _ _ _ rfl _ rfl (μ ff _ _ (dA (Β dm dn dp) (Β dq dr dt) (Β du dv dw)) 30 (0,0) D.out) Κ rfl Ad) rfl ?_;refine⟨r,fh.out.setRow (Hg dx.out) D.out _,⟨d,G.out,λu=>by rw[HH.out,Dp],λh=>absurd h fe.out,λ_=>Iz dx.out λu=>?_⟩,(dd.out.trans dk).setRow (by omega) _⟩;rw[fc.out];have:(λu=>d.has u=Ξ)=λu=>a.has u=Ξ:=funext λu=>by rw[HH.out,Dp]
  rw[this]
theorem Fl {P:Program} {op:ϳ} {a:ú} {w:Λ} (ty:TypeId) (x:Operand) (D:op.op=.load ty x)
  (b o:Nat) (E:a.eval x=Ω (Δ ⟨b,o,Γ⟩)) (cs:List Ν) (d:TypeDesc) (G:w.rangeAt b o cs)
  (hu:P.underlying ty=Δ d) (hd:d.isRow=Ξ) (hi:(P.info? ty).map (·.size)=Δ cs.length):(Ù a.eval op).run P w=.ok (.value (.agg cs.toArray)) w:=by
 unfold Ù;simp only[D,E,Instr.loadAt,Instr.sureAddr,Sem.run_bind,Sem.run_pure,Result.andThen_ok,run_loadVar_mid w b o ty cs d G hu hd hi]
theorem Uc {w:Λ} {b o:Nat} {v:Ν} (h:w.cell? ⟨b,o,Γ⟩=Δ v):w.rangeAt b o [v]:=λj u hu=>by
 rcases j with _|j
 ·simp at hu;subst hu;exact h
 ·simp at hu
def cIn (x:Tbl) (s:Sta):Sta:=⟨s.p,s.q,if x.ok s.p then s.s ||| 1 else s.s⟩
def cNx (x y:Tbl) (s:Sta) (b:Nat):Sta:=cIn x ⟨x.stp s.p b,0,Az y s.s b y.n.length⟩
def cAc (y:Tbl) (s:Sta):Bool:=Cu y s.s
def K9 (x:Tbl) (s:Sta):Prop:=s.p<x.n.length/\s.q=0/\s.s<18446744073709551616
def cSt (x:Tbl):Sta:=cIn x ⟨0,0,0⟩
theorem Nj (x y:Tbl) (w:List UInt8):(Ax (cNx x y) (cSt x) w).q=0:=by
 induction w using Et with
 | h0=>rfl
 | h1 w z G=>rw[Ed];rfl
theorem Yr (x:Tbl) (s:Sta) (h:s.s<18446744073709551616):(cIn x s).s<18446744073709551616:=by
 unfold cIn;simp only;split
 ·exact Nat.or_lt_two_pow (n:=64) h (by omega)
 ·exact h
theorem Amq {x y:Tbl} (E:TVal x) (G:TVal y) (hn:y.n.length<=64) (s:Sta) (hs:K9 x s) (b:Nat) (D:b<256):K9 x (cNx x y s b):=
 ⟨E.stp_lt hs.1 D,rfl,Yr _ _ (Ii G hn s.s b D _ (ν _))⟩
theorem Yq (x y:Tbl) (s:Sta) (b:Nat):stP (cNx x y s b)=cnx x y (stP s) b:=rfl
theorem Aml {x y:Tbl} (hx:TVal x) (I:TVal y) {c:Nat->Nat} {bs:List Nat} (D:Joint x.cell y.cell c bs) {l:List Sta} {t:Tbl} (h:Expl c bs (cSt x) (cNx x y) (cAc y) l t) (E:l.length<=4096) :
  TVal t/\t.n.length<=4096/\¬ B8 (cnx x y) (cst x) 4096/\∀ u,t.has u=Ξ↔Cat (λu=>x.has u=Ξ) (λv=>y.has v=Ξ) u:=by
 have G:Expl c bs (cst x) (cnx x y) (λs=>Cu y s.2) (l.map stP) t:=
  h.conv (st:=cSt x) stP (λs b=>Yq x y s b) (λs=>rfl) (λw w' e=>Lw (Nj x y w) (Nj x y w') e)
 have hn:∀ (s:Nat × Nat) b,b<256->cnx x y s (bs.getD (c b) 0)=cnx x y s b:=λs b J=>by
  obtain⟨_,M,T⟩:=D.rep b J;have U:∀ p,x.stp p (bs.getD (c b) 0)=x.stp p b:=λp=>by unfold Tbl.stp;rw[M]
  have e2:∀ n,Az y s.2 (bs.getD (c b) 0) n=Az y s.2 b n:=λn=>by
   induction n with
   | zero=>rfl
   | succ n ih=>simp only[Az];rw[ih];unfold Tbl.stp;rw[T]
  unfold cnx;rw[U,e2]
 exact⟨h.tval D,by rw[h.len];exact E,Xn G D hn (by simpa using E),λu=>Amj I G D u⟩
theorem Yd (x:Tbl) (hx:TVal x) (A:Array Ν) (gx:Nat) (w:Λ) (hA:IsT w A x) (M:w.heap[gx]? = Δ (Ε A 108 (0,0))) (W:Λ) (hW:Ext w W) (p z:Nat) (hp:p<x.n.length) (hz:z<18446744073709551616) :
  ϓ Ζ 71 #[.agg #[iv p,(.int ε 0),.int π (z:Int)],Ω (Δ ⟨gx,0,Γ⟩)] W λe w'=>e=θ (stV (cIn x ⟨p,0,z⟩))/\Ext W w':=by
 obtain⟨_,_,_,ba,oa,ca,_,_,_,_,_,an,_,ao⟩:=(hA.ext hW).opened hx;have M:=hW.heap M;have a8:=(γ W gx 258 _ _ _ M).trans an;have aa:=ao p hp;show ϓ _ _ _ _ λe w'=>e=θ (.agg #[iv p,(.int ε 0),.int π ((if x.ok p then z ||| 1 else z:Nat):Int)])/\Ext W w'
 have I:=((Θ W).alloc (Ε #[iv p,(.int ε 0),.int π (z:Int)] 116)).alloc (Ε #[.int ε 0,.int ε 0,.int π 0] 116);have D:=Ag (Aa W (Ε #[iv p,(.int ε 0),.int π (z:Int)] 116)) (Ε #[.int ε 0,.int ε 0,.int π 0] 116);have H3:=Ϗ W (Ε #[iv p,(.int ε 0),.int π (z:Int)] 116) (Ε #[.int ε 0,.int ε 0,.int π 0] 116);have HO:=Α (Ux z hz);clear hA an ao M;generalize x.n.length=nx at *;generalize x.ok p=bo at *;go_enter Tryz.func71,Tryz.ntmps71;go_upto_region 1 with (fail)
 obtain⟨w1,T⟩:∃ V,(W.alloc (Ε #[iv p,(.int ε 0),.int π (z:Int)] 116)).alloc (Ε #[.int ε 0,.int ε 0,.int π 0] 116)=V:=⟨_,rfl⟩;have bf:W.heap.size+1<w1.heap.size:=by rw[<-T,Ρ,Ρ];omega
 rw[T] at I D H3;simp only[T];clear T;have a8:=I.cell a8;have aa:=I.cell aa;have J:=Α D;have E:=Α H3;have ar:=Α I;have c0:=(γ w1 W.heap.size 0 _ _ _ D).trans (show (#[iv p,(.int ε 0),.int π (z:Int)]:Array Ν)[0]? = Δ (iv p) from rfl);have c2:=(γ w1 W.heap.size 2 _ _ _ D).trans (show (#[iv p,(.int ε 0),.int π (z:Int)]:Array Ν)[2]? = Δ (.int π (z:Int)) from rfl);have f2:=Ϸ w1 W.heap.size 2 _ _ D;clear D H3 I;have G:∀ z:Int,(Ζ.info? 116).map (·.size)=Δ (#[iv p,(.int ε 0),.int π z]:Array Ν).size:=λ_=>D0
 cases bo
 ·go_wp2_with (first
   | (refine Ο rfl 116 (η 2) rfl _ rfl _ _ _ _ J.out Ê rfl (G _) ?_)
   | (refine Φ rfl 116 (η 3) (η 16) rfl _ _ rfl rfl _ _ E.out (G _) rfl (by simp[ό]) ?_))
  refine ω (v:=.agg #[iv p,(.int ε 0),.int π (z:Int)]) (Ϲ rfl _ _ _ _ _ _ _ rfl (μ w1 _ _ _ 116 (0,0) E.out) Ê rfl (G _)) rfl ?_;exact⟨rfl,ar.out.setRow (by omega) _⟩
 ·go_upto_region 3 with (fail)
  have au:w1.setCell ⟨W.heap.size,2,Γ⟩ (.int π (bits BinOp.or ϱ (z:Int) 1))=w1.setRow W.heap.size #[iv p,(.int ε 0),.int π ((z ||| 1:Nat):Int)]:=by
   rw[Ϧ w1 _ _ _ _ _ _ J.out,HO.out];rfl
  rw[au];have U:=μ w1 W.heap.size _ #[iv p,(.int ε 0),.int π ((z ||| 1:Nat):Int)] _ _ J.out;have ab:=B7 E.out (show W.heap.size+1≠W.heap.size by omega) #[iv p,(.int ε 0),.int π ((z ||| 1:Nat):Int)];have ad:=ar.out.setRow (ν _) #[iv p,(.int ε 0),.int π ((z ||| 1:Nat):Int)];obtain⟨y,hy⟩:∃ y:Int,((z ||| 1:Nat):Int)=y:=⟨_,rfl⟩;rw[hy] at U ab ad;rw[hy];obtain⟨w6,aj⟩:∃ V,w1.setRow W.heap.size #[iv p,(.int ε 0),.int π y]=V:=⟨_,rfl⟩;rw[aj] at U ab ad;rw[aj];have J:=Α U;have E:=Α ab;have a7:=Α ad;have HY:=Α hy;clear c0 c2 f2 a8 aa au U ab ad hy HO aj;go_wp2_with (first
   | (refine Ο rfl 116 (η 2) rfl _ rfl _ _ _ _ J.out Ê rfl (G _) ?_)
   | (refine Φ rfl 116 (η 3) (η 16) rfl _ _ rfl rfl _ _ E.out (G _) rfl (by simp[ό]) ?_))
  refine ω (v:=.agg #[iv p,(.int ε 0),.int π y]) (Ϲ rfl _ _ _ _ _ _ _ rfl (μ w6 _ _ _ 116 (0,0) E.out) Ê rfl (G _)) rfl ?_;exact⟨by rw[<-HY.out],a7.out.setRow (by omega) _⟩
theorem Ale (x y:Tbl) (T:TVal y) (hn:y.n.length<=64) (B:Array Ν) (U:Nat) (w:Λ) (hB:IsT w B y) (D:w.heap[U]? = Δ (Ε B 108 (0,0))) :
  Nn w 75 #[Ω (Δ ⟨U,0,Γ⟩)] (cAc y) (K9 x):=by
 intro W G s hs;obtain⟨-,-,ab⟩:=hs;have I:=hB.ext G;obtain⟨_,_,_,_,_,_,ae,ak,_⟩:=I.opened T;have hiB:(Ζ.info? 108).map (·.size)=Δ B.size:=by rw[ae];exact Cc
 have D:=G.heap D;have f76:=λV (hV:Ext W V)=>Α (Oi y T hn B s.s ab V (I.ext hV))
 show ϓ _ _ _ _ λe w'=>e=θ (.bool (Cu y s.s))/\Ext W w'
 have E:=(Θ W).alloc (Ε #[iv s.p,iv s.q,.int π (s.s:Int)] 116);have J:=Aa W (Ε #[iv s.p,iv s.q,.int π (s.s:Int)] 116);generalize Cu y s.s=bo at *;clear hB I G;go_enter Tryz.func75,Tryz.ntmps75;go_upto_region 1 with (fail)
 obtain⟨w1,M⟩:∃ V,W.alloc (Ε #[iv s.p,iv s.q,.int π (s.s:Int)] 116)=V:=⟨_,rfl⟩;rw[M] at E J;simp only[M];clear M;have ag:=Α (E.heap D);have ah:w1.rangeAt W.heap.size 2 [.int π (s.s:Int)]:=Uc ((γ w1 W.heap.size _ _ _ _ J).trans rfl);have ad:=Α E;clear J D E ab;go_wp2_with (first
  | (refine Ο rfl 108 (η 1) rfl _ rfl _ _ _ _ ag.out Ϫ rfl hiB ?_)
  | (refine wpList_load_mid rfl 114 (η 5) rfl _ 2 rfl _ _ ah Tryz.underlying114 rfl i114 ?_)
  | (go_at_call 76;(with_reducible refine (f76 _ ad.out).out.mono ?_);rintro e w5 ⟨rfl,ai⟩;have aj:=Α (ad.out.trans ai)))
 go_ret;exact⟨rfl,aj.out⟩
theorem Al4 (x y:Tbl) (M:TVal x) (hy:TVal y) (hn:y.n.length<=64) (A B:Array Ν) (E gy gf:Nat) (w:Λ) (hA:IsT w A x) (hB:IsT w B y) (U:w.heap[E]? = Δ (Ε A 108 (0,0))) (ah:w.heap[gy]? = Δ (Ε B 108 (0,0)))
  (a8:w.heap[gf]? = Δ (Ε #[.func (.func 71) #[] #[Ω (Δ ⟨E,0,Γ⟩)]] 117 (0,0))) :
  Nt w 72 #[Ω (Δ ⟨gf,0,Γ⟩),Ω (Δ ⟨E,0,Γ⟩),Ω (Δ ⟨gy,0,Γ⟩)] (cNx x y) (K9 x):=by
 intro W hW s hs b hb;obtain⟨hp,-,bb⟩:=hs;obtain⟨bn,on,cn,_,_,_,_,_,be,_,bf,_,bg,_⟩:=(hA.ext hW).opened M;have au:=hB.ext hW;obtain⟨_,_,_,_,_,_,b0,ca,_⟩:=au.opened hy;have hiB:(Ζ.info? 108).map (·.size)=Δ B.size:=by rw[b0];exact Cc
 have f73:=λV (D:Ext W V)=>Α (Sx y hy hn B s.s bb b hb V (au.ext D))
 have bh:=Ii hy hn s.s b hb _ (ν _);have bj:=M.stp_lt hp hb;have f71:=λV (D:Ext W V)=>Α (Yd x M A E w hA U V (hW.trans D) (x.stp s.p b) (Az y s.s b y.n.length) bj bh)
 have U:=hW.heap U;have ah:=hW.heap ah;have a7:=(γ W E 257 _ _ _ U).trans bf;have ac:=(γ W E b _ _ _ U).trans (be b hb);obtain⟨br,or',cr,aj,bl⟩:=bg s.p hp;have ae:=bl _ (M.cell_lt b hb);have cb:=M.cell_lt b hb;have bm:x.ent2 s.p (x.cell b)=x.stp s.p b:=rfl;rw[bm] at ae;have g0:=(γ W gf 0 _ _ _ (hW.heap a8)).trans (show (#[Ν.func (.func 71) #[] #[Ω (Δ ⟨E,0,Γ⟩)]]:Array Ν)[0]? = Δ (.func (.func 71) #[] #[Ω (Δ ⟨E,0,Γ⟩)]) from rfl);have cd:=enters_of Tryz.func71 (by kernel_rfl) rfl;show ϓ _ _ _ _ λe w'=>e=θ (stV (cIn x ⟨x.stp s.p b,0,Az y s.s b y.n.length⟩))/\Ext W w'
 have G:=((Θ W).alloc (Ε #[iv s.p,iv s.q,.int π (s.s:Int)] 116)).alloc (Ε #[.int ε 0,.int ε 0,.int π 0] 116);have H5:=Ag (Aa W (Ε #[iv s.p,iv s.q,.int π (s.s:Int)] 116)) (Ε #[.int ε 0,.int ε 0,.int π 0] 116);have H7:=Ϗ W (Ε #[iv s.p,iv s.q,.int π (s.s:Int)] 116) (Ε #[.int ε 0,.int ε 0,.int π 0] 116);clear hA hB au be bf bg bm bl a8 U bb bh bj;generalize Az y s.s b y.n.length=T at *;generalize x.stp s.p b=p2 at *;obtain⟨R,hR⟩:∃ R,cIn x ⟨p2,0,T⟩=R:=⟨_,rfl⟩;rw[hR] at f71;rw[hR];clear hR;generalize x.cell b=cx at *;have cf:(b:Int)<256:=by omega
 generalize x.cells=mx at *;generalize x.n.length=nx at *;clear M hy hn;go_enter Tryz.func72,Tryz.ntmps72;go_upto_region 1 with (fail)
 obtain⟨w1,ay⟩:∃ V,(W.alloc (Ε #[iv s.p,iv s.q,.int π (s.s:Int)] 116)).alloc (Ε #[.int ε 0,.int ε 0,.int π 0] 116)=V:=⟨_,rfl⟩;rw[ay] at G H5 H7;simp only[ay];clear ay;have a7:=G.cell a7;have ac:=G.cell ac;have aj:=G.cell aj;have ae:=G.cell ae;have g0:=G.cell g0;have c0:=(γ w1 W.heap.size 0 _ _ _ H5).trans (show (#[iv s.p,iv s.q,.int π (s.s:Int)]:Array Ν)[0]? = Δ (iv s.p) from rfl);have c2:=(γ w1 W.heap.size 2 _ _ _ H5).trans (show (#[iv s.p,iv s.q,.int π (s.s:Int)]:Array Ν)[2]? = Δ (.int π (s.s:Int)) from rfl);have bq:=Α (λV (D:Ext w1 V)=>D.heap (G.heap ah));have bt:=Α (λV (D:Ext w1 V)=>Uc (D.cell c2));have bu:∀ V,Ext w1 V->V.cell? ⟨E,257,Γ⟩=Δ (Β (Δ ⟨bn,on,Γ⟩) nx cn)/\V.cell? ⟨E,b,Γ⟩=Δ (iv cx)/\
   V.cell? ⟨bn,on+s.p,Γ⟩=Δ (Β (Δ ⟨br,or',Γ⟩) mx cr)/\V.cell? ⟨br,or'+cx,Γ⟩=Δ (iv p2)/\V.cell? ⟨W.heap.size,0,Γ⟩=Δ (iv s.p)/\V.cell? ⟨gf,0,Γ⟩=Δ (.func (.func 71) #[] #[Ω (Δ ⟨E,0,Γ⟩)]):=
  λV D=>⟨D.cell a7,D.cell ac,D.cell aj,D.cell ae,D.cell c0,D.cell g0⟩
 clear a7 ac aj ae c0 c2 g0 ah H5;have bw:=Α (Yx (p2:Int) (T:Int));refine B2 20 [(0,Ξ),(1,Ξ),(2,Ξ),(3,Ξ),(4,Ξ),(5,Ξ),(6,Ξ),(7,Ξ),(8,Ξ),(9,Ξ),(10,Ξ),(11,Ξ),(12,Ξ),(13,Ξ),(14,Ξ),(15,Ξ),(16,Ξ),(17,Τ),(18,Ξ),(19,Τ),(20,Τ)] (by kernel_rfl) (by kernel_rfl) (λ_ _ _ _ h=>h)
  (λV=>Ext w1 V) (Θ w1).drew ?_
 have ad:=(Θ w1).drew;have J:=ad.heap H7;obtain⟨w2,az⟩:∃ V,w1.drew=V:=⟨_,rfl⟩;rw[az] at ad J;rw[az];clear az H7;iterate 13
  refine Ao (v:=?_) rfl rfl (λV D=>?_) ?_
  rotate_left
  ·obtain⟨k0,k1,k2,k3,k4,k5⟩:=bu V D;clear D;go_simp;first|done|with_reducible rfl
  simp only[Ϛ,Ι,Χ,Ψ]
 refine Ao (v:=.agg B) rfl rfl (λV D=>?_) ?_
 ·exact D2 108 (η 4) rfl gy rfl _ _ _ _ (bq.out V D) Ϫ rfl hiB
 simp only[Ϛ,Ι,Χ,Ψ];refine Ao (v:=?_) rfl rfl (λV D=>?_) ?_
 rotate_left
 ·clear D;go_simp;first|done|with_reducible rfl
 simp only[Ϛ,Ι,Χ,Ψ];refine Ao (v:=.agg #[.int π (s.s:Int)]) rfl rfl (λV D=>?_) ?_
 ·exact Fl 114 (η 22) rfl W.heap.size 2 rfl _ _ (bt.out V D) Tryz.underlying114 rfl i114
 simp only[Ϛ,Ι,Χ,Ψ];refine Ao (v:=?_) rfl rfl (λV D=>?_) ?_
 rotate_left
 ·clear D;go_simp;first|done|with_reducible rfl
 simp only[Ϛ,Ι,Χ,Ψ];clear bu bq bt;refine A5 rfl (λK I=>?_);go_simp
 (with_reducible refine (f73 w2 (G.trans ad)).out.mono ?_)
 rintro e w3 ⟨rfl,ao⟩;refine I _ _ (λ_=>ad.trans ao) ?_;clear I K;refine Ao (v:=.agg #[iv p2,.int ε 0,.int π (T:Int)]) rfl rfl (λV _=>?_) ?_
 ·exact Hm 116 _ rfl (by simpa [ú.eval] using bw.out) V
 simp only[Ϛ,Ι,Χ,Ψ];have J:=ao.heap J;have bx:=(G.trans ad).trans ao;refine A5 rfl (λK I=>?_);go_simp
 (with_reducible refine (f71 w3 bx).out.mono ?_)
 rintro e w4 ⟨rfl,a1⟩;refine I _ _ (λ_=>(ad.trans ao).trans a1) ?_;clear I K;have J:=a1.heap J;refine A5 rfl (λK I=>?_);refine Gf 116 (η 7) (η 27) rfl rfl _ (stA R) rfl rfl _ _ J D0 rfl (Tc R) ?_;refine I _ _ (λh=>absurd h (by omega)) ?_;clear I K;refine B3 ?_;have b8:=(bx.trans a1).setRow (show W.heap.size<=W.heap.size+1 by omega) (stA R);have H8:=μ w4 _ _ (stA R) 116 (0,0) J;clear f71 f73 bw;go_wp2;refine ω (v:=.agg (stA R)) (Ϲ rfl _ _ _ _ _ _ _ rfl H8 Ê rfl D0) rfl ?_;exact⟨rfl,b8⟩
open Go
section
variable {P:Program} {ops:Array Oper} {Q:Exit->Act->World->Prop} {n:Nat}
def Kr (ops:Array ϳ) (n p:Nat):Bool:=
 (ι n).all (λk=>decide (k=p)||ø .any ops n k)&&(ι ops.size).all (λt=>decide (t<=n)||ø .any ops t (t-1))&&
 (match ops[p]? with|none=>Τ|some op=>op.after.all λe=>!Region.binds .any e||decide (e.on<p))&&
 (ι ops.size).all λj=>decide (j=p)||ø .any ops j p||ø .any ops p j||match ops[p]?,ops[j]? with|some op,Δ oj=>op.apart ops oj|_,_=>Τ
theorem Ls {i j:Nat} {listed:Array Bool} (h:ø .any ops i j=Ξ) (D:i∈É .any ops listed):listed.getD j Τ=Ξ:=by
 obtain⟨oi,E,e,he,G,I⟩:=Region.waitsFor_spec h;obtain⟨_,o,J,M⟩:=mem_ready.1 D;have:oi=o:=ύ (E.symm.trans J);subst this;rw[<-I];exact M e he G
theorem P4 {F:Nat->Ν->Λ->Prop} {Ne:Nat->Nat->Ν->Ν->Prop} (aa:∀ i j v u,Ne i j v u->Ne j i u v) (hF:∀ i v w w',F i v w->Ext w w'->F i v w') {a0:ú} {w1:Λ} {sz g p:Nat} (I:p<n) (ad:a0.tmps.size=sz) (hd:Fm ops n sz=Ξ) (hL:Kr ops n p=Ξ) (aj:Region.noSelect ops=Ξ) (hn:n<ops.size) (hE:E5 ops n=Ξ)
  (hQ:∀ c a tm w,Q (.panic c) { tmps:=tm,defers:=a.defers } w->Q (.panic c) a w)
  (an:∀ o (listed:Array Bool) a w,ops[p]? = Δ o->p∈É .any ops listed->FInvR ops n F Ne a0 w1 listed a w->∃ v,∀ W,(Ù a.eval o).run P W=.ok (.value v) W)
  (ae:∀ i,i<n->FOp P ops Q n F Ne a0 w1 i) (ao:∀ listed a w,HeadInv .any ops n listed->(∀ i,i<n->listed.getD i Τ=Ξ)->FInvR ops n F Ne a0 w1 listed a w->wpAny P .any ops Q g listed a w) :
  ∀ (f:Nat) (listed:Array Bool) (a:ú) (w:Λ),HeadInv .any ops n listed->FInvR ops n F Ne a0 w1 listed a w->unl n listed=f->wpAny P .any ops Q (f+g) listed a w
 | 0,listed,a,w,J,T,hu=>by
  rw[Nat.zero_add];exact ao listed a w J (Ig n listed hu) T
 | f+1,listed,a,w,J,T,hu=>by
  obtain⟨k,hk,aq,bf⟩:=Ko n listed (by omega);have ar:=Mu hE J.size (by omega) k hk bf aq;rw[show f+1+g=(f+g)+1 by omega];have key:∀ i,i∈É .any ops listed->i<n->unl n (listed.setIfInBounds i Ξ)=f:=λi hi M=>by
   have az:=(mem_ready.1 hi).1;have a1:i<listed.size:=by rw[J.size];omega
   have bg:listed.getD i Τ=Τ:=by
    rw[ϡ,ϟ a1] at az ⊢;exact az
   have:=J1 n listed i M a1 bg;omega
  simp only[Kr,Ϝ,Ø,υ] at hL;obtain⟨⟨⟨l1,l2⟩,l3⟩,l4⟩:=hL;have a8:Kr ops n p=Ξ:=by
   simp only[Kr,Ϝ,Ø,υ];exact⟨⟨⟨l1,l2⟩,l3⟩,l4⟩
  by_cases G:p∈É .any ops listed
  ·obtain⟨bz,o,E,ba⟩:=mem_ready.1 G;obtain⟨o',d,ag,bh,_,_⟩:=Jg hd p I;rw[E] at ag;injection ag with ag
   subst ag;obtain⟨v,hv⟩:=an o listed a w E G T;obtain⟨o2,bj,hw,au⟩:=Xc aa hF ad hd T G I (ae p I);have e2:o2=o:=ύ (bj.symm.trans E);subst e2;have bm:FInvR ops n F Ne a0 w1 (listed.setIfInBounds p Ξ) (a.put o2.dst v) w:=by
    unfold ϳ.wp at au;rw[hv w] at au;exact au
   refine wpAny_first E (Region.noSelect_spec aj) (v:=v) (λc a w hq=>?_) (f+g) listed a w (λj oj hj bn bo bp=>?_) G (.inl ⟨hw,hv⟩) (P4 aa hF I ad hd a8 aj hn hE hQ an ae ao f _ _ w (J.set G I) bm (key p G I))
   ·rw[bh] at hq;exact hQ c a _ w hq
   ·have D:=l4 j (ϐ.1 hj).1;rw[E,hj] at D;simp only[Å,decide_eq_true_eq] at D;rcases D with ((D|D)|D)|D
    ·exact absurd D bn
    ·obtain⟨b4,ah,e,he,hb,br⟩:=Region.waitsFor_spec D;rw[hj] at ah;injection ah with ah
     subst ah;exact absurd br (bp e he hb)
    ·have:=Ls D G;have h5:=getD_both bo;rw[this] at h5;cases h5
    ·exact D
  ·refine⟨λh0=>(by rw[h0] at ar;cases ar),λi hi=>?_⟩;have M:i<n:=Nat.lt_of_not_le λh=>by
    by_cases bu:i=n
    ·subst bu;have ba:∀ k,k<i->k≠p->listed.getD k Τ=Ξ:=λk hk ax=>by
      have:=l1 k hk;simp only[Å,decide_eq_true_eq] at this;rcases this with h|h
      ·exact absurd h ax
      ·exact Ls h hi
     have ax:k=p:=by
      apply ϧ;intro h';rw[ba k hk h'] at aq;cases aq
     subst ax;exact G ar
    ·have U:=l2 i (by
      obtain⟨_,o,E,_⟩:=mem_ready.1 hi;exact (ϐ.1 E).1)
     simp only[Å,decide_eq_true_eq] at U;rcases U with U|U
     ·omega
     ·have h3:=Ls U hi;have h5:=J.tail (i-1) (by omega) (by
       obtain⟨_,o,E,_⟩:=mem_ready.1 hi;have:=(ϐ.1 E).1;omega)
      rw[getD_both h5] at h3;cases h3
   exact wpOp_mono (λa' w' h=>P4 aa hF I ad hd a8 aj hn hE hQ an ae ao f _ a' w' (J.set hi M) h (key i hi M)) (Xd aa hF ad hd T hi M (ae i M))
def V7 (ops:Array ϳ) (n sz p:Nat):Bool:=
 Fm ops n sz&&Kr ops n p&&Region.noSelect ops&&decide (p<n)&&decide (n<ops.size)&&E5 ops n&&Region.seqB .any ops (ops.size-n) n (Fo ops.size n)
theorem Z5 {id:Nat} {l:List ϳ} {a0:ú} {w:Λ} (n sz p:Nat) (hm:P.follows .mixedOrders=Ξ) (U:V7 l.toArray n sz p=Ξ) (aa:a0.tmps.size=sz) (hQ:∀ c a tm w,Q (.panic c) { tmps:=tm,defers:=a.defers } w->Q (.panic c) a w)
  (F:Nat->Ν->Λ->Prop) (Ne:Nat->Nat->Ν->Ν->Prop) (aj:∀ i j v u,Ne i j v u->Ne j i u v) (hF:∀ i v w w',F i v w->Ext w w'->F i v w')
  (op:ϳ) (al:l[p]? = Δ op) (an:∀ (a:ú) (w:Λ),(∀ j dj,M9 l.toArray n p j dj=Ξ->F j (a.tmps.getD dj ς) w)->∃ v,∀ W,(Ù a.eval op).run P W=.ok (.value v) W)
  (ao:∀ i,i<n->FOp P l.toArray Q n F Ne a0 w.drew i) (aq:∀ (vs:Nat->Ν) (w':Λ),Ext w.drew w'->(∀ i,i<n->F i (vs i) w')->(∀ i j,i<n->j<n->i≠j->Ne i j (vs i) (vs j))->wpList P l.toArray Q (l.drop n) (Bq l.toArray vs n a0) w'):(Code.region id l.toArray Ξ).wp P Q a0 w:=by
 simp only[V7,Ϝ,decide_eq_true_eq] at U;obtain⟨⟨⟨⟨⟨⟨hd,I⟩,ar⟩,hp⟩,hn⟩,hE⟩,ab⟩:=U;refine wp_region_any hm ?_;have ax:HeadInv .any l.toArray n (Array.replicate l.toArray.size Τ):=
  ⟨by simp,λj oj _ D=>(by rw[ϫ] at D;cases D),λt _ ht=>getD_in (by simpa using ht) (ϫ _ _)⟩
 have az:FInvR l.toArray n F Ne a0 w.drew (Array.replicate l.toArray.size Τ) a0 w.drew:=
  ⟨Θ _,rfl,rfl,λi o d _ _ _ D=>(by rw[ϫ] at D;cases D),λd _=>rfl,λi j _ _ _ _ _ _ _ _ _ _ _ D=>(by rw[ϫ] at D;cases D)⟩
 have hu:∀ m,unl m (Array.replicate l.toArray.size Τ)=m:=λm=>by
  induction m with
  | zero=>rfl
  | succ m ih=>rw[Fe,ih,ϫ];simp
 have H:=P4 (P:=P) (Q:=Q) (g:=(l.drop n).length) aj hF hp aa hd I ar hn hE hQ (λo listed a w ho ae G=>by
  obtain⟨_,o',a6,J⟩:=mem_ready.1 ae;have e1:o'=o:=ύ (a6.symm.trans ho);subst e1;have e2:op=o':=by
   have:l.toArray[p]? = Δ op:=by rw[<-al];simp
   exact ύ (this.symm.trans ho)
  subst e2;refine an a w λj dj h=>?_
  unfold M9 at h;simp only[Ϝ,decide_eq_true_eq] at h;obtain⟨⟨hj,E⟩,h2⟩:=h;cases M:l.toArray[j]? with
  | none=>rw[M] at E;cases E
  | some oj=>
   rw[M] at E;exact G.done j oj dj hj M (of_decide_eq_true E) (Ls h2 ae)) ao (λlisted a w' T J G=>by
  obtain⟨vs,rfl,hv,bb⟩:=Xg aa hd G J;have I:listed=Fo l.toArray.size n:=by
   apply Array.ext
   ·rw[T.size];simp[Fo]
   ·intro i E h2;have h3:(Fo l.toArray.size n)[i]=decide (i<n):=by simp[Fo]
    rw[h3];by_cases hi:i<n
    ·have:=J i hi;rw[ϡ,ϟ E] at this;simp only[ì] at this;rw[this];simp[hi]
    ·have:=T.tail i (by omega) (by rw[<-T.size];exact E);rw[ϡ,ϟ E] at this;simp only[ì] at this;rw[this];simp[hi]
  have bd:l.toArray.size-n=(l.drop n).length:=by simp
  rw[bd] at ab;exact wpAny_of_seq (l.drop n) n listed _ w' (λj=>by simp[List.getElem?_drop]) (by rw[I];exact ab) (aq vs w' G.ext hv bb)) n _ a0 w.drew ax az (hu n)
 have e:n+(l.drop n).length=l.toArray.size:=by
  have:n<l.length:=by simpa using hn
  simp;omega
 rw[e] at H;exact H
end
def CanT (a:Dfa) (A:Array Ν) (W:Λ):Prop:=∃ d,Cano d/\(∀ u,d.has u=a.has u)/\∀ W',Near W W'->IsT W' A (Ae d)
def PtrF (D:Nat) (v:Ν) (W:Λ):Prop:=∃ g,v=Ω (Δ ⟨g,0,Γ⟩)/\W.heap[g]? = Δ (Ε ξ 108 (0,0))/\D<=g
def Q9 (w0:Λ) (D:Nat) (va E:Array Ν) (a b:Dfa):Nat->Ν->Λ->Prop
 | 0,v,_=>v=.agg va
 | 1,v,_=>∃ A,v=.agg A/\IsT w0 A (Ae a)
 | 2,v,W=>∃ d,Cano d/\(∀ u,d.has u=a.has u)/\∀ W',Near W W'->IsD W' v d
 | 3,v,W=>∃ A,v=.agg A/\CanT a A W
 | 4,v,_=>v=.agg E
 | 5,v,_=>∃ A,v=.agg A/\IsT w0 A (Ae b)
 | 6,v,W=>∃ d,Cano d/\(∀ u,d.has u=b.has u)/\∀ W',Near W W'->IsD W' v d
 | 7,v,W=>∃ A,v=.agg A/\CanT b A W
 | _,v,W=>PtrF D v W
def Q8 (i j:Nat) (v u:Ν):Prop:=(i=8/\j=9\/i=9/\j=8)->v≠u
theorem Amm (i j:Nat) (v u:Ν) (h:Q8 i j v u):Q8 j i u v:=λD=>(h (by omega)).symm
theorem CanT.ext {a:Dfa} {A:Array Ν} {W W':Λ} (h:CanT a A W) (D:Ext W W'):CanT a A W':=by
 obtain⟨d,E,G,I⟩:=h;exact⟨d,E,G,λJ M=>I J (M.pre D)⟩
theorem PtrF.ext {D:Nat} {v:Ν} {W W':Λ} (h:PtrF D v W) (E:Ext W W'):PtrF D v W':=by
 obtain⟨g,G,I,J⟩:=h;exact⟨g,G,E.heap I,J⟩
theorem Amn (w0:Λ) (T:Nat) (va U:Array Ν) (a b:Dfa):∀ (i:Nat) (v:Ν) (w w':Λ),Q9 w0 T va U a b i v w->Ext w w'->Q9 w0 T va U a b i v w'
 | 0,_,_,_,h,_=>h
 | 1,_,_,_,h,_=>h
 | 2,_,_,_,⟨d,E,G,I⟩,D=>⟨d,E,G,λJ M=>I J (M.pre D)⟩
 | 3,_,_,_,⟨A,E,G⟩,D=>⟨A,E,G.ext D⟩
 | 4,_,_,_,h,_=>h
 | 5,_,_,_,h,_=>h
 | 6,_,_,_,⟨d,E,G,I⟩,D=>⟨d,E,G,λJ M=>I J (M.pre D)⟩
 | 7,_,_,_,⟨A,E,G⟩,D=>⟨A,E,G.ext D⟩
 | _+8,_,_,_,h,D=>PtrF.ext h D
def TabF (D:Bool) (L:List UInt8->Prop) (A:Array Ν) (W:Λ):Prop:=A.size=259/\A.all (·.oneCell')=Ξ/\
 (D=Ξ->∃ t,TVal t/\t.n.length<=4096/\(∀ u,t.has u=Ξ↔L u)/\∀ W',Near W W'->IsT W' A t)
theorem TabF.ext {D:Bool} {L:List UInt8->Prop} {A:Array Ν} {W W':Λ} (h:TabF D L A W) (E:Ext W W'):TabF D L A W':=by
 obtain⟨G,I,J⟩:=h;refine⟨G,I,λM=>?_⟩;obtain⟨t,t1,t2,t3,t4⟩:=J M;exact⟨t,t1,t2,t3,λT U=>t4 T (U.pre E)⟩
def Qs (E:Nat) (va:Array Ν) (G f1:Ν) (vs:Ν) (f2 f3:Ν) (D:Bool) (L:List UInt8->Prop):Nat->Ν->Λ->Prop
 | 0,v,_=>v=.agg va
 | 1,v,_=>v=G
 | 2,v,_=>v=f1
 | 3,v,_=>v=.agg #[.int ε 0,.int ε 0,.int π 0]
 | 4,v,_=>v=vs
 | 5,v,_=>v=f2
 | 6,v,_=>v=f3
 | 7,v,W=>∃ A,v=ϙ #[.agg A,.bool D]/\TabF D L A W
 | 8,v,W=>∃ A,v=ϙ #[.agg A,.bool D]/\TabF D L A W
 | 9,v,W=>∃ A,v=.agg A/\TabF D L A W
 | 10,v,_=>v=.bool D
 | _,v,W=>PtrF E v W
def Qr (_ _:Nat) (_ _:Ν):Prop:=True
theorem Ak0 (i j:Nat) (v u:Ν) (_:Qr i j v u):Qr j i u v:=trivial
theorem Ak1 (I:Nat) (va:Array Ν) (J f1:Ν) (vs:Ν) (f2 f3:Ν) (M:Bool) (L:List UInt8->Prop):∀ (i:Nat) (v:Ν) (w w':Λ),Qs I va J f1 vs f2 f3 M L i v w->Ext w w'->Qs I va J f1 vs f2 f3 M L i v w'
 | 0,_,_,_,h,_=>h
 | 1,_,_,_,h,_=>h
 | 2,_,_,_,h,_=>h
 | 3,_,_,_,h,_=>h
 | 4,_,_,_,h,_=>h
 | 5,_,_,_,h,_=>h
 | 6,_,_,_,h,_=>h
 | 7,_,_,_,⟨A,E,G⟩,D=>⟨A,E,G.ext D⟩
 | 8,_,_,_,⟨A,E,G⟩,D=>⟨A,E,G.ext D⟩
 | 9,_,_,_,⟨A,E,G⟩,D=>⟨A,E,G.ext D⟩
 | 10,_,_,_,h,_=>h
 | _+11,_,_,_,h,D=>PtrF.ext h D
theorem Am2:Ζ.built 116 []=Δ #[.int ε 0,.int ε 0,.int π 0]:=by kernel_rfl
theorem Q2 (a b:Dfa) (ha:Val a) (hb:Val b) (cy:a.n.length<=64) (cz:b.n.length<=64) (va vb:Ν) (w:Λ) (hT:Tab w) (a8:0<w.heap.size) (c1:IsD w va a) (c2:IsD w vb b) :
  ϓ Ζ 31 #[va,vb] w λe w'=>∃ r,ResOf w' e r/\E8 a b r/\Ext w w':=by
 have c3:=Α c1;have c4:=Α c2;have en:=Α ha;have eo:=Α hb;obtain⟨ac,lc,cc,an,cn,aa,la,ca,rfl⟩:=c1.agg;obtain⟨hq,hr,ht,hx,hy,hz,h0,h5,rfl⟩:=c2.agg;have c5:=λW (D:Ext w W)=>Α (Ef a ha cy _ W (c3.out.ext D))
 have c6:=λW (D:Ext w W)=>Α (Ef b hb cz _ W (c4.out.ext D))
 have ep:=λW (D:Ext w W)=>Α (J5 a ha _ w W D (hT.below D.below a8) (δ a8 D.size) c3.out)
 have er:=λW (D:Ext w W)=>Α (J5 b hb _ w W D (hT.below D.below a8) (δ a8 D.size) c4.out)
 have et:=Α (λW (D:Ext w W)=>hT.below D.below a8);obtain⟨Va,b9⟩:∃ X,dA (Β ac lc cc) (Β an a.n.length cn) (Β aa la ca)=X:=⟨_,rfl⟩;obtain⟨Vb,cb⟩:∃ X,dA (Β hq hr ht) (Β hx b.n.length hy) (Β hz h0 h5)=X:=⟨_,rfl⟩;have eu:(Ζ.info? 30).map (·.size)=Δ Va.size:=by rw[<-b9];exact Ad
 have ev:(Ζ.info? 30).map (·.size)=Δ Vb.size:=by rw[<-cb];exact Ad
 rw[b9] at c5 ep c3;rw[cb] at c6 er c4;rw[b9,cb];have cd:=(((Θ w).alloc (Ε Va 30)).alloc (Ε Vb 30)).alloc (Ε #[Β Γ 0 0,Β Γ 0 0,Β Γ 0 0] 30);have H3:=Ag (Ag (Aa w (Ε Va 30)) (Ε Vb 30)) (Ε #[Β Γ 0 0,Β Γ 0 0,Β Γ 0 0] 30);have H4:=Ag (Ϗ w (Ε Va 30) (Ε Vb 30)) (Ε #[Β Γ 0 0,Β Γ 0 0,Β Γ 0 0] 30);have H6:=Aa ((w.alloc (Ε Va 30)).alloc (Ε Vb 30)) (Ε #[Β Γ 0 0,Β Γ 0 0,Β Γ 0 0] 30);rw[Ρ,Ρ] at H6;clear c1 c2 ha hb hT b9 cb;go_enter Tryz.func31,Tryz.ntmps31;go_upto_region 1 with (fail)
 obtain⟨w1,cf⟩:∃ W,((w.alloc (Ε Va 30)).alloc (Ε Vb 30)).alloc (Ε #[Β Γ 0 0,Β Γ 0 0,Β Γ 0 0] 30)=W:=⟨_,rfl⟩;have ew:w.heap.size+1+1<w1.heap.size:=by rw[<-cf,Ρ,Ρ,Ρ];omega
 rw[cf] at cd H3 H4 H6;simp only[cf];clear cf;have cg:=Α H3;have bh:=Α H4;have ab:=Α H6;clear H3 H4 H6;go_upto_region 3 with (first
  | (refine Ο rfl 30 (η 2) rfl _ rfl _ _ _ _ cg.out Κ rfl eu ?_)
  | (refine El rfl (wp_load_row 30 (η 3) rfl _ rfl _ _ _ _ bh.out Κ rfl ev ?_))
  | (go_at_call 47;(with_reducible refine (c5 _ cd).out.mono ?_);rintro e w2 ⟨rfl,bj⟩;have c9:=cd.trans bj;have bh:=Α (bj.heap bh.out))
  | (go_at_call 47;(with_reducible refine (c6 _ c9).out.mono ?_);rintro e w3 ⟨rfl,bk⟩;have ay:=c9.trans bk))
 have cg:=Α ((bj.trans bk).heap cg.out);have bh:=Α (bk.heap bh.out);have ab:=Α ((bj.trans bk).heap ab.out);have jt:w.heap.size+1+1<w3.heap.size:=δ ew (bj.trans bk).size;clear c5 c6 cd bj c9 bk ew;refine Ic 10 57 (by kernel_rfl) (by kernel_rfl) rfl (Q9 w w3.heap.size Va Vb a b) Q8 Amm (Amn w w3.heap.size Va Vb a b) (λi hi=>?_) (λvs w4 ey J hN=>?_)
 ·have ad:=(Θ w3).drew
  match i,hi with
  | 0,_=>
   refine Ap _ _ rfl rfl rfl λc W D E G=>?_
   have M:=G 2 (by kernel_rfl);refine C4 (D2 30 (η 2) rfl w.heap.size M _ _ _ _ ((ad.trans D).heap cg.out) Κ rfl eu) ?_;exact⟨_,rfl,Θ W,rfl,λj u _ _ _ h=>by omega⟩
  | 4,_=>
   refine Ap _ _ rfl rfl rfl λc W D E G=>?_
   have M:=G 3 (by kernel_rfl);refine C4 (D2 30 (η 3) rfl (w.heap.size+1) M _ _ _ _ ((ad.trans D).heap bh.out) Κ rfl ev) ?_;exact⟨_,rfl,Θ W,rfl,λj u _ _ _ h=>by omega⟩
  | 1,_=>
   refine Ap _ _ rfl rfl rfl λc W D E G=>?_
   have ju:c.tmps.getD 23 ς=.agg Va:=E 0 23 (by kernel_rfl);go_simp
   (with_reducible refine (ep W (ay.trans (ad.trans D))).out.mono ?_)
   rintro e W' ⟨A,rfl,hA,T⟩;exact⟨_,rfl,T,⟨A,rfl,hA⟩,λj u _ _ _ h=>by omega⟩
  | 5,_=>
   refine Ap _ _ rfl rfl rfl λc W D E G=>?_
   have jv:c.tmps.getD 27 ς=.agg Vb:=E 4 27 (by kernel_rfl);go_simp
   (with_reducible refine (er W (ay.trans (ad.trans D))).out.mono ?_)
   rintro e W' ⟨A,rfl,hA,T⟩;exact⟨_,rfl,T,⟨A,rfl,hA⟩,λj u _ _ _ h=>by omega⟩
  | 2,_=>
   refine Ap _ _ rfl rfl rfl λc W D E G=>?_
   obtain⟨A,h8,bl⟩:∃ A,c.tmps.getD 24 ς=.agg A/\IsT w A (Ae a):=E 1 24 (by kernel_rfl);go_simp
   (with_reducible refine (Ra (Ae a) (Bj en.out) (ψ cy (by omega)) A W (bl.ext (ay.trans (ad.trans D)))).mono ?_)
   rintro e W' ⟨v,d,rfl,hD,h1,h2,T⟩;exact⟨_,rfl,T,⟨d,h1,λu=>by rw[h2,Dp],hD⟩,λj u _ _ _ h=>by omega⟩
  | 6,_=>
   refine Ap _ _ rfl rfl rfl λc W D E G=>?_
   obtain⟨A,h8,bl⟩:∃ A,c.tmps.getD 28 ς=.agg A/\IsT w A (Ae b):=E 5 28 (by kernel_rfl);go_simp
   (with_reducible refine (Ra (Ae b) (Bj eo.out) (ψ cz (by omega)) A W (bl.ext (ay.trans (ad.trans D)))).mono ?_)
   rintro e W' ⟨v,d,rfl,hD,h1,h2,T⟩;exact⟨_,rfl,T,⟨d,h1,λu=>by rw[h2,Dp],hD⟩,λj u _ _ _ h=>by omega⟩
  | 3,_=>
   refine Ap _ _ rfl rfl rfl λc W D E G=>?_
   obtain⟨d,h1,h2,M⟩:∃ d,Cano d/\(∀ u,d.has u=a.has u)/\∀ W',Near W W'->IsD W' (c.tmps.getD 25 ς) d:=E 2 25 (by kernel_rfl);obtain⟨v,hv⟩:∃ v,c.tmps.getD 25 ς=v:=⟨_,rfl⟩;rw[hv] at M;have bt:=ay.trans (ad.trans D);go_simp
   (with_reducible refine (Oc d h1.val v W (et.out W bt) (δ a8 bt.size) (M W (Near.of_ext (Θ W)))).mono ?_)
   rintro e W' ⟨A,rfl,hA,T⟩;exact⟨_,rfl,T,⟨A,rfl,d,h1,h2,λW2 hN=>hA W2 (M W2 (hN.pre T))⟩,λj u _ _ _ h=>by omega⟩
  | 7,_=>
   refine Ap _ _ rfl rfl rfl λc W D E G=>?_
   obtain⟨d,h1,h2,M⟩:∃ d,Cano d/\(∀ u,d.has u=b.has u)/\∀ W',Near W W'->IsD W' (c.tmps.getD 29 ς) d:=E 6 29 (by kernel_rfl);obtain⟨v,hv⟩:∃ v,c.tmps.getD 29 ς=v:=⟨_,rfl⟩;rw[hv] at M;have bt:=ay.trans (ad.trans D);go_simp
   (with_reducible refine (Oc d h1.val v W (et.out W bt) (δ a8 bt.size) (M W (Near.of_ext (Θ W)))).mono ?_)
   rintro e W' ⟨A,rfl,hA,T⟩;exact⟨_,rfl,T,⟨A,rfl,d,h1,h2,λW2 hN=>hA W2 (M W2 (hN.pre T))⟩,λj u _ _ _ h=>by omega⟩
  | 8,_=>
   refine Ap _ _ rfl rfl rfl λc W D E G=>?_
   go_simp;refine⟨_,rfl,(Θ W).alloc _,⟨_,rfl,Aa W _,(ad.trans D).size⟩,λj u _ _ hu h=>?_⟩;obtain rfl:j=9:=by omega
   obtain⟨g',rfl,dc,-⟩:=hu;intro e;have:W.heap.size=g':=by simpa using e
   have:=An dc;omega
  | 9,_=>
   refine Ap _ _ rfl rfl rfl λc W D E G=>?_
   go_simp;refine⟨_,rfl,(Θ W).alloc _,⟨_,rfl,Aa W _,(ad.trans D).size⟩,λj u _ _ hu h=>?_⟩;obtain rfl:j=8:=by omega
   obtain⟨g',rfl,dc,-⟩:=hu;intro e;have:W.heap.size=g':=by simpa using e
   have:=An dc;omega
 ·obtain⟨A1,ez,h9⟩:=J 1 (by omega);obtain⟨A,hA,x,dd,e0,bm⟩:=J 3 (by omega);obtain⟨B1,e3,ia⟩:=J 5 (by omega);obtain⟨B,hB,y,de,e5,bn⟩:=J 7 (by omega);obtain⟨U,h6,H6,ib⟩:PtrF _ _ _:=J 8 (by omega);obtain⟨g7,h7,H7,ic⟩:PtrF _ _ _:=J 9 (by omega);have e7:U≠g7:=λe=>hN 8 9 (by omega) (by omega) (by omega) (by omega) (by rw[h6,h7,e])
  have e8:=(Θ w3).drew.trans ey;have bw:vs 0=.agg Va:=J 0 (by omega);have bx:vs 4=.agg Vb:=J 4 (by omega);obtain⟨v2,e9⟩:∃ v,vs 2=v:=⟨_,rfl⟩;obtain⟨v6,fa⟩:∃ v,vs 6=v:=⟨_,rfl⟩;simp only[Bq,ó,List.drop_zero,hA,hB,ez,e3,h6,h7,bw,bx,e9,fa,Ü,ä,È,Option.bind_some,Ϛ,Ι,Χ,Ψ];clear J hN hA hB h6 h7 bw bx ez e3 e9 fa h9 ia;obtain⟨_,_,_,_,_,_,dh,fb,_⟩:=(bm w4 (Near.of_ext (Θ w4))).opened (Bj dd.val);obtain⟨_,_,_,_,_,_,dk,fc,_⟩:=(bn w4 (Near.of_ext (Θ w4))).opened (Bj de.val);have fe:(Ζ.info? 108).map (·.size)=Δ A.size:=by rw[dh];exact Cc
  have hiB:(Ζ.info? 108).map (·.size)=Δ B.size:=by rw[dk];exact Cc
  have ff:ξ.size=A.size:=by rw[Da,dh]
  have fg:ξ.size=B.size:=by rw[Da,dk]
  have ch:=B7 H7 (Ne.symm e7) A;have cj:=((e8.setRow ib A).setRow ic B);have G6:=B7 (μ w4 U _ A _ _ H6) e7 B;have G7:=μ (w4.setRow U A) g7 _ B _ _ ch;have ba:Near w4 ((w4.setRow U A).setRow g7 B):=((Near.of_ext (Θ w4)).setRow H6 Ny A).setRow ch Ny B;have bm:=bm _ ba;have bn:=bn _ ba;clear dh dk ba;go_upto_region 4 with (first
   | (refine Φ rfl 108 (η 6) (η 26) rfl _ _ rfl rfl _ _ H6 fe ff fb ?_)
   | (refine Φ rfl 108 (η 7) (η 30) rfl _ _ rfl rfl _ _ ch hiB fg fc ?_))
  obtain⟨w5,dp⟩:∃ W,(w4.setRow U A).setRow g7 B=W:=⟨_,rfl⟩;rw[dp] at cj G6 G7 bm bn;simp only[dp];clear dp e8 H6 H7 ch ff fg ey fb fc;have bz:=ay.trans cj;have ab:=Α (cj.heap ab.out);have bp:=Α dd;have b0:=Α de;have ck:=Α e0;have cl:=Α e5;have bb:=Α bm;have bc:=Α bn;have bd:=Α G6;have be:=Α G7;have hJ:=Α (P8 (Ae x) (Ae y) (Bj bp.out.val) (Bj b0.out.val) A B w5 bb.out bc.out);have fj:∀ c,ώ.size=(Ar c).size:=λc=>by rw[F9,C3,C3]
  have fk:∀ c,(Ζ.info? 77).map (·.size)=Δ (Ar c).size:=λc=>by rw[C3];exact Fj
  clear bm bn G6 G7 dd de e0 e5 ay cj;go_upto_region 5 with (first
   | (refine Ο rfl 108 (η 6) rfl _ rfl _ _ _ _ bd.out Ϫ rfl fe ?_)
   | (refine Ο rfl 108 (η 7) rfl _ rfl _ _ _ _ be.out Ϫ rfl hiB ?_)
   | (go_at_call 70;(with_reducible refine hJ.out.mono ?_);rintro e w6 ⟨c,bs,vj,rfl,fl,fm,bf⟩;have dq:=fj c;have dr:=fk c;have dt:=Ht c;obtain⟨A9,cm⟩:∃ X,Ar c=X:=⟨_,rfl⟩;rw[cm] at dq dr dt;rw[cm])
   | (refine Φ rfl 77 (η 8) (η 35) rfl _ _ rfl rfl _ _ (Aa w6 (Ε ώ 77)) dr dq dt ?_))
  have ah:=bf.trans (((Θ w6).alloc (Ε ώ 77)).setRow (ν _) A9);have H8:=μ (w6.alloc (Ε ώ 77)) w6.heap.size _ A9 _ _ (Aa w6 _);have dv:=fm.ext (((Θ w6).alloc (Ε ώ 77)).setRow (ν _) A9);obtain⟨w7,dw⟩:∃ W,(w6.alloc (Ε ώ 77)).setRow w6.heap.size A9=W:=⟨_,rfl⟩;rw[dw] at ah H8 dv;simp only[dw];clear dw bf fm fj fk hJ dq dt;have bd:=Α (ah.heap bd.out);have be:=Α (ah.heap be.out);have ab:=Α (ah.heap ab.out);have bb:=Α (bb.out.ext ah);have bc:=Α (bc.out.ext ah);have fo:=bz.trans ah;have dx:=Α H8;have b5:=Α fl;have ig:=Α cm;clear H8 fl cm bz ah;generalize w6.heap.size=g8 at *;have ij:=(γ (w7.alloc (Ε #[.nilFunc] 117)) w7.heap.size 0 _ _ _ (Aa w7 (Ε #[.nilFunc] 117))).trans (show (#[Ν.nilFunc]:Array Ν)[0]? = Δ .nilFunc from rfl);have ik:=Ϸ (w7.alloc (Ε #[.nilFunc] 117)) w7.heap.size 0 _ _ (Aa w7 (Ε #[.nilFunc] 117));go_upto_region 7 with (fail)
  have aq:=(Θ w7).alloc (Ε #[.func (.func 71) #[] #[Ω (Δ ⟨U,0,Γ⟩)]] 117);have dy:=Aa w7 (Ε #[.func (.func 71) #[] #[Ω (Δ ⟨U,0,Γ⟩)]] 117);obtain⟨w8,ea⟩:∃ W,w7.alloc (Ε #[.func (.func 71) #[] #[Ω (Δ ⟨U,0,Γ⟩)]] 117)=W:=⟨_,rfl⟩;rw[ea] at aq dy;simp only[ea];clear ea ij ik;generalize w7.heap.size=bg at *;have il:=Α (fo.trans aq);have bd:=Α (aq.heap bd.out);have be:=Α (aq.heap be.out);have dx:=Α (aq.heap dx.out);have ab:=Α (aq.heap ab.out);have bb:=Α (bb.out.ext aq);have bc:=Α (bc.out.ext aq);have im:=Α (dv.ext aq);have fp:=Α dy;clear dy dv fo aq;have iq:0<bs.length:=by have:=b5.out.lt 0 (by omega);omega
  have ir:bs.length<=256:=by
   have:=Is c 256 bs.length (λj hj=>⟨bs.getD j 0,(b5.out.byte j hj).1,(b5.out.byte j hj).2⟩);exact this
  have j0:(Ae x).n.length<=64:=ψ (K8 bp.out en.out ck.out) cy;have eb:(Ae y).n.length<=64:=ψ (K8 b0.out eo.out cl.out) cz;have fs:0<(Ae x).n.length:=(Bj bp.out.val).pos;have cp:=Α (Bj bp.out.val);have cq:=Α (Bj b0.out.val);obtain⟨I,ft⟩:∃ I:Bool,I=Ξ↔¬ B8 (cnx (Ae x) (Ae y)) (cst (Ae x)) 4096:=by
   by_cases hM:B8 (cnx (Ae x) (Ae y)) (cst (Ae x)) 4096
   ·exact⟨Τ,by simp[hM]⟩
   ·exact⟨Ξ,by simp[hM]⟩
  have ct:=Α ft;clear ft;obtain⟨Lc,ec⟩:∃ L,Cat (λu=>(Ae x).has u=Ξ) (λv=>(Ae y).has v=Ξ)=L:=⟨_,rfl⟩;have hX:=λW (D:Ext w8 W)=>Α (ϓ.mono (Qq c bs iq ir (λk hk=>(b5.out.byte k hk).1) (cSt (Ae x)) (cNx (Ae x) (Ae y)) (cAc (Ae y)) (K9 (Ae x))
   (λs hs=>⟨by have:=hs.1;omega,by have:=hs.2.1;omega,hs.2.2⟩) ⟨fs,rfl,Yr _ _ (by show 0<_;omega)⟩
   (λs hs k hk=>Amq cp.out cq.out eb s hs k hk) 4096 (by omega) (by omega) 72 75 _ _ (enters_of Tryz.func72 (by kernel_rfl) rfl) (enters_of Tryz.func75 (by kernel_rfl) rfl) vj W (im.out.ext D)
   (Al4 (Ae x) (Ae y) cp.out cq.out eb A B U g7 bg W (bb.out.ext D) (bc.out.ext D) (D.heap bd.out) (D.heap be.out) (D.heap fp.out))
   (Ale (Ae x) (Ae y) cq.out eb B g7 W (bc.out.ext D) (D.heap be.out)))
   (R':=λe w'=>∃ A,e=θ (ϙ #[.agg A,.bool I])/\TabF I Lc A w'/\Ext W w') λe w' ⟨T,h⟩=>by
    rcases h with⟨A,l,t,he,hT,iu,hl,_,ix⟩|⟨hM,he⟩
    ·obtain⟨h1,h2,M,h4⟩:=Aml cp.out cq.out b5.out iu hl;obtain⟨_,_,_,_,_,_,b6,ef,_⟩:=hT.opened h1;obtain rfl:I=Ξ:=ct.out.2 M;exact⟨A,he,⟨b6,ef,λ_=>⟨t,h1,h2,λu=>by rw[h4,ec],ix⟩⟩,T⟩
    ·have iz:=Vv hM stP (λs b=>Yq _ _ s b) (λw w' e=>Lw (Nj _ _ w) (Nj _ _ w') e);have ja:I=Τ:=by
      cases I
      ·rfl
      ·exact absurd iz (ct.out.1 rfl)
     subst ja;exact⟨ξ,he,⟨Da,Ru,λh=>by cases h⟩,T⟩)
  rw[ig.out] at hX;have f71:∀ W,Ext w8 W->Hid (ϓ Ζ 71 #[.agg #[.int ε 0,.int ε 0,.int π 0],Ω (Δ ⟨U,0,Γ⟩)] W λe w'=>e=θ (stV (cSt (Ae x)))/\Ext W w'):=λW D=>
   Α (Yd (Ae x) cp.out A U w8 bb.out bd.out W D 0 0 fs (by omega))
  have jb:=Α ec;clear ec;have fu:(Ζ.info? 77).map (·.size)=Δ A9.size:=dr;refine Z5 12 57 10 (by kernel_rfl) (by kernel_rfl) rfl (λ_ _ _ _ h=>h) (Qs w8.heap.size A9 vj (.func (.func 71) #[] #[Ω (Δ ⟨U,0,Γ⟩)]) (stV (cSt (Ae x)))
   (.func (.func 72) #[] #[Ω (Δ ⟨bg,0,Γ⟩),Ω (Δ ⟨U,0,Γ⟩),Ω (Δ ⟨g7,0,Γ⟩)]) (.func (.func 75) #[] #[Ω (Δ ⟨g7,0,Γ⟩)]) I Lc) Qr Ak0 (Ak1 _ _ _ _ _ _ _ _ _) _ rfl (λc W E=>?_) (λi hi=>?_) (λvs w9 bz J hN=>?_)
  ·obtain⟨AX,jc,-⟩:∃ A,c.tmps.getD 39 ς=ϙ #[.agg A,.bool I]/\TabF I Lc A W:=E 8 39 (by kernel_rfl);exact⟨.bool I,λW=>by
    simp only[Ù,ú.eval,jc];rfl⟩
  ·have ad:=(Θ w8).drew
   match i,hi with
   | 0,_=>
    refine Ap _ _ rfl rfl rfl λc W D E G=>?_
    have M:=G 8 (by kernel_rfl);refine C4 (D2 77 (η 8) rfl g8 M _ _ _ _ ((ad.trans D).heap dx.out) Tryz.underlying77 rfl fu) ?_;exact⟨_,rfl,Θ W,rfl,λ_ _ _ _ _=>trivial⟩
   | 1,_=>
    refine Ap _ _ rfl rfl rfl λc W D E G=>?_
    have M:c.tmps.getD 9 ς=vj:=G 9 (by kernel_rfl);go_simp;exact⟨_,rfl,Θ W,rfl,λ_ _ _ _ _=>trivial⟩
   | 2,_=>
    refine Ap _ _ rfl rfl rfl λc W D E G=>?_
    have M:c.tmps.getD 10 ς=Ω (Δ ⟨bg,0,Γ⟩):=G 10 (by kernel_rfl);have j2:=(γ W bg 0 _ _ _ ((ad.trans D).heap fp.out)).trans (show (#[Ν.func (.func 71) #[] #[Ω (Δ ⟨U,0,Γ⟩)]]:Array Ν)[0]? = Δ (.func (.func 71) #[] #[Ω (Δ ⟨U,0,Γ⟩)]) from rfl);go_simp;exact⟨_,rfl,Θ W,rfl,λ_ _ _ _ _=>trivial⟩
   | 3,_=>
    refine Ap _ _ rfl rfl rfl λc W D E G=>?_
    refine C4 (Hm 116 _ rfl (by simpa [ú.eval] using Am2) W) ?_;exact⟨_,rfl,Θ W,rfl,λ_ _ _ _ _=>trivial⟩
   | 4,_=>
    refine Ap _ _ rfl rfl rfl λc W D E G=>?_
    have j3:c.tmps.getD 42 ς=.func (.func 71) #[] #[Ω (Δ ⟨U,0,Γ⟩)]:=E 2 42 (by kernel_rfl);have j4:c.tmps.getD 43 ς=.agg #[.int ε 0,.int ε 0,.int π 0]:=E 3 43 (by kernel_rfl);have j5:=enters_of Tryz.func71 (by kernel_rfl) rfl;go_simp
    (with_reducible refine (f71 W (ad.trans D)).out.mono ?_)
    rintro e W' ⟨rfl,T⟩;exact⟨_,rfl,T,rfl,λ_ _ _ _ _=>trivial⟩
   | 5,_=>
    refine Ap _ _ rfl rfl rfl λc W D E G=>?_
    have M:=G 11 (by kernel_rfl);replace M:c.tmps.getD 11 ς=.func (.func 72) #[] #[Ω (Δ ⟨bg,0,Γ⟩),Ω (Δ ⟨U,0,Γ⟩),Ω (Δ ⟨g7,0,Γ⟩)]:=M;go_simp;exact⟨_,rfl,Θ W,rfl,λ_ _ _ _ _=>trivial⟩
   | 6,_=>
    refine Ap _ _ rfl rfl rfl λc W D E G=>?_
    have M:c.tmps.getD 7 ς=Ω (Δ ⟨g7,0,Γ⟩):=G 7 (by kernel_rfl);go_simp;exact⟨_,rfl,Θ W,rfl,λ_ _ _ _ _=>trivial⟩
   | 7,_=>
    refine Ap _ _ rfl rfl rfl λc W D E G=>?_
    have j6:c.tmps.getD 40 ς=.agg A9:=E 0 40 (by kernel_rfl);have j7:c.tmps.getD 41 ς=vj:=E 1 41 (by kernel_rfl);have j8:c.tmps.getD 44 ς=stV (cSt (Ae x)):=E 4 44 (by kernel_rfl);have j9:c.tmps.getD 45 ς=.func (.func 72) #[] #[Ω (Δ ⟨bg,0,Γ⟩),Ω (Δ ⟨U,0,Γ⟩),Ω (Δ ⟨g7,0,Γ⟩)]:=E 5 45 (by kernel_rfl);have ka:c.tmps.getD 46 ς=.func (.func 75) #[] #[Ω (Δ ⟨g7,0,Γ⟩)]:=E 6 46 (by kernel_rfl);go_simp;refine (hX W (ad.trans D)).out.mono ?_;rintro e W' ⟨A',rfl,hT,T⟩;exact⟨_,rfl,T,⟨A',rfl,hT⟩,λ_ _ _ _ _=>trivial⟩
   | 8,_=>
    refine Ap _ _ rfl rfl rfl λc W D E G=>?_
    obtain⟨AX,fv,hT⟩:∃ A,c.tmps.getD 47 ς=ϙ #[.agg A,.bool I]/\TabF I Lc A W:=E 7 47 (by kernel_rfl);go_simp;exact⟨_,rfl,Θ W,⟨AX,rfl,hT⟩,λ_ _ _ _ _=>trivial⟩
   | 9,_=>
    refine Ap _ _ rfl rfl rfl λc W D E G=>?_
    obtain⟨AX,fv,hT⟩:∃ A,c.tmps.getD 39 ς=ϙ #[.agg A,.bool I]/\TabF I Lc A W:=E 8 39 (by kernel_rfl);go_simp;exact⟨_,rfl,Θ W,⟨AX,rfl,hT⟩,λ_ _ _ _ _=>trivial⟩
   | 10,_=>
    refine Ap _ _ rfl rfl rfl λc W D E G=>?_
    obtain⟨AX,fv,hT⟩:∃ A,c.tmps.getD 39 ς=ϙ #[.agg A,.bool I]/\TabF I Lc A W:=E 8 39 (by kernel_rfl);go_simp;exact⟨_,rfl,Θ W,rfl,λ_ _ _ _ _=>trivial⟩
   | 11,_=>
    refine Ap _ _ rfl rfl rfl λc W D E G=>?_
    go_simp;exact⟨_,rfl,(Θ W).alloc _,⟨_,rfl,Aa W _,(ad.trans D).size⟩,λ_ _ _ _ _=>trivial⟩
  ·have bw:vs 0=.agg A9:=J 0 (by omega);have fw:vs 1=vj:=J 1 (by omega);have cu:=J 2 (by omega);have fx:vs 3=.agg #[.int ε 0,.int ε 0,.int π 0]:=J 3 (by omega);have bx:vs 4=stV (cSt (Ae x)):=J 4 (by omega);have cv:=J 5 (by omega);have cw:=J 6 (by omega);replace cu:vs 2=.func (.func 71) #[] #[Ω (Δ ⟨U,0,Γ⟩)]:=cu;replace cv:vs 5=.func (.func 72) #[] #[Ω (Δ ⟨bg,0,Γ⟩),Ω (Δ ⟨U,0,Γ⟩),Ω (Δ ⟨g7,0,Γ⟩)]:=cv;replace cw:vs 6=.func (.func 75) #[] #[Ω (Δ ⟨g7,0,Γ⟩)]:=cw;obtain⟨A7,fy,-⟩:∃ A,vs 7=ϙ #[.agg A,.bool I]/\TabF I Lc A w9:=J 7 (by omega);obtain⟨A8,fz,-⟩:∃ A,vs 8=ϙ #[.agg A,.bool I]/\TabF I Lc A w9:=J 8 (by omega);obtain⟨AT,ga,b6,ef,gb⟩:∃ A,vs 9=.agg A/\TabF I Lc A w9:=J 9 (by omega);have gd:vs 10=.bool I:=J 10 (by omega);obtain⟨eg,gf,cx,je⟩:PtrF _ _ _:=J 11 (by omega);simp only[Bq,ó,List.drop_zero,bw,fw,cu,fx,bx,cv,cw,fy,fz,ga,gd,gf,Ü,ä,È,Option.bind_some,Ϛ,Ι,Χ,Ψ];clear J hN bw fw cu fx bx cv cw fy fz ga gd gf;have gg:(Ζ.info? 108).map (·.size)=Δ AT.size:=by rw[b6];exact Cc
   have jf:ξ.size=AT.size:=by rw[Da,b6]
   have bf:=((Θ w8).drew.trans bz).setRow je AT;have eh:=μ w9 eg _ AT _ _ cx;have ba:Near w9 (w9.setRow eg AT):=(Near.of_ext (Θ w9)).setRow cx Ny AT;clear b6;go_upto_region 8 with (refine Φ rfl 108 (η 12) (η 48) rfl _ _ rfl rfl _ _ cx gg jf ef ?_)
   obtain⟨gh,ei⟩:∃ W,w9.setRow eg AT=W:=⟨_,rfl⟩;rw[ei] at bf eh ba;simp only[ei];clear ei bz cx;have jg:=Α eh;have ab:=Α (bf.heap ab.out);have gi:=Α (il.out.trans bf);clear bf eh hX f71 fu;cases I
   ·have jh:=Α Dn;go_wp2_with (first
     | (refine Bw rfl 30 _ rfl #[Β Γ 0 0,Β Γ 0 0,Β Γ 0 0] ?_ ?_;(simp;with_reducible exact jh.out))
     | (refine Φ rfl 30 (η 4) (η 52) rfl _ _ rfl rfl _ _ ab.out Ad rfl C8 ?_))
    refine ω (v:=ϙ #[zD,.int ε 2]) (A3 rfl _ _ _ _ _ _ _ rfl _ rfl (μ gh _ _ #[Β Γ 0 0,Β Γ 0 0,Β Γ 0 0] 30 (0,0) ab.out) Κ rfl Ad) rfl ?_;exact⟨Γ,rfl,⟨x,y,bp.out,b0.out,ck.out,cl.out,λ_=>rfl,λh=>absurd (ct.out.2 h) (by simp)⟩,gi.out.setRow (by omega) _⟩
   ·obtain⟨t,gj,ji,gk,bl⟩:=gb rfl;have hL:=Α (Pt t gj (show t.n.length<=65536 by omega) AT gh (bl _ ba));have jk:=Α gk;have jl:=Α (ct.out.1 rfl);clear bl gj ji gk ba gb;go_wp2_with (first
     | (refine Ο rfl 108 (η 12) rfl _ rfl _ _ _ _ jg.out Ϫ rfl gg ?_)
     | (go_at_call 77;(with_reducible refine hL.out.mono ?_);rintro e jm ⟨r,ej,gl,ah⟩;obtain⟨gm,gn,gp,gq,gr,gu,gv,gw,gx,k2,rfl⟩:=ej.form;have jo:=Α ej;have gy:=Α gl;clear ej gl;have ab:=Α (ah.heap ab.out))
     | (refine Φ rfl 30 (η 4) (η 55) rfl _ _ rfl rfl _ _ ab.out Ad rfl (Aq _ _ _ rfl rfl rfl) ?_))
    refine ω (v:=ϙ #[.agg (dA (Β gm gn gp) (Β gq gr gu) (Β gv gw gx)),.int ε k2]) (A3 rfl _ _ _ _ _ _ _ rfl _ rfl (μ jm _ _ (dA (Β gm gn gp) (Β gq gr gu) (Β gv gw gx)) 30 (0,0) ab.out) Κ rfl Ad) rfl ?_;refine⟨r,jo.out.setRow (Hg gy.out) ab.out _,⟨x,y,bp.out,b0.out,ck.out,cl.out,λh=>absurd h jl.out,λ_=>Iz gy.out λu=>?_⟩,(gi.out.trans ah).setRow (by omega) _⟩;rw[jk.out,<-jb.out];have e1:(λu=>(Ae x).has u=Ξ)=λu=>a.has u=Ξ:=funext λu=>by rw[Dp,ck.out]
    have e2:(λu=>(Ae y).has u=Ξ)=λu=>b.has u=Ξ:=funext λu=>by rw[Dp,cl.out]
    rw[e1,e2]
def Ca (L:List UInt8->Bool):Nat->List (List UInt8)
 | 0=>[]
 | n+1=>Ca L n++Bo L n
def Bx (L:List UInt8->Bool):Nat->Nat
 | 0=>0
 | n+1=>Bx L n+Ba L n
theorem Iy (L:List UInt8->Bool):∀ n,(Ca L n).length=Bx L n
 | 0=>rfl
 | n+1=>by simp only[Ca,Bx,List.length_append,Iy L n,Ba]
theorem Vx (L:List UInt8->Bool) (w:List UInt8):∀ n,w∈Ca L n↔w.length<n/\L w=Ξ
 | 0=>by simp[Ca]
 | n+1=>by
  simp only[Ca,Ó,Vx L w n,Ga];constructor
  ·rintro (⟨E,D⟩|⟨E,D⟩)
   ·exact⟨by omega,D⟩
   ·exact⟨by omega,D⟩
  ·rintro⟨E,D⟩;by_cases h:w.length=n
   ·exact .inr ⟨h,D⟩
   ·exact .inl ⟨by omega,D⟩
def Dm (L:List UInt8->Bool) (n k:Nat):List (List UInt8):=(ι k).flatMap λb=>(Bo (λw=>L (χ b::w)) n).map (χ b::·)
theorem I8 (L:List UInt8->Bool) (n k:Nat):Dm L n (k+1)=Dm L n k++(Bo (λw=>L (χ k::w)) n).map (χ k::·):=by
 simp[Dm,List.range_succ,List.flatMap_append]
theorem W6 (L:List UInt8->Bool) (n:Nat):Dm L n 256=Bo L (n+1):=rfl
theorem Aad {L:List UInt8->Bool} {n:Nat} (h:Ba L n=0):Bo L n=[]:=List.eq_nil_of_length_eq_zero h
theorem Nc (L:List UInt8->Bool) {a b:Nat} (h:a<=b):Bx L a<=Bx L b:=by
 induction h with
 | refl=>exact ν _
 | step _ D=>exact ψ D (Nat.le_add_right _ _)
end Go.Proofs.YtaiogolidlamiaaGreatDoor
