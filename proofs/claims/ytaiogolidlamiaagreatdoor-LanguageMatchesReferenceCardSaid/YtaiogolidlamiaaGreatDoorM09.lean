import Derived.Deep.MidRow
import Derived.Test.YtaiogolidlamiaaGreatDoorM08
import Derived.Test.YtaiogolidlamiaaGreatDoorM07
import Derived.Laws.EntriesVeiled
import Derived.Test.YtaiogolidlamiaaGreatDoorM05
set_option linter.unusedVariables false
set_option linter.unusedSimpArgs false
open Array renaming getD_eq_getD_getElem? → ϣ, getElem?_eq_getElem → Ϡ, getElem?_eq_some_iff → ϒ
open Bool renaming true → Ξ, false → Τ, and_eq_true → ϝ, or_eq_true → Æ
open Classical renaming byContradiction → ϩ
open Go renaming Value → Ρ, World → Κ, Calls → Ϝ, heap_alloc2_new → Ϙ, cell_of_row → Ω, wpList_load_row → Υ, wpList_store_row → Φ, setRow_heap → μ, frozen_of_row → Ϯ, Act → õ, bodyPost_ret → ϋ, results_cell_row → ϵ, setCell_eq_setRow → Ϥ, Oper → ϸ, execOp → Ú, undef → ς, getD_replicate_false → ϭ
open Go.Act renaming put → Ϛ
open Go.Ending renaming returned → ν
open Go.IntKind renaming i64 → ζ, u64 → π, u64 → ϴ
open Go.Lib renaming hid → Α
open Go.Obj renaming cells → Ε
open Go.Operand renaming tmp → η
open Go.Proofs.Tryz renaming prog → Η, underlying108 → Ϭ, underlying116 → Ë, zeroCells108 → ξ, underlying30 → Ν, zeroCells77 → ώ
open Go.Region renaming waitsFor → ó, ready → Ê
open Go.Value renaming pointer → γ, oneCell' → ϊ, slice → Β, tuple → ϥ
open Go.World renaming size_alloc → Λ
open List renaming nodup_iff_pairwise_ne → Ϧ, length_map → Ϗ, getElem?_map → Ϟ, mem_map → À, mem_append → Ó, setIfInBounds_toArray → Θ, set_cons_zero → Χ, set_cons_succ → Ψ, range → ι, all_eq_true → Ù, mem_range → υ, drop_succ_cons → ò, getElem?_toArray → Ü, getElem?_cons_zero → Ö, getElem?_cons_succ → É
open List.Pairwise renaming imp_of_mem → æ
open Nat renaming le_refl → θ, lt_of_lt_of_le → ε, le_trans → ψ
open Option renaming some → Δ, none → Γ, getD_some → à
open Option.some renaming inj → ω
open UInt8 renaming ofNat → χ
namespace Go.Proofs.YtaiogolidlamiaaGreatDoor
set_option maxRecDepth 100000
set_option maxHeartbeats 2000000
open Go.RowKit Go.Shelf
theorem Y5 {σ τ:Type} {nx:σ->Nat->σ} {D:τ->Nat->τ} (φ:σ->τ) (h:∀ s b,φ (nx s b)=D (φ s) b) (w:List UInt8):∀ s,φ (Aw nx s w)=Aw D (φ s) w:=by
 induction w with
 | nil=>exact λs=>rfl
 | cons x w E=>
  intro s;show φ (Aw nx (nx s x.toNat) w)=Aw D (D (φ s) x.toNat) w;rw[E,h]
theorem U5 {σ τ:Type} {nx:σ->Nat->σ} {st:σ} (φ:σ->τ) (hi:∀ w w',φ (Aw nx st w)=φ (Aw nx st w')->Aw nx st w=Aw nx st w') (l:List σ) (E:l.Nodup) (D:∀ s,s∈l->∃ w,Aw nx st w=s):(l.map φ).Nodup:=by
 rw[Ϧ,List.pairwise_map];refine æ (λ{a b} ha G H e=>H ?_) (Ϧ.1 E);obtain⟨w,rfl⟩:=D a ha;obtain⟨w',rfl⟩:=D b G;exact hi w w' e
theorem Expl.conv {σ τ:Type} {c:Nat->Nat} {bs:List Nat} {st:σ} {nx:σ->Nat->σ} {ac:σ->Bool} {l:List σ} {t:Tbl} (h:Expl c bs st nx ac l t) (φ:σ->τ) {E:τ->Nat->τ} {G:τ->Bool} (hn:∀ s b,φ (nx s b)=E (φ s) b) (ha:∀ s,ac s=G (φ s))
  (hi:∀ w w',φ (Aw nx st w)=φ (Aw nx st w')->Aw nx st w=Aw nx st w'):Expl c bs (φ st) E G (l.map φ) t where
 cell:=h.cell
 cells:=h.cells
 len:=by rw[Ϗ];exact h.len
 acl:=by rw[Ϗ];exact h.acl
 pos:=by rw[Ϗ];exact h.pos
 nodup:=U5 φ hi l h.nodup λs hs=>by
  obtain⟨i,hi⟩:=List.getElem?_of_mem hs;exact h.reach i s hi
 zero:=by rw[Ϟ,h.zero];rfl
 row:=λi H=>h.row i (by simpa using H)
 tgt:=λi s hs k I=>by
  rw[Ϟ] at hs;obtain⟨x,D,rfl⟩:=Option.map_eq_some_iff.1 hs;obtain⟨J,M⟩:=h.tgt i x D k I;exact⟨by simpa using J,by rw[Ϟ,M,<-hn];rfl⟩
 acc:=λi s hs=>by
  rw[Ϟ] at hs;obtain⟨x,D,rfl⟩:=Option.map_eq_some_iff.1 hs;rw[h.acc i x D,ha]
 reach:=λi s hs=>by
  rw[Ϟ] at hs;obtain⟨x,D,rfl⟩:=Option.map_eq_some_iff.1 hs;obtain⟨w,rfl⟩:=h.reach i x D;exact⟨w,(Y5 φ hn w st).symm⟩
theorem Vk {σ τ:Type} {st:σ} {nx:σ->Nat->σ} {m:Nat} (h:B9 nx st m) (φ:σ->τ) {D:τ->Nat->τ} (hn:∀ s b,φ (nx s b)=D (φ s) b) (hi:∀ w w',φ (Aw nx st w)=φ (Aw nx st w')->Aw nx st w=Aw nx st w'):B9 D (φ st) m:=by
 obtain⟨l,G,E,H⟩:=h;refine⟨l.map φ,U5 φ hi l G E,λs hs=>?_,by simpa using H⟩;obtain⟨x,I,rfl⟩:=À.1 hs;obtain⟨w,rfl⟩:=E x I;exact⟨w,(Y5 φ hn w st).symm⟩
theorem Xh {σ:Type} [DecidableEq σ] {c:Nat->Nat} {bs:List Nat} {st:σ} {nx:σ->Nat->σ} {ac:σ->Bool} {l:List σ} {t:Tbl} (h:Expl c bs st nx ac l t) {a b:Nat->Nat} (E:Joint a b c bs) (hn:∀ s x,x<256->nx s (bs.getD (c x) 0)=nx s x) {m:Nat} (hm:l.length<=m):¬ B9 nx st m:=by
 refine Ip l (λw=>?_) hm;have:∀ (w:List UInt8) i s,l[i]? = Δ s->Aw nx s w∈l:=λw=>by
  induction w with
  | nil=>intro i s hi;exact List.mem_of_getElem? hi
  | cons x w G=>
   intro i s hi;have D:=(h.tgt i s hi _ (E.lt _ x.toNat_lt)).2;rw[hn s _ x.toNat_lt] at D;exact G _ _ D
 exact this w 0 st h.zero
def stP (s:Sta):Nat × Nat:=(s.p,s.s)
theorem Ll {s t:Sta} (hs:s.q=0) (D:t.q=0) (h:stP s=stP t):s=t:=by
 cases s;cases t
 simp[stP] at h hs D;simp[h,hs,D]
def sNx (x:Tbl) (s:Sta) (b:Nat):Sta:=⟨0,0,if Cu x (Ax x s.s b x.n.length) then Ax x s.s b x.n.length ||| 1 else Ax x s.s b x.n.length⟩
def sAc (x:Tbl) (s:Sta):Bool:=s.p==1||Cu x s.s
def Lr (s:Sta):Prop:=s.p<2/\s.q=0/\s.s<18446744073709551616
theorem Ac5 {x:Tbl} (D:TVal x) (hn:x.n.length<=64) (s:Sta) (b:Nat) (E:b<256):Lr (sNx x s b):=by
 refine⟨by show 0<2;omega,rfl,?_⟩;have h:=Hz D hn s.s b E _ (θ _);unfold sNx;simp only;split
 ·exact Nat.or_lt_two_pow (n:=64) h (by omega)
 ·exact h
theorem Lp (x:Tbl) (w:List UInt8):(Aw (sNx x) ⟨1,0,1⟩ w).q=0:=by
 induction w using Et with
 | h0=>rfl
 | h1 w y G=>rw[Ee];rfl
theorem i114:(Η.info? 114).map (·.size)=Δ 1:=by kernel_rfl
theorem Amg (x:Int):Η.built 116 [(2,.agg #[.int π x])]=Δ #[.int ζ 0,.int ζ 0,.int π x]:=by kernel_rfl
theorem Um (x:Nat) (D:x<18446744073709551616):bits BinOp.or ϴ (x:Int) 1=((x ||| 1:Nat):Int):=by
 rw[show (1:Int)=((1:Nat):Int) from rfl,u64_or_nat _ _ D (by omega)]
theorem Acc (x:Tbl) (M:TVal x) (hn:x.n.length<=64) (A:Array Ρ) (gx:Nat) (w:Κ) (hA:IsT w A x) (U:w.heap[gx]? = Δ (Ε A 108 (0,0))) :
  Nc w 157 #[γ (Δ ⟨gx,0,Γ⟩)] (sNx x) Lr:=by
 intro W hW s hs b hb;obtain⟨-,-,bh⟩:=hs;have aa:=hA.ext hW;obtain⟨_,_,_,_,_,_,bj,br,_⟩:=aa.opened M;have a7:(Η.info? 108).map (·.size)=Δ A.size:=by rw[bj];exact Cd
 have U:=hW.heap U;have f73:=λV (hV:Ext W V)=>Α (Se x M hn A s.s bh b hb V (aa.ext hV))
 have a8:=Hz M hn s.s b hb _ (θ _);have f76:=λV (hV:Ext W V)=>Α (Ny x M hn A (Ax x s.s b x.n.length) a8 V (aa.ext hV))
 show Ϝ _ _ _ _ λe w'=>e=ν (.agg #[.int ζ ((0:Nat):Int),.int ζ ((0:Nat):Int),.int π ((if Cu x (Ax x s.s b x.n.length) then Ax x s.s b x.n.length ||| 1 else Ax x s.s b x.n.length:Nat):Int)])/\Ext W w'
 have ab:=((Ι W).alloc (Ε #[iv s.p,iv s.q,.int π (s.s:Int)] 116)).alloc (Ε #[.int ζ 0,.int ζ 0,.int π 0] 116);have H3:=Ag (Ab W (Ε #[iv s.p,iv s.q,.int π (s.s:Int)] 116)) (Ε #[.int ζ 0,.int ζ 0,.int π 0] 116);have H5:=Ϙ W (Ε #[iv s.p,iv s.q,.int π (s.s:Int)] 116) (Ε #[.int ζ 0,.int ζ 0,.int π 0] 116);generalize Ax x s.s b x.n.length=T at *;generalize Cu x T=bo at *;have HO:=Α (Um T a8);clear hA aa hW;go_enter Tryz.func157,Tryz.ntmps157;go_upto_region 1 with (fail)
 obtain⟨w1,ad⟩:∃ V,(W.alloc (Ε #[iv s.p,iv s.q,.int π (s.s:Int)] 116)).alloc (Ε #[.int ζ 0,.int ζ 0,.int π 0] 116)=V:=⟨_,rfl⟩;have bt:W.heap.size+1<w1.heap.size:=by rw[<-ad,Λ,Λ];omega
 rw[ad] at ab H3 H5;simp only[ad];clear ad;have ae:=Α (ab.heap U);have bb:w1.rangeAt W.heap.size 2 [.int π (s.s:Int)]:=λj v hv=>by
  obtain rfl:j=0:=by
   rcases j with _|j
   ·rfl
   ·simp at hv
  rw[Ω w1 W.heap.size _ _ _ _ H3];exact hv
 have D:=Α H5;have bc:=Α ab;clear H3 H5 U ab;go_upto_region 2 with (first
  | (refine Υ rfl 108 (η 2) rfl _ rfl _ _ _ _ ae.out Ϭ rfl a7 ?_)
  | (refine wpList_load_mid rfl 114 (η 8) rfl _ 2 rfl _ _ bb Tryz.underlying114 rfl i114 ?_)
  | (go_at_call 73;(with_reducible refine (f73 _ bc.out).out.mono ?_);rintro e G ⟨rfl,aq⟩)
  | (refine Φ rfl 114 (η 6) (η 11) rfl _ _ rfl rfl _ _ (Ab G (Ε #[.int π 0] 114)) i114 rfl (Ur _) ?_))
 have ar:=((Ι G).alloc (Ε #[.int π 0] 114)).setRow (θ _) #[.int π (T:Int)];have H6:=μ (G.alloc (Ε #[.int π 0] 114)) G.heap.size _ #[.int π (T:Int)] _ _ (Ab G _);obtain⟨w3,aw⟩:∃ V,(G.alloc (Ε #[.int π 0] 114)).setRow G.heap.size #[.int π (T:Int)]=V:=⟨_,rfl⟩;rw[aw] at ar H6;simp only[aw];clear aw;have af:=aq.trans ar;have bw:=aq.size;have D:=Α (af.heap D.out);have ae:=Α (af.heap ae.out);have E:=Α H6;have bd:=Α (bc.out.trans af);generalize G.heap.size=H at *;clear H6 aq ar af bb f73;go_upto_if 14 with (first
  | (refine Υ rfl 108 (η 2) rfl _ rfl _ _ _ _ ae.out Ϭ rfl a7 ?_)
  | (refine Υ rfl 114 (η 6) rfl _ rfl _ _ _ _ E.out Tryz.underlying114 rfl i114 ?_)
  | (go_at_call 76;(with_reducible refine (f76 _ bd.out).out.mono ?_);rintro e I ⟨rfl,ax⟩;have D:=Α (ax.heap D.out);have E:=Α (ax.heap E.out);have be:=Α (bd.out.trans ax)))
 have c6:=(Ω I H 0 _ _ _ E.out).trans (show (#[Ρ.int π (T:Int)])[0]? = Δ (.int π (T:Int)) from rfl);have f6:=Ϯ I H 0 _ _ E.out;have bf:=λz=>Α (Amg z)
 cases bo
 ·go_wp2_with (first
   | (refine Υ rfl 114 (η 6) rfl _ rfl _ _ _ _ E.out Tryz.underlying114 rfl i114 ?_)
   | (refine B3 rfl 116 _ rfl #[.int ζ 0,.int ζ 0,.int π (T:Int)] ?_ ?_;(simp[õ.eval];with_reducible exact (bf _).out))
   | (refine Φ rfl 116 (η 5) (η 20) rfl _ _ rfl rfl _ _ D.out D0 rfl (by simp[ϊ]) ?_))
  refine ϋ (v:=.agg #[.int ζ 0,.int ζ 0,.int π (T:Int)]) (ϵ rfl _ _ _ _ _ _ _ rfl (μ I _ _ _ 116 (0,0) D.out) Ë rfl D0) rfl ?_;exact⟨rfl,be.out.setRow (by omega) _⟩
 ·go_upto_region 4 with (fail)
  have bg:I.setCell ⟨H,0,Γ⟩ (.int π (bits BinOp.or ϴ (T:Int) 1))=I.setRow H #[.int π ((T ||| 1:Nat):Int)]:=by
   rw[Ϥ I _ _ _ _ _ _ E.out,HO.out];rfl
  have bm:W.heap.size+1≠H:=λe=>by
   have J:=D.out;rw[e,E.out] at J;injection J with J
   injection J with J _
   simp at J
  rw[bg];have ag:=μ I H _ #[.int π ((T ||| 1:Nat):Int)] _ _ E.out;have ah:=B8 D.out bm #[.int π ((T ||| 1:Nat):Int)];have ai:=be.out.setRow (show W.heap.size<=H by omega) #[.int π ((T ||| 1:Nat):Int)];obtain⟨z,hz⟩:∃ z:Int,((T ||| 1:Nat):Int)=z:=⟨_,rfl⟩;rw[hz] at ag ah ai;rw[hz];obtain⟨w6,ay⟩:∃ V,I.setRow H #[.int π z]=V:=⟨_,rfl⟩;rw[ay] at ag ah ai;rw[ay];have E:=Α ag;have D:=Α ah;have bp:=Α ai;have HZ:=Α hz;clear c6 f6 bg ah ag ai hz HO ay;go_wp2_with (first
   | (refine Υ rfl 114 (η 6) rfl _ rfl _ _ _ _ E.out Tryz.underlying114 rfl i114 ?_)
   | (refine B3 rfl 116 _ rfl #[.int ζ 0,.int ζ 0,.int π z] ?_ ?_;(simp[õ.eval];with_reducible exact (bf _).out))
   | (refine Φ rfl 116 (η 5) (η 20) rfl _ _ rfl rfl _ _ D.out D0 rfl (by simp[ϊ]) ?_))
  refine ϋ (v:=.agg #[.int ζ 0,.int ζ 0,.int π z]) (ϵ rfl _ _ _ _ _ _ _ rfl (μ w6 _ _ _ 116 (0,0) D.out) Ë rfl D0) rfl ?_;exact⟨by rw[<-HZ.out],bp.out.setRow (by omega) _⟩
theorem Abi (x:Tbl) (U:TVal x) (hn:x.n.length<=64) (A:Array Ρ) (gx:Nat) (w:Κ) (hA:IsT w A x) (D:w.heap[gx]? = Δ (Ε A 108 (0,0))) :
  M9 w 158 #[γ (Δ ⟨gx,0,Γ⟩)] (sAc x) Lr:=by
 intro W H s hs;obtain⟨hp,-,ad⟩:=hs;have I:=hA.ext H;obtain⟨_,_,_,_,_,_,ak,aq,_⟩:=I.opened U;have ae:(Η.info? 108).map (·.size)=Δ A.size:=by rw[ak];exact Cd
 have D:=H.heap D;have f76:=λV (hV:Ext W V)=>Α (Ny x U hn A s.s ad V (I.ext hV))
 show Ϝ _ _ _ _ λe w'=>e=ν (.bool (s.p==1||Cu x s.s))/\Ext W w'
 have E:=(Ι W).alloc (Ε #[iv s.p,iv s.q,.int π (s.s:Int)] 116);have G:=Ab W (Ε #[iv s.p,iv s.q,.int π (s.s:Int)] 116);generalize Cu x s.s=bo at *;clear hA I H;go_enter Tryz.func158,Tryz.ntmps158;go_upto_region 1 with (fail)
 obtain⟨w1,J⟩:∃ V,W.alloc (Ε #[iv s.p,iv s.q,.int π (s.s:Int)] 116)=V:=⟨_,rfl⟩;rw[J] at E G;simp only[J];clear J;have af:=Α (E.heap D);have ag:w1.rangeAt W.heap.size 2 [.int π (s.s:Int)]:=λj v hv=>by
  obtain rfl:j=0:=by
   rcases j with _|j
   ·rfl
   ·simp at hv
  rw[Ω w1 W.heap.size _ _ _ _ G];exact hv
 have c0:=(Ω w1 W.heap.size 0 _ _ _ G).trans (show (#[iv s.p,iv s.q,.int π (s.s:Int)]:Array Ρ)[0]? = Δ (iv s.p) from rfl);have M:=Α E;clear G D E;obtain⟨bp,T⟩:∃ b,(s.p==1)=b:=⟨_,rfl⟩;have au:((s.p:Int)==1)=bp:=by
  rw[<-T,Bool.eq_iff_iff];simp
  omega
 have ai:=Α T;clear T hp ad;cases bp
 ·go_wp2_with (first
   | (refine El rfl (wp_load_row 108 (η 1) rfl _ rfl _ _ _ _ af.out Ϭ rfl ae ?_))
   | (refine El rfl (wp_load_mid 114 (η 9) rfl _ 2 rfl _ _ ag Tryz.underlying114 rfl i114 ?_))
   | (go_at_call 76;(with_reducible refine (f76 _ M.out).out.mono ?_);rintro e w5 ⟨rfl,an⟩;have ao:=Α (M.out.trans an)))
  go_ret;exact⟨by rw[ai.out];rfl,ao.out⟩
 ·clear ag f76 af ae;go_wp2_with (fail);go_ret;exact⟨by rw[ai.out];rfl,M.out⟩
theorem Yr (p s:Int):Η.built 116 [(0,.int ζ p),(2,.agg #[.int π s])]=Δ #[.int ζ p,.int ζ 0,.int π s]:=by kernel_rfl
theorem Ami:Η.built 114 [(0,.int π 1)]=Δ #[.int π 1]:=by kernel_rfl
theorem Rd:ξ.all (·.oneCell')=Ξ:=by kernel_rfl
theorem Zw:∃ vn va,ξ=Aj (λ_=>0) 0 vn va/\vn=Β Γ 0 0/\va=Β Γ 0 0:=⟨_,_,(show ξ=Aj (λ_=>0) 0 (Β Γ 0 0) (Β Γ 0 0) by kernel_rfl),rfl,rfl⟩
theorem Ng (o:Nat) (x:Int):ξ[o]?≠Δ (.int π x):=by
 obtain⟨vn,va,h,rfl,rfl⟩:=Zw;rw[h];intro h;have:=Array.mem_of_getElem? h;simp only[Aj,Ei,List.mem_toArray,Ó,À,List.mem_cons,List.not_mem_nil,or_false] at this;rcases this with⟨b,_,D⟩|D|D|D<;>simp at D
theorem Abo {x:Tbl} (H:TVal x) {c:Nat->Nat} {bs:List Nat} (D:Joint x.cell x.cell c bs) {l:List Sta} {t:Tbl} (h:Expl c bs ⟨1,0,1⟩ (sNx x) (sAc x) l t) (E:l.length<=4096) :
  TVal t/\t.n.length<=4096/\¬ B9 (snx x) (1,1) 4096/\∀ u,t.has u=Ξ↔Star (λu=>x.has u=Ξ) u:=by
 have G:Expl c bs (1,1) (snx x) (λs=>s.1==1||Cu x s.2) (l.map stP) t:=
  h.conv (st:=⟨1,0,1⟩) stP (λs b=>rfl) (λs=>rfl) (λw w' e=>Ll (Lp x w) (Lp x w') e)
 have hn:∀ (s:Nat × Nat) b,b<256->snx x s (bs.getD (c b) 0)=snx x s b:=λs b I=>by
  obtain⟨_,J,_⟩:=D.rep b I;have M:∀ n,Ax x s.2 (bs.getD (c b) 0) n=Ax x s.2 b n:=λn=>by
   induction n with
   | zero=>rfl
   | succ n T=>simp only[Ax];rw[T];unfold Tbl.stp;rw[J]
  unfold snx;rw[M]
 exact⟨h.tval D,by rw[h.len];exact E,Xh G D hn (by simpa using E),λu=>Abm H G D u⟩
theorem Abq (a:Dfa) (ha:Val a) (dx:a.n.length<=64) (va:Ρ) (w:Κ) (T:Tab w) (ax:0<w.heap.size) (bc:IsD w va a) :
  Ϝ Η 147 #[va] w λe w'=>∃ r,ResOf w' e r/\Jk a r/\Ext w w':=by
 have bd:=Α bc;have b9:=Α ha;obtain⟨ac,lc,cc,an,cn,aa,la,ca,rfl⟩:=bc.agg;have f47:=λW (M:Ext w W)=>Α (Eg a ha dx _ W (bd.out.ext M))
 have be:=λW (M:Ext w W)=>Α (Ju a ha _ W (T.below M.below ax) (ε ax M.size) (bd.out.ext M))
 have ef:=Α (λW (M:Ext w W)=>T.below M.below ax);obtain⟨Va,ay⟩:∃ X,dA (Β ac lc cc) (Β an a.n.length cn) (Β aa la ca)=X:=⟨_,rfl⟩;have cb:(Η.info? 30).map (·.size)=Δ Va.size:=by rw[<-ay];exact Ad
 rw[ay] at f47 be bd;rw[ay];have bf:=((Ι w).alloc (Ε Va 30)).alloc (Ε #[Β Γ 0 0,Β Γ 0 0,Β Γ 0 0] 30);have H1:=Ag (Ab w (Ε Va 30)) (Ε #[Β Γ 0 0,Β Γ 0 0,Β Γ 0 0] 30);have H2:=Ϙ w (Ε Va 30) (Ε #[Β Γ 0 0,Β Γ 0 0,Β Γ 0 0] 30);clear bc ha T ay;go_enter Tryz.func147,Tryz.ntmps147;go_upto_region 1 with (fail)
 obtain⟨w1,az⟩:∃ W,(w.alloc (Ε Va 30)).alloc (Ε #[Β Γ 0 0,Β Γ 0 0,Β Γ 0 0] 30)=W:=⟨_,rfl⟩;have fh:w.heap.size+1<w1.heap.size:=by rw[<-az,Λ,Λ];omega
 rw[az] at bf H1 H2;simp only[az];clear az;have ag:=Α H1;have D:=Α H2;have bj:=Α bf;clear H1 H2 bf;go_upto_region 3 with (first
  | (refine Υ rfl 30 (η 1) rfl _ rfl _ _ _ _ ag.out Ν rfl cb ?_)
  | (go_at_call 47;(with_reducible refine (f47 _ bj.out).out.mono ?_);rintro e w2 ⟨rfl,cd⟩;have a1:=Α cd;clear cd))
 have ah:=Α (bj.out.trans a1.out);have ag:=Α (a1.out.heap ag.out);have D:=Α (a1.out.heap D.out);go_upto_region 4 with (first
  | (refine Υ rfl 30 (η 1) rfl _ rfl _ _ _ _ ag.out Ν rfl cb ?_)
  | (go_at_call 68;(with_reducible refine (be _ ah.out).out.mono ?_);rintro e w3 ⟨A1,rfl,cf,cg⟩;have ai:=Α cg;clear cg;have hC:=Α (Kw (Ae a) (Bm b9.out) (show a.n.length<=65536 by omega) A1 w3 cf);clear cf)
  | (go_at_call 69;(with_reducible refine hC.out.mono ?_);rintro e w4 ⟨v,d,rfl,hd,ck,aj,cl⟩;have ak:=Α cl;have G:=Α ck;have HH:=Α aj;clear ck aj cl hC;have cm:=Α (Ju d G.out.val v w4 (ef.out w4 ((ah.out.trans ai.out).trans ak.out)) (ε ax ((ah.out.trans ai.out).trans ak.out).size) hd);obtain⟨fk,fl,fm,fo,fp,fq,fs,ft,rfl⟩:=hd.agg;clear hd)
  | (go_at_call 68;(with_reducible refine cm.out.mono ?_);rintro e H ⟨A,rfl,hA,cp⟩;have I:=Α hA;have bl:=Α cp;obtain⟨_,_,_,_,_,_,bm,ei,_⟩:=hA.opened (Bm G.out.val);clear hA cp cm;have cq:(Η.info? 108).map (·.size)=Δ A.size:=(by rw[bm];exact Cd);have ej:ξ.size=A.size:=(by rw[Db,bm]);clear bm)
  | (refine Φ rfl 108 (η 4) (η 17) rfl _ _ rfl rfl _ _ (Ab H (Ε ξ 108)) cq ej ei ?_))
 have al:=((Ι H).alloc (Ε ξ 108)).setRow (θ _) A;have H4:=μ (H.alloc (Ε ξ 108)) H.heap.size _ A _ _ (Ab H _);obtain⟨w6,bp⟩:∃ W,(H.alloc (Ε ξ 108)).setRow H.heap.size A=W:=⟨_,rfl⟩;rw[bp] at al H4;simp only[bp];clear bp;have cr:=Α ((((ah.out.trans ai.out).trans ak.out).trans bl.out).trans al);have D:=Α ((((ai.out.trans ak.out).trans bl.out).trans al).heap D.out);have I:=Α (I.out.ext al);have U:=Α H4;generalize H.heap.size=g4 at *;clear al H4 be f47 bj a1 ah ai ak bl ag;have fu:d.n.length<=a.n.length:=Kx G.out b9.out (λu=>by rw[HH.out,Dn]);have ct:=Α (Pp (Ae d) (Ae d) (Bm G.out.val) (Bm G.out.val) A A w6 I.out I.out);have cu:∀ c,ώ.size=(Au c).size:=λc=>by rw[F6,C3,C3]
 have cv:∀ c,(Η.info? 77).map (·.size)=Δ (Au c).size:=λc=>by rw[C3];exact Fj
 go_upto_region 5 with (first
  | (refine Υ rfl 108 (η 4) rfl _ rfl _ _ _ _ U.out Ϭ rfl cq ?_)
  | (go_at_call 70;(with_reducible refine ct.out.mono ?_);rintro e E ⟨c,bs,vj,rfl,cx,cy,cz⟩;have bq:=cu c;have br:=cv c;have bt:=Hl c;obtain⟨A9,a8⟩:∃ X,Au c=X:=⟨_,rfl⟩;rw[a8] at bq br bt;rw[a8])
  | (refine Φ rfl 77 (η 5) (η 22) rfl _ _ rfl rfl _ _ (Ab E (Ε ώ 77)) br bq bt ?_))
 have ad:=cz.trans (((Ι E).alloc (Ε ώ 77)).setRow (θ _) A9);have H5:=μ (E.alloc (Ε ώ 77)) E.heap.size _ A9 _ _ (Ab E _);have bw:=cy.ext (((Ι E).alloc (Ε ώ 77)).setRow (θ _) A9);obtain⟨w8,bx⟩:∃ W,(E.alloc (Ε ώ 77)).setRow E.heap.size A9=W:=⟨_,rfl⟩;rw[bx] at ad H5 bw;simp only[bx];clear bx cz cy cu cv ct;have c1:=Α H5;have aq:=Α cx;have en:=Α a8;have D:=Α (ad.heap D.out);have U:=Α (ad.heap U.out);have I:=Α (I.out.ext ad);have eo:=Α (cr.out.trans ad);clear H5 cx a8 bq bt ad cr;generalize E.heap.size=g5 at *;have ep:0<bs.length:=by have:=aq.out.lt 0 (by omega);omega
 have er:bs.length<=256:=by
  have:=Ij c 256 bs.length (λj hj=>⟨bs.getD j 0,(aq.out.byte j hj).1,(aq.out.byte j hj).2⟩);exact this
 have bz:(Ae d).n.length<=64:=by show d.n.length<=64;omega
 have ba:=Α (Bm G.out.val);have c3:=Α (Acc (Ae d) ba.out bz A g4 w8 I.out U.out);have c4:=Α (Abi (Ae d) ba.out bz A g4 w8 I.out U.out);have hX:=Α (Qa c bs ep er (λk hk=>(aq.out.byte k hk).1) ⟨1,0,1⟩ (sNx (Ae d)) (sAc (Ae d)) Lr
  (λx hx=>⟨by have:=hx.1;omega,by have:=hx.2.1;omega,hx.2.2⟩) ⟨by show 1<2;omega,rfl,by show 1<18446744073709551616;omega⟩
  (λx hx k hk=>Ac5 ba.out bz x k hk) 4096 (by omega) (by omega) 157 158 _ _ (enters_of Tryz.func157 (by kernel_rfl) rfl) (enters_of Tryz.func158 (by kernel_rfl) rfl) vj w8 bw c3.out c4.out)
 rw[en.out] at hX;have c5:Hid (Ϝ Η 74 #[.agg A9,vj,.agg #[.int ζ 1,.int ζ 0,.int π 1],.func (.func 157) #[] #[γ (Δ ⟨g4,0,Γ⟩)],.func (.func 158) #[] #[γ (Δ ⟨g4,0,Γ⟩)],.int ζ 4096] w8 λe w'=>
   ∃ A b,e=ν (ϥ #[.agg A,.bool b])/\A.size=259/\A.all (·.oneCell')=Ξ/\(b=Τ->B9 (snx (Ae d)) (1,1) 4096)/\(b=Ξ->∃ t,IsT w' A t/\TVal t/\t.n.length<=4096/\¬ B9 (snx (Ae d)) (1,1) 4096/\(∀ u,t.has u=Ξ↔Star (λu=>d.has u=Ξ) u))/\Ext w8 w'):=Α (Ϝ.mono hX.out λe w' ⟨hE,h⟩=>by
  rcases h with⟨A,l,t,he,T,hX,hl,fw⟩|⟨hM,he⟩
  ·obtain⟨h1,h2,h3,h4⟩:=Abo ba.out aq.out hX hl;obtain⟨_,_,_,_,_,_,au,b4,_⟩:=T.opened h1;refine⟨A,Ξ,he,au,b4,λh=>by simp at h,λ_=>⟨t,T,h1,h2,h3,λu=>?_⟩,hE⟩;rw[h4];have:(λu=>(Ae d).has u=Ξ)=λu=>d.has u=Ξ:=funext λu=>by rw[Dn]
   rw[this]
  ·exact⟨ξ,Τ,he,Db,Rd,λ_=>Vk hM stP (λs b=>rfl) (λw w' e=>Ll (Lp _ w) (Lp _ w') e),λh=>by simp at h,hE⟩)
 clear hX c3 c4 bw;have ez:=Α (Yr 1 1);have e0:=Α Ami;have e1:(Η.info? 77).map (·.size)=Δ A9.size:=br;go_upto_region 7 with (first
  | (refine Υ rfl 77 (η 5) rfl _ rfl _ _ _ _ c1.out Tryz.underlying77 rfl e1 ?_)
  | (refine B3 rfl 114 _ rfl #[.int π 1] ?_ ?_;(simp;with_reducible exact e0.out))
  | (refine B3 rfl 116 _ rfl #[.int ζ 1,.int ζ 0,.int π 1] ?_ ?_;(simp[õ.eval];with_reducible exact ez.out))
  | (go_at_call 74;(with_reducible refine c5.out.mono ?_);rintro e J ⟨AT,bo,rfl,au,b4,c8,c9,b5⟩;have e3:=Α c8;have e4:=Α c9;clear c8 c9;have da:(Η.info? 108).map (·.size)=Δ AT.size:=(by rw[au];exact Cd);have e5:ξ.size=AT.size:=(by rw[Db,au]);clear au)
  | (refine Φ rfl 108 (η 8) (η 33) rfl _ _ rfl rfl _ _ (Ab J (Ε ξ 108)) da e5 b4 ?_))
 have aw:=((Ι J).alloc (Ε ξ 108)).setRow (θ _) AT;have H8:=μ (J.alloc (Ε ξ 108)) J.heap.size _ AT _ _ (Ab J _);obtain⟨db,b7⟩:∃ W,(J.alloc (Ε ξ 108)).setRow J.heap.size AT=W:=⟨_,rfl⟩;rw[b7] at aw H8;simp only[b7];clear b7;have e6:=Α H8;have D:=Α ((b5.trans aw).heap D.out);have dc:=Α ((eo.out.trans b5).trans aw);have e7:=Α aw;clear b5 aw H8 U c1 c5;generalize J.heap.size=g8 at *;cases bo
 ·have e8:=Α Fa;go_wp2_with (first
   | (refine B3 rfl 30 _ rfl #[Β Γ 0 0,Β Γ 0 0,Β Γ 0 0] ?_ ?_;(simp;with_reducible exact e8.out))
   | (refine Φ rfl 30 (η 2) (η 37) rfl _ _ rfl rfl _ _ D.out Ad rfl Ew ?_))
  refine ϋ (v:=ϥ #[zD,.int ζ 2]) (Ba rfl _ _ _ _ _ _ _ rfl _ rfl (μ db _ _ #[Β Γ 0 0,Β Γ 0 0,Β Γ 0 0] 30 (0,0) D.out) Ν rfl Ad) rfl ?_;exact⟨Γ,rfl,⟨d,G.out,λu=>by rw[HH.out,Dn],λ_=>rfl,λh=>absurd (e3.out (by simp)) h⟩,dc.out.setRow (by omega) _⟩
 ·obtain⟨t,dd,de,e9,df,aj⟩:=e4.out rfl;have hL:=Α (Pb t de (show t.n.length<=65536 by omega) AT db (dd.ext e7.out));have fb:=Α aj;have fc:=Α df;clear dd de e9 df aj;go_wp2_with (first
   | (refine Υ rfl 108 (η 8) rfl _ rfl _ _ _ _ e6.out Ϭ rfl da ?_)
   | (go_at_call 77;(with_reducible refine hL.out.mono ?_);rintro e fe ⟨r,b8,dg,dh⟩;obtain⟨dk,dm,dn,dp,dq,dr,dt,du,dv,k2,rfl⟩:=b8.form;have fg:=Α b8;have dw:=Α dg;clear b8 dg;have D:=Α (dh.heap D.out))
   | (refine Φ rfl 30 (η 2) (η 40) rfl _ _ rfl rfl _ _ D.out Ad rfl (Ap _ _ _ rfl rfl rfl) ?_))
  refine ϋ (v:=ϥ #[.agg (dA (Β dk dm dn) (Β dp dq dr) (Β dt du dv)),.int ζ k2]) (Ba rfl _ _ _ _ _ _ _ rfl _ rfl (μ fe _ _ (dA (Β dk dm dn) (Β dp dq dr) (Β dt du dv)) 30 (0,0) D.out) Ν rfl Ad) rfl ?_;refine⟨r,fg.out.setRow (Hc dw.out) D.out _,⟨d,G.out,λu=>by rw[HH.out,Dn],λh=>absurd h fc.out,λ_=>Is dw.out λu=>?_⟩,(dc.out.trans dh).setRow (by omega) _⟩;rw[fb.out];have:(λu=>d.has u=Ξ)=λu=>a.has u=Ξ:=funext λu=>by rw[HH.out,Dn]
  rw[this]
theorem Fl {P:Program} {op:ϸ} {a:õ} {w:Κ} (ty:TypeId) (x:Operand) (D:op.op=.load ty x)
  (b o:Nat) (E:a.eval x=γ (Δ ⟨b,o,Γ⟩)) (cs:List Ρ) (d:TypeDesc) (G:w.rangeAt b o cs)
  (hu:P.underlying ty=Δ d) (hd:d.isRow=Ξ) (hi:(P.info? ty).map (·.size)=Δ cs.length):(Ú a.eval op).run P w=.ok (.value (.agg cs.toArray)) w:=by
 unfold Ú;simp only[D,E,Instr.loadAt,Instr.sureAddr,Sem.run_bind,Sem.run_pure,Result.andThen_ok,run_loadVar_mid w b o ty cs d G hu hd hi]
theorem Tw {w:Κ} {b o:Nat} {v:Ρ} (h:w.cell? ⟨b,o,Γ⟩=Δ v):w.rangeAt b o [v]:=λj u hu=>by
 rcases j with _|j
 ·simp at hu;subst hu;exact h
 ·simp at hu
def cIn (x:Tbl) (s:Sta):Sta:=⟨s.p,s.q,if x.ok s.p then s.s ||| 1 else s.s⟩
def cNx (x y:Tbl) (s:Sta) (b:Nat):Sta:=cIn x ⟨x.stp s.p b,0,Ax y s.s b y.n.length⟩
def cAc (y:Tbl) (s:Sta):Bool:=Cu y s.s
def Ky (x:Tbl) (s:Sta):Prop:=s.p<x.n.length/\s.q=0/\s.s<18446744073709551616
def cSt (x:Tbl):Sta:=cIn x ⟨0,0,0⟩
theorem M4 (x y:Tbl) (w:List UInt8):(Aw (cNx x y) (cSt x) w).q=0:=by
 induction w using Et with
 | h0=>rfl
 | h1 w z G=>rw[Ee];rfl
theorem Yl (x:Tbl) (s:Sta) (h:s.s<18446744073709551616):(cIn x s).s<18446744073709551616:=by
 unfold cIn;simp only;split
 ·exact Nat.or_lt_two_pow (n:=64) h (by omega)
 ·exact h
theorem Al3 {x y:Tbl} (E:TVal x) (G:TVal y) (hn:y.n.length<=64) (s:Sta) (hs:Ky x s) (b:Nat) (D:b<256):Ky x (cNx x y s b):=
 ⟨E.stp_lt hs.1 D,rfl,Yl _ _ (Hz G hn s.s b D _ (θ _))⟩
theorem Yk (x y:Tbl) (s:Sta) (b:Nat):stP (cNx x y s b)=cnx x y (stP s) b:=rfl
theorem Alz {x y:Tbl} (hx:TVal x) (H:TVal y) {c:Nat->Nat} {bs:List Nat} (D:Joint x.cell y.cell c bs) {l:List Sta} {t:Tbl} (h:Expl c bs (cSt x) (cNx x y) (cAc y) l t) (E:l.length<=4096) :
  TVal t/\t.n.length<=4096/\¬ B9 (cnx x y) (cst x) 4096/\∀ u,t.has u=Ξ↔Cat (λu=>x.has u=Ξ) (λv=>y.has v=Ξ) u:=by
 have G:Expl c bs (cst x) (cnx x y) (λs=>Cu y s.2) (l.map stP) t:=
  h.conv (st:=cSt x) stP (λs b=>Yk x y s b) (λs=>rfl) (λw w' e=>Ll (M4 x y w) (M4 x y w') e)
 have hn:∀ (s:Nat × Nat) b,b<256->cnx x y s (bs.getD (c b) 0)=cnx x y s b:=λs b I=>by
  obtain⟨_,J,M⟩:=D.rep b I;have T:∀ p,x.stp p (bs.getD (c b) 0)=x.stp p b:=λp=>by unfold Tbl.stp;rw[J]
  have U:∀ n,Ax y s.2 (bs.getD (c b) 0) n=Ax y s.2 b n:=λn=>by
   induction n with
   | zero=>rfl
   | succ n ih=>simp only[Ax];rw[ih];unfold Tbl.stp;rw[M]
  unfold cnx;rw[T,U]
 exact⟨h.tval D,by rw[h.len];exact E,Xh G D hn (by simpa using E),λu=>Alx H G D u⟩
theorem X7 (x:Tbl) (hx:TVal x) (A:Array Ρ) (gx:Nat) (w:Κ) (hA:IsT w A x) (J:w.heap[gx]? = Δ (Ε A 108 (0,0))) (W:Κ) (hW:Ext w W) (p z:Nat) (hp:p<x.n.length) (hz:z<18446744073709551616) :
  Ϝ Η 71 #[.agg #[iv p,(.int ζ 0),.int π (z:Int)],γ (Δ ⟨gx,0,Γ⟩)] W λe w'=>e=ν (stV (cIn x ⟨p,0,z⟩))/\Ext W w':=by
 obtain⟨_,_,_,ba,oa,ca,_,_,_,_,_,al,_,an⟩:=(hA.ext hW).opened hx;have J:=hW.heap J;have a8:=(Ω W gx 258 _ _ _ J).trans al;have aa:=an p hp;show Ϝ _ _ _ _ λe w'=>e=ν (.agg #[iv p,(.int ζ 0),.int π ((if x.ok p then z ||| 1 else z:Nat):Int)])/\Ext W w'
 have H:=((Ι W).alloc (Ε #[iv p,(.int ζ 0),.int π (z:Int)] 116)).alloc (Ε #[.int ζ 0,.int ζ 0,.int π 0] 116);have D:=Ag (Ab W (Ε #[iv p,(.int ζ 0),.int π (z:Int)] 116)) (Ε #[.int ζ 0,.int ζ 0,.int π 0] 116);have H3:=Ϙ W (Ε #[iv p,(.int ζ 0),.int π (z:Int)] 116) (Ε #[.int ζ 0,.int ζ 0,.int π 0] 116);have HO:=Α (Um z hz);clear hA al an J;generalize x.n.length=nx at *;generalize x.ok p=bo at *;go_enter Tryz.func71,Tryz.ntmps71;go_upto_region 1 with (fail)
 obtain⟨w1,M⟩:∃ V,(W.alloc (Ε #[iv p,(.int ζ 0),.int π (z:Int)] 116)).alloc (Ε #[.int ζ 0,.int ζ 0,.int π 0] 116)=V:=⟨_,rfl⟩;have be:W.heap.size+1<w1.heap.size:=by rw[<-M,Λ,Λ];omega
 rw[M] at H D H3;simp only[M];clear M;have a8:=H.cell a8;have aa:=H.cell aa;have I:=Α D;have E:=Α H3;have aq:=Α H;have c0:=(Ω w1 W.heap.size 0 _ _ _ D).trans (show (#[iv p,(.int ζ 0),.int π (z:Int)]:Array Ρ)[0]? = Δ (iv p) from rfl);have c2:=(Ω w1 W.heap.size 2 _ _ _ D).trans (show (#[iv p,(.int ζ 0),.int π (z:Int)]:Array Ρ)[2]? = Δ (.int π (z:Int)) from rfl);have f2:=Ϯ w1 W.heap.size 2 _ _ D;clear D H3 H;have G:∀ z:Int,(Η.info? 116).map (·.size)=Δ (#[iv p,(.int ζ 0),.int π z]:Array Ρ).size:=λ_=>D0
 cases bo
 ·go_wp2_with (first
   | (refine Υ rfl 116 (η 2) rfl _ rfl _ _ _ _ I.out Ë rfl (G _) ?_)
   | (refine Φ rfl 116 (η 3) (η 16) rfl _ _ rfl rfl _ _ E.out (G _) rfl (by simp[ϊ]) ?_))
  refine ϋ (v:=.agg #[iv p,(.int ζ 0),.int π (z:Int)]) (ϵ rfl _ _ _ _ _ _ _ rfl (μ w1 _ _ _ 116 (0,0) E.out) Ë rfl (G _)) rfl ?_;exact⟨rfl,aq.out.setRow (by omega) _⟩
 ·go_upto_region 3 with (fail)
  have ar:w1.setCell ⟨W.heap.size,2,Γ⟩ (.int π (bits BinOp.or ϴ (z:Int) 1))=w1.setRow W.heap.size #[iv p,(.int ζ 0),.int π ((z ||| 1:Nat):Int)]:=by
   rw[Ϥ w1 _ _ _ _ _ _ I.out,HO.out];rfl
  rw[ar];have T:=μ w1 W.heap.size _ #[iv p,(.int ζ 0),.int π ((z ||| 1:Nat):Int)] _ _ I.out;have U:=B8 E.out (show W.heap.size+1≠W.heap.size by omega) #[iv p,(.int ζ 0),.int π ((z ||| 1:Nat):Int)];have ab:=aq.out.setRow (θ _) #[iv p,(.int ζ 0),.int π ((z ||| 1:Nat):Int)];obtain⟨y,hy⟩:∃ y:Int,((z ||| 1:Nat):Int)=y:=⟨_,rfl⟩;rw[hy] at T U ab;rw[hy];obtain⟨w6,ai⟩:∃ V,w1.setRow W.heap.size #[iv p,(.int ζ 0),.int π y]=V:=⟨_,rfl⟩;rw[ai] at T U ab;rw[ai];have I:=Α T;have E:=Α U;have a6:=Α ab;have HY:=Α hy;clear c0 c2 f2 a8 aa ar T U ab hy HO ai;go_wp2_with (first
   | (refine Υ rfl 116 (η 2) rfl _ rfl _ _ _ _ I.out Ë rfl (G _) ?_)
   | (refine Φ rfl 116 (η 3) (η 16) rfl _ _ rfl rfl _ _ E.out (G _) rfl (by simp[ϊ]) ?_))
  refine ϋ (v:=.agg #[iv p,(.int ζ 0),.int π y]) (ϵ rfl _ _ _ _ _ _ _ rfl (μ w6 _ _ _ 116 (0,0) E.out) Ë rfl (G _)) rfl ?_;exact⟨by rw[<-HY.out],a6.out.setRow (by omega) _⟩
theorem Aky (x y:Tbl) (M:TVal y) (hn:y.n.length<=64) (B:Array Ρ) (T:Nat) (w:Κ) (U:IsT w B y) (D:w.heap[T]? = Δ (Ε B 108 (0,0))) :
  M9 w 75 #[γ (Δ ⟨T,0,Γ⟩)] (cAc y) (Ky x):=by
 intro W G s hs;obtain⟨-,-,aa⟩:=hs;have H:=U.ext G;obtain⟨_,_,_,_,_,_,ad,aj,_⟩:=H.opened M;have hiB:(Η.info? 108).map (·.size)=Δ B.size:=by rw[ad];exact Cd
 have D:=G.heap D;have f76:=λV (hV:Ext W V)=>Α (Ny y M hn B s.s aa V (H.ext hV))
 show Ϝ _ _ _ _ λe w'=>e=ν (.bool (Cu y s.s))/\Ext W w'
 have E:=(Ι W).alloc (Ε #[iv s.p,iv s.q,.int π (s.s:Int)] 116);have I:=Ab W (Ε #[iv s.p,iv s.q,.int π (s.s:Int)] 116);generalize Cu y s.s=bo at *;clear U H G;go_enter Tryz.func75,Tryz.ntmps75;go_upto_region 1 with (fail)
 obtain⟨w1,J⟩:∃ V,W.alloc (Ε #[iv s.p,iv s.q,.int π (s.s:Int)] 116)=V:=⟨_,rfl⟩;rw[J] at E I;simp only[J];clear J;have af:=Α (E.heap D);have ag:w1.rangeAt W.heap.size 2 [.int π (s.s:Int)]:=Tw ((Ω w1 W.heap.size _ _ _ _ I).trans rfl);have ab:=Α E;clear I D E aa;go_wp2_with (first
  | (refine Υ rfl 108 (η 1) rfl _ rfl _ _ _ _ af.out Ϭ rfl hiB ?_)
  | (refine wpList_load_mid rfl 114 (η 5) rfl _ 2 rfl _ _ ag Tryz.underlying114 rfl i114 ?_)
  | (go_at_call 76;(with_reducible refine (f76 _ ab.out).out.mono ?_);rintro e w5 ⟨rfl,ah⟩;have ai:=Α (ab.out.trans ah)))
 go_ret;exact⟨rfl,ai.out⟩
theorem Ali (x y:Tbl) (J:TVal x) (hy:TVal y) (hn:y.n.length<=64) (A B:Array Ρ) (E gy gf:Nat) (w:Κ) (hA:IsT w A x) (hB:IsT w B y) (M:w.heap[E]? = Δ (Ε A 108 (0,0))) (ag:w.heap[gy]? = Δ (Ε B 108 (0,0)))
  (a6:w.heap[gf]? = Δ (Ε #[.func (.func 71) #[] #[γ (Δ ⟨E,0,Γ⟩)]] 117 (0,0))) :
  Nc w 72 #[γ (Δ ⟨gf,0,Γ⟩),γ (Δ ⟨E,0,Γ⟩),γ (Δ ⟨gy,0,Γ⟩)] (cNx x y) (Ky x):=by
 intro W U s hs b hb;obtain⟨hp,-,ba⟩:=hs;obtain⟨bn,on,cn,_,_,_,_,_,bd,_,be,_,bf,_⟩:=(hA.ext U).opened J;have ar:=hB.ext U;obtain⟨_,_,_,_,_,_,bz,b9,_⟩:=ar.opened hy;have hiB:(Η.info? 108).map (·.size)=Δ B.size:=by rw[bz];exact Cd
 have f73:=λV (D:Ext W V)=>Α (Se y hy hn B s.s ba b hb V (ar.ext D))
 have bg:=Hz hy hn s.s b hb _ (θ _);have bh:=J.stp_lt hp hb;have f71:=λV (D:Ext W V)=>Α (X7 x J A E w hA M V (U.trans D) (x.stp s.p b) (Ax y s.s b y.n.length) bh bg)
 have M:=U.heap M;have ag:=U.heap ag;have a7:=(Ω W E 257 _ _ _ M).trans be;have ac:=(Ω W E b _ _ _ M).trans (bd b hb);obtain⟨br,or',cr,ai,bk⟩:=bf s.p hp;have ad:=bk _ (J.cell_lt b hb);have ca:=J.cell_lt b hb;have bl:x.ent2 s.p (x.cell b)=x.stp s.p b:=rfl;rw[bl] at ad;have g0:=(Ω W gf 0 _ _ _ (U.heap a6)).trans (show (#[Ρ.func (.func 71) #[] #[γ (Δ ⟨E,0,Γ⟩)]]:Array Ρ)[0]? = Δ (.func (.func 71) #[] #[γ (Δ ⟨E,0,Γ⟩)]) from rfl);have cb:=enters_of Tryz.func71 (by kernel_rfl) rfl;show Ϝ _ _ _ _ λe w'=>e=ν (stV (cIn x ⟨x.stp s.p b,0,Ax y s.s b y.n.length⟩))/\Ext W w'
 have G:=((Ι W).alloc (Ε #[iv s.p,iv s.q,.int π (s.s:Int)] 116)).alloc (Ε #[.int ζ 0,.int ζ 0,.int π 0] 116);have H5:=Ag (Ab W (Ε #[iv s.p,iv s.q,.int π (s.s:Int)] 116)) (Ε #[.int ζ 0,.int ζ 0,.int π 0] 116);have H7:=Ϙ W (Ε #[iv s.p,iv s.q,.int π (s.s:Int)] 116) (Ε #[.int ζ 0,.int ζ 0,.int π 0] 116);clear hA hB ar bd be bf bl bk a6 M ba bg bh;generalize Ax y s.s b y.n.length=T at *;generalize x.stp s.p b=p2 at *;obtain⟨R,hR⟩:∃ R,cIn x ⟨p2,0,T⟩=R:=⟨_,rfl⟩;rw[hR] at f71;rw[hR];clear hR;generalize x.cell b=cx at *;have cd:(b:Int)<256:=by omega
 generalize x.cells=mx at *;generalize x.n.length=nx at *;clear J hy hn;go_enter Tryz.func72,Tryz.ntmps72;go_upto_region 1 with (fail)
 obtain⟨w1,ax⟩:∃ V,(W.alloc (Ε #[iv s.p,iv s.q,.int π (s.s:Int)] 116)).alloc (Ε #[.int ζ 0,.int ζ 0,.int π 0] 116)=V:=⟨_,rfl⟩;rw[ax] at G H5 H7;simp only[ax];clear ax;have a7:=G.cell a7;have ac:=G.cell ac;have ai:=G.cell ai;have ad:=G.cell ad;have g0:=G.cell g0;have c0:=(Ω w1 W.heap.size 0 _ _ _ H5).trans (show (#[iv s.p,iv s.q,.int π (s.s:Int)]:Array Ρ)[0]? = Δ (iv s.p) from rfl);have c2:=(Ω w1 W.heap.size 2 _ _ _ H5).trans (show (#[iv s.p,iv s.q,.int π (s.s:Int)]:Array Ρ)[2]? = Δ (.int π (s.s:Int)) from rfl);have bp:=Α (λV (D:Ext w1 V)=>D.heap (G.heap ag));have bq:=Α (λV (D:Ext w1 V)=>Tw (D.cell c2));have bt:∀ V,Ext w1 V->V.cell? ⟨E,257,Γ⟩=Δ (Β (Δ ⟨bn,on,Γ⟩) nx cn)/\V.cell? ⟨E,b,Γ⟩=Δ (iv cx)/\
   V.cell? ⟨bn,on+s.p,Γ⟩=Δ (Β (Δ ⟨br,or',Γ⟩) mx cr)/\V.cell? ⟨br,or'+cx,Γ⟩=Δ (iv p2)/\V.cell? ⟨W.heap.size,0,Γ⟩=Δ (iv s.p)/\V.cell? ⟨gf,0,Γ⟩=Δ (.func (.func 71) #[] #[γ (Δ ⟨E,0,Γ⟩)]):=
  λV D=>⟨D.cell a7,D.cell ac,D.cell ai,D.cell ad,D.cell c0,D.cell g0⟩
 clear a7 ac ai ad c0 c2 g0 ag H5;have bu:=Α (Yr (p2:Int) (T:Int));refine B0 20 [(0,Ξ),(1,Ξ),(2,Ξ),(3,Ξ),(4,Ξ),(5,Ξ),(6,Ξ),(7,Ξ),(8,Ξ),(9,Ξ),(10,Ξ),(11,Ξ),(12,Ξ),(13,Ξ),(14,Ξ),(15,Ξ),(16,Ξ),(17,Τ),(18,Ξ),(19,Τ),(20,Τ)] (by kernel_rfl) (by kernel_rfl) (λ_ _ _ _ h=>h)
  (λV=>Ext w1 V) (Ι w1).drew ?_
 have ab:=(Ι w1).drew;have I:=ab.heap H7;obtain⟨w2,ay⟩:∃ V,w1.drew=V:=⟨_,rfl⟩;rw[ay] at ab I;rw[ay];clear ay H7;iterate 13
  refine Ao (v:=?_) rfl rfl (λV D=>?_) ?_
  rotate_left
  ·obtain⟨k0,k1,k2,k3,k4,k5⟩:=bt V D;clear D;go_simp;first|done|with_reducible rfl
  simp only[Ϛ,Θ,Χ,Ψ]
 refine Ao (v:=.agg B) rfl rfl (λV D=>?_) ?_
 ·exact D2 108 (η 4) rfl gy rfl _ _ _ _ (bp.out V D) Ϭ rfl hiB
 simp only[Ϛ,Θ,Χ,Ψ];refine Ao (v:=?_) rfl rfl (λV D=>?_) ?_
 rotate_left
 ·clear D;go_simp;first|done|with_reducible rfl
 simp only[Ϛ,Θ,Χ,Ψ];refine Ao (v:=.agg #[.int π (s.s:Int)]) rfl rfl (λV D=>?_) ?_
 ·exact Fl 114 (η 22) rfl W.heap.size 2 rfl _ _ (bq.out V D) Tryz.underlying114 rfl i114
 simp only[Ϛ,Θ,Χ,Ψ];refine Ao (v:=?_) rfl rfl (λV D=>?_) ?_
 rotate_left
 ·clear D;go_simp;first|done|with_reducible rfl
 simp only[Ϛ,Θ,Χ,Ψ];clear bt bp bq;refine A4 rfl (λK H=>?_);go_simp
 (with_reducible refine (f73 w2 (G.trans ab)).out.mono ?_)
 rintro e w3 ⟨rfl,an⟩;refine H _ _ (λ_=>ab.trans an) ?_;clear H K;refine Ao (v:=.agg #[iv p2,.int ζ 0,.int π (T:Int)]) rfl rfl (λV _=>?_) ?_
 ·exact Hh 116 _ rfl (by simpa [õ.eval] using bu.out) V
 simp only[Ϛ,Θ,Χ,Ψ];have I:=an.heap I;have bw:=(G.trans ab).trans an;refine A4 rfl (λK H=>?_);go_simp
 (with_reducible refine (f71 w3 bw).out.mono ?_)
 rintro e w4 ⟨rfl,az⟩;refine H _ _ (λ_=>(ab.trans an).trans az) ?_;clear H K;have I:=az.heap I;refine A4 rfl (λK H=>?_);refine Gc 116 (η 7) (η 27) rfl rfl _ (stA R) rfl rfl _ _ I D0 rfl (Sv R) ?_;refine H _ _ (λh=>absurd h (by omega)) ?_;clear H K;refine B2 ?_;have b7:=(bw.trans az).setRow (show W.heap.size<=W.heap.size+1 by omega) (stA R);have H8:=μ w4 _ _ (stA R) 116 (0,0) I;clear f71 f73 bu;go_wp2;refine ϋ (v:=.agg (stA R)) (ϵ rfl _ _ _ _ _ _ _ rfl H8 Ë rfl D0) rfl ?_;exact⟨rfl,b7⟩
open Go
section
variable {P:Program} {ops:Array Oper} {Q:Exit->Act->World->Prop} {n:Nat}
def Kb (ops:Array ϸ) (n p:Nat):Bool:=
 (ι n).all (λk=>decide (k=p)||ó .any ops n k)&&(ι ops.size).all (λt=>decide (t<=n)||ó .any ops t (t-1))&&
 (match ops[p]? with|none=>Τ|some op=>op.after.all λe=>!Region.binds .any e||decide (e.on<p))&&
 (ι ops.size).all λj=>decide (j=p)||ó .any ops j p||ó .any ops p j||match ops[p]?,ops[j]? with|some op,Δ oj=>op.apart ops oj|_,_=>Τ
theorem Lh {i j:Nat} {listed:Array Bool} (h:ó .any ops i j=Ξ) (D:i∈Ê .any ops listed):listed.getD j Τ=Ξ:=by
 obtain⟨oi,E,e,he,G,H⟩:=Region.waitsFor_spec h;obtain⟨_,o,I,J⟩:=mem_ready.1 D;have:oi=o:=ω (E.symm.trans I);subst this;rw[<-H];exact J e he G
theorem Pk {F:Nat->Ρ->Κ->Prop} {Ne:Nat->Nat->Ρ->Ρ->Prop} (U:∀ i j v u,Ne i j v u->Ne j i u v) (hF:∀ i v w w',F i v w->Ext w w'->F i v w') {a0:õ} {w1:Κ} {sz g p:Nat} (H:p<n) (ab:a0.tmps.size=sz) (hd:Fm ops n sz=Ξ) (hL:Kb ops n p=Ξ) (ai:Region.noSelect ops=Ξ) (hn:n<ops.size) (hE:E8 ops n=Ξ)
  (hQ:∀ c a tm w,Q (.panic c) { tmps:=tm,defers:=a.defers } w->Q (.panic c) a w)
  (al:∀ o (listed:Array Bool) a w,ops[p]? = Δ o->p∈Ê .any ops listed->FInvR ops n F Ne a0 w1 listed a w->∃ v,∀ W,(Ú a.eval o).run P W=.ok (.value v) W)
  (ad:∀ i,i<n->FOp P ops Q n F Ne a0 w1 i) (an:∀ listed a w,HeadInv .any ops n listed->(∀ i,i<n->listed.getD i Τ=Ξ)->FInvR ops n F Ne a0 w1 listed a w->wpAny P .any ops Q g listed a w) :
  ∀ (f:Nat) (listed:Array Bool) (a:õ) (w:Κ),HeadInv .any ops n listed->FInvR ops n F Ne a0 w1 listed a w->unl n listed=f->wpAny P .any ops Q (f+g) listed a w
 | 0,listed,a,w,I,M,hu=>by
  rw[Nat.zero_add];exact an listed a w I (Hv n listed hu) M
 | f+1,listed,a,w,I,M,hu=>by
  obtain⟨k,hk,ao,be⟩:=Ka n listed (by omega);have aq:=Mi hE I.size (by omega) k hk be ao;rw[show f+1+g=(f+g)+1 by omega];have key:∀ i,i∈Ê .any ops listed->i<n->unl n (listed.setIfInBounds i Ξ)=f:=λi hi J=>by
   have ay:=(mem_ready.1 hi).1;have az:i<listed.size:=by rw[I.size];omega
   have bf:listed.getD i Τ=Τ:=by
    rw[ϣ,Ϡ az] at ay ⊢;exact ay
   have:=Jp n listed i J az bf;omega
  simp only[Kb,ϝ,Ù,υ] at hL;obtain⟨⟨⟨l1,l2⟩,l3⟩,l4⟩:=hL;have a7:Kb ops n p=Ξ:=by
   simp only[Kb,ϝ,Ù,υ];exact⟨⟨⟨l1,l2⟩,l3⟩,l4⟩
  by_cases G:p∈Ê .any ops listed
  ·obtain⟨bx,o,E,a8⟩:=mem_ready.1 G;obtain⟨o',d,af,bg,_,_⟩:=I8 hd p H;rw[E] at af;injection af with af
   subst af;obtain⟨v,hv⟩:=al o listed a w E G M;obtain⟨o2,bh,hw,ar⟩:=W6 U hF ab hd M G H (ad p H);have e2:o2=o:=ω (bh.symm.trans E);subst e2;have bl:FInvR ops n F Ne a0 w1 (listed.setIfInBounds p Ξ) (a.put o2.dst v) w:=by
    unfold ϸ.wp at ar;rw[hv w] at ar;exact ar
   refine wpAny_first E (Region.noSelect_spec ai) (v:=v) (λc a w hq=>?_) (f+g) listed a w (λj oj hj bm bn bo=>?_) G (.inl ⟨hw,hv⟩) (Pk U hF H ab hd a7 ai hn hE hQ al ad an f _ _ w (I.set G H) bl (key p G H))
   ·rw[bg] at hq;exact hQ c a _ w hq
   ·have D:=l4 j (ϒ.1 hj).1;rw[E,hj] at D;simp only[Æ,decide_eq_true_eq] at D;rcases D with ((D|D)|D)|D
    ·exact absurd D bm
    ·obtain⟨b0,ag,e,he,hb,bq⟩:=Region.waitsFor_spec D;rw[hj] at ag;injection ag with ag
     subst ag;exact absurd bq (bo e he hb)
    ·have:=Lh D G;have h5:=getD_both bn;rw[this] at h5;cases h5
    ·exact D
  ·refine⟨λh0=>(by rw[h0] at aq;cases aq),λi hi=>?_⟩;have J:i<n:=Nat.lt_of_not_le λh=>by
    by_cases bt:i=n
    ·subst bt;have a8:∀ k,k<i->k≠p->listed.getD k Τ=Ξ:=λk hk aw=>by
      have:=l1 k hk;simp only[Æ,decide_eq_true_eq] at this;rcases this with h|h
      ·exact absurd h aw
      ·exact Lh h hi
     have aw:k=p:=by
      apply ϩ;intro h';rw[a8 k hk h'] at ao;cases ao
     subst aw;exact G aq
    ·have T:=l2 i (by
      obtain⟨_,o,E,_⟩:=mem_ready.1 hi;exact (ϒ.1 E).1)
     simp only[Æ,decide_eq_true_eq] at T;rcases T with T|T
     ·omega
     ·have h3:=Lh T hi;have h5:=I.tail (i-1) (by omega) (by
       obtain⟨_,o,E,_⟩:=mem_ready.1 hi;have:=(ϒ.1 E).1;omega)
      rw[getD_both h5] at h3;cases h3
   exact wpOp_mono (λa' w' h=>Pk U hF H ab hd a7 ai hn hE hQ al ad an f _ a' w' (I.set hi J) h (key i hi J)) (W7 U hF ab hd M hi J (ad i J))
def Vv (ops:Array ϸ) (n sz p:Nat):Bool:=
 Fm ops n sz&&Kb ops n p&&Region.noSelect ops&&decide (p<n)&&decide (n<ops.size)&&E8 ops n&&Region.seqB .any ops (ops.size-n) n (Fo ops.size n)
theorem Z2 {id:Nat} {l:List ϸ} {a0:õ} {w:Κ} (n sz p:Nat) (hm:P.follows .mixedOrders=Ξ) (U:Vv l.toArray n sz p=Ξ) (aa:a0.tmps.size=sz) (hQ:∀ c a tm w,Q (.panic c) { tmps:=tm,defers:=a.defers } w->Q (.panic c) a w)
  (F:Nat->Ρ->Κ->Prop) (Ne:Nat->Nat->Ρ->Ρ->Prop) (aj:∀ i j v u,Ne i j v u->Ne j i u v) (hF:∀ i v w w',F i v w->Ext w w'->F i v w')
  (op:ϸ) (al:l[p]? = Δ op) (an:∀ (a:õ) (w:Κ),(∀ j dj,Mv l.toArray n p j dj=Ξ->F j (a.tmps.getD dj ς) w)->∃ v,∀ W,(Ú a.eval op).run P W=.ok (.value v) W)
  (ao:∀ i,i<n->FOp P l.toArray Q n F Ne a0 w.drew i) (aq:∀ (vs:Nat->Ρ) (w':Κ),Ext w.drew w'->(∀ i,i<n->F i (vs i) w')->(∀ i j,i<n->j<n->i≠j->Ne i j (vs i) (vs j))->wpList P l.toArray Q (l.drop n) (Bq l.toArray vs n a0) w'):(Code.region id l.toArray Ξ).wp P Q a0 w:=by
 simp only[Vv,ϝ,decide_eq_true_eq] at U;obtain⟨⟨⟨⟨⟨⟨hd,I⟩,ar⟩,hp⟩,hn⟩,hE⟩,ab⟩:=U;refine wp_region_any hm ?_;have ax:HeadInv .any l.toArray n (Array.replicate l.toArray.size Τ):=
  ⟨by simp,λj oj _ D=>(by rw[ϭ] at D;cases D),λt _ ht=>getD_in (by simpa using ht) (ϭ _ _)⟩
 have az:FInvR l.toArray n F Ne a0 w.drew (Array.replicate l.toArray.size Τ) a0 w.drew:=
  ⟨Ι _,rfl,rfl,λi o d _ _ _ D=>(by rw[ϭ] at D;cases D),λd _=>rfl,λi j _ _ _ _ _ _ _ _ _ _ _ D=>(by rw[ϭ] at D;cases D)⟩
 have hu:∀ m,unl m (Array.replicate l.toArray.size Τ)=m:=λm=>by
  induction m with
  | zero=>rfl
  | succ m ih=>rw[Fh,ih,ϭ];simp
 have H:=Pk (P:=P) (Q:=Q) (g:=(l.drop n).length) aj hF hp aa hd I ar hn hE hQ (λo listed a w ho ae G=>by
  obtain⟨_,o',a6,J⟩:=mem_ready.1 ae;have e1:o'=o:=ω (a6.symm.trans ho);subst e1;have e2:op=o':=by
   have:l.toArray[p]? = Δ op:=by rw[<-al];simp
   exact ω (this.symm.trans ho)
  subst e2;refine an a w λj dj h=>?_
  unfold Mv at h;simp only[ϝ,decide_eq_true_eq] at h;obtain⟨⟨hj,E⟩,h2⟩:=h;cases M:l.toArray[j]? with
  | none=>rw[M] at E;cases E
  | some oj=>
   rw[M] at E;exact G.done j oj dj hj M (of_decide_eq_true E) (Lh h2 ae)) ao (λlisted a w' T J G=>by
  obtain⟨vs,rfl,hv,bb⟩:=Xa aa hd G J;have I:listed=Fo l.toArray.size n:=by
   apply Array.ext
   ·rw[T.size];simp[Fo]
   ·intro i E h2;have h3:(Fo l.toArray.size n)[i]=decide (i<n):=by simp[Fo]
    rw[h3];by_cases hi:i<n
    ·have:=J i hi;rw[ϣ,Ϡ E] at this;simp only[à] at this;rw[this];simp[hi]
    ·have:=T.tail i (by omega) (by rw[<-T.size];exact E);rw[ϣ,Ϡ E] at this;simp only[à] at this;rw[this];simp[hi]
  have bd:l.toArray.size-n=(l.drop n).length:=by simp
  rw[bd] at ab;exact wpAny_of_seq (l.drop n) n listed _ w' (λj=>by simp[List.getElem?_drop]) (by rw[I];exact ab) (aq vs w' G.ext hv bb)) n _ a0 w.drew ax az (hu n)
 have e:n+(l.drop n).length=l.toArray.size:=by
  have:n<l.length:=by simpa using hn
  simp;omega
 rw[e] at H;exact H
end
def CanT (a:Dfa) (A:Array Ρ) (W:Κ):Prop:=∃ d,Cano d/\(∀ u,d.has u=a.has u)/\∀ W',Near W W'->IsT W' A (Ae d)
def PtrF (D:Nat) (v:Ρ) (W:Κ):Prop:=∃ g,v=γ (Δ ⟨g,0,Γ⟩)/\W.heap[g]? = Δ (Ε ξ 108 (0,0))/\D<=g
def Qv (w0:Κ) (D:Nat) (va E:Array Ρ) (a b:Dfa):Nat->Ρ->Κ->Prop
 | 0,v,_=>v=.agg va
 | 1,v,_=>∃ A,v=.agg A/\IsT w0 A (Ae a)
 | 2,v,W=>∃ d,Cano d/\(∀ u,d.has u=a.has u)/\∀ W',Near W W'->IsD W' v d
 | 3,v,W=>∃ A,v=.agg A/\CanT a A W
 | 4,v,_=>v=.agg E
 | 5,v,_=>∃ A,v=.agg A/\IsT w0 A (Ae b)
 | 6,v,W=>∃ d,Cano d/\(∀ u,d.has u=b.has u)/\∀ W',Near W W'->IsD W' v d
 | 7,v,W=>∃ A,v=.agg A/\CanT b A W
 | _,v,W=>PtrF D v W
def Qu (i j:Nat) (v u:Ρ):Prop:=(i=8/\j=9\/i=9/\j=8)->v≠u
theorem Al0 (i j:Nat) (v u:Ρ) (h:Qu i j v u):Qu j i u v:=λD=>(h (by omega)).symm
theorem CanT.ext {a:Dfa} {A:Array Ρ} {W W':Κ} (h:CanT a A W) (D:Ext W W'):CanT a A W':=by
 obtain⟨d,E,G,H⟩:=h;exact⟨d,E,G,λI J=>H I (J.pre D)⟩
theorem PtrF.ext {D:Nat} {v:Ρ} {W W':Κ} (h:PtrF D v W) (E:Ext W W'):PtrF D v W':=by
 obtain⟨g,G,H,I⟩:=h;exact⟨g,G,E.heap H,I⟩
theorem Al1 (w0:Κ) (M:Nat) (va T:Array Ρ) (a b:Dfa):∀ (i:Nat) (v:Ρ) (w w':Κ),Qv w0 M va T a b i v w->Ext w w'->Qv w0 M va T a b i v w'
 | 0,_,_,_,h,_=>h
 | 1,_,_,_,h,_=>h
 | 2,_,_,_,⟨d,E,G,H⟩,D=>⟨d,E,G,λI J=>H I (J.pre D)⟩
 | 3,_,_,_,⟨A,E,G⟩,D=>⟨A,E,G.ext D⟩
 | 4,_,_,_,h,_=>h
 | 5,_,_,_,h,_=>h
 | 6,_,_,_,⟨d,E,G,H⟩,D=>⟨d,E,G,λI J=>H I (J.pre D)⟩
 | 7,_,_,_,⟨A,E,G⟩,D=>⟨A,E,G.ext D⟩
 | _+8,_,_,_,h,D=>PtrF.ext h D
def TabF (D:Bool) (L:List UInt8->Prop) (A:Array Ρ) (W:Κ):Prop:=A.size=259/\A.all (·.oneCell')=Ξ/\
 (D=Ξ->∃ t,TVal t/\t.n.length<=4096/\(∀ u,t.has u=Ξ↔L u)/\∀ W',Near W W'->IsT W' A t)
theorem TabF.ext {D:Bool} {L:List UInt8->Prop} {A:Array Ρ} {W W':Κ} (h:TabF D L A W) (E:Ext W W'):TabF D L A W':=by
 obtain⟨G,H,I⟩:=h;refine⟨G,H,λJ=>?_⟩;obtain⟨t,t1,t2,t3,t4⟩:=I J;exact⟨t,t1,t2,t3,λM T=>t4 M (T.pre E)⟩
def Qc (E:Nat) (va:Array Ρ) (G f1:Ρ) (vs:Ρ) (f2 f3:Ρ) (D:Bool) (L:List UInt8->Prop):Nat->Ρ->Κ->Prop
 | 0,v,_=>v=.agg va
 | 1,v,_=>v=G
 | 2,v,_=>v=f1
 | 3,v,_=>v=.agg #[.int ζ 0,.int ζ 0,.int π 0]
 | 4,v,_=>v=vs
 | 5,v,_=>v=f2
 | 6,v,_=>v=f3
 | 7,v,W=>∃ A,v=ϥ #[.agg A,.bool D]/\TabF D L A W
 | 8,v,W=>∃ A,v=ϥ #[.agg A,.bool D]/\TabF D L A W
 | 9,v,W=>∃ A,v=.agg A/\TabF D L A W
 | 10,v,_=>v=.bool D
 | _,v,W=>PtrF E v W
def Qb (_ _:Nat) (_ _:Ρ):Prop:=True
theorem Akj (i j:Nat) (v u:Ρ) (_:Qb i j v u):Qb j i u v:=trivial
theorem Akk (H:Nat) (va:Array Ρ) (I f1:Ρ) (vs:Ρ) (f2 f3:Ρ) (J:Bool) (L:List UInt8->Prop):∀ (i:Nat) (v:Ρ) (w w':Κ),Qc H va I f1 vs f2 f3 J L i v w->Ext w w'->Qc H va I f1 vs f2 f3 J L i v w'
 | 0,_,_,_,h,_=>h
 | 1,_,_,_,h,_=>h
 | 2,_,_,_,h,_=>h
 | 3,_,_,_,h,_=>h
 | 4,_,_,_,h,_=>h
 | 5,_,_,_,h,_=>h
 | 6,_,_,_,h,_=>h
 | 7,_,_,_,⟨A,E,G⟩,D=>⟨A,E,G.ext D⟩
 | 8,_,_,_,⟨A,E,G⟩,D=>⟨A,E,G.ext D⟩
 | 9,_,_,_,⟨A,E,G⟩,D=>⟨A,E,G.ext D⟩
 | 10,_,_,_,h,_=>h
 | _+11,_,_,_,h,D=>PtrF.ext h D
theorem Amf:Η.built 116 []=Δ #[.int ζ 0,.int ζ 0,.int π 0]:=by kernel_rfl
theorem Qo (a b:Dfa) (ha:Val a) (hb:Val b) (cx:a.n.length<=64) (cy:b.n.length<=64) (va vb:Ρ) (w:Κ) (hT:Tab w) (a7:0<w.heap.size) (cz:IsD w va a) (c1:IsD w vb b) :
  Ϝ Η 31 #[va,vb] w λe w'=>∃ r,ResOf w' e r/\Fb a b r/\Ext w w':=by
 have c2:=Α cz;have c3:=Α c1;have ek:=Α ha;have en:=Α hb;obtain⟨ac,lc,cc,an,cn,aa,la,ca,rfl⟩:=cz.agg;obtain⟨hp,hq,hr,ht,hx,hy,hz,h0,rfl⟩:=c1.agg;have c4:=λW (D:Ext w W)=>Α (Eg a ha cx _ W (c2.out.ext D))
 have c5:=λW (D:Ext w W)=>Α (Eg b hb cy _ W (c3.out.ext D))
 have eo:=λW (D:Ext w W)=>Α (Jt a ha _ w W D (hT.below D.below a7) (ε a7 D.size) c2.out)
 have ep:=λW (D:Ext w W)=>Α (Jt b hb _ w W D (hT.below D.below a7) (ε a7 D.size) c3.out)
 have er:=Α (λW (D:Ext w W)=>hT.below D.below a7);obtain⟨Va,b8⟩:∃ X,dA (Β ac lc cc) (Β an a.n.length cn) (Β aa la ca)=X:=⟨_,rfl⟩;obtain⟨Vb,b9⟩:∃ X,dA (Β hp hq hr) (Β ht b.n.length hx) (Β hy hz h0)=X:=⟨_,rfl⟩;have et:(Η.info? 30).map (·.size)=Δ Va.size:=by rw[<-b8];exact Ad
 have eu:(Η.info? 30).map (·.size)=Δ Vb.size:=by rw[<-b9];exact Ad
 rw[b8] at c4 eo c2;rw[b9] at c5 ep c3;rw[b8,b9];have cb:=(((Ι w).alloc (Ε Va 30)).alloc (Ε Vb 30)).alloc (Ε #[Β Γ 0 0,Β Γ 0 0,Β Γ 0 0] 30);have H3:=Ag (Ag (Ab w (Ε Va 30)) (Ε Vb 30)) (Ε #[Β Γ 0 0,Β Γ 0 0,Β Γ 0 0] 30);have H4:=Ag (Ϙ w (Ε Va 30) (Ε Vb 30)) (Ε #[Β Γ 0 0,Β Γ 0 0,Β Γ 0 0] 30);have H6:=Ab ((w.alloc (Ε Va 30)).alloc (Ε Vb 30)) (Ε #[Β Γ 0 0,Β Γ 0 0,Β Γ 0 0] 30);rw[Λ,Λ] at H6;clear cz c1 ha hb hT b8 b9;go_enter Tryz.func31,Tryz.ntmps31;go_upto_region 1 with (fail)
 obtain⟨w1,cd⟩:∃ W,((w.alloc (Ε Va 30)).alloc (Ε Vb 30)).alloc (Ε #[Β Γ 0 0,Β Γ 0 0,Β Γ 0 0] 30)=W:=⟨_,rfl⟩;have ev:w.heap.size+1+1<w1.heap.size:=by rw[<-cd,Λ,Λ,Λ];omega
 rw[cd] at cb H3 H4 H6;simp only[cd];clear cd;have cf:=Α H3;have bg:=Α H4;have U:=Α H6;clear H3 H4 H6;go_upto_region 3 with (first
  | (refine Υ rfl 30 (η 2) rfl _ rfl _ _ _ _ cf.out Ν rfl et ?_)
  | (refine El rfl (wp_load_row 30 (η 3) rfl _ rfl _ _ _ _ bg.out Ν rfl eu ?_))
  | (go_at_call 47;(with_reducible refine (c4 _ cb).out.mono ?_);rintro e w2 ⟨rfl,bh⟩;have c8:=cb.trans bh;have bg:=Α (bh.heap bg.out))
  | (go_at_call 47;(with_reducible refine (c5 _ c8).out.mono ?_);rintro e w3 ⟨rfl,bj⟩;have ax:=c8.trans bj))
 have cf:=Α ((bh.trans bj).heap cf.out);have bg:=Α (bj.heap bg.out);have U:=Α ((bh.trans bj).heap U.out);have js:w.heap.size+1+1<w3.heap.size:=ε ev (bh.trans bj).size;clear c4 c5 cb bh c8 bj ev;refine Ht 10 57 (by kernel_rfl) (by kernel_rfl) rfl (Qv w w3.heap.size Va Vb a b) Qu Al0 (Al1 w w3.heap.size Va Vb a b) (λi hi=>?_) (λvs w4 ew I hN=>?_)
 ·have ab:=(Ι w3).drew
  match i,hi with
  | 0,_=>
   refine Ar _ _ rfl rfl rfl λc W D E G=>?_
   have J:=G 2 (by kernel_rfl);refine C4 (D2 30 (η 2) rfl w.heap.size J _ _ _ _ ((ab.trans D).heap cf.out) Ν rfl et) ?_;exact⟨_,rfl,Ι W,rfl,λj u _ _ _ h=>by omega⟩
  | 4,_=>
   refine Ar _ _ rfl rfl rfl λc W D E G=>?_
   have J:=G 3 (by kernel_rfl);refine C4 (D2 30 (η 3) rfl (w.heap.size+1) J _ _ _ _ ((ab.trans D).heap bg.out) Ν rfl eu) ?_;exact⟨_,rfl,Ι W,rfl,λj u _ _ _ h=>by omega⟩
  | 1,_=>
   refine Ar _ _ rfl rfl rfl λc W D E G=>?_
   have jt:c.tmps.getD 23 ς=.agg Va:=E 0 23 (by kernel_rfl);go_simp
   (with_reducible refine (eo W (ax.trans (ab.trans D))).out.mono ?_)
   rintro e W' ⟨A,rfl,hA,M⟩;exact⟨_,rfl,M,⟨A,rfl,hA⟩,λj u _ _ _ h=>by omega⟩
  | 5,_=>
   refine Ar _ _ rfl rfl rfl λc W D E G=>?_
   have ju:c.tmps.getD 27 ς=.agg Vb:=E 4 27 (by kernel_rfl);go_simp
   (with_reducible refine (ep W (ax.trans (ab.trans D))).out.mono ?_)
   rintro e W' ⟨A,rfl,hA,M⟩;exact⟨_,rfl,M,⟨A,rfl,hA⟩,λj u _ _ _ h=>by omega⟩
  | 2,_=>
   refine Ar _ _ rfl rfl rfl λc W D E G=>?_
   obtain⟨A,h5,bk⟩:∃ A,c.tmps.getD 24 ς=.agg A/\IsT w A (Ae a):=E 1 24 (by kernel_rfl);go_simp
   (with_reducible refine (Qw (Ae a) (Bm ek.out) (ψ cx (by omega)) A W (bk.ext (ax.trans (ab.trans D)))).mono ?_)
   rintro e W' ⟨v,d,rfl,hD,h1,h2,M⟩;exact⟨_,rfl,M,⟨d,h1,λu=>by rw[h2,Dn],hD⟩,λj u _ _ _ h=>by omega⟩
  | 6,_=>
   refine Ar _ _ rfl rfl rfl λc W D E G=>?_
   obtain⟨A,h5,bk⟩:∃ A,c.tmps.getD 28 ς=.agg A/\IsT w A (Ae b):=E 5 28 (by kernel_rfl);go_simp
   (with_reducible refine (Qw (Ae b) (Bm en.out) (ψ cy (by omega)) A W (bk.ext (ax.trans (ab.trans D)))).mono ?_)
   rintro e W' ⟨v,d,rfl,hD,h1,h2,M⟩;exact⟨_,rfl,M,⟨d,h1,λu=>by rw[h2,Dn],hD⟩,λj u _ _ _ h=>by omega⟩
  | 3,_=>
   refine Ar _ _ rfl rfl rfl λc W D E G=>?_
   obtain⟨d,h1,h2,J⟩:∃ d,Cano d/\(∀ u,d.has u=a.has u)/\∀ W',Near W W'->IsD W' (c.tmps.getD 25 ς) d:=E 2 25 (by kernel_rfl);obtain⟨v,hv⟩:∃ v,c.tmps.getD 25 ς=v:=⟨_,rfl⟩;rw[hv] at J;have br:=ax.trans (ab.trans D);go_simp
   (with_reducible refine (Nr d h1.val v W (er.out W br) (ε a7 br.size) (J W (Near.of_ext (Ι W)))).mono ?_)
   rintro e W' ⟨A,rfl,hA,M⟩;exact⟨_,rfl,M,⟨A,rfl,d,h1,h2,λW2 hN=>hA W2 (J W2 (hN.pre M))⟩,λj u _ _ _ h=>by omega⟩
  | 7,_=>
   refine Ar _ _ rfl rfl rfl λc W D E G=>?_
   obtain⟨d,h1,h2,J⟩:∃ d,Cano d/\(∀ u,d.has u=b.has u)/\∀ W',Near W W'->IsD W' (c.tmps.getD 29 ς) d:=E 6 29 (by kernel_rfl);obtain⟨v,hv⟩:∃ v,c.tmps.getD 29 ς=v:=⟨_,rfl⟩;rw[hv] at J;have br:=ax.trans (ab.trans D);go_simp
   (with_reducible refine (Nr d h1.val v W (er.out W br) (ε a7 br.size) (J W (Near.of_ext (Ι W)))).mono ?_)
   rintro e W' ⟨A,rfl,hA,M⟩;exact⟨_,rfl,M,⟨A,rfl,d,h1,h2,λW2 hN=>hA W2 (J W2 (hN.pre M))⟩,λj u _ _ _ h=>by omega⟩
  | 8,_=>
   refine Ar _ _ rfl rfl rfl λc W D E G=>?_
   go_simp;refine⟨_,rfl,(Ι W).alloc _,⟨_,rfl,Ab W _,(ab.trans D).size⟩,λj u _ _ hu h=>?_⟩;obtain rfl:j=9:=by omega
   obtain⟨g',rfl,db,-⟩:=hu;intro e;have:W.heap.size=g':=by simpa using e
   have:=An db;omega
  | 9,_=>
   refine Ar _ _ rfl rfl rfl λc W D E G=>?_
   go_simp;refine⟨_,rfl,(Ι W).alloc _,⟨_,rfl,Ab W _,(ab.trans D).size⟩,λj u _ _ hu h=>?_⟩;obtain rfl:j=8:=by omega
   obtain⟨g',rfl,db,-⟩:=hu;intro e;have:W.heap.size=g':=by simpa using e
   have:=An db;omega
 ·obtain⟨A1,ey,h8⟩:=I 1 (by omega);obtain⟨A,hA,x,dc,ez,bl⟩:=I 3 (by omega);obtain⟨B1,e0,h9⟩:=I 5 (by omega);obtain⟨B,hB,y,dd,e4,bm⟩:=I 7 (by omega);obtain⟨T,h6,H6,ia⟩:PtrF _ _ _:=I 8 (by omega);obtain⟨g7,h7,H7,ib⟩:PtrF _ _ _:=I 9 (by omega);have e6:T≠g7:=λe=>hN 8 9 (by omega) (by omega) (by omega) (by omega) (by rw[h6,h7,e])
  have e7:=(Ι w3).drew.trans ew;have bu:vs 0=.agg Va:=I 0 (by omega);have bw:vs 4=.agg Vb:=I 4 (by omega);obtain⟨v2,e8⟩:∃ v,vs 2=v:=⟨_,rfl⟩;obtain⟨v6,e9⟩:∃ v,vs 6=v:=⟨_,rfl⟩;simp only[Bq,ò,List.drop_zero,hA,hB,ey,e0,h6,h7,bu,bw,e8,e9,Ü,Ö,É,Option.bind_some,Ϛ,Θ,Χ,Ψ];clear I hN hA hB h6 h7 bu bw ey e0 e8 e9 h8 h9;obtain⟨_,_,_,_,_,_,dg,fa,_⟩:=(bl w4 (Near.of_ext (Ι w4))).opened (Bm dc.val);obtain⟨_,_,_,_,_,_,dh,fb,_⟩:=(bm w4 (Near.of_ext (Ι w4))).opened (Bm dd.val);have fc:(Η.info? 108).map (·.size)=Δ A.size:=by rw[dg];exact Cd
  have hiB:(Η.info? 108).map (·.size)=Δ B.size:=by rw[dh];exact Cd
  have fe:ξ.size=A.size:=by rw[Db,dg]
  have ff:ξ.size=B.size:=by rw[Db,dh]
  have cg:=B8 H7 (Ne.symm e6) A;have ch:=((e7.setRow ia A).setRow ib B);have G6:=B8 (μ w4 T _ A _ _ H6) e6 B;have G7:=μ (w4.setRow T A) g7 _ B _ _ cg;have a8:Near w4 ((w4.setRow T A).setRow g7 B):=((Near.of_ext (Ι w4)).setRow H6 Ng A).setRow cg Ng B;have bl:=bl _ a8;have bm:=bm _ a8;clear dg dh a8;go_upto_region 4 with (first
   | (refine Φ rfl 108 (η 6) (η 26) rfl _ _ rfl rfl _ _ H6 fc fe fa ?_)
   | (refine Φ rfl 108 (η 7) (η 30) rfl _ _ rfl rfl _ _ cg hiB ff fb ?_))
  obtain⟨w5,dn⟩:∃ W,(w4.setRow T A).setRow g7 B=W:=⟨_,rfl⟩;rw[dn] at ch G6 G7 bl bm;simp only[dn];clear dn e7 H6 H7 cg fe ff ew fa fb;have bx:=ax.trans ch;have U:=Α (ch.heap U.out);have bn:=Α dc;have bz:=Α dd;have cj:=Α ez;have ck:=Α e4;have ba:=Α bl;have bb:=Α bm;have bc:=Α G6;have bd:=Α G7;have hJ:=Α (Pp (Ae x) (Ae y) (Bm bn.out.val) (Bm bz.out.val) A B w5 ba.out bb.out);have fh:∀ c,ώ.size=(Au c).size:=λc=>by rw[F6,C3,C3]
  have fj:∀ c,(Η.info? 77).map (·.size)=Δ (Au c).size:=λc=>by rw[C3];exact Fj
  clear bl bm G6 G7 dc dd ez e4 ax ch;go_upto_region 5 with (first
   | (refine Υ rfl 108 (η 6) rfl _ rfl _ _ _ _ bc.out Ϭ rfl fc ?_)
   | (refine Υ rfl 108 (η 7) rfl _ rfl _ _ _ _ bd.out Ϭ rfl hiB ?_)
   | (go_at_call 70;(with_reducible refine hJ.out.mono ?_);rintro e w6 ⟨c,bs,vj,rfl,fk,fl,be⟩;have dp:=fh c;have dq:=fj c;have dr:=Hl c;obtain⟨A9,cl⟩:∃ X,Au c=X:=⟨_,rfl⟩;rw[cl] at dp dq dr;rw[cl])
   | (refine Φ rfl 77 (η 8) (η 35) rfl _ _ rfl rfl _ _ (Ab w6 (Ε ώ 77)) dq dp dr ?_))
  have ag:=be.trans (((Ι w6).alloc (Ε ώ 77)).setRow (θ _) A9);have H8:=μ (w6.alloc (Ε ώ 77)) w6.heap.size _ A9 _ _ (Ab w6 _);have du:=fl.ext (((Ι w6).alloc (Ε ώ 77)).setRow (θ _) A9);obtain⟨w7,dv⟩:∃ W,(w6.alloc (Ε ώ 77)).setRow w6.heap.size A9=W:=⟨_,rfl⟩;rw[dv] at ag H8 du;simp only[dv];clear dv be fl fh fj hJ dp dr;have bc:=Α (ag.heap bc.out);have bd:=Α (ag.heap bd.out);have U:=Α (ag.heap U.out);have ba:=Α (ba.out.ext ag);have bb:=Α (bb.out.ext ag);have fm:=bx.trans ag;have dw:=Α H8;have b4:=Α fk;have ie:=Α cl;clear H8 fk cl bx ag;generalize w6.heap.size=g8 at *;have ih:=(Ω (w7.alloc (Ε #[.nilFunc] 117)) w7.heap.size 0 _ _ _ (Ab w7 (Ε #[.nilFunc] 117))).trans (show (#[Ρ.nilFunc]:Array Ρ)[0]? = Δ .nilFunc from rfl);have ij:=Ϯ (w7.alloc (Ε #[.nilFunc] 117)) w7.heap.size 0 _ _ (Ab w7 (Ε #[.nilFunc] 117));go_upto_region 7 with (fail)
  have ao:=(Ι w7).alloc (Ε #[.func (.func 71) #[] #[γ (Δ ⟨T,0,Γ⟩)]] 117);have dx:=Ab w7 (Ε #[.func (.func 71) #[] #[γ (Δ ⟨T,0,Γ⟩)]] 117);obtain⟨w8,dy⟩:∃ W,w7.alloc (Ε #[.func (.func 71) #[] #[γ (Δ ⟨T,0,Γ⟩)]] 117)=W:=⟨_,rfl⟩;rw[dy] at ao dx;simp only[dy];clear dy ih ij;generalize w7.heap.size=bf at *;have ik:=Α (fm.trans ao);have bc:=Α (ao.heap bc.out);have bd:=Α (ao.heap bd.out);have dw:=Α (ao.heap dw.out);have U:=Α (ao.heap U.out);have ba:=Α (ba.out.ext ao);have bb:=Α (bb.out.ext ao);have il:=Α (du.ext ao);have fo:=Α dx;clear dx du fm ao;have im:0<bs.length:=by have:=b4.out.lt 0 (by omega);omega
  have iq:bs.length<=256:=by
   have:=Ij c 256 bs.length (λj hj=>⟨bs.getD j 0,(b4.out.byte j hj).1,(b4.out.byte j hj).2⟩);exact this
  have jz:(Ae x).n.length<=64:=ψ (Kx bn.out ek.out cj.out) cx;have ea:(Ae y).n.length<=64:=ψ (Kx bz.out en.out ck.out) cy;have fq:0<(Ae x).n.length:=(Bm bn.out.val).pos;have cm:=Α (Bm bn.out.val);have cp:=Α (Bm bz.out.val);obtain⟨H,fs⟩:∃ H:Bool,H=Ξ↔¬ B9 (cnx (Ae x) (Ae y)) (cst (Ae x)) 4096:=by
   by_cases hM:B9 (cnx (Ae x) (Ae y)) (cst (Ae x)) 4096
   ·exact⟨Τ,by simp[hM]⟩
   ·exact⟨Ξ,by simp[hM]⟩
  have cr:=Α fs;clear fs;obtain⟨Lc,eb⟩:∃ L,Cat (λu=>(Ae x).has u=Ξ) (λv=>(Ae y).has v=Ξ)=L:=⟨_,rfl⟩;have hX:=λW (D:Ext w8 W)=>Α (Ϝ.mono (Qa c bs im iq (λk hk=>(b4.out.byte k hk).1) (cSt (Ae x)) (cNx (Ae x) (Ae y)) (cAc (Ae y)) (Ky (Ae x))
   (λs hs=>⟨by have:=hs.1;omega,by have:=hs.2.1;omega,hs.2.2⟩) ⟨fq,rfl,Yl _ _ (by show 0<_;omega)⟩
   (λs hs k hk=>Al3 cm.out cp.out ea s hs k hk) 4096 (by omega) (by omega) 72 75 _ _ (enters_of Tryz.func72 (by kernel_rfl) rfl) (enters_of Tryz.func75 (by kernel_rfl) rfl) vj W (il.out.ext D)
   (Ali (Ae x) (Ae y) cm.out cp.out ea A B T g7 bf W (ba.out.ext D) (bb.out.ext D) (D.heap bc.out) (D.heap bd.out) (D.heap fo.out))
   (Aky (Ae x) (Ae y) cp.out ea B g7 W (bb.out.ext D) (D.heap bd.out)))
   (R':=λe w'=>∃ A,e=ν (ϥ #[.agg A,.bool H])/\TabF H Lc A w'/\Ext W w') λe w' ⟨M,h⟩=>by
    rcases h with⟨A,l,t,he,hT,ir,hl,_,iw⟩|⟨hM,he⟩
    ·obtain⟨h1,h2,J,h4⟩:=Alz cm.out cp.out b4.out ir hl;obtain⟨_,_,_,_,_,_,b5,ee,_⟩:=hT.opened h1;obtain rfl:H=Ξ:=cr.out.2 J;exact⟨A,he,⟨b5,ee,λ_=>⟨t,h1,h2,λu=>by rw[h4,eb],iw⟩⟩,M⟩
    ·have iy:=Vk hM stP (λs b=>Yk _ _ s b) (λw w' e=>Ll (M4 _ _ w) (M4 _ _ w') e);have iz:H=Τ:=by
      cases H
      ·rfl
      ·exact absurd iy (cr.out.1 rfl)
     subst iz;exact⟨ξ,he,⟨Db,Rd,λh=>by cases h⟩,M⟩)
  rw[ie.out] at hX;have f71:∀ W,Ext w8 W->Hid (Ϝ Η 71 #[.agg #[.int ζ 0,.int ζ 0,.int π 0],γ (Δ ⟨T,0,Γ⟩)] W λe w'=>e=ν (stV (cSt (Ae x)))/\Ext W w'):=λW D=>
   Α (X7 (Ae x) cm.out A T w8 ba.out bc.out W D 0 0 fq (by omega))
  have ja:=Α eb;clear eb;have ft:(Η.info? 77).map (·.size)=Δ A9.size:=dq;refine Z2 12 57 10 (by kernel_rfl) (by kernel_rfl) rfl (λ_ _ _ _ h=>h) (Qc w8.heap.size A9 vj (.func (.func 71) #[] #[γ (Δ ⟨T,0,Γ⟩)]) (stV (cSt (Ae x)))
   (.func (.func 72) #[] #[γ (Δ ⟨bf,0,Γ⟩),γ (Δ ⟨T,0,Γ⟩),γ (Δ ⟨g7,0,Γ⟩)]) (.func (.func 75) #[] #[γ (Δ ⟨g7,0,Γ⟩)]) H Lc) Qb Akj (Akk _ _ _ _ _ _ _ _ _) _ rfl (λc W E=>?_) (λi hi=>?_) (λvs w9 bx I hN=>?_)
  ·obtain⟨AX,jb,-⟩:∃ A,c.tmps.getD 39 ς=ϥ #[.agg A,.bool H]/\TabF H Lc A W:=E 8 39 (by kernel_rfl);exact⟨.bool H,λW=>by
    simp only[Ú,õ.eval,jb];rfl⟩
  ·have ab:=(Ι w8).drew
   match i,hi with
   | 0,_=>
    refine Ar _ _ rfl rfl rfl λc W D E G=>?_
    have J:=G 8 (by kernel_rfl);refine C4 (D2 77 (η 8) rfl g8 J _ _ _ _ ((ab.trans D).heap dw.out) Tryz.underlying77 rfl ft) ?_;exact⟨_,rfl,Ι W,rfl,λ_ _ _ _ _=>trivial⟩
   | 1,_=>
    refine Ar _ _ rfl rfl rfl λc W D E G=>?_
    have J:c.tmps.getD 9 ς=vj:=G 9 (by kernel_rfl);go_simp;exact⟨_,rfl,Ι W,rfl,λ_ _ _ _ _=>trivial⟩
   | 2,_=>
    refine Ar _ _ rfl rfl rfl λc W D E G=>?_
    have J:c.tmps.getD 10 ς=γ (Δ ⟨bf,0,Γ⟩):=G 10 (by kernel_rfl);have j1:=(Ω W bf 0 _ _ _ ((ab.trans D).heap fo.out)).trans (show (#[Ρ.func (.func 71) #[] #[γ (Δ ⟨T,0,Γ⟩)]]:Array Ρ)[0]? = Δ (.func (.func 71) #[] #[γ (Δ ⟨T,0,Γ⟩)]) from rfl);go_simp;exact⟨_,rfl,Ι W,rfl,λ_ _ _ _ _=>trivial⟩
   | 3,_=>
    refine Ar _ _ rfl rfl rfl λc W D E G=>?_
    refine C4 (Hh 116 _ rfl (by simpa [õ.eval] using Amf) W) ?_;exact⟨_,rfl,Ι W,rfl,λ_ _ _ _ _=>trivial⟩
   | 4,_=>
    refine Ar _ _ rfl rfl rfl λc W D E G=>?_
    have j2:c.tmps.getD 42 ς=.func (.func 71) #[] #[γ (Δ ⟨T,0,Γ⟩)]:=E 2 42 (by kernel_rfl);have j3:c.tmps.getD 43 ς=.agg #[.int ζ 0,.int ζ 0,.int π 0]:=E 3 43 (by kernel_rfl);have j4:=enters_of Tryz.func71 (by kernel_rfl) rfl;go_simp
    (with_reducible refine (f71 W (ab.trans D)).out.mono ?_)
    rintro e W' ⟨rfl,M⟩;exact⟨_,rfl,M,rfl,λ_ _ _ _ _=>trivial⟩
   | 5,_=>
    refine Ar _ _ rfl rfl rfl λc W D E G=>?_
    have J:=G 11 (by kernel_rfl);replace J:c.tmps.getD 11 ς=.func (.func 72) #[] #[γ (Δ ⟨bf,0,Γ⟩),γ (Δ ⟨T,0,Γ⟩),γ (Δ ⟨g7,0,Γ⟩)]:=J;go_simp;exact⟨_,rfl,Ι W,rfl,λ_ _ _ _ _=>trivial⟩
   | 6,_=>
    refine Ar _ _ rfl rfl rfl λc W D E G=>?_
    have J:c.tmps.getD 7 ς=γ (Δ ⟨g7,0,Γ⟩):=G 7 (by kernel_rfl);go_simp;exact⟨_,rfl,Ι W,rfl,λ_ _ _ _ _=>trivial⟩
   | 7,_=>
    refine Ar _ _ rfl rfl rfl λc W D E G=>?_
    have j5:c.tmps.getD 40 ς=.agg A9:=E 0 40 (by kernel_rfl);have j6:c.tmps.getD 41 ς=vj:=E 1 41 (by kernel_rfl);have j7:c.tmps.getD 44 ς=stV (cSt (Ae x)):=E 4 44 (by kernel_rfl);have j8:c.tmps.getD 45 ς=.func (.func 72) #[] #[γ (Δ ⟨bf,0,Γ⟩),γ (Δ ⟨T,0,Γ⟩),γ (Δ ⟨g7,0,Γ⟩)]:=E 5 45 (by kernel_rfl);have j9:c.tmps.getD 46 ς=.func (.func 75) #[] #[γ (Δ ⟨g7,0,Γ⟩)]:=E 6 46 (by kernel_rfl);go_simp;refine (hX W (ab.trans D)).out.mono ?_;rintro e W' ⟨A',rfl,hT,M⟩;exact⟨_,rfl,M,⟨A',rfl,hT⟩,λ_ _ _ _ _=>trivial⟩
   | 8,_=>
    refine Ar _ _ rfl rfl rfl λc W D E G=>?_
    obtain⟨AX,fu,hT⟩:∃ A,c.tmps.getD 47 ς=ϥ #[.agg A,.bool H]/\TabF H Lc A W:=E 7 47 (by kernel_rfl);go_simp;exact⟨_,rfl,Ι W,⟨AX,rfl,hT⟩,λ_ _ _ _ _=>trivial⟩
   | 9,_=>
    refine Ar _ _ rfl rfl rfl λc W D E G=>?_
    obtain⟨AX,fu,hT⟩:∃ A,c.tmps.getD 39 ς=ϥ #[.agg A,.bool H]/\TabF H Lc A W:=E 8 39 (by kernel_rfl);go_simp;exact⟨_,rfl,Ι W,⟨AX,rfl,hT⟩,λ_ _ _ _ _=>trivial⟩
   | 10,_=>
    refine Ar _ _ rfl rfl rfl λc W D E G=>?_
    obtain⟨AX,fu,hT⟩:∃ A,c.tmps.getD 39 ς=ϥ #[.agg A,.bool H]/\TabF H Lc A W:=E 8 39 (by kernel_rfl);go_simp;exact⟨_,rfl,Ι W,rfl,λ_ _ _ _ _=>trivial⟩
   | 11,_=>
    refine Ar _ _ rfl rfl rfl λc W D E G=>?_
    go_simp;exact⟨_,rfl,(Ι W).alloc _,⟨_,rfl,Ab W _,(ab.trans D).size⟩,λ_ _ _ _ _=>trivial⟩
  ·have bu:vs 0=.agg A9:=I 0 (by omega);have fv:vs 1=vj:=I 1 (by omega);have ct:=I 2 (by omega);have fw:vs 3=.agg #[.int ζ 0,.int ζ 0,.int π 0]:=I 3 (by omega);have bw:vs 4=stV (cSt (Ae x)):=I 4 (by omega);have cu:=I 5 (by omega);have cv:=I 6 (by omega);replace ct:vs 2=.func (.func 71) #[] #[γ (Δ ⟨T,0,Γ⟩)]:=ct;replace cu:vs 5=.func (.func 72) #[] #[γ (Δ ⟨bf,0,Γ⟩),γ (Δ ⟨T,0,Γ⟩),γ (Δ ⟨g7,0,Γ⟩)]:=cu;replace cv:vs 6=.func (.func 75) #[] #[γ (Δ ⟨g7,0,Γ⟩)]:=cv;obtain⟨A7,fx,-⟩:∃ A,vs 7=ϥ #[.agg A,.bool H]/\TabF H Lc A w9:=I 7 (by omega);obtain⟨A8,fy,-⟩:∃ A,vs 8=ϥ #[.agg A,.bool H]/\TabF H Lc A w9:=I 8 (by omega);obtain⟨AT,fz,b5,ee,ga⟩:∃ A,vs 9=.agg A/\TabF H Lc A w9:=I 9 (by omega);have gb:vs 10=.bool H:=I 10 (by omega);obtain⟨ef,gd,cw,jd⟩:PtrF _ _ _:=I 11 (by omega);simp only[Bq,ò,List.drop_zero,bu,fv,ct,fw,bw,cu,cv,fx,fy,fz,gb,gd,Ü,Ö,É,Option.bind_some,Ϛ,Θ,Χ,Ψ];clear I hN bu fv ct fw bw cu cv fx fy fz gb gd;have gf:(Η.info? 108).map (·.size)=Δ AT.size:=by rw[b5];exact Cd
   have je:ξ.size=AT.size:=by rw[Db,b5]
   have be:=((Ι w8).drew.trans bx).setRow jd AT;have eg:=μ w9 ef _ AT _ _ cw;have a8:Near w9 (w9.setRow ef AT):=(Near.of_ext (Ι w9)).setRow cw Ng AT;clear b5;go_upto_region 8 with (refine Φ rfl 108 (η 12) (η 48) rfl _ _ rfl rfl _ _ cw gf je ee ?_)
   obtain⟨gg,eh⟩:∃ W,w9.setRow ef AT=W:=⟨_,rfl⟩;rw[eh] at be eg a8;simp only[eh];clear eh bx cw;have jf:=Α eg;have U:=Α (be.heap U.out);have gh:=Α (ik.out.trans be);clear be eg hX f71 ft;cases H
   ·have jg:=Α Fa;go_wp2_with (first
     | (refine B3 rfl 30 _ rfl #[Β Γ 0 0,Β Γ 0 0,Β Γ 0 0] ?_ ?_;(simp;with_reducible exact jg.out))
     | (refine Φ rfl 30 (η 4) (η 52) rfl _ _ rfl rfl _ _ U.out Ad rfl Ew ?_))
    refine ϋ (v:=ϥ #[zD,.int ζ 2]) (Ba rfl _ _ _ _ _ _ _ rfl _ rfl (μ gg _ _ #[Β Γ 0 0,Β Γ 0 0,Β Γ 0 0] 30 (0,0) U.out) Ν rfl Ad) rfl ?_;exact⟨Γ,rfl,⟨x,y,bn.out,bz.out,cj.out,ck.out,λ_=>rfl,λh=>absurd (cr.out.2 h) (by simp)⟩,gh.out.setRow (by omega) _⟩
   ·obtain⟨t,gi,jh,gj,bk⟩:=ga rfl;have hL:=Α (Pb t gi (show t.n.length<=65536 by omega) AT gg (bk _ a8));have jj:=Α gj;have jk:=Α (cr.out.1 rfl);clear bk gi jh gj a8 ga;go_wp2_with (first
     | (refine Υ rfl 108 (η 12) rfl _ rfl _ _ _ _ jf.out Ϭ rfl gf ?_)
     | (go_at_call 77;(with_reducible refine hL.out.mono ?_);rintro e jl ⟨r,ei,gk,ag⟩;obtain⟨gl,gm,gn,gp,gq,gr,gu,gv,gw,k2,rfl⟩:=ei.form;have jn:=Α ei;have gx:=Α gk;clear ei gk;have U:=Α (ag.heap U.out))
     | (refine Φ rfl 30 (η 4) (η 55) rfl _ _ rfl rfl _ _ U.out Ad rfl (Ap _ _ _ rfl rfl rfl) ?_))
    refine ϋ (v:=ϥ #[.agg (dA (Β gl gm gn) (Β gp gq gr) (Β gu gv gw)),.int ζ k2]) (Ba rfl _ _ _ _ _ _ _ rfl _ rfl (μ jl _ _ (dA (Β gl gm gn) (Β gp gq gr) (Β gu gv gw)) 30 (0,0) U.out) Ν rfl Ad) rfl ?_;refine⟨r,jn.out.setRow (Hc gx.out) U.out _,⟨x,y,bn.out,bz.out,cj.out,ck.out,λh=>absurd h jk.out,λ_=>Is gx.out λu=>?_⟩,(gh.out.trans ag).setRow (by omega) _⟩;rw[jj.out,<-ja.out];have e1:(λu=>(Ae x).has u=Ξ)=λu=>a.has u=Ξ:=funext λu=>by rw[Dn,cj.out]
    have e2:(λu=>(Ae y).has u=Ξ)=λu=>b.has u=Ξ:=funext λu=>by rw[Dn,ck.out]
    rw[e1,e2]
def Ca (L:List UInt8->Bool):Nat->List (List UInt8)
 | 0=>[]
 | n+1=>Ca L n++Bp L n
def Bw (L:List UInt8->Bool):Nat->Nat
 | 0=>0
 | n+1=>Bw L n+A5 L n
theorem Ir (L:List UInt8->Bool):∀ n,(Ca L n).length=Bw L n
 | 0=>rfl
 | n+1=>by simp only[Ca,Bw,List.length_append,Ir L n,A5]
theorem Vn (L:List UInt8->Bool) (w:List UInt8):∀ n,w∈Ca L n↔w.length<n/\L w=Ξ
 | 0=>by simp[Ca]
 | n+1=>by
  simp only[Ca,Ó,Vn L w n,F7];constructor
  ·rintro (⟨E,D⟩|⟨E,D⟩)
   ·exact⟨by omega,D⟩
   ·exact⟨by omega,D⟩
  ·rintro⟨E,D⟩;by_cases h:w.length=n
   ·exact .inr ⟨h,D⟩
   ·exact .inl ⟨by omega,D⟩
def Dm (L:List UInt8->Bool) (n k:Nat):List (List UInt8):=(ι k).flatMap λb=>(Bp (λw=>L (χ b::w)) n).map (χ b::·)
theorem I0 (L:List UInt8->Bool) (n k:Nat):Dm L n (k+1)=Dm L n k++(Bp (λw=>L (χ k::w)) n).map (χ k::·):=by
 simp[Dm,List.range_succ,List.flatMap_append]
theorem Ww (L:List UInt8->Bool) (n:Nat):Dm L n 256=Bp L (n+1):=rfl
theorem Aaa {L:List UInt8->Bool} {n:Nat} (h:A5 L n=0):Bp L n=[]:=List.eq_nil_of_length_eq_zero h
theorem My (L:List UInt8->Bool) {a b:Nat} (h:a<=b):Bw L a<=Bw L b:=by
 induction h with
 | refl=>exact θ _
 | step _ D=>exact ψ D (Nat.le_add_right _ _)
end Go.Proofs.YtaiogolidlamiaaGreatDoor
