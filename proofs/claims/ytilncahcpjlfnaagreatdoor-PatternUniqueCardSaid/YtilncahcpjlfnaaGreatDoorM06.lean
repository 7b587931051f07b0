import Derived.Deep.MidRow
import Derived.Test.YtilncahcpjlfnaaGreatDoorM05
import Derived.Laws.EntriesVeiled
import Derived.Test.YtilncahcpjlfnaaGreatDoorM04
import Derived.Test.YtilncahcpjlfnaaGreatDoorM02
set_option linter.unusedVariables false
set_option linter.unusedSimpArgs false
set_option maxRecDepth 100000
set_option maxHeartbeats 2000000
open Array renaming getD_eq_getD_getElem? → ϕ, getElem?_eq_getElem → Ϛ, getElem?_eq_some_iff → ϝ, replicate → í
open Bool renaming eq_iff_iff → Ϸ, true → Α, false → Ε, and_eq_true → ψ, or_eq_true → Û
open Classical renaming byContradiction → Ë
open Go renaming Value → Δ, World → Γ, Calls → ϛ, heap_alloc2_new → ϒ, cell_of_row → Τ, wpList_load_mid → å, setRow_heap → Χ, frozen_of_row → È, bodyPost_ret → ω, results_cell_row → Ì, setCell_eq_setRow → Ϭ, Oper → ϳ, execOp → ê, undef → Ω, getD_replicate_false → Ϡ
open Go.Act renaming eval → á, put → η
open Go.Ending renaming returned → Ψ
open Go.IntKind renaming i64 → Φ, u64 → ζ, u64 → ϯ
open Go.Lib renaming hid → Z
open Go.Obj renaming cells → Β
open Go.Operand renaming tmp → δ
open Go.Proofs.Tryz renaming prog → Η, underlying84 → ϸ, underlying103 → Î, zeroCells84 → γ, underlying40 → Ο, zeroCells82 → Ϣ
open Go.Region renaming waitsFor → ý, ready → ϻ
open Go.RowKit renaming Hid → ϟ
open Go.Value renaming pointer → ε, oneCell' → ξ, slice → U, tuple → ϗ
open Go.World renaming size_alloc → Ρ
open List renaming nodup_iff_pairwise_ne → à, length_map → ι, getElem?_map → ν, mem_map → ϴ, setIfInBounds_toArray → Θ, set_cons_zero → Μ, set_cons_succ → Λ, range → π, all_eq_true → Í, mem_range → ϔ, drop_succ_cons → Ä, drop_zero → ϰ, getElem?_toArray → Ã, getElem?_cons_zero → Å, getElem?_cons_succ → Æ, foldl_append → ÿ
open Nat renaming le_refl → Υ, lt_of_lt_of_le → Ξ, le_trans → μ
open Option renaming some → J, none → I, getD_some → ϱ, bind_some → ó
open Option.some renaming inj → ό
namespace Go.Proofs.YtilncahcpjlfnaaGreatDoor
open Go.RowKit Go.Shelf
theorem CX {σ τ:Type} {nx:σ->Nat->σ} {E:τ->Nat->τ} (φ:σ->τ) (h:∀ s b,φ (nx s b)=E (φ s) b) (w:List UInt8):∀ s,φ (Aq nx s w)=Aq E (φ s) w:=by
 induction w with
 | nil=>exact λs=>rfl
 | cons x w G=>intro s;show φ (Aq nx (nx s x.toNat) w)=Aq E (E (φ s) x.toNat) w;rw[G,h]
theorem Xn {σ τ:Type} {nx:σ->Nat->σ} {st:σ} (φ:σ->τ) (hi:∀ w w',φ (Aq nx st w)=φ (Aq nx st w')->Aq nx st w=Aq nx st w') (l:List σ) (G:l.Nodup) (E:∀ s,s∈l->∃ w,Aq nx st w=s):(l.map φ).Nodup:=by rw[à,List.pairwise_map];refine List.Pairwise.imp_of_mem (λ{a b} H hb T e=>T ?_) (à.1 G);obtain⟨w,rfl⟩:=E a H;obtain⟨w',rfl⟩:=E b hb;exact hi w w' e
theorem Expl.conv {σ τ:Type} {c:Nat->Nat} {bs:List Nat} {st:σ} {nx:σ->Nat->σ} {ac:σ->Bool} {l:List σ} {t:Tbl} (h:Expl c bs st nx ac l t) (φ:σ->τ) {G:τ->Nat->τ} {H:τ->Bool} (T:∀ s b,φ (nx s b)=G (φ s) b) (X:∀ s,ac s=H (φ s))
  (hi:∀ w w',φ (Aq nx st w)=φ (Aq nx st w')->Aq nx st w=Aq nx st w'):Expl c bs (φ st) G H (l.map φ) t where
 cell:=h.cell
 cells:=h.cells
 len:=by rw[ι];exact h.len
 acl:=by rw[ι];exact h.acl
 pos:=by rw[ι];exact h.pos
 nodup:=Xn φ hi l h.nodup λs E=>by obtain⟨i,hi⟩:=List.getElem?_of_mem E;exact h.reach i s hi
 zero:=by rw[ν,h.zero];rfl
 row:=λi hl=>h.row i (by simpa using hl)
 tgt:=λi s E k hk=>by rw[ν] at E;obtain⟨x,hx,rfl⟩:=Option.map_eq_some_iff.1 E;obtain⟨h1,h2⟩:=h.tgt i x hx k hk;exact⟨by simpa using h1,by rw[ν,h2,<-T];rfl⟩
 acc:=λi s E=>by rw[ν] at E;obtain⟨x,hx,rfl⟩:=Option.map_eq_some_iff.1 E;rw[h.acc i x hx,X]
 reach:=λi s E=>by rw[ν] at E;obtain⟨x,hx,rfl⟩:=Option.map_eq_some_iff.1 E;obtain⟨w,rfl⟩:=h.reach i x hx;exact⟨w,(CX φ T w st).symm⟩
theorem X7 {σ τ:Type} {st:σ} {nx:σ->Nat->σ} {m:Nat} (h:Cx nx st m) (φ:σ->τ) {E:τ->Nat->τ} (H:∀ s b,φ (nx s b)=E (φ s) b) (hi:∀ w w',φ (Aq nx st w)=φ (Aq nx st w')->Aq nx st w=Aq nx st w'):Cx E (φ st) m:=by obtain⟨l,h1,G,T⟩:=h;refine⟨l.map φ,Xn φ hi l h1 G,λs X=>?_,by simpa using T⟩;obtain⟨x,hx,rfl⟩:=ϴ.1 X;obtain⟨w,rfl⟩:=G x hx;exact⟨w,(CX φ H w st).symm⟩
theorem Z6 {σ:Type} [DecidableEq σ] {c:Nat->Nat} {bs:List Nat} {st:σ} {nx:σ->Nat->σ} {ac:σ->Bool} {l:List σ} {t:Tbl} (h:Expl c bs st nx ac l t) {a b:Nat->Nat} (E:Joint a b c bs) (G:∀ s x,x<256->nx s (bs.getD (c x) 0)=nx s x) {m:Nat} (hm:l.length<=m):¬ Cx nx st m:=by
 refine N3 l (λw=>?_) hm;have:∀ (w:List UInt8) i s,l[i]? = J s->Aq nx s w∈l:=λw=>by
  induction w with
  | nil=>intro i s hi;exact List.mem_of_getElem? hi
  | cons x w H=>intro i s hi;have h1:=(h.tgt i s hi _ (E.lt _ x.toNat_lt)).2;rw[G s _ x.toNat_lt] at h1;exact H _ _ h1
 exact this w 0 st h.zero
def stP (s:Sta):Nat × Nat:=(s.p,s.s)
theorem M6 {s t:Sta} (E:s.q=0) (G:t.q=0) (h:stP s=stP t):s=t:=by
 cases s;cases t
 simp[stP] at h E G;simp[h,E,G]
def sNx (x:Tbl) (s:Sta) (b:Nat):Sta:=⟨0,0,if Cy x (A5 x s.s b x.n.length) then A5 x s.s b x.n.length ||| 1 else A5 x s.s b x.n.length⟩
def sAc (x:Tbl) (s:Sta):Bool:=s.p==1||Cy x s.s
def Nc (s:Sta):Prop:=s.p<2/\s.q=0/\s.s<18446744073709551616
theorem IZ {x:Tbl} (hx:TVal x) (E:x.n.length<=64) (s:Sta) (b:Nat) (hb:b<256):Nc (sNx x s b):=by
 refine⟨by show 0<2;omega,rfl,?_⟩;have h:=Jb hx E s.s b hb _ (Υ _);unfold sNx;simp only;split
 ·exact Nat.or_lt_two_pow (n:=64) h (by omega)
 exact h
theorem Nb (x:Tbl) (w:List UInt8):(Aq (sNx x) ⟨1,0,1⟩ w).q=0:=by
 induction w using Hb with
 | h0=>rfl
 | h1 w y E=>rw[E9];rfl
theorem i114:(Η.info? 101).map (·.size)=J 1:=by kernel_rfl
theorem XK (x:Int):Η.built 103 [(2,.agg #[.int ζ x])]=J #[.int Φ 0,.int Φ 0,.int ζ x]:=by kernel_rfl
theorem W7 (x:Nat) (hx:x<18446744073709551616):bits BinOp.or ϯ (x:Int) 1=((x ||| 1:Nat):Int):=by rw[show (1:Int)=((1:Nat):Int) from rfl,u64_or_nat _ _ hx (by omega)]
theorem IH (x:Tbl) (hx:TVal x) (hn:x.n.length<=64) (A:Array Δ) (gx:Nat) (w:Γ) (hA:IsT w A x) (ab:w.heap[gx]? = J (Β A 84 (0,0))) :
  Pb w 115 #[ε (J ⟨gx,0,I⟩)] (sNx x) Nc:=by
 intro W hW s hs b hb;obtain⟨-,-,bn⟩:=hs;have ad:=hA.ext hW;obtain⟨_,_,_,_,_,_,bp,b0,_⟩:=ad.opened hx;have bb:(Η.info? 84).map (·.size)=J A.size:=by rw[bp];exact Ci
 have ab:=hW.heap ab;have f73:=λV (hV:Ext W V)=>Z (Uu x hx hn A s.s bn b hb V (ad.ext hV))
 have bc:=Jb hx hn s.s b hb _ (Υ _);have f76:=λV (hV:Ext W V)=>Z (P1 x hx hn A (A5 x s.s b x.n.length) bc V (ad.ext hV))
 show ϛ _ _ _ _ λe w'=>e=Ψ (.agg #[.int Φ ((0:Nat):Int),.int Φ ((0:Nat):Int),.int ζ ((if Cy x (A5 x s.s b x.n.length) then A5 x s.s b x.n.length ||| 1 else A5 x s.s b x.n.length:Nat):Int)])/\Ext W w'
 have ae:=((Κ W).alloc (Β #[iv s.p,iv s.q,.int ζ (s.s:Int)] 103)).alloc (Β #[.int Φ 0,.int Φ 0,.int ζ 0] 103);have H3:=Ah (Ad W (Β #[iv s.p,iv s.q,.int ζ (s.s:Int)] 103)) (Β #[.int Φ 0,.int Φ 0,.int ζ 0] 103);have H5:=ϒ W (Β #[iv s.p,iv s.q,.int ζ (s.s:Int)] 103) (Β #[.int Φ 0,.int Φ 0,.int ζ 0] 103);generalize A5 x s.s b x.n.length=T at *;generalize Cy x T=bo at *;have HO:=Z (W7 T bc);clear hA ad hW;go_enter Tryz.func115,Tryz.ntmps115;go_upto_region 1 with (fail)
 obtain⟨w1,af⟩:=Xq ((W.alloc (Β #[iv s.p,iv s.q,.int ζ (s.s:Int)] 103)).alloc (Β #[.int Φ 0,.int Φ 0,.int ζ 0] 103));have b4:W.heap.size+1<w1.heap.size:=by rw[<-af,Ρ,Ρ];omega
 rw[af] at ae H3 H5;simp only[af];clear af;have ag:=Z (ae.heap ab);have be:w1.rangeAt W.heap.size 2 [.int ζ (s.s:Int)]:=λj v hv=>by
  obtain rfl:j=0:=by
   rcases j with _|j
   ·rfl
   simp at hv
  rw[Τ w1 W.heap.size _ _ _ _ H3];exact hv
 have E:=Z H5;have bg:=Z ae;clear H3 H5 ab ae;go_upto_region 2 with (first
  | (refine Lr 84 (δ 2) ag.o ϸ bb ?_)
  | (refine å rfl 101 (δ 8) rfl _ 2 rfl _ _ be Tryz.underlying101 rfl i114 ?_)
  | (go_at_call 45;(with_reducible refine (f73 _ bg.o).o.mono ?_);rintro e H ⟨rfl,ax⟩)
  | (refine Sr 101 (δ 6) (δ 11) rfl (Ad H (Β #[.int ζ 0] 101)) i114 rfl (Xc _) ?_))
 have ay:=((Κ H).alloc (Β #[.int ζ 0] 101)).setRow (Υ _) #[.int ζ (T:Int)];have H6:=Χ (H.alloc (Β #[.int ζ 0] 101)) H.heap.size _ #[.int ζ (T:Int)] _ _ (Ad H _);obtain⟨w3,a1⟩:=Xq ((H.alloc (Β #[.int ζ 0] 101)).setRow H.heap.size #[.int ζ (T:Int)]);rw[a1] at ay H6;simp only[a1];clear a1;have ah:=ax.t ay;have b6:=ax.size;have E:=Z (ah.heap E.o);have ag:=Z (ah.heap ag.o);have G:=Z H6;have bh:=Z (bg.o.t ah);generalize H.heap.size=X at *;clear H6 ax ay ah be f73;go_upto_if 14 with (first
  | (refine Lr 84 (δ 2) ag.o ϸ bb ?_)
  | (refine Lr 101 (δ 6) G.o Tryz.underlying101 i114 ?_)
  | (go_at_call 48;(with_reducible refine (f76 _ bh.o).o.mono ?_);rintro e w5 ⟨rfl,a6⟩;have E:=Z (a6.heap E.o);have G:=Z (a6.heap G.o);have bj:=Z (bh.o.t a6)))
 have c6:=(Τ w5 X 0 _ _ _ G.o).trans (show (#[Δ.int ζ (T:Int)])[0]? = J (.int ζ (T:Int)) from rfl);have f6:=È w5 X 0 _ _ G.o;have bk:=λz=>Z (XK z)
 cases bo
 ·go_wp2_with (first
   | (refine Lr 101 (δ 6) G.o Tryz.underlying101 i114 ?_)
   | (refine Bk rfl 103 _ rfl #[.int Φ 0,.int Φ 0,.int ζ (T:Int)] ?_ ?_;(simp[á];with_reducible exact (bk _).o))
   | (refine Sr 103 (δ 5) (δ 20) rfl E.o Ea rfl (by simp[ξ]) ?_))
  refine ω (v:=.agg #[.int Φ 0,.int Φ 0,.int ζ (T:Int)]) (Ì rfl _ _ _ _ _ _ _ rfl (Χ w5 _ _ _ 103 (0,0) E.o) Î rfl Ea) rfl ?_;exact⟨rfl,bj.o.setRow (by omega) _⟩
 go_upto_region 4 with (fail)
 have bl:w5.setCell ⟨X,0,I⟩ (.int ζ (bits BinOp.or ϯ (T:Int) 1))=w5.setRow X #[.int ζ ((T ||| 1:Nat):Int)]:=by rw[Ϭ w5 _ _ _ _ _ _ G.o,HO.o];rfl
 have bt:W.heap.size+1≠X:=λe=>by
  have h1:=E.o;rw[e,G.o] at h1;injection h1 with h1
  injection h1 with h1 _
  simp at h1
 rw[bl];have ai:=Χ w5 X _ #[.int ζ ((T ||| 1:Nat):Int)] _ _ G.o;have aj:=Bm E.o bt #[.int ζ ((T ||| 1:Nat):Int)];have ak:=bj.o.setRow (show W.heap.size<=X by omega) #[.int ζ ((T ||| 1:Nat):Int)];obtain⟨z,hz⟩:=Xq (((T ||| 1:Nat):Int):Int);rw[hz] at ai aj ak;rw[hz];obtain⟨w6,a7⟩:=Xq (w5.setRow X #[.int ζ z]);rw[a7] at ai aj ak;rw[a7];have G:=Z ai;have E:=Z aj;have bw:=Z ak;have HZ:=Z hz;clear c6 f6 bl aj ai ak hz HO a7;go_wp2_with (first
  | (refine Lr 101 (δ 6) G.o Tryz.underlying101 i114 ?_)
  | (refine Bk rfl 103 _ rfl #[.int Φ 0,.int Φ 0,.int ζ z] ?_ ?_;(simp[á];with_reducible exact (bk _).o))
  | (refine Sr 103 (δ 5) (δ 20) rfl E.o Ea rfl (by simp[ξ]) ?_))
 refine ω (v:=.agg #[.int Φ 0,.int Φ 0,.int ζ z]) (Ì rfl _ _ _ _ _ _ _ rfl (Χ w6 _ _ _ 103 (0,0) E.o) Î rfl Ea) rfl ?_;exact⟨by rw[<-HZ.o],bw.o.setRow (by omega) _⟩
theorem GA (x:Tbl) (hx:TVal x) (hn:x.n.length<=64) (A:Array Δ) (gx:Nat) (w:Γ) (hA:IsT w A x) (E:w.heap[gx]? = J (Β A 84 (0,0))) :
  O9 w 116 #[ε (J ⟨gx,0,I⟩)] (sAc x) Nc:=by
 intro W T s hs;obtain⟨hp,-,ag⟩:=hs;have X:=hA.ext T;obtain⟨_,_,_,_,_,_,aw,a1,_⟩:=X.opened hx;have ah:(Η.info? 84).map (·.size)=J A.size:=by rw[aw];exact Ci
 have E:=T.heap E;have f76:=λV (hV:Ext W V)=>Z (P1 x hx hn A s.s ag V (X.ext hV))
 show ϛ _ _ _ _ λe w'=>e=Ψ (.bool (s.p==1||Cy x s.s))/\Ext W w'
 have G:=(Κ W).alloc (Β #[iv s.p,iv s.q,.int ζ (s.s:Int)] 103);have H:=Ad W (Β #[iv s.p,iv s.q,.int ζ (s.s:Int)] 103);generalize Cy x s.s=bo at *;clear hA X T;go_enter Tryz.func116,Tryz.ntmps116;go_upto_region 1 with (fail)
 obtain⟨w1,aa⟩:=Xq (W.alloc (Β #[iv s.p,iv s.q,.int ζ (s.s:Int)] 103));rw[aa] at G H;simp only[aa];clear aa;have ai:=Z (G.heap E);have aj:w1.rangeAt W.heap.size 2 [.int ζ (s.s:Int)]:=λj v hv=>by
  obtain rfl:j=0:=by
   rcases j with _|j
   ·rfl
   simp at hv
  rw[Τ w1 W.heap.size _ _ _ _ H];exact hv
 have c0:=(Τ w1 W.heap.size 0 _ _ _ H).trans (show (#[iv s.p,iv s.q,.int ζ (s.s:Int)]:Array Δ)[0]? = J (iv s.p) from rfl);have ab:=Z G;clear H E G;obtain⟨bp,ad⟩:=Xq ((s.p==1));have a7:((s.p:Int)==1)=bp:=by
  rw[<-ad,Ϸ];simp
  omega
 have ao:=Z ad;clear ad hp ag;cases bp
 ·go_wp2_with (first
   | (refine Ep rfl (wp_load_row 84 (δ 1) rfl _ rfl _ _ _ _ ai.o ϸ rfl ah ?_))
   | (refine Ep rfl (wp_load_mid 101 (δ 9) rfl _ 2 rfl _ _ aj Tryz.underlying101 rfl i114 ?_))
   | (go_at_call 48;(with_reducible refine (f76 _ ab.o).o.mono ?_);rintro e w5 ⟨rfl,ay⟩;have az:=Z (ab.o.t ay)))
  go_ret;exact⟨by rw[ao.o];rfl,az.o⟩
 clear aj f76 ai ah;go_wp2_with (fail);go_ret;exact⟨by rw[ao.o];rfl,ab.o⟩
theorem CF (p s:Int):Η.built 103 [(0,.int Φ p),(2,.agg #[.int ζ s])]=J #[.int Φ p,.int Φ 0,.int ζ s]:=by kernel_rfl
theorem XM:Η.built 101 [(0,.int ζ 1)]=J #[.int ζ 1]:=by kernel_rfl
theorem T8:γ.all (·.oneCell')=Α:=by kernel_rfl
theorem DY:∃ E G,γ=Ak (λ_=>0) 0 E G/\E=U I 0 0/\G=U I 0 0:=⟨_,_,(show γ=Ak (λ_=>0) 0 (U I 0 0) (U I 0 0) by kernel_rfl),rfl,rfl⟩
theorem Pg (o:Nat) (x:Int):γ[o]?≠J (.int ζ x):=by obtain⟨E,G,h,rfl,rfl⟩:=DY;rw[h];intro h;have:=Array.mem_of_getElem? h;simp only[Ak,Es,List.mem_toArray,List.mem_append,ϴ,List.mem_cons,List.not_mem_nil,or_false] at this;rcases this with⟨b,_,hb⟩|hb|hb|hb<;>simp at hb
theorem GH {x:Tbl} (hx:TVal x) {c:Nat->Nat} {bs:List Nat} (E:Joint x.cell x.cell c bs) {l:List Sta} {t:Tbl} (h:Expl c bs ⟨1,0,1⟩ (sNx x) (sAc x) l t) (G:l.length<=4096) :
  TVal t/\t.n.length<=4096/\¬ Cx (snx x) (1,1) 4096/\∀ u,t.has u=Α↔Star (λu=>x.has u=Α) u:=by
 have hc:Expl c bs (1,1) (snx x) (λs=>s.1==1||Cy x s.2) (l.map stP) t:=
  h.conv (st:=⟨1,0,1⟩) stP (λs b=>rfl) (λs=>rfl) (λw w' e=>M6 (Nb x w) (Nb x w') e)
 have H:∀ (s:Nat × Nat) b,b<256->snx x s (bs.getD (c b) 0)=snx x s b:=λs b hb=>by
  obtain⟨_,h1,_⟩:=E.rep b hb;have T:∀ n,A5 x s.2 (bs.getD (c b) 0) n=A5 x s.2 b n:=λn=>by
   induction n with
   | zero=>rfl
   | succ n X=>simp only[A5];rw[X];unfold Tbl.stp;rw[h1]
  unfold snx;rw[T]
 exact⟨h.tval E,by rw[h.len];exact G,Z6 hc E H (by simpa using G),λu=>GF hx hc E u⟩
theorem GJ (a:Dfa) (ha:Val a) (ei:a.n.length<=64) (va:Δ) (w:Γ) (hT:Tab w) (a8:0<w.heap.size) (bh:IsD w va a) :
  ϛ Η 102 #[va] w λe w'=>∃ r,ResOf w' e r/\Hv a r/\Ext w w':=by
 have bj:=Z bh;have cl:=Z ha;obtain⟨ac,lc,cc,an,cn,aa,la,ca,rfl⟩:=bh.agg;have f47:=λW (hW:Ext w W)=>Z (Fp a ha ei _ W (bj.o.ext hW))
 have bk:=λW (hW:Ext w W)=>Z (Jc a ha _ W (hT.below hW.below a8) (Ξ a8 hW.size) (bj.o.ext hW))
 have eu:=Z (λW (hW:Ext w W)=>hT.below hW.below a8);obtain⟨Va,ba⟩:=Xq (dA (U ac lc cc) (U an a.n.length cn) (U aa la ca));have cm:(Η.info? 40).map (·.size)=J Va.size:=by rw[<-ba];exact Ae
 rw[ba] at f47 bk bj;rw[ba];have bl:=((Κ w).alloc (Β Va 40)).alloc (Β #[U I 0 0,U I 0 0,U I 0 0] 40);have H1:=Ah (Ad w (Β Va 40)) (Β #[U I 0 0,U I 0 0,U I 0 0] 40);have H2:=ϒ w (Β Va 40) (Β #[U I 0 0,U I 0 0,U I 0 0] 40);clear bh ha hT ba;go_enter Tryz.func102,Tryz.ntmps102;go_upto_region 1 with (fail)
 obtain⟨w1,bb⟩:=Xq ((w.alloc (Β Va 40)).alloc (Β #[U I 0 0,U I 0 0,U I 0 0] 40));have fu:w.heap.size+1<w1.heap.size:=by rw[<-bb,Ρ,Ρ];omega
 rw[bb] at bl H1 H2;simp only[bb];clear bb;have ak:=Z H1;have E:=Z H2;have bp:=Z bl;clear H1 H2 bl;go_upto_region 3 with (first
  | (refine Lr 40 (δ 1) ak.o Ο cm ?_)
  | (go_at_call 33;(with_reducible refine (f47 _ bp.o).o.mono ?_);rintro e w2 ⟨rfl,cp⟩;have bc:=Z cp;clear cp))
 have ao:=Z (bp.o.t bc.o);have ak:=Z (bc.o.heap ak.o);have E:=Z (bc.o.heap E.o);go_upto_region 4 with (first
  | (refine Lr 40 (δ 1) ak.o Ο cm ?_)
  | (go_at_call 34;(with_reducible refine (bk _ ao.o).o.mono ?_);rintro e w3 ⟨A1,rfl,cq,ct⟩;have aq:=Z ct;clear ct;have hC:=Z (Mm (Ai a) (Bu cl.o) (show a.n.length<=65536 by omega) A1 w3 cq);clear cq)
  | (go_at_call 39;(with_reducible refine hC.o.mono ?_);rintro e w4 ⟨v,d,rfl,hd,cw,ar,cy⟩;have au:=Z cy;have H:=Z cw;have HH:=Z ar;clear cw ar cy hC;have cz:=Z (Jc d H.o.val v w4 (eu.o w4 ((ao.o.t aq.o).trans au.o)) (Ξ a8 ((ao.o.t aq.o).trans au.o).size) hd);obtain⟨fw,fx,fy,fz,ga,gb,gd,gf,rfl⟩:=hd.agg;clear hd)
  | (go_at_call 34;(with_reducible refine cz.o.mono ?_);rintro e T ⟨A,rfl,hA,c3⟩;have X:=Z hA;have br:=Z c3;obtain⟨_,_,_,_,_,_,bt,ey,_⟩:=hA.opened (Bu H.o.val);clear hA c3 cz;have c4:(Η.info? 84).map (·.size)=J A.size:=(by rw[bt];exact Ci);have ez:γ.size=A.size:=(by rw[Dd,bt]);clear bt)
  | (refine Sr 84 (δ 4) (δ 17) rfl (Ad T (Β γ 84)) c4 ez ey ?_))
 have aw:=((Κ T).alloc (Β γ 84)).setRow (Υ _) A;have H4:=Χ (T.alloc (Β γ 84)) T.heap.size _ A _ _ (Ad T _);obtain⟨w6,bw⟩:=Xq ((T.alloc (Β γ 84)).setRow T.heap.size A);rw[bw] at aw H4;simp only[bw];clear bw;have c5:=Z ((((ao.o.t aq.o).trans au.o).trans br.o).trans aw);have E:=Z ((((aq.o.t au.o).trans br.o).trans aw).heap E.o);have X:=Z (X.o.ext aw);have af:=Z H4;generalize T.heap.size=g4 at *;clear aw H4 bk f47 bp bc ao aq au br ak;have gg:d.n.length<=a.n.length:=O0 H.o cl.o (λu=>by rw[HH.o,Eg]);have c6:=Z (Rk (Ai d) (Ai d) (Bu H.o.val) (Bu H.o.val) A A w6 X.o X.o);have c7:∀ c,Ϣ.size=(B0 c).size:=λc=>by rw[Kv,E7,E7]
 have c8:∀ c,(Η.info? 82).map (·.size)=J (B0 c).size:=λc=>by rw[E7];exact L5
 go_upto_region 5 with (first
  | (refine Lr 84 (δ 4) af.o ϸ c4 ?_)
  | (go_at_call 42;(with_reducible refine c6.o.mono ?_);rintro e G ⟨c,bs,vj,rfl,da,db,dc⟩;have bz:=c7 c;have b0:=c8 c;have b4:=Oy c;obtain⟨A9,bf⟩:=Xq (B0 c);rw[bf] at bz b0 b4;rw[bf])
  | (refine Sr 82 (δ 5) (δ 22) rfl (Ad G (Β Ϣ 82)) b0 bz b4 ?_))
 have ah:=dc.t (((Κ G).alloc (Β Ϣ 82)).setRow (Υ _) A9);have H5:=Χ (G.alloc (Β Ϣ 82)) G.heap.size _ A9 _ _ (Ad G _);have b6:=db.ext (((Κ G).alloc (Β Ϣ 82)).setRow (Υ _) A9);obtain⟨w8,b7⟩:=Xq ((G.alloc (Β Ϣ 82)).setRow G.heap.size A9);rw[b7] at ah H5 b6;simp only[b7];clear b7 dc db c7 c8 c6;have dd:=Z H5;have ay:=Z da;have e1:=Z bf;have E:=Z (ah.heap E.o);have af:=Z (ah.heap af.o);have X:=Z (X.o.ext ah);have e2:=Z (c5.o.t ah);clear H5 da bf bz b4 ah c5;generalize G.heap.size=g5 at *;have e3:0<bs.length:=by have:=ay.o.lt 0 (by omega);omega
 have e4:bs.length<=256:=by have:=Jq c 256 bs.length (λj hj=>⟨bs.getD j 0,(ay.o.byte j hj).1,(ay.o.byte j hj).2⟩);exact this
 have b8:(Ai d).n.length<=64:=by show d.n.length<=64;omega
 have bg:=Z (Bu H.o.val);have df:=Z (IH (Ai d) bg.o b8 A g4 w8 X.o af.o);have dg:=Z (GA (Ai d) bg.o b8 A g4 w8 X.o af.o);have hX:=Z (Se c bs e3 e4 (λk hk=>(ay.o.byte k hk).1) ⟨1,0,1⟩ (sNx (Ai d)) (sAc (Ai d)) Nc
  (λx hx=>⟨by have:=hx.1;omega,by have:=hx.2.1;omega,hx.2.2⟩) ⟨by show 1<2;omega,rfl,by show 1<18446744073709551616;omega⟩
  (λx hx k hk=>IZ bg.o b8 x k hk) 4096 (by omega) (by omega) 115 116 _ _ (enters_of Tryz.func115 (by kernel_rfl) rfl) (enters_of Tryz.func116 (by kernel_rfl) rfl) vj w8 b6 df.o dg.o)
 rw[e1.o] at hX;have dh:ϟ (ϛ Η 46 #[.agg A9,vj,.agg #[.int Φ 1,.int Φ 0,.int ζ 1],.func (.func 115) #[] #[ε (J ⟨g4,0,I⟩)],.func (.func 116) #[] #[ε (J ⟨g4,0,I⟩)],.int Φ 4096] w8 λe w'=>
   ∃ A b,e=Ψ (ϗ #[.agg A,.bool b])/\A.size=259/\A.all (·.oneCell')=Α/\(b=Ε->Cx (snx (Ai d)) (1,1) 4096)/\(b=Α->∃ t,IsT w' A t/\TVal t/\t.n.length<=4096/\¬ Cx (snx (Ai d)) (1,1) 4096/\(∀ u,t.has u=Α↔Star (λu=>d.has u=Α) u))/\Ext w8 w'):=Z (ϛ.mono hX.o λe w' ⟨hE,h⟩=>by
  rcases h with⟨A,l,t,he,hT,hX,hl,gj⟩|⟨hM,he⟩
  ·obtain⟨h1,h2,h3,h4⟩:=GH bg.o ay.o hX hl;obtain⟨_,_,_,_,_,_,a1,cb,_⟩:=hT.opened h1;refine⟨A,Α,he,a1,cb,λh=>by simp at h,λ_=>⟨t,hT,h1,h2,h3,λu=>?_⟩,hE⟩;rw[h4];have:(λu=>(Ai d).has u=Α)=λu=>d.has u=Α:=funext λu=>by rw[Eg]
   rw[this]
  exact⟨γ,Ε,he,Dd,T8,λ_=>X7 hM stP (λs b=>rfl) (λw w' e=>M6 (Nb _ w) (Nb _ w') e),λh=>by simp at h,hE⟩)
 clear hX df dg b6;have e9:=Z (CF 1 1);have fa:=Z XM;have fb:(Η.info? 82).map (·.size)=J A9.size:=b0;go_upto_region 7 with (first
  | (refine Lr 82 (δ 5) dd.o Tryz.underlying82 fb ?_)
  | (refine Bk rfl 101 _ rfl #[.int ζ 1] ?_ ?_;(simp;with_reducible exact fa.o))
  | (refine Bk rfl 103 _ rfl #[.int Φ 1,.int Φ 0,.int ζ 1] ?_ ?_;(simp[á];with_reducible exact e9.o))
  | (go_at_call 46;(with_reducible refine dh.o.mono ?_);rintro e w9 ⟨AT,bo,rfl,a1,cb,dm,dn,cd⟩;have fe:=Z dm;have ff:=Z dn;clear dm dn;have dp:(Η.info? 84).map (·.size)=J AT.size:=(by rw[a1];exact Ci);have fg:γ.size=AT.size:=(by rw[Dd,a1]);clear a1)
  | (refine Sr 84 (δ 8) (δ 33) rfl (Ad w9 (Β γ 84)) dp fg cb ?_))
 have a6:=((Κ w9).alloc (Β γ 84)).setRow (Υ _) AT;have H8:=Χ (w9.alloc (Β γ 84)) w9.heap.size _ AT _ _ (Ad w9 _);obtain⟨dq,cg⟩:=Xq ((w9.alloc (Β γ 84)).setRow w9.heap.size AT);rw[cg] at a6 H8;simp only[cg];clear cg;have fh:=Z H8;have E:=Z ((cd.t a6).heap E.o);have dr:=Z ((e2.o.t cd).trans a6);have fj:=Z a6;clear cd a6 H8 af dd dh;generalize w9.heap.size=g8 at *;cases bo
 ·have fk:=Z Ga;go_wp2_with (first
   | (refine Bk rfl 40 _ rfl #[U I 0 0,U I 0 0,U I 0 0] ?_ ?_;(simp;with_reducible exact fk.o))
   | (refine Sr 40 (δ 2) (δ 37) rfl E.o Ae rfl Fg ?_))
  refine ω (v:=ϗ #[zD,.int Φ 2]) (Bi rfl _ _ _ _ _ _ _ rfl _ rfl (Χ dq _ _ #[U I 0 0,U I 0 0,U I 0 0] 40 (0,0) E.o) Ο rfl Ae) rfl ?_;exact⟨I,rfl,⟨d,H.o,λu=>by rw[HH.o,Eg],λ_=>rfl,λh=>absurd (fe.o (by simp)) h⟩,dr.o.setRow (by omega) _⟩
 obtain⟨t,dt,du,fl,dv,ar⟩:=ff.o rfl;have hL:=Z (Q8 t du (show t.n.length<=65536 by omega) AT dq (dt.ext fj.o));have fo:=Z ar;have fp:=Z dv;clear dt du fl dv ar;go_wp2_with (first
  | (refine Lr 84 (δ 8) fh.o ϸ dp ?_)
  | (go_at_call 49;(with_reducible refine hL.o.mono ?_);rintro e fq ⟨r,cj,dw,dx⟩;obtain⟨dy,dz,ea,eb,ec,ed,ee,ef,eg,k2,rfl⟩:=cj.form;have ft:=Z cj;have eh:=Z dw;clear cj dw;have E:=Z (dx.heap E.o))
  | (refine Sr 40 (δ 2) (δ 40) rfl E.o Ae rfl (Av _ _ _ rfl rfl rfl) ?_))
 refine ω (v:=ϗ #[.agg (dA (U dy dz ea) (U eb ec ed) (U ee ef eg)),.int Φ k2]) (Bi rfl _ _ _ _ _ _ _ rfl _ rfl (Χ fq _ _ (dA (U dy dz ea) (U eb ec ed) (U ee ef eg)) 40 (0,0) E.o) Ο rfl Ae) rfl ?_;refine⟨r,ft.o.setRow (Hm eh.o) E.o _,⟨d,H.o,λu=>by rw[HH.o,Eg],λh=>absurd h fp.o,λ_=>Gm eh.o λu=>?_⟩,(dr.o.t dx).setRow (by omega) _⟩;rw[fo.o];have:(λu=>d.has u=Α)=λu=>a.has u=Α:=funext λu=>by rw[HH.o,Eg]
 rw[this]
theorem Cg {P:Program} {op:ϳ} {a:Act} {w:Γ} (ty:TypeId) (x:Operand) (E:op.op=.load ty x)
  (b o:Nat) (hx:a.eval x=ε (J ⟨b,o,I⟩)) (cs:List Δ) (d:TypeDesc) (hc:w.rangeAt b o cs)
  (hu:P.underlying ty=J d) (hd:d.isRow=Α) (hi:(P.info? ty).map (·.size)=J cs.length):(ê a.eval op).run P w=.ok (.value (.agg cs.toArray)) w:=by
 unfold ê;simp only[E,hx,Instr.loadAt,Instr.sureAddr,Sem.run_bind,Sem.run_pure,Result.andThen_ok,run_loadVar_mid w b o ty cs d hc hu hd hi]
theorem Wg {w:Γ} {b o:Nat} {v:Δ} (h:w.cell? ⟨b,o,I⟩=J v):w.rangeAt b o [v]:=λj u hu=>by
 rcases j with _|j
 ·simp at hu;subst hu;exact h
 simp at hu
def cIn (x:Tbl) (s:Sta):Sta:=⟨s.p,s.q,if x.ok s.p then s.s ||| 1 else s.s⟩
def cNx (x y:Tbl) (s:Sta) (b:Nat):Sta:=cIn x ⟨x.stp s.p b,0,A5 y s.s b y.n.length⟩
def cAc (y:Tbl) (s:Sta):Bool:=Cy y s.s
def Mp (x:Tbl) (s:Sta):Prop:=s.p<x.n.length/\s.q=0/\s.s<18446744073709551616
def cSt (x:Tbl):Sta:=cIn x ⟨0,0,0⟩
theorem O1 (x y:Tbl) (w:List UInt8):(Aq (cNx x y) (cSt x) w).q=0:=by
 induction w using Hb with
 | h0=>rfl
 | h1 w z E=>rw[E9];rfl
theorem BX (x:Tbl) (s:Sta) (h:s.s<18446744073709551616):(cIn x s).s<18446744073709551616:=by
 unfold cIn;simp only;split
 ·exact Nat.or_lt_two_pow (n:=64) h (by omega)
 exact h
theorem WR {x y:Tbl} (hx:TVal x) (E:TVal y) (G:y.n.length<=64) (s:Sta) (H:Mp x s) (b:Nat) (hb:b<256):Mp x (cNx x y s b):=
 ⟨hx.stp_lt H.1 hb,rfl,BX _ _ (Jb E G s.s b hb _ (Υ _))⟩
theorem BW (x y:Tbl) (s:Sta) (b:Nat):stP (cNx x y s b)=cnx x y (stP s) b:=rfl
theorem WJ {x y:Tbl} (hx:TVal x) (H:TVal y) {c:Nat->Nat} {bs:List Nat} (E:Joint x.cell y.cell c bs) {l:List Sta} {t:Tbl} (h:Expl c bs (cSt x) (cNx x y) (cAc y) l t) (G:l.length<=4096) :
  TVal t/\t.n.length<=4096/\¬ Cx (cnx x y) (cst x) 4096/\∀ u,t.has u=Α↔Cat (λu=>x.has u=Α) (λv=>y.has v=Α) u:=by
 have hc:Expl c bs (cst x) (cnx x y) (λs=>Cy y s.2) (l.map stP) t:=
  h.conv (st:=cSt x) stP (λs b=>BW x y s b) (λs=>rfl) (λw w' e=>M6 (O1 x y w) (O1 x y w') e)
 have T:∀ (s:Nat × Nat) b,b<256->cnx x y s (bs.getD (c b) 0)=cnx x y s b:=λs b hb=>by
  obtain⟨_,h1,X⟩:=E.rep b hb;have e1:∀ p,x.stp p (bs.getD (c b) 0)=x.stp p b:=λp=>by unfold Tbl.stp;rw[h1]
  have e2:∀ n,A5 y s.2 (bs.getD (c b) 0) n=A5 y s.2 b n:=λn=>by
   induction n with
   | zero=>rfl
   | succ n ih=>simp only[A5];rw[ih];unfold Tbl.stp;rw[X]
  unfold cnx;rw[e1,e2]
 exact⟨h.tval E,by rw[h.len];exact G,Z6 hc E T (by simpa using G),λu=>WH H hc E u⟩
theorem BG (x:Tbl) (hx:TVal x) (A:Array Δ) (gx:Nat) (w:Γ) (hA:IsT w A x) (ab:w.heap[gx]? = J (Β A 84 (0,0))) (W:Γ) (hW:Ext w W) (p z:Nat) (hp:p<x.n.length) (hz:z<18446744073709551616) :
  ϛ Η 43 #[.agg #[iv p,(.int Φ 0),.int ζ (z:Int)],ε (J ⟨gx,0,I⟩)] W λe w'=>e=Ψ (stV (cIn x ⟨p,0,z⟩))/\Ext W w':=by
 obtain⟨_,_,_,ba,oa,ca,_,_,_,_,_,au,_,aw⟩:=(hA.ext hW).opened hx;have ab:=hW.heap ab;have a8:=(Τ W gx 258 _ _ _ ab).trans au;have aa:=aw p hp;show ϛ _ _ _ _ λe w'=>e=Ψ (.agg #[iv p,(.int Φ 0),.int ζ ((if x.ok p then z ||| 1 else z:Nat):Int)])/\Ext W w'
 have T:=((Κ W).alloc (Β #[iv p,(.int Φ 0),.int ζ (z:Int)] 103)).alloc (Β #[.int Φ 0,.int Φ 0,.int ζ 0] 103);have E:=Ah (Ad W (Β #[iv p,(.int Φ 0),.int ζ (z:Int)] 103)) (Β #[.int Φ 0,.int Φ 0,.int ζ 0] 103);have H3:=ϒ W (Β #[iv p,(.int Φ 0),.int ζ (z:Int)] 103) (Β #[.int Φ 0,.int Φ 0,.int ζ 0] 103);have HO:=Z (W7 z hz);clear hA au aw ab;generalize x.n.length=nx at *;generalize x.ok p=bo at *;go_enter Tryz.func43,Tryz.ntmps43;go_upto_region 1 with (fail)
 obtain⟨w1,ad⟩:=Xq ((W.alloc (Β #[iv p,(.int Φ 0),.int ζ (z:Int)] 103)).alloc (Β #[.int Φ 0,.int Φ 0,.int ζ 0] 103));have bh:W.heap.size+1<w1.heap.size:=by rw[<-ad,Ρ,Ρ];omega
 rw[ad] at T E H3;simp only[ad];clear ad;have a8:=T.cell a8;have aa:=T.cell aa;have X:=Z E;have G:=Z H3;have ay:=Z T;have c0:=(Τ w1 W.heap.size 0 _ _ _ E).trans (show (#[iv p,(.int Φ 0),.int ζ (z:Int)]:Array Δ)[0]? = J (iv p) from rfl);have c2:=(Τ w1 W.heap.size 2 _ _ _ E).trans (show (#[iv p,(.int Φ 0),.int ζ (z:Int)]:Array Δ)[2]? = J (.int ζ (z:Int)) from rfl);have f2:=È w1 W.heap.size 2 _ _ E;clear E H3 T;have H:∀ z:Int,(Η.info? 103).map (·.size)=J (#[iv p,(.int Φ 0),.int ζ z]:Array Δ).size:=λ_=>Ea
 cases bo
 ·go_wp2_with (first
   | (refine Lr 103 (δ 2) X.o Î (H _) ?_)
   | (refine Sr 103 (δ 3) (δ 16) rfl G.o (H _) rfl (by simp[ξ]) ?_))
  refine ω (v:=.agg #[iv p,(.int Φ 0),.int ζ (z:Int)]) (Ì rfl _ _ _ _ _ _ _ rfl (Χ w1 _ _ _ 103 (0,0) G.o) Î rfl (H _)) rfl ?_;exact⟨rfl,ay.o.setRow (by omega) _⟩
 go_upto_region 3 with (fail)
 have az:w1.setCell ⟨W.heap.size,2,I⟩ (.int ζ (bits BinOp.or ϯ (z:Int) 1))=w1.setRow W.heap.size #[iv p,(.int Φ 0),.int ζ ((z ||| 1:Nat):Int)]:=by rw[Ϭ w1 _ _ _ _ _ _ X.o,HO.o];rfl
 rw[az];have ae:=Χ w1 W.heap.size _ #[iv p,(.int Φ 0),.int ζ ((z ||| 1:Nat):Int)] _ _ X.o;have af:=Bm G.o (show W.heap.size+1≠W.heap.size by omega) #[iv p,(.int Φ 0),.int ζ ((z ||| 1:Nat):Int)];have ag:=ay.o.setRow (Υ _) #[iv p,(.int Φ 0),.int ζ ((z ||| 1:Nat):Int)];obtain⟨y,hy⟩:=Xq (((z ||| 1:Nat):Int):Int);rw[hy] at ae af ag;rw[hy];obtain⟨w6,ao⟩:=Xq (w1.setRow W.heap.size #[iv p,(.int Φ 0),.int ζ y]);rw[ao] at ae af ag;rw[ao];have X:=Z ae;have G:=Z af;have bc:=Z ag;have HY:=Z hy;clear c0 c2 f2 a8 aa az ae af ag hy HO ao;go_wp2_with (first
  | (refine Lr 103 (δ 2) X.o Î (H _) ?_)
  | (refine Sr 103 (δ 3) (δ 16) rfl G.o (H _) rfl (by simp[ξ]) ?_))
 refine ω (v:=.agg #[iv p,(.int Φ 0),.int ζ y]) (Ì rfl _ _ _ _ _ _ _ rfl (Χ w6 _ _ _ 103 (0,0) G.o) Î rfl (H _)) rfl ?_;exact⟨by rw[<-HY.o],bc.o.setRow (by omega) _⟩
theorem UZ (x y:Tbl) (hy:TVal y) (hn:y.n.length<=64) (B:Array Δ) (gy:Nat) (w:Γ) (hB:IsT w B y) (E:w.heap[gy]? = J (Β B 84 (0,0))) :
  O9 w 47 #[ε (J ⟨gy,0,I⟩)] (cAc y) (Mp x):=by
 intro W H s hs;obtain⟨-,-,af⟩:=hs;have T:=hB.ext H;obtain⟨_,_,_,_,_,_,aj,au,_⟩:=T.opened hy;have hiB:(Η.info? 84).map (·.size)=J B.size:=by rw[aj];exact Ci
 have E:=H.heap E;have f76:=λV (hV:Ext W V)=>Z (P1 y hy hn B s.s af V (T.ext hV))
 show ϛ _ _ _ _ λe w'=>e=Ψ (.bool (Cy y s.s))/\Ext W w'
 have G:=(Κ W).alloc (Β #[iv s.p,iv s.q,.int ζ (s.s:Int)] 103);have X:=Ad W (Β #[iv s.p,iv s.q,.int ζ (s.s:Int)] 103);generalize Cy y s.s=bo at *;clear hB T H;go_enter Tryz.func47,Tryz.ntmps47;go_upto_region 1 with (fail)
 obtain⟨w1,aa⟩:=Xq (W.alloc (Β #[iv s.p,iv s.q,.int ζ (s.s:Int)] 103));rw[aa] at G X;simp only[aa];clear aa;have an:=Z (G.heap E);have ao:w1.rangeAt W.heap.size 2 [.int ζ (s.s:Int)]:=Wg ((Τ w1 W.heap.size _ _ _ _ X).trans rfl);have ag:=Z G;clear X E G af;go_wp2_with (first
  | (refine Lr 84 (δ 1) an.o ϸ hiB ?_)
  | (refine å rfl 101 (δ 5) rfl _ 2 rfl _ _ ao Tryz.underlying101 rfl i114 ?_)
  | (go_at_call 48;(with_reducible refine (f76 _ ag.o).o.mono ?_);rintro e w5 ⟨rfl,aq⟩;have ar:=Z (ag.o.t aq)))
 go_ret;exact⟨rfl,ar.o⟩
theorem VY (x y:Tbl) (hx:TVal x) (hy:TVal y) (hn:y.n.length<=64) (A B:Array Δ) (G gy gf:Nat) (w:Γ) (hA:IsT w A x) (hB:IsT w B y) (aa:w.heap[G]? = J (Β A 84 (0,0))) (ah:w.heap[gy]? = J (Β B 84 (0,0)))
  (bb:w.heap[gf]? = J (Β #[.func (.func 43) #[] #[ε (J ⟨G,0,I⟩)]] 104 (0,0))) :
  Pb w 44 #[ε (J ⟨gf,0,I⟩),ε (J ⟨G,0,I⟩),ε (J ⟨gy,0,I⟩)] (cNx x y) (Mp x):=by
 intro W hW s hs b hb;obtain⟨hp,-,bd⟩:=hs;obtain⟨bn,on,cn,_,_,_,_,_,bg,_,bh,_,bj,_⟩:=(hA.ext hW).opened hx;have ax:=hB.ext hW;obtain⟨_,_,_,_,_,_,b5,cb,_⟩:=ax.opened hy;have hiB:(Η.info? 84).map (·.size)=J B.size:=by rw[b5];exact Ci
 have f73:=λV (E:Ext W V)=>Z (Uu y hy hn B s.s bd b hb V (ax.ext E))
 have bk:=Jb hy hn s.s b hb _ (Υ _);have bl:=hx.stp_lt hp hb;have f71:=λV (E:Ext W V)=>Z (BG x hx A G w hA aa V (hW.trans E) (x.stp s.p b) (A5 y s.s b y.n.length) bl bk)
 have aa:=hW.heap aa;have ah:=hW.heap ah;have a7:=(Τ W G 257 _ _ _ aa).trans bh;have ac:=(Τ W G b _ _ _ aa).trans (bg b hb);obtain⟨br,or',cr,aj,bo⟩:=bj s.p hp;have ae:=bo _ (hx.cell_lt b hb);have cc:=hx.cell_lt b hb;have bp:x.ent2 s.p (x.cell b)=x.stp s.p b:=rfl;rw[bp] at ae;have g0:=(Τ W gf 0 _ _ _ (hW.heap bb)).trans (show (#[Δ.func (.func 43) #[] #[ε (J ⟨G,0,I⟩)]]:Array Δ)[0]? = J (.func (.func 43) #[] #[ε (J ⟨G,0,I⟩)]) from rfl);have cd:=enters_of Tryz.func43 (by kernel_rfl) rfl;show ϛ _ _ _ _ λe w'=>e=Ψ (stV (cIn x ⟨x.stp s.p b,0,A5 y s.s b y.n.length⟩))/\Ext W w'
 have H:=((Κ W).alloc (Β #[iv s.p,iv s.q,.int ζ (s.s:Int)] 103)).alloc (Β #[.int Φ 0,.int Φ 0,.int ζ 0] 103);have H5:=Ah (Ad W (Β #[iv s.p,iv s.q,.int ζ (s.s:Int)] 103)) (Β #[.int Φ 0,.int Φ 0,.int ζ 0] 103);have H7:=ϒ W (Β #[iv s.p,iv s.q,.int ζ (s.s:Int)] 103) (Β #[.int Φ 0,.int Φ 0,.int ζ 0] 103);clear hA hB ax bg bh bj bp bo bb aa bd bk bl;generalize A5 y s.s b y.n.length=T at *;generalize x.stp s.p b=p2 at *;obtain⟨R,hR⟩:=Xq (cIn x ⟨p2,0,T⟩);rw[hR] at f71;rw[hR];clear hR;generalize x.cell b=cx at *;have cf:(b:Int)<256:=by omega
 generalize x.cells=mx at *;generalize x.n.length=nx at *;clear hx hy hn;go_enter Tryz.func44,Tryz.ntmps44;go_upto_region 1 with (fail)
 obtain⟨w1,a1⟩:=Xq ((W.alloc (Β #[iv s.p,iv s.q,.int ζ (s.s:Int)] 103)).alloc (Β #[.int Φ 0,.int Φ 0,.int ζ 0] 103));rw[a1] at H H5 H7;simp only[a1];clear a1;have a7:=H.cell a7;have ac:=H.cell ac;have aj:=H.cell aj;have ae:=H.cell ae;have g0:=H.cell g0;have c0:=(Τ w1 W.heap.size 0 _ _ _ H5).trans (show (#[iv s.p,iv s.q,.int ζ (s.s:Int)]:Array Δ)[0]? = J (iv s.p) from rfl);have c2:=(Τ w1 W.heap.size 2 _ _ _ H5).trans (show (#[iv s.p,iv s.q,.int ζ (s.s:Int)]:Array Δ)[2]? = J (.int ζ (s.s:Int)) from rfl);have bq:=Z (λV (E:Ext w1 V)=>E.heap (H.heap ah));have bt:=Z (λV (E:Ext w1 V)=>Wg (E.cell c2));have bu:∀ V,Ext w1 V->V.cell? ⟨G,257,I⟩=J (U (J ⟨bn,on,I⟩) nx cn)/\V.cell? ⟨G,b,I⟩=J (iv cx)/\V.cell? ⟨bn,on+s.p,I⟩=J (U (J ⟨br,or',I⟩) mx cr)/\V.cell? ⟨br,or'+cx,I⟩=J (iv p2)/\V.cell? ⟨W.heap.size,0,I⟩=J (iv s.p)/\V.cell? ⟨gf,0,I⟩=J (.func (.func 43) #[] #[ε (J ⟨G,0,I⟩)]):=
  λV E=>⟨E.cell a7,E.cell ac,E.cell aj,E.cell ae,E.cell c0,E.cell g0⟩
 clear a7 ac aj ae c0 c2 g0 ah H5;have bw:=Z (CF (p2:Int) (T:Int));refine Bl 20 [(0,Α),(1,Α),(2,Α),(3,Α),(4,Α),(5,Α),(6,Α),(7,Α),(8,Α),(9,Α),(10,Α),(11,Α),(12,Α),(13,Α),(14,Α),(15,Α),(16,Α),(17,Ε),(18,Α),(19,Ε),(20,Ε)] (by kernel_rfl) (by kernel_rfl) (λ_ _ _ _ h=>h)
  (λV=>Ext w1 V) (Κ w1).drew ?_
 have ad:=(Κ w1).drew;have X:=ad.heap H7;obtain⟨w2,a6⟩:=Xq (w1.drew);rw[a6] at ad X;rw[a6];clear a6 H7;iterate 13
  refine Af (v:=?_) rfl rfl (λV E=>?_) ?_
  rotate_left
  ·obtain⟨k0,k1,k2,k3,k4,k5⟩:=bu V E;clear E;go_simp;first|done|with_reducible rfl
  simp only[η,Θ,Μ,Λ]
 refine Af (v:=.agg B) rfl rfl (λV E=>?_) ?_
 ·exact Em 84 (δ 4) rfl gy rfl _ _ _ _ (bq.o V E) ϸ rfl hiB
 simp only[η,Θ,Μ,Λ];refine Af (v:=?_) rfl rfl (λV E=>?_) ?_
 rotate_left
 ·clear E;go_simp;first|done|with_reducible rfl
 simp only[η,Θ,Μ,Λ];refine Af (v:=.agg #[.int ζ (s.s:Int)]) rfl rfl (λV E=>?_) ?_
 ·exact Cg 101 (δ 22) rfl W.heap.size 2 rfl _ _ (bt.o V E) Tryz.underlying101 rfl i114
 simp only[η,Θ,Μ,Λ];refine Af (v:=?_) rfl rfl (λV E=>?_) ?_
 rotate_left
 ·clear E;go_simp;first|done|with_reducible rfl
 simp only[η,Θ,Μ,Λ];clear bu bq bt;refine Ao rfl (λK hK=>?_);go_simp
 (with_reducible refine (f73 w2 (H.t ad)).o.mono ?_)
 rintro e w3 ⟨rfl,aq⟩;refine hK _ _ (λ_=>ad.t aq) ?_;clear hK K;refine Af (v:=.agg #[iv p2,.int Φ 0,.int ζ (T:Int)]) rfl rfl (λV _=>?_) ?_
 ·exact Fy 103 _ rfl (by simpa [á] using bw.o) V
 simp only[η,Θ,Μ,Λ];have X:=aq.heap X;have bz:=(H.t ad).trans aq;refine Ao rfl (λK hK=>?_);go_simp
 (with_reducible refine (f71 w3 bz).o.mono ?_)
 rintro e w4 ⟨rfl,a8⟩;refine hK _ _ (λ_=>(ad.t aq).trans a8) ?_;clear hK K;have X:=a8.heap X;refine Ao rfl (λK hK=>?_);refine Ik 103 (δ 7) (δ 27) rfl rfl _ (stA R) rfl rfl _ _ X Ea rfl (Vc R) ?_;refine hK _ _ (λh=>absurd h (by omega)) ?_;clear hK K;refine Bj ?_;have b9:=(bz.t a8).setRow (show W.heap.size<=W.heap.size+1 by omega) (stA R);have H8:=Χ w4 _ _ (stA R) 103 (0,0) X;clear f71 f73 bw;go_wp2;refine ω (v:=.agg (stA R)) (Ì rfl _ _ _ _ _ _ _ rfl H8 Î rfl Ea) rfl ?_;exact⟨rfl,b9⟩
open Go
section
variable {P:Program} {ops:Array Oper} {Q:Exit->Act->World->Prop} {n:Nat}
def L4 (ops:Array ϳ) (n p:Nat):Bool:=
 (π n).all (λk=>decide (k=p)||ý .any ops n k)&&(π ops.size).all (λt=>decide (t<=n)||ý .any ops t (t-1))&&
 (match ops[p]? with|none=>Ε|some op=>op.after.all λe=>!Region.binds .any e||decide (e.on<p))&&
 (π ops.size).all λj=>decide (j=p)||ý .any ops j p||ý .any ops p j||match ops[p]?,ops[j]? with|some op,J oj=>op.apart ops oj|_,_=>Ε
theorem M3 {i j:Nat} {listed:Array Bool} (h:ý .any ops i j=Α) (E:i∈ϻ .any ops listed):listed.getD j Ε=Α:=by obtain⟨oi,G,e,he,hb,H⟩:=Region.waitsFor_spec h;obtain⟨_,o,T,X⟩:=mem_ready.1 E;have:oi=o:=ό (G.symm.trans T);subst this;rw[<-H];exact X e he hb
theorem Rh {F:Nat->Δ->Γ->Prop} {Ne:Nat->Nat->Δ->Δ->Prop} (ae:∀ i j v u,Ne i j v u->Ne j i u v) (hF:∀ i v w w',F i v w->Ext w w'->F i v w') {a0:Act} {w1:Γ} {sz g p:Nat} (T:p<n) (ag:a0.tmps.size=sz) (hd:E6 ops n sz=Α) (hL:L4 ops n p=Α) (ao:Region.noSelect ops=Α) (hn:n<ops.size) (hE:Fn ops n=Α)
  (hQ:∀ c a tm w,Q (.panic c) { tmps:=tm,defers:=a.defers } w->Q (.panic c) a w)
  (au:∀ o (listed:Array Bool) a w,ops[p]? = J o->p∈ϻ .any ops listed->FInvR ops n F Ne a0 w1 listed a w->∃ v,∀ W,(ê a.eval o).run P W=.ok (.value v) W)
  (ah:∀ i,i<n->FOp P ops Q n F Ne a0 w1 i) (aw:∀ listed a w,HeadInv .any ops n listed->(∀ i,i<n->listed.getD i Ε=Α)->FInvR ops n F Ne a0 w1 listed a w->wpAny P .any ops Q g listed a w) :
  ∀ (f:Nat) (listed:Array Bool) (a:Act) (w:Γ),HeadInv .any ops n listed->FInvR ops n F Ne a0 w1 listed a w->unl n listed=f->wpAny P .any ops Q (f+g) listed a w
 | 0,listed,a,w,X,hI,hu=>by rw[Nat.zero_add];exact aw listed a w X (Ib n listed hu) hI
 | f+1,listed,a,w,X,hI,hu=>by
  obtain⟨k,hk,ax,bm⟩:=J0 n listed (by omega);have ay:=L3 hE X.size (by omega) k hk bm ax;rw[show f+1+g=(f+g)+1 by omega];have key:∀ i,i∈ϻ .any ops listed->i<n->unl n (listed.setIfInBounds i Α)=f:=λi hi aa=>by
   have ba:=(mem_ready.1 hi).1;have bb:i<listed.size:=by rw[X.size];omega
   have bn:listed.getD i Ε=Ε:=by rw[ϕ,Ϛ bb] at ba ⊢;exact ba
   have:=I9 n listed i aa bb bn;omega
  simp only[L4,ψ,Í,ϔ] at hL;obtain⟨⟨⟨l1,l2⟩,l3⟩,l4⟩:=hL;have be:L4 ops n p=Α:=by simp only[L4,ψ,Í,ϔ];exact⟨⟨⟨l1,l2⟩,l3⟩,l4⟩
  by_cases H:p∈ϻ .any ops listed
  ·obtain⟨b8,o,G,bf⟩:=mem_ready.1 H;obtain⟨o',d,aj,bp,_,_⟩:=Iz hd p T;rw[G] at aj;injection aj with aj
   subst aj;obtain⟨v,hv⟩:=au o listed a w G H hI;obtain⟨o2,bq,hw,az⟩:=Zz ae hF ag hd hI H T (ah p T);have e2:o2=o:=ό (bq.symm.trans G);subst e2;have bu:FInvR ops n F Ne a0 w1 (listed.setIfInBounds p Α) (a.put o2.dst v) w:=by unfold ϳ.wp at az;rw[hv w] at az;exact az
   refine wpAny_first G (Region.noSelect_spec ao) (v:=v) (λc a w hq=>?_) (f+g) listed a w (λj oj hj bw bz b0=>?_) H (.inl ⟨hw,hv⟩) (Rh ae hF T ag hd be ao hn hE hQ au ah aw f _ _ w (X.set H T) bu (key p H T))
   ·rw[bp] at hq;exact hQ c a _ w hq
   have E:=l4 j (ϝ.1 hj).1;rw[G,hj] at E;simp only[Û,decide_eq_true_eq] at E;rcases E with ((E|E)|E)|E
   ·exact absurd E bw
   ·obtain⟨ca,ak,e,he,hb,b4⟩:=Region.waitsFor_spec E;rw[hj] at ak;injection ak with ak
    subst ak;exact absurd b4 (b0 e he hb)
   ·have:=M3 E H;have h5:=getD_both bz;rw[this] at h5;cases h5
   exact E
  refine⟨λh0=>(by rw[h0] at ay;cases ay),λi hi=>?_⟩;have aa:i<n:=Nat.lt_of_not_le λh=>by
   by_cases b5:i=n
   ·subst b5;have bf:∀ k,k<i->k≠p->listed.getD k Ε=Α:=λk hk a6=>by
     have:=l1 k hk;simp only[Û,decide_eq_true_eq] at this;rcases this with h|h
     ·exact absurd h a6
     exact M3 h hi
    have a6:k=p:=by apply Ë;intro h';rw[bf k hk h'] at ax;cases ax
    subst a6;exact H ay
   have h2:=l2 i (by obtain⟨_,o,G,_⟩:=mem_ready.1 hi;exact (ϝ.1 G).1)
   simp only[Û,decide_eq_true_eq] at h2;rcases h2 with h2|h2
   ·omega
   have h3:=M3 h2 hi;have h5:=X.tail (i-1) (by omega) (by obtain⟨_,o,G,_⟩:=mem_ready.1 hi;have:=(ϝ.1 G).1;omega)
   rw[getD_both h5] at h3;cases h3
  exact wpOp_mono (λa' w' h=>Rh ae hF T ag hd be ao hn hE hQ au ah aw f _ a' w' (X.set hi aa) h (key i hi aa)) (Z0 ae hF ag hd hI hi aa (ah i aa))
def Ym (ops:Array ϳ) (n sz p:Nat):Bool:=
 E6 ops n sz&&L4 ops n p&&Region.noSelect ops&&decide (p<n)&&decide (n<ops.size)&&Fn ops n&&Region.seqB .any ops (ops.size-n) n (Ew ops.size n)
theorem Pi {id:Nat} {l:List ϳ} {a0:Act} {w:Γ} (n sz p:Nat) (hm:P.follows .mixedOrders=Α) (hB:Ym l.toArray n sz p=Α) (ae:a0.tmps.size=sz) (hQ:∀ c a tm w,Q (.panic c) { tmps:=tm,defers:=a.defers } w->Q (.panic c) a w)
  (F:Nat->Δ->Γ->Prop) (Ne:Nat->Nat->Δ->Δ->Prop) (aq:∀ i j v u,Ne i j v u->Ne j i u v) (hF:∀ i v w w',F i v w->Ext w w'->F i v w')
  (op:ϳ) (au:l[p]? = J op) (aw:∀ (a:Act) (w:Γ),(∀ j dj,Gt l.toArray n p j dj=Α->F j (a.tmps.getD dj Ω) w)->∃ v,∀ W,(ê a.eval op).run P W=.ok (.value v) W)
  (ax:∀ i,i<n->FOp P l.toArray Q n F Ne a0 w.drew i) (ay:∀ (vs:Nat->Δ) (w':Γ),Ext w.drew w'->(∀ i,i<n->F i (vs i) w')->(∀ i j,i<n->j<n->i≠j->Ne i j (vs i) (vs j))->wpList P l.toArray Q (l.drop n) (Bq l.toArray vs n a0) w'):(Code.region id l.toArray Α).wp P Q a0 w:=by
 simp only[Ym,ψ,decide_eq_true_eq] at hB;obtain⟨⟨⟨⟨⟨⟨hd,T⟩,az⟩,hp⟩,hn⟩,hE⟩,ag⟩:=hB;refine wp_region_any hm ?_;have a7:HeadInv .any l.toArray n (í l.toArray.size Ε):=
  ⟨by simp,λj oj _ E=>(by rw[Ϡ] at E;cases E),λt _ ht=>getD_in (by simpa using ht) (Ϡ _ _)⟩
 have ba:FInvR l.toArray n F Ne a0 w.drew (í l.toArray.size Ε) a0 w.drew:=
  ⟨Κ _,rfl,rfl,λi o d _ _ _ E=>(by rw[Ϡ] at E;cases E),λd _=>rfl,λi j _ _ _ _ _ _ _ _ _ _ _ E=>(by rw[Ϡ] at E;cases E)⟩
 have hu:∀ m,unl m (í l.toArray.size Ε)=m:=λm=>by
  induction m with
  | zero=>rfl
  | succ m ih=>rw[Fq,ih,Ϡ];simp
 have H:=Rh (P:=P) (Q:=Q) (g:=(l.drop n).length) aq hF hp ae hd T az hn hE hQ (λo listed a w ho ai G=>by
  obtain⟨_,o',bc,X⟩:=mem_ready.1 ai;have e1:o'=o:=ό (bc.symm.trans ho);subst e1;have e2:op=o':=by
   have:l.toArray[p]? = J op:=by rw[<-au];simp
   exact ό (this.symm.trans ho)
  subst e2;refine aw a w λj dj h=>?_
  unfold Gt at h;simp only[ψ,decide_eq_true_eq] at h;obtain⟨⟨hj,h1⟩,h2⟩:=h;cases aa:l.toArray[j]? with
  | none=>rw[aa] at h1;cases h1
  | some oj=>rw[aa] at h1;exact G.done j oj dj hj aa (of_decide_eq_true h1) (M3 h2 ai)) ax (λlisted a w' ab X G=>by
  obtain⟨vs,rfl,hv,bh⟩:=R7 ae hd G X;have T:listed=Ew l.toArray.size n:=by
   apply Array.ext
   ·rw[ab.size];simp[Ew]
   intro i h1 h2;have h3:(Ew l.toArray.size n)[i]=decide (i<n):=by simp[Ew]
   rw[h3];by_cases hi:i<n
   ·have:=X i hi;rw[ϕ,Ϛ h1] at this;simp only[ϱ] at this;rw[this];simp[hi]
   have:=ab.tail i (by omega) (by rw[<-ab.size];exact h1);rw[ϕ,Ϛ h1] at this;simp only[ϱ] at this;rw[this];simp[hi]
  have bk:l.toArray.size-n=(l.drop n).length:=by simp
  rw[bk] at ag;exact wpAny_of_seq (l.drop n) n listed _ w' (λj=>by simp[List.getElem?_drop]) (by rw[T];exact ag) (ay vs w' G.ext hv bh)) n _ a0 w.drew a7 ba (hu n)
 have e:n+(l.drop n).length=l.toArray.size:=by
  have:n<l.length:=by simpa using hn
  simp;omega
 rw[e] at H;exact H
end
def CanT (a:Dfa) (A:Array Δ) (W:Γ):Prop:=∃ d,Cano d/\(∀ u,d.has u=a.has u)/\∀ W',Near W W'->IsT W' A (Ai d)
def PtrF (E:Nat) (v:Δ) (W:Γ):Prop:=∃ g,v=ε (J ⟨g,0,I⟩)/\W.heap[g]? = J (Β γ 84 (0,0))/\E<=g
def Td (w0:Γ) (E:Nat) (G vb:Array Δ) (a b:Dfa):Nat->Δ->Γ->Prop
 | 0,v,_=>v=.agg G
 | 1,v,_=>∃ A,v=.agg A/\IsT w0 A (Ai a)
 | 2,v,W=>∃ d,Cano d/\(∀ u,d.has u=a.has u)/\∀ W',Near W W'->IsD W' v d
 | 3,v,W=>∃ A,v=.agg A/\CanT a A W
 | 4,v,_=>v=.agg vb
 | 5,v,_=>∃ A,v=.agg A/\IsT w0 A (Ai b)
 | 6,v,W=>∃ d,Cano d/\(∀ u,d.has u=b.has u)/\∀ W',Near W W'->IsD W' v d
 | 7,v,W=>∃ A,v=.agg A/\CanT b A W
 | _,v,W=>PtrF E v W
def Tc (i j:Nat) (v u:Δ):Prop:=(i=8/\j=9\/i=9/\j=8)->v≠u
theorem WK (i j:Nat) (v u:Δ) (h:Tc i j v u):Tc j i u v:=λE=>(h (by omega)).symm
theorem CanT.ext {a:Dfa} {A:Array Δ} {W W':Γ} (h:CanT a A W) (E:Ext W W'):CanT a A W':=by obtain⟨d,h1,G,H⟩:=h;exact⟨d,h1,G,λT X=>H T (X.pre E)⟩
theorem PtrF.ext {E:Nat} {v:Δ} {W W':Γ} (h:PtrF E v W) (G:Ext W W'):PtrF E v W':=by obtain⟨g,h1,H,T⟩:=h;exact⟨g,h1,G.heap H,T⟩
theorem WL (w0:Γ) (n0:Nat) (va vb:Array Δ) (a b:Dfa):∀ (i:Nat) (v:Δ) (w w':Γ),Td w0 n0 va vb a b i v w->Ext w w'->Td w0 n0 va vb a b i v w'
 | 0,_,_,_,h,_=>h
 | 1,_,_,_,h,_=>h
 | 2,_,_,_,⟨d,h1,G,H⟩,E=>⟨d,h1,G,λT X=>H T (X.pre E)⟩
 | 3,_,_,_,⟨A,h1,G⟩,E=>⟨A,h1,G.ext E⟩
 | 4,_,_,_,h,_=>h
 | 5,_,_,_,h,_=>h
 | 6,_,_,_,⟨d,h1,G,H⟩,E=>⟨d,h1,G,λT X=>H T (X.pre E)⟩
 | 7,_,_,_,⟨A,h1,G⟩,E=>⟨A,h1,G.ext E⟩
 | _+8,_,_,_,h,E=>PtrF.ext h E
def TabF (E:Bool) (L:List UInt8->Prop) (A:Array Δ) (W:Γ):Prop:=A.size=259/\A.all (·.oneCell')=Α/\(E=Α->∃ t,TVal t/\t.n.length<=4096/\(∀ u,t.has u=Α↔L u)/\∀ W',Near W W'->IsT W' A t)
theorem TabF.ext {E:Bool} {L:List UInt8->Prop} {A:Array Δ} {W W':Γ} (h:TabF E L A W) (G:Ext W W'):TabF E L A W':=by obtain⟨h1,H,T⟩:=h;refine⟨h1,H,λhb=>?_⟩;obtain⟨t,t1,t2,t3,t4⟩:=T hb;exact⟨t,t1,t2,t3,λX hN=>t4 X (hN.pre G)⟩
def Sg (G:Nat) (H:Array Δ) (T f1:Δ) (vs:Δ) (f2 f3:Δ) (E:Bool) (L:List UInt8->Prop):Nat->Δ->Γ->Prop
 | 0,v,_=>v=.agg H
 | 1,v,_=>v=T
 | 2,v,_=>v=f1
 | 3,v,_=>v=.agg #[.int Φ 0,.int Φ 0,.int ζ 0]
 | 4,v,_=>v=vs
 | 5,v,_=>v=f2
 | 6,v,_=>v=f3
 | 7,v,W=>∃ A,v=ϗ #[.agg A,.bool E]/\TabF E L A W
 | 8,v,W=>∃ A,v=ϗ #[.agg A,.bool E]/\TabF E L A W
 | 9,v,W=>∃ A,v=.agg A/\TabF E L A W
 | 10,v,_=>v=.bool E
 | _,v,W=>PtrF G v W
def Sf (_ _:Nat) (_ _:Δ):Prop:=True
theorem UA (i j:Nat) (v u:Δ) (_:Sf i j v u):Sf j i u v:=trivial
theorem UB (H:Nat) (T:Array Δ) (X f1:Δ) (vs:Δ) (f2 f3:Δ) (bo:Bool) (L:List UInt8->Prop):∀ (i:Nat) (v:Δ) (w w':Γ),Sg H T X f1 vs f2 f3 bo L i v w->Ext w w'->Sg H T X f1 vs f2 f3 bo L i v w'
 | 0,_,_,_,h,_=>h
 | 1,_,_,_,h,_=>h
 | 2,_,_,_,h,_=>h
 | 3,_,_,_,h,_=>h
 | 4,_,_,_,h,_=>h
 | 5,_,_,_,h,_=>h
 | 6,_,_,_,h,_=>h
 | 7,_,_,_,⟨A,h1,G⟩,E=>⟨A,h1,G.ext E⟩
 | 8,_,_,_,⟨A,h1,G⟩,E=>⟨A,h1,G.ext E⟩
 | 9,_,_,_,⟨A,h1,G⟩,E=>⟨A,h1,G.ext E⟩
 | 10,_,_,_,h,_=>h
 | _+11,_,_,_,h,E=>PtrF.ext h E
theorem XJ:Η.built 103 []=J #[.int Φ 0,.int Φ 0,.int ζ 0]:=by kernel_rfl
theorem Ka (a b:Dfa) (ha:Val a) (hb:Val b) (c8:a.n.length<=64) (c9:b.n.length<=64) (va vb:Δ) (w:Γ) (hT:Tab w) (bc:0<w.heap.size) (da:IsD w va a) (db:IsD w vb b) :
  ϛ Η 18 #[va,vb] w λe w'=>∃ r,ResOf w' e r/\Cp a b r/\Ext w w':=by
 have dc:=Z da;have dd:=Z db;have ez:=Z ha;have e0:=Z hb;obtain⟨ac,lc,cc,an,cn,aa,la,ca,rfl⟩:=da.agg;obtain⟨ig,ih,ij,ik,il,im,ir,iu,rfl⟩:=db.agg;have de:=λW (E:Ext w W)=>Z (Fp a ha c8 _ W (dc.o.ext E))
 have df:=λW (E:Ext w W)=>Z (Fp b hb c9 _ W (dd.o.ext E))
 have e3:=λW (E:Ext w W)=>Z (K8 a ha _ w W E (hT.below E.below bc) (Ξ bc E.size) dc.o)
 have e4:=λW (E:Ext w W)=>Z (K8 b hb _ w W E (hT.below E.below bc) (Ξ bc E.size) dd.o)
 have e5:=Z (λW (E:Ext w W)=>hT.below E.below bc);obtain⟨Va,cj⟩:=Xq (dA (U ac lc cc) (U an a.n.length cn) (U aa la ca));obtain⟨Vb,ck⟩:=Xq (dA (U ig ih ij) (U ik b.n.length il) (U im ir iu));have e6:(Η.info? 40).map (·.size)=J Va.size:=by rw[<-cj];exact Ae
 have e7:(Η.info? 40).map (·.size)=J Vb.size:=by rw[<-ck];exact Ae
 rw[cj] at de e3 dc;rw[ck] at df e4 dd;rw[cj,ck];have cl:=(((Κ w).alloc (Β Va 40)).alloc (Β Vb 40)).alloc (Β #[U I 0 0,U I 0 0,U I 0 0] 40);have H3:=Ah (Ah (Ad w (Β Va 40)) (Β Vb 40)) (Β #[U I 0 0,U I 0 0,U I 0 0] 40);have H4:=Ah (ϒ w (Β Va 40) (Β Vb 40)) (Β #[U I 0 0,U I 0 0,U I 0 0] 40);have H6:=Ad ((w.alloc (Β Va 40)).alloc (Β Vb 40)) (Β #[U I 0 0,U I 0 0,U I 0 0] 40);rw[Ρ,Ρ] at H6;clear da db ha hb hT cj ck;go_enter Tryz.func18,Tryz.ntmps18;go_upto_region 1 with (fail)
 obtain⟨w1,cm⟩:=Xq (((w.alloc (Β Va 40)).alloc (Β Vb 40)).alloc (Β #[U I 0 0,U I 0 0,U I 0 0] 40));have e8:w.heap.size+1+1<w1.heap.size:=by rw[<-cm,Ρ,Ρ,Ρ];omega
 rw[cm] at cl H3 H4 H6;simp only[cm];clear cm;have cp:=Z H3;have bl:=Z H4;have af:=Z H6;clear H3 H4 H6;go_upto_region 3 with (first
  | (refine Lr 40 (δ 2) cp.o Ο e6 ?_)
  | (refine Ep rfl (wp_load_row 40 (δ 3) rfl _ rfl _ _ _ _ bl.o Ο rfl e7 ?_))
  | (go_at_call 33;(with_reducible refine (de _ cl).o.mono ?_);rintro e w2 ⟨rfl,bm⟩;have dk:=cl.t bm;have bl:=Z (bm.heap bl.o))
  | (go_at_call 33;(with_reducible refine (df _ dk).o.mono ?_);rintro e w3 ⟨rfl,bn⟩;have a6:=dk.t bn))
 have cp:=Z ((bm.t bn).heap cp.o);have bl:=Z (bn.heap bl.o);have af:=Z ((bm.t bn).heap af.o);have j8:w.heap.size+1+1<w3.heap.size:=Ξ e8 (bm.t bn).size;clear de df cl bm dk bn e8;refine Ia 10 57 (by kernel_rfl) (by kernel_rfl) rfl (Td w w3.heap.size Va Vb a b) Tc WK (WL w w3.heap.size Va Vb a b) (λi hi=>?_) (λvs w4 e9 X hN=>?_)
 ·have ag:=(Κ w3).drew
  match i,hi with
  | 0,_=>
   refine Ap _ _ rfl rfl rfl λc W E G H=>?_
   have h3:=H 2 (by kernel_rfl);refine Cr (Em 40 (δ 2) rfl w.heap.size h3 _ _ _ _ ((ag.t E).heap cp.o) Ο rfl e6) ?_;exact⟨_,rfl,Κ W,rfl,λj u _ _ _ h=>by omega⟩
  | 4,_=>
   refine Ap _ _ rfl rfl rfl λc W E G H=>?_
   have h3:=H 3 (by kernel_rfl);refine Cr (Em 40 (δ 3) rfl (w.heap.size+1) h3 _ _ _ _ ((ag.t E).heap bl.o) Ο rfl e7) ?_;exact⟨_,rfl,Κ W,rfl,λj u _ _ _ h=>by omega⟩
  | 1,_=>
   refine Ap _ _ rfl rfl rfl λc W E G H=>?_
   have j9:c.tmps.getD 23 Ω=.agg Va:=G 0 23 (by kernel_rfl);go_simp
   (with_reducible refine (e3 W (a6.t (ag.t E))).o.mono ?_)
   rintro e W' ⟨A,rfl,hA,hE⟩;exact⟨_,rfl,hE,⟨A,rfl,hA⟩,λj u _ _ _ h=>by omega⟩
  | 5,_=>
   refine Ap _ _ rfl rfl rfl λc W E G H=>?_
   have ka:c.tmps.getD 27 Ω=.agg Vb:=G 4 27 (by kernel_rfl);go_simp
   (with_reducible refine (e4 W (a6.t (ag.t E))).o.mono ?_)
   rintro e W' ⟨A,rfl,hA,hE⟩;exact⟨_,rfl,hE,⟨A,rfl,hA⟩,λj u _ _ _ h=>by omega⟩
  | 2,_=>
   refine Ap _ _ rfl rfl rfl λc W E G H=>?_
   obtain⟨A,iw,bp⟩:∃ A,c.tmps.getD 24 Ω=.agg A/\IsT w A (Ai a):=G 1 24 (by kernel_rfl);go_simp
   (with_reducible refine (Tf (Ai a) (Bu ez.o) (μ c8 (by omega)) A W (bp.ext (a6.t (ag.t E)))).mono ?_)
   rintro e W' ⟨v,d,rfl,hD,h1,h2,hE⟩;exact⟨_,rfl,hE,⟨d,h1,λu=>by rw[h2,Eg],hD⟩,λj u _ _ _ h=>by omega⟩
  | 6,_=>
   refine Ap _ _ rfl rfl rfl λc W E G H=>?_
   obtain⟨A,iw,bp⟩:∃ A,c.tmps.getD 28 Ω=.agg A/\IsT w A (Ai b):=G 5 28 (by kernel_rfl);go_simp
   (with_reducible refine (Tf (Ai b) (Bu e0.o) (μ c9 (by omega)) A W (bp.ext (a6.t (ag.t E)))).mono ?_)
   rintro e W' ⟨v,d,rfl,hD,h1,h2,hE⟩;exact⟨_,rfl,hE,⟨d,h1,λu=>by rw[h2,Eg],hD⟩,λj u _ _ _ h=>by omega⟩
  | 3,_=>
   refine Ap _ _ rfl rfl rfl λc W E G H=>?_
   obtain⟨d,h1,h2,h3⟩:∃ d,Cano d/\(∀ u,d.has u=a.has u)/\∀ W',Near W W'->IsD W' (c.tmps.getD 25 Ω) d:=G 2 25 (by kernel_rfl);obtain⟨v,hv⟩:=Xq (c.tmps.getD 25 Ω);rw[hv] at h3;have bz:=a6.t (ag.t E);go_simp
   (with_reducible refine (Po d h1.val v W (e5.o W bz) (Ξ bc bz.size) (h3 W (Near.of_ext (Κ W)))).mono ?_)
   rintro e W' ⟨A,rfl,hA,hE⟩;exact⟨_,rfl,hE,⟨A,rfl,d,h1,h2,λW2 hN=>hA W2 (h3 W2 (hN.pre hE))⟩,λj u _ _ _ h=>by omega⟩
  | 7,_=>
   refine Ap _ _ rfl rfl rfl λc W E G H=>?_
   obtain⟨d,h1,h2,h3⟩:∃ d,Cano d/\(∀ u,d.has u=b.has u)/\∀ W',Near W W'->IsD W' (c.tmps.getD 29 Ω) d:=G 6 29 (by kernel_rfl);obtain⟨v,hv⟩:=Xq (c.tmps.getD 29 Ω);rw[hv] at h3;have bz:=a6.t (ag.t E);go_simp
   (with_reducible refine (Po d h1.val v W (e5.o W bz) (Ξ bc bz.size) (h3 W (Near.of_ext (Κ W)))).mono ?_)
   rintro e W' ⟨A,rfl,hA,hE⟩;exact⟨_,rfl,hE,⟨A,rfl,d,h1,h2,λW2 hN=>hA W2 (h3 W2 (hN.pre hE))⟩,λj u _ _ _ h=>by omega⟩
  | 8,_=>
   refine Ap _ _ rfl rfl rfl λc W E G H=>?_
   go_simp;refine⟨_,rfl,(Κ W).alloc _,⟨_,rfl,Ad W _,(ag.t E).size⟩,λj u _ _ hu h=>?_⟩;obtain rfl:j=9:=by omega
   obtain⟨g',rfl,dq,-⟩:=hu;intro e;have:W.heap.size=g':=by simpa using e
   have:=Al dq;omega
  | 9,_=>
   refine Ap _ _ rfl rfl rfl λc W E G H=>?_
   go_simp;refine⟨_,rfl,(Κ W).alloc _,⟨_,rfl,Ad W _,(ag.t E).size⟩,λj u _ _ hu h=>?_⟩;obtain rfl:j=8:=by omega
   obtain⟨g',rfl,dq,-⟩:=hu;intro e;have:W.heap.size=g':=by simpa using e
   have:=Al dq;omega
 obtain⟨A1,fa,ix⟩:=X 1 (by omega);obtain⟨A,hA,x,dr,fb,bq⟩:=X 3 (by omega);obtain⟨B1,fc,iy⟩:=X 5 (by omega);obtain⟨B,hB,y,dt,ff,br⟩:=X 7 (by omega);obtain⟨g6,h6,H6,iz⟩:PtrF _ _ _:=X 8 (by omega);obtain⟨g7,h7,H7,ja⟩:PtrF _ _ _:=X 9 (by omega);have fh:g6≠g7:=λe=>hN 8 9 (by omega) (by omega) (by omega) (by omega) (by rw[h6,h7,e])
 have fj:=(Κ w3).drew.t e9;have b4:vs 0=.agg Va:=X 0 (by omega);have b5:vs 4=.agg Vb:=X 4 (by omega);obtain⟨v2,fk⟩:=Xq (vs 2);obtain⟨v6,fl⟩:=Xq (vs 6);simp only[Bq,Ä,ϰ,hA,hB,fa,fc,h6,h7,b4,b5,fk,fl,Ã,Å,Æ,ó,η,Θ,Μ,Λ];clear X hN hA hB h6 h7 b4 b5 fa fc fk fl ix iy;obtain⟨_,_,_,_,_,_,dw,fm,_⟩:=(bq w4 (Near.of_ext (Κ w4))).opened (Bu dr.val);obtain⟨_,_,_,_,_,_,dx,fo,_⟩:=(br w4 (Near.of_ext (Κ w4))).opened (Bu dt.val);have fp:(Η.info? 84).map (·.size)=J A.size:=by rw[dw];exact Ci
 have hiB:(Η.info? 84).map (·.size)=J B.size:=by rw[dx];exact Ci
 have fq:γ.size=A.size:=by rw[Dd,dw]
 have fs:γ.size=B.size:=by rw[Dd,dx]
 have cq:=Bm H7 (Ne.symm fh) A;have ct:=((fj.setRow iz A).setRow ja B);have G6:=Bm (Χ w4 g6 _ A _ _ H6) fh B;have G7:=Χ (w4.setRow g6 A) g7 _ B _ _ cq;have bd:Near w4 ((w4.setRow g6 A).setRow g7 B):=((Near.of_ext (Κ w4)).setRow H6 Pg A).setRow cq Pg B;have bq:=bq _ bd;have br:=br _ bd;clear dw dx bd;go_upto_region 4 with (first
  | (refine Sr 84 (δ 6) (δ 26) rfl H6 fp fq fm ?_)
  | (refine Sr 84 (δ 7) (δ 30) rfl cq hiB fs fo ?_))
 obtain⟨w5,ea⟩:=Xq ((w4.setRow g6 A).setRow g7 B);rw[ea] at ct G6 G7 bq br;simp only[ea];clear ea fj H6 H7 cq fq fs e9 fm fo;have b6:=a6.t ct;have af:=Z (ct.heap af.o);have bt:=Z dr;have b7:=Z dt;have cu:=Z fb;have cv:=Z ff;have be:=Z bq;have bf:=Z br;have bg:=Z G6;have bh:=Z G7;have hJ:=Z (Rk (Ai x) (Ai y) (Bu bt.o.val) (Bu b7.o.val) A B w5 be.o bf.o);have fu:∀ c,Ϣ.size=(B0 c).size:=λc=>by rw[Kv,E7,E7]
 have fv:∀ c,(Η.info? 82).map (·.size)=J (B0 c).size:=λc=>by rw[E7];exact L5
 clear bq br G6 G7 dr dt fb ff a6 ct;go_upto_region 5 with (first
  | (refine Lr 84 (δ 6) bg.o ϸ fp ?_)
  | (refine Lr 84 (δ 7) bh.o ϸ hiB ?_)
  | (go_at_call 42;(with_reducible refine hJ.o.mono ?_);rintro e w6 ⟨c,bs,vj,rfl,fw,fx,bj⟩;have eb:=fu c;have ec:=fv c;have ed:=Oy c;obtain⟨A9,cw⟩:=Xq (B0 c);rw[cw] at eb ec ed;rw[cw])
  | (refine Sr 82 (δ 8) (δ 35) rfl (Ad w6 (Β Ϣ 82)) ec eb ed ?_))
 have aj:=bj.t (((Κ w6).alloc (Β Ϣ 82)).setRow (Υ _) A9);have H8:=Χ (w6.alloc (Β Ϣ 82)) w6.heap.size _ A9 _ _ (Ad w6 _);have ef:=fx.ext (((Κ w6).alloc (Β Ϣ 82)).setRow (Υ _) A9);obtain⟨w7,eg⟩:=Xq ((w6.alloc (Β Ϣ 82)).setRow w6.heap.size A9);rw[eg] at aj H8 ef;simp only[eg];clear eg bj fx fu fv hJ eb ed;have bg:=Z (aj.heap bg.o);have bh:=Z (aj.heap bh.o);have af:=Z (aj.heap af.o);have be:=Z (be.o.ext aj);have bf:=Z (bf.o.ext aj);have fy:=b6.t aj;have eh:=Z H8;have b9:=Z fw;have jc:=Z cw;clear H8 fw cw b6 aj;generalize w6.heap.size=g8 at *;have je:=(Τ (w7.alloc (Β #[.nilFunc] 104)) w7.heap.size 0 _ _ _ (Ad w7 (Β #[.nilFunc] 104))).trans (show (#[Δ.nilFunc]:Array Δ)[0]? = J .nilFunc from rfl);have jf:=È (w7.alloc (Β #[.nilFunc] 104)) w7.heap.size 0 _ _ (Ad w7 (Β #[.nilFunc] 104));go_upto_region 7 with (fail)
 have aw:=(Κ w7).alloc (Β #[.func (.func 43) #[] #[ε (J ⟨g6,0,I⟩)]] 104);have ei:=Ad w7 (Β #[.func (.func 43) #[] #[ε (J ⟨g6,0,I⟩)]] 104);obtain⟨w8,ej⟩:=Xq (w7.alloc (Β #[.func (.func 43) #[] #[ε (J ⟨g6,0,I⟩)]] 104));rw[ej] at aw ei;simp only[ej];clear ej je jf;generalize w7.heap.size=bk at *;have jg:=Z (fy.t aw);have bg:=Z (aw.heap bg.o);have bh:=Z (aw.heap bh.o);have eh:=Z (aw.heap eh.o);have af:=Z (aw.heap af.o);have be:=Z (be.o.ext aw);have bf:=Z (bf.o.ext aw);have jh:=Z (ef.ext aw);have fz:=Z ei;clear ei ef fy aw;have ji:0<bs.length:=by have:=b9.o.lt 0 (by omega);omega
 have jj:bs.length<=256:=by have:=Jq c 256 bs.length (λj hj=>⟨bs.getD j 0,(b9.o.byte j hj).1,(b9.o.byte j hj).2⟩);exact this
 have kf:(Ai x).n.length<=64:=μ (O0 bt.o ez.o cu.o) c8;have ek:(Ai y).n.length<=64:=μ (O0 b7.o e0.o cv.o) c9;have gb:0<(Ai x).n.length:=(Bu bt.o.val).pos;have cy:=Z (Bu bt.o.val);have cz:=Z (Bu b7.o.val);obtain⟨T,gd⟩:∃ T:Bool,T=Α↔¬ Cx (cnx (Ai x) (Ai y)) (cst (Ai x)) 4096:=by
  by_cases hM:Cx (cnx (Ai x) (Ai y)) (cst (Ai x)) 4096
  ·exact⟨Ε,by simp[hM]⟩
  exact⟨Α,by simp[hM]⟩
 have c3:=Z gd;clear gd;obtain⟨Lc,en⟩:=Xq (Cat (λu=>(Ai x).has u=Α) (λv=>(Ai y).has v=Α));have hX:=λW (E:Ext w8 W)=>Z (ϛ.mono (Se c bs ji jj (λk hk=>(b9.o.byte k hk).1) (cSt (Ai x)) (cNx (Ai x) (Ai y)) (cAc (Ai y)) (Mp (Ai x))
  (λs hs=>⟨by have:=hs.1;omega,by have:=hs.2.1;omega,hs.2.2⟩) ⟨gb,rfl,BX _ _ (by show 0<_;omega)⟩
  (λs hs k hk=>WR cy.o cz.o ek s hs k hk) 4096 (by omega) (by omega) 44 47 _ _ (enters_of Tryz.func44 (by kernel_rfl) rfl) (enters_of Tryz.func47 (by kernel_rfl) rfl) vj W (jh.o.ext E)
  (VY (Ai x) (Ai y) cy.o cz.o ek A B g6 g7 bk W (be.o.ext E) (bf.o.ext E) (E.heap bg.o) (E.heap bh.o) (E.heap fz.o))
  (UZ (Ai x) (Ai y) cz.o ek B g7 W (bf.o.ext E) (E.heap bh.o)))
  (R':=λe w'=>∃ A,e=Ψ (ϗ #[.agg A,.bool T])/\TabF T Lc A w'/\Ext W w') λe w' ⟨hE,h⟩=>by
   rcases h with⟨A,l,t,he,hT,jk,hl,_,jm⟩|⟨hM,he⟩
   ·obtain⟨h1,h2,h3,h4⟩:=WJ cy.o cz.o b9.o jk hl;obtain⟨_,_,_,_,_,_,cd,er,_⟩:=hT.opened h1;obtain rfl:T=Α:=c3.o.2 h3;exact⟨A,he,⟨cd,er,λ_=>⟨t,h1,h2,λu=>by rw[h4,en],jm⟩⟩,hE⟩
   have jo:=X7 hM stP (λs b=>BW _ _ s b) (λw w' e=>M6 (O1 _ _ w) (O1 _ _ w') e);have jq:T=Ε:=by
    cases T
    ·rfl
    exact absurd jo (c3.o.1 rfl)
   subst jq;exact⟨γ,he,⟨Dd,T8,λh=>by cases h⟩,hE⟩)
 rw[jc.o] at hX;have f71:∀ W,Ext w8 W->ϟ (ϛ Η 43 #[.agg #[.int Φ 0,.int Φ 0,.int ζ 0],ε (J ⟨g6,0,I⟩)] W λe w'=>e=Ψ (stV (cSt (Ai x)))/\Ext W w'):=λW E=>Z (BG (Ai x) cy.o A g6 w8 be.o bg.o W E 0 0 gb (by omega))
 have jr:=Z en;clear en;have gf:(Η.info? 82).map (·.size)=J A9.size:=ec;refine Pi 12 57 10 (by kernel_rfl) (by kernel_rfl) rfl (λ_ _ _ _ h=>h) (Sg w8.heap.size A9 vj (.func (.func 43) #[] #[ε (J ⟨g6,0,I⟩)]) (stV (cSt (Ai x)))
  (.func (.func 44) #[] #[ε (J ⟨bk,0,I⟩),ε (J ⟨g6,0,I⟩),ε (J ⟨g7,0,I⟩)]) (.func (.func 47) #[] #[ε (J ⟨g7,0,I⟩)]) T Lc) Sf UA (UB _ _ _ _ _ _ _ _ _) _ rfl (λc W G=>?_) (λi hi=>?_) (λvs w9 b6 X hN=>?_)
 ·obtain⟨AX,js,-⟩:∃ A,c.tmps.getD 39 Ω=ϗ #[.agg A,.bool T]/\TabF T Lc A W:=G 8 39 (by kernel_rfl);exact⟨.bool T,λW=>by simp only[ê,á,js];rfl⟩
 ·have ag:=(Κ w8).drew
  match i,hi with
  | 0,_=>
   refine Ap _ _ rfl rfl rfl λc W E G H=>?_
   have h3:=H 8 (by kernel_rfl);refine Cr (Em 82 (δ 8) rfl g8 h3 _ _ _ _ ((ag.t E).heap eh.o) Tryz.underlying82 rfl gf) ?_;exact⟨_,rfl,Κ W,rfl,λ_ _ _ _ _=>trivial⟩
  | 1,_=>
   refine Ap _ _ rfl rfl rfl λc W E G H=>?_
   have h3:c.tmps.getD 9 Ω=vj:=H 9 (by kernel_rfl);go_simp;exact⟨_,rfl,Κ W,rfl,λ_ _ _ _ _=>trivial⟩
  | 2,_=>
   refine Ap _ _ rfl rfl rfl λc W E G H=>?_
   have h3:c.tmps.getD 10 Ω=ε (J ⟨bk,0,I⟩):=H 10 (by kernel_rfl);have kh:=(Τ W bk 0 _ _ _ ((ag.t E).heap fz.o)).trans (show (#[Δ.func (.func 43) #[] #[ε (J ⟨g6,0,I⟩)]]:Array Δ)[0]? = J (.func (.func 43) #[] #[ε (J ⟨g6,0,I⟩)]) from rfl);go_simp;exact⟨_,rfl,Κ W,rfl,λ_ _ _ _ _=>trivial⟩
  | 3,_=>
   refine Ap _ _ rfl rfl rfl λc W E G H=>?_
   refine Cr (Fy 103 _ rfl (by simpa [á] using XJ) W) ?_;exact⟨_,rfl,Κ W,rfl,λ_ _ _ _ _=>trivial⟩
  | 4,_=>
   refine Ap _ _ rfl rfl rfl λc W E G H=>?_
   have ki:c.tmps.getD 42 Ω=.func (.func 43) #[] #[ε (J ⟨g6,0,I⟩)]:=G 2 42 (by kernel_rfl);have kj:c.tmps.getD 43 Ω=.agg #[.int Φ 0,.int Φ 0,.int ζ 0]:=G 3 43 (by kernel_rfl);have kk:=enters_of Tryz.func43 (by kernel_rfl) rfl;go_simp
   (with_reducible refine (f71 W (ag.t E)).o.mono ?_)
   rintro e W' ⟨rfl,hE⟩;exact⟨_,rfl,hE,rfl,λ_ _ _ _ _=>trivial⟩
  | 5,_=>
   refine Ap _ _ rfl rfl rfl λc W E G H=>?_
   have h3:=H 11 (by kernel_rfl);replace h3:c.tmps.getD 11 Ω=.func (.func 44) #[] #[ε (J ⟨bk,0,I⟩),ε (J ⟨g6,0,I⟩),ε (J ⟨g7,0,I⟩)]:=h3;go_simp;exact⟨_,rfl,Κ W,rfl,λ_ _ _ _ _=>trivial⟩
  | 6,_=>
   refine Ap _ _ rfl rfl rfl λc W E G H=>?_
   have h3:c.tmps.getD 7 Ω=ε (J ⟨g7,0,I⟩):=H 7 (by kernel_rfl);go_simp;exact⟨_,rfl,Κ W,rfl,λ_ _ _ _ _=>trivial⟩
  | 7,_=>
   refine Ap _ _ rfl rfl rfl λc W E G H=>?_
   have kl:c.tmps.getD 40 Ω=.agg A9:=G 0 40 (by kernel_rfl);have km:c.tmps.getD 41 Ω=vj:=G 1 41 (by kernel_rfl);have kn:c.tmps.getD 44 Ω=stV (cSt (Ai x)):=G 4 44 (by kernel_rfl);have ko:c.tmps.getD 45 Ω=.func (.func 44) #[] #[ε (J ⟨bk,0,I⟩),ε (J ⟨g6,0,I⟩),ε (J ⟨g7,0,I⟩)]:=G 5 45 (by kernel_rfl);have kq:c.tmps.getD 46 Ω=.func (.func 47) #[] #[ε (J ⟨g7,0,I⟩)]:=G 6 46 (by kernel_rfl);go_simp;refine (hX W (ag.t E)).o.mono ?_;rintro e W' ⟨A',rfl,hT,hE⟩;exact⟨_,rfl,hE,⟨A',rfl,hT⟩,λ_ _ _ _ _=>trivial⟩
  | 8,_=>
   refine Ap _ _ rfl rfl rfl λc W E G H=>?_
   obtain⟨AX,gg,hT⟩:∃ A,c.tmps.getD 47 Ω=ϗ #[.agg A,.bool T]/\TabF T Lc A W:=G 7 47 (by kernel_rfl);go_simp;exact⟨_,rfl,Κ W,⟨AX,rfl,hT⟩,λ_ _ _ _ _=>trivial⟩
  | 9,_=>
   refine Ap _ _ rfl rfl rfl λc W E G H=>?_
   obtain⟨AX,gg,hT⟩:∃ A,c.tmps.getD 39 Ω=ϗ #[.agg A,.bool T]/\TabF T Lc A W:=G 8 39 (by kernel_rfl);go_simp;exact⟨_,rfl,Κ W,⟨AX,rfl,hT⟩,λ_ _ _ _ _=>trivial⟩
  | 10,_=>
   refine Ap _ _ rfl rfl rfl λc W E G H=>?_
   obtain⟨AX,gg,hT⟩:∃ A,c.tmps.getD 39 Ω=ϗ #[.agg A,.bool T]/\TabF T Lc A W:=G 8 39 (by kernel_rfl);go_simp;exact⟨_,rfl,Κ W,rfl,λ_ _ _ _ _=>trivial⟩
  | 11,_=>
   refine Ap _ _ rfl rfl rfl λc W E G H=>?_
   go_simp;exact⟨_,rfl,(Κ W).alloc _,⟨_,rfl,Ad W _,(ag.t E).size⟩,λ_ _ _ _ _=>trivial⟩
 have b4:vs 0=.agg A9:=X 0 (by omega);have gi:vs 1=vj:=X 1 (by omega);have c4:=X 2 (by omega);have gj:vs 3=.agg #[.int Φ 0,.int Φ 0,.int ζ 0]:=X 3 (by omega);have b5:vs 4=stV (cSt (Ai x)):=X 4 (by omega);have c5:=X 5 (by omega);have c6:=X 6 (by omega);replace c4:vs 2=.func (.func 43) #[] #[ε (J ⟨g6,0,I⟩)]:=c4;replace c5:vs 5=.func (.func 44) #[] #[ε (J ⟨bk,0,I⟩),ε (J ⟨g6,0,I⟩),ε (J ⟨g7,0,I⟩)]:=c5;replace c6:vs 6=.func (.func 47) #[] #[ε (J ⟨g7,0,I⟩)]:=c6;obtain⟨A7,gk,-⟩:∃ A,vs 7=ϗ #[.agg A,.bool T]/\TabF T Lc A w9:=X 7 (by omega);obtain⟨A8,gl,-⟩:∃ A,vs 8=ϗ #[.agg A,.bool T]/\TabF T Lc A w9:=X 8 (by omega);obtain⟨AT,gm,cd,er,gn⟩:∃ A,vs 9=.agg A/\TabF T Lc A w9:=X 9 (by omega);have gp:vs 10=.bool T:=X 10 (by omega);obtain⟨et,gq,c7,ju⟩:PtrF _ _ _:=X 11 (by omega);simp only[Bq,Ä,ϰ,b4,gi,c4,gj,b5,c5,c6,gk,gl,gm,gp,gq,Ã,Å,Æ,ó,η,Θ,Μ,Λ];clear X hN b4 gi c4 gj b5 c5 c6 gk gl gm gp gq;have gu:(Η.info? 84).map (·.size)=J AT.size:=by rw[cd];exact Ci
 have jv:γ.size=AT.size:=by rw[Dd,cd]
 have bj:=((Κ w8).drew.t b6).setRow ju AT;have eu:=Χ w9 et _ AT _ _ c7;have bd:Near w9 (w9.setRow et AT):=(Near.of_ext (Κ w9)).setRow c7 Pg AT;clear cd;go_upto_region 8 with (refine Sr 84 (δ 12) (δ 48) rfl c7 gu jv er ?_)
 obtain⟨gv,ev⟩:=Xq (w9.setRow et AT);rw[ev] at bj eu bd;simp only[ev];clear ev b6 c7;have jw:=Z eu;have af:=Z (bj.heap af.o);have gw:=Z (jg.o.t bj);clear bj eu hX f71 gf;cases T
 ·have jx:=Z Ga;go_wp2_with (first
   | (refine Bk rfl 40 _ rfl #[U I 0 0,U I 0 0,U I 0 0] ?_ ?_;(simp;with_reducible exact jx.o))
   | (refine Sr 40 (δ 4) (δ 52) rfl af.o Ae rfl Fg ?_))
  refine ω (v:=ϗ #[zD,.int Φ 2]) (Bi rfl _ _ _ _ _ _ _ rfl _ rfl (Χ gv _ _ #[U I 0 0,U I 0 0,U I 0 0] 40 (0,0) af.o) Ο rfl Ae) rfl ?_;exact⟨I,rfl,⟨x,y,bt.o,b7.o,cu.o,cv.o,λ_=>rfl,λh=>absurd (c3.o.2 h) (by simp)⟩,gw.o.setRow (by omega) _⟩
 obtain⟨t,gx,jy,gy,bp⟩:=gn rfl;have hL:=Z (Q8 t gx (show t.n.length<=65536 by omega) AT gv (bp _ bd));have j0:=Z gy;have j1:=Z (c3.o.1 rfl);clear bp gx jy gy bd gn;go_wp2_with (first
  | (refine Lr 84 (δ 12) jw.o ϸ gu ?_)
  | (go_at_call 49;(with_reducible refine hL.o.mono ?_);rintro e j2 ⟨r,ew,gz,aj⟩;obtain⟨hf,hh,hn,ho,hp,hq,hr,ht,hy,k2,rfl⟩:=ew.form;have j4:=Z ew;have hz:=Z gz;clear ew gz;have af:=Z (aj.heap af.o))
  | (refine Sr 40 (δ 4) (δ 55) rfl af.o Ae rfl (Av _ _ _ rfl rfl rfl) ?_))
 refine ω (v:=ϗ #[.agg (dA (U hf hh hn) (U ho hp hq) (U hr ht hy)),.int Φ k2]) (Bi rfl _ _ _ _ _ _ _ rfl _ rfl (Χ j2 _ _ (dA (U hf hh hn) (U ho hp hq) (U hr ht hy)) 40 (0,0) af.o) Ο rfl Ae) rfl ?_;refine⟨r,j4.o.setRow (Hm hz.o) af.o _,⟨x,y,bt.o,b7.o,cu.o,cv.o,λh=>absurd h j1.o,λ_=>Gm hz.o λu=>?_⟩,(gw.o.t aj).setRow (by omega) _⟩;rw[j0.o,<-jr.o];have e1:(λu=>(Ai x).has u=Α)=λu=>a.has u=Α:=funext λu=>by rw[Eg,cu.o]
 have e2:(λu=>(Ai y).has u=Α)=λu=>b.has u=Α:=funext λu=>by rw[Eg,cv.o]
 rw[e1,e2]
def Dj (p:UInt8->Prop):Ag:=λw=>∃ x:UInt8,w=[x]/\p x
theorem Gs {d:Dfa} {L:Ag} (h:Fit d L) (stp:Nat->UInt8->Nat) (acc:Nat->Prop) (k:Nat) (h0:0<k) (E:∀ s x,s<k->stp s x<k) (G:∀ w,L w↔acc (w.foldl stp 0)):d.n.length<=k:=by
 have hb:∀ (w:List UInt8) s,s<k->w.foldl stp s<k:=λw=>by
  induction w with
  | nil=>intro s E;exact E
  | cons x w H=>intro s T;exact H _ (E s x T)
 have:=Kg h.1 (λw=>w.foldl stp 0) (λw w' e u=>by rw[Ϸ,h.2,h.2,G,G,ÿ,ÿ,e]) (π k) (λw=>ϔ.2 (hb w 0 h0))
 simpa using this
theorem Fm {d:Dfa} {L M:Ag} (h:Fit d L) (e:∀ w,L w↔M w):Fit d M:=⟨h.1,λw=>(h.2 w).trans (e w)⟩
theorem I1 {a b:Dfa} {L M:Ag} {r:Option Dfa} (h:Cp a b r) (E:Fit a L) (hb:Fit b M) (T:a.n.length*2 ^ b.n.length<=4096) (X:∀ d,Fit d (Cat L M)->d.n.length<=64):∃ d,r=J d/\Fit d (Cat L M):=by
 obtain⟨x,y,hx,G,ex,ey,h1,h2⟩:=h;obtain rfl:=E8 hx E.1 ex;obtain rfl:=E8 G hb.1 ey;have hl:=h2 (WI (Bu hx.val) (Bu G.val) T);have H:Lim (Cat L M) r:=Gm hl λw=>Ht (λw=>E.2 w) (λw=>hb.2 w) w
 cases r with
 | some d=>exact⟨d,rfl,Q9 H⟩
 | none=>obtain⟨d,d1,d2,d3⟩:=H;have:=X d ⟨d1,d2⟩;omega
theorem GL {a:Dfa} {L:Ag} {r:Option Dfa} (h:Hv a r) (G:Fit a L) (H:2*2 ^ a.n.length<=4096) (T:∀ d,Fit d (Star L)->d.n.length<=64):∃ d,r=J d/\Fit d (Star L):=by
 obtain⟨x,hx,X,h1,h2⟩:=h;obtain rfl:=E8 hx G.1 X;have E:=h2 (GG (Bu hx.val) H);have e:(λw=>x.has w=Α)=L:=funext λw=>propext (G.2 w)
 rw[e] at E;cases r with
 | some d=>exact⟨d,rfl,Q9 E⟩
 | none=>obtain⟨d,d1,d2,d3⟩:=E;have:=T d ⟨d1,d2⟩;omega
theorem Gr (stp:Nat->UInt8->Nat) (s:Nat) (h:∀ x,stp s x=s):∀ w:List UInt8,w.foldl stp s=s
 | []=>rfl
 | x::w=>by rw[List.foldl_cons,h x];exact Gr stp s h w
section
open Classical
theorem Jy {d:Dfa} {p:UInt8->Prop} (h:Fit d (Dj p)):d.n.length<=3:=by
 refine Gs h (λs x=>if s=0/\p x then 1 else 2) (λs=>s=1) 3 (by omega) (λs x _=>by split<;>omega) λw=>?_
 unfold Dj;rcases w with _|⟨x,_|⟨y,w⟩⟩
 ·simp
 ·by_cases E:p x<;>simp[E]
 have:(List.foldl (λs x=>if s=0/\p x then 1 else 2) 0 (x::y::w):Nat)=2:=by
  rw[List.foldl_cons,List.foldl_cons];have G:(if (if 0=0/\p x then 1 else 2)=0/\p y then 1 else 2:Nat)=2:=by split<;>simp
  rw[G];exact Gr _ 2 (λx=>by simp) w
 rw[this];simp
theorem U1 (p:UInt8->Prop) (w:List UInt8):Star (Dj p) w↔∀ x∈w,p x:=by
 rw[Pv];have key:∀ k w,pw (Dj p) k w↔w.length=k/\∀ x∈w,p x:=λk=>by
  induction k with
  | zero=>
   intro w;show w=[]↔_;constructor
   ·rintro rfl;simp
   rintro⟨h,_⟩;exact List.eq_nil_of_length_eq_zero h
  | succ k H=>
   intro w;rw[F6];constructor
   ·rintro⟨u,v,rfl,⟨x,rfl,hx⟩,T⟩;obtain⟨h1,G⟩:=(H v).1 T;refine⟨by simp[h1,Nat.add_comm],λy E=>?_⟩;rcases List.mem_cons.1 (by simpa using E) with rfl|E
    ·exact hx
    exact G y E
   rintro⟨h1,G⟩;cases w with
   | nil=>simp at h1
   | cons x w=>exact⟨[x],w,rfl,⟨x,rfl,G x (by simp)⟩,(H w).2 ⟨by simpa using h1,λy E=>G y (by simp[E])⟩⟩
 constructor
 ·rintro⟨k,X⟩;exact ((key k w).1 X).2
 intro h;exact⟨w.length,(key _ w).2 ⟨rfl,h⟩⟩
theorem Kj {d:Dfa} {p:UInt8->Prop} (h:Fit d (λw=>∀ x∈w,p x)):d.n.length<=2:=by
 refine Gs h (λs x=>if s=0/\p x then 0 else 1) (λs=>s=0) 2 (by omega) (λs x _=>by split<;>omega) λw=>?_
 induction w with
 | nil=>simp
 | cons x w G=>
  rw[List.foldl_cons];by_cases E:p x
  ·simp only[E,and_self,if_true,List.mem_cons,forall_eq_or_imp,true_and];exact G
  have:(List.foldl (λs x=>if s=0/\p x then 0 else 1) 1 w:Nat)=1:=Gr _ 1 (λx=>by simp) w;simp[E,this]
theorem Gl {d:Dfa} (h:Fit d (λw=>w=[])):d.n.length<=2:=by
 refine Gs h (λs x=>1) (λs=>s=0) 2 (by omega) (λs x _=>by omega) λw=>?_
 cases w with
 | nil=>simp
 | cons x w=>have:(List.foldl (λ_ _=>1) 1 w:Nat)=1:=Gr _ 1 (λx=>rfl) w;simp[this]
end
theorem UW (d:Dfa) (l:List UInt8) (j:Nat) (h:j<l.length):d.run 0 (l.take (j+1))=d.stp (d.run 0 (l.take j)) (l.getD j 0).toNat:=by rw[List.take_succ_eq_append_getElem h,Bf];simp[Dfa.run,List.getD_eq_getElem?_getD,h]
theorem Mv (d:Dfa) (hv:Val d) (hn:d.n.length<=64) (v:Δ) (l:List UInt8) (u:Δ) (w:Γ) (hT:Tab w) (ak:0<w.heap.size) (h:IsD w v d) (hb:By w u l) :
  ϛ Η 24 #[v,u] w λe w'=>e=Ψ (.bool (d.has l))/\Ext w w':=by
 have HD:=Z h;obtain⟨vc,vn,va,rfl,_,_,_⟩:=h;have a6:=(Κ w).alloc (Β #[vc,vn,va] 40);have T:=Z (Ad w (Β #[vc,vn,va] 40));have f47:=λW (E:Ext w W)=>Z (Fp d hv hn _ W (HD.o.ext E))
 have f68:=λW (E:Ext w W)=>Z (Jc d hv _ W (hT.below E.below ak) (Ξ ak E.size) (HD.o.ext E))
 obtain⟨ab,bb,ob,cb,rfl,a7,a8⟩:=hb.split;have c4:l.length<=4611686018427387904:=hb.1;have b8:=Z a7;have b9:=Z a8;have hV:=Bu hv;have HV:=Z hv;clear a7 a8 hb HD hT ak;go_enter Tryz.func24,Tryz.ntmps24;go_upto_region 1 with (fail)
 generalize w.alloc (Β #[vc,vn,va] 40)=w1 at *;have ar:(Η.info? 40).map (·.size)=J 3:=by kernel_rfl
 go_upto_region 3 with (first
  | (refine Lr 40 (δ 2) T.o Ο ar ?_)
  | (go_at_call 33;with_reducible refine (f47 _ a6).o.mono ?_;rintro e w2 ⟨rfl,au⟩))
 have T:=Z (au.heap T.o);have aw:=a6.t au;go_upto_region 4 with (first
  | (refine Lr 40 (δ 2) T.o Ο ar ?_)
  | (go_at_call 34;with_reducible refine (f68 _ aw).o.mono ?_;rintro e G ⟨A,rfl,hA,bc⟩;obtain⟨bn,on,cn,ba,oa,ca,ax,bd,be,_,bf,bg,hR,bj⟩:=hA.opened hV;have bk:γ.size=A.size:=(by rw[Dd,ax]);have bl:(Η.info? 84).map (·.size)=J A.size:=(by rw[ax];exact Ci))
  | (refine wpList_store_row rfl 84 (δ 5) (δ 13) rfl _ A rfl rfl _ _ (Ad G (Β γ 84)) bl bk bd ?_))
 have af:=((Κ G).alloc (Β γ 84)).setRow (Υ G.heap.size) A;have H5:=Χ (G.alloc (Β γ 84)) _ _ A 84 (0,0) (Ad G (Β γ 84));obtain⟨X,bm⟩:=Xq ((G.alloc (Β γ 84)).setRow G.heap.size A);simp only[bm] at *;clear bm;have bo:=(aw.t bc).trans af;have cf:=Z (λ(W:Γ) (E:Ext X W)=>(Τ W G.heap.size 257 _ _ _ (E.heap H5)).trans bf);have cg:=Z (λ(W:Γ) (E:Ext X W)=>(Τ W G.heap.size 258 _ _ _ (E.heap H5)).trans bg);have cj:=Z (λ(W:Γ) (E:Ext X W) (b:Nat) (hb:b<256)=>(Τ W G.heap.size b _ _ _ (E.heap H5)).trans (be b hb));have HR:=Z (hR.ext af);have cl:=Z (λs hs=>af.cell (bj s hs));generalize G.heap.size=B5 at *;clear hR bj bf bg be bk bl bd ax H5 T f47 f68 af bc aw au ar;go_wp2_with (fail);go_loopw [6,16] (λs i W=>∃ j:Nat,j<=l.length/\i=.int Φ j/\s=iv (d.run 0 (l.take j))/\Ext X W) (λ_ i _=>l.length-(intOf i).toNat)
 case atStart=>exact⟨0,by omega,rfl,rfl,Κ X⟩
 obtain⟨j,hj,rfl,rfl,H⟩:=hrel;have ai:=HV.o.run_lt (l.take j) HV.o.pos;by_cases bp:j<l.length
 ·have e:=b8.o (by omega);subst e;have aj:=UW d l j bp;have cx:=(bo.t H).cell (b9.o j bp);obtain⟨x,bq⟩:=Xq (l.getD j 0);rw[bq] at cx aj;clear bq;have hx:=x.toNat_lt;obtain⟨s,hs⟩:=Xq (d.run 0 (l.take j));rw[hs] at ai aj ⊢;clear hs;have bt:=Z aj;clear aj;obtain⟨br,or',cr,bu,bw⟩:=HR.o s ai;have k7:=Aw (cf.o wr H);have kc:=Aw (cj.o wr H x.toNat hx);have r1:=Aw (H.cell bu);have hk:=cell_lt HV.o.parts hx;have r2:=Aw (H.cell (bw _ hk));have b4:(Ai d).cell x.toNat=Am d.cls x.toNat:=rfl;rw[b4] at kc;have b5:ϟ ((Ai d).ent2 s (Am d.cls x.toNat)=d.stp s x.toNat):=Z rfl;rw[b5.o,<-bt.o] at r2;clear b4 bu bw;have aa:(Ai d).n.length=d.n.length:=rfl;have b6:(Ai d).cells=d.cls.length:=rfl;rw[aa] at k7;rw[b6] at r1;have df:=HV.o.parts.le;obtain⟨s2,az⟩:=Xq (d.run 0 (l.take (j+1)));rw[az] at r2;have cp:=Z az;clear az;generalize Am d.cls x.toNat=k at *;clear b5 bt aa b6;have dh:(x.toNat:Int)<256:=by omega
  go_upto_region 8 with (fail)
  refine B2 (by kernel_rfl) (by kernel_rfl) ?_;iterate 12 (with_reducible refine wpQuiet_step (λK hK=>?_);go_simp;(refine hK _ ?_;clear hK K))
  refine wpQuiet_nil ?_;rintro _ ⟨e,rfl⟩;have cq:=H.t e.ext;clear k7 kc r1 r2 cx;generalize e.W=w5 at *;go_wp2;go_roundw
  case rel=>exact⟨j+1,by omega,by go_num,by rw[cp.o],cq⟩
  simp[intOf];omega
 obtain rfl:j=l.length:=by omega
 rw[List.take_length] at ai ⊢;have HF:ϟ (d.has l=d.ok (d.run 0 l)):=Z rfl;generalize d.run 0 l=s at *;have k8:=cg.o wr H;have ka:=H.cell (cl.o s ai);have HT:ϟ ((Ai d).ok s=d.has l):=Z (by rw[HF.o];rfl);rw[HT.o] at ka;have aa:(Ai d).n.length=d.n.length:=rfl;rw[aa] at k8;clear aa;go_wp2;go_ret;exact⟨rfl,bo.t H⟩
theorem IsD.opened {W:Γ} {v:Δ} {d:Dfa} (h:IsD W v d) (E:Val d):∃ G H T X on cn ba oa ca,v=.agg (dA (U (J ⟨G,H,I⟩) d.cls.length T) (U (J ⟨X,on,I⟩) d.n.length cn) (U (J ⟨ba,oa,I⟩) d.n.length ca))/\
  Cs W (U (J ⟨G,H,I⟩) d.cls.length T) d.cls/\RowsAt W X on d.n.length d.cls.length d.ent2/\∀ s,s<d.n.length->W.cell? ⟨ba,oa+s,I⟩=J (.bool (d.ok s)):=by
 obtain⟨vc,vn,va,rfl,hC,hN,hA⟩:=h;obtain⟨X,on,cn,rfl,hr⟩:=Lh hN d.cls.length E.pos E.parts.pos E.row;obtain⟨ba,oa,ca,rfl,ha⟩:=O4 hA (by rw[E.accL];exact E.pos);obtain⟨G,H,T,rfl,-⟩:=â hC E.parts.pos;refine⟨G,H,T,X,on,cn,ba,oa,ca,by rw[E.accL];rfl,hC,hr,λs hs=>ha s (by rw[E.accL];exact hs)⟩
theorem Sl.first {W:Γ} {v:Δ} {k n:Nat} {f:Nat->Δ} (h:Sl W v k n f) (H:0<n) (T:0<k):∃ b E G,v=U (J ⟨b,E,I⟩) n G/\W.cell? ⟨b,E,I⟩=J (f 0):=by obtain⟨b,E,G,rfl,hc⟩:=â h H;exact⟨b,E,G,rfl,hc 0 (Nat.mul_pos H T)⟩
theorem P3 {W:Γ} {v:Δ} {k n k' E:Nat} {f G:Nat->Δ} (h:Sl W v k n f) (X:0<n) (hk:0<k) (h':Sl W v k' E G) (ad:0<E) (ae:0<k'):f 0=G 0:=by
 obtain⟨b,ai,aj,hv,hc⟩:=h.first X hk;obtain⟨b',ak,an,H,T⟩:=h'.first ad ae;rw[hv] at H;injection H with e _ _
 injection e with e
 injection e with e1 e2 _
 subst e1;subst e2;rw[hc] at T;injection T
theorem IsD.setBox {W:Γ} {v:Δ} {q p:Dfa} (hq:Val q) (h:IsD W v q) (H:Val p) {A:Array Δ} (hA:IsD W (.agg A) p) {g:Nat} {e:TypeId} {fr:Nat × Nat} (hg:W.heap[g]? = J (Β A e fr)) (cs:Array Δ):IsD (W.setRow g cs) v q:=by
 obtain⟨vc,vn,va,rfl,h1,⟨vs,au,hN,hr⟩,h3⟩:=h;obtain⟨pc,pn,pa,T,g1,⟨ps,bd,gN,gr⟩,g3⟩:=hA;injection T with T
 have a6:=hq.parts.pos;have a7:=H.parts.pos;have aj:∀ (o:Nat) (x:Δ),A[o]? = J x->x=pc\/x=pn\/x=pa:=λo x hx=>by
  have:=Array.mem_of_getElem? hx;rw[T] at this
  simpa using this
 obtain⟨ac,cc,a8⟩:=Sl.len g1;obtain⟨an,cn,ba⟩:=Sl.len gN;obtain⟨aa,ca,bb⟩:=Sl.len g3;have X:∀ (o:Nat) (x:Δ),A[o]? = J x->∃ a n c,x=U a n c:=λo x hx=>by
  rcases aj o x hx with rfl|rfl|rfl
  ·exact⟨_,_,_,a8⟩
  ·exact⟨_,_,_,ba⟩
  exact⟨_,_,_,bb⟩
 refine⟨vc,vn,va,rfl,Sl.setRow h1 hg (λi hi o hx=>?_) (by omega) cs,⟨vs,au,Sl.setRow hN hg (λi hi o hx=>?_) (by omega) cs,λi hi=>Sl.setRow (hr i hi) hg (λj hj o hx=>?_) (by omega) cs⟩,Sl.setRow h3 hg (λi hi o hx=>?_) (by omega) cs⟩
 ·obtain⟨a,n,c,he⟩:=X _ _ hx;cases he
 ·have ak:i<q.n.length:=by omega
  have E:=hr i ak;have ab:0<(q.n.getD i []).length:=by rw[hq.row i ak];exact a6
  have ad:=H.pos;rcases aj _ _ hx with G|G|G
  ·rw[G] at E;have:=P3 E ab (by omega) g1 a7 (by omega);cases this
  ·rw[G] at E;have h0:=P3 E ab (by omega) gN ad (by omega);obtain⟨a,c,hz⟩:=Sl.len (gr 0 ad);rw[hz] at h0;cases h0
  rw[G] at E;have:=P3 E ab (by omega) g3 (by rw[H.accL];exact ad) (by omega);cases this
 ·obtain⟨a,n,c,he⟩:=X _ _ hx;cases he
 obtain⟨a,n,c,he⟩:=X _ _ hx;cases he
theorem I2 {a b:Dfa} {r:Option Dfa} (h:Cp a b r) (d:Dfa) (hd:r=J d):Val d/\d.n.length<=64:=by subst hd;obtain⟨h1,E⟩:=I3 h (λ_=>Iff.rfl) (λ_=>Iff.rfl);exact⟨h1.1.val,E⟩
theorem Wr (p d:Dfa) (hp:Val p) (hd:Val d) (cg:p.n.length<=64) (cj:d.n.length<=64) (n:Nat) (hn:n<=1000) (vp vd:Δ) (w:Γ) (hT:Tab w) (b4:0<w.heap.size) (a8:IsD w vp p) (ba:IsD w vd d) :
  ϛ Η 101 #[vp,vd,iv n] w λe w'=>∃ r,ResOf w' e r/\Dr p d n r/\Ext w w':=by
 have ck:=Z (λW (hW:Ext w W)=>hT.below hW.below b4);have bb:=Z a8;have b5:=Z ba;have cm:=Z hd;obtain⟨ac,lc,cc,an,cn,aa,la,ca,rfl⟩:=a8.agg;obtain⟨cz,c3,c4,c5,c6,c7,c8,c9,rfl⟩:=ba.agg;obtain⟨H,aw⟩:=Xq (dA (U cz c3 c4) (U c5 d.n.length c6) (U c7 c8 c9));have da:(Η.info? 40).map (·.size)=J H.size:=by rw[<-aw];exact Ae
 rw[aw] at b5;rw[aw];obtain⟨T,ax⟩:=Xq (dA (U ac lc cc) (U an p.n.length cn) (U aa la ca));have db:ϟ (T.size=3):=Z (by rw[<-ax];rfl);rw[ax] at bb;rw[ax];have ay:=(((Κ w).alloc (Β T 40)).alloc (Β H 40)).alloc (Β #[U I 0 0,U I 0 0,U I 0 0] 40);have X:=Ah (Ah (Ad w (Β T 40)) (Β H 40)) (Β #[U I 0 0,U I 0 0,U I 0 0] 40);have H4:=Ah (ϒ w (Β T 40) (Β H 40)) (Β #[U I 0 0,U I 0 0,U I 0 0] 40);have E:=Ad ((w.alloc (Β T 40)).alloc (Β H 40)) (Β #[U I 0 0,U I 0 0,U I 0 0] 40);rw[Ρ,Ρ] at E;clear a8 ba hd hT aw;go_enter Tryz.func101,Tryz.ntmps101;go_upto_region 1 with (fail)
 obtain⟨w1,bc⟩:=Xq (((w.alloc (Β T 40)).alloc (Β H 40)).alloc (Β #[U I 0 0,U I 0 0,U I 0 0] 40));rw[bc] at ay X H4 E;simp only[bc];clear bc;have b6:=Z (bb.o.ext ay);clear ax bb;go_wp2_with (fail);go_loopw [8,10] (λve vi W=>∃ (i:Nat) (q:Dfa) (A:Array Δ),i<=n/\ve=.int Φ 0/\vi=.int Φ i/\Ext w W/\ϟ (W.heap[w.heap.size]? = J (Β A 40 (0,0)))/\ϟ (W.heap[w.heap.size+1]? = J (Β H 40 (0,0)))/\ϟ (W.heap[w.heap.size+1+1]? = J (Β #[U I 0 0,U I 0 0,U I 0 0] 40 (0,0)))/\ϟ (A.size=3)/\ϟ (IsD W (.agg A) q)/\ϟ (Val q/\q.n.length<=64)/\ϟ (∀ r,Dr q d (n-i) r->Dr p d n r))
  (λ_ vi _=>n-(intOf vi).toNat)
 case atStart=>exact⟨0,p,T,by omega,rfl,rfl,ay,Z X,Z H4,Z E,db,b6,Z ⟨hp,cg⟩,Z λr h=>h⟩
 clear ay X H4 E b6 hp;obtain⟨i,q,A,hi,rfl,rfl,hE,X,H4,E,HA,HI,HQ,HP⟩:=hrel;have a6:(Η.info? 40).map (·.size)=J A.size:=by rw[HA.o];exact Ae
 obtain⟨dr,dt,du,dv,dw,dx,dy,dz,au⟩:=HI.o.agg;injection au with au
 by_cases ea:i<n
 ·have f31:=Z (Ka q d HQ.o.1 cm.o HQ.o.2 cj _ _ wr (ck.o wr hE) (Ξ b4 hE.size) HI.o (b5.o.ext hE));clear au;go_upto_region 5 with (first
   | (refine Lr 40 (δ 3) X.o Ο a6 ?_)
   | (refine Lr 40 (δ 4) H4.o Ο da ?_)
   | (go_at_call 18;(with_reducible refine f31.o.mono ?_);rintro e w5 ⟨r,bh,b7,bj⟩;obtain⟨ab,ad,ae,af,ag,ah,ai,aj,ak,k2,rfl⟩:=bh.form;have b8:=Z bh;have bk:=Z b7;have a7:=Z bj;have bl:=Z (bj.heap X.o);clear bh b7 bj)
   | (refine Sr 40 (δ 3) (δ 16) rfl bl.o Ae HA.o (Av _ _ _ rfl rfl rfl) ?_))
  have bm:=(hE.t a7.o).setRow (Υ w.heap.size) (dA (U ab ad ae) (U af ag ah) (U ai aj ak));have G3:=Χ w5 _ _ (dA (U ab ad ae) (U af ag ah) (U ai aj ak)) 40 (0,0) bl.o;have G4:=Bm (a7.o.heap H4.o) (show w.heap.size+1≠w.heap.size by omega) (dA (U ab ad ae) (U af ag ah) (U ai aj ak));have G6:=Bm (a7.o.heap E.o) (show w.heap.size+1+1≠w.heap.size by omega) (dA (U ab ad ae) (U af ag ah) (U ai aj ak));have b9:=Z (λ(q':Dfa) (de:Val q') (h:IsD w5 (.agg (dA (U ab ad ae) (U af ag ah) (U ai aj ak))) q')=>IsD.setBox de h HQ.o.1 (HI.o.ext a7.o) bl.o (dA (U ab ad ae) (U af ag ah) (U ai aj ak)));obtain⟨w6,bp⟩:=Xq (w5.setRow w.heap.size (dA (U ab ad ae) (U af ag ah) (U ai aj ak)));rw[bp] at bm G3 G4 G6 b9;simp only[bp];clear bp f31;have G6:=Z G6;cases r with
  | none=>
   have hk:k2=2:=by
    have:=b8.o;unfold ResOf at this;injection this with this
    injection this with this
    injection this with this
    injection this with _ this
    injection this with this _
    injection this
   subst hk;have dh:=Z Ga;have cb:Dr q d (n-i) I:=by rw[show n-i=(n-(i+1))+1 by omega];exact⟨I,bk.o,rfl⟩
   have bq:=Z (HP.o I cb);clear cb G3 G4;go_wp2_with (first
    | (refine Bk rfl 40 _ rfl #[U I 0 0,U I 0 0,U I 0 0] ?_ ?_;(simp;with_reducible exact dh.o))
    | (refine Sr 40 (δ 6) (δ 20) rfl G6.o Ae rfl Fg ?_))
   refine ω (v:=ϗ #[zD,.int Φ 2]) (Bi rfl _ _ _ _ _ _ _ rfl _ rfl (Χ w6 _ _ #[U I 0 0,U I 0 0,U I 0 0] 40 (0,0) G6.o) Ο rfl Ae) rfl ?_;exact⟨I,rfl,bq.o,bm.setRow (by omega) _⟩
  | some q'=>
   obtain⟨v',G,br⟩:=b8.o;injection G with G
   injection G with G
   injection G with G
   injection G with h1 G
   injection G with h2 _
   injection h2 with _ h2
   subst h2;rw[<-h1] at br;obtain⟨cd,dk⟩:=I2 bk.o q' rfl;have cf:=b9.o q' cd br;have dm:=Z cf;have dn:=Z (λr (h:Dr q' d (n-(i+1)) r)=>HP.o r (by rw[show n-i=(n-(i+1))+1 by omega];exact⟨J q',bk.o,h⟩))
   clear cf br h1;go_wp2;go_roundw
   case rel=>exact⟨i+1,q',_,by omega,rfl,by go_num,bm,Z G3,Z G4,G6,Z rfl,dm,Z ⟨cd,dk⟩,dn⟩
   simp[intOf];omega
 obtain rfl:n=i:=by omega
 have dp:A.all (·.oneCell')=Α:=by rw[au];exact Av _ _ _ rfl rfl rfl
 clear au;have bq:=Z (HP.o (J q) (by rw[Nat.sub_self];rfl));go_wp2_with (first
  | (refine Lr 40 (δ 3) X.o Ο a6 ?_)
  | (refine Sr 40 (δ 6) (δ 23) rfl E.o a6 HA.o.symm dp ?_))
 refine ω (v:=ϗ #[.agg A,.int Φ 0]) (Bi rfl _ _ _ _ _ _ _ rfl _ rfl (Χ wr _ _ A 40 (0,0) E.o) Ο rfl a6) rfl ?_;exact⟨J q,⟨_,rfl,IsD.setRow HQ.o.1 HI.o E.o _⟩,bq.o,hE.setRow (by omega) _⟩
end Go.Proofs.YtilncahcpjlfnaaGreatDoor
