import Derived.Test.YtaiogolidlamiaaGreatDoorM02
import Derived.OrdersIn
import Derived.TacticsInMore
import Derived.Test.YtaiogolidlamiaaGreatDoorM04
import Derived.Deep.Upon
import Derived.Test.YtaiogolidlamiaaGreatDoorM14
import Derived.Maps.AppendAt
import Derived.Lib.SlBytesConst
set_option linter.unusedVariables false
set_option linter.unusedSimpArgs false
open And renaming intro → ã
open Array renaming getElem?_eq_some_iff → ϒ, getElem?_toList → ë, replicate_succ → û, replicate_zero → ú
open Bool renaming true → Ξ, false → Τ, and_eq_true → ϝ, or_eq_true → Æ
open Go renaming World → Κ, Value → Ρ, Program → é, Act → õ, Oper → ϸ, execOp → Ú, undef → ς, getD_replicate_false → ϭ, Calls → Ϝ, cell_of_row → Ω, wpQuiet_step → í, wpQuiet_nil → ö, wpList_load_row → Υ
open Go.Ending renaming returned → ν
open Go.IntKind renaming i64 → ζ
open Go.Lib renaming hid → Α
open Go.Obj renaming cells → Ε
open Go.Operand renaming tmp → η
open Go.Proofs.Tryz renaming prog → Η, underlying22 → Ϸ, underlying30 → Ν
open Go.Region renaming ready → Ê, wanted → Ì
open Go.Value renaming slice → Β, pointer → γ, slice → ϟ, tuple → ϥ
open Go.World renaming putObj_heap_other → È, size_alloc → Λ, ownsRow_nil → Í
open List renaming getElem?_eq_some_iff → ό, length_map → Ϗ, getD_eq_getElem?_getD → Ζ, getElem?_eq_getElem → Μ, mem_map → À, map_cons → Ç, size_toArray → ø, length_cons → Ϲ, append_toArray → ÿ, append_assoc → Ò, setIfInBounds_toArray → Θ, set_cons_zero → Χ, set_cons_succ → Ψ, length_append → Ο
open Nat renaming le_refl → θ, le_trans → ψ, lt_of_lt_of_le → ε
open Option renaming some → Δ, none → Γ
open Option.some renaming inj → ω
open UInt8 renaming ofNat → χ
namespace Go.Proofs.YtaiogolidlamiaaGreatDoor
set_option maxRecDepth 100000
set_option maxHeartbeats 4000000
open Go Go.RowKit
def Om (o:Obj):Prop:=∀ cs fr,o≠Ε cs 22 fr/\o≠Ε cs 38 fr
structure Kp (B:Nat) (W W':Κ):Prop where
 os:W'.os=W.os
 tape:W'.tape=W.tape
 output:W'.output=W.output
 size:W.heap.size<=W'.heap.size
 keep:∀ k o,W.heap[k]? = Δ o->(k<B\/Om o)->W'.heap[k]? = Δ o
theorem Kp.refl (B:Nat) (W:Κ):Kp B W W:=⟨rfl,rfl,rfl,θ _,λ_ _ h _=>h⟩
theorem Kp.trans {B:Nat} {a b c:Κ} (h:Kp B a b) (k:Kp B b c):Kp B a c:=
 ⟨k.os.trans h.os,k.tape.trans h.tape,k.output.trans h.output,ψ h.size k.size,λi o hi D=>k.keep i o (h.keep i o hi D) D⟩
theorem Kp.of_ext {B:Nat} {a b:Κ} (h:Ext a b):Kp B a b:=⟨h.below.os,h.below.tape,h.below.output,h.size,λ_ _ D _=>h.heap D⟩
theorem Kp.ext {B:Nat} {w W W':Κ} (h:Kp B W W') (D:Ext w W) (H:w.heap.size<=B):Ext w W':=
 ⟨⟨h.os.trans D.below.os,h.tape.trans D.below.tape,h.output.trans D.below.output,ψ D.size h.size,λk E=>by
   have I:k<W.heap.size:=ε E D.size;have G:W.heap[k]? = Δ W.heap[k]:=Array.getElem?_eq_getElem I;rw[h.keep k _ G (.inl (ε E H)),<-G];exact D.block E⟩⟩
theorem Kp.cells {B:Nat} {W W':Κ} (h:Kp B W W') {k:Nat} {cs:Array Ρ} {t:TypeId} {fr:Nat × Nat} (D:W.heap[k]? = Δ (Ε cs t fr)) (E:t≠22) (G:t≠38):W'.heap[k]? = Δ (Ε cs t fr):=
 h.keep k _ D (.inr λH I=>⟨λe=>by injection e with _ e _;exact E e,λe=>by injection e with _ e _;exact G e⟩)
theorem Aev (r:Loop):Om (.loop r):=λ_ _=>⟨by simp,by simp⟩
theorem Ud (r:Option (List Deferred)):Om (.deferred r):=λ_ _=>⟨by simp,by simp⟩
theorem Kp.put_new {B:Nat} {a b:Κ} (h:Kp B a b) {l:Nat} (H:a.heap.size<=l) (o:Obj):Kp B a (b.putObj l o):=by
 have hg:=grownBy_putObj' b l o;exact⟨hg.os.trans h.os,hg.tape.trans h.tape,hg.output.trans h.output,ψ h.size hg.size,λk E D G=>by
  have:k<a.heap.size:=(ϒ.1 D).1;exact (È (by omega)).trans (h.keep k E D G)⟩
def WordV (W:Κ) (v:Ρ) (x:List UInt8):Prop:=W.ownsRow 0 5 1 v x.length (x.map bv)
theorem Ge {W:Κ} {base e size:Nat} {v:Ρ} {n:Nat} {xs:List Ρ} (h:W.ownsRow base e size v n xs):W.ownsRow 0 e size v n xs:=by
 obtain⟨D,h|⟨g,E,cur,hv,G,h⟩⟩:=h
 ·exact⟨D,.inl h⟩
 ·exact⟨D,.inr ⟨g,E,cur,hv,Nat.zero_le _,h⟩⟩
theorem Afe {B:Nat} {W W':Κ} {base e size:Nat} {v:Ρ} {n:Nat} {xs:List Ρ} (h:W.ownsRow base e size v n xs) (E:Kp B W W') (G:e≠22) (H:e≠38):W'.ownsRow base e size v n xs:=by
 obtain⟨D,h|⟨g,I,cur,hv,J,hg,h⟩⟩:=h
 ·exact⟨D,.inl h⟩
 ·exact⟨D,.inr ⟨g,I,cur,hv,J,E.cells hg G H,h⟩⟩
theorem WordV.kp {B:Nat} {W W':Κ} {v:Ρ} {x:List UInt8} (h:WordV W v x) (D:Kp B W W'):WordV W' v x:=Afe h D (by decide) (by decide)
theorem WordV.ext {W W':Κ} {v:Ρ} {x:List UInt8} (h:WordV W v x) (D:Ext W W'):WordV W' v x:=Ah h D
theorem WordV.by {W:Κ} {v:Ρ} {x:List UInt8} (h:WordV W v x) (D:x.length<=4611686018427387904):By W v x:=By.of_owns h D
def Zu {β:Type} (I:β->Κ->Prop):Prop:=∀ s W W',I s W->Ext W W'->I s W'
def Zo (B:Nat) (P:é) (g:Nat) (G:Array Ρ) (E:List (List UInt8)) (w:Κ):Prop:=
 ∀ (l:Nat) (J:List (List UInt8)->Κ->Prop) (W:Κ),Ext w W->Zu J->Nb W.heap.size J->
  (∀ m pre x v D,J pre D->WordV D v x->(pre++[x]) <+: E->YieldAt Fence.wide m P l #[v] D λe W'=>e=ν (.bool Ξ)/\J (pre++[x]) W'/\Kp B D W')->
  J [] W->
  ∀ n,CallsIn Fence.wide n P g (#[.func (.yield l) #[] #[]]++G) W λe W'=>(∃ v,e=ν v)/\J E W'
def Afn (B:Nat) (I:List (List UInt8)->Κ->Prop) (xs:List (List UInt8)) (W:Κ):Exit->õ->Κ->Prop
 | .normal,_,W'=>Kp B W W'/\I xs W'
 | _,_,_=>False
variable {n:Nat} {P:Program}
theorem Ri {B:Nat} {g:Operand} {T:Array Tmp} {assign body:Code} {Q:Exit->õ->Κ->Prop} {a:õ} {w:Κ}
  {gf:Nat} {lb:Array Ρ} (hg:a.eval g=.func (.func gf) #[] lb) (eg:∀ args w,(callFunc gf args).run P w=.ok (.enter gf args) w)
  {ag:List (List UInt8)} (aw:Zo B P gf lb ag w) (ax:T.size=1)
  (I:List (List UInt8)->Κ->Prop) (aj:Zu I) (hI:Nb w.heap.size I) (h0:I [] w) (a₁:Ρ->õ)
  (az:∀ (l:Nat) (v:Ρ) (W:Κ) (K:õ->Κ->Prop),K (a₁ v) W->
   assign.wpIn (Fence.wide.inRound l) (n-1-1) P (Exit.then K (λ_ _ _=>False)) { tmps:=(T.zip #[v]).foldl (λt (p,v)=>t.setIfInBounds p v) a.tmps,defers:=[] } W)
  (a1:∀ (l:Nat) (pre:List (List UInt8)) (x:List UInt8) (v:Ρ) (W:Κ),I pre W->WordV W v x->(pre++[x]) <+: ag->∀ m,body.wpIn (Fence.wide.inRound l) m P (Afn B I (pre++[x]) W) (a₁ v) W)
  (a6:∀ (D:Nat) (W:Κ),w.heap.size<=D->I ag W->W.heap[D]? = Δ (.deferred (Δ []))->Q .normal { a with defers:={ target:=.collected D,args:=#[] }::a.defers } W) :
  (Code.rangeFunc g T assign body).wpIn Fence.wide n P Q a w:=by
 refine wpIn_rangeFunc ?_;intro fn a7;obtain⟨rec,H⟩:∃ rec:LoopState->Option Code->Loop,rec=λst pe=>{ state:=st,pending:=pe,fn,tmps:=a.tmps,params:=T,assign,body,defers:=w.heap.size }:=⟨_,rfl⟩
 obtain⟨E,U⟩:∃ E,(w.alloc (.deferred (Δ []))).alloc (.loop (rec .ready Γ))=E:=⟨_,rfl⟩;have ba:E.heap[w.heap.size+1]? = Δ (.loop (rec .ready Γ)):=by
  rw[<-U];have:=Κ.alloc_heap_new (w.alloc (.deferred (Δ []))) (.loop (rec .ready Γ));rwa [Λ] at this
 have bb:E.heap[w.heap.size]? = Δ (.deferred (Δ [])):=by
  rw[<-U];exact (Below.heap_alloc _ _ _ (by simp)).trans (Κ.alloc_heap_new w _)
 have al:Ext w E:=by rw[<-U];exact ((Ι w).alloc _).alloc _
 have bc:I [] E:=aj _ _ _ h0 al;have bo:E.heap.size=w.heap.size+2:=by rw[<-U];simp
 refine⟨w.heap.size+1,[{ target:=.collected w.heap.size,args:=#[] }],E,{ target:=.fn (.func gf) lb,args:=#[.func (.yield (w.heap.size+1)) #[] #[]] },E,gf,
  #[.func (.yield (w.heap.size+1)) #[] #[]]++lb,E,?_,?_,?_,?_,λh=>by simp[Fence.wide] at h,?_⟩
 ·rw[<-U,H];exact run_enterLoop_outer _ _ _ _ _
 ·simp only[resolve,hg];simp[go_sem]
 ·intro f' bq;trivial
 ·simp[invoke,go_sem,eg]
 ·refine (aw (w.heap.size+1)
   (λpre W=>I pre W/\W.heap[w.heap.size+1]? = Δ (.loop (rec .ready Γ))/\W.heap[w.heap.size]? = Δ (.deferred (Δ [])))
   E al (λs W W' h hE=>⟨aj _ _ _ h.1 hE,hE.heap h.2.1,hE.heap h.2.2⟩)
   (λs W l o o' h G ho hc=>⟨hI s W l o o' h.1 (by omega) ho hc,(È (by omega)).trans h.2.1,(È (by omega)).trans h.2.2⟩) ?_ ⟨bc,ba,bb⟩ (n-1)).mono ?_
  ·rintro m pre x v W ⟨hi,G,J⟩ hv bg;have bh:w.heap.size+1<W.heap.size:=(ϒ.1 G).1;have hy:=run_yield (P:=P) (args:=#[v]) G (by rw[H];exact ax.symm);rw[H] at hy;refine⟨fn,_,assign,body,hy,?_⟩;have ao:RoundIn Fence.wide (n-1-1) P (w.heap.size+1) fn ((T.zip #[v]).foldl (λt (p,v)=>t.setIfInBounds p v) a.tmps) assign body W (λe W'=>e=ν (.bool Ξ)/\(I (pre++[x]) W'/\W'.heap[w.heap.size+1]? = Δ (.loop (rec .ready Γ))/\W'.heap[w.heap.size]? = Δ (.deferred (Δ [])))/\Kp B W W'):=by
    refine roundIn_of_wpIn a7 (az _ v W _ ⟨_,run_beginRound G (by rw[H]),?_⟩);have bj:(W.putObj (w.heap.size+1) (.loop { rec .ready Γ with state:=.busy })).heap[w.heap.size+1]? = Δ (.loop { rec .ready Γ with state:=.busy }):=Κ.putObj_heap_same bh;have bk:(W.putObj (w.heap.size+1) (.loop { rec .ready Γ with state:=.busy })).heap[w.heap.size]? = Δ (.deferred (Δ [])):=(È (by omega)).trans J;have bl:WordV (W.putObj (w.heap.size+1) (.loop { rec .ready Γ with state:=.busy })) v x:=ownsRow_putObj hv _ G rfl;refine wpIn_mono (a1 _ pre x v _ (hI _ _ _ _ _ hi (by omega) G rfl) bl bg _) ?_;rintro e a3 W3 hp;cases e with
    | normal=>
     obtain⟨M,bn⟩:=hp;have ai:=M.keep _ _ bj (.inr (Aev _));have hr:=run_endRound (P:=P) Γ ai;rw[H] at hr;have ar:=(ϒ.1 ai).1;refine⟨_,_,hr,rfl,⟨hI _ _ _ _ _ bn (by omega) ai rfl,?_,(È (by omega)).trans (M.keep _ _ bk (.inr (Ud _)))⟩,?_⟩
     ·rw[H];exact Κ.putObj_heap_same ar
     ·have aa:=grownBy_putObj' W (w.heap.size+1) (.loop { rec .ready Γ with state:=.busy });have ab:=grownBy_putObj' W3 (w.heap.size+1) (.loop (rec .ready Γ));rw[H] at aa ab M G;refine⟨ab.os.trans (M.os.trans aa.os),ab.tape.trans (M.tape.trans aa.tape),ab.output.trans (M.output.trans aa.output),ψ aa.size (ψ M.size ab.size),λk o J hp=>?_⟩;by_cases e:k=w.heap.size+1
      ·subst e;rw[G] at J;injection J with J
       rw[<-J];exact Κ.putObj_heap_same ar
      ·exact (È e).trans (M.keep k o ((È e).trans J) hp)
    | _=>exact hp.elim
   exact⟨ao.1,λc cs _=>ao.2 c cs (λd h=>by simp[Fence.wide] at h)⟩
  ·rintro e W2 ⟨⟨v,rfl⟩,hi,G,J⟩;exact⟨Γ,_,by have:=run_endLoop (P:=P) G (by rw[H];simp);rw[H] at this;exact this,a6 _ _ (θ _) (hI _ _ _ _ _ hi (by omega) G rfl) ((È (by omega)).trans J)⟩
def Marks (B:Nat) (W:Κ) (ds:List Deferred):Prop:=∃ E:List Nat,ds=E.map (λD=>{ target:=.collected D,args:=#[] })/\E.Nodup/\∀ D,D∈E->B<=D/\W.heap[D]? = Δ (.deferred (Δ []))
theorem Marks.nil (B:Nat) (W:Κ):Marks B W []:=⟨[],rfl,List.nodup_nil,λ_ h=>by cases h⟩
theorem Marks.kp {B B':Nat} {W W':Κ} {ds:List Deferred} (h:Marks B W ds) (H:Kp B' W W'):Marks B W' ds:=by
 obtain⟨I,J,M,E⟩:=h;exact⟨I,J,M,λD G=>⟨(E D G).1,H.keep _ _ (E D G).2 (.inr (Ud _))⟩⟩
theorem Marks.cons {B I:Nat} {W W':Κ} {ds:List Deferred} (h:Marks B W ds) (J:Kp I W W') {D:Nat} (M:B<=D) (hW:W.heap.size<=D) (T:W'.heap[D]? = Δ (.deferred (Δ []))):Marks B W' ({ target:=.collected D,args:=#[] }::ds):=by
 obtain⟨G,H,U,h3⟩:=h.kp J;obtain⟨ab,ad,_,ae⟩:=h;refine⟨D::G,by rw[H];rfl,List.nodup_cons.2 ⟨λhm=>?_,U⟩,λD' E=>?_⟩
 ·have e:ab=G:=by
   have:=ad.symm.trans H;exact (List.map_inj_right (λx y e=>by injection e with e;injection e)).1 this
  have h4:=(ae D (by rw[e];exact hm)).2;have:D<W.heap.size:=(ϒ.1 h4).1;omega
 ·rcases List.mem_cons.1 E with rfl|E
  ·exact⟨M,T⟩
  ·exact h3 D' E
theorem Ph {F:Fence} {m:Nat} {fn:Func} {G:Array Ρ} {R:Ending->Κ->Prop} {B:Nat} (I:Κ->Prop) (hI:∀ W l (o o':Obj),I W->B<=l->W.heap[l]? = Δ o->o.isCells=Τ->I (W.putObj l o'))
  (ae:∀ W,I W->LeavesIn F m P fn G R [] .returning W):∀ (ds:List Deferred) (W:Κ),Marks B W ds->I W->LeavesInM F m P fn G R ds .returning W:=by
 intro ds;induction ds with
 | nil=>intro W _ h;exact ae W h
 | cons d ds ih=>
  rintro W ⟨E,H,J,M⟩ h;cases E with
  | nil=>cases H
  | cons D E=>
   injection H with e1 e2
   subst e1 e2;obtain⟨hB,T⟩:=M D List.mem_cons_self;refine⟨by simp,.inl ⟨D,_,rfl,run_takeDeferred T,?_⟩⟩;refine ih _ ⟨E,rfl,(List.nodup_cons.1 J).2,λU aa=>?_⟩ (hI W D _ _ h hB T rfl);have aj:U≠D:=λe=>(List.nodup_cons.1 J).1 (e▸aa)
   obtain⟨h4,h5⟩:=M U (List.mem_cons_of_mem _ aa);exact⟨h4,(È aj).trans h5⟩
open Go
section
variable {F:Fence} {m:Nat} {P:Program} {md:Region.Mode} {ops:Array Oper} {Q:Exit->Act->World->Prop} {C:World->Prop} {n:Nat}
def Mc (ops:Array ϸ):Bool:=(List.range ops.size).all λj=>match ops[j]? with
 | some o=>(match o.op with|.defer _=>Τ|_=>Ξ)
 | none=>Ξ
theorem O4 (h:Mc ops=Ξ) {j:Nat} {o:ϸ} (D:ops[j]? = Δ o):∀ c,o.op≠.defer c:=by
 intro c E;have G:j<ops.size:=(ϒ.1 D).1;have:=List.all_eq_true.1 h j (List.mem_range.2 G);rw[D] at this;simp[E] at this
theorem Re (E:∀ f,F.fn f) {i:Nat} {o:ϸ} {v:Ρ} {a:õ} (hi:ops[i]? = Δ o) (G:∀ c,o.op≠.defer c) (H:YieldsIf P ops C o v a)
  {K:õ->Κ->Prop} {w:Κ} (I:C w) (h:K (a.put o.dst v) w):wpOpIn F m P ops Q i K a w:=by
 unfold Go.wpOpIn;simp only[hi];rcases H with⟨D,hv⟩|⟨D,rfl⟩
 ·simp only[D,if_true,ϸ.wpIn,ϸ.semAt_eq _ _ _ G,hv w I,ϸ.uponIn];exact⟨λf _=>E f,h⟩
 ·simp only[D,Bool.false_eq_true,if_false];exact⟨λf _=>E f,h⟩
theorem Z5 (I:∀ f,F.fn f) {j:Nat} {oi oj:ϸ} {v:Ρ} (hj:ops[j]? = Δ oj) (J:∀ c,oj.op≠.defer c) (ad:oi.apart ops oj=Ξ)
  (ae:∀ cs b,oi.op≠.select cs b) (af:∀ cs b,oj.op≠.select cs b)
  (G:∀ c a w,Q (.panic c) (a.put oi.dst v) w->Q (.panic c) a w) {K:õ->Κ->Prop} {a:õ} {w:Κ}
  (D:YieldsIf P ops C oi v a) (h:wpOpIn F m P ops Q j K (a.put oi.dst v) w) :
  wpOpIn F m P ops Q j (λM w'=>YieldsIf P ops C oi v M/\K (M.put oi.dst v) w') a w:=by
 obtain⟨T,E,U⟩:=ϸ.apart_spec ad;have keep:∀ (a:õ),YieldsIf P ops C oi v a->∀ u,YieldsIf P ops C oi v (a.put oj.dst u):=λa D u=>
  D.of_same (execOp_put oi ae a oj.dst u U) (wanted_put oi a oj.dst u U)
 have ag:∀ d,YieldsIf P ops C oi v { a with defers:=d::a.defers }:=λd=>D.of_same rfl rfl
 unfold wpOpIn at *;simp only[hj] at *;rw[wanted_put oj a oi.dst v T] at h;split
 ·rename_i H
  simp only[H,if_true] at h;unfold ϸ.wpIn at *;refine⟨λf _=>I f,?_⟩;have h:=h.2;rw[ϸ.semAt_eq _ _ _ J,execOp_put oj af a oi.dst v T] at h;rw[ϸ.semAt_eq _ _ _ J];generalize (Ú a.eval oj).run P w=r at *;cases r with
  | ok x w'=>
   cases x<;>simp only[ϸ.uponIn] at h ⊢
   case value u=>exact⟨keep a D u,by rw[<-õ.put_comm a v u E];exact h⟩
   case skip=>exact⟨keep a D _,by rw[<-õ.put_comm a v ς E];exact h⟩
   case defer d=>
    refine⟨keep _ (ag d) _,?_⟩;rw[<-õ.put_comm _ v ς E,<-õ.put_defers];exact h
   case enter f args=>
    refine⟨h.1,CallsIn.mono h.2 λe aa he=>?_⟩;cases e with
    | returned u=>exact⟨keep a D u,by rw[<-õ.put_comm a v u E];exact he⟩
    | panicked c=>exact G _ _ _ he
    | outgrown=>exact he
   case row row args=>exact⟨h.1,RowsIn.mono h.2 λu aa he=>⟨keep a D u,by rw[<-õ.put_comm a v u E];exact he⟩⟩
   case round l f ak al an=>
    refine⟨h.1,RoundIn.mono h.2 λe aa he=>?_⟩;cases e with
    | returned u=>exact⟨keep a D u,by rw[<-õ.put_comm a v u E];exact he⟩
    | panicked c=>exact G _ _ _ he
    | outgrown=>exact he
  | halt x w'=>
   cases x<;>simp only[ϸ.uponIn] at h ⊢
   case panic u=>exact G _ _ _ h
 ·rename_i H
  simp only[H] at h;exact⟨λf _=>I f,keep a D _,by rw[<-õ.put_comm a v ς E];exact h.2⟩
def K3 (F:Fence) (m:Nat) (P:é) (md:Region.Mode) (ops:Array ϸ) (Q:Exit->õ->Κ->Prop) (C:Κ->Prop) (n:Nat):Nat->Array Bool->õ->Κ->Prop
 | 0,listed,a,w=>Ê md ops listed=[]/\Q .normal a w
 | f+1,listed,a,w=>(Ê md ops listed=[]->Q .normal a w)/\
  ∀ i∈Ê md ops listed,wpOpIn F m P ops Q i (λD w'=>(i<n->C w')/\K3 F m P md ops Q C n f (listed.setIfInBounds i Ξ) D w') a w
theorem Y7:∀ (f:Nat) (listed:Array Bool) (a:õ) (w:Κ),K3 F m P md ops Q C n f listed a w->wpAnyIn F m P md ops Q f listed a w
 | 0,_,_,_,h=>h
 | f+1,_,_,_,h=>⟨h.1,λi hi=>wpOpIn_mono (λ_ _ D=>Y7 f _ _ _ D.2) (h.2 i hi)⟩
theorem Am5 (aa:∀ f,F.fn f) (ab:Mc ops=Ξ) {i:Nat} {oi:ϸ} {v:Ρ} (hi:ops[i]? = Δ oi) (ae:∀ (j:Nat) (o:ϸ) cs b,ops[j]? = Δ o->o.op≠.select cs b)
  (hs:Region.sinkB md ops n=Ξ) (hc:Region.chainB md ops n=Ξ) (hn:n<ops.size) (an:i<n)
  (hQ:∀ c a w,Q (.panic c) (a.put oi.dst v) w->Q (.panic c) a w) :
  ∀ (f:Nat) (listed:Array Bool) (a:õ) (w:Κ),HeadInv md ops n listed->
   (∀ j oj,ops[j]? = Δ oj->j≠i->listed.getD j Ξ=Τ->(∀ e∈oj.after,Region.binds md e=Ξ->e.on≠i)->oi.apart ops oj=Ξ)->
   i∈Ê md ops listed->YieldsIf P ops C oi v a->C w->
   K3 F m P md ops Q C n f (listed.setIfInBounds i Ξ) (a.put oi.dst v) w->K3 F m P md ops Q C n (f+1) listed a w:=by
 intro f;induction f with
 | zero=>
  intro listed a w _ _ E J I H;refine⟨λh=>(by rw[h] at E;cases E),λj G=>?_⟩;by_cases D:j=i
  ·subst D;exact Re aa hi (O4 ab hi) J I ⟨λ_=>I,H⟩
  ·have:=ready_mono G D;rw[H.1] at this;cases this
 | succ f ih=>
  intro listed a w af ag E J I H;have ah:=(mem_ready.1 E).1;refine⟨λh=>(by rw[h] at E;cases E),λj G=>?_⟩;by_cases D:j=i
  ·subst D;exact Re aa hi (O4 ab hi) J I ⟨λ_=>I,H⟩
  ·have ad:j<n:=Nat.lt_of_not_le λh=>tail_waits hs hc hn af _ i rfl an ah j h G
   have M:=H.2 j (ready_mono G D);obtain⟨ai,oj,T,ar⟩:=mem_ready.1 G;have au:∀ e∈oj.after,Region.binds md e=Ξ->e.on≠i:=λe he hb ax=>by
    have M:=ar e he hb;rw[ax,getD_both ah] at M;cases M
   have h2:=Z5 aa T (O4 ab T) (ag j oj T D ai au) (λcs b=>ae i oi cs b hi) (λcs b=>ae j oj cs b T) hQ J M;have az:∀ k ok,ops[k]? = Δ ok->k≠i->(listed.setIfInBounds j Ξ).getD k Ξ=Τ->
     (∀ e∈ok.after,Region.binds md e=Ξ->e.on≠i)->oi.apart ops ok=Ξ:=λk ok hk a6 aj a7=>by
    refine ag k ok hk a6 ?_ a7;by_cases ak:j=k
    ·subst ak;exact ai
    ·rw[getD_set_ne Ξ ak] at aj;exact aj
   refine wpOpIn_mono (λa' w' U=>⟨λ_=>U.2.1 ad,ih (listed.setIfInBounds j Ξ) a' w' (af.set G ad) az (ready_mono E (Ne.symm D)) U.1 (U.2.1 ad) ?_⟩) h2;rw[Array.setIfInBounds_comm _ _ D];exact U.2.2
def Fs (F:Fence) (m:Nat) (P:é) (ops:Array ϸ) (Q:Exit->õ->Κ->Prop) (C:Κ->Prop) (n:Nat):List (Nat × Bool)->õ->Κ->Prop
 | [],a,w=>Q .normal a w
 | (i,Ξ)::is,a,w=>∃ o v,ops[i]? = Δ o/\YieldsIf P ops C o v a/\Fs F m P ops Q C n is (a.put o.dst v) w
 | (i,Τ)::is,a,w=>wpOpIn F m P ops Q i (λD w'=>(i<n->C w')/\Fs F m P ops Q C n is D w') a w
theorem Q4 (U:∀ f,F.fn f) (aa:Mc ops=Ξ) (ab:Region.noSelect ops=Ξ) (hs:Region.sinkB md ops n=Ξ) (hc:Region.chainB md ops n=Ξ) (hn:n<ops.size)
  (hQ:∀ c a tm w,Q (.panic c) { tmps:=tm,defers:=a.defers } w->Q (.panic c) a w):∀ (is:List (Nat × Bool)) (listed:Array Bool) (a:õ) (w:Κ),(is≠[]->HeadInv md ops n listed)->E4 md ops n is listed=Ξ->(is≠[]->C w)->
   Fs F m P ops Q C n is a w->K3 F m P md ops Q C n is.length listed a w
 | [],listed,a,w,_,D,_,h=>⟨by simpa [E4] using D,h⟩
 | (i,Ξ)::is,listed,a,w,G,D,H,⟨o,v,ho,hy,h⟩=>by
  simp only[E4,ϝ,decide_eq_true_eq] at D;obtain⟨⟨⟨I,J⟩,hf⟩,af⟩:=D;have M:i∈Ê md ops listed:=by simpa using I
  have G:=G (by simp);have H:=H (by simp);exact Am5 U aa ho (Region.noSelect_spec ab) hs hc hn J (λc a w T=>by
    cases hd:o.dst with
    | none=>rw[hd] at T;exact T
    | some t=>rw[hd] at T;exact hQ c a _ w T) _ listed a w G (Region.free_spec ho hf) M hy H
   (Q4 U aa ab hs hc hn hQ is _ _ w (λ_=>G.set M J) af (λ_=>H) h)
 | (i,Τ)::is,listed,a,w,G,D,H,h=>by
  simp only[E4,ϝ,decide_eq_true_eq,Æ,List.isEmpty_iff] at D;obtain⟨⟨I,J⟩,af⟩:=D;have M:i∈Ê md ops listed:=by rw[I];simp
  refine⟨λh1=>(by rw[I] at h1;cases h1),λj hj=>?_⟩;rw[I] at hj;have:j=i:=by simpa using hj
  subst this;refine wpOpIn_mono (λa' w' h'=>⟨h'.1,Q4 U aa ab hs hc hn hQ is _ a' w' (λah=>?_) af (λah=>?_) h'.2⟩) h
  ·rcases J with E|E
   ·exact absurd E ah
   ·exact (G (by simp)).set M E
  ·rcases J with E|E
   ·exact absurd E ah
   ·exact h'.1 E
theorem Z8 {id:Nat} {a:õ} {w:Κ} (n:Nat) (is:List (Nat × Bool)) (H:∀ f,F.fn f) (hm:P.follows .mixedOrders=Ξ) (I:Mc ops=Ξ) (D:L0 .any ops n is=Ξ) (J:∀ c a M w,Q (.panic c) { tmps:=M,defers:=a.defers } w->Q (.panic c) a w)
  (C:Κ->Prop) (T:C w.drew) (h:Fs F m P ops Q C n is a w.drew):(Code.region id ops Ξ).wpIn F m P Q a w:=by
 simp only[L0,ϝ,decide_eq_true_eq] at D;obtain⟨⟨⟨⟨⟨U,hs⟩,hc⟩,hn⟩,E⟩,D⟩:=D;refine wpIn_region_any hm (Y7 (C:=C) (n:=n) _ _ _ _ ?_);rw[<-E];have ab:HeadInv .any ops n (Array.replicate is.length Τ):=by
  rw[E];exact⟨by simp,λj oj _ G=>(by rw[ϭ] at G;cases G),λt _ ht=>getD_in (by simpa using ht) (ϭ _ _)⟩
 exact Q4 H I U hs hc hn J is _ a _ (λ_=>ab) (by rw[E];exact D) (λ_=>T) h
theorem Abk {a:õ} {w:Κ} (h:Q .normal a w):Fs F m P ops Q C n [] a w:=h
theorem Abj {i:Nat} {is:List (Nat × Bool)} {o:ϸ} {v:Ρ} {a:õ} {w:Κ} (D:ops.toList[i]? = Δ o) (E:Ì o (yielded ops a.tmps)=Ξ) (G:∀ W,C W->(Ú a.eval o).run P W=.ok (.value v) W)
  (h:Fs F m P ops Q C n is (a.put o.dst v) w):Fs F m P ops Q C n ((i,Ξ)::is) a w:=⟨o,v,by rw[<-ë];exact D,.inl ⟨E,G⟩,h⟩
theorem Lk (E:∀ f,F.fn f) {i:Nat} {is:List (Nat × Bool)} {o:ϸ} {a:õ} {w:Κ} (G:ops.toList[i]? = Δ o) (I:∀ c,o.op≠.defer c)
  (h:∀ K:õ->Κ->Prop,(∀ D w',(i<n->C w')->Fs F m P ops Q C n is D w'->K D w')->if Ì o (yielded ops a.tmps)=Ξ then o.uponIn F m P a K Q ((Ú a.eval o).run P w) else K (a.put o.dst ς) w):Fs F m P ops Q C n ((i,Τ)::is) a w:=by
 show wpOpIn F m P ops Q i _ a w;unfold wpOpIn;rw[ë] at G;rw[G];have:=h _ (λD w' J M=>ã J M);show if _ then _ else _
 by_cases H:Ì o (yielded ops a.tmps)=Ξ
 ·rw[if_pos H] at this ⊢;unfold ϸ.wpIn;rw[ϸ.semAt_eq _ _ _ I];exact⟨λf _=>E f,this⟩
 ·rw[if_neg H] at this ⊢;exact⟨λf _=>E f,this⟩
end
open Go.RowKit Go.Shelf
attribute [local go_sem] Oper.semAt_some
def WBox (W:Κ) (D E G H:Nat) (I:Array Ρ) (J N s n:Nat):Prop:=
 W.heap[D]? = Δ (Ε I 30 (0,0))/\W.heap[E]? = Δ (Ε #[Β (Δ ⟨J,0,Γ⟩) (N+1) (N+1)] 27 (0,0))/\W.heap[G]? = Δ (Ε #[iv s] 3 (0,0))/\W.heap[H]? = Δ (Ε #[iv n] 3 (0,0))
theorem WBox.kp {B:Nat} {W W':Κ} {E G H I J N s n:Nat} {M:Array Ρ} (h:WBox W E G H I M J N s n) (D:Kp B W W'):WBox W' E G H I M J N s n:=
 ⟨D.cells h.1 (by decide) (by decide),D.cells h.2.1 (by decide) (by decide),D.cells h.2.2.1 (by decide) (by decide),D.cells h.2.2.2 (by decide) (by decide)⟩
theorem WBox.ext {W W':Κ} {D E G H I N s n:Nat} {J:Array Ρ} (h:WBox W D E G H J I N s n) (M:Ext W W'):WBox W' D E G H J I N s n:=h.kp (B:=0) (Kp.of_ext M)
theorem Rk (D:Array Ρ) (E N s n:Nat) (W:Κ) :
  Ϝ Η 64 #[.agg D,Β (Δ ⟨E,0,Γ⟩) (N+1) (N+1),iv s,iv n] W λe w'=>∃ I J M T,e=ν (.func (.func 107) #[] #[γ (Δ ⟨J,0,Γ⟩),γ (Δ ⟨T,0,Γ⟩),γ (Δ ⟨M,0,Γ⟩),γ (Δ ⟨I,0,Γ⟩)])/\
   WBox w' I J M T D E N s n/\Ext W w':=by
 have U:=Ab W (Ε D 30);have h1:=Ab (W.alloc (Ε D 30)) (Ε #[Β (Δ ⟨E,0,Γ⟩) (N+1) (N+1)] 27);have h2:=Ab ((W.alloc (Ε D 30)).alloc (Ε #[Β (Δ ⟨E,0,Γ⟩) (N+1) (N+1)] 27)) (Ε #[iv s] 3);have G:=Ab (((W.alloc (Ε D 30)).alloc (Ε #[Β (Δ ⟨E,0,Γ⟩) (N+1) (N+1)] 27)).alloc (Ε #[iv s] 3)) (Ε #[iv n] 3);have k0:=Ag (Ag (Ag U (Ε #[Β (Δ ⟨E,0,Γ⟩) (N+1) (N+1)] 27)) (Ε #[iv s] 3)) (Ε #[iv n] 3);have k1:=Ag (Ag h1 (Ε #[iv s] 3)) (Ε #[iv n] 3);have H:=Ag h2 (Ε #[iv n] 3);simp only[Λ] at k1 H G;have hB:=Α (ã k0 (ã k1 (ã H G)));clear U h1 h2 G k0 k1 H;go_enter Tryz.func64,Tryz.ntmps64;go_wp2;go_ret;exact⟨_,_,_,_,rfl,hB.out,(((Ι W).alloc _).alloc _).alloc _ |>.alloc _⟩
theorem Am2 (W:Κ) (b:UInt8) (v:Ρ) (x:List UInt8) (hv:By W v x) (I:x.length<=64) (ty:TypeId) :
  ∃ v' W',(Builtin.append_ #[22,22] ty #[Β (Δ ⟨W.heap.size,0,Γ⟩) 1 1,v]).run Η (W.alloc (Ε #[bv b] 5))=.ok v' W'/\WordV W' v' (b::x)/\Ext W W':=by
 obtain⟨G,J,aa,ab,ad⟩:=info_parts (show (Η.info? 5).map (λi=>(i.zero,i.size,i.bytes))=Δ (Δ (.int .u8 0),1,1) by kernel_rfl);have M:(W.alloc (Ε #[bv b] 5)).ownsRow W.heap.size 5 1 (Β (Δ ⟨W.heap.size,0,Γ⟩) 1 1) 1 [bv b]:=Κ.ownsRow_lit (base:=W.heap.size) (e:=5) (size:=1) W #[bv b] 1 (θ _) (by unfold maxLen;omega) rfl;have H:=(Ι W).alloc (Ε #[bv b] 5);cases x with
 | nil=>
  obtain⟨a,D,rfl⟩:=hv.len;have hs:Src Η G.size 22 (Β a 0 D) 0 [] (W.alloc (Ε #[bv b] 5)):=by
   cases a with
   | none=>exact Src.ofNil _ Ϸ D
   | some p=>exact Src.ofSlice _ Ϸ p 0 D [] (by simp) (λj u h=>by simp at h) (λu h=>by cases h)
  exact⟨_,_,run_append_nothing _ 22 22 ty 5 G Ϸ J _ 1 1 (θ _) _ hs,Ge M,H⟩
 | cons y x=>
  obtain⟨p,E,D,rfl,hc⟩:=ä hv (by simp);have af:∀ j u,((y::x).map bv)[j]? = Δ u->(W.alloc (Ε #[bv b] 5)).cell? ((⟨p,E,Γ⟩:Addr).add j)=Δ u:=λj u hj=>by
   obtain⟨ah,ai⟩:=ό.1 hj;have aj:j<(y::x).length:=by rwa [Ϗ] at ah
   have e:(⟨p,E,Γ⟩:Addr).add j=⟨p,E+j,Γ⟩:=by
    unfold Addr.add;by_cases T:j=0
    ·subst T;rfl
    ·simp[T]
   rw[e,H.cell (hc j (by omega)),<-ai,List.getElem_map,Ζ,Μ aj];rfl
  obtain⟨g,c,W',hr,U,h3,h4,h5⟩:=run_append_lies (P:=Η) (w:=W.alloc (Ε #[bv b] 5)) 22 ty W.heap.size 5 G (.int .u8 0) 1 1 Ϸ J aa ab ad rfl (by decide) _ 1 [bv b] M ⟨p,E,Γ⟩ (y::x).length D ((y::x).map bv) (by simp) af
   (λu hu=>by obtain⟨b',_,rfl⟩:=À.1 hu;rfl) (by simp) (by simp at I ⊢;unfold maxLen;omega) (by simp at I ⊢;omega) (by rw[Λ];omega) _ rfl
  refine⟨_,W',hr,Ge (base:=W.heap.size) ?_,H.grown h3 (λk e=>by have:W.heap.size=k:=ω e;omega)⟩;have:1+(y::x).length=(b::y::x).length:=by simp;omega
  rw[this] at U ⊢;exact U
theorem Akn {P:é} {o:ϸ} {a:õ} {W W':Κ} (s x:Operand) (t:TypeId) (D:o.op=.call { callee:=.builtin .append,args:=#[s,x],argTypes:=#[t,t] }) (v u:Ρ) (hs:a.eval s=v) (E:a.eval x=u) {v':Ρ}
  (G:(Builtin.append_ #[t,t] o.type #[v,u]).run P W=.ok v' W'):(Ú a.eval o).run P W=.ok (.value v') W':=by
 unfold Ú;simp only[D,resolve,invoke,builtin,Sem.run_bind,Sem.run_pure,Result.andThen_ok,List.map_toArray,Ç,List.map_nil,hs,E,G]
theorem Ajk (L:List UInt8->Bool) (n:Nat) {k k':Nat} (h:k<=k'):Dm L n k <+: Dm L n k':=by
 induction k' with
 | zero=>rw[Nat.le_zero.1 h];exact List.prefix_rfl
 | succ m D=>
  rcases Nat.lt_or_ge k (m+1) with E|E
  ·rw[I0];exact (D (by omega)).trans (List.prefix_append _ _)
  ·rw[show k=m+1 by omega];exact List.prefix_rfl
theorem Aaf (d:Dfa) (hv:Val d) (hn:d.n.length<=64) (N gl bc oc cc bn on cn:Nat) (va:Ρ) (hN:N<=64) (w0:Κ) (hC:Cs w0 (Β (Δ ⟨bc,oc,Γ⟩) d.cls.length cc) d.cls) (T:RowsAt w0 bn on d.n.length d.cls.length d.ent2) (hL:Rb w0 gl d N) :
  ∀ n,n<=N->∀ s,s<d.n.length->∀ (w:Κ) (I Bl Bs U:Nat),Ext w0 w->WBox w I Bl Bs U (dA (Β (Δ ⟨bc,oc,Γ⟩) d.cls.length cc) (Β (Δ ⟨bn,on,Γ⟩) d.n.length cn) va) gl N s n->
   Zo w0.heap.size Η 107 #[γ (Δ ⟨Bl,0,Γ⟩),γ (Δ ⟨U,0,Γ⟩),γ (Δ ⟨Bs,0,Γ⟩),γ (Δ ⟨I,0,Γ⟩)] (Bp (λu=>d.ok (d.run s u)) n) w:=by
 have HC:=Α (λ(W:Κ) (hW:Ext w0 W)=>hC.ext hW);have HR:=Α (λ(W:Κ) (hW:Ext w0 W)=>T.ext hW);have HL:=Α hL;have HV:=Α hv;have h3:=hv.pos;have h4:=hv.parts.pos;have h5:=hv.parts.le;clear hC T hL hv;obtain⟨Vd,b0⟩:∃ X,dA (Β (Δ ⟨bc,oc,Γ⟩) d.cls.length cc) (Β (Δ ⟨bn,on,Γ⟩) d.n.length cn) va=X:=⟨_,rfl⟩;rw[b0];have b4:=Α b0;clear b0;intro n;induction n using Nat.strongRecOn with
 | _ n ih=>
  intro fg s hs w I Bl Bs U c1 hB l J W b5 b6 c3 hY h0 k;have HB:=Α (hB.ext b5);have c9:=c1.trans b5;obtain⟨gi,da,db⟩:=HL.out n fg;have au:=c9.alloc (Ε #[.func (.yield l) #[] #[]] 159);have bd:=(Ι W).alloc (Ε #[.func (.yield l) #[] #[]] 159);have H:=Ab W (Ε #[.func (.yield l) #[] #[]] 159);have be:=Α (HB.out.ext bd);obtain⟨q0,q1,q2,q3⟩:=be.out;have k1:=Be ((Ω _ Bl 0 _ _ _ q1).trans rfl);have k2:=Be ((Ω _ U 0 _ _ _ q3).trans rfl);have k3:=Be ((Ω _ Bs 0 _ _ _ q2).trans rfl);have k4:=Be (au.cell da);have k5:=Be (au.cell (db s hs));have H:=Α H;have b8:Hid (A3 d n s=A5 (λu=>d.ok (d.run s u)) n):=Α (Ks HV.out n s hs);have h7:(n:Int)<(N:Int)+1:=by omega
  clear q0 q1 q2 q3 da db;refine callsIn_of_wp_marks Tryz.func107 rfl trivial ?_ rfl;refine wpIn_wide.2 ?_;simp only[Tryz.ntmps107,ø,Ϲ,List.length_nil,Nat.reduceAdd,Nat.reduceSub,û,ú,List.push_toArray,ÿ,List.nil_append,List.cons_append];go_upto_region 1 with (fail)
  obtain⟨w1,b9⟩:∃ X,W.alloc (Ε #[.func (.yield l) #[] #[]] 159)=X:=⟨_,rfl⟩;rw[b9] at k1 k2 k3 k4 k5 au bd be H;simp only[b9];clear b9;obtain⟨g5,ca⟩:∃ x,W.heap.size=x:=⟨_,rfl⟩;rw[ca] at H;rw[ca];have dd:g5<w1.heap.size:=An H.out;clear ca;obtain⟨ct,de⟩:∃ c,A3 d n s=c:=⟨_,rfl⟩;rw[de] at k5 b8;clear de;refine Dx (by kernel_rfl) (by kernel_rfl) ?_;iterate 8 (with_reducible refine í (λK E=>?_);go_simp;(refine E _ ?_;clear E K))
  refine ö ?_;rintro _ ⟨e,rfl⟩;have ax:=e.ext;have df:=au.trans ax;have aa:=bd.trans ax;have dg:=Α (ax.heap H.out);have dh:=Α (be.out.ext ax);clear k1 k3 k4 k5;generalize e.W=w2 at *;have ae:=Α (b6 _ _ _ h0 aa);have dk:=Α hY;have bf:=Α b6;have dm:=Α c3;have dn:=Α ih;have fh:=Α df;have fj:=Α aa;have h8:=Α dd;clear hY b6 c3 ih h0 c1 hB b5 HB c9 au bd H be ax df aa dd;by_cases hz:ct=0
  ·have dp:((sat ct:Nat):Int)=0:=by rw[hz];rfl
   have fk:(((sat ct:Nat):Int)==0)=Ξ:=by rw[dp];rfl
   have fl:Hid (A5 (λu=>d.ok (d.run s u)) n=0):=Α (by rw[<-b8.out];exact hz);clear hz dp;go_wp2;refine⟨_,results_none rfl _ _ _,⟨_,rfl⟩,?_⟩;rw[Aaa fl.out];exact ae.out
  ·have fk:(((sat ct:Nat):Int)==0)=Τ:=by
    have:sat ct≠0:=by unfold sat;omega
    simp;omega
   obtain⟨q0,q1,q2,q3⟩:=dh.out;have c2:=(Ω _ U 0 _ _ _ q3).trans rfl;clear q0 q1 q2 q3;rcases n with _|n
   ·have cd:Bp (λu=>d.ok (d.run s u)) 0=[[]]:=by
     have h1:(Bp (λu=>d.ok (d.run s u)) 0).length≠0:=λh=>hz (b8.out.trans h)
     have h2:∀ y,y∈Bp (λu=>d.ok (d.run s u)) 0->y=[]:=λy hy=>List.eq_nil_of_length_eq_zero ((F7 0 _ y).1 hy).1
     unfold Bp at h1 h2 ⊢;split at h1
     ·rename_i h;rw[if_pos h]
     ·exact absurd rfl h1
    obtain⟨fn,tm,fq,bo,hy,T⟩:=dk.out 2 [] [] (Β Γ 0 0) w2 ae.out (Í _ _ _ _) (by rw[cd];exact List.prefix_rfl);have ft:=Α T;have c5:=(Ω w2 g5 0 _ _ _ dg.out).trans (show (#[Ρ.func (.yield l) #[] #[]]:Array Ρ)[0]? = Δ (.func (.yield l) #[] #[]) from rfl);have fu:=Α cd;clear T cd;go_upto_region 3 with (fail)
    refine (wpIn_wide (n:=3)).1 ?_
    gi_wp2
    refine RoundIn.mono ft.out ?_;rintro e W3 ⟨rfl,a1,af⟩;have fw:=Α a1;clear hy a1 af c5
    gi_wp2
    go_wp2;refine⟨_,results_none rfl _ _ _,⟨_,rfl⟩,?_⟩;rw[fu.out];exact fw.out
   ·have h9:(((n+1:Nat):Int)==0)=Τ:=by simp;omega
    go_upto_region 3 with (fail)
    clear k2 c2;refine wp_loop (λa' w'=>∃ (b:Nat) (u6 u7 u8 u9 u10 u11 u12 u13 u14 u15 u16 u17 u18 u19 u20 u22 u23 u24 u25 u26 u27 u28 u29 u30 u31 u32 u33 u34 u35 u36 u37 u38 u39 u40 u41 u42 u43 u44 u45 u46 u47 u48 u49 u50 cf:Ρ) (ds:List Deferred),b<=256/\J (Dm (λu=>d.ok (d.run s u)) n b) w'/\Kp w0.heap.size w2 w'/\Marks W.heap.size w' ds/\
      a'={ tmps:=#[.func (.yield l) #[] #[],γ (Δ ⟨Bl,0,Γ⟩),γ (Δ ⟨U,0,Γ⟩),γ (Δ ⟨Bs,0,Γ⟩),γ (Δ ⟨I,0,Γ⟩),γ (Δ ⟨g5,0,Γ⟩),u6,u7,u8,u9,u10,u11,u12,u13,u14,u15,u16,u17,u18,u19,u20,iv b,u22,u23,u24,u25,u26,u27,u28,u29,u30,u31,u32,u33,u34,u35,u36,u37,u38,u39,u40,u41,u42,u43,u44,u45,u46,u47,u48,u49,u50,cf],defers:=ds }) (λa' _=>256-(intOf (a'.tmps.getD 21 ς)).toNat) ?_ ?_
    ·exact⟨0,_,_,_,_,_,_,_,_,_,_,_,_,_,_,_,_,_,_,_,_,_,_,_,_,_,_,_,_,_,_,_,_,_,_,_,_,_,_,_,_,_,_,_,_,_,[],by omega,ae.out,Kp.refl _ _,Marks.nil _ _,rfl⟩
    ·rintro a' wr ⟨b,u6,u7,u8,u9,u10,u11,u12,u13,u14,u15,u16,u17,u18,u19,u20,u22,u23,u24,u25,u26,u27,u28,u29,u30,u31,u32,u33,u34,u35,u36,u37,u38,u39,u40,u41,u42,u43,u44,u45,u46,u47,u48,u49,u50,cf,ds,hb,hJ,E,hM,rfl⟩;clear ae;by_cases al:b<256
     ·have dr:=E.ext fh.out (θ _);have dt:=Α (dh.out.kp E);have du:=Α (E.cells dg.out (by decide) (by decide));have an:=(Ι wr).alloc (Ε #[iv b] 3);have a6:=Ab wr (Ε #[iv b] 3);have HJ:=Α hJ;have HM:=Α hM;have HK:=Α E;have ib:(b:Int)<256:=by omega
      have dy:IntKind.u8.wrap (b:Int)=(b:Int):=by
       simp[IntKind.wrap,IntKind.signed,IntKind.bits];omega
      clear hJ hM E;go_upto_region 7 with (fail)
      obtain⟨w4,cj⟩:∃ X,wr.alloc (Ε #[iv b] 3)=X:=⟨_,rfl⟩;rw[cj] at an a6;simp only[cj];clear cj;obtain⟨gb,bk⟩:∃ x,wr.heap.size=x:=⟨_,rfl⟩;rw[bk] at a6;rw[bk];have fx:=Α bk;clear bk;have eb:=Α a6;have ck:=Α (dt.out.ext an);have ec:=Α (an.heap du.out);have aa:=dr.trans an;obtain⟨br,or',cr,ee,ef⟩:=(HR.out w4 aa) s hs;have r1:=Be ee;have hk:=cell_lt HV.out.parts al;have r2:=Be (ef _ hk);obtain⟨q0,q1,q2,q3⟩:=ck.out;have fz:=Be ((Ω _ I 0 _ _ _ q0).trans (show Vd[0]? = Δ (Β (Δ ⟨bc,oc,Γ⟩) d.cls.length cc) by rw[<-b4.out];rfl));have ga:=Be ((Ω _ I 1 _ _ _ q0).trans (show Vd[1]? = Δ (Β (Δ ⟨bn,on,Γ⟩) d.n.length cn) by rw[<-b4.out];rfl));have ks:=Be ((Ω _ Bs 0 _ _ _ q2).trans (show (#[iv s]:Array Ρ)[0]? = Δ (iv s) from rfl));have kb:=Be ((Ω _ gb 0 _ _ _ a6).trans (show (#[iv b]:Array Ρ)[0]? = Δ (iv b) from rfl));have f95:=λ(e:EW w4)=>Α (Wf d.cls _ (b:Int) (by omega) (by omega) e.W (HC.out _ (aa.trans e.ext)))
      rw[Wi HV.out.parts al] at f95;obtain⟨kc,cm⟩:∃ x,Ak d.cls b=x:=⟨_,rfl⟩;have eh:Hid (d.ent2 s kc=d.stp s b):=Α (by rw[<-cm];rfl);rw[cm] at hk r2 f95;rw[eh.out] at r2;obtain⟨M,bm⟩:∃ x,d.stp s b=x:=⟨_,rfl⟩;have gh:M<d.n.length:=by rw[<-bm];exact HV.out.stp_lt hs al
      rw[bm] at r2;have ei:=Α bm;clear cm bm q0 q1 q2 q3 ee ef a6 eh;refine Dx (by kernel_rfl) (by kernel_rfl) ?_;iterate 13 (with_reducible refine í (λK E=>?_);go_simp;first|(refine E _ ?_;clear E K)|(apply Exists.intro;refine⟨λ_=>?_,E _ ?_⟩;(with_reducible exact F4 (f95 _).out);clear E K))
      refine ö ?_;rintro _ ⟨e,rfl⟩;have bp:=an.trans e.ext;have gj:=aa.trans e.ext;have ej:=Α (ck.out.ext e.ext);have H:=Α (e.ext.heap ec.out);have ek:=Α (e.ext.heap eb.out);have en:=Α (bf.out _ _ _ HJ.out bp);have eo:=Α (HM.out.kp (B':=0) (Kp.of_ext bp));have ep:=Α (HK.out.trans (Kp.of_ext bp));clear r1 r2 fz ga ks kb f95 an aa ck ec eb HJ HM HK dt du fx bp dy dr;generalize e.W=w5 at *;obtain⟨q0,q1,q2,q3⟩:=ej.out;have er:=Α q0;have gn:=(Ω _ Bl 0 _ _ _ q1).trans (show (#[ϟ (Δ ⟨gl,0,Γ⟩) (N+1) (N+1)]:Array Ρ)[0]? = Δ (Β (Δ ⟨gl,0,Γ⟩) (N+1) (N+1)) from rfl);have gp:=(Ω _ U 0 _ _ _ q3).trans (show (#[iv (n+1)]:Array Ρ)[0]? = Δ (iv (n+1)) from rfl);have et:(Η.info? 30).map (·.size)=Δ Vd.size:=by rw[<-b4.out];exact Ad
      clear q0 q1 q2 q3;go_wp2_with (first
       | (refine Υ rfl 30 (η 4) rfl _ rfl _ _ _ _ er.out Ν rfl et ?_)
       | (go_at_call 64;(with_reducible refine (Rk Vd gl N M n w5).mono ?_);rintro e w6 ⟨eu,ev,ew,ey,rfl,ez,ao⟩))
      clear gn gp et er ej;have gq:=dn.out n (by omega) (by omega) M gh w6 eu ev ew ey (gj.trans ao) ez;have gr:=Α (ao.heap H.out);have gu:=Α (ao.heap ek.out);have gv:=Α (bf.out _ _ _ en.out ao);have gw:=Α (eo.out.kp (B':=0) (Kp.of_ext ao));have e0:=Α (ep.out.trans (Kp.of_ext ao));have e1:W.heap.size<=w6.heap.size:=ψ fj.out.size e0.out.size;clear H ek en eo ep ez dn;refine (wpIn_wide (n:=3)).1 ?_;refine Ri (gf:=107) rfl (enters_of Tryz.func107 (by kernel_rfl) rfl) gq rfl
       (λpre W'=>J (Dm (λu=>d.ok (d.run s u)) n b++pre.map (χ b::·)) W'/\Kp w0.heap.size w6 W')
       (λst G W2 h hE=>⟨bf.out _ _ _ h.1 hE,h.2.trans (Kp.of_ext hE)⟩)
       (λst G l' o o' h hl ho hc=>⟨dm.out _ G l' o o' h.1 (ψ e1 hl) ho hc,h.2.put_new hl o'⟩)
       ⟨by simpa using gv.out,Kp.refl _ _⟩
       (λv=>{ tmps:=#[.func (.yield l) #[] #[],γ (Δ ⟨Bl,0,Γ⟩),γ (Δ ⟨U,0,Γ⟩),γ (Δ ⟨Bs,0,Γ⟩),γ (Δ ⟨I,0,Γ⟩),γ (Δ ⟨g5,0,Γ⟩),γ (Δ ⟨gb,0,Γ⟩),iv M,v,u9,u10,u11,u12,u13,u14,u15,u16,u17,u18,u19,u20,iv b,.bool Ξ,iv b,γ (Δ ⟨I,1,Γ⟩),Β (Δ ⟨bn,on,Γ⟩) d.n.length cn,iv s,γ (Δ ⟨bn,on+s,Γ⟩),Β (Δ ⟨br,or',Γ⟩) d.cls.length cr,γ (Δ ⟨I,0,Γ⟩),Β (Δ ⟨bc,oc,Γ⟩) d.cls.length cc,iv b,.int .u8 (b:Int),.int ζ (kc:Int),γ (Δ ⟨br,or'+kc,Γ⟩),iv M,.agg Vd,Β (Δ ⟨gl,0,Γ⟩) (N+1) (N+1),iv M,iv (n+1),.int ζ (n:Int),.func (.func 107) #[] #[γ (Δ ⟨ev,0,Γ⟩),γ (Δ ⟨ey,0,Γ⟩),γ (Δ ⟨ew,0,Γ⟩),γ (Δ ⟨eu,0,Γ⟩)],v,u43,u44,u45,u46,u47,u48,u49,u50,cf],defers:=[] }) ?assign ?body ?done
      case assign=>
       intro l' v G K E
       gi_wp2
       exact E
      case body=>
       rintro l' pre x v G ⟨a7,ag⟩ e3 e4 m;have bw:=Α (ag.cells gr.out (by decide) (by decide));have bx:=Α (ag.cells gu.out (by decide) (by decide));have gy:=Α a7;have gz:=Α e3;have hf:=Α ag;clear a7 ag e3;refine wpIn_block (wpIn_seq ?_);have dy:IntKind.u8.wrap (b:Int)=((χ b).toNat:Int):=by
        rw[u8n b al];simp[IntKind.wrap,IntKind.signed,IntKind.bits];omega
       have hh:x.length<=64:=by
        have h1:x∈Bp (λu=>d.ok (d.run M u)) n:=e4.subset (by simp);have:=((F7 n _ x).1 h1).1;omega
       obtain⟨v2,W2,e5,e6,ah⟩:=Am2 G.drew (χ b) v x ((gz.out.ext (Ι G).drew).by (by omega)) hh 22;have e7:(Dm (λu=>d.ok (d.run s u)) n b++pre.map (χ b::·))++[χ b::x] <+: Bp (λu=>d.ok (d.run s u)) (n+1):=by
        have e:(λw=>d.ok (d.run s (χ b::w)))=λu=>d.ok (d.run M u):=by
         funext u
         show d.ok (d.run (d.stp s (χ b).toNat) u)=_;rw[u8n b al,ei.out]
        refine List.IsPrefix.trans ?_ (Ajk (λu=>d.ok (d.run s u)) n (show b+1<=256 by omega));rw[I0,e,Ò];refine (List.prefix_append_right_inj _).2 ?_;rw[show pre.map (χ b::·)++[χ b::x]=(pre++[x]).map (χ b::·) by simp];exact e4.map _
       have ae:=bf.out _ _ _ gy.out ((Ι G).drew.trans ah);obtain⟨fn,tm,fq,bo,hy,T⟩:=dk.out (m-1) _ _ v2 W2 ae e6 e7;have cv:Kp w0.heap.size G W2:=Kp.of_ext ((Ι G).drew.trans ah);refine Z8 7 [(0,Ξ),(1,Ξ),(2,Ξ),(4,Ξ),(3,Τ),(5,Τ),(6,Τ),(7,Τ)] (λ_=>trivial) (by kernel_rfl) (by kernel_rfl) (by kernel_rfl) (λ_ _ _ _ h=>h) (λX=>X.heap[g5]? = Δ (Ε #[.func (.yield l) #[] #[]] 159 (0,0))/\X.heap[gb]? = Δ (Ε #[iv b] 3 (0,0))) ⟨bw.out,bx.out⟩ ?_;iterate 4
        refine Abj (v:=?_) rfl rfl (λX hX=>?_) ?_
        rotate_left
        ·obtain⟨x5,x6⟩:=hX;have c5:=(Ω X g5 0 _ _ _ x5).trans (show (#[Ρ.func (.yield l) #[] #[]]:Array Ρ)[0]? = Δ (.func (.yield l) #[] #[]) from rfl);have c6:=(Ω X gb 0 _ _ _ x6).trans (show (#[iv b]:Array Ρ)[0]? = Δ (iv b) from rfl);clear x5 x6;go_simp;first|done|with_reducible rfl
        simp only[õ.put,Θ,Χ,Ψ]
       refine Lk (λ_=>trivial) rfl (λc h=>by cases h) (λK E=>?_);go_simp;refine E _ _ (λ_=>⟨Ag bw.out _,Ag bx.out _⟩) ?_;clear E K;refine Lk (λ_=>trivial) rfl (λc h=>by cases h) (λK E=>?_);refine (if_pos (by rfl)).mpr ?_;rw[Akn _ _ 22 rfl _ _ rfl rfl e5];refine E _ _ (λ_=>⟨ah.heap bw.out,ah.heap bx.out⟩) ?_;clear E K;simp only[õ.put,Θ,Χ,Ψ];refine Lk (λ_=>trivial) rfl (λc h=>by cases h) (λK E=>?_);go_simp;refine⟨λh=>(by cases h),RoundIn.mono (show RoundIn (Fence.wide.inRound l') _ _ _ _ _ _ _ _ _ from T) ?_⟩;rintro e W3 ⟨rfl,a1,af⟩;refine E _ _ (λ_=>⟨af.cells (ah.heap bw.out) (by decide) (by decide),af.cells (ah.heap bx.out) (by decide) (by decide)⟩) ?_;clear E K hy;refine Lk (λ_=>trivial) rfl (λc h=>by cases h) (λK E=>?_);go_simp;refine E _ _ (λh=>absurd h (by omega)) ?_;clear E K;refine Abk ?_;have HF:=Α (ã (cv.trans af) (ã a1 (hf.out.trans (cv.trans af))));clear a1 af T e5 ae e6 ah cv e7
       gi_wp2
       refine⟨HF.out.1,?_,HF.out.2.2⟩;rw[List.map_append,Ç,List.map_nil,<-Ò];exact HF.out.2.1
      case done=>
       rintro D G hD ⟨a7,ag⟩ fb;have hq:=e0.out.trans ag;have hr:=gw.out.cons ag (ψ e1 hD) hD fb;have ht:J (Dm (λu=>d.ok (d.run s u)) n (b+1)) G:=by
        rw[I0];have e:(λw=>d.ok (d.run s (χ b::w)))=λu=>d.ok (d.run M u):=by
         funext u
         show d.ok (d.run (d.stp s (χ b).toNat) u)=_;rw[u8n b al,ei.out]
        rw[e];exact a7
       clear a7 fb;go_wp2;refine⟨⟨b+1,_,_,_,_,_,_,_,_,_,_,_,_,_,_,_,_,_,_,_,_,_,_,_,_,_,_,_,_,_,_,_,_,_,_,_,_,_,_,_,_,_,_,_,_,_,_,by omega,ht,hq,hr,rfl⟩,?_⟩;simp[intOf];omega
     ·obtain rfl:b=256:=by omega
      go_wp2;exact Ph (λW'=>J (Dm (λu=>d.ok (d.run s u)) n 256) W') (λW' l o o' h hB hl hc=>dm.out _ W' l o o' h hB hl hc) (λW' h=>⟨_,results_none rfl _ _ _,⟨_,rfl⟩,h⟩) ds wr hM hJ
attribute [local go_sem] Oper.semAt_some
def Wrds (W:Κ) (v:Ρ) (l:List (List UInt8)):Prop:=∃ vs:List Ρ,vs.length=l.length/\W.ownsRow 0 22 1 v l.length vs/\∀ i,i<l.length->WordV W (vs.getD i ς) (l.getD i [])
theorem Wrds.ext {W W':Κ} {v:Ρ} {l:List (List UInt8)} (h:Wrds W v l) (D:Ext W W'):Wrds W' v l:=by
 obtain⟨vs,E,G,H⟩:=h;exact⟨vs,E,Ah G D,λi hi=>(H i hi).ext D⟩
theorem WordV.put {W:Κ} {v:Ρ} {x:List UInt8} (h:WordV W v x) {l:Nat} {o:Obj} (D:Obj) (E:W.heap[l]? = Δ o) (G:o.isCells=Τ):WordV (W.putObj l D) v x:=ownsRow_putObj h D E G
theorem Kp.grown {B:Nat} {W W':Κ} {row:Option Nat} (hg:W.grownBy W' row) (H:∀ k,row=Δ k->B<=k/\∃ cs fr,W.heap[k]? = Δ (Ε cs 22 fr)\/W.heap[k]? = Δ (Ε cs 38 fr)):Kp B W W':=
 ⟨hg.os,hg.tape,hg.output,hg.size,λk o G E=>by
  have I:k<W.heap.size:=(ϒ.1 G).1;refine (hg.block k I λe=>?_).trans G;obtain⟨J,cs,fr,D⟩:=H k e.symm;rcases E with E|E
  ·omega
  ·rcases D with D|D
   ·rw[G] at D;injection D with D;exact (E cs fr).1 D
   ·rw[G] at D;injection D with D;exact (E cs fr).2 D⟩
theorem Aff {W:Κ} {base e size:Nat} {v:Ρ} {n:Nat} {xs:List Ρ} (h:W.ownsRow base e size v n xs) (k:Nat) (D:v.ownBlock=Δ k):base<=k/\∃ cs fr,W.heap[k]? = Δ (Ε cs e fr):=by
 obtain⟨_,⟨rfl,_⟩|⟨g,G,cur,rfl,E,hg,_⟩⟩:=h
 ·cases D
 ·have:g=k:=ω D;subst this;exact⟨E,_,_,hg⟩
def OutI (W:Κ) (B D:Nat) (l:List (List UInt8)):Prop:=∃ v vs,Boxed W D 38 v/\W.ownsRow B 22 1 v l.length vs/\vs.length=l.length/\∀ i,i<l.length->WordV W (vs.getD i ς) (l.getD i [])
theorem OutI.ext {W W':Κ} {B E:Nat} {l:List (List UInt8)} (h:OutI W B E l) (D:Ext W W'):OutI W' B E l:=by
 obtain⟨v,vs,G,H,I,J⟩:=h;exact⟨v,vs,D.heap G,Ah H D,I,λi hi=>(J i hi).ext D⟩
theorem OutI.put {W:Κ} {B H:Nat} {l:List (List UInt8)} (h:OutI W B H l) {k:Nat} {o:Obj} (D:Obj) (E:W.heap[k]? = Δ o) (G:o.isCells=Τ):OutI (W.putObj k D) B H l:=by
 obtain⟨v,vs,I,J,M,T⟩:=h;exact⟨v,vs,J3 I E G,ownsRow_putObj J D E G,M,λi hi=>(T i hi).put D E G⟩
theorem Ahr (L:List UInt8->Bool) (n:Nat):Ca L (n+1)=Ca L n++Bp L n:=rfl
theorem Xz (L:List UInt8->Bool) (n:Nat):Bw L (n+1)=Bw L n+A5 L n:=rfl
theorem Ai0:(Η.info? 22).map (λi=>(i.zero,i.size,i.bytes))=Δ (Δ (Β Γ 0 0),1,24):=by kernel_rfl
theorem Mh (d:Dfa) (hv:Val d) (hn:d.n.length<=64) (N:Nat) (hN:N<=8) (v:Ρ) (w:Κ) (h:IsD w v d) :
  Ϝ Η 22 #[v,iv N] w λe w'=>Ext w w'/\((Bw d.has (N+1)<=4096/\∃ vo,e=ν (ϥ #[vo,.int ζ 0])/\Wrds w' vo (Ca d.has (N+1)))\/(4096<Bw d.has (N+1)/\e=ν (ϥ #[Β Γ 0 0,.int ζ 2]))):=by
 have HD:=Α h;obtain⟨bc,oc,cc,bn,on,cn,ba,oa,ca,rfl,hC,hR,-⟩:=h.opened hv;have f47:=λW (hW:Ext w W)=>Α (Eg d hv hn _ W (HD.out.ext hW))
 have f62:=λW (hW:Ext w W)=>Α (Xr d hv hn N (by omega) _ W (HD.out.ext hW))
 have bm:=Α (λ(J:Nat) (w0:Κ) (I:Ext w w0) (hL:Rb w0 J d N)=>Aaf d hv hn N J bc oc cc bn on cn (Β (Δ ⟨ba,oa,Γ⟩) d.n.length ca) (by omega) w0 (hC.ext I) (hR.ext I) hL);have c5:=hv.pos;have dw:=Α (λn=>show A3 d n 0=A5 d.has n from Ks hv n 0 hv.pos);obtain⟨U,az⟩:∃ X,dA (Β (Δ ⟨bc,oc,Γ⟩) d.cls.length cc) (Β (Δ ⟨bn,on,Γ⟩) d.n.length cn) (Β (Δ ⟨ba,oa,Γ⟩) d.n.length ca)=X:=⟨_,rfl⟩;have bo:(Η.info? 30).map (·.size)=Δ U.size:=by rw[<-az];exact Ad
 rw[az] at f47 f62 bm HD;rw[az];have a1:=(Ι w).alloc (Ε U 30);have H1:=Ab w (Ε U 30);clear h az hv hC hR;refine (callsIn_wide (n:=3)).1 ?_;refine callsIn_of_wp_marks Tryz.func22 rfl trivial ?_ rfl;refine wpIn_wide.2 ?_;simp only[Tryz.ntmps22,ø,Ϲ,List.length_nil,Nat.reduceAdd,Nat.reduceSub,û,ú,List.push_toArray,ÿ,List.nil_append,List.cons_append];go_upto_region 1 with (fail)
 obtain⟨w1,bq⟩:∃ W,w.alloc (Ε U 30)=W:=⟨_,rfl⟩;rw[bq] at a1 H1;simp only[bq];clear bq;have aj:=Α H1;clear H1;have fk:¬ ((N:Int)<0):=by omega
 have fl:¬ ((8:Int)<(N:Int)):=by omega
 go_upto_region 3 with (first
  | (refine Υ rfl 30 (η 2) rfl _ rfl _ _ _ _ aj.out Ν rfl bo ?_)
  | (go_at_call 47;(with_reducible refine (f47 _ a1).out.mono ?_);rintro e w2 ⟨rfl,br⟩;have a6:=a1.trans br;have aj:=Α (br.heap aj.out)))
 go_upto_region 4 with (first
  | (refine Υ rfl 30 (η 2) rfl _ rfl _ _ _ _ aj.out Ν rfl bo ?_)
  | (go_at_call 62;(with_reducible refine (f62 _ a6).out.mono ?_);rintro e G ⟨J,rfl,hL,a7⟩;have dx:=Α (a7.heap aj.out);have HL:=Α hL;have c6:=Α (bm.out J G (a6.trans a7) hL);have bt:=Α (a6.trans a7)))
 clear hL a7 a6 br a1 f47 f62 bm aj;have bu:=(Ι G).alloc (Ε #[Β Γ 0 0] 38);have a8:OutI (G.alloc (Ε #[Β Γ 0 0] 38)) G.heap.size G.heap.size []:=⟨_,[],Boxed.new G 38 _,Í _ _ _ _,rfl,λi hi=>by simp at hi⟩;go_upto_region 5 with (fail)
 obtain⟨w5,bw⟩:∃ W,G.alloc (Ε #[Β Γ 0 0] 38)=W:=⟨_,rfl⟩;rw[bw] at bu a8;simp only[bw];clear bw;obtain⟨E,bb⟩:∃ x,G.heap.size=x:=⟨_,rfl⟩;have ak:=Α bb;rw[bb];rw[bb] at a8;clear bb;have c8:=Α a8;clear a8;go_upto_region 6 with (fail)
 refine wp_loop (λa' W=>∃ (n:Nat) (u3 u4 u5 u8 u9 u10 u11 u12 u13 u14 u15 u16 u17 u18 u19 u20 u21 u22 u23 u24 u27 u28 u29 u30 u31 u32 u33 u34 u35 u36 u37 u38 u39 u40 u41 u42 u43 u44 u45 u46 u47 u48 bx:Ρ) (ds:List Deferred),n<=N+1/\OutI W E E (Ca d.has n)/\Bw d.has n<=4096/\Ext G W/\Marks E W ds/\
   a'={ tmps:=#[.agg U,iv N,γ (Δ ⟨w.heap.size,0,Γ⟩),u3,u4,u5,Β (Δ ⟨J,0,Γ⟩) (N+1) (N+1),γ (Δ ⟨E,0,Γ⟩),u8,u9,u10,u11,u12,u13,u14,u15,u16,u17,u18,u19,u20,u21,u22,u23,u24,.int ζ ((N:Int)+1),iv n,u27,u28,u29,u30,u31,u32,u33,u34,u35,u36,u37,u38,u39,u40,u41,u42,u43,u44,u45,u46,u47,u48,bx],defers:=ds }) (λa' _=>N+1-(intOf (a'.tmps.getD 26 ς)).toNat) ?_ ?_
 ·exact⟨0,_,_,_,_,_,_,_,_,_,_,_,_,_,_,_,_,_,_,_,_,_,_,_,_,_,_,_,_,_,_,_,_,_,_,_,_,_,_,_,_,_,_,_,[],by omega,c8.out,by simp[Bw],bu,Marks.nil _ _,rfl⟩
 ·rintro a' wr ⟨n,u3,u4,u5,u8,u9,u10,u11,u12,u13,u14,u15,u16,u17,u18,u19,u20,u21,u22,u23,u24,u27,u28,u29,u30,u31,u32,u33,u34,u35,u36,u37,u38,u39,u40,u41,u42,u43,u44,u45,u46,u47,u48,bx,ds,fp,hO,b0,I,hM,rfl⟩;have HM:=Α hM;clear c8 bu hM;by_cases fq:n<N+1
  ·have ea:(n:Int)<(N:Int)+1:=by omega
   have HO:=Α hO;obtain⟨vo,vs,aa,M,ab,ah⟩:=hO;obtain⟨gi,dc,dd⟩:=HL.out n (by omega);have k1:=Be (I.cell dc);have k2:=Be (I.cell (dd 0 c5));rw[dw.out n] at k2;obtain⟨ao,b7,rfl⟩:=Dr M;have k3:=Be aa.cell;obtain⟨q,hq⟩:∃ q,(Ca d.has n).length=q:=⟨_,rfl⟩;have b8:q=Bw d.has n:=by rw[<-hq,Ir]
   rw[hq] at k3;have de:=Α b8;rw[<-b8] at b0;obtain⟨ct,b9⟩:∃ c,A5 d.has n=c:=⟨_,rfl⟩;rw[b9] at k2;have cb:=Α b9;have HQ:=Α hq;have fs:IntKind.i64.wrap (4096-(q:Int))=4096-(q:Int):=by
    simp[IntKind.wrap,IntKind.signed,IntKind.bits];omega
   clear aa M ab ah dc dd b8 b9 hq;go_upto_region 8 with (fail)
   refine Dx (by kernel_rfl) (by kernel_rfl) ?_;iterate 10 (with_reducible refine í (λK hK=>?_);go_simp;(refine hK _ ?_;clear hK K))
   refine ö ?_;rintro _ ⟨e,rfl⟩;have df:=Α (HO.out.ext e.ext);have ar:=I.trans e.ext;have cd:=Α (HM.out.kp (B':=0) (Kp.of_ext e.ext));clear k1 k2 k3 HO HM I;generalize e.W=w6 at *;by_cases ft:4096-q<ct
   ·have ed:(4096:Int)-(q:Int)<((sat ct:Nat):Int):=by
     unfold sat;omega
    go_wp2;refine Ph (λW'=>Ext G W') (λW' l o o' h hB hl hc=>h.putObj (by rw[ak.out];exact hB) o') (λW' h=>⟨_,results_tmp2 rfl _ _ _,bt.out.trans h,.inr ⟨?_,rfl⟩⟩) ds w6 cd.out ar;have h1:=My d.has (show n+1<=N+1 by omega);rw[Xz,cb.out,<-de.out] at h1;omega
   ·have ed:¬ (4096:Int)-(q:Int)<((sat ct:Nat):Int):=by
     unfold sat;omega
    have ee:=Α (ar.heap dx.out);have f64:∀ W,Ϝ Η 64 #[.agg U,Β (Δ ⟨J,0,Γ⟩) (N+1) (N+1),.int ζ 0,iv n] W _:=λW=>Rk U J N 0 n W
    go_wp2_with (first
     | (refine Υ rfl 30 (η 2) rfl _ rfl _ _ _ _ ee.out Ν rfl bo ?_)
     | (go_at_call 64;(with_reducible refine (f64 w6).mono ?_);rintro e w7 ⟨Bd,Bl,Bs,Bn,rfl,dp,ax⟩))
    have ef:=c6.out n (by omega) 0 c5 w7 Bd Bl Bs Bn (ar.trans ax) dp;have dq:=Α (df.out.ext ax);have eg:=Α (ar.trans ax);have eh:=Α (cd.out.kp (B':=0) (Kp.of_ext ax));have fu:E<w7.heap.size:=by
     obtain⟨_,_,h,_⟩:=dq.out;exact h.lt
    obtain⟨ei,ej,ek,en,eo⟩:=info_parts Ai0;clear df ar cd dp ax f64 c6;refine (wpIn_wide (n:=3)).1 ?_;refine Ri (gf:=107) rfl (enters_of Tryz.func107 (by kernel_rfl) rfl) ef rfl
     (λpre W'=>OutI W' E E (Ca d.has n++pre)/\Ext G W'/\Kp G.heap.size w7 W')
     (λst T W2 h I=>⟨h.1.ext I,h.2.1.trans I,h.2.2.trans (Kp.of_ext I)⟩)
     (λst T l' o o' h hl ho hc=>⟨h.1.put o' ho hc,h.2.1.putObj (by rw[ak.out];omega) o',h.2.2.put_new hl o'⟩)
     ⟨by simpa using dq.out,eg.out,Kp.refl _ _⟩
     (λv=>{ tmps:=#[.agg U,iv N,γ (Δ ⟨w.heap.size,0,Γ⟩),u3,u4,u5,Β (Δ ⟨J,0,Γ⟩) (N+1) (N+1),γ (Δ ⟨E,0,Γ⟩),iv n,v,u10,u11,u12,u13,u14,u15,u16,u17,u18,u19,u20,u21,u22,u23,u24,.int ζ ((N:Int)+1),iv n,.bool Ξ,iv n,Β (Δ ⟨J,0,Γ⟩) (N+1) (N+1),iv n,γ (Δ ⟨J,n,Γ⟩),Β (Δ ⟨gi,0,Γ⟩) d.n.length d.n.length,γ (Δ ⟨gi,0,Γ⟩),iv (sat ct),Β ao q b7,.int ζ (q:Int),.int ζ (4096-(q:Int)),.bool Τ,.agg U,Β (Δ ⟨J,0,Γ⟩) (N+1) (N+1),iv n,.func (.func 107) #[] #[γ (Δ ⟨Bl,0,Γ⟩),γ (Δ ⟨Bn,0,Γ⟩),γ (Δ ⟨Bs,0,Γ⟩),γ (Δ ⟨Bd,0,Γ⟩)],v,u44,u45,u46,u47,u48,bx],defers:=[] }) ?assign ?body ?done
    case assign=>
     intro l' v T K hK
     gi_wp2
     exact hK
    case body=>
     rintro l' pre x v T ⟨⟨vo,vs,aa,M,ab,ah⟩,bg,ch⟩ cj er m;have et:(Ca d.has n++pre).length+1<=4096:=by
      have h1:=er.length_le;rw[Ο] at h1 ⊢;have h2:(Bp (λu=>d.ok (d.run 0 u)) n).length=ct:=cb.out;rw[h2] at h1;have h3:=HQ.out;simp at h1;omega
     obtain⟨av,cv,rfl⟩:=Dr cj;obtain⟨L,cl⟩:∃ L,(Ca d.has n++pre).length=L:=⟨_,rfl⟩;have cm:=Α cl;rw[cl] at M ab et ah;clear cl;have ga:E<=T.heap.size:=by have:=bg.size;rw[ak.out] at this;exact this
     have eu:=Dq M aa (by decide);have c7:=aa.cell;have ew:=Α ah;have ey:=Α cj;clear ah cj;have ez:=Α (λ(H:Κ) (bh:(T.alloc (Ε #[Β av x.length cv] 22)).grownBy H vo.ownBlock)=>show Boxed H E 38 vo from (bh.block E (ε aa.lt (by rw[Λ];omega)) (λe=>by
      rcases eu with h|h
      ·rw[h] at e;cases e
      ·exact h e.symm)).trans (aa.alloc _))
     refine wpIn_block ?_
     gi_wp2_with (gi_at_builtin;refine wpListIn_append_own _ rfl _ _ 38 rfl E 22 ei (Β Γ 0 0) 1 24 Tryz.underlying38 ej ek en eo rfl (by decide) _ _ _ rfl (M.alloc _) ⟨T.heap.size,0,Γ⟩ 1 1 [Β av x.length cv] rfl rfl (cell_one_new _ _ _) (by simp[Ρ.oneCell']) (by unfold maxLen;omega) (by omega) (by rw[Λ];omega) ?_;intro v' H bj bh _;obtain⟨g',e3,rfl⟩:=ownsRow_succ bj;have al:=ez.out H bh;have gb:=al.cell;have gd:=al.frozen)
     obtain⟨nv,dt⟩:∃ x,ϟ (Δ ⟨g',0,Γ⟩) (L+1) e3=x:=⟨_,rfl⟩;rw[dt] at bj;rw[dt];have e4:H.setCell ⟨E,0,Γ⟩ nv=H.setRow E #[nv]:=setCell_eq_setRow H E 0 #[vo] 38 (0,0) nv al;have e5:Boxed (H.setRow E #[nv]) E 38 nv:=setRow_heap H E _ _ _ _ al;have e6:(H.setRow E #[nv]).ownsRow E 22 1 nv (L+1) (vs++[Β av x.length cv]):=bj.kept (Bx H E _) (Dq bj al (by decide));have e7:Kp G.heap.size (T.alloc (Ε #[Β av x.length cv] 22)) H:=Kp.grown bh λk e=>by
      obtain⟨h1,cs,fr,h2⟩:=Aff (M.alloc (Ε #[Β av x.length cv] 22)) k e;exact⟨by rw[ak.out];exact h1,cs,fr,.inl h2⟩
     have e8:Kp G.heap.size H (H.setRow E #[nv]):=Kp.grown (Bx H E _) λk e=>by
      cases e
      exact⟨Nat.le_of_eq ak.out,_,_,.inr al⟩
     have ay:=((Kp.of_ext (B:=G.heap.size) ((Ι T).alloc (Ε #[Β av x.length cv] 22))).trans e7).trans e8;have cp:(Ca d.has n++(pre++[x])).length=L+1:=by rw[<-Ò,Ο,cm.out];rfl
     rw[e4];refine⟨ay,⟨nv,vs++[Β av x.length cv],e5,by rw[cp];exact e6,by rw[cp,Ο,ab];rfl,λi hi=>?_⟩,ay.ext bg (θ _),ch.trans ay⟩;rw[cp] at hi;rw[<-Ò];by_cases cq:i<L
     ·rw[Bt _ _ _ _ (by rw[ab];exact cq),Bt _ _ _ _ (by rw[cm.out];exact cq)];exact (ew.out i cq).kp ay
     ·obtain rfl:i=L:=by omega
      have e1:(vs++[ϟ av x.length cv]).getD i ς=Β av x.length cv:=by rw[<-ab];exact Cm _ _ _
      have e2:(Ca d.has n++pre++[x]).getD i []=x:=by rw[<-cm.out];exact Cm _ _ _
      rw[e1,e2];exact ey.out.kp ay
    case done=>
     rintro D T hD ⟨du,bg,ch⟩ dv;have fc:=eh.out.cons ch (by omega) hD dv;have fe:OutI T E E (Ca d.has (n+1)):=by rw[Ahr];exact du
     have ff:Bw d.has (n+1)<=4096:=by rw[Xz,cb.out,<-de.out];omega
     clear du dv;go_wp2;refine⟨⟨n+1,_,_,_,_,_,_,_,_,_,_,_,_,_,_,_,_,_,_,_,_,_,_,_,_,_,_,_,_,_,_,_,_,_,_,_,_,_,_,_,_,_,_,_,_,by omega,fe,ff,bg,fc,rfl⟩,?_⟩;simp[intOf];omega
  ·obtain rfl:n=N+1:=by omega
   obtain⟨vo,vs,aa,M,ab,ah⟩:=hO;obtain⟨ao,b7,rfl⟩:=Dr M;have c7:=aa.cell;have ea:¬ ((N:Int)+1<(N:Int)+1):=by omega
   have HI:=Α (ã (bt.out.trans I) (ã M (ã ab ah)));have fh:=Α b0;clear M ab ah b0;go_wp2;refine Ph (λW'=>Ext w W'/\W'.ownsRow E 22 1 (Β ao (Ca d.has (N+1)).length b7) (Ca d.has (N+1)).length vs/\vs.length=(Ca d.has (N+1)).length/\∀ i,i<(Ca d.has (N+1)).length->WordV W' (vs.getD i ς) ((Ca d.has (N+1)).getD i []))
    (λW' l o o' h hB hl hc=>⟨h.1.putObj (ψ bt.out.size (by rw[ak.out];exact hB)) o',ownsRow_putObj h.2.1 o' hl hc,h.2.2.1,λi hi=>(h.2.2.2 i hi).put o' hl hc⟩)
    (λW' h=>⟨_,results_tmp2 rfl _ _ _,h.1,.inl ⟨fh.out,_,rfl,vs,h.2.2.1,Ge h.2.1,h.2.2.2⟩⟩) ds wr HM.out HI.out
def E3 (c:Nat):Ending:=if c<=1099511627776 then ν (ϥ #[.int ζ c,.int ζ 0]) else ν (ϥ #[.int ζ 0,.int ζ 2])
theorem Mw (d:Dfa) (hv:Val d) (hn:d.n.length<=64) (N:Nat) (hN:N<=64) (v:Ρ) (w:Κ) (h:IsD w v d) :
  Ϝ Η 20 #[v,iv N] w λe w'=>e=E3 (A5 d.has N)/\Ext w w':=by
 have J:=Α h;obtain⟨ac,lc,cc,an,cn,aa,la,ca,rfl⟩:=h.agg;have f47:=λW (M:Ext w W)=>Α (Eg d hv hn _ W (J.out.ext M))
 have f62:=λW (M:Ext w W)=>Α (Xr d hv hn N hN _ W (J.out.ext M))
 have ah:=Α (show A3 d N 0=A5 d.has N from Ks hv N 0 hv.pos);have a7:=hv.pos;obtain⟨D,E⟩:∃ X,dA (Β ac lc cc) (Β an d.n.length cn) (Β aa la ca)=X:=⟨_,rfl⟩;have ai:(Η.info? 30).map (·.size)=Δ D.size:=by rw[<-E];exact Ad
 rw[E] at f47 f62 J;rw[E];have G:=(Ι w).alloc (Ε D 30);have T:=Ab w (Ε D 30);clear h E hv;go_enter Tryz.func20,Tryz.ntmps20;go_upto_region 1 with (fail)
 obtain⟨w1,U⟩:∃ W,w.alloc (Ε D 30)=W:=⟨_,rfl⟩;rw[U] at G T;simp only[U];clear U;have H:=Α T;clear T;have bb:¬ ((N:Int)<0):=by omega
 have bc:¬ ((64:Int)<(N:Int)):=by omega
 go_upto_region 3 with (first
  | (refine Υ rfl 30 (η 2) rfl _ rfl _ _ _ _ H.out Ν rfl ai ?_)
  | (go_at_call 47;(with_reducible refine (f47 _ G).out.mono ?_);rintro e w2 ⟨rfl,ab⟩;have ad:=G.trans ab;have H:=Α (ab.heap H.out)))
 go_upto_region 4 with (first
  | (refine Υ rfl 30 (η 2) rfl _ rfl _ _ _ _ H.out Ν rfl ai ?_)
  | (go_at_call 62;(with_reducible refine (f62 _ ad).out.mono ?_);rintro e w4 ⟨g,rfl,hC,a8⟩;obtain⟨gi,ba,ak⟩:=hC N (θ _);have al:=ak 0 a7;rw[ah.out] at al;have ao:=Α (ad.trans a8);clear hC ak))
 clear ba al ad ab G f47 f62;have hs:=Jy (A5 d.has N);obtain⟨c,hc⟩:∃ c,A5 d.has N=c:=⟨_,rfl⟩;rw[hc] at hs ⊢;have aq:=Α hc;clear hc ah;have af:c<=1099511627776->sat c=c:=λh=>by unfold sat;omega
 have ag:¬ c<=1099511627776->1099511627776<sat c:=λh=>by unfold sat;omega
 by_cases I:c<=1099511627776
 ·rw[af I];have ar:¬ ((1099511627776:Int)<(c:Int)):=by omega
  clear hs af ag;go_wp2;go_ret2;exact⟨by rw[aq.out];unfold E3;rw[if_pos I];rfl,ao.out⟩
 ·have ar:=ag I;clear af ag;generalize sat c=y at *;have bg:(1099511627776:Int)<(y:Int):=by omega
  clear ar;go_wp2;go_ret2;exact⟨by rw[aq.out];unfold E3;rw[if_neg I];rfl,ao.out⟩
theorem M5 (W:Κ) (l:List UInt8) (fr:Nat × Nat) (G:l.length<=1000000):By (W.alloc (Ε (l.map bv).toArray 5 fr)) (Β (Δ ⟨W.heap.size,0,Γ⟩) l.length l.length) l:=by
 refine⟨by omega,?_⟩;by_cases D:l.length=0
 ·exact .inl ⟨D,_,_,by rw[D]⟩
 ·refine .inr ⟨by omega,W.heap.size,0,l.length,rfl,by simp,λi hi=>?_⟩;rw[Nat.zero_add,Ω _ _ _ _ 5 fr (Ab W _)];have E:i<l.length:=by omega
  simp[Ζ,E]
theorem Uu (l:List UInt8) (D:l.length<=1000000) (fr:Nat × Nat) (W:Κ) (C:Array Ρ) (E:C=(l.map bv).toArray) (n:Nat) (hn:n=l.length) (c:Cls) (G:ofL l=c) :
  Ϝ Η 44 #[Β (Δ ⟨W.heap.size,0,Γ⟩) n n] (W.alloc (Ε C 5 fr)) λe w'=>e=ν (.agg (Aa c))/\Ext W w':=by
 subst E hn G;exact (Uv l _ _ (M5 W l fr D)).mono λe w' h=>⟨h.1,((Ι W).alloc _).trans h.2⟩
theorem Af2 (l:List UInt8):∀ (k:Nat),k<=l.length->∀ x:UInt8,(ofL (l.take k)).getLsbD x.toNat=Ξ↔x∈l.take k:=by
 intro k;induction k with
 | zero=>intro _ x;simp[ofL]
 | succ k E=>
  intro H x;have D:k<l.length:=by omega
  rw[Uw l k D,List.take_succ_eq_append_getElem D,List.mem_append,List.mem_singleton,<-E (by omega) x];have e:l.getD k 0=l[k]:=by rw[Ζ,Μ D];rfl
  rw[e];generalize l[k]=y;have I:=x.toNat_lt;have G:=y.toNat_lt;rw[Iz _ y.toNat x.toNat G,Æ,decide_eq_true_eq];constructor
  ·rintro (h|h)
   ·exact .inl h
   ·exact .inr (UInt8.toNat_inj.1 (by omega))
  ·rintro (h|rfl)
   ·exact .inl h
   ·exact .inr (by omega)
theorem O1 (l:List UInt8) (x:UInt8):(ofL l).getLsbD x.toNat=Ξ↔x∈l:=by
 have:=Af2 l l.length (θ _) x
 rwa [List.take_length] at this
def flR (D:List RNode):List Ρ:=D.flatMap λn=>(rnC n).toList
theorem Aju (D:List RNode) (i j:Nat) (hi:i<D.length) (H:j<9):(flR D)[i*9+j]? = (rnC (D.getD i ⟨0,0,0,0#256,0,0⟩)).toList[j]? := by
 induction D generalizing i with
 | nil=>simp at hi
 | cons x l E=>
  have e:flR (x::l)=(rnC x).toList++flR l:=rfl;have G:(rnC x).toList.length=9:=rfl;rw[e];cases i with
  | zero=>rw[List.getElem?_append_left (by omega)];simp
  | succ i=>
   rw[List.getElem?_append_right (by omega),G,show (i+1)*9+j-9=i*9+j by omega];exact E i (by simpa using hi)
theorem N5 {W:Κ} {g:Nat} {fr:Nat × Nat} {D:List RNode} (h:W.heap[g]? = Δ (Ε (flR D).toArray 64 fr)):RxAt W g 0 D:=λi hi j v E=>by
 have G:j<9:=(ό.1 E).1;rw[show 0+i*9+j=i*9+j by omega,Ω W g _ _ _ _ h,List.getElem?_toArray,Aju D i j hi G];exact E
theorem Ec {w':Κ} {A:Array Ρ} {d:Dfa} (E:IsD w' (.agg A) d):Ext w' ((w'.alloc (Ε #[Β Γ 0 0,Β Γ 0 0,Β Γ 0 0] 30)).setRow w'.heap.size A)/\
  ((w'.alloc (Ε #[Β Γ 0 0,Β Γ 0 0,Β Γ 0 0] 30)).setRow w'.heap.size A).heap[w'.heap.size]? = Δ (Ε A 30 (0,0))/\IsD ((w'.alloc (Ε #[Β Γ 0 0,Β Γ 0 0,Β Γ 0 0] 30)).setRow w'.heap.size A) (.agg A) d:=by
 have D:=((Ι w').alloc (Ε #[Β Γ 0 0,Β Γ 0 0,Β Γ 0 0] 30)).setRow (θ w'.heap.size) A;exact⟨D,setRow_heap _ _ _ _ _ _ (Ab w' _),E.ext D⟩
theorem Amx {L:List UInt8->Prop} (f:List UInt8->Nat × Nat) (n m:Nat) (E:∀ w w',f w=f w'->∀ u,L (w++u)↔L (w'++u)) (D:∀ w,(f w).1<n/\(f w).2<m) (I:n*m<=64):¬ Big L:=by
 rintro⟨U,J,G⟩;have hn:(U.map f).Nodup:=by
  rw[List.nodup_iff_pairwise_ne,List.pairwise_map];exact G.imp λ{u v} ⟨x,H⟩ e=>H (E u v e x)
 have:=Dy (U.map f) (box n m) hn λs hs=>by
  obtain⟨u,_,rfl⟩:=À.1 hs;exact K0 (D u).1 (D u).2
 rw[Ϗ,K1] at this;omega
theorem Acm {a:Dfa} {r:Option Dfa} (h:Jl a r) (ha:Fit a (λw=>w=[97,98]\/w=[97,98,99])):∃ d,r=Δ d/\Fit d (λw=>w=[98,97]\/w=[99,98,97]):=by
 have H:=Gu ha;obtain⟨x,E,I,h1,J⟩:=h;obtain rfl:=Gt E ha.1 I;have D:=J (Ado E.val (by omega) 4096 (Hq x.n.length) (λw=>Za _ _ (by simp)) (by rw[Zb];exact ψ (Nat.pow_le_pow_right (by omega) (ψ H (show 5<=12 by omega))) (by decide)));have e:∀ w:List UInt8,x.has w.reverse=Ξ↔w=[98,97]\/w=[99,98,97]:=λw=>by
  rw[ha.2];show (w.reverse=[97,98]\/w.reverse=[97,98,99])↔_;have G:∀ v:List UInt8,w.reverse=v↔w=v.reverse:=λv=>by
   constructor
   ·rintro rfl;simp
   ·rintro rfl;simp
  rw[G,G];rfl
 have D:=Pc D e;cases r with
 | some d=>exact⟨d,rfl,D.1,D.2.1⟩
 | none=>
  refine absurd (show Big (λw=>w=[98,97]\/w=[99,98,97]) from D) (Amx (λw=>((Cr [98,97]).run 0 w,(Cr [99,98,97]).run 0 w)) 4 5 (λw w' M u=>?_) (λw=>⟨?_,?_⟩) (by omega))
  ·injection M with T U
   rw[<-Fg [98,97] (w++u),<-Fg [98,97] (w'++u),<-Fg [99,98,97] (w++u),<-Fg [99,98,97] (w'++u)];unfold Tbl.has;rw[Ct,Ct,Ct,Ct,T,U]
  ·have:=(Ff [98,97]).run_lt w (Ff [98,97]).pos
   rwa [Es] at this
  ·have:=(Ff [99,98,97]).run_lt w (Ff [99,98,97]).pos
   rwa [Es] at this
end Go.Proofs.YtaiogolidlamiaaGreatDoor
