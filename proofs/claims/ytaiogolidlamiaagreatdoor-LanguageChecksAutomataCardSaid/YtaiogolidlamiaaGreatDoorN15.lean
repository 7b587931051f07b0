import Derived.Deep.Upon
import Derived.Test.YtaiogolidlamiaaGreatDoorN14
import Derived.Maps.AppendAt
import Derived.Lib.SlBytesConst
set_option linter.unusedVariables false
set_option linter.unusedSimpArgs false
open And renaming intro → ß
open Array renaming replicate_succ → ë, replicate_zero → ê
open Bool renaming true → Ξ, false → Τ, or_eq_true → Å, eq_iff_iff → ϯ
open Go renaming World → Λ, Value → Ν, Calls → ϓ, TypeId → Á, cell_of_row → γ, wpQuiet_step → è, wpQuiet_nil → û, undef → ς, wpList_load_row → Ο, wpList_store_row → Φ
open Go.Ending renaming returned → θ
open Go.IntKind renaming i64 → ε, u64 → π
open Go.Lib renaming hid → Α
open Go.Obj renaming cells → Ε
open Go.Operand renaming tmp → η
open Go.Proofs.Tryz renaming prog → Ζ, underlying22 → ϻ, underlying30 → Κ
open Go.Value renaming slice → Β, pointer → Ω, slice → Ϥ, tuple → ϙ
open Go.World renaming size_alloc → Ρ, ownsRow_nil → Ô
open List renaming getElem?_eq_some_iff → ϊ, length_map → ϋ, getD_eq_getElem?_getD → Η, getElem?_eq_getElem → Μ, mem_map → ϸ, map_cons → Æ, size_toArray → ð, length_cons → ϲ, append_toArray → ô, append_assoc → Ñ, setIfInBounds_toArray → Ι, set_cons_zero → Χ, set_cons_succ → Ψ, length_append → Υ, range → ι, mem_range → υ
open Nat renaming le_refl → ν, le_trans → ψ, lt_of_lt_of_le → δ
open Option renaming some → Δ, none → Γ
open Option.some renaming inj → ύ
open UInt8 renaming ofNat → χ
namespace Go.Proofs.YtaiogolidlamiaaGreatDoor
set_option maxRecDepth 100000
set_option maxHeartbeats 4000000
open Go.RowKit Go.Shelf
attribute [local go_sem] Oper.semAt_some
def WBox (W:Λ) (D E G I:Nat) (J:Array Ν) (M N s n:Nat):Prop:=
 W.heap[D]? = Δ (Ε J 30 (0,0))/\W.heap[E]? = Δ (Ε #[Β (Δ ⟨M,0,Γ⟩) (N+1) (N+1)] 27 (0,0))/\W.heap[G]? = Δ (Ε #[iv s] 3 (0,0))/\W.heap[I]? = Δ (Ε #[iv n] 3 (0,0))
theorem WBox.kp {B:Nat} {W W':Λ} {E G I J M N s n:Nat} {T:Array Ν} (h:WBox W E G I J T M N s n) (D:Kp B W W'):WBox W' E G I J T M N s n:=
 ⟨D.cells h.1 (by decide) (by decide),D.cells h.2.1 (by decide) (by decide),D.cells h.2.2.1 (by decide) (by decide),D.cells h.2.2.2 (by decide) (by decide)⟩
theorem WBox.ext {W W':Λ} {D E G I J N s n:Nat} {M:Array Ν} (h:WBox W D E G I M J N s n) (T:Ext W W'):WBox W' D E G I M J N s n:=h.kp (B:=0) (Kp.of_ext T)
theorem R5 (D:Array Ν) (E N s n:Nat) (W:Λ) :
  ϓ Ζ 64 #[.agg D,Β (Δ ⟨E,0,Γ⟩) (N+1) (N+1),iv s,iv n] W λe w'=>∃ J M T U,e=θ (.func (.func 107) #[] #[Ω (Δ ⟨M,0,Γ⟩),Ω (Δ ⟨U,0,Γ⟩),Ω (Δ ⟨T,0,Γ⟩),Ω (Δ ⟨J,0,Γ⟩)])/\
   WBox w' J M T U D E N s n/\Ext W w':=by
 have h0:=Aa W (Ε D 30);have h1:=Aa (W.alloc (Ε D 30)) (Ε #[Β (Δ ⟨E,0,Γ⟩) (N+1) (N+1)] 27);have h2:=Aa ((W.alloc (Ε D 30)).alloc (Ε #[Β (Δ ⟨E,0,Γ⟩) (N+1) (N+1)] 27)) (Ε #[iv s] 3);have G:=Aa (((W.alloc (Ε D 30)).alloc (Ε #[Β (Δ ⟨E,0,Γ⟩) (N+1) (N+1)] 27)).alloc (Ε #[iv s] 3)) (Ε #[iv n] 3);have k0:=Ag (Ag (Ag h0 (Ε #[Β (Δ ⟨E,0,Γ⟩) (N+1) (N+1)] 27)) (Ε #[iv s] 3)) (Ε #[iv n] 3);have k1:=Ag (Ag h1 (Ε #[iv s] 3)) (Ε #[iv n] 3);have I:=Ag h2 (Ε #[iv n] 3);simp only[Ρ] at k1 I G;have hB:=Α (ß k0 (ß k1 (ß I G)));clear h0 h1 h2 G k0 k1 I;go_enter Tryz.func64,Tryz.ntmps64;go_wp2;go_ret;exact⟨_,_,_,_,rfl,hB.out,(((Θ W).alloc _).alloc _).alloc _ |>.alloc _⟩
theorem Anu (W:Λ) (b:UInt8) (v:Ν) (x:List UInt8) (hv:By W v x) (J:x.length<=64) (ty:Á) :
  ∃ v' W',(Builtin.append_ #[22,22] ty #[Β (Δ ⟨W.heap.size,0,Γ⟩) 1 1,v]).run Ζ (W.alloc (Ε #[bv b] 5))=.ok v' W'/\WordV W' v' (b::x)/\Ext W W':=by
 obtain⟨G,M,ab,ad,ae⟩:=info_parts (show (Ζ.info? 5).map (λi=>(i.zero,i.size,i.bytes))=Δ (Δ (.int .u8 0),1,1) by kernel_rfl);have T:(W.alloc (Ε #[bv b] 5)).ownsRow W.heap.size 5 1 (Β (Δ ⟨W.heap.size,0,Γ⟩) 1 1) 1 [bv b]:=Λ.ownsRow_lit (base:=W.heap.size) (e:=5) (size:=1) W #[bv b] 1 (ν _) (by unfold maxLen;omega) rfl;have I:=(Θ W).alloc (Ε #[bv b] 5);cases x with
 | nil=>
  obtain⟨a,D,rfl⟩:=hv.len;have hs:Src Ζ G.size 22 (Β a 0 D) 0 [] (W.alloc (Ε #[bv b] 5)):=by
   cases a with
   | none=>exact Src.ofNil _ ϻ D
   | some p=>exact Src.ofSlice _ ϻ p 0 D [] (by simp) (λj u h=>by simp at h) (λu h=>by cases h)
  exact⟨_,_,run_append_nothing _ 22 22 ty 5 G ϻ M _ 1 1 (ν _) _ hs,Gh T,I⟩
 | cons y x=>
  obtain⟨p,E,D,rfl,hc⟩:=Û hv (by simp);have ag:∀ j u,((y::x).map bv)[j]? = Δ u->(W.alloc (Ε #[bv b] 5)).cell? ((⟨p,E,Γ⟩:Addr).add j)=Δ u:=λj u hj=>by
   obtain⟨ai,aj⟩:=ϊ.1 hj;have ak:j<(y::x).length:=by rwa [ϋ] at ai
   have e:(⟨p,E,Γ⟩:Addr).add j=⟨p,E+j,Γ⟩:=by
    unfold Addr.add;by_cases U:j=0
    ·subst U;rfl
    ·simp[U]
   rw[e,I.cell (hc j (by omega)),<-aj,List.getElem_map,Η,Μ ak];rfl
  obtain⟨g,c,W',hr,h2,h3,h4,h5⟩:=run_append_lies (P:=Ζ) (w:=W.alloc (Ε #[bv b] 5)) 22 ty W.heap.size 5 G (.int .u8 0) 1 1 ϻ M ab ad ae rfl (by decide) _ 1 [bv b] T ⟨p,E,Γ⟩ (y::x).length D ((y::x).map bv) (by simp) ag
   (λu hu=>by obtain⟨b',_,rfl⟩:=ϸ.1 hu;rfl) (by simp) (by simp at J ⊢;unfold maxLen;omega) (by simp at J ⊢;omega) (by rw[Ρ];omega) _ rfl
  refine⟨_,W',hr,Gh (base:=W.heap.size) ?_,I.grown h3 (λk e=>by have:W.heap.size=k:=ύ e;omega)⟩;have:1+(y::x).length=(b::y::x).length:=by simp;omega
  rw[this] at h2 ⊢;exact h2
theorem Ak4 {P:Program} {o:Oper} {a:Act} {W W':Λ} (s x:Operand) (t:Á) (D:o.op=.call { callee:=.builtin .append,args:=#[s,x],argTypes:=#[t,t] }) (v u:Ν) (hs:a.eval s=v) (E:a.eval x=u) {v':Ν}
  (G:(Builtin.append_ #[t,t] o.type #[v,u]).run P W=.ok v' W'):(execOp a.eval o).run P W=.ok (.value v') W':=by
 unfold execOp;simp only[D,resolve,invoke,builtin,Sem.run_bind,Sem.run_pure,Result.andThen_ok,List.map_toArray,Æ,List.map_nil,hs,E,G]
theorem Aj1 (L:List UInt8->Bool) (n:Nat) {k k':Nat} (h:k<=k'):Dm L n k <+: Dm L n k':=by
 induction k' with
 | zero=>rw[Nat.le_zero.1 h];exact List.prefix_rfl
 | succ m D=>
  rcases Nat.lt_or_ge k (m+1) with E|E
  ·rw[I8];exact (D (by omega)).trans (List.prefix_append _ _)
  ·rw[show k=m+1 by omega];exact List.prefix_rfl
theorem Aai (d:Dfa) (hv:Val d) (hn:d.n.length<=64) (N gl bc oc cc bn on cn:Nat) (va:Ν) (hN:N<=64) (w0:Λ) (hC:Cs w0 (Β (Δ ⟨bc,oc,Γ⟩) d.cls.length cc) d.cls) (U:RowsAt w0 bn on d.n.length d.cls.length d.ent2) (hL:Rs w0 gl d N) :
  ∀ n,n<=N->∀ s,s<d.n.length->∀ (w:Λ) (M Bl Bs Bn:Nat),Ext w0 w->WBox w M Bl Bs Bn (dA (Β (Δ ⟨bc,oc,Γ⟩) d.cls.length cc) (Β (Δ ⟨bn,on,Γ⟩) d.n.length cn) va) gl N s n->
   Zu w0.heap.size Ζ 107 #[Ω (Δ ⟨Bl,0,Γ⟩),Ω (Δ ⟨Bn,0,Γ⟩),Ω (Δ ⟨Bs,0,Γ⟩),Ω (Δ ⟨M,0,Γ⟩)] (Bo (λu=>d.ok (d.run s u)) n) w:=by
 have HC:=Α (λ(W:Λ) (hW:Ext w0 W)=>hC.ext hW);have HR:=Α (λ(W:Λ) (hW:Ext w0 W)=>U.ext hW);have HL:=Α hL;have HV:=Α hv;have h4:=hv.pos;have h5:=hv.parts.pos;have h6:=hv.parts.le;clear hC U hL hv;obtain⟨Vd,b4⟩:∃ X,dA (Β (Δ ⟨bc,oc,Γ⟩) d.cls.length cc) (Β (Δ ⟨bn,on,Γ⟩) d.n.length cn) va=X:=⟨_,rfl⟩;rw[b4];have b5:=Α b4;clear b4;intro n;induction n using Nat.strongRecOn with
 | _ n ih=>
  intro fh s hs w M Bl Bs Bn c3 hB l J W b6 b7 c4 hY h0 k;have HB:=Α (hB.ext b6);have da:=c3.trans b6;obtain⟨gi,db,dc⟩:=HL.out n fh;have aw:=da.alloc (Ε #[.func (.yield l) #[] #[]] 159);have be:=(Θ W).alloc (Ε #[.func (.yield l) #[] #[]] 159);have I:=Aa W (Ε #[.func (.yield l) #[] #[]] 159);have bf:=Α (HB.out.ext be);obtain⟨q0,q1,q2,q3⟩:=bf.out;have k1:=Be ((γ _ Bl 0 _ _ _ q1).trans rfl);have k2:=Be ((γ _ Bn 0 _ _ _ q3).trans rfl);have k3:=Be ((γ _ Bs 0 _ _ _ q2).trans rfl);have k4:=Be (aw.cell db);have k5:=Be (aw.cell (dc s hs));have I:=Α I;have b9:Hid (A4 d n s=Ba (λu=>d.ok (d.run s u)) n):=Α (K2 HV.out n s hs);have h8:(n:Int)<(N:Int)+1:=by omega
  clear q0 q1 q2 q3 db dc;refine callsIn_of_wp_marks Tryz.func107 rfl trivial ?_ rfl;refine wpIn_wide.2 ?_;simp only[Tryz.ntmps107,ð,ϲ,List.length_nil,Nat.reduceAdd,Nat.reduceSub,ë,ê,List.push_toArray,ô,List.nil_append,List.cons_append];go_upto_region 1 with (fail)
  obtain⟨w1,ca⟩:∃ X,W.alloc (Ε #[.func (.yield l) #[] #[]] 159)=X:=⟨_,rfl⟩;rw[ca] at k1 k2 k3 k4 k5 aw be bf I;simp only[ca];clear ca;obtain⟨g5,cb⟩:∃ x,W.heap.size=x:=⟨_,rfl⟩;rw[cb] at I;rw[cb];have de:g5<w1.heap.size:=An I.out;clear cb;obtain⟨ct,df⟩:∃ c,A4 d n s=c:=⟨_,rfl⟩;rw[df] at k5 b9;clear df;refine Dx (by kernel_rfl) (by kernel_rfl) ?_;iterate 8 (with_reducible refine è (λK E=>?_);go_simp;(refine E _ ?_;clear E K))
  refine û ?_;rintro _ ⟨e,rfl⟩;have ay:=e.ext;have dg:=aw.trans ay;have ab:=be.trans ay;have dh:=Α (ay.heap I.out);have dk:=Α (bf.out.ext ay);clear k1 k3 k4 k5;generalize e.W=w2 at *;have af:=Α (b7 _ _ _ h0 ab);have dm:=Α hY;have bg:=Α b7;have dn:=Α c4;have dp:=Α ih;have fj:=Α dg;have fk:=Α ab;have h9:=Α de;clear hY b7 c4 ih h0 c3 hB b6 HB da aw be I bf ay dg ab de;by_cases hz:ct=0
  ·have dq:((sat ct:Nat):Int)=0:=by rw[hz];rfl
   have fl:(((sat ct:Nat):Int)==0)=Ξ:=by rw[dq];rfl
   have fm:Hid (Ba (λu=>d.ok (d.run s u)) n=0):=Α (by rw[<-b9.out];exact hz);clear hz dq;go_wp2;refine⟨_,results_none rfl _ _ _,⟨_,rfl⟩,?_⟩;rw[Aad fm.out];exact af.out
  ·have fl:(((sat ct:Nat):Int)==0)=Τ:=by
    have:sat ct≠0:=by unfold sat;omega
    simp;omega
   obtain⟨q0,q1,q2,q3⟩:=dk.out;have c2:=(γ _ Bn 0 _ _ _ q3).trans rfl;clear q0 q1 q2 q3;rcases n with _|n
   ·have cf:Bo (λu=>d.ok (d.run s u)) 0=[[]]:=by
     have h1:(Bo (λu=>d.ok (d.run s u)) 0).length≠0:=λh=>hz (b9.out.trans h)
     have h2:∀ y,y∈Bo (λu=>d.ok (d.run s u)) 0->y=[]:=λy hy=>List.eq_nil_of_length_eq_zero ((Ga 0 _ y).1 hy).1
     unfold Bo at h1 h2 ⊢;split at h1
     ·rename_i h;rw[if_pos h]
     ·exact absurd rfl h1
    obtain⟨fn,tm,fs,bo,hy,U⟩:=dm.out 2 [] [] (Β Γ 0 0) w2 af.out (Ô _ _ _ _) (by rw[cf];exact List.prefix_rfl);have fu:=Α U;have c5:=(γ w2 g5 0 _ _ _ dh.out).trans (show (#[Ν.func (.yield l) #[] #[]]:Array Ν)[0]? = Δ (.func (.yield l) #[] #[]) from rfl);have fv:=Α cf;clear U cf;go_upto_region 3 with (fail)
    refine (wpIn_wide (n:=3)).1 ?_
    gi_wp2
    refine RoundIn.mono fu.out ?_;rintro e W3 ⟨rfl,a6,ag⟩;have fx:=Α a6;clear hy a6 ag c5
    gi_wp2
    go_wp2;refine⟨_,results_none rfl _ _ _,⟨_,rfl⟩,?_⟩;rw[fv.out];exact fx.out
   ·have ia:(((n+1:Nat):Int)==0)=Τ:=by simp;omega
    go_upto_region 3 with (fail)
    clear k2 c2;refine wp_loop (λa' w'=>∃ (b:Nat) (u6 u7 u8 u9 u10 u11 u12 u13 u14 u15 u16 u17 u18 u19 u20 u22 u23 u24 u25 u26 u27 u28 u29 u30 u31 u32 u33 u34 u35 u36 u37 u38 u39 u40 u41 u42 u43 u44 u45 u46 u47 u48 u49 u50 cg:Ν) (ds:List Deferred),b<=256/\J (Dm (λu=>d.ok (d.run s u)) n b) w'/\Kp w0.heap.size w2 w'/\Marks W.heap.size w' ds/\
      a'={ tmps:=#[.func (.yield l) #[] #[],Ω (Δ ⟨Bl,0,Γ⟩),Ω (Δ ⟨Bn,0,Γ⟩),Ω (Δ ⟨Bs,0,Γ⟩),Ω (Δ ⟨M,0,Γ⟩),Ω (Δ ⟨g5,0,Γ⟩),u6,u7,u8,u9,u10,u11,u12,u13,u14,u15,u16,u17,u18,u19,u20,iv b,u22,u23,u24,u25,u26,u27,u28,u29,u30,u31,u32,u33,u34,u35,u36,u37,u38,u39,u40,u41,u42,u43,u44,u45,u46,u47,u48,u49,u50,cg],defers:=ds }) (λa' _=>256-(intOf (a'.tmps.getD 21 ς)).toNat) ?_ ?_
    ·exact⟨0,_,_,_,_,_,_,_,_,_,_,_,_,_,_,_,_,_,_,_,_,_,_,_,_,_,_,_,_,_,_,_,_,_,_,_,_,_,_,_,_,_,_,_,_,_,[],by omega,af.out,Kp.refl _ _,Marks.nil _ _,rfl⟩
    ·rintro a' wr ⟨b,u6,u7,u8,u9,u10,u11,u12,u13,u14,u15,u16,u17,u18,u19,u20,u22,u23,u24,u25,u26,u27,u28,u29,u30,u31,u32,u33,u34,u35,u36,u37,u38,u39,u40,u41,u42,u43,u44,u45,u46,u47,u48,u49,u50,cg,ds,hb,hJ,E,hM,rfl⟩;clear af;by_cases an:b<256
     ·have dt:=E.ext fj.out (ν _);have du:=Α (dk.out.kp E);have dv:=Α (E.cells dh.out (by decide) (by decide));have ao:=(Θ wr).alloc (Ε #[iv b] 3);have a7:=Aa wr (Ε #[iv b] 3);have HJ:=Α hJ;have HM:=Α hM;have HK:=Α E;have ic:(b:Int)<256:=by omega
      have ea:IntKind.u8.wrap (b:Int)=(b:Int):=by
       simp[IntKind.wrap,IntKind.signed,IntKind.bits];omega
      clear hJ hM E;go_upto_region 7 with (fail)
      obtain⟨w4,ck⟩:∃ X,wr.alloc (Ε #[iv b] 3)=X:=⟨_,rfl⟩;rw[ck] at ao a7;simp only[ck];clear ck;obtain⟨gb,bl⟩:∃ x,wr.heap.size=x:=⟨_,rfl⟩;rw[bl] at a7;rw[bl];have fy:=Α bl;clear bl;have ec:=Α a7;have cl:=Α (du.out.ext ao);have ed:=Α (ao.heap dv.out);have ab:=dt.trans ao;obtain⟨br,or',cr,ef,eg⟩:=(HR.out w4 ab) s hs;have r1:=Be ef;have hk:=cell_lt HV.out.parts an;have r2:=Be (eg _ hk);obtain⟨q0,q1,q2,q3⟩:=cl.out;have ga:=Be ((γ _ M 0 _ _ _ q0).trans (show Vd[0]? = Δ (Β (Δ ⟨bc,oc,Γ⟩) d.cls.length cc) by rw[<-b5.out];rfl));have gd:=Be ((γ _ M 1 _ _ _ q0).trans (show Vd[1]? = Δ (Β (Δ ⟨bn,on,Γ⟩) d.n.length cn) by rw[<-b5.out];rfl));have ks:=Be ((γ _ Bs 0 _ _ _ q2).trans (show (#[iv s]:Array Ν)[0]? = Δ (iv s) from rfl));have kb:=Be ((γ _ gb 0 _ _ _ a7).trans (show (#[iv b]:Array Ν)[0]? = Δ (iv b) from rfl));have f95:=λ(e:EW w4)=>Α (Wl d.cls _ (b:Int) (by omega) (by omega) e.W (HC.out _ (ab.trans e.ext)))
      rw[Wo HV.out.parts an] at f95;obtain⟨kc,cp⟩:∃ x,Ak d.cls b=x:=⟨_,rfl⟩;have ei:Hid (d.ent2 s kc=d.stp s b):=Α (by rw[<-cp];rfl);rw[cp] at hk r2 f95;rw[ei.out] at r2;obtain⟨T,bp⟩:∃ x,d.stp s b=x:=⟨_,rfl⟩;have gj:T<d.n.length:=by rw[<-bp];exact HV.out.stp_lt hs an
      rw[bp] at r2;have ej:=Α bp;clear cp bp q0 q1 q2 q3 ef eg a7 ei;refine Dx (by kernel_rfl) (by kernel_rfl) ?_;iterate 13 (with_reducible refine è (λK E=>?_);go_simp;first|(refine E _ ?_;clear E K)|(apply Exists.intro;refine⟨λ_=>?_,E _ ?_⟩;(with_reducible exact F7 (f95 _).out);clear E K))
      refine û ?_;rintro _ ⟨e,rfl⟩;have bq:=ao.trans e.ext;have gk:=ab.trans e.ext;have ek:=Α (cl.out.ext e.ext);have I:=Α (e.ext.heap ed.out);have en:=Α (e.ext.heap ec.out);have eo:=Α (bg.out _ _ _ HJ.out bq);have ep:=Α (HM.out.kp (B':=0) (Kp.of_ext bq));have er:=Α (HK.out.trans (Kp.of_ext bq));clear r1 r2 ga gd ks kb f95 ao ab cl ed ec HJ HM HK du dv fy bq ea dt;generalize e.W=w5 at *;obtain⟨q0,q1,q2,q3⟩:=ek.out;have et:=Α q0;have gp:=(γ _ Bl 0 _ _ _ q1).trans (show (#[Ϥ (Δ ⟨gl,0,Γ⟩) (N+1) (N+1)]:Array Ν)[0]? = Δ (Β (Δ ⟨gl,0,Γ⟩) (N+1) (N+1)) from rfl);have gq:=(γ _ Bn 0 _ _ _ q3).trans (show (#[iv (n+1)]:Array Ν)[0]? = Δ (iv (n+1)) from rfl);have eu:(Ζ.info? 30).map (·.size)=Δ Vd.size:=by rw[<-b5.out];exact Ad
      clear q0 q1 q2 q3;go_wp2_with (first
       | (refine Ο rfl 30 (η 4) rfl _ rfl _ _ _ _ et.out Κ rfl eu ?_)
       | (go_at_call 64;(with_reducible refine (R5 Vd gl N T n w5).mono ?_);rintro e w6 ⟨ev,ew,ey,ez,rfl,e0,aq⟩))
      clear gp gq eu et ek;have gr:=dp.out n (by omega) (by omega) T gj w6 ev ew ey ez (gk.trans aq) e0;have gu:=Α (aq.heap I.out);have gv:=Α (aq.heap en.out);have gw:=Α (bg.out _ _ _ eo.out aq);have gx:=Α (ep.out.kp (B':=0) (Kp.of_ext aq));have e1:=Α (er.out.trans (Kp.of_ext aq));have e2:W.heap.size<=w6.heap.size:=ψ fk.out.size e1.out.size;clear I en eo ep er e0 dp;refine (wpIn_wide (n:=3)).1 ?_;refine Rz (gf:=107) rfl (enters_of Tryz.func107 (by kernel_rfl) rfl) gr rfl
       (λpre W'=>J (Dm (λu=>d.ok (d.run s u)) n b++pre.map (χ b::·)) W'/\Kp w0.heap.size w6 W')
       (λst G W2 h hE=>⟨bg.out _ _ _ h.1 hE,h.2.trans (Kp.of_ext hE)⟩)
       (λst G l' o o' h hl ho hc=>⟨dn.out _ G l' o o' h.1 (ψ e2 hl) ho hc,h.2.put_new hl o'⟩)
       ⟨by simpa using gw.out,Kp.refl _ _⟩
       (λv=>{ tmps:=#[.func (.yield l) #[] #[],Ω (Δ ⟨Bl,0,Γ⟩),Ω (Δ ⟨Bn,0,Γ⟩),Ω (Δ ⟨Bs,0,Γ⟩),Ω (Δ ⟨M,0,Γ⟩),Ω (Δ ⟨g5,0,Γ⟩),Ω (Δ ⟨gb,0,Γ⟩),iv T,v,u9,u10,u11,u12,u13,u14,u15,u16,u17,u18,u19,u20,iv b,.bool Ξ,iv b,Ω (Δ ⟨M,1,Γ⟩),Β (Δ ⟨bn,on,Γ⟩) d.n.length cn,iv s,Ω (Δ ⟨bn,on+s,Γ⟩),Β (Δ ⟨br,or',Γ⟩) d.cls.length cr,Ω (Δ ⟨M,0,Γ⟩),Β (Δ ⟨bc,oc,Γ⟩) d.cls.length cc,iv b,.int .u8 (b:Int),.int ε (kc:Int),Ω (Δ ⟨br,or'+kc,Γ⟩),iv T,.agg Vd,Β (Δ ⟨gl,0,Γ⟩) (N+1) (N+1),iv T,iv (n+1),.int ε (n:Int),.func (.func 107) #[] #[Ω (Δ ⟨ew,0,Γ⟩),Ω (Δ ⟨ez,0,Γ⟩),Ω (Δ ⟨ey,0,Γ⟩),Ω (Δ ⟨ev,0,Γ⟩)],v,u43,u44,u45,u46,u47,u48,u49,u50,cg],defers:=[] }) ?assign ?body ?done
      case assign=>
       intro l' v G K E
       gi_wp2
       exact E
      case body=>
       rintro l' pre x v G ⟨a8,ah⟩ e4 e5 m;have bx:=Α (ah.cells gu.out (by decide) (by decide));have bz:=Α (ah.cells gv.out (by decide) (by decide));have gz:=Α a8;have hf:=Α e4;have hh:=Α ah;clear a8 ah e4;refine wpIn_block (wpIn_seq ?_);have ea:IntKind.u8.wrap (b:Int)=((χ b).toNat:Int):=by
        rw[u8n b an];simp[IntKind.wrap,IntKind.signed,IntKind.bits];omega
       have hj:x.length<=64:=by
        have h1:x∈Bo (λu=>d.ok (d.run T u)) n:=e5.subset (by simp);have:=((Ga n _ x).1 h1).1;omega
       obtain⟨v2,W2,e6,e7,ai⟩:=Anu G.drew (χ b) v x ((hf.out.ext (Θ G).drew).by (by omega)) hj 22;have e8:(Dm (λu=>d.ok (d.run s u)) n b++pre.map (χ b::·))++[χ b::x] <+: Bo (λu=>d.ok (d.run s u)) (n+1):=by
        have e:(λw=>d.ok (d.run s (χ b::w)))=λu=>d.ok (d.run T u):=by
         funext u
         show d.ok (d.run (d.stp s (χ b).toNat) u)=_;rw[u8n b an,ej.out]
        refine List.IsPrefix.trans ?_ (Aj1 (λu=>d.ok (d.run s u)) n (show b+1<=256 by omega));rw[I8,e,Ñ];refine (List.prefix_append_right_inj _).2 ?_;rw[show pre.map (χ b::·)++[χ b::x]=(pre++[x]).map (χ b::·) by simp];exact e5.map _
       have af:=bg.out _ _ _ gz.out ((Θ G).drew.trans ai);obtain⟨fn,tm,fs,bo,hy,U⟩:=dm.out (m-1) _ _ v2 W2 af e7 e8;have cw:Kp w0.heap.size G W2:=Kp.of_ext ((Θ G).drew.trans ai);refine Aab 7 [(0,Ξ),(1,Ξ),(2,Ξ),(4,Ξ),(3,Τ),(5,Τ),(6,Τ),(7,Τ)] (λ_=>trivial) (by kernel_rfl) (by kernel_rfl) (by kernel_rfl) (λ_ _ _ _ h=>h) (λX=>X.heap[g5]? = Δ (Ε #[.func (.yield l) #[] #[]] 159 (0,0))/\X.heap[gb]? = Δ (Ε #[iv b] 3 (0,0))) ⟨bx.out,bz.out⟩ ?_;iterate 4
        refine Abk (v:=?_) rfl rfl (λX hX=>?_) ?_
        rotate_left
        ·obtain⟨x5,x6⟩:=hX;have c5:=(γ X g5 0 _ _ _ x5).trans (show (#[Ν.func (.yield l) #[] #[]]:Array Ν)[0]? = Δ (.func (.yield l) #[] #[]) from rfl);have c6:=(γ X gb 0 _ _ _ x6).trans (show (#[iv b]:Array Ν)[0]? = Δ (iv b) from rfl);clear x5 x6;go_simp;first|done|with_reducible rfl
        simp only[Act.put,Ι,Χ,Ψ]
       refine Lv (λ_=>trivial) rfl (λc h=>by cases h) (λK E=>?_);go_simp;refine E _ _ (λ_=>⟨Ag bx.out _,Ag bz.out _⟩) ?_;clear E K;refine Lv (λ_=>trivial) rfl (λc h=>by cases h) (λK E=>?_);refine (if_pos (by rfl)).mpr ?_;rw[Ak4 _ _ 22 rfl _ _ rfl rfl e6];refine E _ _ (λ_=>⟨ai.heap bx.out,ai.heap bz.out⟩) ?_;clear E K;simp only[Act.put,Ι,Χ,Ψ];refine Lv (λ_=>trivial) rfl (λc h=>by cases h) (λK E=>?_);go_simp;refine⟨λh=>(by cases h),RoundIn.mono (show RoundIn (Fence.wide.inRound l') _ _ _ _ _ _ _ _ _ from U) ?_⟩;rintro e W3 ⟨rfl,a6,ag⟩;refine E _ _ (λ_=>⟨ag.cells (ai.heap bx.out) (by decide) (by decide),ag.cells (ai.heap bz.out) (by decide) (by decide)⟩) ?_;clear E K hy;refine Lv (λ_=>trivial) rfl (λc h=>by cases h) (λK E=>?_);go_simp;refine E _ _ (λh=>absurd h (by omega)) ?_;clear E K;refine Abl ?_;have HF:=Α (ß (cw.trans ag) (ß a6 (hh.out.trans (cw.trans ag))));clear a6 ag U e6 af e7 ai cw e8
       gi_wp2
       refine⟨HF.out.1,?_,HF.out.2.2⟩;rw[List.map_append,Æ,List.map_nil,<-Ñ];exact HF.out.2.1
      case done=>
       rintro D G hD ⟨a8,ah⟩ fc;have hr:=e1.out.trans ah;have ht:=gx.out.cons ah (ψ e2 hD) hD fc;have hx:J (Dm (λu=>d.ok (d.run s u)) n (b+1)) G:=by
        rw[I8];have e:(λw=>d.ok (d.run s (χ b::w)))=λu=>d.ok (d.run T u):=by
         funext u
         show d.ok (d.run (d.stp s (χ b).toNat) u)=_;rw[u8n b an,ej.out]
        rw[e];exact a8
       clear a8 fc;go_wp2;refine⟨⟨b+1,_,_,_,_,_,_,_,_,_,_,_,_,_,_,_,_,_,_,_,_,_,_,_,_,_,_,_,_,_,_,_,_,_,_,_,_,_,_,_,_,_,_,_,_,_,_,by omega,hx,hr,ht,rfl⟩,?_⟩;simp[intOf];omega
     ·obtain rfl:b=256:=by omega
      go_wp2;exact Py (λW'=>J (Dm (λu=>d.ok (d.run s u)) n 256) W') (λW' l o o' h hB hl hc=>dn.out _ W' l o o' h hB hl hc) (λW' h=>⟨_,results_none rfl _ _ _,⟨_,rfl⟩,h⟩) ds wr hM hJ
attribute [local go_sem] Oper.semAt_some
def Wrds (W:Λ) (v:Ν) (l:List (List UInt8)):Prop:=∃ vs:List Ν,vs.length=l.length/\W.ownsRow 0 22 1 v l.length vs/\∀ i,i<l.length->WordV W (vs.getD i ς) (l.getD i [])
theorem Wrds.ext {W W':Λ} {v:Ν} {l:List (List UInt8)} (h:Wrds W v l) (D:Ext W W'):Wrds W' v l:=by
 obtain⟨vs,E,G,I⟩:=h;exact⟨vs,E,Ah G D,λi hi=>(I i hi).ext D⟩
theorem WordV.put {W:Λ} {v:Ν} {x:List UInt8} (h:WordV W v x) {l:Nat} {o:Obj} (D:Obj) (E:W.heap[l]? = Δ o) (G:o.isCells=Τ):WordV (W.putObj l D) v x:=ownsRow_putObj h D E G
theorem Kp.grown {B:Nat} {W W':Λ} {row:Option Nat} (hg:W.grownBy W' row) (I:∀ k,row=Δ k->B<=k/\∃ cs fr,W.heap[k]? = Δ (Ε cs 22 fr)\/W.heap[k]? = Δ (Ε cs 38 fr)):Kp B W W':=
 ⟨hg.os,hg.tape,hg.output,hg.size,λk o G E=>by
  have J:k<W.heap.size:=(Array.getElem?_eq_some_iff.1 G).1;refine (hg.block k J λe=>?_).trans G;obtain⟨M,cs,fr,D⟩:=I k e.symm;rcases E with E|E
  ·omega
  ·rcases D with D|D
   ·rw[G] at D;injection D with D;exact (E cs fr).1 D
   ·rw[G] at D;injection D with D;exact (E cs fr).2 D⟩
theorem Afx {W:Λ} {base e size:Nat} {v:Ν} {n:Nat} {xs:List Ν} (h:W.ownsRow base e size v n xs) (k:Nat) (D:v.ownBlock=Δ k):base<=k/\∃ cs fr,W.heap[k]? = Δ (Ε cs e fr):=by
 obtain⟨_,⟨rfl,_⟩|⟨g,G,cur,rfl,E,hg,_⟩⟩:=h
 ·cases D
 ·have:g=k:=ύ D;subst this;exact⟨E,_,_,hg⟩
def OutI (W:Λ) (B D:Nat) (l:List (List UInt8)):Prop:=∃ v vs,Boxed W D 38 v/\W.ownsRow B 22 1 v l.length vs/\vs.length=l.length/\∀ i,i<l.length->WordV W (vs.getD i ς) (l.getD i [])
theorem OutI.ext {W W':Λ} {B E:Nat} {l:List (List UInt8)} (h:OutI W B E l) (D:Ext W W'):OutI W' B E l:=by
 obtain⟨v,vs,G,I,J,M⟩:=h;exact⟨v,vs,D.heap G,Ah I D,J,λi hi=>(M i hi).ext D⟩
theorem OutI.put {W:Λ} {B I:Nat} {l:List (List UInt8)} (h:OutI W B I l) {k:Nat} {o:Obj} (D:Obj) (E:W.heap[k]? = Δ o) (G:o.isCells=Τ):OutI (W.putObj k D) B I l:=by
 obtain⟨v,vs,J,M,T,U⟩:=h;exact⟨v,vs,Ke J E G,ownsRow_putObj M D E G,T,λi hi=>(U i hi).put D E G⟩
theorem Ah7 (L:List UInt8->Bool) (n:Nat):Ca L (n+1)=Ca L n++Bo L n:=rfl
theorem X6 (L:List UInt8->Bool) (n:Nat):Bx L (n+1)=Bx L n+Ba L n:=rfl
theorem Aje:(Ζ.info? 22).map (λi=>(i.zero,i.size,i.bytes))=Δ (Δ (Β Γ 0 0),1,24):=by kernel_rfl
theorem Mt (d:Dfa) (hv:Val d) (hn:d.n.length<=64) (N:Nat) (hN:N<=8) (v:Ν) (w:Λ) (h:IsD w v d) :
  ϓ Ζ 22 #[v,iv N] w λe w'=>Ext w w'/\((Bx d.has (N+1)<=4096/\∃ vo,e=θ (ϙ #[vo,.int ε 0])/\Wrds w' vo (Ca d.has (N+1)))\/(4096<Bx d.has (N+1)/\e=θ (ϙ #[Β Γ 0 0,.int ε 2]))):=by
 have HD:=Α h;obtain⟨bc,oc,cc,bn,on,cn,ba,oa,ca,rfl,hC,hR,-⟩:=h.opened hv;have f47:=λW (hW:Ext w W)=>Α (Ef d hv hn _ W (HD.out.ext hW))
 have f62:=λW (hW:Ext w W)=>Α (Xy d hv hn N (by omega) _ W (HD.out.ext hW))
 have bo:=Α (λ(M:Nat) (w0:Λ) (J:Ext w w0) (hL:Rs w0 M d N)=>Aai d hv hn N M bc oc cc bn on cn (Β (Δ ⟨ba,oa,Γ⟩) d.n.length ca) (by omega) w0 (hC.ext J) (hR.ext J) hL);have c6:=hv.pos;have dx:=Α (λn=>show A4 d n 0=Ba d.has n from K2 hv n 0 hv.pos);obtain⟨Va,a1⟩:∃ X,dA (Β (Δ ⟨bc,oc,Γ⟩) d.cls.length cc) (Β (Δ ⟨bn,on,Γ⟩) d.n.length cn) (Β (Δ ⟨ba,oa,Γ⟩) d.n.length ca)=X:=⟨_,rfl⟩;have bp:(Ζ.info? 30).map (·.size)=Δ Va.size:=by rw[<-a1];exact Ad
 rw[a1] at f47 f62 bo HD;rw[a1];have a6:=(Θ w).alloc (Ε Va 30);have H1:=Aa w (Ε Va 30);clear h a1 hv hC hR;refine (callsIn_wide (n:=3)).1 ?_;refine callsIn_of_wp_marks Tryz.func22 rfl trivial ?_ rfl;refine wpIn_wide.2 ?_;simp only[Tryz.ntmps22,ð,ϲ,List.length_nil,Nat.reduceAdd,Nat.reduceSub,ë,ê,List.push_toArray,ô,List.nil_append,List.cons_append];go_upto_region 1 with (fail)
 obtain⟨w1,br⟩:∃ W,w.alloc (Ε Va 30)=W:=⟨_,rfl⟩;rw[br] at a6 H1;simp only[br];clear br;have ak:=Α H1;clear H1;have fl:¬ ((N:Int)<0):=by omega
 have fm:¬ ((8:Int)<(N:Int)):=by omega
 go_upto_region 3 with (first
  | (refine Ο rfl 30 (η 2) rfl _ rfl _ _ _ _ ak.out Κ rfl bp ?_)
  | (go_at_call 47;(with_reducible refine (f47 _ a6).out.mono ?_);rintro e w2 ⟨rfl,bt⟩;have a7:=a6.trans bt;have ak:=Α (bt.heap ak.out)))
 go_upto_region 4 with (first
  | (refine Ο rfl 30 (η 2) rfl _ rfl _ _ _ _ ak.out Κ rfl bp ?_)
  | (go_at_call 62;(with_reducible refine (f62 _ a7).out.mono ?_);rintro e G ⟨M,rfl,hL,a8⟩;have dy:=Α (a8.heap ak.out);have HL:=Α hL;have c8:=Α (bo.out M G (a7.trans a8) hL);have bu:=Α (a7.trans a8)))
 clear hL a8 a7 bt a6 f47 f62 bo ak;have bw:=(Θ G).alloc (Ε #[Β Γ 0 0] 38);have bb:OutI (G.alloc (Ε #[Β Γ 0 0] 38)) G.heap.size G.heap.size []:=⟨_,[],Boxed.new G 38 _,Ô _ _ _ _,rfl,λi hi=>by simp at hi⟩;go_upto_region 5 with (fail)
 obtain⟨w5,bx⟩:∃ W,G.alloc (Ε #[Β Γ 0 0] 38)=W:=⟨_,rfl⟩;rw[bx] at bw bb;simp only[bx];clear bx;obtain⟨E,bd⟩:∃ x,G.heap.size=x:=⟨_,rfl⟩;have al:=Α bd;rw[bd];rw[bd] at bb;clear bd;have c9:=Α bb;clear bb;go_upto_region 6 with (fail)
 refine wp_loop (λa' W=>∃ (n:Nat) (u3 u4 u5 u8 u9 u10 u11 u12 u13 u14 u15 u16 u17 u18 u19 u20 u21 u22 u23 u24 u27 u28 u29 u30 u31 u32 u33 u34 u35 u36 u37 u38 u39 u40 u41 u42 u43 u44 u45 u46 u47 u48 bz:Ν) (ds:List Deferred),n<=N+1/\OutI W E E (Ca d.has n)/\Bx d.has n<=4096/\Ext G W/\Marks E W ds/\
   a'={ tmps:=#[.agg Va,iv N,Ω (Δ ⟨w.heap.size,0,Γ⟩),u3,u4,u5,Β (Δ ⟨M,0,Γ⟩) (N+1) (N+1),Ω (Δ ⟨E,0,Γ⟩),u8,u9,u10,u11,u12,u13,u14,u15,u16,u17,u18,u19,u20,u21,u22,u23,u24,.int ε ((N:Int)+1),iv n,u27,u28,u29,u30,u31,u32,u33,u34,u35,u36,u37,u38,u39,u40,u41,u42,u43,u44,u45,u46,u47,u48,bz],defers:=ds }) (λa' _=>N+1-(intOf (a'.tmps.getD 26 ς)).toNat) ?_ ?_
 ·exact⟨0,_,_,_,_,_,_,_,_,_,_,_,_,_,_,_,_,_,_,_,_,_,_,_,_,_,_,_,_,_,_,_,_,_,_,_,_,_,_,_,_,_,_,_,[],by omega,c9.out,by simp[Bx],bw,Marks.nil _ _,rfl⟩
 ·rintro a' wr ⟨n,u3,u4,u5,u8,u9,u10,u11,u12,u13,u14,u15,u16,u17,u18,u19,u20,u21,u22,u23,u24,u27,u28,u29,u30,u31,u32,u33,u34,u35,u36,u37,u38,u39,u40,u41,u42,u43,u44,u45,u46,u47,u48,bz,ds,fq,hO,b4,J,hM,rfl⟩;have HM:=Α hM;clear c9 bw hM;by_cases fs:n<N+1
  ·have eb:(n:Int)<(N:Int)+1:=by omega
   have HO:=Α hO;obtain⟨vo,vs,ab,T,ad,ai⟩:=hO;obtain⟨gi,dd,de⟩:=HL.out n (by omega);have k1:=Be (J.cell dd);have k2:=Be (J.cell (de 0 c6));rw[dx.out n] at k2;obtain⟨ao,b8,rfl⟩:=Eo T;have k3:=Be ab.cell;obtain⟨q,hq⟩:∃ q,(Ca d.has n).length=q:=⟨_,rfl⟩;have b9:q=Bx d.has n:=by rw[<-hq,Iy]
   rw[hq] at k3;have df:=Α b9;rw[<-b9] at b4;obtain⟨ct,cb⟩:∃ c,Ba d.has n=c:=⟨_,rfl⟩;rw[cb] at k2;have cd:=Α cb;have HQ:=Α hq;have ft:IntKind.i64.wrap (4096-(q:Int))=4096-(q:Int):=by
    simp[IntKind.wrap,IntKind.signed,IntKind.bits];omega
   clear ab T ad ai dd de b9 cb hq;go_upto_region 8 with (fail)
   refine Dx (by kernel_rfl) (by kernel_rfl) ?_;iterate 10 (with_reducible refine è (λK hK=>?_);go_simp;(refine hK _ ?_;clear hK K))
   refine û ?_;rintro _ ⟨e,rfl⟩;have dg:=Α (HO.out.ext e.ext);have au:=J.trans e.ext;have cf:=Α (HM.out.kp (B':=0) (Kp.of_ext e.ext));clear k1 k2 k3 HO HM J;generalize e.W=w6 at *;by_cases fu:4096-q<ct
   ·have ee:(4096:Int)-(q:Int)<((sat ct:Nat):Int):=by
     unfold sat;omega
    go_wp2;refine Py (λW'=>Ext G W') (λW' l o o' h hB hl hc=>h.putObj (by rw[al.out];exact hB) o') (λW' h=>⟨_,results_tmp2 rfl _ _ _,bu.out.trans h,.inr ⟨?_,rfl⟩⟩) ds w6 cf.out au;have h1:=Nc d.has (show n+1<=N+1 by omega);rw[X6,cd.out,<-df.out] at h1;omega
   ·have ee:¬ (4096:Int)-(q:Int)<((sat ct:Nat):Int):=by
     unfold sat;omega
    have ef:=Α (au.heap dy.out);have f64:∀ W,ϓ Ζ 64 #[.agg Va,Β (Δ ⟨M,0,Γ⟩) (N+1) (N+1),.int ε 0,iv n] W _:=λW=>R5 Va M N 0 n W
    go_wp2_with (first
     | (refine Ο rfl 30 (η 2) rfl _ rfl _ _ _ _ ef.out Κ rfl bp ?_)
     | (go_at_call 64;(with_reducible refine (f64 w6).mono ?_);rintro e w7 ⟨Bd,Bl,Bs,Bn,rfl,dq,ay⟩))
    have eg:=c8.out n (by omega) 0 c6 w7 Bd Bl Bs Bn (au.trans ay) dq;have dr:=Α (dg.out.ext ay);have eh:=Α (au.trans ay);have ei:=Α (cf.out.kp (B':=0) (Kp.of_ext ay));have fv:E<w7.heap.size:=by
     obtain⟨_,_,h,_⟩:=dr.out;exact h.lt
    obtain⟨ej,ek,en,eo,ep⟩:=info_parts Aje;clear dg au cf dq ay f64 c8;refine (wpIn_wide (n:=3)).1 ?_;refine Rz (gf:=107) rfl (enters_of Tryz.func107 (by kernel_rfl) rfl) eg rfl
     (λpre W'=>OutI W' E E (Ca d.has n++pre)/\Ext G W'/\Kp G.heap.size w7 W')
     (λst U W2 h J=>⟨h.1.ext J,h.2.1.trans J,h.2.2.trans (Kp.of_ext J)⟩)
     (λst U l' o o' h hl ho hc=>⟨h.1.put o' ho hc,h.2.1.putObj (by rw[al.out];omega) o',h.2.2.put_new hl o'⟩)
     ⟨by simpa using dr.out,eh.out,Kp.refl _ _⟩
     (λv=>{ tmps:=#[.agg Va,iv N,Ω (Δ ⟨w.heap.size,0,Γ⟩),u3,u4,u5,Β (Δ ⟨M,0,Γ⟩) (N+1) (N+1),Ω (Δ ⟨E,0,Γ⟩),iv n,v,u10,u11,u12,u13,u14,u15,u16,u17,u18,u19,u20,u21,u22,u23,u24,.int ε ((N:Int)+1),iv n,.bool Ξ,iv n,Β (Δ ⟨M,0,Γ⟩) (N+1) (N+1),iv n,Ω (Δ ⟨M,n,Γ⟩),Β (Δ ⟨gi,0,Γ⟩) d.n.length d.n.length,Ω (Δ ⟨gi,0,Γ⟩),iv (sat ct),Β ao q b8,.int ε (q:Int),.int ε (4096-(q:Int)),.bool Τ,.agg Va,Β (Δ ⟨M,0,Γ⟩) (N+1) (N+1),iv n,.func (.func 107) #[] #[Ω (Δ ⟨Bl,0,Γ⟩),Ω (Δ ⟨Bn,0,Γ⟩),Ω (Δ ⟨Bs,0,Γ⟩),Ω (Δ ⟨Bd,0,Γ⟩)],v,u44,u45,u46,u47,u48,bz],defers:=[] }) ?assign ?body ?done
    case assign=>
     intro l' v U K hK
     gi_wp2
     exact hK
    case body=>
     rintro l' pre x v U ⟨⟨vo,vs,ab,T,ad,ai⟩,bh,cj⟩ ck et m;have eu:(Ca d.has n++pre).length+1<=4096:=by
      have h1:=et.length_le;rw[Υ] at h1 ⊢;have h2:(Bo (λu=>d.ok (d.run 0 u)) n).length=ct:=cd.out;rw[h2] at h1;have h3:=HQ.out;simp at h1;omega
     obtain⟨av,cv,rfl⟩:=Eo ck;obtain⟨L,cm⟩:∃ L,(Ca d.has n++pre).length=L:=⟨_,rfl⟩;have cp:=Α cm;rw[cm] at T ad eu ai;clear cm;have gb:E<=U.heap.size:=by have:=bh.size;rw[al.out] at this;exact this
     have ev:=Dr T ab (by decide);have c7:=ab.cell;have ey:=Α ai;have ez:=Α ck;clear ai ck;have e0:=Α (λ(I:Λ) (bj:(U.alloc (Ε #[Β av x.length cv] 22)).grownBy I vo.ownBlock)=>show Boxed I E 38 vo from (bj.block E (δ ab.lt (by rw[Ρ];omega)) (λe=>by
      rcases ev with h|h
      ·rw[h] at e;cases e
      ·exact h e.symm)).trans (ab.alloc _))
     refine wpIn_block ?_
     gi_wp2_with (gi_at_builtin;refine wpListIn_append_own _ rfl _ _ 38 rfl E 22 ej (Β Γ 0 0) 1 24 Tryz.underlying38 ek en eo ep rfl (by decide) _ _ _ rfl (T.alloc _) ⟨U.heap.size,0,Γ⟩ 1 1 [Β av x.length cv] rfl rfl (cell_one_new _ _ _) (by simp[Ν.oneCell']) (by unfold maxLen;omega) (by omega) (by rw[Ρ];omega) ?_;intro v' I bk bj _;obtain⟨g',e4,rfl⟩:=ownsRow_succ bk;have an:=e0.out I bj;have gd:=an.cell;have gg:=an.frozen)
     obtain⟨nv,du⟩:∃ x,Ϥ (Δ ⟨g',0,Γ⟩) (L+1) e4=x:=⟨_,rfl⟩;rw[du] at bk;rw[du];have e5:I.setCell ⟨E,0,Γ⟩ nv=I.setRow E #[nv]:=setCell_eq_setRow I E 0 #[vo] 38 (0,0) nv an;have e6:Boxed (I.setRow E #[nv]) E 38 nv:=setRow_heap I E _ _ _ _ an;have e7:(I.setRow E #[nv]).ownsRow E 22 1 nv (L+1) (vs++[Β av x.length cv]):=bk.kept (Cd I E _) (Dr bk an (by decide));have e8:Kp G.heap.size (U.alloc (Ε #[Β av x.length cv] 22)) I:=Kp.grown bj λk e=>by
      obtain⟨h1,cs,fr,h2⟩:=Afx (T.alloc (Ε #[Β av x.length cv] 22)) k e;exact⟨by rw[al.out];exact h1,cs,fr,.inl h2⟩
     have e9:Kp G.heap.size I (I.setRow E #[nv]):=Kp.grown (Cd I E _) λk e=>by
      cases e
      exact⟨Nat.le_of_eq al.out,_,_,.inr an⟩
     have az:=((Kp.of_ext (B:=G.heap.size) ((Θ U).alloc (Ε #[Β av x.length cv] 22))).trans e8).trans e9;have cq:(Ca d.has n++(pre++[x])).length=L+1:=by rw[<-Ñ,Υ,cp.out];rfl
     rw[e5];refine⟨az,⟨nv,vs++[Β av x.length cv],e6,by rw[cq];exact e7,by rw[cq,Υ,ad];rfl,λi hi=>?_⟩,az.ext bh (ν _),cj.trans az⟩;rw[cq] at hi;rw[<-Ñ];by_cases cr:i<L
     ·rw[Bt _ _ _ _ (by rw[ad];exact cr),Bt _ _ _ _ (by rw[cp.out];exact cr)];exact (ey.out i cr).kp az
     ·obtain rfl:i=L:=by omega
      have e1:(vs++[Ϥ av x.length cv]).getD i ς=Β av x.length cv:=by rw[<-ad];exact Cm _ _ _
      have e2:(Ca d.has n++pre++[x]).getD i []=x:=by rw[<-cp.out];exact Cm _ _ _
      rw[e1,e2];exact ez.out.kp az
    case done=>
     rintro D U hD ⟨dv,bh,cj⟩ dw;have fe:=ei.out.cons cj (by omega) hD dw;have ff:OutI U E E (Ca d.has (n+1)):=by rw[Ah7];exact dv
     have fg:Bx d.has (n+1)<=4096:=by rw[X6,cd.out,<-df.out];omega
     clear dv dw;go_wp2;refine⟨⟨n+1,_,_,_,_,_,_,_,_,_,_,_,_,_,_,_,_,_,_,_,_,_,_,_,_,_,_,_,_,_,_,_,_,_,_,_,_,_,_,_,_,_,_,_,_,by omega,ff,fg,bh,fe,rfl⟩,?_⟩;simp[intOf];omega
  ·obtain rfl:n=N+1:=by omega
   obtain⟨vo,vs,ab,T,ad,ai⟩:=hO;obtain⟨ao,b8,rfl⟩:=Eo T;have c7:=ab.cell;have eb:¬ ((N:Int)+1<(N:Int)+1):=by omega
   have HI:=Α (ß (bu.out.trans J) (ß T (ß ad ai)));have fj:=Α b4;clear T ad ai b4;go_wp2;refine Py (λW'=>Ext w W'/\W'.ownsRow E 22 1 (Β ao (Ca d.has (N+1)).length b8) (Ca d.has (N+1)).length vs/\vs.length=(Ca d.has (N+1)).length/\∀ i,i<(Ca d.has (N+1)).length->WordV W' (vs.getD i ς) ((Ca d.has (N+1)).getD i []))
    (λW' l o o' h hB hl hc=>⟨h.1.putObj (ψ bu.out.size (by rw[al.out];exact hB)) o',ownsRow_putObj h.2.1 o' hl hc,h.2.2.1,λi hi=>(h.2.2.2 i hi).put o' hl hc⟩)
    (λW' h=>⟨_,results_tmp2 rfl _ _ _,h.1,.inl ⟨fj.out,_,rfl,vs,h.2.2.1,Gh h.2.1,h.2.2.2⟩⟩) ds wr HM.out HI.out
def E1 (c:Nat):Ending:=if c<=1099511627776 then θ (ϙ #[.int ε c,.int ε 0]) else θ (ϙ #[.int ε 0,.int ε 2])
theorem Na (d:Dfa) (hv:Val d) (hn:d.n.length<=64) (N:Nat) (hN:N<=64) (v:Ν) (w:Λ) (h:IsD w v d) :
  ϓ Ζ 20 #[v,iv N] w λe w'=>e=E1 (Ba d.has N)/\Ext w w':=by
 have M:=Α h;obtain⟨ac,lc,cc,an,cn,aa,la,ca,rfl⟩:=h.agg;have f47:=λW (T:Ext w W)=>Α (Ef d hv hn _ W (M.out.ext T))
 have f62:=λW (T:Ext w W)=>Α (Xy d hv hn N hN _ W (M.out.ext T))
 have ai:=Α (show A4 d N 0=Ba d.has N from K2 hv N 0 hv.pos);have a8:=hv.pos;obtain⟨D,E⟩:∃ X,dA (Β ac lc cc) (Β an d.n.length cn) (Β aa la ca)=X:=⟨_,rfl⟩;have aj:(Ζ.info? 30).map (·.size)=Δ D.size:=by rw[<-E];exact Ad
 rw[E] at f47 f62 M;rw[E];have G:=(Θ w).alloc (Ε D 30);have U:=Aa w (Ε D 30);clear h E hv;go_enter Tryz.func20,Tryz.ntmps20;go_upto_region 1 with (fail)
 obtain⟨w1,ab⟩:∃ W,w.alloc (Ε D 30)=W:=⟨_,rfl⟩;rw[ab] at G U;simp only[ab];clear ab;have I:=Α U;clear U;have bc:¬ ((N:Int)<0):=by omega
 have bd:¬ ((64:Int)<(N:Int)):=by omega
 go_upto_region 3 with (first
  | (refine Ο rfl 30 (η 2) rfl _ rfl _ _ _ _ I.out Κ rfl aj ?_)
  | (go_at_call 47;(with_reducible refine (f47 _ G).out.mono ?_);rintro e w2 ⟨rfl,ad⟩;have ae:=G.trans ad;have I:=Α (ad.heap I.out)))
 go_upto_region 4 with (first
  | (refine Ο rfl 30 (η 2) rfl _ rfl _ _ _ _ I.out Κ rfl aj ?_)
  | (go_at_call 62;(with_reducible refine (f62 _ ae).out.mono ?_);rintro e w4 ⟨g,rfl,hC,ba⟩;obtain⟨gi,bb,al⟩:=hC N (ν _);have ao:=al 0 a8;rw[ai.out] at ao;have aq:=Α (ae.trans ba);clear hC al))
 clear bb ao ae ad G f47 f62;have hs:=J9 (Ba d.has N);obtain⟨c,hc⟩:∃ c,Ba d.has N=c:=⟨_,rfl⟩;rw[hc] at hs ⊢;have ar:=Α hc;clear hc ai;have ag:c<=1099511627776->sat c=c:=λh=>by unfold sat;omega
 have ah:¬ c<=1099511627776->1099511627776<sat c:=λh=>by unfold sat;omega
 by_cases J:c<=1099511627776
 ·rw[ag J];have au:¬ ((1099511627776:Int)<(c:Int)):=by omega
  clear hs ag ah;go_wp2;go_ret2;exact⟨by rw[ar.out];unfold E1;rw[if_pos J];rfl,aq.out⟩
 ·have au:=ah J;clear ag ah;generalize sat c=y at *;have bh:(1099511627776:Int)<(y:Int):=by omega
  clear au;go_wp2;go_ret2;exact⟨by rw[ar.out];unfold E1;rw[if_neg J];rfl,aq.out⟩
theorem Jp (W:Λ) (l:List UInt8) (fr:Nat × Nat) (G:l.length<=1000000):By (W.alloc (Ε (l.map bv).toArray 5 fr)) (Β (Δ ⟨W.heap.size,0,Γ⟩) l.length l.length) l:=by
 refine⟨by omega,?_⟩;by_cases D:l.length=0
 ·exact .inl ⟨D,_,_,by rw[D]⟩
 ·refine .inr ⟨by omega,W.heap.size,0,l.length,rfl,by simp,λi hi=>?_⟩;rw[Nat.zero_add,γ _ _ _ _ 5 fr (Aa W _)];have E:i<l.length:=by omega
  simp[Η,E]
theorem U5 (l:List UInt8) (D:l.length<=1000000) (fr:Nat × Nat) (W:Λ) (C:Array Ν) (E:C=(l.map bv).toArray) (n:Nat) (hn:n=l.length) (c:Cls) (G:ofL l=c) :
  ϓ Ζ 44 #[Β (Δ ⟨W.heap.size,0,Γ⟩) n n] (W.alloc (Ε C 5 fr)) λe w'=>e=θ (.agg (Ab c))/\Ext W w':=by
 subst E hn G;exact (U6 l _ _ (Jp W l fr D)).mono λe w' h=>⟨h.1,((Θ W).alloc _).trans h.2⟩
theorem Agf (l:List UInt8):∀ (k:Nat),k<=l.length->∀ x:UInt8,(ofL (l.take k)).getLsbD x.toNat=Ξ↔x∈l.take k:=by
 intro k;induction k with
 | zero=>intro _ x;simp[ofL]
 | succ k E=>
  intro I x;have D:k<l.length:=by omega
  rw[U7 l k D,List.take_succ_eq_append_getElem D,List.mem_append,List.mem_singleton,<-E (by omega) x];have e:l.getD k 0=l[k]:=by rw[Η,Μ D];rfl
  rw[e];generalize l[k]=y;have J:=x.toNat_lt;have G:=y.toNat_lt;rw[I6 _ y.toNat x.toNat G,Å,decide_eq_true_eq];constructor
  ·rintro (h|h)
   ·exact .inl h
   ·exact .inr (UInt8.toNat_inj.1 (by omega))
  ·rintro (h|rfl)
   ·exact .inl h
   ·exact .inr (by omega)
theorem Pj (l:List UInt8) (x:UInt8):(ofL l).getLsbD x.toNat=Ξ↔x∈l:=by
 have:=Agf l l.length (ν _) x
 rwa [List.take_length] at this
def flR (D:List RNode):List Ν:=D.flatMap λn=>(rnC n).toList
theorem Akb (D:List RNode) (i j:Nat) (hi:i<D.length) (I:j<9):(flR D)[i*9+j]? = (rnC (D.getD i ⟨0,0,0,0#256,0,0⟩)).toList[j]? := by
 induction D generalizing i with
 | nil=>simp at hi
 | cons x l E=>
  have e:flR (x::l)=(rnC x).toList++flR l:=rfl;have G:(rnC x).toList.length=9:=rfl;rw[e];cases i with
  | zero=>rw[List.getElem?_append_left (by omega)];simp
  | succ i=>
   rw[List.getElem?_append_right (by omega),G,show (i+1)*9+j-9=i*9+j by omega];exact E i (by simpa using hi)
theorem On {W:Λ} {g:Nat} {fr:Nat × Nat} {D:List RNode} (h:W.heap[g]? = Δ (Ε (flR D).toArray 64 fr)):RxAt W g 0 D:=λi hi j v E=>by
 have G:j<9:=(ϊ.1 E).1;rw[show 0+i*9+j=i*9+j by omega,γ W g _ _ _ _ h,List.getElem?_toArray,Akb D i j hi G];exact E
theorem Ei {w':Λ} {A:Array Ν} {d:Dfa} (E:IsD w' (.agg A) d):Ext w' ((w'.alloc (Ε #[Β Γ 0 0,Β Γ 0 0,Β Γ 0 0] 30)).setRow w'.heap.size A)/\
  ((w'.alloc (Ε #[Β Γ 0 0,Β Γ 0 0,Β Γ 0 0] 30)).setRow w'.heap.size A).heap[w'.heap.size]? = Δ (Ε A 30 (0,0))/\IsD ((w'.alloc (Ε #[Β Γ 0 0,Β Γ 0 0,Β Γ 0 0] 30)).setRow w'.heap.size A) (.agg A) d:=by
 have D:=((Θ w').alloc (Ε #[Β Γ 0 0,Β Γ 0 0,Β Γ 0 0] 30)).setRow (ν w'.heap.size) A;exact⟨D,setRow_heap _ _ _ _ _ _ (Aa w' _),E.ext D⟩
theorem Ann {L:List UInt8->Prop} (f:List UInt8->Nat × Nat) (n m:Nat) (E:∀ w w',f w=f w'->∀ u,L (w++u)↔L (w'++u)) (D:∀ w,(f w).1<n/\(f w).2<m) (J:n*m<=64):¬ Big L:=by
 rintro⟨U,M,G⟩;have hn:(U.map f).Nodup:=by
  rw[List.nodup_iff_pairwise_ne,List.pairwise_map];exact G.imp λ{u v} ⟨x,I⟩ e=>I (E u v e x)
 have:=Dy (U.map f) (box n m) hn λs hs=>by
  obtain⟨u,_,rfl⟩:=ϸ.1 hs;exact Lb (D u).1 (D u).2
 rw[ϋ,Ld] at this;omega
theorem Acm {a:Dfa} {r:Option Dfa} (h:Ju a r) (ha:Fit a (λw=>w=[97,98]\/w=[97,98,99])):∃ d,r=Δ d/\Fit d (λw=>w=[98,97]\/w=[99,98,97]):=by
 have I:=Gx ha;obtain⟨x,E,J,h1,M⟩:=h;obtain rfl:=Gw E ha.1 J;have D:=M (Ado E.val (by omega) 4096 (Hz x.n.length) (λw=>Zg _ _ (by simp)) (by rw[Zh];exact ψ (Nat.pow_le_pow_right (by omega) (ψ I (show 5<=12 by omega))) (by decide)));have e:∀ w:List UInt8,x.has w.reverse=Ξ↔w=[98,97]\/w=[99,98,97]:=λw=>by
  rw[ha.2];show (w.reverse=[97,98]\/w.reverse=[97,98,99])↔_;have G:∀ v:List UInt8,w.reverse=v↔w=v.reverse:=λv=>by
   constructor
   ·rintro rfl;simp
   ·rintro rfl;simp
  rw[G,G];rfl
 have D:=Pu D e;cases r with
 | some d=>exact⟨d,rfl,D.1,D.2.1⟩
 | none=>
  refine absurd (show Big (λw=>w=[98,97]\/w=[99,98,97]) from D) (Ann (λw=>((Cr [98,97]).run 0 w,(Cr [99,98,97]).run 0 w)) 4 5 (λw w' T u=>?_) (λw=>⟨?_,?_⟩) (by omega))
  ·injection T with U h4
   rw[<-Fd [98,97] (w++u),<-Fd [98,97] (w'++u),<-Fd [99,98,97] (w++u),<-Fd [99,98,97] (w'++u)];unfold Tbl.has;rw[Ct,Ct,Ct,Ct,U,h4]
  ·have:=(Fc [98,97]).run_lt w (Fc [98,97]).pos
   rwa [Es] at this
  ·have:=(Fc [99,98,97]).run_lt w (Fc [99,98,97]).pos
   rwa [Es] at this
theorem Ah1 (A B:Cls):(#[.int ε 3,.int π (wd A 0),.int π (wd A 1),.int π (wd A 2),.int π (wd A 3),.int ε 0,.int ε 0,.int ε 0,.int ε 0,.int ε 3,.int π (wd B 0),.int π (wd B 1),.int π (wd B 2),.int π (wd B 3),.int ε 0,.int ε 0,.int ε 0,.int ε 0,.int ε 8,.int π 0,.int π 0,.int π 0,.int π 0,.int ε 1,.int ε 0,.int ε 0,.int ε (-1),.int ε 4,.int π 0,.int π 0,.int π 0,.int π 0,.int ε 0,.int ε 2,.int ε 0,.int ε 0]:Array Ν) =
  (flR [⟨3,0,0,A,0,0⟩,⟨3,0,0,B,0,0⟩,⟨8,1,0,0#256,0,-1⟩,⟨4,0,2,0#256,0,0⟩]).toArray:=by kernel_rfl
theorem Ah2 (A:Cls):(#[.int ε 3,.int π (wd A 0),.int π (wd A 1),.int π (wd A 2),.int π (wd A 3),.int ε 0,.int ε 0,.int ε 0,.int ε 0,.int ε 8,.int π 0,.int π 0,.int π 0,.int π 0,.int ε 0,.int ε 0,.int ε 16,.int ε 16,.int ε 8,.int π 0,.int π 0,.int π 0,.int π 0,.int ε 1,.int ε 0,.int ε 5,.int ε 5]:Array Ν) =
  (flR [⟨3,0,0,A,0,0⟩,⟨8,0,0,0#256,16,16⟩,⟨8,1,0,0#256,5,5⟩]).toArray:=by kernel_rfl
theorem Aao (A B:Cls):VRx [⟨3,0,0,A,0,0⟩,⟨3,0,0,B,0,0⟩,⟨8,1,0,0#256,0,-1⟩,⟨4,0,2,0#256,0,0⟩] where
 pos:=by simp
 le:=by simp
 node:=λi hi=>by
  have hi:i<4:=by simpa using hi
  have:i=0\/i=1\/i=2\/i=3:=by omega
  rcases this with rfl|rfl|rfl|rfl
  all_goals (constructor<;>simp[arK])
 par:=λj D=>by
  have D:j+1<4:=by simpa using D
  have:j=0\/j=1\/j=2:=by omega
  rcases this with rfl|rfl|rfl<;>simp[par,Fg,arK]
theorem Aap (A:Cls):VRx [⟨3,0,0,A,0,0⟩,⟨8,0,0,0#256,16,16⟩,⟨8,1,0,0#256,5,5⟩] where
 pos:=by simp
 le:=by simp
 node:=λi hi=>by
  have hi:i<3:=by simpa using hi
  have:i=0\/i=1\/i=2:=by omega
  rcases this with rfl|rfl|rfl
  all_goals (constructor<;>simp[arK])
 par:=λj D=>by
  have D:j+1<3:=by simpa using D
  have:j=0\/j=1:=by omega
  rcases this with rfl|rfl<;>simp[par,Fg,arK]
theorem Anb (A B:Cls) (D:ofL [97]=A) (E:ofL [98,99]=B) (g:Nat) (W:Λ) (G:Tab W) (I:0<W.heap.size) (h:W.heap[g]? = Δ (Ε (flR [⟨3,0,0,A,0,0⟩,⟨3,0,0,B,0,0⟩,⟨8,1,0,0#256,0,-1⟩,⟨4,0,2,0#256,0,0⟩]).toArray 64 (0,0))) :
  ϓ Ζ 36 #[Β (Δ ⟨g,0,Γ⟩) 4 4] W λe w'=>∃ d v,e=θ (ϙ #[v,.int ε 0])/\IsD w' v d/\Cano d/\d.n.length=3/\d.has [97,99,98]=Ξ/\d.has [98,97]=Τ/\Ext W w':=
 (Yy _ (Aao A B) g 0 4 W G I (On h)).mono λe w' ⟨r,J,M,T⟩=>by
  obtain⟨d,rfl,U,hl,k1,k2⟩:=Acn A B (λx=>by rw[<-D,Pj];simp) (λx=>by rw[<-E,Pj];simp) _ _ _ 0 _ _ _ 0 _ _ _ _ _ _ M;obtain⟨v,he,hD⟩:=J;exact⟨d,v,he,hD,U,hl,k1,k2,T⟩
theorem Ane (A:Cls) (D:ofL [97]=A) (g:Nat) (W:Λ) (E:Tab W) (G:0<W.heap.size) (h:W.heap[g]? = Δ (Ε (flR [⟨3,0,0,A,0,0⟩,⟨8,0,0,0#256,16,16⟩,⟨8,1,0,0#256,5,5⟩]).toArray 64 (0,0))) :
  ϓ Ζ 36 #[Β (Δ ⟨g,0,Γ⟩) 3 3] W λe w'=>e=θ (ϙ #[zD,.int ε 2])/\Ext W w':=
 (Yy _ (Aap A) g 0 3 W E G (On h)).mono λe w' ⟨r,I,J,M⟩=>by
  obtain rfl:=Aco A (λx=>by rw[<-D,Pj];simp) _ _ _ _ _ _ _ _ (.inr (by simp)) J;exact⟨I,M⟩
theorem Jy {P:Program} {ops:Array Oper} {rest:List Oper} {o:Oper} {a:Act} {w:Λ} {Q:Exit->Act->Λ->Prop} (D:Region.wanted o (yielded ops a.tmps)=Ξ) (ty:Á) (x:Operand) (E:o.op=.load ty x)
  (g:Nat) (G:a.eval x=Ω (Δ ⟨g,0,Γ⟩)) (t:Á) (cs:Array Ν) (fr:Nat × Nat) (d:TypeDesc) (hg:w.heap[g]? = Δ (Ε cs t fr))
  (hu:P.underlying ty=Δ d) (hd:(match d with|.struct _|.array _ _=>Ξ|_=>Τ)=Ξ) (hi:(P.info? ty).map (·.size)=Δ cs.size)
  (h:wpList P ops Q rest (a.put o.dst (.agg cs)) w):wpList P ops Q (o::rest) a w:=
 wpList_step λK I=>by rw[if_pos D];exact wp_load_row ty x E g G t cs fr d hg hu hd hi (I _ _ h)
theorem Sa (l:List UInt8) (D:l.length<=62) (fr:Nat × Nat) (W:Λ) (C:Array Ν) (E:C=(l.map bv).toArray) (n:Nat) (hn:n=l.length) :
  ϓ Ζ 45 #[Β (Δ ⟨W.heap.size,0,Γ⟩) n n] (W.alloc (Ε C 5 fr)) λe w'=>∃ d v,e=θ (ϙ #[v,.int ε 0])/\IsD w' v d/\Cano d/\(∀ u,d.has u=Ξ↔u=l)/\Ext W w':=by
 subst E hn;exact (N4 l D _ _ (Jp W l fr (by omega))).mono λe w' ⟨d,⟨v,G,I⟩,J,M,T⟩=>⟨d,v,G,I,J,M,((Θ W).alloc _).trans T⟩
theorem Aed (d:Dfa) (hv:Val d) (G:d.n.length<=64) (v:Ν) (l:List UInt8) (hl:l.length<=62) (fr:Nat × Nat) (W:Λ) (I:Tab W) (E:0<W.heap.size) (h:IsD W v d) (C:Array Ν) (J:C=(l.map bv).toArray) (n:Nat) (hn:n=l.length) :
  ϓ Ζ 14 #[v,Β (Δ ⟨W.heap.size,0,Γ⟩) n n] (W.alloc (Ε C 5 fr)) λe w'=>∃ q u,e=θ (ϙ #[u,.int ε 0])/\IsD w' u q/\Cano q/\(∀ x,q.has x=d.has (l++x))/\Ext W w':=by
 subst J hn;have D:=(Θ W).alloc (Ε (l.map bv).toArray 5 fr);exact (Ue d hv G v l _ _ (I.below D.below E) (δ E D.size) (h.ext D) (Jp W l fr (by omega))).mono λe w' ⟨q,⟨u,M,T⟩,U,h4,h5⟩=>⟨q,u,M,T,U,h4,D.trans h5⟩
theorem Gy (d:Dfa) (hv:Val d) (G:d.n.length<=64) (v:Ν) (l:List UInt8) (hl:l.length<=62) (b:Bool) (I:d.has l=b) (fr:Nat × Nat) (W:Λ) (J:Tab W) (E:0<W.heap.size) (h:IsD W v d) (C:Array Ν) (M:C=(l.map bv).toArray) (n:Nat) (hn:n=l.length) :
  ϓ Ζ 29 #[v,Β (Δ ⟨W.heap.size,0,Γ⟩) n n] (W.alloc (Ε C 5 fr)) λe w'=>e=θ (.bool b)/\Ext W w':=by
 subst M hn I;have D:=(Θ W).alloc (Ε (l.map bv).toArray 5 fr);exact (Zr d hv G v l _ _ (J.below D.below E) (δ E D.size) (h.ext D) (Jp W l fr (by omega))).mono λe w' ⟨T,U⟩=>⟨T,D.trans U⟩
theorem Aee {d q:Dfa} {l:List UInt8} (hd:Val d) (D:Cano q) (h:∀ x,q.has x=d.has (l++x)):q.n.length<=d.n.length:=by
 have:=Gv D (λw=>d.run 0 (l++w)) (λw w' e u=>by
  rw[h,h];unfold Dfa.has;rw[<-Ñ,<-Ñ,B9,B9 _ _ (l++w'),e]) (ι d.n.length) λw=>υ.2 (hd.run_lt _ hd.pos)
 simpa using this
theorem Aey {d p:Dfa} (hd:Val d) (D:Cano p) (h:∀ x,p.has x=Ξ↔∃ u,d.has (x++u)=Ξ):p.n.length<=d.n.length:=by
 have:=Gv D (λw=>d.run 0 w) (λw w' e u=>by
  rw[ϯ,h,h];have E:∀ v,d.has (w++u++v)=d.has (w'++u++v):=λv=>by
   unfold Dfa.has;rw[Ñ,Ñ,B9,B9 _ _ w',e]
  simp only[E]) (ι d.n.length) λw=>υ.2 (hd.run_lt _ hd.pos)
 simpa using this
theorem Agh {d p:Dfa} (hd:Val d) (D:Cano p) (h:∀ x,p.has x=!d.has x):p.n.length<=d.n.length:=by
 have:=Gv D (λw=>d.run 0 w) (λw w' e u=>by
  rw[h,h];unfold Dfa.has;rw[B9,B9 _ _ w',e]) (ι d.n.length) λw=>υ.2 (hd.run_lt _ hd.pos)
 simpa using this
theorem Sb {d:Dfa} {l:List UInt8} (hd:Cano d) (h:∀ u,d.has u=Ξ↔u=l):d.n.length<=l.length+2:=by
 have:=Yo hd (Fc l) λw=>by rw[ϯ,h,Fd]
 rwa [Es] at this
abbrev Ib:List UInt8->Prop:=λw=>w=[97,98]\/w=[97,98,99]
theorem Acy (x y:Dfa) (G:Cano x) (I:Cano y) (J:∀ u,x.has u=Ξ↔u=[97,98]) (M:∀ u,y.has u=Ξ↔u=[97,98,99]) (D E:Ν) (W:Λ) (T:Tab W) (U:0<W.heap.size) (h1:IsD W D x) (h2:IsD W E y) :
  ϓ Ζ 33 #[D,E] W λe w'=>∃ d v,e=θ (ϙ #[v,.int ε 0])/\IsD w' v d/\Fit d Ib/\Ext W w':=
 (Pe x y G.val I.val (ψ (Sb G J) (by decide)) (ψ (Sb I M) (by decide)) D E W T U h1 h2).mono λe w' ⟨r,q1,q2,q3⟩=>by
  obtain⟨d,rfl,hf⟩:=Aay q2 [97,98] [97,98,99] (λw=>by rw[J,M]) (by decide);obtain⟨v,he,hD⟩:=q1;exact⟨d,v,he,hD,hf,q3⟩
theorem Kw {d:Dfa} (h:Fit d Ib) (w:List UInt8):d.has w=decide (w=[97,98]\/w=[97,98,99]):=by
 rw[ϯ,h.2,decide_eq_true_eq]
theorem Acw (d:Dfa) (hd:Fit d Ib) (v:Ν) (W:Λ) (G:Tab W) (I:0<W.heap.size) (h:IsD W v d) :
  ϓ Ζ 14 #[v,Β (Δ ⟨W.heap.size,0,Γ⟩) 2 2] (W.alloc (Ε #[.int .u8 97,.int .u8 98] 5 (2,3))) λe w'=>∃ q u,e=θ (ϙ #[u,.int ε 0])/\IsD w' u q/\(Val q/\q.n.length<=64/\q.has [99]=Ξ/\q.has []=Ξ/\q.has [97]=Τ)/\Ext W w':=
 (Aed d hd.1.val (ψ (Gx hd) (by decide)) v [97,98] (by decide) (2,3) W G I h _ rfl 2 rfl).mono λe w' ⟨q,u,J,M,E,D,T⟩=>
  ⟨q,u,J,M,⟨E.val,ψ (Aee hd.1.val E D) (ψ (Gx hd) (by decide)),by rw[D,Kw hd];decide,by rw[D,Kw hd];decide,by rw[D,Kw hd];decide⟩,T⟩
theorem Acx (d:Dfa) (hd:Fit d Ib) (v:Ν) (W:Λ) (G:Tab W) (I:0<W.heap.size) (h:IsD W v d) :
  ϓ Ζ 16 #[v] W λe w'=>∃ q u,e=θ (ϙ #[u,.int ε 0])/\IsD w' u q/\(Val q/\q.n.length<=64/\q.has [97]=Ξ/\q.has [98]=Τ)/\Ext W w':=
 (Um d hd.1.val (ψ (Gx hd) (by decide)) v W G I h).mono λe w' ⟨q,⟨u,J,M⟩,E,D,T⟩=>
  ⟨q,u,J,M,⟨E.val,ψ (Aey hd.1.val E D) (ψ (Gx hd) (by decide)),(D _).2 ⟨[98],by rw[Kw hd];decide⟩,by
   cases U:q.has [98] with
   | false=>rfl
   | true=>
    obtain⟨u,hu⟩:=(D _).1 U;rw[Kw hd,decide_eq_true_eq] at hu;rcases hu with hu|hu<;>simp at hu⟩,T⟩
theorem Acv (d:Dfa) (hd:Fit d Ib) (v:Ν) (W:Λ) (E:Tab W) (G:0<W.heap.size) (h:IsD W v d) :
  ϓ Ζ 18 #[v] W λe w'=>∃ q u,e=θ (ϙ #[u,.int ε 0])/\IsD w' u q/\(Val q/\q.n.length<=64/\q.has [99,98,97]=Ξ/\q.has [97,98,99]=Τ)/\Ext W w':=
 (T3 d hd.1.val (ψ (Gx hd) (by decide)) v W E G h).mono λe w' ⟨r,I,J,M⟩=>by
  obtain⟨q,rfl,D⟩:=Acm J hd;obtain⟨u,he,T⟩:=I;refine⟨q,u,he,T,⟨D.1.val,?_,(D.2 _).2 (.inr rfl),?_⟩,M⟩
  ·have hh:∀ w,q.has w=(decide (w=[98,97])||decide (w=[99,98,97])):=λw=>by rw[ϯ,D.2,Å,decide_eq_true_eq,decide_eq_true_eq]
   have:=Ul (Fc [98,97]) (Fc [99,98,97]) (g:=λa b=>a||b) D.1 (λw=>by
    rw[ϯ,D.2,Å,Fd,Fd])
   rw[Es,Es] at this;simp at this;omega
  ·cases U:q.has [97,98,99] with
   | false=>rfl
   | true=>
    have:=(D.2 _).1 U;simp at this
theorem Ac4 (d:Dfa) (hd:Fit d Ib) (v:Ν) (W:Λ) (h:IsD W v d) :
  ϓ Ζ 20 #[v,.int ε 3] W λe w'=>e=θ (ϙ #[.int ε 1,.int ε 0])/\Ext W w':=
 (Na d hd.1.val (ψ (Gx hd) (by decide)) 3 (by decide) v W h).mono λe w' ⟨D,E⟩=>⟨by rw[D,Anf hd];rfl,E⟩
theorem Ac1 (d:Dfa) (hd:Fit d Ib) (v:Ν) (W:Λ) (h:IsD W v d) :
  ϓ Ζ 22 #[v,.int ε 2] W λe w'=>∃ g E D,e=θ (ϙ #[Β (Δ ⟨g,0,Γ⟩) 1 E,.int ε 0])/\w'.cell? ⟨g,0,Γ⟩=Δ D/\By w' D [97,98]/\Ext W w':=
 (Mt d hd.1.val (ψ (Gx hd) (by decide)) 2 (by decide) v W h).mono λe w' ⟨M,G⟩=>by
  have J:=Ang hd;have T:Bx d.has 3=1:=by rw[<-Iy,J];rfl
  rcases G with⟨_,U,he,vs,k1,I,k3⟩|⟨G,_⟩
  ·rw[show 2+1=3 from rfl,J] at k1 I k3;obtain⟨g,E,rfl⟩:=ownsRow_succ (k:=0) I;have c0:=I.cellAt 0 (by decide);obtain⟨D,rfl⟩:∃ D,vs=[D]:=by
    match vs,k1 with
    | [D],_=>exact⟨D,rfl⟩
   exact⟨g,E,D,he,c0,(k3 0 (by decide)).by (by decide),M⟩
  ·rw[show 2+1=3 from rfl,T] at G;omega
theorem Acz (d:Dfa) (c:Cls) (D:∀ b,b<256->c.getLsbD b=Ξ) (hd:d=De c Τ) (v:Ν) (W:Λ) (I:Tab W) (J:0<W.heap.size) (h:IsD W v d) :
  ϓ Ζ 32 #[v] W λe w'=>∃ q u,e=θ (ϙ #[u,.int ε 0])/\IsD w' u q/\(Val q/\q.n.length<=64/\∀ x,q.has x=Ξ)/\Ext W w':=by
 subst hd;exact (Vf (De c Τ) (Ml c D Τ).val (by show (1:Nat)<=64;omega) v W I J h).mono λe w' ⟨q,⟨u,M,T⟩,E,G,U⟩=>
  ⟨q,u,M,T,⟨E.val,ψ (Agh (Ml c D Τ).val E G) (by show (1:Nat)<=64;omega),λx=>by rw[G,U1 c D];rfl⟩,U⟩
theorem Ac3 (d:Dfa) (hd:Val d/\d.n.length<=64/\∀ x,d.has x=Ξ) (v:Ν) (W:Λ) (h:IsD W v d) :
  ϓ Ζ 20 #[v,.int ε 5] W λe w'=>e=θ (ϙ #[.int ε 1099511627776,.int ε 0])/\Ext W w':=
 (Na d hd.1 hd.2.1 5 (by decide) v W h).mono λe w' ⟨D,E⟩=>⟨by rw[D,Hr hd.2.2];unfold E1;rw[if_pos (by decide)];rfl,E⟩
theorem Ac2 (d:Dfa) (hd:Val d/\d.n.length<=64/\∀ x,d.has x=Ξ) (v:Ν) (W:Λ) (h:IsD W v d) :
  ϓ Ζ 20 #[v,.int ε 6] W λe w'=>e=θ (ϙ #[.int ε 0,.int ε 2])/\Ext W w':=
 (Na d hd.1 hd.2.1 6 (by decide) v W h).mono λe w' ⟨D,E⟩=>⟨by rw[D,Hr hd.2.2];unfold E1;rw[if_neg (by decide)],E⟩
theorem Acu (d:Dfa) (hd:Val d/\d.n.length<=64/\∀ x,d.has x=Ξ) (v:Ν) (W:Λ) (h:IsD W v d) :
  ϓ Ζ 22 #[v,.int ε 1] W λe w'=>∃ a D,e=θ (ϙ #[Β a 257 D,.int ε 0])/\Ext W w':=
 (Mt d hd.1 hd.2.1 1 (by decide) v W h).mono λe w' ⟨I,E⟩=>by
  have G:Bx d.has 2=257:=by
   show 0+Ba d.has 0+Ba d.has 1=257;rw[Hr hd.2.2,Hr hd.2.2]
  rcases E with⟨_,M,he,vs,k1,J,k3⟩|⟨E,_⟩
  ·obtain⟨a,D,rfl⟩:=Eo J;rw[Iy,show 1+1=2 from rfl,G] at he;exact⟨a,D,he,I⟩
  ·rw[show 1+1=2 from rfl,G] at E;omega
theorem Ac0 (d:Dfa) (hd:Val d/\d.n.length<=64/\∀ x,d.has x=Ξ) (v:Ν) (W:Λ) (h:IsD W v d) :
  ϓ Ζ 22 #[v,.int ε 2] W λe w'=>e=θ (ϙ #[Β Γ 0 0,.int ε 2])/\Ext W w':=
 (Mt d hd.1 hd.2.1 2 (by decide) v W h).mono λe w' ⟨E,D⟩=>by
  have G:4096<Bx d.has 3:=by
   show 4096<0+Ba d.has 0+Ba d.has 1+Ba d.has 2;rw[Hr hd.2.2,Hr hd.2.2,Hr hd.2.2];decide
  rcases D with⟨D,_⟩|⟨_,he⟩
  ·rw[show 2+1=3 from rfl] at D;omega
  ·exact⟨he,E⟩
theorem Anc (A:Cls) (G:ofL [97]=A) (W:Λ) (I:Tab W) (E:0<W.heap.size) :
  ϓ Ζ 36 #[Β (Δ ⟨W.heap.size,0,Γ⟩) 3 3] (W.alloc (Ε #[.int ε 3,.int π (wd A 0),.int π (wd A 1),.int π (wd A 2),.int π (wd A 3),.int ε 0,.int ε 0,.int ε 0,.int ε 0,.int ε 8,.int π 0,.int π 0,.int π 0,.int π 0,.int ε 0,.int ε 0,.int ε 16,.int ε 16,.int ε 8,.int π 0,.int π 0,.int π 0,.int π 0,.int ε 1,.int ε 0,.int ε 5,.int ε 5] 64)) λe w'=>e=θ (ϙ #[.agg #[Β Γ 0 0,Β Γ 0 0,Β Γ 0 0],.int ε 2])/\Ext W w':=by
 rw[Ah2];have D:=(Θ W).alloc (Ε (flR [⟨3,0,0,A,0,0⟩,⟨8,0,0,0#256,16,16⟩,⟨8,1,0,0#256,5,5⟩]).toArray 64);exact (Ane A G W.heap.size _ (I.below D.below E) (δ E D.size) (Aa W _)).mono λe w' ⟨J,M⟩=>⟨J,D.trans M⟩
theorem Acp (w:Λ) (hT:Tab w) (ct:0<w.heap.size) :
  ϓ Ζ 12 #[] w λe w'=>e=θ (.bool Ξ)/\Ext w w':=by
 obtain⟨A,hA⟩:∃ A,ofL [97]=A:=⟨_,rfl⟩;obtain⟨B,hB⟩:∃ A,ofL [98,99]=A:=⟨_,rfl⟩;have c8:=λW=>Α (U5 [97] (by decide) (1,2) W #[.int .u8 97] rfl 1 rfl A hA)
 have c9:=λW=>Α (U5 [98,99] (by decide) (2,3) W #[.int .u8 98,.int .u8 99] rfl 2 rfl B hB)
 have kc:=λ(w:Λ) (C:Array Ν) (n c:Nat)=>Lib.run_convert_bytes_const (P:=Ζ) w 22 5 C n c ϻ Tryz.underlying5
 have HA:=Α hA;have HB:=Α hB;have a1:=Α (λW (T:Ext w W)=>hT.below T.below ct);have a6:=Α (λW (T:Ext w W)=>δ ct T.size);clear hA hB hT ct;go_enter Tryz.func12,Tryz.ntmps12;go_upto_region 2 with (first
  | (go_at_call 44;(with_reducible refine (c8 _).out.mono ?_);rintro e w2 ⟨rfl,dd⟩;clear c8)
  | (go_at_call 44;(with_reducible refine (c9 _).out.mono ?_);rintro e w3 ⟨rfl,de⟩;clear c9))
 simp only[Ah1];have E:=(dd.trans de).alloc (Ε (flR [⟨3,0,0,A,0,0⟩,⟨3,0,0,B,0,0⟩,⟨8,1,0,0#256,0,-1⟩,⟨4,0,2,0#256,0,0⟩]).toArray 64);have hX:=Aa w3 (Ε (flR [⟨3,0,0,A,0,0⟩,⟨3,0,0,B,0,0⟩,⟨8,1,0,0#256,0,-1⟩,⟨4,0,2,0#256,0,0⟩]).toArray 64);obtain⟨wa,cx⟩:∃ W,w3.alloc (Ε (flR [⟨3,0,0,A,0,0⟩,⟨3,0,0,B,0,0⟩,⟨8,1,0,0#256,0,-1⟩,⟨4,0,2,0#256,0,0⟩]).toArray 64)=W:=⟨_,rfl⟩;rw[cx] at E hX;simp only[cx];clear cx dd de;generalize w3.heap.size=gx at *;have df:wa.rangeAt gx 0 [.int ε 3,.int π (wd A 0),.int π (wd A 1),.int π (wd A 2),.int π (wd A 3),.int ε 0,.int ε 0,.int ε 0,.int ε 0]:=by
  have:=On hX 0 (by simp);rw[show 0+0*9=0 by rfl] at this;exact this
 have b8:=Α df;have f36:=Α (Anb A B HA.out HB.out gx wa (a1.out wa E) (a6.out wa E) hX);clear df hX;go_upto_region 3 with (first
  | (go_at_call 36;(with_reducible refine f36.out.mono ?_);rintro e w4 ⟨x,v4,rfl,hD,dg,dh,dk,dm,J⟩;have dn:=Α dh;clear dh;obtain⟨ac,lc,cc,an,cn,aa,la,ca,rfl⟩:=hD.agg)
  | (refine Φ rfl 30 (η 2) (η 48) rfl _ _ rfl rfl _ _ (Aa w4 _) Ad rfl (Aq _ _ _ rfl rfl rfl) ?_))
 obtain⟨U,I,ab⟩:=Ei hD;obtain⟨V2,M⟩:∃ X,dA (Β ac lc cc) (Β an x.n.length cn) (Β aa la ca)=X:=⟨_,rfl⟩;have eo:(Ζ.info? 30).map (·.size)=Δ V2.size:=by rw[<-M];exact Ad
 have ep:Hid (V2[1]? = Δ (Β an 3 cn)):=Α (by rw[<-M,dn.out];rfl);rw[M] at U I ab;rw[M];obtain⟨cz,hw⟩:∃ W,(w4.alloc (Ε #[Β Γ 0 0,Β Γ 0 0,Β Γ 0 0] 30)).setRow w4.heap.size V2=W:=⟨_,rfl⟩;rw[hw] at U I ab;simp only[hw];obtain⟨g2,hg⟩:∃ y,w4.heap.size=y:=⟨_,rfl⟩;rw[hg] at I;rw[hg];have D:=J.trans U;have ag:=Α I;have aj:=Α ab;have bm:=Α (ß dg.val (ß (show x.n.length<=64 by rw[dn.out];omega) (ß dk dm)));replace b8:=Α (λj v hj=>D.cell (b8.out j v hj));clear dg dk dm f36;replace E:=E.trans D;clear hD U I ab M hw hg J D;have dt:=Α (Anc A HA.out cz (a1.out cz E) (a6.out cz E));have du:(Ζ.info? 64).map (·.size)=Δ [Ν.int ε 3,.int π (wd A 0),.int π (wd A 1),.int π (wd A 2),.int π (wd A 3),.int ε 0,.int ε 0,.int ε 0,.int ε 0].length:=Qc;go_upto_region 4 with (first
  | (refine wpList_load_mid rfl 64 (η 52) rfl gx 0 rfl _ _ b8.out Tryz.underlying64 rfl du ?_)
  | (go_at_call 36;(with_reducible refine dt.out.mono ?_);rintro e w5 ⟨rfl,J⟩)
  | (refine Φ rfl 30 (η 4) (η 58) rfl _ _ rfl rfl _ _ (Aa w5 _) Ad rfl C8 ?_))
 have D:=J.trans (((Θ w5).alloc (Ε #[Β Γ 0 0,Β Γ 0 0,Β Γ 0 0] 30)).setRow (ν w5.heap.size) #[Β Γ 0 0,Β Γ 0 0,Β Γ 0 0]);obtain⟨eu,hw⟩:∃ W,(w5.alloc (Ε #[Β Γ 0 0,Β Γ 0 0,Β Γ 0 0] 30)).setRow w5.heap.size #[Β Γ 0 0,Β Γ 0 0,Β Γ 0 0]=W:=⟨_,rfl⟩;rw[hw] at D;simp only[hw];generalize w5.heap.size=g5 at *;replace ag:=Α (D.heap ag.out);replace aj:=Α (aj.out.ext D);replace E:=E.trans D;clear hw J D dt du b8;have f45:=Α (Sa [97,98] (by decide) (2,3) eu #[.int .u8 97,.int .u8 98] rfl 2 rfl);go_upto_region 5 with (first
  | (go_at_call 45;(with_reducible refine f45.out.mono ?_);rintro e w6 ⟨d2,v,rfl,hD,bu,bw,J⟩;obtain⟨ac,lc,cc,an,cn,aa,la,ca,rfl⟩:=hD.agg)
  | (refine Φ rfl 30 (η 6) (η 64) rfl _ _ rfl rfl _ _ (Aa w6 _) Ad rfl (Aq _ _ _ rfl rfl rfl) ?_))
 obtain⟨U,I,ab⟩:=Ei hD;obtain⟨V6,M⟩:∃ X,dA (Β ac lc cc) (Β an d2.n.length cn) (Β aa la ca)=X:=⟨_,rfl⟩;have ev:(Ζ.info? 30).map (·.size)=Δ V6.size:=by rw[<-M];exact Ad
 rw[M] at U I ab;rw[M];obtain⟨ew,hw⟩:∃ W,(w6.alloc (Ε #[Β Γ 0 0,Β Γ 0 0,Β Γ 0 0] 30)).setRow w6.heap.size V6=W:=⟨_,rfl⟩;rw[hw] at U I ab;simp only[hw];obtain⟨g6,hg⟩:∃ y,w6.heap.size=y:=⟨_,rfl⟩;rw[hg] at I;rw[hg];have D:=J.trans U;have al:=Α I;have ao:=Α ab;have dw:=Α (ß bu bw);clear bu bw f45;replace ag:=Α (D.heap ag.out);replace aj:=Α (aj.out.ext D);replace E:=E.trans D;clear hD U I ab M hw hg J D;have f45:=Α (Sa [97,98,99] (by decide) (3,4) ew #[.int .u8 97,.int .u8 98,.int .u8 99] rfl 3 rfl);go_upto_region 6 with (first
  | (go_at_call 45;(with_reducible refine f45.out.mono ?_);rintro e w8 ⟨d3,v,rfl,hD,bu,bw,J⟩;obtain⟨ac,lc,cc,an,cn,aa,la,ca,rfl⟩:=hD.agg)
  | (refine Φ rfl 30 (η 8) (η 70) rfl _ _ rfl rfl _ _ (Aa w8 _) Ad rfl (Aq _ _ _ rfl rfl rfl) ?_))
 obtain⟨U,I,ab⟩:=Ei hD;obtain⟨V8,M⟩:∃ X,dA (Β ac lc cc) (Β an d3.n.length cn) (Β aa la ca)=X:=⟨_,rfl⟩;have ey:(Ζ.info? 30).map (·.size)=Δ V8.size:=by rw[<-M];exact Ad
 rw[M] at U I ab;rw[M];obtain⟨c1,hw⟩:∃ W,(w8.alloc (Ε #[Β Γ 0 0,Β Γ 0 0,Β Γ 0 0] 30)).setRow w8.heap.size V8=W:=⟨_,rfl⟩;rw[hw] at U I ab;simp only[hw];obtain⟨g8,hg⟩:∃ y,w8.heap.size=y:=⟨_,rfl⟩;rw[hg] at I;rw[hg];have D:=J.trans U;have au:=Α I;have aw:=Α ab;have dy:=Α (ß bu bw);clear bu bw f45;replace ag:=Α (D.heap ag.out);replace aj:=Α (aj.out.ext D);replace al:=Α (D.heap al.out);replace ao:=Α (ao.out.ext D);replace E:=E.trans D;clear hD U I ab M hw hg J D;have f33:=Α (Acy d2 d3 dw.out.1 dy.out.1 dw.out.2 dy.out.2 _ _ c1 (a1.out c1 E) (a6.out c1 E) ao.out aw.out);go_upto_region 7 with (first
  | (refine Ο rfl 30 (η 6) rfl _ rfl _ _ _ _ al.out Κ rfl ev ?_)
  | (refine Ο rfl 30 (η 8) rfl _ rfl _ _ _ _ au.out Κ rfl ey ?_)
  | (go_at_call 33;(with_reducible refine f33.out.mono ?_);rintro e cf ⟨db,v,rfl,hD,bf,J⟩;obtain⟨ac,lc,cc,an,cn,aa,la,ca,rfl⟩:=hD.agg)
  | (refine Φ rfl 30 (η 10) (η 76) rfl _ _ rfl rfl _ _ (Aa cf _) Ad rfl (Aq _ _ _ rfl rfl rfl) ?_))
 obtain⟨U,I,ab⟩:=Ei hD;obtain⟨ea,M⟩:∃ X,dA (Β ac lc cc) (Β an db.n.length cn) (Β aa la ca)=X:=⟨_,rfl⟩;have bx:(Ζ.info? 30).map (·.size)=Δ ea.size:=by rw[<-M];exact Ad
 rw[M] at U I ab;rw[M];obtain⟨c2,hw⟩:∃ W,(cf.alloc (Ε #[Β Γ 0 0,Β Γ 0 0,Β Γ 0 0] 30)).setRow cf.heap.size ea=W:=⟨_,rfl⟩;rw[hw] at U I ab;simp only[hw];obtain⟨fs,hg⟩:∃ y,cf.heap.size=y:=⟨_,rfl⟩;rw[hg] at I;rw[hg];have D:=J.trans U;have aq:=Α I;have ar:=Α ab;have bz:=Α bf;clear bf f33;replace ag:=Α (D.heap ag.out);replace aj:=Α (aj.out.ext D);replace al:=Α (D.heap al.out);replace ao:=Α (ao.out.ext D);replace au:=Α (D.heap au.out);replace aw:=Α (aw.out.ext D);replace E:=E.trans D;clear hD U I ab M hw hg J D;have f14:=Α (Acw db bz.out _ c2 (a1.out c2 E) (a6.out c2 E) ar.out);go_upto_region 8 with (first
  | (refine Ο rfl 30 (η 10) rfl _ rfl _ _ _ _ aq.out Κ rfl bx ?_)
  | (go_at_call 14;(with_reducible refine f14.out.mono ?_);rintro e cg ⟨dq,v,rfl,hD,bf,J⟩;obtain⟨ac,lc,cc,an,cn,aa,la,ca,rfl⟩:=hD.agg)
  | (refine Φ rfl 30 (η 12) (η 83) rfl _ _ rfl rfl _ _ (Aa cg _) Ad rfl (Aq _ _ _ rfl rfl rfl) ?_))
 obtain⟨U,I,ab⟩:=Ei hD;obtain⟨bp,M⟩:∃ X,dA (Β ac lc cc) (Β an dq.n.length cn) (Β aa la ca)=X:=⟨_,rfl⟩;have e0:(Ζ.info? 30).map (·.size)=Δ bp.size:=by rw[<-M];exact Ad
 rw[M] at U I ab;rw[M];obtain⟨c3,hw⟩:∃ W,(cg.alloc (Ε #[Β Γ 0 0,Β Γ 0 0,Β Γ 0 0] 30)).setRow cg.heap.size bp=W:=⟨_,rfl⟩;rw[hw] at U I ab;simp only[hw];obtain⟨ft,hg⟩:∃ y,cg.heap.size=y:=⟨_,rfl⟩;rw[hg] at I;rw[hg];have D:=J.trans U;have ad:=Α I;have ax:=Α ab;have bk:=Α bf;clear bf f14;replace ag:=Α (D.heap ag.out);replace aj:=Α (aj.out.ext D);replace al:=Α (D.heap al.out);replace ao:=Α (ao.out.ext D);replace au:=Α (D.heap au.out);replace aw:=Α (aw.out.ext D);replace aq:=Α (D.heap aq.out);replace ar:=Α (ar.out.ext D);replace E:=E.trans D;clear hD U I ab M hw hg J D;have f16:=Α (Acx db bz.out _ c3 (a1.out c3 E) (a6.out c3 E) ar.out);go_upto_region 9 with (first
  | (refine Ο rfl 30 (η 10) rfl _ rfl _ _ _ _ aq.out Κ rfl bx ?_)
  | (go_at_call 16;(with_reducible refine f16.out.mono ?_);rintro e ch ⟨dp,v,rfl,hD,bf,J⟩;obtain⟨ac,lc,cc,an,cn,aa,la,ca,rfl⟩:=hD.agg)
  | (refine Φ rfl 30 (η 14) (η 88) rfl _ _ rfl rfl _ _ (Aa ch _) Ad rfl (Aq _ _ _ rfl rfl rfl) ?_))
 obtain⟨U,I,ab⟩:=Ei hD;obtain⟨cj,M⟩:∃ X,dA (Β ac lc cc) (Β an dp.n.length cn) (Β aa la ca)=X:=⟨_,rfl⟩;have e2:(Ζ.info? 30).map (·.size)=Δ cj.size:=by rw[<-M];exact Ad
 rw[M] at U I ab;rw[M];obtain⟨c4,hw⟩:∃ W,(ch.alloc (Ε #[Β Γ 0 0,Β Γ 0 0,Β Γ 0 0] 30)).setRow ch.heap.size cj=W:=⟨_,rfl⟩;rw[hw] at U I ab;simp only[hw];obtain⟨fu,hg⟩:∃ y,ch.heap.size=y:=⟨_,rfl⟩;rw[hg] at I;rw[hg];have D:=J.trans U;have af:=Α I;have ay:=Α ab;have bq:=Α bf;clear bf f16;replace ag:=Α (D.heap ag.out);replace aj:=Α (aj.out.ext D);replace al:=Α (D.heap al.out);replace ao:=Α (ao.out.ext D);replace au:=Α (D.heap au.out);replace aw:=Α (aw.out.ext D);replace aq:=Α (D.heap aq.out);replace ar:=Α (ar.out.ext D);replace ad:=Α (D.heap ad.out);replace ax:=Α (ax.out.ext D);replace E:=E.trans D;clear hD U I ab M hw hg J D;have f18:=Α (Acv db bz.out _ c4 (a1.out c4 E) (a6.out c4 E) ar.out);go_upto_region 10 with (first
  | (refine Ο rfl 30 (η 10) rfl _ rfl _ _ _ _ aq.out Κ rfl bx ?_)
  | (go_at_call 18;(with_reducible refine f18.out.mono ?_);rintro e ck ⟨dr,v,rfl,hD,bf,J⟩;obtain⟨ac,lc,cc,an,cn,aa,la,ca,rfl⟩:=hD.agg)
  | (refine Φ rfl 30 (η 16) (η 93) rfl _ _ rfl rfl _ _ (Aa ck _) Ad rfl (Aq _ _ _ rfl rfl rfl) ?_))
 obtain⟨U,I,ab⟩:=Ei hD;obtain⟨cl,M⟩:∃ X,dA (Β ac lc cc) (Β an dr.n.length cn) (Β aa la ca)=X:=⟨_,rfl⟩;have e4:(Ζ.info? 30).map (·.size)=Δ cl.size:=by rw[<-M];exact Ad
 rw[M] at U I ab;rw[M];obtain⟨e5,hw⟩:∃ W,(ck.alloc (Ε #[Β Γ 0 0,Β Γ 0 0,Β Γ 0 0] 30)).setRow ck.heap.size cl=W:=⟨_,rfl⟩;rw[hw] at U I ab;simp only[hw];obtain⟨fv,hg⟩:∃ y,ck.heap.size=y:=⟨_,rfl⟩;rw[hg] at I;rw[hg];have D:=J.trans U;have ah:=Α I;have ba:=Α ab;have br:=Α bf;clear bf f18;replace ag:=Α (D.heap ag.out);replace aj:=Α (aj.out.ext D);replace al:=Α (D.heap al.out);replace ao:=Α (ao.out.ext D);replace au:=Α (D.heap au.out);replace aw:=Α (aw.out.ext D);replace aq:=Α (D.heap aq.out);replace ar:=Α (ar.out.ext D);replace ad:=Α (D.heap ad.out);replace ax:=Α (ax.out.ext D);replace af:=Α (D.heap af.out);replace ay:=Α (ay.out.ext D);replace E:=E.trans D;clear hD U I ab M hw hg J D;have f20:=Α (Ac4 db bz.out _ e5 ar.out);go_upto_region 11 with (first
  | (refine Ο rfl 30 (η 10) rfl _ rfl _ _ _ _ aq.out Κ rfl bx ?_)
  | (go_at_call 20;(with_reducible refine f20.out.mono ?_);rintro e e6 ⟨rfl,J⟩))
 have D:=J;replace ag:=Α (D.heap ag.out);replace aj:=Α (aj.out.ext D);replace al:=Α (D.heap al.out);replace ao:=Α (ao.out.ext D);replace au:=Α (D.heap au.out);replace aw:=Α (aw.out.ext D);replace aq:=Α (D.heap aq.out);replace ar:=Α (ar.out.ext D);replace ad:=Α (D.heap ad.out);replace ax:=Α (ax.out.ext D);replace af:=Α (D.heap af.out);replace ay:=Α (ay.out.ext D);replace ah:=Α (D.heap ah.out);replace ba:=Α (ba.out.ext D);replace E:=E.trans D;clear J D;have f22:=Α (Ac1 db bz.out _ e6 ar.out);go_upto_region 12 with (first
  | (refine Ο rfl 30 (η 10) rfl _ rfl _ _ _ _ aq.out Κ rfl bx ?_)
  | (go_at_call 22;(with_reducible refine f22.out.mono ?_);rintro e e7 ⟨gl,fx,v0,rfl,c5,eb,J⟩))
 have D:=J;have az:=Α (ß c5 eb);clear c5 eb f20 f22;replace ag:=Α (D.heap ag.out);replace aj:=Α (aj.out.ext D);replace al:=Α (D.heap al.out);replace ao:=Α (ao.out.ext D);replace au:=Α (D.heap au.out);replace aw:=Α (aw.out.ext D);replace aq:=Α (D.heap aq.out);replace ar:=Α (ar.out.ext D);replace ad:=Α (D.heap ad.out);replace ax:=Α (ax.out.ext D);replace af:=Α (D.heap af.out);replace ay:=Α (ay.out.ext D);replace ah:=Α (D.heap ah.out);replace ba:=Α (ba.out.ext D);replace E:=E.trans D;clear J D;have f46:=Α (Ad5 Τ e7);go_upto_region 13 with (first
  | (go_at_call 46;(with_reducible refine f46.out.mono ?_);rintro e c6 ⟨vn,cN,rfl,ec,ed,cm⟩;have f32:=Α (Acz _ cN ed rfl _ c6 (a1.out c6 (E.trans cm)) (a6.out c6 (E.trans cm)) ec);clear ec ed)
  | (go_at_call 32;(with_reducible refine f32.out.mono ?_);rintro e cp ⟨da,v,rfl,hD,bf,ee⟩;have J:=cm.trans ee;clear cm ee;obtain⟨ac,lc,cc,an,cn,aa,la,ca,rfl⟩:=hD.agg)
  | (refine Φ rfl 30 (η 22) (η 108) rfl _ _ rfl rfl _ _ (Aa cp _) Ad rfl (Aq _ _ _ rfl rfl rfl) ?_))
 obtain⟨U,I,ab⟩:=Ei hD;obtain⟨ef,M⟩:∃ X,dA (Β ac lc cc) (Β an da.n.length cn) (Β aa la ca)=X:=⟨_,rfl⟩;have cq:(Ζ.info? 30).map (·.size)=Δ ef.size:=by rw[<-M];exact Ad
 rw[M] at U I ab;rw[M];obtain⟨fa,hw⟩:∃ W,(cp.alloc (Ε #[Β Γ 0 0,Β Γ 0 0,Β Γ 0 0] 30)).setRow cp.heap.size ef=W:=⟨_,rfl⟩;rw[hw] at U I ab;simp only[hw];obtain⟨fy,hg⟩:∃ y,cp.heap.size=y:=⟨_,rfl⟩;rw[hg] at I;rw[hg];have D:=J.trans U;have bg:=Α I;have bh:=Α ab;have cr:=Α bf;clear bf f46 f32;replace ag:=Α (D.heap ag.out);replace aj:=Α (aj.out.ext D);replace al:=Α (D.heap al.out);replace ao:=Α (ao.out.ext D);replace au:=Α (D.heap au.out);replace aw:=Α (aw.out.ext D);replace aq:=Α (D.heap aq.out);replace ar:=Α (ar.out.ext D);replace ad:=Α (D.heap ad.out);replace ax:=Α (ax.out.ext D);replace af:=Α (D.heap af.out);replace ay:=Α (ay.out.ext D);replace ah:=Α (D.heap ah.out);replace ba:=Α (ba.out.ext D);replace az:=Α (ß (D.cell az.out.1) (az.out.2.ext D));replace E:=E.trans D;clear hD U I ab M hw hg J D;have f20:=Α (Ac3 da cr.out _ fa bh.out);go_upto_region 14 with (first
  | (refine Ο rfl 30 (η 22) rfl _ rfl _ _ _ _ bg.out Κ rfl cq ?_)
  | (go_at_call 20;(with_reducible refine f20.out.mono ?_);rintro e fb ⟨rfl,J⟩))
 have D:=J;clear f20;replace ag:=Α (D.heap ag.out);replace aj:=Α (aj.out.ext D);replace al:=Α (D.heap al.out);replace ao:=Α (ao.out.ext D);replace au:=Α (D.heap au.out);replace aw:=Α (aw.out.ext D);replace aq:=Α (D.heap aq.out);replace ar:=Α (ar.out.ext D);replace ad:=Α (D.heap ad.out);replace ax:=Α (ax.out.ext D);replace af:=Α (D.heap af.out);replace ay:=Α (ay.out.ext D);replace ah:=Α (D.heap ah.out);replace ba:=Α (ba.out.ext D);replace bg:=Α (D.heap bg.out);replace bh:=Α (bh.out.ext D);replace az:=Α (ß (D.cell az.out.1) (az.out.2.ext D));replace E:=E.trans D;clear J D;have f20:=Α (Ac2 da cr.out _ fb bh.out);go_upto_region 15 with (first
  | (refine Ο rfl 30 (η 22) rfl _ rfl _ _ _ _ bg.out Κ rfl cq ?_)
  | (go_at_call 20;(with_reducible refine f20.out.mono ?_);rintro e fc ⟨rfl,J⟩))
 have D:=J;clear f20;replace ag:=Α (D.heap ag.out);replace aj:=Α (aj.out.ext D);replace al:=Α (D.heap al.out);replace ao:=Α (ao.out.ext D);replace au:=Α (D.heap au.out);replace aw:=Α (aw.out.ext D);replace aq:=Α (D.heap aq.out);replace ar:=Α (ar.out.ext D);replace ad:=Α (D.heap ad.out);replace ax:=Α (ax.out.ext D);replace af:=Α (D.heap af.out);replace ay:=Α (ay.out.ext D);replace ah:=Α (D.heap ah.out);replace ba:=Α (ba.out.ext D);replace bg:=Α (D.heap bg.out);replace bh:=Α (bh.out.ext D);replace az:=Α (ß (D.cell az.out.1) (az.out.2.ext D));replace E:=E.trans D;clear J D;have f22:=Α (Acu da cr.out _ fc bh.out);go_upto_region 16 with (first
  | (refine Ο rfl 30 (η 22) rfl _ rfl _ _ _ _ bg.out Κ rfl cq ?_)
  | (go_at_call 22;(with_reducible refine f22.out.mono ?_);rintro e fe ⟨fz,ga,rfl,J⟩))
 have D:=J;clear f22;replace ag:=Α (D.heap ag.out);replace aj:=Α (aj.out.ext D);replace al:=Α (D.heap al.out);replace ao:=Α (ao.out.ext D);replace au:=Α (D.heap au.out);replace aw:=Α (aw.out.ext D);replace aq:=Α (D.heap aq.out);replace ar:=Α (ar.out.ext D);replace ad:=Α (D.heap ad.out);replace ax:=Α (ax.out.ext D);replace af:=Α (D.heap af.out);replace ay:=Α (ay.out.ext D);replace ah:=Α (D.heap ah.out);replace ba:=Α (ba.out.ext D);replace bg:=Α (D.heap bg.out);replace bh:=Α (bh.out.ext D);replace az:=Α (ß (D.cell az.out.1) (az.out.2.ext D));replace E:=E.trans D;clear J D;have f22:=Α (Ac0 da cr.out _ fe bh.out);go_upto_region 17 with (first
  | (refine Ο rfl 30 (η 22) rfl _ rfl _ _ _ _ bg.out Κ rfl cq ?_)
  | (go_at_call 22;(with_reducible refine f22.out.mono ?_);rintro e bj ⟨rfl,J⟩))
 have D:=J;clear f22;replace ag:=Α (D.heap ag.out);replace aj:=Α (aj.out.ext D);replace al:=Α (D.heap al.out);replace ao:=Α (ao.out.ext D);replace au:=Α (D.heap au.out);replace aw:=Α (aw.out.ext D);replace aq:=Α (D.heap aq.out);replace ar:=Α (ar.out.ext D);replace ad:=Α (D.heap ad.out);replace ax:=Α (ax.out.ext D);replace af:=Α (D.heap af.out);replace ay:=Α (ay.out.ext D);replace ah:=Α (D.heap ah.out);replace ba:=Α (ba.out.ext D);replace bg:=Α (D.heap bg.out);replace bh:=Α (bh.out.ext D);replace az:=Α (ß (D.cell az.out.1) (az.out.2.ext D));replace E:=E.trans D;clear J D;have ff:=(γ bj g2 1 _ _ _ ag.out).trans ep.out;go_upto_region 19 with (fail)
 clear ff;have ak:=Θ bj;have b4:=λW (T:Ext bj W)=>Α (Gy _ bm.out.1 bm.out.2.1 (.agg V2) [97,99,98] (by decide) Ξ bm.out.2.2.1 (3,4) W (a1.out W (E.trans T)) (a6.out W (E.trans T)) (aj.out.ext T) #[.int .u8 97,.int .u8 99,.int .u8 98] rfl 3 rfl)
 have b5:=λW (T:Ext bj W)=>Α (Gy _ bm.out.1 bm.out.2.1 (.agg V2) [98,97] (by decide) Τ bm.out.2.2.2 (2,3) W (a1.out W (E.trans T)) (a6.out W (E.trans T)) (aj.out.ext T) #[.int .u8 98,.int .u8 97] rfl 2 rfl)
 go_upto_region 20 with (first
  | (refine Jy rfl 30 (η 2) rfl _ rfl _ _ _ _ ag.out Κ rfl eo ?_)
  | (go_at_call 29;(with_reducible refine (b4 _ ak).out.mono ?_);rintro e wA ⟨rfl,G⟩;have ak:=ak.trans G;have ag:=Α (G.heap ag.out);have ad:=Α (G.heap ad.out);have af:=Α (G.heap af.out);have ah:=Α (G.heap ah.out);clear G b4)
  | (go_at_call 29;(with_reducible refine (b5 _ ak).out.mono ?_);rintro e wA ⟨rfl,G⟩;have ak:=ak.trans G;have ag:=Α (G.heap ag.out);have ad:=Α (G.heap ad.out);have af:=Α (G.heap af.out);have ah:=Α (G.heap ah.out);clear G b5))
 have b4:=λW (T:Ext bj W)=>Α (Gy _ bk.out.1 bk.out.2.1 (.agg bp) [99] (by decide) Ξ bk.out.2.2.1 (1,2) W (a1.out W (E.trans T)) (a6.out W (E.trans T)) (ax.out.ext T) #[.int .u8 99] rfl 1 rfl)
 have eg:=λW (T:Ext bj W)=>Α (show ϓ Ζ 29 #[.agg bp,Β Γ 0 0] W λe w'=>e=θ (.bool Ξ)/\Ext W w' from (Zr _ bk.out.1 bk.out.2.1 (.agg bp) [] (Β Γ 0 0) W (a1.out W (E.trans T)) (a6.out W (E.trans T)) (ax.out.ext T) (Sl.nil _ _ _)).mono λe w' ⟨h1,h2⟩=>⟨by rw[h1,bk.out.2.2.2.1],h2⟩)
 have b5:=λW (T:Ext bj W)=>Α (Gy _ bk.out.1 bk.out.2.1 (.agg bp) [97] (by decide) Τ bk.out.2.2.2.2 (1,2) W (a1.out W (E.trans T)) (a6.out W (E.trans T)) (ax.out.ext T) #[.int .u8 97] rfl 1 rfl)
 have eh:=λW (T:Ext bj W)=>Α (Gy _ bq.out.1 bq.out.2.1 (.agg cj) [97] (by decide) Ξ bq.out.2.2.1 (1,2) W (a1.out W (E.trans T)) (a6.out W (E.trans T)) (ay.out.ext T) #[.int .u8 97] rfl 1 rfl)
 have ei:=λW (T:Ext bj W)=>Α (Gy _ bq.out.1 bq.out.2.1 (.agg cj) [98] (by decide) Τ bq.out.2.2.2 (1,2) W (a1.out W (E.trans T)) (a6.out W (E.trans T)) (ay.out.ext T) #[.int .u8 98] rfl 1 rfl)
 have ej:=λW (T:Ext bj W)=>Α (Gy _ br.out.1 br.out.2.1 (.agg cl) [99,98,97] (by decide) Ξ br.out.2.2.1 (3,4) W (a1.out W (E.trans T)) (a6.out W (E.trans T)) (ba.out.ext T) #[.int .u8 99,.int .u8 98,.int .u8 97] rfl 3 rfl)
 have ek:=λW (T:Ext bj W)=>Α (Gy _ br.out.1 br.out.2.1 (.agg cl) [97,98,99] (by decide) Τ br.out.2.2.2 (3,4) W (a1.out W (E.trans T)) (a6.out W (E.trans T)) (ba.out.ext T) #[.int .u8 97,.int .u8 98,.int .u8 99] rfl 3 rfl)
 go_upto_region 21 with (first
  | (refine Jy rfl 30 (η 12) rfl _ rfl _ _ _ _ ad.out Κ rfl e0 ?_)
  | (refine Jy rfl 30 (η 14) rfl _ rfl _ _ _ _ af.out Κ rfl e2 ?_)
  | (refine Jy rfl 30 (η 16) rfl _ rfl _ _ _ _ ah.out Κ rfl e4 ?_)
  | (go_at_call 29;(with_reducible refine (b4 _ ak).out.mono ?_);rintro e wA ⟨rfl,G⟩;have ak:=ak.trans G;have ad:=Α (G.heap ad.out);have af:=Α (G.heap af.out);have ah:=Α (G.heap ah.out);clear G b4)
  | (go_at_call 29;(with_reducible refine (eg _ ak).out.mono ?_);rintro e wA ⟨rfl,G⟩;have ak:=ak.trans G;have ad:=Α (G.heap ad.out);have af:=Α (G.heap af.out);have ah:=Α (G.heap ah.out);clear G eg)
  | (go_at_call 29;(with_reducible refine (b5 _ ak).out.mono ?_);rintro e wA ⟨rfl,G⟩;have ak:=ak.trans G;have ad:=Α (G.heap ad.out);have af:=Α (G.heap af.out);have ah:=Α (G.heap ah.out);clear G b5)
  | (go_at_call 29;(with_reducible refine (eh _ ak).out.mono ?_);rintro e wA ⟨rfl,G⟩;have ak:=ak.trans G;have ad:=Α (G.heap ad.out);have af:=Α (G.heap af.out);have ah:=Α (G.heap ah.out);clear G eh)
  | (go_at_call 29;(with_reducible refine (ei _ ak).out.mono ?_);rintro e wA ⟨rfl,G⟩;have ak:=ak.trans G;have ad:=Α (G.heap ad.out);have af:=Α (G.heap af.out);have ah:=Α (G.heap ah.out);clear G ei)
  | (go_at_call 29;(with_reducible refine (ej _ ak).out.mono ?_);rintro e wA ⟨rfl,G⟩;have ak:=ak.trans G;have ad:=Α (G.heap ad.out);have af:=Α (G.heap af.out);have ah:=Α (G.heap ah.out);clear G ej)
  | (go_at_call 29;(with_reducible refine (ek _ ak).out.mono ?_);rintro e wA ⟨rfl,G⟩;have ak:=ak.trans G;have ad:=Α (G.heap ad.out);have af:=Α (G.heap af.out);have ah:=Α (G.heap ah.out);clear G ek))
 have c5:=ak.cell az.out.1;have gb:=Ik v0 _ _ (az.out.2.ext ak);have fj:=Α (E.trans ak);go_wp2;go_ret;exact⟨rfl,fj.out⟩
structure RawAt (W:Λ) (S:Nat) (a:Option Addr) (n c A:Nat):Prop where
 hs:S<256
 ha:A<256
 by_:∃ l:List UInt8,l.length=n/\ByW W (Β a n c) l
theorem RawAt.ext {W W':Λ} {S:Nat} {a:Option Addr} {n c A:Nat} (h:RawAt W S a n c A) (D:Ext W W'):RawAt W' S a n c A:=
 ⟨h.hs,h.ha,by obtain⟨l,E,G⟩:=h.by_;exact⟨l,E,G.ext D⟩⟩
theorem Ms {α:Type} [DecidableEq α] (l D:List α) (d:α) (h:l.length=D.length) (G:∀ q,q<l.length->l.getD q d=D.getD q d):l=D:=by
 apply List.ext_getElem h;intro i E I;have:=G i E;rw[Η,Η,Μ E,Μ I] at this;exact this
theorem Acr (l D:List Nat) (v v':Ν) (w:Λ) (h:Ints w v l) (M:Ints w v' D) :
  ϓ Ζ 66 #[v,v'] w λe w'=>e=θ (.bool (decide (l=D)))/\Ext w w':=by
 obtain⟨a,c,rfl⟩:=Sl.len h;obtain⟨a',c',rfl⟩:=Sl.len M;by_cases I:l.length=D.length
 ·have hb:=h.1;have HC:Hid (0<l.length->∃ b o b' G,a=Δ ⟨b,o,Γ⟩/\a'=Δ ⟨b',G,Γ⟩/\(∀ i,i<l.length->w.cell? ⟨b,o+i,Γ⟩=Δ (iv (l.getD i 0)))/\∀ i,i<l.length->w.cell? ⟨b',G+i,Γ⟩=Δ (iv (D.getD i 0))):=Α λh0=>by
   obtain⟨b,o,c1,T,k1⟩:=Û h h0;obtain⟨b',G,c2,U,E⟩:=Û M (by omega);injection T with T
   injection U with U
   exact⟨b,o,b',G,T,U,λi hi=>k1 i (by omega),λi hi=>E i (by omega)⟩
  have HL:=Α I;rw[<-I];obtain⟨n,hn⟩:∃ n,l.length=n:=⟨_,rfl⟩;rw[hn] at HC hb;rw[hn];have HN:=Α hn;clear h M I hn;go_enter Tryz.func66,Tryz.ntmps66;go_wp2_with (fail);go_loopw [5] (λvi W=>∃ j:Nat,j<=n/\vi=.int ε j/\Ext w W/\Hid (∀ q,q<j->l.getD q 0=D.getD q 0))
   (λvi _=>n-(intOf vi).toNat)
  case atStart=>exact⟨0,by omega,rfl,Θ w,Α λq hq=>by omega⟩
  case round=>
   obtain⟨j,hj,rfl,J,HQ⟩:=hrel;by_cases ai:j<n
   ·obtain⟨b,o,b',G,rfl,rfl,k1,E⟩:=HC.out (by omega);have k1:=Be (J.cell (k1 j ai));have E:=Be (J.cell (E j ai));obtain⟨x,hx⟩:∃ x,l.getD j 0=x:=⟨_,rfl⟩;obtain⟨y,hy⟩:∃ y,D.getD j 0=y:=⟨_,rfl⟩;rw[hx] at k1;rw[hy] at E;have HX:=Α hx;have HY:=Α hy;clear hx hy;go_upto_region 6 with (fail)
    refine Dx (by kernel_rfl) (by kernel_rfl) ?_;iterate 9 (with_reducible refine è (λK hK=>?_);go_simp;first|(refine hK _ ?_;clear hK K))
    refine û ?_;rintro _ ⟨e,rfl⟩;have an:=J.trans e.ext;clear k1 E;generalize e.W=w5 at *;by_cases ao:x=y
    ·have ay:(x:Int)=(y:Int):=by omega
     go_wp2;go_roundw
     case rel=>exact⟨j+1,by omega,by go_num,an,Α λq hq=>by
      by_cases az:q<j
      ·exact HQ.out q az
      ·obtain rfl:q=j:=by omega
       rw[HX.out,HY.out,ao]⟩
     case measure=>simp[intOf];omega
    ·have ay:¬ (x:Int)=(y:Int):=by omega
     have af:Hid (decide (l=D)=Τ):=Α (decide_eq_false λe=>ao (by rw[<-HX.out,<-HY.out,e]));go_wp2;go_ret;exact⟨by rw[af.out];rfl,an⟩
   ·obtain rfl:j=n:=by omega
    have a1:Hid (decide (l=D)=Ξ):=Α (decide_eq_true (Ms l D 0 HL.out λq hq=>HQ.out q (by rw[<-HN.out];exact hq)));go_wp2;go_ret;exact⟨by rw[a1.out];rfl,J⟩
 ·have af:Hid (decide (l=D)=Τ):=Α (decide_eq_false λe=>I (by rw[e]));have bc:¬ (l.length:Int)=(D.length:Int):=by omega
  go_enter Tryz.func66,Tryz.ntmps66;go_wp2_with (fail);go_ret;exact⟨by rw[af.out];rfl,Θ w⟩
end Go.Proofs.YtaiogolidlamiaaGreatDoor
