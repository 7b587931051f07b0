/-
  The walk of PatternDivisions.
-/
import Derived.Test.YtilncahcpjlfnaaGreatDoorM18
set_option linter.unusedVariables false
set_option linter.unusedSimpArgs false
set_option maxRecDepth 100000
set_option maxHeartbeats 4000000
open Go renaming wpQuiet_step → Ϧ
open Go.Ending renaming returned → Ψ
open Go.Lib renaming hid → Z
open Go.Proofs.Tryz renaming prog → Η, underlying40 → Ο
open Go.Value renaming slice → U, slice → Ϗ, bool → ϊ
open List.cons renaming injEq → ì
open Option renaming some → J, none → I
namespace Go.Proofs.YtilncahcpjlfnaaGreatDoor
open Go.RowKit Go.Shelf
theorem MatOut.late {W:World} {a:Option Addr} {n c:Nat} {k:Bool} {ps:List PtN} {x:List UInt8} {ds:List Dfa} (T:PatOk ps) (H:DsOf ps ds) (h:MatOut W (Ψ (.tuple #[U a n c,.bool k])) ps x) :
  (k=false/\n=0/\¬ Bp ds x)\/∃ l b o,k=true/\n=ps.length/\a=J ⟨b,o,I⟩/\Bp ds x/\Cb (pts ps ds) x 0 l/\(∀ i,i<ps.length->W.cell? ⟨b,o+i*2,I⟩=J (iv (l.getD i (0,0)).1)/\W.cell? ⟨b,o+i*2+1,I⟩=J (iv (l.getD i (0,0)).2)):=by
 obtain⟨ab,X,h⟩:=h.cases T;obtain rfl:=X.unique H;rcases h with⟨h1,E⟩|⟨l,b,o,c',h1,E,h3,G⟩
 ·simp only[Ending.returned.injEq,Value.tuple.injEq,Array.mk.injEq,ì,Ϗ.injEq,ϊ.injEq,and_true] at E;exact .inl ⟨E.2,E.1.2.1,h1⟩
 simp only[Ending.returned.injEq,Value.tuple.injEq,Array.mk.injEq,ì,Ϗ.injEq,ϊ.injEq,and_true] at G;have hc:=N1 (Nat.zero_le _) h1;rw[Et H.len,List.drop_zero] at hc;exact .inr ⟨l,b,o,G.2,G.1.2.1,G.1.1,hc,h1,h3⟩
theorem UQ (l:List UInt8) (vl:Value) (b:List UInt8) (vb:Value) (w:World) (hT:Tab w) (aw:0<w.heap.size) (hl:ByW w vl l) (hb:ByW w vb b) :
  Calls Η 8 #[vl,vb] w λe w'=>e=Ψ (.bool true)/\Ext w w':=by
 have bc:=Z (λW (hW:Ext w W)=>hT.below hW.below aw);have bd:=Z (λW (hW:Ext w W)=>Nat.lt_of_lt_of_le aw hW.size);have HL:=Z (λW (hW:Ext w W)=>hl.ext hW);have HB:=Z (λW (hW:Ext w W)=>hb.ext hW);have f50:=Z (Jj w hT aw);clear hl hb hT aw;go_enter Tryz.func8,Tryz.ntmps8;go_upto_region 2 with (go_at_call 9;(with_reducible refine f50.o.mono ?_);rintro e w1 ⟨rfl,E⟩)
 clear f50;have f51:=Z (Jv l vl w1 (HL.o w1 E));go_upto_region 3 with (go_at_call 10;(with_reducible refine f51.o.mono ?_);rintro e w2 ⟨ps,gp,cp,rfl,hp,dq,cj,G⟩)
 clear f51;have HP:=Z hp;have H:=Z cj;have dr:=hp.pos;obtain⟨N,hN⟩:=Xq (ps.length);have HN:=Z hN;rw[hN] at dq dr;rw[hN];replace E:=E.t G;clear hp cj G hN;have f33:=Z (Sb 20 20 rfl (by decide) b vb w2 (HB.o w2 E));go_upto_region 4 with (go_at_call 19;(with_reducible refine f33.o.mono ?_);rintro e w3 ⟨x,gx,cx,rfl,dt,ck,du,G⟩)
 clear f33;replace H:=Z (H.o.ext G);replace E:=E.t G;have T:=Z ck;obtain⟨X,hX⟩:=Xq (x.length);have HX:=Z hX;rw[hX] at T dt du;rw[hX];clear ck G hX;have f56:=Jt ps HP.o x (by rw[HX.o];omega) gp 0 cp (U (J ⟨gx,0,I⟩) X cx) w3 (bc.o w3 E) (bd.o w3 E) H.o T.o;rw[HN.o] at f56;have f56:=Z f56;go_upto_region 5 with (go_at_call 21;(with_reducible refine f56.o.mono ?_);rintro e w4 ⟨hm,G⟩;obtain⟨am,nm,cm,ok,rfl⟩:=hm.form;have HM:=Z hm;clear hm)
 clear f56;replace H:=Z (H.o.ext G);replace T:=Z (T.o.ext G);replace E:=E.t G;clear G;have f53:=Rj ps HP.o gp 0 cp w4 (bc.o w4 E) (bd.o w4 E) H.o;rw[HN.o] at f53;have f53:=Z f53;go_upto_region 6 with (first
  | (go_at_call 15;(with_reducible refine f53.o.mono ?_);rintro e w5 ⟨ds,r,bh,cl,bj,G⟩;obtain⟨ac,lc,cc,an,ln,cn,aa,la,ca,k1,rfl⟩:=bj.form;have c4:=Z bj;clear bj)
  | (refine Sr 40 (.tmp 10) (.tmp 28) rfl (Ad w5 _) Ae rfl (Av _ _ _ rfl rfl rfl) ?_))
 clear f53;have bk:=Z bh;have c5:=Z cl;have c6:=Z (HM.o.late HP.o bh);obtain⟨bl,ao⟩:=Dv w5 (dA (U ac lc cc) (U an ln cn) (U aa la ca));have a1:=Z (c4.o.ext bl);have ad:=G.t bl;obtain⟨D,hD⟩:=Xq (dA (U ac lc cc) (U an ln cn) (U aa la ca));have bn:(Η.info? 40).map (·.size)=J D.size:=by rw[<-hD];exact Ae
 simp only[hD] at ao ad a1 ⊢;obtain⟨w6,bp⟩:=Xq ((w5.alloc (.cells #[U I 0 0,U I 0 0,U I 0 0] 40)).setRow w5.heap.size D);rw[bp] at ao ad a1;simp only[bp];obtain⟨gd,bq⟩:=Xq (w5.heap.size);rw[bq] at ao;simp only[bq];have br:=Z ao;have aq:=Z ad;replace H:=Z (H.o.ext ad);replace T:=Z (T.o.ext ad);replace E:=E.t ad;clear bp bq bl ao c4 hD bh cl G ad;cases r with
 | none=>obtain⟨rfl,-⟩:=a1.o.none_inv;go_wp2_with (fail);go_ret;exact⟨rfl,E⟩
 | some d=>
  obtain⟨rfl,hd⟩:=a1.o.some_inv;have bt:=bk.o;have ar:=He ds (λd hd=>(Or bt d hd).1) c5.o;have c7:=Nh ds (λd hd=>(Or bt d hd).2) c5.o ar.1;have f35:=Z (Mv d ar.1.val c7 (.agg D) x (U (J ⟨gx,0,I⟩) X cx) w6 (bc.o w6 E) (bd.o w6 E) hd T.o);have c8:d.has x=ok:=by
   rcases c6.o with⟨h1,_,h2⟩|⟨_,_,_,h1,_,_,h2,_⟩
   ·rw[h1];cases hx:d.has x with
    | false=>rfl
    | true=>exact absurd ((ar.2 x).1 hx) h2
   rw[h1];exact (ar.2 x).2 h2
  rw[c8] at f35;clear hd ar c7 bt c8;rcases c6.o with⟨rfl,rfl,eh⟩|⟨ll,bs,os,rfl,rfl,rfl,-,bw,bz⟩
  ·go_wp2_with (first
    | (refine Kw rfl 40 (.tmp 10) rfl _ rfl _ _ _ _ br.o Ο rfl bn ?_)
    | (go_at_call 24;(with_reducible refine f35.o.mono ?_);rintro e w7 ⟨rfl,ae⟩))
   go_ret;exact⟨rfl,E.t ae⟩
  rw[HN.o];have a6:=(Ot HP.o bk.o bw).2;have a7:=NW HP.o bk.o bw;rw[HN.o] at a6 a7 bz;rw[HX.o] at a6 a7;have dw:=Z a6;have dx:=Z a7;have b4:=Z bz;clear bw a6 a7 bz;go_upto_region 14 with (first
   | (refine Kw rfl 40 (.tmp 10) rfl _ rfl _ _ _ _ br.o Ο rfl bn ?_)
   | (go_at_call 24;(with_reducible refine f35.o.mono ?_);rintro e w7 ⟨rfl,ae⟩))
  replace E:=E.t ae;replace aq:=Z (aq.o.trans ae);replace H:=Z (H.o.ext ae);replace T:=Z (T.o.ext ae);have HE:=Z E;clear f35 E ae br bn;have E:=Κ w7;go_wp2_with (fail);go_loopw [12,13] (λva vi W=>∃ (i f:Nat),i<=N/\f<=X/\vi=.int .i64 i/\va=.int .i64 f/\Ext w7 W/\Hid (f=if i=0 then 0 else (ll.getD (i-1) (0,0)).2))
   (λ_ vi _=>N-(intOf vi).toNat)
  case atStart=>exact⟨0,0,by omega,by omega,rfl,rfl,E,Z rfl⟩
  clear E;obtain⟨i,f,ei,ej,rfl,rfl,E,HF⟩:=hrel;by_cases ai:i<N
  ·have ek:(i:Int)<(N:Int):=by omega
   obtain⟨q1,q2,q3,q4⟩:=dw.o i ai;rw[<-HF.o] at q1;have k1:=E.cell (aq.o.cell (b4.o i ai).1);have k2:=E.cell (aq.o.cell (b4.o i ai).2);obtain⟨b',o',c',da,db⟩:=H.o i (by rw[HN.o];exact ai);have dc:=(HP.o.part i (by rw[HN.o];exact ai)).1;have k3:=E.cell (da 0 _ rfl);simp only[Nat.zero_add,Nat.add_zero] at k3;rw[q1] at k1 q2 q4;obtain⟨t,ht⟩:=Xq ((ll.getD i (0,0)).2);rw[ht] at k2 q2 q3 q4;have dd:=Z ht;have en:¬ (t:Int)<(f:Int):=by omega
   have eo:(f:Int)<=(t:Int):=by omega
   have ep:¬ (X:Int)<(t:Int):=by omega
   clear q1 da ht;go_upto_region 20 with (fail)
   have er:(t:Int)<=(cx:Int):=by omega
   have et:(0:Int)<=(f:Int):=by omega
   have eu:(0:Int)<=(t:Int):=by omega
   have ev:((t:Int)-(f:Int)).toNat=t-f:=by omega
   have ew:((cx:Int)-(f:Int)).toNat=cx-f:=by omega
   obtain⟨A0,b9⟩:=Xq ((if cx=f then J ⟨gx,0,I⟩ else J ⟨gx,f,I⟩):Option Addr);have f49:=Z (λV (hV:Ext wr V)=>show Calls Η 22 #[U (J ⟨b',o',I⟩) (ps.getD i pN).xs.length c',U A0 (t-f) (cx-f)] V λe w'=>e=Ψ (.bool true)/\Ext V w' from (Nz _ dc (U (J ⟨b',o',I⟩) (ps.getD i pN).xs.length c') (seg x f t) (by rw[Gi x f t (by rw[HX.o];exact q3)];omega) (U A0 (t-f) (cx-f)) V ⟨b',o',c',rfl,db.ext (E.t hV)⟩ (by
    rw[<-b9];by_cases dg:cx=f
    ·rw[if_pos dg,show t-f=0 by omega];have e0:seg x f t=[]:=List.length_eq_zero_iff.1 (by rw[Gi x f t (by rw[HX.o];exact q3)];omega);rw[e0];exact⟨by simp,.inl ⟨rfl,_,_,rfl⟩⟩
    rw[if_neg dg];exact Ti (by rw[HX.o];exact T.o.ext (E.t hV)) f t (by omega) (by rw[HX.o];exact q3) _)).mono λe w' ⟨h1,h2⟩=>⟨by rw[h1];exact congrArg (λb=>Ending.returned (.bool b)) q4,h2⟩)
   obtain⟨xl,dh⟩:=Xq ((ps.getD i pN).xs.length);rw[dh] at f49 k3;have k1:=Aw k1;have k2:=Aw k2;have k3:=Aw k3;have dk:=λ(e:EW wr)=>Z (f49.o e.W e.ext)
   clear dh dc db q4;refine B2 (by kernel_rfl) (by kernel_rfl) ?_;iterate 17 (with_reducible refine Ϧ (λK hK=>?_);go_simp;(refine hK _ ?_;clear hK K))
   try rw[b9]
   (with_reducible refine Ϧ (λK hK=>?_))
   go_simp;apply Exists.intro;refine⟨λ_=>?_,hK _ ?_⟩
   ·(with_reducible exact Ev (dk _).o)
   clear hK K
   (with_reducible refine Ϧ (λK hK=>?_))
   go_simp;refine hK _ ?_;clear hK K;refine wpQuiet_nil ?_;rintro _ ⟨e,rfl⟩;have dm:=E.t e.ext;clear k1 k2 k3 f49 dk b9 E;generalize e.W=w8 at *;have k2:=dm.cell (aq.o.cell (b4.o i ai).2);rw[dd.o] at k2;have eb:Hid (t=if i+1=0 then 0 else (ll.getD (i+1-1) (0,0)).2):=Z (by rw[if_neg (by omega),Nat.add_sub_cancel];exact dd.o.symm);go_wp2_with (fail);go_roundw
   case rel=>exact⟨i+1,t,by omega,by omega,by go_num,rfl,dm,eb⟩
   simp[intOf]<;>omega
  obtain rfl:N=i:=by omega
  have ec:f=X:=by rw[HF.o,if_neg (by omega),dx.o]
  subst ec;go_wp2_with (fail);go_ret;exact⟨rfl,HE.o.t E⟩
end Go.Proofs.YtilncahcpjlfnaaGreatDoor
