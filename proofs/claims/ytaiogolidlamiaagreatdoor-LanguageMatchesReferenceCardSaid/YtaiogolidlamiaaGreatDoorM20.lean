import Derived.Test.YtaiogolidlamiaaGreatDoorM19
import Derived.Test.YtaiogolidlamiaaGreatDoorM15
import Derived.Test.YtaiogolidlamiaaGreatDoorM16
import Derived.Test.YtaiogolidlamiaaGreatDoorM10
import Derived.Test.YtaiogolidlamiaaGreatDoorM13
import Derived.ChangeKeysEq
import Derived.Test.YtaiogolidlamiaaGreatDoorM08
set_option linter.unusedVariables false
set_option linter.unusedSimpArgs false
open Array renaming getElem?_eq_getElem → Ϡ
open Bool renaming true → Ξ, false → Τ, eq_iff_iff → ϰ
open Classical renaming byContradiction → ϩ
open Go renaming World → Κ, Calls → Ϝ, Value → Ρ, info_parts → ϕ, wpList_load_row → Υ, wpList_make_full → ϫ, maxLen → ϙ, wpList_store_row → Φ, setRow_heap → μ, undef → ς, wpList_append_lies → ϐ, cell_one_new → Ϫ, bodyPost_ret → ϋ
open Go.Act renaming put → Ϛ
open Go.Ending renaming returned → ν
open Go.IntKind renaming i64 → ζ, u64 → π, i64 → ç
open Go.IntWalk renaming i64_in → Ý
open Go.Lib renaming hid → Α
open Go.Obj renaming cells → Ε
open Go.Operand renaming tmp → η
open Go.Proofs.Tryz renaming prog → Η, underlying30 → Ν, underlying68 → ϓ, zeroCells79 → ϖ, underlying79 → Â
open Go.Result renaming andThen_ok → ï
open Go.RowKit renaming Hid → Ϻ
open Go.Value renaming slice → Β, tuple → ϥ, oneCell' → ϊ, pointer → γ, bool → ο, slice → ϟ
open Go.World renaming ownsRow → ϛ
open List renaming range → ι, length_set → ύ, getD_eq_getElem?_getD → Ζ, setIfInBounds_toArray → Θ, set_cons_zero → Χ, set_cons_succ → Ψ, length_append → Ο, getElem?_eq_some_iff → ό, getElem?_eq_getElem → Μ, map_congr_left → Ð, mem_range → υ, length_map → Ϗ, nodup_iff_pairwise_ne → Ϧ, pairwise_map → ù, getElem?_cons_succ → É, map_cons → Ç, replicate → δ, getElem_mem → á, map_append → ϔ
open List.Pairwise renaming imp_of_mem → æ
open Nat renaming le_refl → θ, zero_add → î, le_trans → ψ, lt_of_lt_of_le → ε
open Option renaming some → Δ, none → Γ
open Option.some renaming inj → ω
namespace Go.Proofs.YtaiogolidlamiaaGreatDoor
set_option maxRecDepth 100000
set_option maxHeartbeats 8000000
open Go.RowKit Go.Shelf
theorem Adb (c:Cls) (w:Κ):Ϝ Η 63 #[.agg (Aa c)] w λe w'=>e=ν (.int ζ (sz c))/\Ext w w':=by
 have:=Ada c w;rw[Al7] at this;exact this
theorem Acl (d:Dfa) (s:Nat):sat (A3 d 0 s)=if d.ok s then 1 else 0:=by unfold sat A3;split<;>rfl
theorem Xs (d:Dfa) (hv:Val d) (hn:d.n.length<=64) (N:Nat) (hN:N<=64) (v:Ρ) (w:Κ) (h:IsD w v d) :
  Ϝ Η 21 #[v,iv N] w λe w'=>e=E3 (A5 d.has N)/\Ext w w':=by
 have HD:=Α h;have f50:=λW (G:Ext w W)=>Α (Gx d hv hn _ W (HD.out.ext G))
 obtain⟨J,M,cC,bn,on,cn,ba,oa,ca,rfl,hC,b8,b9⟩:=h.opened hv;obtain⟨e7,e8,e9,ae,cb⟩:=ä hC hv.parts.pos;injection ae with ae ec ed
 injection ae with ae
 injection ae with ee ef _
 subst ee;subst ef;clear ec ed;obtain⟨i0,hi,cf,cg,ch⟩:=ϕ Cg;have fa:=hv.parts.le;have fb:=hv.parts.pos;have cj:=hv.pos;have eg:=Α (λW (G:Ext w W) k (hk:k<d.cls.length)=>Gq (W:=W) (λi hi=>G.cell (cb i hi)) k hk);have eh:=Α b8;have ei:=Α (λW (G:Ext w W) s (hs:s<d.n.length)=>G.cell (b9 s hs));have HV:=Α hv;have ej:=Α (Ks hv N 0 hv.pos);obtain⟨V,H⟩:∃ X,dA (Β (Δ ⟨J,M,Γ⟩) d.cls.length cC) (Β (Δ ⟨bn,on,Γ⟩) d.n.length cn) (Β (Δ ⟨ba,oa,Γ⟩) d.n.length ca)=X:=⟨_,rfl⟩;have cm:V[0]? = Δ (Β (Δ ⟨J,M,Γ⟩) d.cls.length cC):=by rw[<-H];rfl
 have cp:V[1]? = Δ (Β (Δ ⟨bn,on,Γ⟩) d.n.length cn):=by rw[<-H];rfl
 have cq:V[2]? = Δ (Β (Δ ⟨ba,oa,Γ⟩) d.n.length ca):=by rw[<-H];rfl
 have ek:(Η.info? 30).map (·.size)=Δ V.size:=by rw[<-H];exact Ad
 rw[H] at HD f50 ⊢;have a7:=(Ι w).alloc (Ε V 30);have H0:=Ab w (Ε V 30);have fc:(N:Int)<=64:=by omega
 clear hC cb b8 b9 hv h H;go_enter Tryz.func21,Tryz.ntmps21;go_upto_region 1 with (fail)
 obtain⟨w1,a8⟩:∃ X,w.alloc (Ε V 30)=X:=⟨_,rfl⟩;rw[a8] at a7 H0;simp only[a8];clear a8;obtain⟨g2,bb⟩:∃ y,w.heap.size=y:=⟨_,rfl⟩;rw[bb] at H0;simp only[bb];clear bb;have aa:=Α H0;have bc:=Α a7;clear H0 a7;go_upto_region 4 with (first
  | (refine Υ rfl 30 (η 2) rfl _ rfl _ _ _ _ aa.out Ν rfl ek ?_)
  | (go_at_call 50;(with_reducible refine (f50 _ bc.out).out.mono ?_);rintro e E ⟨rfl,bd⟩;have af:=Α (bc.out.trans bd);have aa:=Α (bd.heap aa.out);clear bd))
 have cu:=Α (λW (G:Ext E W)=>Ay (G.heap aa.out) cm);have cv:=Α (λW (G:Ext E W)=>Ay (G.heap aa.out) cp);have en:=Α (λW (G:Ext E W)=>Ay (G.heap aa.out) cq);have k1:=cv.out E (Ι E);clear f50 bc cm cp cq;go_upto_region 5 with (at_make;refine ϫ _ rfl _ _ 68 rfl E.heap.size 3 i0 (.int ζ 0) 1 ϓ hi cf cg ζ ζ _ _ d.n.length rfl rfl rfl rfl (by rw[ch];omega) (by unfold ϙ;omega) (θ _) ?_;intro w3 cw cx)
 have D:=(Hp.nil E).made (show w3.ownsRow E.heap.size 3 1 (Β (Δ ⟨E.heap.size,0,Γ⟩) d.n.length d.n.length) d.n.length ((Br (λq=>sat (A3 d 0 q)) d.n.length 0).map iv) by rw[Hg,<-B7];exact cw) cx;obtain⟨gc,be⟩:∃ y,E.heap.size=y:=⟨_,rfl⟩;rw[be] at D;simp only[be];clear be cw cx k1;go_wp2_with (fail);go_loopw [8] (λT W=>∃ s:Nat,s<=d.n.length/\T=.int ζ s/\Hp E W [.row 3 1 (Β (Δ ⟨gc,0,Γ⟩) d.n.length d.n.length) d.n.length ((Br (λq=>sat (A3 d 0 q)) d.n.length s).map iv)])
  (λT _=>d.n.length-(intOf T).toNat)
 case atStart=>exact⟨0,by omega,rfl,D⟩
 case round=>
  clear D;obtain⟨s,hs,rfl,D⟩:=hrel;by_cases I:s<d.n.length
  ·have ep:(s:Int)<(d.n.length:Int):=by omega
   have k2:=en.out wr D.ext;have ka:=ei.out wr (af.out.trans D.ext) s I;have ag:=Acl d s;obtain⟨b,hb⟩:∃ b,d.ok s=b:=⟨_,rfl⟩;rw[hb] at ka ag;clear hb;cases b with
   | true=>
    have co:=Am 0 (D.row 0 rfl) (C2 _ _ _).symm s (by rw[C2];exact I);have fo:=(D.row 0 rfl).frozenAt s;have ab:=D.putf 0 rfl s (sat (A3 d 0 s));rw[F0 (λq=>sat (A3 d 0 q)) _ _ I,ag] at ab;clear ag D;go_wp2;go_roundw
    case rel=>exact⟨s+1,by omega,by go_num,ab⟩
    case measure=>simp[intOf];omega
   | false=>
    have dc:=Xf (λq=>sat (A3 d 0 q)) d.n.length s (by rw[ag];rfl);rw[dc] at D;clear ag dc;go_wp2;go_roundw
    case rel=>exact⟨s+1,by omega,by go_num,D⟩
    case measure=>simp[intOf];omega
  ·obtain rfl:s=d.n.length:=by omega
   rw[I5] at D;go_wp2_with (fail);go_loopw [7,9] (λvc T W=>∃ g i:Nat,i<=N/\vc=Β (Δ ⟨g,0,Γ⟩) d.n.length d.n.length/\T=.int ζ i/\Hp E W [.row 3 1 (Β (Δ ⟨g,0,Γ⟩) d.n.length d.n.length) d.n.length (((ι d.n.length).map λq=>sat (A3 d i q)).map iv)])
    (λ_ T _=>N-(intOf T).toNat)
   case atStart=>exact⟨gc,0,by omega,rfl,rfl,D⟩
   case round=>
    clear D;obtain⟨gx,i,ff,rfl,rfl,D⟩:=hrel;by_cases fg:i<N
    ·have fh:(i:Int)<(N:Int):=by omega
     have dd:=D.size;go_upto_region 14 with (at_make;refine ϫ _ rfl _ _ 68 rfl E.heap.size 3 i0 (.int ζ 0) 1 ϓ hi cf cg ζ ζ _ _ d.n.length rfl rfl rfl rfl (by rw[ch];omega) (by unfold ϙ;omega) dd ?_;intro w4 de df)
     have ab:=D.made (show w4.ownsRow E.heap.size 3 1 (Β (Δ ⟨wr.heap.size,0,Γ⟩) d.n.length d.n.length) d.n.length ((Br (λq=>sat (A3 d (i+1) q)) d.n.length 0).map iv) by rw[Hg,<-B7];exact de) df;obtain⟨gy,bg⟩:∃ y,wr.heap.size=y:=⟨_,rfl⟩;rw[bg] at ab;simp only[bg];clear bg de df D dd;go_wp2_with (fail);go_loopw [11] (λvs W=>∃ s:Nat,s<=d.n.length/\vs=.int ζ s/\Hp E W [.row 3 1 (Β (Δ ⟨gy,0,Γ⟩) d.n.length d.n.length) d.n.length ((Br (λq=>sat (A3 d (i+1) q)) d.n.length s).map iv),.row 3 1 (Β (Δ ⟨gx,0,Γ⟩) d.n.length d.n.length) d.n.length (((ι d.n.length).map λq=>sat (A3 d i q)).map iv)])
      (λvs _=>d.n.length-(intOf vs).toNat)
     case atStart=>exact⟨0,by omega,rfl,ab⟩
     case round=>
      clear ab;obtain⟨s,hs,rfl,D⟩:=hrel;by_cases I:s<d.n.length
      ·have ep:(s:Int)<(d.n.length:Int):=by omega
       rw[<-Xg (λq=>sat (A3 d (i+1) q)) d.n.length s] at D;have dg:sat (Du d i s 0)=0:=rfl;rw[<-dg] at D;clear dg;obtain⟨br,dk,cr,dm,dn⟩:=eh.out s I;have ew:=Α dm;have ey:=Α dn;clear dm dn;go_wp2_with (fail);go_loopw [12] (λvk W=>∃ k:Nat,k<=d.cls.length/\vk=.int ζ k/\Hp E W [.row 3 1 (Β (Δ ⟨gy,0,Γ⟩) d.n.length d.n.length) d.n.length (((Br (λq=>sat (A3 d (i+1) q)) d.n.length s).set s (sat (Du d i s k))).map iv),.row 3 1 (Β (Δ ⟨gx,0,Γ⟩) d.n.length d.n.length) d.n.length (((ι d.n.length).map λq=>sat (A3 d i q)).map iv)])
        (λvk _=>d.cls.length-(intOf vk).toNat)
       case atStart=>exact⟨0,by omega,rfl,D⟩
       case round=>
        clear D;obtain⟨k,hk,rfl,D⟩:=hrel;have c0:=cu.out wr D.ext;by_cases au:k<d.cls.length
        ·have fj:(k:Int)<(d.cls.length:Int):=by omega
         go_upto_region 20 with (fail)
         clear c0;have bj:=HV.out.tgt s I k au;have bk:d.cls.getD k 0#256≠0#256:=HV.out.parts.nz _ (D9 _ _ _ au);have bl:=Zm d i s k;obtain⟨c,ad⟩:∃ c,d.cls.getD k 0#256=c:=⟨_,rfl⟩;rw[ad] at bk bl;have ah:=Te (Du d i s k) (sz c) (A3 d i (d.ent2 s k)) (by
          rcases Nat.eq_zero_or_pos (sz c) with h1|h1
          ·exact absurd ((Lj c).1 h1) bk
          ·exact h1)
         rw[<-bl] at ah;have ez:=Jy (Du d i s k);have bo:=Jy (A3 d i (d.ent2 s k));have dp:sz c<=256:=Si c;have f63:=λW=>Α (Adb c W)
         have bp:s<(Br (λq=>sat (A3 d (i+1) q)) d.n.length s).length:=by rw[C2];exact I
         have ai:=Α (λ(X:Κ) (U:Ext wr X)=>(show
           X.cell? ⟨gy,s,Γ⟩=Δ (iv (sat (Du d i s k)))/\X.cell? ⟨g2,0,Γ⟩=Δ (Β (Δ ⟨J,M,Γ⟩) d.cls.length cC)/\X.cell? ⟨g2,1,Γ⟩=Δ (Β (Δ ⟨bn,on,Γ⟩) d.n.length cn)/\
           X.cell? ⟨bn,on+s,Γ⟩=Δ (Β (Δ ⟨br,dk,Γ⟩) d.cls.length cr)/\X.cell? ⟨br,dk+k,Γ⟩=Δ (iv (d.ent2 s k))/\X.cell? ⟨gx,d.ent2 s k,Γ⟩=Δ (iv (sat (A3 d i (d.ent2 s k))))/\
           (X.cell? ⟨J,M+k*4,Γ⟩=Δ (.int π (wd c 0))/\X.cell? ⟨J,M+k*4+1,Γ⟩=Δ (.int π (wd c 1))/\X.cell? ⟨J,M+k*4+2,Γ⟩=Δ (.int π (wd c 2))/\X.cell? ⟨J,M+k*4+3,Γ⟩=Δ (.int π (wd c 3))) from
          ⟨by
           have:=Am 0 (Ah (D.row 0 rfl) U) (by rw[ύ,C2]) s (by rw[ύ];exact bp);rw[Bb _ _ _ _ _ bp,if_pos rfl] at this;exact this,cu.out X (D.ext.trans U),cv.out X (D.ext.trans U),(af.out.trans (D.ext.trans U)).cell ew.out,(af.out.trans (D.ext.trans U)).cell (ey.out k au),by
           have:=Am 0 (Ah (D.row 1 rfl) U) (by simp) (d.ent2 s k) (by simpa using bj);rw[show ((ι d.n.length).map λq=>sat (A3 d i q)).getD (d.ent2 s k) 0=sat (A3 d i (d.ent2 s k)) by simp[Ζ,bj]] at this;exact this,by rw[<-ad];exact eg.out X (af.out.trans (D.ext.trans U)) k au⟩))
         clear bl bk ad bp;obtain⟨A,hA⟩:∃ x,sat (Du d i s k)=x:=⟨_,rfl⟩;obtain⟨x,hx⟩:∃ x,d.ent2 s k=x:=⟨_,rfl⟩;rw[hA,hx] at ai;rw[hA,hx] at ah;rw[hA] at ez D;rw[hx] at bj bo;obtain⟨B,hB⟩:∃ y,sat (A3 d i x)=y:=⟨_,rfl⟩;rw[hB] at ai ah bo;have aj:=Α ah;obtain⟨z,hz⟩:∃ y,sz c=y:=⟨_,rfl⟩;simp only[hz] at f63;rw[hz] at aj dp;clear ah hz hB hx hA;have dr:z*B<=256*1099511627777:=Nat.mul_le_mul dp bo;obtain⟨p,hp⟩:∃ p:Nat,z*B=p:=⟨_,rfl⟩;rw[hp] at dr aj;have e0:(z:Int)*(B:Int)=(p:Int):=by rw[<-hp];push_cast;rfl
         clear hp;have e1:ç.wrap (p:Int)=(p:Int):=Ý _ ⟨by omega,by omega⟩;have e2:ç.wrap ((A:Int)+(p:Int))=((A+p:Nat):Int):=by rw[show ((A+p:Nat):Int)=(A:Int)+(p:Int) by push_cast;rfl];exact Ý _ ⟨by omega,by omega⟩
         have fk:(x:Int)<(d.n.length:Int):=by omega
         refine B0 29 [(0,Ξ),(1,Ξ),(2,Ξ),(3,Ξ),(4,Ξ),(5,Ξ),(6,Ξ),(7,Ξ),(8,Ξ),(9,Ξ),(10,Ξ),(12,Ξ),(13,Ξ),(14,Ξ),(15,Ξ),(16,Ξ),(17,Ξ),(18,Ξ),(19,Ξ),(20,Ξ),(21,Ξ),(22,Ξ),(25,Ξ),(26,Ξ),(11,Τ),(23,Ξ),(24,Ξ),(27,Ξ),(28,Ξ),(29,Τ)] (by kernel_rfl) (by kernel_rfl) (λ_ _ _ _ h=>h)
          (λW=>Ext wr W) (Ι wr).drew ?_
         have hd:=(Ι wr).drew;obtain⟨wq,bu⟩:∃ X,wr.drew=X:=⟨_,rfl⟩;rw[bu] at hd;rw[bu];clear bu;iterate 24
          refine Ao (v:=?_) rfl rfl (λV H=>?_) ?_
          rotate_left
          ·obtain⟨c0,c1,c2,c3,c4,c5,c6,c7,c8,c9⟩:=ai.out V H;clear H;go_simp;first|done|with_reducible rfl
          simp only[Ϛ,Θ,Χ,Ψ]
         refine A4 rfl (λKq ak=>?_);go_simp;with_reducible refine (f63 wq).out.mono ?_
         rintro e w7 ⟨rfl,dt⟩;have ay:=hd.trans dt;refine ak _ _ (λ_=>ay) ?_;clear ak Kq;refine Ao (v:=.int ζ (p:Int)) rfl rfl (λV _=>?_) ?_
         ·go_simp
         simp only[Ϛ,Θ,Χ,Ψ];refine Ao (v:=.int ζ ((A+p:Nat):Int)) rfl rfl (λV _=>?_) ?_
         ·go_simp
         simp only[Ϛ,Θ,Χ,Ψ];refine Ao (v:=.int ζ ((min (A+p) 1099511627777:Nat):Int)) rfl rfl (λV _=>?_) ?_
         ·go_simp;rw[show ç.wrap 1099511627777=1099511627777 from Ý _ ⟨by omega,by omega⟩];omega
         simp only[Ϛ,Θ,Χ,Ψ];refine Ao (v:=?_) rfl rfl (λV H=>?_) ?_
         rotate_left
         ·clear H;go_simp;first|done|with_reducible rfl
         simp only[Ϛ,Θ,Χ,Ψ];have bx:=D.extW ay;have fo:=(bx.row 0 rfl).frozenAt s;have co:=(ai.out w7 ay).1;have du:=bx.putf 0 rfl s (min (A+p) 1099511627777);rw[List.set_set,aj.out] at du;have dv:=Α aj.out;refine A4 rfl (λKq ak=>?_);go_simp;refine ak _ _ (λh=>absurd h (by omega)) ?_;clear ak Kq;refine B2 ?_;have dw:((min (A+p) 1099511627777:Nat):Int)=((sat (Du d i s (k+1)):Nat):Int):=congrArg _ dv.out;simp only[dw];clear dw dv aj fo co e1 e2 e0 dr D bx dt ay hd ai f63;go_wp2;go_roundw
         case rel=>exact⟨k+1,by omega,by go_num,du⟩
         case measure=>simp[intOf];omega
        ·obtain rfl:k=d.cls.length:=by omega
         rw[Zn,F0 (λq=>sat (A3 d (i+1) q)) _ _ I] at D;go_wp2;go_roundw
         case rel=>exact⟨s+1,by omega,by go_num,D⟩
         case measure=>simp[intOf];omega
      ·obtain rfl:s=d.n.length:=by omega
       rw[I5] at D;have e5:=D.swap.tail;go_wp2;go_roundw
       case rel=>exact⟨gy,i+1,by omega,rfl,by go_num,e5⟩
       case measure=>simp[intOf];omega
    ·obtain rfl:i=N:=by omega
     have cz:=Am 0 (D.row 0 rfl) (by simp) 0 (by simpa using cj);have dx:((ι d.n.length).map λq=>sat (A3 d i q)).getD 0 0=sat (A3 d i 0):=by simp[Ζ,cj]
     have ad:A3 d i 0=A5 d.has i:=ej.out;rw[dx,ad] at cz;obtain⟨C,bz⟩:∃ C,A5 d.has i=C:=⟨_,rfl⟩;rw[bz] at cz;have dy:=af.out.trans D.ext;have ea:=Α bz;clear dx ad bz D;by_cases eb:C<=1099511627776
     ·have al:sat C=C:=Nat.min_eq_left (by omega);rw[al] at cz;clear al;have fx:¬ (1099511627776:Int)<(C:Int):=by omega
      go_wp2;go_ret2;exact⟨by rw[ea.out];unfold E3;rw[if_pos eb];rfl,dy⟩
     ·have al:sat C=1099511627777:=Nat.min_eq_right (by omega);rw[al] at cz;clear al;go_wp2;go_ret2;exact⟨by rw[ea.out];unfold E3;rw[if_neg eb];rfl,dy⟩
theorem Aad {D G:List Ρ} {E H:List (List UInt8)} (h:D.length=E.length):Cq (D++G) (E++H)=Cq D E++Cq G H:=List.zipWith_append h
theorem Acb {G H:List Ρ} {D I:List (List UInt8)} (h:Som G D) (J:Som H I):Som (G++H) (D++I):=by
 refine⟨by simp[h.1,J.1],λi hi=>?_⟩;rw[Ο] at hi;have M:∀ {α:Type} (l m:List α) (d:α),i<l.length->(l++m).getD i d=l.getD i d:=λl m d E=>by
  rw[Ζ,Ζ,List.getElem?_append_left E]
 have T:∀ {α:Type} (l m:List α) (d:α),l.length<=i->(l++m).getD i d=m.getD (i-l.length) d:=λl m d E=>by
  rw[Ζ,Ζ,List.getElem?_append_right E]
 have E:=h.1;by_cases e:i<D.length
 ·rw[M D I _ e,M G H _ (by omega)];exact h.2 i e
 ·rw[T D I _ (by omega),T G H _ (by omega),E];exact J.2 _ (by omega)
theorem Aez (r o:Ch) (A B:List Ch):(o::r::(B++A)).Perm ((r::A)++(o::B)):=by
 have D:((r::A)++(o::B)).Perm (o::((r::A)++B)):=List.perm_middle;exact (D.trans (((List.perm_append_comm (l₁:=A) (l₂:=B)).cons r).cons o)).symm
theorem Hp.wrds {w0 W:Κ} {v:Ρ} {D:List Ρ} {E:List (List UInt8)} (h:Hp w0 W (.row 22 1 v D.length D::Cq D E)) (hs:D.length=E.length):Wrds W v E:=by
 refine⟨D,hs,?_,λi hi=>?_⟩
 ·rw[<-hs];exact Ge (h.row 0 rfl)
 ·exact Ge (h.row (i+1) (Ro hs i hi))
theorem Ahu (d:Dfa) (hv:Val d) (hn:d.n.length<=64) (N:Nat) (hN:N<=8) (v:Ρ) (w:Κ) (h:IsD w v d) :
  Ϝ Η 23 #[v,iv N] w λe w'=>Ext w w'/\((Bw d.has (N+1)<=4096/\∃ vo,e=ν (ϥ #[vo,.int ζ 0])/\Wrds w' vo (Ca d.has (N+1)))\/(4096<Bw d.has (N+1)/\e=ν (ϥ #[Β Γ 0 0,.int ζ 2]))):=by
 have HD:=Α h;have f50:=λW (I:Ext w W)=>Α (Gx d hv hn _ W (HD.out.ext I))
 have f51:=λW (I:Ext w W)=>Α (J5 d hv hv.parts.le _ W (HD.out.ext I))
 have f21:=Α (λk (hk:k<=N) W (I:Ext w W)=>Xs d hv hn k (by omega) _ W (HD.out.ext I));have a7:=Α (Bm hv);have ch:=Α (Dn d);obtain⟨cj,ck,cl,cm,cp⟩:=ϕ (show (Η.info? 22).map (λi=>(i.zero,i.size,i.bytes))=Δ (Δ (Β Γ 0 0),1,24) by kernel_rfl);obtain⟨ac,lc,cc,an,cn,aa,la,ca,rfl⟩:=h.agg;obtain⟨V,hV⟩:∃ X,dA (Β ac lc cc) (Β an d.n.length cn) (Β aa la ca)=X:=⟨_,rfl⟩;have hi:(Η.info? 30).map (·.size)=Δ V.size:=by rw[<-hV];exact Ad
 rw[hV] at HD f50 f51 f21 ⊢;have ba:=(Ι w).alloc (Ε V 30);have H0:=Ab w (Ε V 30);have dw:(N:Int)<=8:=by omega
 clear h hV hv;go_enter Tryz.func23,Tryz.ntmps23;go_upto_region 1 with (fail)
 obtain⟨w1,bb⟩:∃ X,w.alloc (Ε V 30)=X:=⟨_,rfl⟩;rw[bb] at ba H0;simp only[bb];clear bb;obtain⟨g2,bc⟩:∃ y,w.heap.size=y:=⟨_,rfl⟩;rw[bc] at H0;simp only[bc];clear bc;have ah:=Α H0;have bd:=Α ba;clear H0 ba;go_wp2_with (first
  | (refine Υ rfl 30 (η 2) rfl _ rfl _ _ _ _ ah.out Ν rfl hi ?_)
  | (go_at_call 50;(with_reducible refine (f50 _ bd.out).out.mono ?_);rintro e w2 ⟨rfl,be⟩;have ai:=Α (bd.out.trans be);have ah:=Α (be.heap ah.out);clear be))
 clear f50 bd;go_loopw [6,7] (λvs vk W=>∃ (k:Nat),k<=N+1/\vs=.int ζ (Bw d.has k)/\vk=.int ζ k/\Ext w2 W/\Ϻ (Bw d.has k<=4096))
  (λ_ vk _=>N+1-(intOf vk).toNat)
 case atStart=>exact⟨0,by omega,rfl,rfl,Ι _,Α (Nat.zero_le _)⟩
 case round=>
  obtain⟨k,hk,rfl,rfl,J,HC⟩:=hrel;by_cases ar:k<=N
  ·have au:(k:Int)<=(N:Int):=by omega
   have af:=Α (J.heap ah.out);have f:=f21.out k ar wr (ai.out.trans J);have bn:Bw d.has (k+1)=Bw d.has k+A5 d.has k:=rfl;have ag:=Α bn;have bo:=Α (My d.has (show k+1<=N+1 by omega));obtain⟨c,hc⟩:∃ c,A5 d.has k=c:=⟨_,rfl⟩;rw[hc] at f ag;obtain⟨a,ha⟩:∃ a,Bw d.has k=a:=⟨_,rfl⟩;rw[ha] at ag HC;simp only[ha];clear bn hc;by_cases bq:c<=1099511627776
   ·unfold E3 at f;rw[if_pos bq] at f;have F:=Α f;clear f;have cz:=HC.out;have c1:ç.wrap ((a:Int)+(c:Int))=((a+c:Nat):Int):=by rw[show ((a+c:Nat):Int)=(a:Int)+(c:Int) by push_cast;rfl];exact Ý _ ⟨by omega,by omega⟩
    by_cases c2:a+c<=4096
    ·have c3:¬ (4096:Int)<((a+c:Nat):Int):=by omega
     have c4:Ϻ (Bw d.has (k+1)<=4096):=Α (by rw[ag.out];exact c2);have c5:Ϻ (((a+c:Nat):Int)=((Bw d.has (k+1):Nat):Int)):=Α (by rw[ag.out]);go_wp2_with (first
      | (refine Υ rfl 30 (η 2) rfl _ rfl _ _ _ _ af.out Ν rfl hi ?_)
      | (go_at_call 21;(with_reducible refine F.out.mono ?_);rintro e H ⟨rfl,D⟩))
     have c6:=J.trans D;go_roundw
     case rel=>exact⟨k+1,by omega,by rw[<-c5.out];rfl,by go_num,c6,c4⟩
     case measure=>simp[intOf];omega
    ·have c3:(4096:Int)<((a+c:Nat):Int):=by omega
     have bf:Ϻ (4096<Bw d.has (N+1)):=Α (by have:=bo.out;have:=ag.out;omega);go_wp2_with (first
      | (refine Υ rfl 30 (η 2) rfl _ rfl _ _ _ _ af.out Ν rfl hi ?_)
      | (go_at_call 21;(with_reducible refine F.out.mono ?_);rintro e H ⟨rfl,D⟩))
     go_ret2;exact⟨(ai.out.trans J).trans D,.inr ⟨bf.out,rfl⟩⟩
   ·unfold E3 at f;rw[if_neg bq] at f;have F:=Α f;clear f;have bf:Ϻ (4096<Bw d.has (N+1)):=Α (by have:=bo.out;have:=ag.out;omega);have cz:=HC.out;have c1:ç.wrap ((a:Int)+0)=(a:Int):=by rw[Int.add_zero];exact Ý _ ⟨by omega,by omega⟩
    go_wp2_with (first
     | (refine Υ rfl 30 (η 2) rfl _ rfl _ _ _ _ af.out Ν rfl hi ?_)
     | (go_at_call 21;(with_reducible refine F.out.mono ?_);rintro e H ⟨rfl,D⟩))
    go_ret2;exact⟨(ai.out.trans J).trans D,.inr ⟨bf.out,rfl⟩⟩
  ·obtain rfl:k=N+1:=by omega
   have au:¬ ((N+1:Nat):Int)<=(N:Int):=by omega
   have af:=Α (J.heap ah.out);have f51:=f51 wr (ai.out.trans J);have aw:∀ A,IsR w1 A (Ae d)->True:=λ_ _=>trivial
   clear aw;go_upto_region 12 with (first
    | (refine Υ rfl 30 (η 2) rfl _ rfl _ _ _ _ af.out Ν rfl hi ?_)
    | (go_at_call 51;(with_reducible refine f51.out.mono ?_);rintro e M ⟨A,rfl,hA,br⟩;have c7:=Α ((ai.out.trans J).trans br);have HA:=Α hA;clear br;obtain⟨_,_,_,_,_,_,bt,c8,_⟩:=hA.opened a7.out;have aw:(Η.info? 79).map (·.size)=Δ A.size:=(by rw[bt];exact Cp);have bu:ϖ.size=A.size:=(by rw[Fe,bt]))
    | (refine Φ rfl 79 (η 10) (η 45) rfl _ A rfl rfl _ _ (Ab M _) aw bu c8 ?_))
   have D:=((Ι M).alloc (Ε ϖ 79)).setRow (θ _) A;have ax:=μ (M.alloc (Ε ϖ 79)) M.heap.size _ A _ _ (Ab M _);obtain⟨H,ay⟩:∃ X,(M.alloc (Ε ϖ 79)).setRow M.heap.size A=X:=⟨_,rfl⟩;obtain⟨dy,bj⟩:∃ y,M.heap.size=y:=⟨_,rfl⟩;rw[bj] at ay ax D;rw[ay] at D ax;simp only[bj];simp only[ay];clear ay bj hA bu J af f51;have HA:=Α (λW (I:Ext H W)=>HA.out.ext (D.trans I));have HO:=Α (λW (I:Ext H W)=>I.heap ax);have db:=Α (c7.out.trans D);have E:=(Hp.nil H).lit 22 1 #[] 0 (by unfold ϙ;omega) rfl;have bw:=Α (λk=>(show wfs (Ae d) 0 k=Bp d.has k from Rn k λu=>ch.out u));have bx:=Α (λk (hk:k<=N)=>(show A5 (λu=>(Ae d).ok ((Ae d).run 0 u)) k<=4096 by
    have h1:A5 (λu=>(Ae d).ok ((Ae d).run 0 u)) k=A5 d.has k:=congrArg List.length (bw.out k);have h2:Bw d.has (k+1)=Bw d.has k+A5 d.has k:=rfl;have h3:=My d.has (show k+1<=N+1 by omega);have h4:=HC.out;omega))
   have de:(Ae d).n.length<=65536:=by show d.n.length<=_;omega
   have df:0<(Ae d).n.length:=a7.out.pos;clear D ax;go_upto_region 13 with (fail)
   obtain⟨w5,bk⟩:∃ X,H.alloc (Ε #[] 22)=X:=⟨_,rfl⟩;obtain⟨dg,bl⟩:∃ y,H.heap.size=y:=⟨_,rfl⟩;rw[bk,bl] at E;simp only[bk,bl];clear bk bl;go_wp2_with (fail);go_loopw [11,12] (λvo vk W=>∃ (G:List Ρ) (ws:List (List UInt8)) (g c k:Nat),k<=N+1/\vo=Β (Δ ⟨g,0,Γ⟩) G.length c/\vk=.int ζ k/\Hp H W (.row 22 1 (Β (Δ ⟨g,0,Γ⟩) G.length c) G.length G::Cq G ws)/\Ϻ (Som G ws/\ws=Ca d.has k))
    (λ_ vk _=>N+1-(intOf vk).toNat)
   case atStart=>exact⟨[],[],dg,0,0,by omega,rfl,rfl,E,Α ⟨⟨rfl,λi hi=>by simp at hi⟩,rfl⟩⟩
   case round=>
    clear E au hk;obtain⟨G,ws,g,c,k,hk,rfl,rfl,E,T⟩:=hrel;by_cases ar:k<=N
    ·have au:(k:Int)<=(N:Int):=by omega
     have f65:=Α (show Ϝ Η 65 #[.agg A,.int ζ 0,.int ζ k] wr _ from Aae (Ae d) a7.out de A k 0 wr (by omega) df (HA.out wr E.ext) (bx.out k ar));have bz:=Α (HO.out wr E.ext);go_upto_region 15 with (first
      | (refine Υ rfl 79 (η 10) rfl _ rfl _ _ _ _ bz.out Â rfl aw ?_)
      | (go_at_call 65;(with_reducible refine f65.out.mono ?_);rintro e w7 ⟨g9,c9,U,rfl,b4,b5⟩;have aj:=(E.join b4).perm (Aez _ _ _ _);have a1:=Α b5;have ed:U.length<=4096:=(by rw[a1.out.1];exact bx.out k ar);have ee:G.length<=4096:=(by
        rw[T.out.1.1,T.out.2,Ir];have h3:=My d.has (show k<=N+1 by omega);have h4:=HC.out;omega);have b6:=aj.size;have b7:∀ j v,U[j]? = Δ v->w7.cell? ((⟨g9,0,Γ⟩:Addr).add j)=Δ v:=(λj v hj=>by
        rw[Zh,î,ϛ.cellAt (aj.row 1 rfl) j (by have:=(ό.1 hj).1;omega)];exact hj);have b8:=Α b7;have b9:∀ u∈U,u.oneCell'=Ξ:=(λu hu=>by
        obtain⟨j,hj,rfl⟩:=Gj (d:=ς) hu;obtain⟨g',c',e⟩:=a1.out.2 j (by rw[<-a1.out.1];exact hj);rw[e];rfl);clear b7 E b4 b5)
      | (at_builtin;refine wpList_append_own_at _ rfl _ _ 38 rfl H.heap.size 22 cj (Β Γ 0 0) 1 24 Tryz.underlying38 ck cl cm cp rfl (by decide) _ _ _ rfl (aj.row 0 rfl) ⟨g9,0,Γ⟩ U.length _ U rfl (by simp) b8.out b9 (by unfold ϙ;omega) (by omega) b6 ?_;intro v8 w8 bm cb cd cf))
     obtain⟨gq,cq,rfl⟩:∃ g c,v8=Β (Δ ⟨g,0,Γ⟩) (G.length+U.length) c:=by
      rcases bm.2 with⟨h1,_⟩|⟨g,dp,_,h1,_⟩
      ·have:=(cd.1 h1).1;cases this
      ·exact⟨g,dp,h1⟩
     have dq:=(aj.app 0 rfl bm cb (by
      rcases cf with e|e
      ·exact .inl e.symm
      ·exact .inr (ω e))).sub (List.Sublist.cons_cons _ (List.Sublist.cons _ (List.Sublist.refl _)))
     have dr:Ϻ (Som (G++U) (ws++wfs (Ae d) 0 k)/\ws++wfs (Ae d) 0 k=Ca d.has (k+1)):=Α ⟨Acb T.out.1 a1.out,by rw[T.out.2,bw.out];rfl⟩;have dt:=Α T.out.1.1;clear bm cb cd cf aj b8 b9 b6 T f65 bz;go_wp2;go_roundw
     case rel=>exact⟨G++U,ws++wfs (Ae d) 0 k,gq,cq,k+1,by omega,by rw[Ο],by go_num,by rw[Aad dt.out,Ο];exact dq,dr⟩
     case measure=>simp[intOf];omega
    ·obtain rfl:k=N+1:=by omega
     have au:¬ ((N+1:Nat):Int)<=(N:Int):=by omega
     have du:=db.out.trans E.ext;have cg:=Α (E.wrds T.out.1.1);rw[T.out.2] at cg;clear E;go_wp2;go_ret2;exact⟨du,.inl ⟨HC.out,_,rfl,cg.out⟩⟩
theorem Acs (u v:List UInt8) (va D:Ρ) (w:Κ) (hu:By w va u) (hv:By w D v) :
  Ϝ Η 42 #[va,D] w λe w'=>e=ν (.bool (decide (u=v)))/\Ext w w':=by
 have H:=Ib va u w hu;have I:=Ib D v w hv;have E:=Ι w;go_enter Tryz.func42,Tryz.ntmps42;go_wp2;have G:(u==v)=decide (u=v):=by rw[ϰ];simp
 rw[G];go_ret;exact⟨rfl,E⟩
theorem WordV.toBy {W:Κ} {v:Ρ} {x:List UInt8} (h:WordV W v x) (hn:x.length<=4611686018427387904):By W v x:=
 (Sl.of_owns h hn (bv 0)).congr λi hi=>by
  simp only[Ζ,List.getElem?_map];cases x[i]?<;>rfl
theorem Wrds.nil (W:Κ):Wrds W (Β Γ 0 0) []:=⟨[],rfl,Κ.ownsRow_nil W 0 22 1,λi hi=>by simp at hi⟩
theorem Acq (D E:List (List UInt8)) (r:Bool) (hr:r=Ξ↔D=E) (bx:D.length<=65536) (bz:E.length<=65536) (a7:∀ x∈D,x.length<=65536) (a8:∀ x∈E,x.length<=65536) (va vb:Ρ) (w:Κ) (h:Wrds w va D) (h':Wrds w vb E) :
  Ϝ Η 25 #[va,vb] w λe w'=>e=ν (.bool r)/\Ext w w':=by
 obtain⟨us,b5,af,ag⟩:=h;obtain⟨b6,b7,ah,ai⟩:=h';have H:=Sl.of_owns af (by omega) ς;have I:=Sl.of_owns ah (by omega) ς;obtain⟨aa,ca,rfl⟩:=Sl.len H;obtain⟨ab,cb,rfl⟩:=Sl.len I;have HR:=Α hr;have aj:=Α (λi (hi:i<D.length)=>(ag i hi).toBy (ψ (a7 _ (D9 D i [] hi)) (by omega)));have ak:=Α (λi (hi:i<E.length)=>(ai i hi).toBy (ψ (a8 _ (D9 E i [] hi)) (by omega)));have al:=Ι w;by_cases J:D.length=E.length
 ·obtain⟨n,hn⟩:∃ n,D.length=n:=⟨_,rfl⟩;have HN:=Α hn;have b8:Ϻ (E.length=n):=Α (by rw[<-J,hn]);rw[hn] at J H aj bx ⊢;rw[<-J] at I ak ⊢;have bf:((n:Int) != (n:Int))=Τ:=by simp
  have b9:=Α H;have cd:=Α I;clear af ah ag ai b5 b7 hr a7 a8 hn J H I bz;go_enter Tryz.func25,Tryz.ntmps25;go_wp2_with (fail);go_loopw [5] (λvi W=>∃ i:Nat,i<=n/\vi=.int ζ i/\Ext w W/\Ϻ (∀ j,j<i->D.getD j []=E.getD j []))
   (λvi _=>n-(intOf vi).toNat)
  case atStart=>exact⟨0,by omega,rfl,al,Α λj hj=>by omega⟩
  case round=>
   clear al bf;obtain⟨i,hi,rfl,G,HQ⟩:=hrel;by_cases bh:i<n
   ·have cv:(i:Int)<(n:Int):=by omega
    obtain⟨ba,oa,cw,ao,bj⟩:=ä b9.out (by omega);obtain⟨bb,ob,cx,aq,bk⟩:=ä cd.out (by omega);injection ao with ao _ _
    injection aq with aq _ _
    subst ao;subst aq;go_upto_region 6 with (fail)
    have ga:=bj i (by omega);have gb:=bk i (by omega);have U:=aj.out i bh;have ad:=ak.out i bh;obtain⟨x,hx⟩:∃ x,D.getD i []=x:=⟨_,rfl⟩;obtain⟨y,hy⟩:∃ x,E.getD i []=x:=⟨_,rfl⟩;rw[hx] at U;rw[hy] at ad;obtain⟨vx,bm⟩:∃ v,us.getD i ς=v:=⟨_,rfl⟩;obtain⟨vy,bo⟩:∃ v,b6.getD i ς=v:=⟨_,rfl⟩;rw[bm] at ga U;rw[bo] at gb ad;have HF:=Α (λW (M:Ext wr W)=>(show W.cell? ⟨ba,oa+i,Γ⟩=Δ vx/\W.cell? ⟨bb,ob+i,Γ⟩=Δ vy from⟨(G.trans M).cell ga,(G.trans M).cell gb⟩));have F:=Α (λW (M:Ext wr W)=>Acs x y vx vy W (U.ext (G.trans M)) (ad.ext (G.trans M)));have hd:=(Ι wr).drew;obtain⟨q,hq⟩:∃ q,decide (x=y)=q:=⟨_,rfl⟩;simp only[hq] at F;have bq:=Α hq;have HX:=Α hx;have HY:=Α hy;clear bj bk ga gb U ad bm bo hq hx hy;refine B0 9 [(0,Ξ),(1,Ξ),(2,Ξ),(3,Ξ),(4,Ξ),(5,Ξ),(6,Ξ),(7,Ξ),(8,Τ),(9,Τ)] (by kernel_rfl) (by kernel_rfl) (λ_ _ _ _ h=>h)
     (λW=>Ext wr W) hd ?_
    obtain⟨wq,az⟩:∃ X,wr.drew=X:=⟨_,rfl⟩;rw[az] at hd;rw[az];clear az;iterate 8
     refine Ao (v:=?_) rfl rfl (λV hV=>?_) ?_
     rotate_left
     ·obtain⟨k0,k1⟩:=HF.out V hV;clear hV;go_simp;first|done|with_reducible rfl
     simp only[Ϛ,Θ,Χ,Ψ]
    refine A4 rfl (λKq T=>?_);go_simp;with_reducible refine (F.out wq hd).mono ?_
    rintro e w7 ⟨rfl,a6⟩;have cm:=G.trans (hd.trans a6);refine T _ _ (λ_=>hd.trans a6) ?_;clear T Kq;refine A4 rfl (λKq T=>?_);go_simp;refine T _ _ (λh=>absurd h (by omega)) ?_;clear T Kq;refine B2 ?_;clear HF F hd a6;cases q with
    | true=>
     have cn:Ϻ (∀ j,j<i+1->D.getD j []=E.getD j []):=Α λj hj=>by
      by_cases e:j=i
      ·rw[e,HX.out,HY.out];exact of_decide_eq_true bq.out
      ·exact HQ.out j (by omega)
     go_wp2;go_roundw
     case rel=>exact⟨i+1,by omega,by omega,cn⟩
     case measure=>simp[intOf];omega
    | false=>
     obtain rfl:=Ek HR.out (λe=>by
      have:=of_decide_eq_false bq.out;exact this (by rw[<-HX.out,<-HY.out,e]))
     go_wp2;go_ret;exact⟨rfl,cm⟩
   ·obtain rfl:i=n:=by omega
    obtain rfl:r=Ξ:=HR.out.2 (by
     refine List.ext_getElem (by rw[HN.out,b8.out]) λj h1 h2=>?_
     have:=HQ.out j (by rw[<-HN.out];exact h1);rw[Ζ,Ζ,Μ h1,Μ h2] at this;exact this)
    go_wp2;go_ret;exact⟨rfl,G⟩
 ·obtain rfl:=Ek hr (λe=>J (by rw[e]));have bf:((D.length:Int) != (E.length:Int))=Ξ:=by simp;omega
  clear af ah ag ai aj ak H I;go_enter Tryz.func25,Tryz.ntmps25;go_wp2;go_ret;exact⟨rfl,al⟩
def C7 (x:Dfa) (S k:Nat):Nat->Nat
 | 0=>0
 | n+1=>if S.testBit (x.ent2 n k) then C7 x S k n ||| 2 ^ n else C7 x S k n
def D3 (x:Dfa):Nat->Nat
 | 0=>0
 | n+1=>if x.ok n then D3 x n ||| 2 ^ n else D3 x n
theorem Ul (a n s:Nat):(a ||| 2 ^ n).testBit s=Ξ↔a.testBit s=Ξ\/s=n:=by
 rw[Nat.testBit_or,Bool.or_eq_true,Nat.testBit_two_pow,decide_eq_true_eq];exact⟨λh=>h.imp_right λe=>e.symm,λh=>h.imp_right λe=>e.symm⟩
theorem Sw (x:Dfa) (S k:Nat):∀ n s,(C7 x S k n).testBit s=Ξ↔s<n/\S.testBit (x.ent2 s k)=Ξ
 | 0,s=>by simp[C7]
 | n+1,s=>by
  have G:=Sw x S k n s;unfold C7;split
  ·rename_i h
   rw[Ul,G];constructor
   ·rintro (⟨E,D⟩|rfl)
    ·exact⟨by omega,D⟩
    ·exact⟨by omega,h⟩
   ·rintro⟨E,D⟩;by_cases e:s=n
    ·exact .inr e
    ·exact .inl ⟨by omega,D⟩
  ·rename_i h
   rw[G];constructor
   ·rintro⟨E,D⟩;exact⟨by omega,D⟩
   ·rintro⟨E,D⟩;refine⟨?_,D⟩;by_cases e:s=n
    ·subst e;exact absurd D h
    ·omega
theorem Zj (x:Dfa):∀ n s,(D3 x n).testBit s=Ξ↔s<n/\x.ok s=Ξ
 | 0,s=>by simp[D3]
 | n+1,s=>by
  have G:=Zj x n s;unfold D3;split
  ·rename_i h
   rw[Ul,G];constructor
   ·rintro (⟨E,D⟩|rfl)
    ·exact⟨by omega,D⟩
    ·exact⟨by omega,h⟩
   ·rintro⟨E,D⟩;by_cases e:s=n
    ·exact .inr e
    ·exact .inl ⟨by omega,D⟩
  ·rename_i h
   rw[G];constructor
   ·rintro⟨E,D⟩;exact⟨by omega,D⟩
   ·rintro⟨E,D⟩;refine⟨?_,D⟩;by_cases e:s=n
    ·subst e;exact absurd D h
    ·omega
theorem Nv (x:Dfa) (S k:Nat):∀ n,C7 x S k n<2 ^ n
 | 0=>by simp[C7]
 | n+1=>by
  have E:=Nv x S k n;have D:2 ^ n<2 ^ (n+1):=Nat.pow_lt_pow_right (by omega) (by omega);unfold C7;split
  ·exact Nat.or_lt_two_pow (by omega) D
  ·omega
theorem Q9 (x:Dfa):∀ n,D3 x n<2 ^ n
 | 0=>by simp[D3]
 | n+1=>by
  have E:=Q9 x n;have D:2 ^ n<2 ^ (n+1):=Nat.pow_lt_pow_right (by omega) (by omega);unfold D3;split
  ·exact Nat.or_lt_two_pow (by omega) D
  ·omega
def rnN (x:Dfa) (S b:Nat):Nat:=C7 x S (Ak x.cls b) x.n.length
def rsN (x:Dfa):Nat:=D3 x x.n.length
def Eu (S:Nat):List Bool:=(ι 64).map λs=>S.testBit s
theorem Ln (S s:Nat) (hs:s<64):(Eu S).getD s Τ=S.testBit s:=J9 _ s hs
theorem Ach {x:Dfa} (D:Val x) (G:x.n.length<=64) (S b:Nat) (E:b<256):Eu (rnN x S b)=rnx x (Eu S) b:=by
 unfold Eu rnx;refine Ð λs hs=>?_
 have hs:=υ.1 hs;rw[ϰ,Bool.and_eq_true,decide_eq_true_eq];unfold rnN;rw[Sw];by_cases h:s<x.n.length
 ·have H:x.stp s b<x.n.length:=D.stp_lt h E;have:=Ln S (x.stp s b) (by omega);unfold Eu at this;rw[this];rfl
 ·simp[h]
theorem Acg (x:Dfa) (D:Val x):Eu (rsN x)=rst x:=by
 unfold Eu rst;refine Ð λs hs=>?_
 rw[ϰ];unfold rsN;rw[Zj];constructor
 ·exact λh=>h.2
 ·intro h;refine⟨?_,h⟩;by_cases E:s<x.n.length
  ·exact E
  ·unfold Dfa.ok at h;rw[Ζ,List.getElem?_eq_none (by rw[D.accL];omega)] at h;cases h
theorem N0 {x:Dfa} (D:Val x) (E:x.n.length<=64) (w:List UInt8):Eu (Aw (rnN x) (rsN x) w)=Aw (rnx x) (rst x) w:=by
 induction w using Et with
 | h0=>exact Acg x D
 | h1 w b G=>rw[Ee,Ee,Ach D E _ _ b.toNat_lt,G]
theorem Aci {S D:Nat} (h:S<2 ^ 64) (E:D<2 ^ 64) (he:Eu S=Eu D):S=D:=by
 refine Nat.eq_of_testBit_eq λs=>?_
 by_cases hs:s<64
 ·rw[<-Ln S s hs,<-Ln D s hs,he]
 ·have G:2 ^ 64<=2 ^ s:=Nat.pow_le_pow_right (by omega) (by omega);rw[Nat.testBit_lt_two_pow (by omega),Nat.testBit_lt_two_pow (by omega)]
theorem Tj {x:Dfa} (E:x.n.length<=64) (w:List UInt8):Aw (rnN x) (rsN x) w<2 ^ 64:=by
 have D:2 ^ x.n.length<=2 ^ 64:=Nat.pow_le_pow_right (by omega) E;induction w using Et with
 | h0=>exact ε (Q9 x _) D
 | h1 w b _=>rw[Ee];exact ε (Nv x _ _ _) D
theorem Ag2 {x:Dfa} (G:Val x) (D:x.n.length<=64) {m:Nat} (h:B9 (rnN x) (rsN x) m):B9 (rnx x) (rst x) m:=by
 obtain⟨l,H,E,I⟩:=h;refine⟨l.map Eu,?_,λs hs=>?_,by rw[Ϗ];exact I⟩
 ·rw[Ϧ,ù];refine æ (λ{a b} ha J M e=>?_) (Ϧ.1 H);obtain⟨u,rfl⟩:=E a ha;obtain⟨v,rfl⟩:=E b J;exact M (Aci (Tj D u) (Tj D v) e)
 ·obtain⟨S,T,rfl⟩:=List.mem_map.1 hs;obtain⟨w,rfl⟩:=E S T;exact⟨w,(N0 G D w).symm⟩
theorem Ahw {L:List UInt8->Prop} {r:Option Dfa} (h:Lim L r):F5 L r:=by
 cases r with
 | some d=>exact h
 | none=>
  obtain⟨d,hd,E,hn⟩:=h
  classical
  refine⟨(ι d.n.length).map λs=>if h:∃ w,d.run 0 w=s then h.choose else [],by simpa using hn,?_⟩;rw[ù];refine æ (λ{a b} ha D G=>?_) (Ϧ.1 List.nodup_range);have ha:=υ.1 ha;have D:=υ.1 D;rw[dif_pos (hd.reach a ha),dif_pos (hd.reach b D)];refine ϩ λH=>G (hd.red a b ha D λw=>?_)
  have:L ((hd.reach a ha).choose++w)↔L ((hd.reach b D).choose++w):=ϩ λh=>H ⟨w,h⟩
  rw[<-E,<-E] at this;unfold Dfa.has at this;rw[B6,B6,(hd.reach a ha).choose_spec,(hd.reach b D).choose_spec,<-ϰ] at this;exact this
theorem Ade {x:Dfa} (D:Val x) (E:x.n.length<=64) {l:List Nat} {t:Tbl} (h:Expl (Ak x.cls) (Cf x.cls) (rsN x) (rnN x) (λS=>S.testBit 0) l t) (I:l.length<=4096) :
  ¬ B9 (rnx x) (rst x) 4096/\∀ w,t.has w=x.has w.reverse:=by
 have G:=Po D.parts;have H:∀ (s b:Nat),b<256->rnN x s ((Cf x.cls).getD (Ak x.cls b) 0)=rnN x s b:=λs b J=>by
  unfold rnN;rw[(Ie D.parts (cell_lt D.parts J)).2]
 refine⟨Ip (l.map Eu) (λw=>?_) (by rw[Ϗ];exact I),λw=>?_⟩
 ·rw[<-N0 D E w];exact List.mem_map_of_mem (h.closed G H w)
 ·rw[h.has G H w];have:=Fu D E w 0 D.pos;rw[<-N0 D E w,Ln _ _ (by omega)] at this;exact this
theorem Sx (x:Dfa) (S k n:Nat) (hn:n<=64):C7 x S k n<18446744073709551616:=
 ε (Nv x S k n) (Nat.pow_le_pow_right (by omega) hn:2 ^ n<=2 ^ 64)
theorem Zk (x:Dfa) (n:Nat) (hn:n<=64):D3 x n<18446744073709551616:=
 ε (Q9 x n) (Nat.pow_le_pow_right (by omega) hn:2 ^ n<=2 ^ 64)
theorem Yv (S q:Nat):(((S:Int) / 2 ^ q).tmod 2==1)=S.testBit q:=by
 have D:((S:Nat):Int) / 2 ^ q=((S / 2 ^ q:Nat):Int):=by rw[Int.natCast_ediv];simp
 rw[D,Nat.testBit_eq_decide_div_mod_eq];generalize S / 2 ^ q=m;rw[Int.tmod_eq_emod_of_nonneg (Int.natCast_nonneg m)];rw[ϰ];simp;omega
theorem Ab5 (x:Dfa) (hv:Val x) (bg:x.n.length<=64) (S k:Nat) (hS:S<18446744073709551616) (hk:k<x.cls.length) (v:Ρ) (w:Κ) (h:IsD w v x) :
  Ϝ Η 59 #[v,.int π (S:Int),.int ζ k] w λe w'=>e=ν (.int π (C7 x S k x.n.length:Nat))/\Ext w w':=by
 obtain⟨bC,oC,cC,bn,on,cn,ba,oa,ca,rfl,hC,af,az⟩:=h.opened hv;obtain⟨V,H⟩:∃ X,dA (Β (Δ ⟨bC,oC,Γ⟩) x.cls.length cC) (Β (Δ ⟨bn,on,Γ⟩) x.n.length cn) (Β (Δ ⟨ba,oa,Γ⟩) x.n.length ca)=X:=⟨_,rfl⟩;have ag:V[1]? = Δ (Β (Δ ⟨bn,on,Γ⟩) x.n.length cn):=by rw[<-H];rfl
 rw[H];have I:=(Ι w).alloc (Ε V 30);have G:=Ab w (Ε V 30);have a1:=Α af;have HV:=Α hv;have bj:=hv.parts.le;have bk:(k:Int)<(x.cls.length:Int):=by omega
 clear hC af az h hv H;go_enter Tryz.func59,Tryz.ntmps59;go_upto_region 1 with (fail)
 obtain⟨w1,J⟩:∃ X,w.alloc (Ε V 30)=X:=⟨_,rfl⟩;obtain⟨g3,M⟩:∃ y,w.heap.size=y:=⟨_,rfl⟩;rw[J] at I G;rw[M] at G;simp only[J,M];clear J M;have a7:=Α (λW (hW:Ext w1 W)=>Ay (hW.heap G) ag);have T:=Α I;clear G ag I;go_wp2_with (fail);go_loopw [7,8] (λvo vs W=>∃ s:Nat,s<=x.n.length/\vo=.int π (C7 x S k s:Nat)/\vs=.int ζ s/\Ext w1 W)
  (λ_ vs _=>x.n.length-(intOf vs).toNat)
 case atStart=>exact⟨0,by omega,rfl,rfl,Ι _⟩
 case round=>
  obtain⟨s,hs,rfl,rfl,D⟩:=hrel;have c1:=a7.out wr D;by_cases ah:s<x.n.length
  ·have bo:(s:Int)<(x.n.length:Int):=by omega
   obtain⟨br,bq,cr,ai,aj⟩:=a1.out s ah;have c2:=(T.out.trans D).cell ai;have c3:=(T.out.trans D).cell (aj k hk);have bd:=HV.out.tgt s ah k hk;have E:Ϻ (C7 x S k (s+1)=if S.testBit (x.ent2 s k) then C7 x S k s ||| 2 ^ s else C7 x S k s):=Α rfl;have ak:=Sx x S k s (by omega);obtain⟨y,hy⟩:∃ y,x.ent2 s k=y:=⟨_,rfl⟩;rw[hy] at c3 bd E;have hb:=Yv S y;obtain⟨o,U⟩:∃ o,C7 x S k s=o:=⟨_,rfl⟩;rw[U] at ak E;simp only[U];have bw:=Ow o s ak (by omega);clear aj ai hy U;obtain⟨b,an⟩:∃ b,S.testBit y=b:=⟨_,rfl⟩;rw[an] at hb E;clear an;cases b with
   | true=>
    go_wp2;go_roundw
    case rel=>exact⟨s+1,by omega,by rw[E.out,if_pos rfl],by go_num,D⟩
    case measure=>simp[intOf];omega
   | false=>
    go_wp2;go_roundw
    case rel=>exact⟨s+1,by omega,by rw[E.out,if_neg (by simp)],by go_num,D⟩
    case measure=>simp[intOf];omega
  ·obtain rfl:s=x.n.length:=by omega
   have bf:=T.out.trans D;go_wp2;go_ret;exact⟨rfl,bf⟩
def fl2 (l:List Nat):List Ρ:=l.flatMap λ(S:Nat)=>[Ρ.int ζ 0,.int π ((S:Nat):Int)]
def Ez (S:Nat):Array Ρ:=#[.int ζ 0,.int π (S:Int)]
theorem Ajy (l m:List Nat):fl2 (l++m)=fl2 l++fl2 m:=by simp[fl2]
theorem W5:∀ (l:List Nat) (i:Nat),i<l.length->(fl2 l)[i*2]? = Δ (.int ζ 0)/\(fl2 l)[i*2+1]? = Δ (.int π ((l.getD i 0:Nat):Int))
 | S::l,0,_=>⟨rfl,rfl⟩
 | S::l,i+1,h=>by
  have D:=W5 l i (by simpa using h);have e:fl2 (S::l)=Ρ.int ζ 0::.int π (S:Int)::fl2 l:=rfl;rw[e,show (i+1)*2=i*2+1+1 by omega,É,É,É,É];exact D
theorem Mn:(Η.info? 94).map (·.size)=Δ 2:=by kernel_rfl
theorem Akr (a b:Int) (W:Κ):(binOp .eql 94 (.agg #[.int ζ 0,.int π a]) (.agg #[.int ζ 0,.int π b])).run Η W=.ok (.bool (a==b)) W:=by
 have H:Η.stoodInHeld 94=Τ:=by kernel_rfl
 have I:Η.underlying 94=Δ (.struct (Η.fieldsOf 94)):=by kernel_rfl
 have D : (Η.fieldsOf 94).toList.map (fun f => (decide (f.name = "_"), f.type, f.offset)) = [(Τ, 3, 0), (Τ, 60, 1)] := by kernel_rfl
 have J:Η.underlying 3=Δ (.int ζ):=by kernel_rfl
 have M:Η.underlying 60=Δ (.int π):=by kernel_rfl
 rw[run_eql_struct,run_equalIn_agg _ 9999 94 _ _ I H]
 match E:(Η.fieldsOf 94).toList with
 | []=>rw[E] at D;simp at D
 | [f]=>rw[E] at D;simp at D
 | f::g::k::l=>rw[E] at D;simp at D
 | [f,g]=>
  rw[E] at D;simp only[Ç,List.map_nil,List.cons.injEq,Prod.mk.injEq,and_true,decide_eq_false_iff_not] at D;obtain⟨⟨f1,f2,f3⟩,T,U,g3⟩:=D;have k3:Η.plainKey 3=Ξ:=by kernel_rfl
  have ab:Η.plainKey 60=Ξ:=by kernel_rfl
  have pa:∀ y:Int,(part 3 #[.int ζ 0,.int π y] 0).run Η W=.ok (.int ζ 0) W:=λy=>run_part_plain _ k3 rfl
  have G:∀ y:Int,(part 60 #[.int ζ 0,.int π y] 1).run Η W=.ok (.int π y) W:=λy=>run_part_plain _ ab rfl
  have e3:=run_equalIn_int W 9998 3 ζ ζ 0 0 J;have af:=run_equalIn_int W 9998 60 π π a b M;simp only[Op.eqFields,f1,f2,f3,T,U,g3,ne_eq,not_false_eq_true,if_true,Sem.run_bind,pa,G,ï];rw[e3];simp only[ï,beq_self_eq_true,Bool.not_true,Bool.false_eq_true,if_false,Sem.run_bind,G];rw[af];cases hb:(a==b)<;>simp[Op.eqFields]
theorem Akm {o:Oper} {a:Act} (x y:Operand) (t:TypeId) (D:o.op=.binOp .eql 94 x y t) (p q:Int) (E:a.eval x=.agg #[.int ζ 0,.int π p]) (G:a.eval y=.agg #[.int ζ 0,.int π q]) (W:Κ) :
  (execOp a.eval o).run Η W=.ok (.value (.bool (p==q))) W:=by
 have hm:Η.eqGuardType Η.depth 94=Τ:=by kernel_rfl
 unfold execOp;simp only[D,Sem.run_bind,E,G,run_eqGuard_agg _ _ _ _ _ _ _ hm,ï,Akr,Sem.run_pure]
theorem Aet {b:Bool} {p q:Prop} (h:b=Ξ) (D:p):if b=Ξ then p else q:=by rw[if_pos h];exact D
theorem Ai6 (l:List Nat) (S i:Nat) (hi:i<l.length) (D:∀ j,j<i->l.getD j 0≠S) (he:l.getD i 0=S):l.findIdx (·==S)=i:=by
 rw[List.findIdx_eq hi];refine⟨by rw[Ζ,Μ hi] at he;simpa using he,λj E=>?_⟩;have:=D j E;rw[Ζ,Μ (by omega)] at this
 simpa using this
theorem Ai5 (l:List Nat) (S:Nat) (E:∀ j,j<l.length->l.getD j 0≠S):l.findIdx (·==S)=l.length:=by
 rw[List.findIdx_eq_length];intro x G;obtain⟨j,D,rfl⟩:=List.mem_iff_getElem.1 G;have:=E j D;rw[Ζ,Μ D] at this
 simpa using this
theorem Aj5 (l:List Nat) (S g c:Nat) (w:Κ) (hl:l.length<=1000000) (hr:∀ i,i<l.length->w.rangeAt g (i*2) [.int ζ 0,.int π ((l.getD i 0:Nat):Int)]) :
  Ϝ Η 60 #[Β (Δ ⟨g,0,Γ⟩) l.length c,.agg (Ez S)] w λe w'=>e=ν (iv (l.findIdx (·==S)))/\Ext w w':=by
 have h3:Η.stoodInHeld 94=Τ:=by kernel_rfl
 have J:=(Ι w).alloc (Ε (Ez S) 94);have G:=Ab w (Ε (Ez S) 94);obtain⟨E,M⟩:∃ E,Ez S=E:=⟨_,rfl⟩;rw[M] at J G;rw[M];have ah:=Α M;have HR:=Α hr;clear M hr;go_enter Tryz.func60,Tryz.ntmps60;go_upto_region 1 with (fail)
 obtain⟨w1,aa⟩:∃ X,w.alloc (Ε E 94)=X:=⟨_,rfl⟩;obtain⟨g3,ab⟩:∃ y,w.heap.size=y:=⟨_,rfl⟩;rw[aa] at J G;rw[ab] at G;simp only[aa,ab];clear aa ab;have HK:=Α (λW (H:Ext w1 W)=>H.heap G);have ad:=Α J;clear G J;go_wp2_with (fail);go_loopw [5] (λvs W=>∃ s:Nat,s<=l.length/\vs=.int ζ s/\Ϻ (∀ j,j<s->l.getD j 0≠S)/\Ext w1 W)
  (λvs _=>l.length-(intOf vs).toNat)
 case atStart=>exact⟨0,by omega,rfl,Α (λj hj=>by omega),Ι _⟩
 case round=>
  obtain⟨s,hs,rfl,T,D⟩:=hrel;by_cases ai:s<l.length
  ·have a6:(s:Int)<(l.length:Int):=by omega
   have HG:=Α (λW (H:Ext wr W)=>HK.out W (D.trans H));have ar:=Α (λW (H:Ext wr W)=>λj v hv=>(ad.out.trans (D.trans H)).cell (HR.out s ai j v hv));go_upto_region 4 with (fail)
   have hd:=(Ι wr).drew;refine B0 5 [(0,Ξ),(1,Ξ),(2,Ξ),(3,Ξ),(4,Ξ),(5,Τ)] (by kernel_rfl) (by kernel_rfl) (λ_ _ _ _ h=>h)
    (λW=>Ext wr W) hd ?_
   obtain⟨wq,ae⟩:∃ X,wr.drew=X:=⟨_,rfl⟩;rw[ae] at hd;rw[ae];clear ae;iterate 3
    refine Ao (v:=?_) rfl rfl (λV I=>?_) ?_
    rotate_left
    ·clear I;go_simp;first|done|with_reducible rfl
    simp only[Ϛ,Θ,Χ,Ψ]
   refine Ao (v:=.agg (Ez (l.getD s 0))) rfl rfl (λV I=>?_) ?_
   ·exact Fl 94 (η 14) rfl g (s*2) rfl _ _ (ar.out V I) Tryz.underlying94 rfl Mn
   simp only[Ϛ,Θ,Χ,Ψ];refine Ao (v:=.agg E) rfl rfl (λV I=>D2 94 (η 3) rfl _ rfl _ _ _ _ (HG.out V I) Tryz.underlying94 rfl (by rw[<-ah.out];exact Mn)) ?_;simp only[Ϛ,Θ,Χ,Ψ];refine A4 rfl (λKq aj=>?_);refine Aet rfl (C4 (Akm (η 15) (η 16) _ rfl ((l.getD s 0:Nat):Int) (S:Int) rfl ?hy _) ?_)
   case hy=>
    show Ρ.agg E=_;rw[<-ah.out];rfl
   refine aj _ _ (λh=>absurd h (by omega)) ?_;clear aj Kq;simp only[Ϛ,Θ,Χ,Ψ];refine B2 ?_;have ak:=D.trans hd;by_cases he:l.getD s 0=S
   ·have U:(((l.getD s 0:Nat):Int)==(S:Int))=Ξ:=by rw[he];simp
    rw[U];have hf:=Ai6 l S s ai T.out he;have af:=ad.out.trans ak;clear D hd;go_wp2;go_ret;exact⟨by rw[hf];rfl,af⟩
   ·have U:(((l.getD s 0:Nat):Int)==(S:Int))=Τ:=by
     rw[beq_eq_false_iff_ne];intro e;exact he (by omega)
    rw[U];have ax:Ϻ (∀ j,j<s+1->l.getD j 0≠S):=Α (λj hj=>by
     by_cases e:j=s
     ·rw[e];exact he
     ·exact T.out j (by omega))
    clear D hd T he U;go_wp2;go_roundw
    case rel=>exact⟨s+1,by omega,by go_num,ax,ak⟩
    case measure=>simp[intOf];omega
  ·obtain rfl:s=l.length:=by omega
   have af:=ad.out.trans D;have he:=Ai5 l S T.out;go_wp2;go_ret;exact⟨by rw[he];rfl,af⟩
theorem Ama (c:Nat->Nat):Η.built 79 [(0,.agg (Au c))]=Δ (trA c (Β Γ 0 0) (Β Γ 0 0)):=by kernel_rfl
theorem Yq (S:Int):Η.built 94 [(1,.int π S)]=Δ #[.int ζ 0,.int π S]:=by kernel_rfl
theorem Aaz (c:Nat->Nat) (vn va:Ρ):(trA c vn va).extract 0 256=Au c:=by
 apply Array.ext
 ·simp[trA,trL,Au]
 ·intro i H D;have hi:i<256:=by simpa [Au] using D
  have E:=Hw c vn va i hi;have G:=Hm c i hi;rw[Ϡ (by rw[Dw];omega)] at E;rw[Ϡ D] at G;rw[Array.getElem_extract];simp only[î];rw[ω E,ω G]
theorem Akf (A:Array Ρ) (W:Κ):(Instr.field 79 (.agg A) 0).run Η W=.ok (.agg (A.extract 0 256)) W:=by
 have E:Η.underlying 79=Δ (.struct (Η.fieldsOf 79)):=by kernel_rfl
 have G:((Η.fieldsOf 79)[0]?).map (λf=>(f.type,f.offset))=Δ (77,0):=by kernel_rfl
 obtain⟨f,H,D⟩:=Option.map_eq_some_iff.1 G;rw[Prod.mk.injEq] at D;obtain⟨i,hi,I⟩:=Option.map_eq_some_iff.1 Fj;have e:Η.cellsOf 77=256:=by unfold Program.cellsOf;rw[hi];exact I
 unfold Instr.field;simp[run_underlying E,H,D.1,D.2,asAgg,part,isAgg,run_underlying Tryz.underlying77,run_sizeOf _ hi,e]
theorem Akt (S:Nat):(Ez S).all (·.oneCell')=Ξ:=by simp[Ez,ϊ]
theorem Ajx (l:List Nat) (S:Nat):fl2 l++[.int ζ 0,.int π (S:Int)]=fl2 (l++[S]):=by rw[Ajy];rfl
theorem Or {W:Κ} {base g n E:Nat} {l:List Nat} (h:W.ownsRow base 94 2 (Β (Δ ⟨g,0,Γ⟩) n E) n (fl2 l)) (hn:n=l.length) (i:Nat) (hi:i<l.length) :
  W.rangeAt g (i*2) [.int ζ 0,.int π ((l.getD i 0:Nat):Int)]:=λj u D=>by
 subst hn;have hg:=W5 l i hi;rcases j with _|_|j
 ·rw[Nat.add_zero,ϛ.cellAt h _ (by omega),hg.1]
  simpa using D
 ·rw[ϛ.cellAt h _ (by omega),hg.2]
  simpa using D
 ·simp at D
theorem Amw (S:Nat):((S:Int).tmod 2==1)=S.testBit 0:=by
 have:=Yv S 0
 simpa using this
def N9 (E D i S k T:Nat) (A:Array Ρ) (G H:Nat):Nat->Ρ->Κ->Prop
 | 0,v,_=>v=.agg A
 | 1,v,_=>v=Β (Δ ⟨D,0,Γ⟩) G H
 | 2,v,_=>v=iv i
 | 3,v,_=>v=γ (Δ ⟨D,i*2,Γ⟩)
 | 4,v,_=>v=γ (Δ ⟨D,i*2+1,Γ⟩)
 | 5,v,_=>v=.int π (S:Int)
 | 6,v,_=>v=iv k
 | 7,v,_=>v=.int π (T:Int)
 | 8,v,_=>v=.agg (Ez T)
 | _,v,W=>∃ g,v=γ (Δ ⟨g,0,Γ⟩)/\W.heap[g]? = Δ (Ε #[.int ζ 0,.int π 0] 94 (0,0))/\E<=g
theorem Adr (D E i S k T:Nat) (A:Array Ρ) (G H:Nat):∀ (j:Nat) (v:Ρ) (w w':Κ),N9 D E i S k T A G H j v w->Ext w w'->N9 D E i S k T A G H j v w'
 | 0,_,_,_,h,_=>h
 | 1,_,_,_,h,_=>h
 | 2,_,_,_,h,_=>h
 | 3,_,_,_,h,_=>h
 | 4,_,_,_,h,_=>h
 | 5,_,_,_,h,_=>h
 | 6,_,_,_,h,_=>h
 | 7,_,_,_,h,_=>h
 | 8,_,_,_,h,_=>h
 | _+9,_,_,_,⟨g,I,J,M⟩,U=>⟨g,I,U.heap J,M⟩
def Ra (x:Dfa) (m i:Nat) (l:List Nat) (f:Nat->Option Nat) (N:List (List Nat)) (D:List Ρ) (Ac:List Bool):Prop:=
 D.length=N.length/\EInv (Cf x.cls) (rsN x) (rnN x) i 0 l f N (δ m 0)/\Ac.length=i/\(∀ j,j<i->Ac.getD j Τ=(l.getD j 0).testBit 0)/\∀ S,S∈l->S<18446744073709551616
def K9 (x:Dfa) (m i k:Nat) (l D:List Nat) (f:Nat->Option Nat) (N:List (List Nat)) (r:List Nat):Prop:=
 r.length=k/\EInv (Cf x.cls) (rsN x) (rnN x) i k D f N (r++δ (m-r.length) 0)/\i<D.length/\(∀ j,j<=i->D.getD j 0=l.getD j 0)/\∀ S,S∈D->S<18446744073709551616
theorem Tk {x:Dfa} (D:Parts x.cls) (S k:Nat) (E:k<x.cls.length):rnN x S ((Cf x.cls).getD k 0)=C7 x S k x.n.length:=by
 unfold rnN;rw[(Ie D E).2]
theorem Adl {x:Dfa} (J:Parts x.cls) {m i k j S T:Nat} {l D:List Nat} {f:Nat->Option Nat} {N:List (List Nat)} {r:List Nat} (h:K9 x m i k l D f N r) (hm:x.cls.length=m) (hk:k<m) (M:D.getD i 0=S) (U:C7 x S k x.n.length=T) (hj:D.findIdx (·==T)=j) (ag:j<D.length) :
  K9 x m i (k+1) l D f N (r++[j]):=by
 obtain⟨E,G,H,h4,h5⟩:=h;have hs:D[i]? = Δ S:=by rw[<-M,Ζ,Μ H];rfl
 have e:rnN x S ((Cf x.cls).getD k 0)=T:=by rw[Tk J S k (by omega),U]
 have hf:f T=Δ j:=by
  rw[G.num];have I:D.findIdx (·==T)<D.length:=by omega
  have:=List.findIdx_getElem (xs:=D) (p:=(·==T)) (w:=I);subst hj;rw[Μ I]
  simpa using this
 refine⟨by rw[Ο,E];rfl,?_,H,h4,h5⟩;rw[<-L7 r m j (by omega),E];have:=Qi G (by rw[G9];omega) hs j (by rw[e];exact hf);rw[E] at this;exact this
theorem Adm {x:Dfa} (I:Parts x.cls) {m i k S T:Nat} {l D:List Nat} {f:Nat->Option Nat} {N:List (List Nat)} {r:List Nat} (h:K9 x m i k l D f N r) (hm:x.cls.length=m) (hk:k<m) (hS:D.getD i 0=S) (hT:C7 x S k x.n.length=T) (J:D.findIdx (·==T)=D.length) (ad:T<18446744073709551616) :
  ∃ f',K9 x m i (k+1) l (D++[T]) f' N (r++[D.length]):=by
 obtain⟨G,M,h3,h4,h5⟩:=h;have hs:D[i]? = Δ S:=by rw[<-hS,Ζ,Μ h3];rfl
 have e:rnN x S ((Cf x.cls).getD k 0)=T:=by rw[Tk I S k (by omega),hT]
 have H:f T=Γ:=by
  cases H:f T with
  | none=>rfl
  | some v=>
   have:=(M.num T v).1 H;have hm:=List.mem_of_getElem? this;have:=List.findIdx_lt_length_of_exists (xs:=D) (p:=(·==T)) ⟨T,hm,by simp⟩;omega
 have hn:=Qj M (by rw[G9];omega) (λq U=>(Ie I (by rw[G9] at U;exact U)).1) hs (by rw[e];exact H);rw[e] at hn;refine⟨λy=>if y=T then Δ D.length else f y,by rw[Ο,G];rfl,?_,by rw[Ο];omega,λj J=>?_,λy E=>?_⟩
 ·rw[<-L7 r m D.length (by omega),G];rw[G] at hn;exact hn
 ·rw[Bt _ _ _ _ (by omega)];exact h4 j J
 ·rcases List.mem_append.1 E with E|E
  ·exact h5 y E
  ·simp at E;subst E;exact ad
theorem Adj (d:Dfa) (hv:Val d) (hn:d.n.length<=64) (v:Ρ) (w:Κ) (h:IsD w v d) :
  Ϝ Η 19 #[v] w λe w'=>∃ r,ResOf w' e r/\Jl d r/\Ext w w':=by
 have HD:=Α h;have f50:=λW (G:Ext w W)=>Α (Gx d hv hn _ W (HD.out.ext G))
 have f51:=λW (G:Ext w W)=>Α (J5 d hv hv.parts.le _ W (HD.out.ext G))
 have dw:=Α (Bm hv);have dx:=Α (Dn d);have dy:(Ae d).n.length<=65536:=ψ hn (by omega);have fs:=Α (λ(x:Dfa) (hx:Cano x) (e:∀ u,x.has u=d.has u)=>ψ (Kx hx hv e) hn);obtain⟨i0,hi,fu,fv,fw⟩:=ϕ Cg;obtain⟨i4,j7,j8,j9,ka⟩:=ϕ Dt;obtain⟨i6,kc,kd,ke,kf⟩:=ϕ (show (Η.info? 68).map (λi=>(i.zero,i.size,i.bytes))=Δ (Δ (Β Γ 0 0),1,24) by kernel_rfl);obtain⟨i9,kh,ki,kj,kk⟩:=ϕ (show (Η.info? 94).map (λi=>(i.zero,i.size,i.bytes))=Δ (Δ (.agg #[.int ζ 0,.int π 0]),2,16) by kernel_rfl);obtain⟨ac,lc,cc,an,cn,aa,la,ca,rfl⟩:=h.agg;obtain⟨V,hV⟩:∃ X,dA (Β ac lc cc) (Β an d.n.length cn) (Β aa la ca)=X:=⟨_,rfl⟩;have fx:(Η.info? 30).map (·.size)=Δ V.size:=by rw[<-hV];exact Ad
 rw[hV] at HD f50 f51 ⊢;have ea:=((Ι w).alloc (Ε V 30)).alloc (Ε #[Β Γ 0 0,Β Γ 0 0,Β Γ 0 0] 30);have H0:=Ag (Ab w (Ε V 30)) (Ε #[Β Γ 0 0,Β Γ 0 0,Β Γ 0 0] 30);have H1:=heap_alloc2_new w (Ε V 30) (Ε #[Β Γ 0 0,Β Γ 0 0,Β Γ 0 0] 30);clear h hV hv hn;obtain⟨t0,eb⟩:∃ t,Ae d=t:=⟨_,rfl⟩;rw[eb] at dw dx dy;simp only[eb] at f51;clear eb;have fy:=Α dy;clear dy;go_enter Tryz.func19,Tryz.ntmps19;go_upto_region 1 with (fail)
 obtain⟨w1,ec⟩:∃ X,(w.alloc (Ε V 30)).alloc (Ε #[Β Γ 0 0,Β Γ 0 0,Β Γ 0 0] 30)=X:=⟨_,rfl⟩;rw[ec] at ea H0 H1;simp only[ec];clear ec;obtain⟨g1,ed⟩:∃ y,w.heap.size=y:=⟨_,rfl⟩;obtain⟨g2,ee⟩:∃ y,g1+1=y:=⟨_,rfl⟩;have gb:Ϻ (w.heap.size<=g2):=Α (by omega);rw[ed] at H0 H1;rw[ee] at H1;simp only[ed,ee];clear ed ee;have cd:=Α H0;have ay:=Α H1;have ef:=Α ea;clear H0 H1 ea;go_upto_region 3 with (first
  | (refine Υ rfl 30 (η 1) rfl _ rfl _ _ _ _ cd.out Ν rfl fx ?_)
  | (go_at_call 50;(with_reducible refine (f50 _ ef.out).out.mono ?_);rintro e w2 ⟨rfl,c5⟩;have eg:=Α (ef.out.trans c5);have cd:=Α (c5.heap cd.out);have ay:=Α (c5.heap ay.out);clear c5))
 go_upto_region 4 with (first
  | (refine Υ rfl 30 (η 1) rfl _ rfl _ _ _ _ cd.out Ν rfl fx ?_)
  | (go_at_call 51;(with_reducible refine (f51 _ eg.out).out.mono ?_);rintro e w3 ⟨A,rfl,hA,bw⟩;have gd:=Α (eg.out.trans bw);have ay:=Α (bw.heap ay.out);have f57:=Α (Me t0 dw.out fy.out A w3 hA);clear bw hA)
  | (go_at_call 57;(with_reducible refine f57.out.mono ?_);rintro e w4 ⟨v4,x,rfl,eh,cg,gf,ei⟩;have ej:=Α eh;obtain⟨bc,oc,b0,bn,on,ck,ba,oa,b6,rfl,hC,hR,hA⟩:=eh.opened cg.val)
  | (refine Φ rfl 30 (η 4) (η 20) rfl _ (dA (Β (Δ ⟨bc,oc,Γ⟩) x.cls.length b0) (Β (Δ ⟨bn,on,Γ⟩) x.n.length ck) (Β (Δ ⟨ba,oa,Γ⟩) x.n.length b6)) rfl rfl _ _ (Ab w4 _) Ad rfl (Ap _ _ _ rfl rfl rfl) ?_))
 have ek:∀ u,x.has u=d.has u:=λu=>(gf u).trans (dx.out u)
 have cm:=Α (fs.out x cg ek);have bj:=((Ι w4).alloc (Ε #[Β Γ 0 0,Β Γ 0 0,Β Γ 0 0] 30)).setRow (θ _) (dA (Β (Δ ⟨bc,oc,Γ⟩) x.cls.length b0) (Β (Δ ⟨bn,on,Γ⟩) x.n.length ck) (Β (Δ ⟨ba,oa,Γ⟩) x.n.length b6));have H4:=μ (w4.alloc (Ε #[Β Γ 0 0,Β Γ 0 0,Β Γ 0 0] 30)) w4.heap.size _ (dA (Β (Δ ⟨bc,oc,Γ⟩) x.cls.length b0) (Β (Δ ⟨bn,on,Γ⟩) x.n.length ck) (Β (Δ ⟨ba,oa,Γ⟩) x.n.length b6)) _ _ (Ab w4 _);obtain⟨w5,c6⟩:∃ W,(w4.alloc (Ε #[Β Γ 0 0,Β Γ 0 0,Β Γ 0 0] 30)).setRow w4.heap.size (dA (Β (Δ ⟨bc,oc,Γ⟩) x.cls.length b0) (Β (Δ ⟨bn,on,Γ⟩) x.n.length ck) (Β (Δ ⟨ba,oa,Γ⟩) x.n.length b6))=W:=⟨_,rfl⟩;obtain⟨g4,en⟩:∃ y,w4.heap.size=y:=⟨_,rfl⟩;rw[en] at c6 bj H4;rw[c6] at bj H4;simp only[en];simp only[c6];clear c6 en;obtain⟨V4,b7⟩:∃ X,dA (Β (Δ ⟨bc,oc,Γ⟩) x.cls.length b0) (Β (Δ ⟨bn,on,Γ⟩) x.n.length ck) (Β (Δ ⟨ba,oa,Γ⟩) x.n.length b6)=X:=⟨_,rfl⟩;have gg:(Η.info? 30).map (·.size)=Δ V4.size:=by rw[<-b7];exact Ad
 have gh:V4[0]? = Δ (Β (Δ ⟨bc,oc,Γ⟩) x.cls.length b0):=by rw[<-b7];rfl
 have gi:V4[2]? = Δ (Β (Δ ⟨ba,oa,Γ⟩) x.n.length b6):=by rw[<-b7];rfl
 rw[b7] at H4 ej;simp only[b7];have gj:=Α cg;have eo:=Α ek;have HV:=Α cg.val;have gk:=Α (λW (G:Ext w5 W)=>G.heap H4);have gm:=Α (λW (G:Ext w5 W)=>Ay (G.heap H4) gh);have ky:=Α (λW (G:Ext w5 W)=>Ay (G.heap H4) gi);have kz:=Α (λ(W:Κ) (G:Ext w5 W) s (hs:s<x.n.length)=>(bj.trans G).cell (hA s hs));have gn:=Α (λ(W:Κ) (G:Ext w5 W)=>ej.out.ext (bj.trans G));have ay:=Α ((ei.trans bj).heap ay.out);have na:Ϻ (g2<w5.heap.size):=Α (An ay.out);have gp:=Α ((gd.out.trans ei).trans bj);clear gh gi b7 H4 cg gf ek bj ei hA hR hC eh ej fs dx dw fy f50 f51 f57 cd HD ef eg gd;have k5:=HV.out.pos;have k6:=HV.out.parts.pos;have gu:=HV.out.parts.le;have gv:=cm.out;go_wp2_with (fail);go_loopw [5,6] (λvs vi W=>∃ s:Nat,s<=x.n.length/\vs=.int π (D3 x s:Nat)/\vi=.int ζ s/\Ext w5 W)
  (λ_ vi _=>x.n.length-(intOf vi).toNat)
 case atStart=>exact⟨0,by omega,rfl,rfl,Ι _⟩
 case round=>
  obtain⟨s,hs,rfl,rfl,hE⟩:=hrel;have c1:=ky.out wr hE;by_cases k7:s<x.n.length
  ·have nb:(s:Int)<(x.n.length:Int):=by omega
   have c2:=kz.out wr hE s k7;have da:Ϻ (D3 x (s+1)=if x.ok s then D3 x s ||| 2 ^ s else D3 x s):=Α rfl;have db:=Zk x s (by omega);obtain⟨o,ho⟩:∃ o,D3 x s=o:=⟨_,rfl⟩;rw[ho] at db da;simp only[ho];have nc:=Ow o s db (by omega);clear ho;obtain⟨b,gw⟩:∃ b,x.ok s=b:=⟨_,rfl⟩;rw[gw] at c2 da;clear gw;cases b with
   | true=>
    go_wp2;go_roundw
    case rel=>exact⟨s+1,by omega,by rw[da.out,if_pos rfl],by go_num,hE⟩
    case measure=>simp[intOf];omega
   | false=>
    go_wp2;go_roundw
    case rel=>exact⟨s+1,by omega,by rw[da.out,if_neg (by simp)],by go_num,hE⟩
    case measure=>simp[intOf];omega
  ·obtain rfl:s=x.n.length:=by omega
   have f51:=Α (J5 x HV.out gu _ wr (gn.out wr hE));have er:D3 x x.n.length=rsN x:=rfl;have dc:=Zk x x.n.length gv;rw[er] at dc;simp only[er];obtain⟨s0,dd⟩:∃ y,rsN x=y:=⟨_,rfl⟩;rw[dd] at dc;simp only[dd];have lb:=Α dd;clear er dd;have nd:=Α (Bm HV.out);have gx:Ϻ ((Ae x).cell=Ak x.cls):=Α rfl;have hZ:=Α (Ama (Ae x).cell);have hO:=Gy (Ae x).cell (Β Γ 0 0) (Β Γ 0 0) rfl rfl;have hb:ϖ.size=(trA (Ae x).cell (Β Γ 0 0) (Β Γ 0 0)).size:=by rw[Dw,Fe]
   have hc:(Η.info? 79).map (·.size)=Δ (trA (Ae x).cell (Β Γ 0 0) (Β Γ 0 0)).size:=by rw[Dw];exact Cp
   have lf:=hE;go_upto_region 11 with (first
    | (refine Υ rfl 30 (η 4) rfl _ rfl _ _ _ _ (gk.out wr hE) Ν rfl gg ?_)
    | (go_at_call 51;(with_reducible refine f51.out.mono ?_);rintro e U ⟨A6,rfl,lh,hf⟩;obtain⟨lj,lk,hh,_,_⟩:=lh;have et:=Α (Aaz (Ae x).cell lj lk);rw[<-hh] at et;have hl:=Akf A6 U;rw[et.out] at hl;clear et hh)
    | (refine B3 rfl 79 _ rfl (trA (Ae x).cell (Β Γ 0 0) (Β Γ 0 0)) ?_ ?_;(simp[Act.eval];with_reducible exact hZ.out))
    | (refine Φ rfl 79 (η 7) (η 40) rfl _ (trA (Ae x).cell (Β Γ 0 0) (Β Γ 0 0)) rfl rfl _ _ (Ab U _) hc hb hO ?_))
   have H:=((Hp.nil U).new (Ε ϖ 79)).box 0 rfl (trA (Ae x).cell (Β Γ 0 0) (Β Γ 0 0));obtain⟨w7,de⟩:∃ X,(U.alloc (Ε ϖ 79)).setRow U.heap.size (trA (Ae x).cell (Β Γ 0 0) (Β Γ 0 0))=X:=⟨_,rfl⟩;obtain⟨g7,eu⟩:∃ y,U.heap.size=y:=⟨_,rfl⟩;rw[eu] at de H;rw[de] at H;simp only[eu];simp only[de];clear de eu hZ hO hb hc c1 lf hl f51;replace H:Hp U w7 [.obj g7 (Ε (trA (Ae x).cell (Β Γ 0 0) (Β Γ 0 0)) 79 (0,0))]:=H;have a1:=Α (hE.trans hf);have hp:=Α (Yq (s0:Int));clear hE hf;go_upto_region 12 with (first
    | (refine B3 rfl 94 _ rfl #[.int ζ 0,.int π (s0:Int)] ?_ ?_;(simp[Act.eval];with_reducible exact hp.out)))
   have cq:=H.lit 94 2 (Ez s0) 1 (by unfold ϙ;omega) rfl;replace cq:Hp U (w7.alloc (Ε #[.int ζ 0,.int π (s0:Int)] 94)) [.row 94 2 (Β (Δ ⟨w7.heap.size,0,Γ⟩) 1 1) 1 (fl2 [s0]),.obj g7 (Ε (trA (Ae x).cell (Β Γ 0 0) (Β Γ 0 0)) 79 (0,0))]:=cq;obtain⟨w8,ev⟩:∃ X,w7.alloc (Ε #[.int ζ 0,.int π (s0:Int)] 94)=X:=⟨_,rfl⟩;obtain⟨ll,ew⟩:∃ y,w7.heap.size=y:=⟨_,rfl⟩;rw[ev,ew] at cq;simp only[ev,ew];clear ev ew H hp;have bp:=((cq.swap.nilRow 4 1).nilRow 68 1);have a1:=a1;have ln:=Α (λk (hk:k<x.cls.length)=>(Ie HV.out.parts hk).2);have ct:=Α (G9 x.cls);obtain⟨m,hm⟩:∃ y,x.cls.length=y:=⟨_,rfl⟩;have HM:=Α hm;rw[hm] at k6 gu gm ln ct;obtain⟨nn,df⟩:∃ y,x.n.length=y:=⟨_,rfl⟩;have nh:=Α df;simp only[df];rw[df] at k5 gv;obtain⟨cx,hy⟩:∃ y,(Ae x).cell=y:=⟨_,rfl⟩;rw[hy] at gx bp;have hz:Ϻ (Ra x m 0 [s0] (λy=>if y=s0 then Δ 0 else Γ) [] [] []):=Α ⟨rfl,by rw[<-lb.out];exact Qg (Cf x.cls) (rsN x) (rnN x) (δ m 0) (by rw[ct.out];simp),rfl,λj hj=>by omega,λS hS=>by simp at hS;subst hS;exact dc⟩;clear hm df hy cq hs dc;go_wp2_with (fail);go_loopw [8,9] (λvo vi W=>∃ (l:List Nat) (f:Nat->Option Nat) (N':List (List Nat)) (Ac:List Bool) (I:List Ρ) (gl cl:Nat) (vn va:Ρ) (i:Nat),i<=l.length/\l.length<=4096/\vo=Β (Δ ⟨gl,0,Γ⟩) l.length cl/\vi=.int ζ i/\
     Hp U W (.row 68 1 vn I.length I::.row 4 1 va Ac.length (Ac.map ο)::.obj g7 (Ε (trA cx vn va) 79 (0,0))::.row 94 2 (Β (Δ ⟨gl,0,Γ⟩) l.length cl) l.length (fl2 l)::C1 I N')/\Ϻ (Ra x m i l f N' I Ac))
    (λ_ vi _=>4096-(intOf vi).toNat)
   case atStart=>exact⟨[s0],_,[],[],[],ll,1,Β Γ 0 0,Β Γ 0 0,0,by omega,by simp,rfl,rfl,bp,hz⟩
   case round=>
    clear bp hz;obtain⟨l,f,N',Ac,I,gl,cl,vn,va,i,ni,lo,rfl,rfl,H,HI⟩:=hrel;by_cases db:i<l.length
    ·have nj:(i:Int)<(l.length:Int):=by omega
     go_upto_region 15 with (fail)
     have e0:=H.lit 3 1 #[] 0 (by unfold ϙ;omega) rfl;go_upto_region 16 with (fail)
     obtain⟨wb,e1⟩:∃ X,wr.alloc (Ε #[] 3)=X:=⟨_,rfl⟩;obtain⟨lp,e2⟩:∃ y,wr.heap.size=y:=⟨_,rfl⟩;rw[e1,e2] at e0;simp only[e1,e2];clear e1 e2 H;go_wp2_with (fail);go_loopw [8,10,11] (λvo vr vk W=>∃ (D:List Nat) (f2:Nat->Option Nat) (r:List Nat) (J ak gr cr k:Nat),k<=m/\D.length<=4096+k/\vo=Β (Δ ⟨J,0,Γ⟩) D.length ak/\vr=Β (Δ ⟨gr,0,Γ⟩) r.length cr/\vk=.int ζ k/\
       Hp U W (.row 3 1 (Β (Δ ⟨gr,0,Γ⟩) r.length cr) r.length (r.map iv)::.row 68 1 vn I.length I::.row 4 1 va Ac.length (Ac.map ο)::.obj g7 (Ε (trA cx vn va) 79 (0,0))::.row 94 2 (Β (Δ ⟨J,0,Γ⟩) D.length ak) D.length (fl2 D)::C1 I N')/\Ϻ (K9 x m i k l D f2 N' r))
      (λ_ _ vk _=>m-(intOf vk).toNat)
     case atStart=>exact⟨l,f,[],gl,cl,lp,0,0,by omega,by omega,rfl,rfl,rfl,e0,Α ⟨rfl,by have:=HI.out.2.1;simpa using this,db,λ_ _=>rfl,HI.out.2.2.2.2⟩⟩
     case round=>
      clear e0;obtain⟨D,f2,r,J,ak,gr,cr,k,hk,nl,rfl,rfl,rfl,H,HJ⟩:=hrel;have c0:=gm.out wr (a1.out.trans H.ext);have nm:r.length<=256:=by have:=HJ.out.1;omega
      have b8:=H.size;by_cases e4:k<m
      ·have np:(k:Int)<(m:Int):=by omega
       have a7:i<D.length:=HJ.out.2.2.1;have lr:(i:Int)<(D.length:Int):=by omega
       go_upto_region 19 with (fail)
       have dk:D.getD i 0<18446744073709551616:=by
        refine HJ.out.2.2.2.2 _ ?_;rw[Ζ,Μ a7];exact á a7
       have h0:=Or (H.row 4 rfl) rfl i a7;have e5:wr.cell? ⟨J,i*2+1,Γ⟩=Δ (.int π ((D.getD i 0:Nat):Int)):=h0 1 _ rfl;obtain⟨S,hS⟩:∃ y,D.getD i 0=y:=⟨_,rfl⟩;rw[hS] at dk e5;have cu:=Α hS;obtain⟨T,hT⟩:∃ y,C7 x S k x.n.length=y:=⟨_,rfl⟩;have h2:=Α hT;have ls:T<18446744073709551616:=by rw[<-hT];exact Sx x S k _ cm.out
       have f59:=Α (λW (G:Ext wr W)=>Ab5 x HV.out cm.out S k dk (by rw[HM.out];exact e4) (.agg V4) W (gn.out W (a1.out.trans (H.ext.trans G))));rw[hT] at f59;have h6:=Α e5;clear hS hT h0 e5 c0;refine Ht 10 108 (by kernel_rfl) (by kernel_rfl) rfl (N9 wr.heap.size J i S k T V4 D.length ak) Gh Ik (Adr _ _ _ _ _ _ _ _ _) (λq hq=>?_) (λvs wf h7 hF hN=>?_)
       ·have dn:=(Ι wr).drew
        match q,hq with
        | 0,_=>
         refine Ar _ _ rfl rfl rfl λc W G ab ai=>?_
         have h4:=ai 4 (by kernel_rfl);refine C4 (D2 30 (η 4) rfl g4 h4 _ _ _ _ (gk.out W (a1.out.trans (H.ext.trans (dn.trans G)))) Ν rfl gg) ?_;exact⟨_,rfl,Ι W,rfl,λ_ _ _ _ _=>trivial⟩
        | 1,_=>
         refine Ar _ _ rfl rfl rfl λc W G ab ai=>?_
         have h3:c.tmps.getD 8 ς=Β (Δ ⟨J,0,Γ⟩) D.length ak:=ai 8 (by kernel_rfl);go_simp;exact⟨_,rfl,Ι W,rfl,λ_ _ _ _ _=>trivial⟩
        | 2,_=>
         refine Ar _ _ rfl rfl rfl λc W G ab ai=>?_
         have h3:c.tmps.getD 9 ς=iv i:=ai 9 (by kernel_rfl);go_simp;exact⟨_,rfl,Ι W,rfl,λ_ _ _ _ _=>trivial⟩
        | 3,_=>
         refine Ar _ _ rfl rfl rfl λc W G ab ai=>?_
         have h3:c.tmps.getD 59 ς=Β (Δ ⟨J,0,Γ⟩) D.length ak:=ab 1 59 (by kernel_rfl);have h4:c.tmps.getD 60 ς=iv i:=ab 2 60 (by kernel_rfl);go_simp;exact⟨_,rfl,Ι W,rfl,λ_ _ _ _ _=>trivial⟩
        | 4,_=>
         refine Ar _ _ rfl rfl rfl λc W G ab ai=>?_
         have h3:c.tmps.getD 61 ς=γ (Δ ⟨J,i*2,Γ⟩):=ab 3 61 (by kernel_rfl);go_simp;exact⟨_,rfl,Ι W,rfl,λ_ _ _ _ _=>trivial⟩
        | 5,_=>
         refine Ar _ _ rfl rfl rfl λc W G ab ai=>?_
         have h3:c.tmps.getD 62 ς=γ (Δ ⟨J,i*2+1,Γ⟩):=ab 4 62 (by kernel_rfl);have c1:=(dn.trans G).cell h6.out;go_simp;exact⟨_,rfl,Ι W,rfl,λ_ _ _ _ _=>trivial⟩
        | 6,_=>
         refine Ar _ _ rfl rfl rfl λc W G ab ai=>?_
         have h3:c.tmps.getD 11 ς=iv k:=ai 11 (by kernel_rfl);go_simp;exact⟨_,rfl,Ι W,rfl,λ_ _ _ _ _=>trivial⟩
        | 7,_=>
         refine Ar _ _ rfl rfl rfl λc W G ab ai=>?_
         have h3:c.tmps.getD 58 ς=.agg V4:=ab 0 58 (by kernel_rfl);have h4:c.tmps.getD 63 ς=.int π (S:Int):=ab 5 63 (by kernel_rfl);have h5:c.tmps.getD 64 ς=iv k:=ab 6 64 (by kernel_rfl);go_simp;with_reducible refine (f59.out W (dn.trans G)).mono ?_
         rintro e W' ⟨rfl,hE⟩;exact⟨_,rfl,hE,rfl,λ_ _ _ _ _=>trivial⟩
        | 8,_=>
         refine Ar _ _ rfl rfl rfl λc W G ab ai=>?_
         have h3:c.tmps.getD 65 ς=.int π (T:Int):=ab 7 65 (by kernel_rfl);refine C4 (Hh 94 _ rfl (A:=Ez T) ?_ W) ?_
         ·have e:(Array.map (λ(a,b)=>(a,c.eval b)) #[(1,Operand.tmp 65)]).toList=[(1,c.eval (η 65))]:=by simp only[List.map_toArray,Ç,List.map_nil]
          rw[e,show c.eval (η 65)=_ from h3];exact Yq _
         exact⟨_,rfl,Ι W,rfl,λ_ _ _ _ _=>trivial⟩
        | 9,_=>
         refine Ar _ _ rfl rfl rfl λc W G ab ai=>?_
         go_simp;exact⟨_,rfl,(Ι W).alloc _,⟨_,rfl,Ab W _,(dn.trans G).size⟩,λ_ _ _ _ _=>trivial⟩
       ·obtain⟨e8,h8,e9,h9⟩:=hF 9 (by omega);have bw:=(Ι wr).drew.trans h7;have ia:vs 0=.agg V4:=hF 0 (by omega);have ib:vs 1=Β (Δ ⟨J,0,Γ⟩) D.length ak:=hF 1 (by omega);have ic:vs 2=iv i:=hF 2 (by omega);have ie:vs 3=γ (Δ ⟨J,i*2,Γ⟩):=hF 3 (by omega);have ig:vs 4=γ (Δ ⟨J,i*2+1,Γ⟩):=hF 4 (by omega);have ih:vs 5=.int π (S:Int):=hF 5 (by omega);have ij:vs 6=iv k:=hF 6 (by omega);have ik:vs 7=.int π (T:Int):=hF 7 (by omega);have il:vs 8=.agg (Ez T):=hF 8 (by omega);simp only[Bq,List.drop_succ_cons,List.drop_zero,h8,ia,ib,ic,ie,ig,ih,ij,ik,il,List.getElem?_toArray,List.getElem?_cons_zero,É,Option.bind_some,Ϛ,Θ,Χ,Ψ];clear hF hN h8 ia ib ic ie ig ih ij ik il f59 h6;obtain⟨E,b9⟩:∃ E,Ez T=E:=⟨_,rfl⟩;simp only[b9];have im:=Α b9;have iq:(Η.info? 94).map (·.size)=Δ E.size:=by rw[<-b9];exact Mn
        have ir:(#[.int ζ 0,.int π 0]:Array Ρ).size=E.size:=by rw[<-b9];rfl
        have iu:E.all (·.oneCell')=Ξ:=by rw[<-b9];exact Akt T
        clear b9;go_upto_region 20 with (refine Φ rfl 94 (η 12) (η 66) rfl _ E rfl rfl _ _ e9 iq ir iu ?_)
        have fa:=bw.setRow h9 E;have cv:=Α (μ wf e8 _ E _ _ e9);obtain⟨ws,fb⟩:∃ X,wf.setRow e8 E=X:=⟨_,rfl⟩;rw[fb] at fa cv;simp only[fb];clear fb bw h7 e9 h9 ir iu;have bp:=H.extW fa;have f60:=Aj5 D T J ak ws (by omega) (λq hq=>Or (bp.row 4 rfl) rfl q hq);rw[im.out] at f60;have f60:=Α f60;clear H fa b8;go_upto_region 21 with (first
         | (refine Υ rfl 94 (η 12) rfl _ rfl _ _ _ _ cv.out Tryz.underlying94 rfl iq ?_)
         | (go_at_call 60;(with_reducible refine f60.out.mono ?_);rintro e w9 ⟨rfl,fc⟩))
        have bq:=bp.extW fc;have cv:=Α (fc.heap cv.out);obtain⟨j,hj⟩:∃ y,D.findIdx (·==T)=y:=⟨_,rfl⟩;have nr:j<=D.length:=by rw[<-hj];exact List.findIdx_le_length
        simp only[hj];have iw:=Α hj;have b8:=bq.size;clear hj bp fc f60;by_cases ly:j<D.length
        ·have ns:(j:Int)<(D.length:Int):=by omega
         have nt:((j:Int)==(D.length:Int))=Τ:=by rw[beq_eq_false_iff_ne];omega
         have HN:=Α (Adl HV.out.parts HJ.out HM.out e4 cu.out h2.out iw.out ly);go_upto_region 23 with (fail)
         go_upto_region 18 with (at_builtin;refine ϐ _ rfl _ _ 68 rfl U.heap.size 3 i0 (.int ζ 0) 1 8 ϓ hi fu fv fw rfl (by decide) _ _ _ rfl ((bq.row 0 rfl).alloc _) _ 1 1 [iv j] rfl rfl (Ϫ _ _ _) (by simp[ϊ]) (by decide) (by unfold ϙ;omega) (by omega) (by simp;omega) _ rfl ?_;intro gq c7 ff cw bb bd _)
         have aw:=(bq.alloc (Ε #[iv j] 3)).app 0 rfl cw bb bd;clear cw bb bd bq b8;go_wp2;go_roundw
         case rel=>exact⟨D,f2,r++[j],J,ak,gq,c7,k+1,by omega,by omega,rfl,by rw[Ο];rfl,by go_num,by rw[Ο,ϔ];exact aw,HN⟩
         case measure=>simp[intOf];omega
        ·obtain rfl:j=D.length:=by omega
         obtain⟨f3,ix⟩:=Adm HV.out.parts HJ.out HM.out e4 cu.out h2.out iw.out ls;have HN:=Α ix;have lz:=Α (show w9.heap[e8]? = Δ (Ε #[.int ζ 0,.int π (T:Int)] 94 (0,0)) from by have:=cv.out;rw[<-im.out] at this;exact this);clear ix;go_upto_region 23 with (first
          | (refine Υ rfl 94 (η 12) rfl _ rfl _ #[.int ζ 0,.int π (T:Int)] _ _ lz.out Tryz.underlying94 rfl Mn ?_)
          | (at_builtin;refine ϐ _ rfl _ _ 95 rfl U.heap.size 94 i9 (.agg #[.int ζ 0,.int π 0]) 2 16 Tryz.underlying95 kh ki kj kk rfl (by decide) _ _ _ rfl ((bq.row 4 rfl).alloc _) _ 1 1 [.int ζ 0,.int π (T:Int)] rfl rfl (Jc _ _ _ _) (by simp[ϊ]) (by decide) (by unfold ϙ;omega) (by omega) (by simp;omega) _ rfl ?_;intro gq c7 ff cw bb bd _))
         have aw:=(bq.alloc (Ε #[.int ζ 0,.int π (T:Int)] 94)).app 4 rfl cw bb bd;clear cw bb bd bq b8;have b8:=aw.size;go_upto_region 18 with (at_builtin;refine ϐ _ rfl _ _ 68 rfl U.heap.size 3 i0 (.int ζ 0) 1 8 ϓ hi fu fv fw rfl (by decide) _ _ _ rfl ((aw.row 0 rfl).alloc _) _ 1 1 [iv D.length] rfl rfl (Ϫ _ _ _) (by simp[ϊ]) (by decide) (by unfold ϙ;omega) (by omega) (by simp;omega) _ rfl ?_;intro l4 c8 nu iy iz ja _)
         have be:=(aw.alloc (Ε #[iv D.length] 3)).app 0 rfl iy iz ja;clear iy iz ja aw b8;go_wp2;go_roundw
         case rel=>exact⟨D++[T],f3,r++[D.length],gq,c7,l4,c8,k+1,by omega,by rw[Ο];simp;omega,by rw[Ο];rfl,by rw[Ο];rfl,by go_num,by rw[Ο,Ο,ϔ,<-Ajx];exact be,HN⟩
         case measure=>simp[intOf];omega
      ·obtain rfl:k=m:=by omega
       have dp:=Α ((a1.out.trans H.ext).heap ay.out);have l6:=Α (gp.out.trans (a1.out.trans H.ext));by_cases l7:4096<D.length
       ·have l8:(4096:Int)<(D.length:Int):=by omega
        have jb:B9 (rnN x) (rsN x) 4096:=⟨D,HJ.out.2.1.nodup,HJ.out.2.1.reach,l7⟩;have l9:=Α (Ag2 HV.out cm.out jb);have ma:=Α Fa;clear jb;go_wp2_with (first
         | (refine B3 rfl 30 _ rfl #[Β Γ 0 0,Β Γ 0 0,Β Γ 0 0] ?_ ?_;(simp;with_reducible exact ma.out))
         | (refine Φ rfl 30 (η 2) (η 85) rfl _ _ rfl rfl _ _ dp.out Ad rfl Ew ?_))
        refine ϋ (v:=ϥ #[zD,.int ζ 2]) (Ba rfl _ _ _ _ _ _ _ rfl _ rfl (μ wr _ _ #[Β Γ 0 0,Β Γ 0 0,Β Γ 0 0] 30 (0,0) dp.out) Ν rfl Ad) rfl ?_;exact⟨Γ,rfl,⟨x,gj.out,eo.out,λ_=>rfl,λh=>absurd l9.out h⟩,l6.out.setRow gb.out _⟩
       ·have l8:¬ (4096:Int)<(D.length:Int):=by omega
        have a7:i<D.length:=HJ.out.2.2.1;have lr:(i:Int)<(D.length:Int):=by omega
        have nv:I.length<=4096:=by rw[HI.out.1,HI.out.2.1.lenN];omega
        have dk:D.getD i 0<18446744073709551616:=by
         refine HJ.out.2.2.2.2 _ ?_;rw[Ζ,Μ a7];exact á a7
        have jc:=Qh (r:=r) (by
         have:=HJ.out.2.1;rw[HJ.out.1,Nat.sub_self,List.replicate_zero,List.append_nil] at this;rw[ct.out];exact this) a7 (δ k 0) (by rw[ct.out];simp)
        have mb:=Α jc;clear jc;have c1:=Ay (H.obj 3 rfl) (F9 cx vn va);go_upto_region 27 with (at_builtin;refine ϐ _ rfl _ _ 27 rfl U.heap.size 68 i6 (Β Γ 0 0) 1 24 Tryz.underlying27 kc kd ke kf rfl (by decide) vn I.length I rfl ((H.row 1 rfl).alloc _) _ 1 1 [Β (Δ ⟨gr,0,Γ⟩) r.length cr] rfl rfl (Ϫ _ _ _) (by simp[ϊ]) (by decide) (by unfold ϙ;omega) (by omega) (by simp;omega) _ rfl ?_;intro gq c7 ff jd bb bd _;have aw:=(H.alloc (Ε #[Β (Δ ⟨gr,0,Γ⟩) r.length cr] 68)).app 1 rfl jd bb bd;have mc:=Ay (aw.obj 3 rfl) (F9 cx vn va);have f17:=aw.frozen 3 rfl 256)
        have be:=(aw.cell 3 rfl 256 (Β (Δ ⟨gq,0,Γ⟩) (I.length+1) c7) (Nl cx vn va _)).park;clear c1 mc f17 jd bb bd aw H;obtain⟨wx,fh⟩:∃ X,ff.setCell ⟨g7,256,Γ⟩ (Β (Δ ⟨gq,0,Γ⟩) (I.length+1) c7)=X:=⟨_,rfl⟩;rw[fh] at be;simp only[fh];clear fh;obtain⟨bf,fj⟩:∃ v,ϟ (Δ ⟨gq,0,Γ⟩) (I.length+1) c7=v:=⟨_,rfl⟩;rw[fj] at be;simp only[fj];clear fj;replace be:Hp U wx (.row 68 1 bf (I.length+1) (I++[Β (Δ ⟨gr,0,Γ⟩) r.length cr])::.row 4 1 va Ac.length (Ac.map ο)::.obj g7 (Ε (trA cx bf va) 79 (0,0))::.row 94 2 (Β (Δ ⟨J,0,Γ⟩) D.length ak) D.length (fl2 D)::C1 I N'++[.row 3 1 (Β (Δ ⟨gr,0,Γ⟩) r.length cr) r.length (r.map iv)]):=be;obtain⟨S,hS⟩:∃ y,D.getD i 0=y:=⟨_,rfl⟩;rw[hS] at dk;have cu:=Α hS;clear hS;have dq:=Α (λ(X:Κ) (vz:Ρ) (xs:List Ρ) (h:Hp U X (.row 68 1 bf (I.length+1) (I++[Β (Δ ⟨gr,0,Γ⟩) r.length cr])::.row 4 1 vz xs.length xs::.obj g7 (Ε (trA cx bf va) 79 (0,0))::.row 94 2 (Β (Δ ⟨J,0,Γ⟩) D.length ak) D.length (fl2 D)::C1 I N'++[.row 3 1 (Β (Δ ⟨gr,0,Γ⟩) r.length cr) r.length (r.map iv)]))=>
         (show X.cell? ⟨g7,257,Γ⟩=Δ va/\X.cell? ⟨J,i*2+1,Γ⟩=Δ (.int π (S:Int)) from
          ⟨Ay (h.obj 2 rfl) (Jr cx bf va),by rw[<-cu.out];exact Or (h.row 3 rfl) rfl i a7 1 _ rfl⟩))
        have bu:=be.extW (Ι wx).drew;have dr:(Ac.map ο).length=Ac.length:=Ϗ _;refine B0 12 [(0,Ξ),(1,Ξ),(2,Ξ),(3,Ξ),(4,Ξ),(5,Ξ),(6,Ξ),(7,Ξ),(8,Ξ),(9,Τ),(10,Τ),(11,Ξ),(12,Τ)] (by kernel_rfl) (by kernel_rfl) (λ_ _ _ _ h=>h)
         (λW=>W.cell? ⟨g7,257,Γ⟩=Δ va/\W.cell? ⟨J,i*2+1,Γ⟩=Δ (.int π (S:Int))) (dq.out _ _ (Ac.map ο) (by rw[dr];exact bu)) ?_
        clear be;obtain⟨wq,fk⟩:∃ X,wx.drew=X:=⟨_,rfl⟩;rw[fk] at bu;rw[fk];clear fk;iterate 9
         refine Ao (v:=?_) rfl rfl (λV hV=>?_) ?_
         rotate_left
         ·obtain⟨k0,k1⟩:=hV;go_simp;first|done|with_reducible rfl
         simp only[Ϛ,Θ,Χ,Ψ]
        obtain⟨ok,fl⟩:∃ b,((S:Int).tmod 2==1)=b:=⟨_,rfl⟩;simp only[fl];have mf:Ϻ (ok=S.testBit 0):=Α (by rw[<-fl];exact Amw S);clear fl;have mg:=bu.size;have n0:Ac.length<=65536:=by rw[HI.out.2.2.1];omega
        refine A4 rfl (λKq bg=>?_);go_simp;refine bg _ _ (λ_=>dq.out _ _ (Ac.map ο) (by rw[dr];exact bu.alloc _)) ?_;clear bg Kq;refine A4 rfl (λKq bg=>?_);refine step_append_lies _ rfl _ _ 28 rfl U.heap.size 4 i4 (.bool Τ) 1 1 Tryz.underlying28 j7 j8 j9 ka rfl (by decide) va Ac.length (Ac.map ο) rfl ((bu.row 1 rfl).alloc _) _ 1 1 [.bool ok] rfl rfl (Ϫ _ _ _) (by simp[ϊ]) (by decide) (by unfold ϙ;omega) (by omega) (by simp;omega) _ rfl ?_;intro ga jf dt jg jh ji _;have cz:=(bu.alloc (Ε #[.bool ok] 4)).app 1 rfl jg jh ji;clear jg jh ji bu mg;have jj:Ϻ (dt.cell? ⟨g7,257,Γ⟩=Δ va/\dt.cell? ⟨J,i*2+1,Γ⟩=Δ (.int π (S:Int))):=Α (dq.out _ _ (Ac.map ο++[.bool ok]) (by rw[Ο,dr];exact cz));refine bg _ _ (λ_=>jj.out) ?_;clear bg Kq;refine Ao (v:=?_) rfl rfl (λV hV=>?_) ?_
        rotate_left
        ·clear hV;go_simp;first|done|with_reducible rfl
        simp only[Ϛ,Θ,Χ,Ψ];have k2:=Ay (cz.obj 2 rfl) (Jr cx bf va);have mi:=cz.frozen 2 rfl 257;refine A4 rfl (λKq bg=>?_);go_simp;refine bg _ _ (λh=>absurd h (by omega)) ?_;clear bg Kq k2 mi;refine B2 ?_;have mj:=cz.cell 2 rfl 257 (Β (Δ ⟨ga,0,Γ⟩) (Ac.length+1) jf) (Nm cx bf va _);clear cz jj dq dr;have ml:Ϻ (Ra x k (i+1) D f2 (N'++[r]) (I++[ϟ (Δ ⟨gr,0,Γ⟩) r.length cr]) (Ac++[ok])):=
         Α ⟨by rw[Ο,Ο,HI.out.1];rfl,mb.out,by rw[Ο,HI.out.2.2.1];rfl,λj hj=>by
          rw[He,HI.out.2.2.1];by_cases jk:j<i
          ·rw[if_pos jk,HJ.out.2.2.2.1 j (by omega)];exact HI.out.2.2.2.1 j jk
          ·obtain rfl:j=i:=by omega
           rw[if_neg (by omega),if_pos rfl,cu.out,mf.out],HJ.out.2.2.2.2⟩
        go_wp2;go_roundw
        case rel=>exact⟨D,f2,N'++[r],Ac++[ok],I++[Β (Δ ⟨gr,0,Γ⟩) r.length cr],J,ak,bf,Β (Δ ⟨ga,0,Γ⟩) (Ac.length+1) jf,i+1,by omega,by omega,rfl,by go_num,by rw[Lt HI.out.1,Ο,Ο,ϔ];exact mj,ml⟩
        case measure=>simp[intOf];omega
    ·obtain rfl:i=l.length:=by omega
     have mm:=HI.out;obtain⟨q1,q2,q3,q4,q5⟩:=HI.out;have du:=Α (Qk (c:=Ak x.cls) (ac:=λS=>S.testBit 0) q2 rfl q3 (λj S hS=>by
      have hj:j<l.length:=by rw[ό] at hS;exact hS.1
      rw[q4 j hj,Ζ,hS];rfl))
     have fm:=Α (Expl.tval du.out (Po HV.out.parts));have fo:=Α (Ade HV.out cm.out du.out lo);have jm:=Α du.out.len;have jn:∀ j,j<N'.length->(N'.getD j []).length<=4611686018427387904:=λj hj=>by
      rw[q2.rows j (by rw[q2.lenN] at hj;exact hj),ct.out];omega
     have mq:=q2.lenN;have dv:IsR wr (trA cx vn va) ⟨Ak x.cls,(Cf x.cls).length,N',Ac⟩:=⟨vn,va,by rw[gx.out],Y4 H.at_ 0 4 rfl (λj=>rfl) q1 (show N'.length<=4611686018427387904 by omega) jn,OwnB.bools (base:=U.heap.size) (l:=Ac) (H.row 1 rfl) (by omega)⟩;have HO:=Α (H.obj 2 rfl);have jq:(Η.info? 79).map (·.size)=Δ (trA cx vn va).size:=by rw[Dw];exact Cp
     obtain⟨Af,jr⟩:∃ X,trA cx vn va=X:=⟨_,rfl⟩;obtain⟨t,ht⟩:∃ t:Tbl,(⟨Ak x.cls,(Cf x.cls).length,N',Ac⟩:Tbl)=t:=⟨_,rfl⟩;rw[jr] at HO jq dv;rw[ht] at dv du fm fo jm;have f61:=Α (Ahv t fm.out (Me t fm.out (by rw[jm.out];omega)) Af wr dv);have mu:=Α (λ(r:Option Dfa) (h:F5 (λu=>t.has u=Ξ) r)=>Pc (M:=λu=>d.has u.reverse=Ξ) h λu=>by rw[fo.out.2,eo.out]);have dp:=Α ((a1.out.trans H.ext).heap ay.out);have mv:=Α (gp.out.trans (a1.out.trans H.ext));clear H q1 q2 q3 q4 q5 jn mq dv jr ht mm HI;go_wp2_with (first
      | (refine Υ rfl 79 (η 7) rfl _ rfl _ _ _ _ HO.out Â rfl jq ?_)
      | (go_at_call 61;(with_reducible refine f61.out.mono ?_);rintro e dt ⟨r,fp,jt,ju⟩;obtain⟨jv,jw,jx,jy,jz,j0,j1,j2,j3,k3,rfl⟩:=fp.form;have mw:=Α fp;have j4:=Α (mu.out r (Ahw jt));clear fp jt;have fq:=Α (ju.heap dp.out))
      | (refine Φ rfl 30 (η 2) (η 106) rfl _ _ rfl rfl _ _ fq.out Ad rfl (Ap _ _ _ rfl rfl rfl) ?_))
     refine ϋ (v:=ϥ #[.agg (dA (Β jv jw jx) (Β jy jz j0) (Β j1 j2 j3)),.int ζ k3]) (Ba rfl _ _ _ _ _ _ _ rfl _ rfl (μ dt _ _ (dA (Β jv jw jx) (Β jy jz j0) (Β j1 j2 j3)) 30 (0,0) fq.out) Ν rfl Ad) rfl ?_;exact⟨r,mw.out.setRow (λd' h=>by subst h;exact j4.out.1.val) fq.out _,⟨x,gj.out,eo.out,λhm=>absurd hm fo.out.1,λ_=>j4.out⟩,(mv.out.trans ju).setRow gb.out _⟩
end Go.Proofs.YtaiogolidlamiaaGreatDoor
