import Derived.Test.YtaiogolidlamiaaGreatDoorM02
set_option linter.unusedVariables false
set_option linter.unusedSimpArgs false
namespace Go.Proofs.YtaiogolidlamiaaGreatDoor
set_option maxRecDepth 100000
def Alk (l:List Cls) (i j:Nat):Prop:=∀ c∈l,c.getLsbD i=c.getLsbD j
theorem Alk.refl (l:List Cls) (i:Nat):Alk l i i:=fun _ _=>rfl
theorem Alk.symm {l:List Cls} {i j:Nat} (h:Alk l i j):Alk l j i:=fun c hc=>(h c hc).symm
theorem Alk.trans {l:List Cls} {i j k:Nat} (h:Alk l i j) (h':Alk l j k):Alk l i k:=fun c hc=>(h c hc).trans (h' c hc)
structure IsCells (l L:List Cls):Prop where
 dis:L.Pairwise Dis
 nz:∀ c∈L,c≠0#256
 cover:∀ i,i<256→∃ c∈L,c.getLsbD i=true
 cls:∀ c∈L,∀ i,i<256→c.getLsbD i=true→∀ j,j<256→(c.getLsbD j=true↔Alk l i j)
theorem Om (k c x:Cls):x∈Dj k c↔(x=c &&& k∨x=c &&& ~~~k)∧x≠0#256:=by
 unfold Dj;rw [List.mem_filter];simp
theorem Fw {c:Cls} {i:Nat} (h:c.getLsbD i=true):c≠0#256:=by
 rintro rfl;simp at h
theorem Md {c:Cls} (h:c≠0#256):∃ i,i<256∧c.getLsbD i=true:=by
 have h1:=Ho c h;exact ⟨_,by omega,h1.2.2⟩
theorem Afv {l L:List Cls} (k:Cls) (h:IsCells l L):IsCells (l++[k]) (Cn k L) where
 dis:=Zp k L h.dis
 nz:=Rt k L
 cover:=fun i hi=>by
  obtain ⟨c,hc,hci⟩:=h.cover i hi;cases hk:k.getLsbD i
  ·have hx:(c &&& ~~~k).getLsbD i=true:=by rw [BitVec.getLsbD_and,BitVec.getLsbD_not,hci,hk];simp [hi]
   exact ⟨_,List.mem_flatMap.2 ⟨c,hc,(Om k c _).2 ⟨.inr rfl,Fw hx⟩⟩,hx⟩
  ·have hx:(c &&& k).getLsbD i=true:=by rw [BitVec.getLsbD_and,hci,hk];rfl
   exact ⟨_,List.mem_flatMap.2 ⟨c,hc,(Om k c _).2 ⟨.inl rfl,Fw hx⟩⟩,hx⟩
 cls:=fun x hx i hi hxi j hj=>by
  obtain ⟨c,hc,hx⟩:=List.mem_flatMap.1 hx;obtain ⟨hx,-⟩:=(Om k c x).1 hx;have hal:Alk (l++[k]) i j↔Alk l i j∧k.getLsbD i=k.getLsbD j:=by
   constructor
   ·intro h;exact ⟨fun c hc=>h c (by simp [hc]),h k (by simp)⟩
   ·rintro ⟨h1,h2⟩ c hc;rw [List.mem_append,List.mem_singleton] at hc;rcases hc with hc|rfl
    ·exact h1 c hc
    ·exact h2
  rw [hal];rcases hx with rfl|rfl
  ·rw [BitVec.getLsbD_and,Bool.and_eq_true] at hxi;rw [← h.cls c hc i hi hxi.1 j hj,BitVec.getLsbD_and,Bool.and_eq_true,hxi.2];cases k.getLsbD j<;>simp
  ·simp only [BitVec.getLsbD_and,BitVec.getLsbD_not,hi,hj,decide_true,Bool.true_and,Bool.and_eq_true,Bool.not_eq_true'] at hxi ⊢;rw [← h.cls c hc i hi hxi.1 j hj,hxi.2];cases k.getLsbD j<;>simp
theorem O6 (l:List Cls):IsCells l (Dy l):=by
 have:∀ (l m L:List Cls),IsCells m L→IsCells (m++l) (l.foldl (fun L k=>Cn k L) L):=fun l=>by
  induction l with
  | nil=>intro m L h;rw [List.append_nil];exact h
  | cons k l ih=>
   intro m L h;have:=ih (m++[k]) _ (Afv k h);rw [List.append_assoc,List.singleton_append] at this;exact this
 have h0:IsCells [] [allC]:=by
  refine ⟨List.pairwise_singleton _ _,full_one.2,fun i hi=>⟨allC,List.mem_singleton.2 rfl,?_⟩,fun c hc i hi _ j hj=>?_⟩
  ·unfold allC;rw [BitVec.getLsbD_not,BitVec.getLsbD_zero];simp [hi]
  ·rw [List.mem_singleton] at hc;subst hc;constructor
   ·intro _ c hc;cases hc
   ·intro _;unfold allC;rw [BitVec.getLsbD_not,BitVec.getLsbD_zero];simp [hj]
 exact this l [] [allC] h0
theorem IsCells.perm {l L M:List Cls} (h:IsCells l L) (hp:M.Perm L):IsCells l M where
 dis:=hp.symm.pairwise h.dis (fun hab=>Dis.symm hab)
 nz:=fun c hc=>h.nz c (hp.mem_iff.1 hc)
 cover:=fun i hi=>by obtain ⟨c,hc,hi⟩:=h.cover i hi;exact ⟨c,hp.mem_iff.2 hc,hi⟩
 cls:=fun c hc=>h.cls c (hp.mem_iff.1 hc)
theorem T9 (l:List Cls):IsCells l (Jn l):=(O6 l).perm (Ah3 l)
theorem IsCells.nodup {l L:List Cls} (h:IsCells l L):L.Nodup:=by
 refine List.Pairwise.imp_of_mem ?_ h.dis;rintro a b ha hb hab rfl;obtain ⟨i,_,hi⟩:=Md (h.nz a ha);exact hab i ⟨hi,hi⟩
theorem IsCells.sub {l m L M:List Cls} (h:IsCells l L) (h':IsCells m M) (hs:∀ i j,i<256→j<256→(Alk l i j↔Alk m i j)) (c:Cls) (hc:c∈L):c∈M:=by
 obtain ⟨i,hi,hci⟩:=Md (h.nz c hc);obtain ⟨d,hd,hdi⟩:=h'.cover i hi;have:c=d:=by
  apply BitVec.eq_of_getLsbD_eq;intro j hj;have h1:=h.cls c hc i hi hci j hj;have h2:=h'.cls d hd i hi hdi j hj;rw [hs i j hi hj] at h1;rw [Bool.eq_iff_iff,h1,h2]
 rw [this];exact hd
theorem IsCells.eq {l m L M:List Cls} (h:IsCells l L) (h':IsCells m M) (hs:∀ i j,i<256→j<256→(Alk l i j↔Alk m i j)) (hL:L.Pairwise fun a b=>key a≤key b) (hM:M.Pairwise fun a b=>key a≤key b):L=M:=by
 have hp:L.Perm M:=(List.perm_ext_iff_of_nodup h.nodup h'.nodup).2 fun c=>⟨h.sub h' hs c,h'.sub h (fun i j hi hj=>(hs i j hi hj).symm) c⟩
 exact List.Perm.eq_of_pairwise (fun a b ha hb h1 h2=>Afj h'.dis h'.nz a b (hp.mem_iff.1 ha) hb (Int.le_antisymm h1 h2)) hL hM hp
theorem T8 (c:Cls) (m:Nat) (hm:m<256) (h:c.getLsbD m=true) (hl:∀ j,j<m→c.getLsbD j=false):key c=m:=by
 have h1:=Ho c (Fw h);have h2:=hl (Bh (Al c 256)).toNat;unfold key;have h3:¬ (Bh (Al c 256)).toNat<m:=fun hlt=>by rw [h2 hlt] at h1;exact absurd h1.2.2 (by simp)
 have h4:Bh (Al c 256)≤m:=by
  have hmem:UInt8.ofNat m∈Al c 256:=(K9 c _).2 (by rw [u8n m hm];exact h);have hinc:(Al c 256).Pairwise fun a b=>a.toNat<b.toNat:=by
   have:∀ k,k≤256→(Al c k).Pairwise fun a b=>a.toNat<b.toNat:=fun k=>by
    induction k with
    | zero=>intro _;exact List.Pairwise.nil
    | succ k ih=>
     intro hk;simp only [Al];split
     ·rw [List.pairwise_append];refine ⟨ih (by omega),List.pairwise_singleton _ _,fun a ha b hb=>?_⟩;rw [List.mem_singleton] at hb;subst hb;rw [u8n k (by omega)];exact ((Tw c k (by omega) a).1 ha).1
     ·exact ih (by omega)
   exact this 256 (Nat.le_refl _)
  cases hb:Al c 256 with
  | nil=>rw [hb] at hmem;cases hmem
  | cons x t=>
   rw [hb] at hmem hinc;simp only [Bh];rcases List.mem_cons.1 hmem with e|e
   ·rw [← e,u8n m hm];exact Int.le_refl _
   ·have:=(List.pairwise_cons.1 hinc).1 _ e;rw [u8n m hm] at this;omega
 omega
structure RInv (l:List Cls) (i:Nat) (out:List Cls) (le:List UInt8):Prop where
 len:out.length=le.length
 bound:le.length≤i
 bits:∀ k,k<le.length→∀ j,j<256→((out.getD k 0#256).getLsbD j=true↔j<i∧Alk l (le.getD k 0).toNat j)
 inc:∀ k,k<le.length→(le.getD k 0).toNat<i
 srt:∀ m k,m<k→k<le.length→(le.getD m 0).toNat<(le.getD k 0).toNat
 sep:∀ k j,k<le.length→j<(le.getD k 0).toNat→¬ Alk l j (le.getD k 0).toNat
 all:∀ j,j<i→∃ k,k<le.length∧Alk l (le.getD k 0).toNat j
theorem Aau (l:List Cls):RInv l 0 [] []:=by
 refine ⟨rfl,?_,?_,?_,?_,?_,?_⟩<;>simp
theorem Bi {α:Type} (l:List α) (x d:α) (k:Nat) (h:k<l.length):(l++[x]).getD k d=l.getD k d:=by
 rw [List.getD_eq_getElem?_getD,List.getElem?_append_left h,← List.getD_eq_getElem?_getD]
theorem Bw {α:Type} (l:List α) (x d:α):(l++[x]).getD l.length d=x:=by
 rw [List.getD_eq_getElem?_getD,List.getElem?_append_right (Nat.le_refl _)];simp
theorem Us {α:Type} (l:List α) (x d:α) (k:Nat) (h:k<l.length):(l.set k x).getD k d=x:=by
 simp [List.getD_eq_getElem?_getD,h]
theorem Ut {α:Type} (l:List α) (x d:α) (k m:Nat) (h:k≠m):(l.set k x).getD m d=l.getD m d:=by
 simp [List.getD_eq_getElem?_getD,List.getElem?_set_ne h]
theorem Aaw {l:List Cls} {i:Nat} {out:List Cls} {le:List UInt8} (h:RInv l i out le) (hi:i<256) (hn:∀ k,k<le.length→¬ Alk l (le.getD k 0).toNat i) :
  RInv l (i+1) (out++[Bj 0#256 (i:Int)]) (le++[UInt8.ofNat i]):=by
 have hu:=u8n i hi;have hlen:=h.len;have hlt:∀ k,k<(le++[UInt8.ofNat i]).length→k<le.length∨k=le.length:=fun k hk=>by simp at hk;omega
 refine ⟨by simp [hlen],by have:=h.bound;simp;omega,fun k hk j hj=>?_,fun k hk=>?_,fun m k hmk hk=>?_,fun k j hk hj=>?_,fun j hj=>?_⟩
 ·rcases hlt k hk with hk|rfl
  ·rw [Bi _ _ _ _ (by omega),Bi _ _ _ _ hk,h.bits k hk j hj];constructor
   ·rintro ⟨h1,h2⟩;exact ⟨by omega,h2⟩
   ·rintro ⟨h1,h2⟩;refine ⟨?_,h2⟩;by_cases e:j=i
    ·rw [e] at h2;exact absurd h2 (hn k hk)
    ·omega
  ·rw [← hlen,Bw,hlen,Bw,hu,Jc _ _ _ hi];simp only [BitVec.getLsbD_zero,Bool.false_or,decide_eq_true_eq];constructor
   ·rintro rfl;exact ⟨by omega,Alk.refl _ _⟩
   ·rintro ⟨h1,h2⟩;by_cases e:j=i
    ·exact e
    ·obtain ⟨k,hk,hka⟩:=h.all j (by omega);exact absurd (hka.trans h2.symm) (hn k hk)
 ·rcases hlt k hk with hk|rfl
  ·rw [Bi _ _ _ _ hk];have:=h.inc k hk;omega
  ·rw [Bw,hu];omega
 ·rcases hlt k hk with hk|rfl
  ·rw [Bi _ _ _ _ hk,Bi _ _ _ _ (by omega)];exact h.srt m k hmk hk
  ·rw [Bw,hu,Bi _ _ _ _ hmk];exact h.inc m hmk
 ·rcases hlt k hk with hk|rfl
  ·rw [Bi _ _ _ _ hk] at hj ⊢;exact h.sep k j hk hj
  ·rw [Bw,hu] at hj ⊢;intro ha;obtain ⟨k,hk,hka⟩:=h.all j hj;exact hn k hk (hka.trans ha)
 ·by_cases e:j=i
  ·subst e;exact ⟨le.length,by simp,by rw [Bw,hu];exact Alk.refl _ _⟩
  ·obtain ⟨k,hk,hka⟩:=h.all j (by omega);exact ⟨k,by simp;omega,by rw [Bi _ _ _ _ hk];exact hka⟩
theorem Aav {l:List Cls} {i:Nat} {out:List Cls} {le:List UInt8} (h:RInv l i out le) (hi:i<256) (k:Nat) (hk:k<le.length) (ha:Alk l (le.getD k 0).toNat i) :
  RInv l (i+1) (out.set k (Bj (out.getD k 0#256) (i:Int))) le:=by
 have hlen:=h.len;refine ⟨by simp [hlen],by have:=h.bound;omega,fun m hm j hj=>?_,fun m hm=>by have:=h.inc m hm;omega,h.srt,h.sep,fun j hj=>?_⟩
 ·by_cases e:k=m
  ·subst e;rw [Us _ _ _ _ (by omega),Jc _ _ _ hi,Bool.or_eq_true,h.bits k hk j hj,decide_eq_true_eq];constructor
   ·rintro (⟨h1,h2⟩|rfl)
    ·exact ⟨by omega,h2⟩
    ·exact ⟨by omega,ha⟩
   ·rintro ⟨h1,h2⟩;by_cases e:j=i
    ·exact .inr e
    ·exact .inl ⟨by omega,h2⟩
  ·rw [Ut _ _ _ _ _ e,h.bits m hm j hj];constructor
   ·rintro ⟨h1,h2⟩;exact ⟨by omega,h2⟩
   ·rintro ⟨h1,h2⟩;refine ⟨?_,h2⟩;by_cases e':j=i
    ·exfalso
     subst e';have hkm:=ha.trans h2.symm;rcases Nat.lt_or_gt_of_ne e with hlt|hgt
     ·exact h.sep m _ hm (h.srt k m hlt hm) hkm
     ·exact h.sep k _ hk (h.srt m k hgt hk) hkm.symm
    ·omega
 ·by_cases e:j=i
  ·subst e;exact ⟨k,hk,ha⟩
  ·exact h.all j (by omega)
theorem Gk {α:Type} {l:List α} {x d:α} (h:x∈l):∃ k,k<l.length∧l.getD k d=x:=by
 obtain ⟨k,hk,rfl⟩:=List.mem_iff_getElem.1 h;exact ⟨k,hk,by rw [List.getD_eq_getElem?_getD,List.getElem?_eq_getElem hk];rfl⟩
theorem Aax {l:List Cls} {out:List Cls} {le:List UInt8} (h:RInv l 256 out le):out=Jn l:=by
 have hlen:=h.len;have hat:∀ k (hk:k<out.length),out[k]=out.getD k 0#256:=fun k hk=>by rw [List.getD_eq_getElem?_getD,List.getElem?_eq_getElem hk];rfl
 have hself:∀ k,k<le.length→(out.getD k 0#256).getLsbD (le.getD k 0).toNat=true:=fun k hk=>
  (h.bits k hk _ (UInt8.toNat_lt _)).2 ⟨UInt8.toNat_lt _,Alk.refl _ _⟩
 have hkey:∀ k,k<le.length→key (out.getD k 0#256)=((le.getD k 0).toNat:Int):=fun k hk=>
  T8 _ _ (UInt8.toNat_lt _) (hself k hk) fun j hj=>by
   rw [← Bool.not_eq_true];intro hb;exact h.sep k j hk hj ((h.bits k hk j (by have:=UInt8.toNat_lt (le.getD k 0);omega)).1 hb).2.symm
 have hcells:IsCells l out:=by
  refine ⟨?_,fun c hc=>?_,fun i hi=>?_,fun c hc i hi hci j hj=>?_⟩
  ·rw [List.pairwise_iff_getElem];intro m k hm hk hmk i ⟨h1,h2⟩;rw [hat m hm] at h1;rw [hat k hk] at h2;have hi:i<256:=by
    apply Classical.byContradiction;intro hn
    rw [BitVec.getLsbD_of_ge _ _ (by omega)] at h1;cases h1
   have a1:=((h.bits m (by omega) i hi).1 h1).2;have a2:=((h.bits k (by omega) i hi).1 h2).2;exact h.sep k _ (by omega) (h.srt m k hmk (by omega)) (a1.trans a2.symm)
  ·obtain ⟨k,hk,rfl⟩:=Gk (d:=0#256) hc;exact Fw (hself k (by omega))
  ·obtain ⟨k,hk,ha⟩:=h.all i hi;refine ⟨out.getD k 0#256,?_,(h.bits k hk i hi).2 ⟨hi,ha⟩⟩;rw [← hat k (by omega)];exact List.getElem_mem _
  ·obtain ⟨k,hk,rfl⟩:=Gk (d:=0#256) hc;have ai:=((h.bits k (by omega) i hi).1 hci).2;rw [h.bits k (by omega) j hj];exact ⟨fun ⟨_,aj⟩=>ai.symm.trans aj,fun aij=>⟨hj,ai.trans aij⟩⟩
 refine hcells.eq (T9 l) (fun _ _ _ _=>Iff.rfl) ?_ (Ah2 l);rw [List.pairwise_iff_getElem];intro m k hm hk hmk;rw [hat m hm,hat k hk,hkey m (by omega),hkey k (by omega)];have:=h.srt m k hmk (by omega);omega
theorem Ajp (l:List Cls) (x y:Nat):(l.all fun c=>Bb c (x:Int)==Bb c (y:Int))=true↔Alk l x y:=by
 simp [Alk,Bb]
structure Dfa where
 cls:List Cls
 nxt:List (List Nat)
 acc:List Bool
def Aj (L:List Cls) (b:Nat):Nat:=L.findIdx fun c=>c.getLsbD b
namespace Dfa
def ent2 (d:Dfa) (s k:Nat):Nat:=(d.nxt.getD s []).getD k 0
def stp (d:Dfa) (s b:Nat):Nat:=d.ent2 s (Aj d.cls b)
def run (d:Dfa) (s:Nat) (w:List UInt8):Nat:=w.foldl (fun s x=>d.stp s x.toNat) s
def ok (d:Dfa) (s:Nat):Bool:=d.acc.getD s false
def has (d:Dfa) (w:List UInt8):Bool:=d.ok (d.run 0 w)
def ent (d:Dfa) (p:Nat):Nat:=d.ent2 (p / d.cls.length) (p % d.cls.length)
end Dfa
structure Parts (L:List Cls):Prop where
 nz:∀ c∈L,c≠0#256
 dis:L.Pairwise Dis
 cov:∀ i,i<256→∃ c∈L,c.getLsbD i=true
structure Val (d:Dfa):Prop where
 pos:0<d.nxt.length
 accL:d.acc.length=d.nxt.length
 row:∀ s,s<d.nxt.length→(d.nxt.getD s []).length=d.cls.length
 tgt:∀ s,s<d.nxt.length→∀ k,k<d.cls.length→d.ent2 s k<d.nxt.length
 parts:Parts d.cls
theorem cell_lt {L:List Cls} (h:Parts L) {b:Nat} (hb:b<256):Aj L b<L.length:=by
 obtain ⟨c,hc,hcb⟩:=h.cov b hb;exact List.findIdx_lt_length_of_exists ⟨c,hc,hcb⟩
theorem Fk {L:List Cls} (h:Parts L) {b:Nat} (hb:b<256):(L.getD (Aj L b) 0#256).getLsbD b=true:=by
 have:=List.findIdx_getElem (w:=cell_lt h hb);rw [List.getD_eq_getElem?_getD,List.getElem?_eq_getElem (cell_lt h hb)];exact this
theorem Fj {L:List Cls} (h:Parts L) {b k:Nat} (hb:b<256) (hk:k<L.length) (hm:(L.getD k 0#256).getLsbD b=true):Aj L b=k:=by
 have h1:=Fk h hb;have h2:=cell_lt h hb;rw [List.getD_eq_getElem?_getD,List.getElem?_eq_getElem h2] at h1;rw [List.getD_eq_getElem?_getD,List.getElem?_eq_getElem hk] at hm;rcases Nat.lt_trichotomy (Aj L b) k with hl|he|hg
 ·exact absurd ⟨h1,hm⟩ (List.pairwise_iff_getElem.1 h.dis _ _ h2 hk hl b)
 ·exact he
 ·exact absurd ⟨hm,h1⟩ (List.pairwise_iff_getElem.1 h.dis _ _ hk h2 hg b)
theorem Id {L:List Cls} (h:Parts L) {k:Nat} (hk:k<L.length):∃ b,b<256∧Aj L b=k:=by
 have hn:=h.nz (L.getD k 0#256) (by rw [List.getD_eq_getElem?_getD,List.getElem?_eq_getElem hk];exact List.getElem_mem hk);obtain ⟨b,hb,hbb⟩:=Md hn;exact ⟨b,hb,Fj h hb hk hbb⟩
theorem Qh {L:List Cls} (h:Parts L) {i j:Nat} (hi:i<256) (hj:j<256):Alk L i j↔Aj L i=Aj L j:=by
 constructor
 ·intro ha;refine (Fj h hj (cell_lt h hi) ?_).symm;rw [← ha _ (by rw [List.getD_eq_getElem?_getD,List.getElem?_eq_getElem (cell_lt h hi)];exact List.getElem_mem _)];exact Fk h hi
 ·intro he c hc;obtain ⟨k,hk,rfl⟩:=Gk (d:=0#256) hc;rw [Bool.eq_iff_iff];constructor
  ·intro hb;have:=Fj h hi hk hb;rw [← this,he];exact Fk h hj
  ·intro hb;have:=Fj h hj hk hb;rw [← this,← he];exact Fk h hi
theorem Lj {L:List Cls} (h:Parts L):IsCells L L where
 dis:=h.dis
 nz:=h.nz
 cover:=h.cov
 cls:=fun c hc i hi hci j hj=>by
  obtain ⟨k,hk,rfl⟩:=Gk (d:=0#256) hc;rw [Qh h hi hj,Fj h hi hk hci];exact ⟨fun hb=>(Fj h hj hk hb).symm,fun e=>by rw [e];exact Fk h hj⟩
theorem Val.stp_lt {d:Dfa} (h:Val d) {s b:Nat} (hs:s<d.nxt.length) (hb:b<256):d.stp s b<d.nxt.length:=
 h.tgt s hs _ (cell_lt h.parts hb)
theorem Val.run_lt {d:Dfa} (h:Val d):∀ (w:List UInt8) {s:Nat},s<d.nxt.length→d.run s w<d.nxt.length
 | [],_,hs=>hs
 | x::w,_,hs=>h.run_lt w (h.stp_lt hs x.toNat_lt)
theorem Bz (d:Dfa) (s:Nat) (u w:List UInt8):d.run s (u++w)=d.run (d.run s u) w:=by simp [Dfa.run,List.foldl_append]
def mxf (a:Nat→Nat):Nat→Nat
 | 0=>0
 | p+1=>max (mxf a p) (a p)
theorem Ts (a:Nat→Nat) (p q:Nat) (h:q<p):a q≤mxf a p:=by
 induction p with
 | zero=>omega
 | succ p ih=>
  simp only [mxf];by_cases e:q=p
  ·subst e;omega
  ·have:=ih (by omega);omega
theorem Fx (a b:Nat→Nat) (p:Nat) (h:∀ q,q<p→a q=b q):mxf a p=mxf b p:=by
 induction p with
 | zero=>rfl
 | succ p ih=>simp only [mxf];rw [ih fun q hq=>h q (by omega),h p (by omega)]
structure Cano (d:Dfa):Prop where
 val:Val d
 reach:∀ s,s<d.nxt.length→∃ w,d.run 0 w=s
 red:∀ s t,s<d.nxt.length→t<d.nxt.length→(∀ w,d.ok (d.run s w)=d.ok (d.run t w))→s=t
 col:∀ i j,i<d.cls.length→j<d.cls.length→(∀ s,s<d.nxt.length→d.ent2 s i=d.ent2 s j)→i=j
 srt:d.cls.Pairwise fun a b=>key a≤key b
 rgf:∀ p,p<d.nxt.length*d.cls.length→d.ent p≤mxf d.ent p+1
section
variable {d e:Dfa}
theorem Aee (hd:Cano d) (he:Cano e) (h:∀ w,d.has w=e.has w):∃ f:Nat→Nat,(∀ w,f (d.run 0 w)=e.run 0 w):=by
 have key:∀ w w',d.run 0 w=d.run 0 w'→e.run 0 w=e.run 0 w':=fun w w' hw=>by
  refine he.red _ _ (he.val.run_lt _ he.val.pos) (he.val.run_lt _ he.val.pos) fun u=>?_
  rw [← Bz,← Bz];show e.has _=e.has _;rw [← h,← h];unfold Dfa.has;rw [Bz,Bz,hw]
 classical
 refine ⟨fun s=>if hs:∃ w,d.run 0 w=s then e.run 0 hs.choose else 0,fun w=>?_⟩;have hs:∃ w',d.run 0 w'=d.run 0 w:=⟨w,rfl⟩;simp only [dif_pos hs];exact key _ _ hs.choose_spec
theorem Eo (hd:Cano d) (he:Cano e) (h:∀ w,d.has w=e.has w):d=e:=by
 obtain ⟨f,hf⟩:=Aee hd he h;have f0:f 0=0:=hf [];have fstp:∀ s,s<d.nxt.length→∀ b,b<256→f (d.stp s b)=e.stp (f s) b:=fun s hs b hb=>by
  obtain ⟨w,rfl⟩:=hd.reach s hs;have h1:=hf (w++[UInt8.ofNat b]);rw [Bz,Bz,← hf w] at h1;have h2:∀ (x:Dfa) (s:Nat),x.run s [UInt8.ofNat b]=x.stp s b:=fun x s=>by
   show x.stp s (UInt8.ofNat b).toNat=_;rw [u8n b hb]
  rw [h2,h2] at h1;exact h1
 have flt:∀ s,s<d.nxt.length→f s<e.nxt.length:=fun s hs=>by
  obtain ⟨w,rfl⟩:=hd.reach s hs;rw [hf];exact he.val.run_lt _ he.val.pos
 have fok:∀ s,s<d.nxt.length→e.ok (f s)=d.ok s:=fun s hs=>by
  obtain ⟨w,rfl⟩:=hd.reach s hs;rw [hf];exact (h w).symm
 have frun:∀ (w:List UInt8) s,s<d.nxt.length→f (d.run s w)=e.run (f s) w:=fun w s hs=>by
  obtain ⟨u,rfl⟩:=hd.reach s hs;rw [← Bz,hf,Bz,hf]
 have finj:∀ s t,s<d.nxt.length→t<d.nxt.length→f s=f t→s=t:=fun s t hs ht hst=>
  hd.red s t hs ht fun w=>by
   rw [← fok _ (hd.val.run_lt w hs),← fok _ (hd.val.run_lt w ht),frun w s hs,frun w t ht,hst]
 have fsur:∀ t,t<e.nxt.length→∃ s,s<d.nxt.length∧f s=t:=fun t ht=>by
  obtain ⟨w,rfl⟩:=he.reach t ht;exact ⟨d.run 0 w,hd.val.run_lt w hd.val.pos,hf w⟩
 have colD:∀ (x:Dfa),Cano x→∀ i j,i<256→j<256→(Aj x.cls i=Aj x.cls j↔∀ s,s<x.nxt.length→x.stp s i=x.stp s j):=fun x hx i j hi hj=>
  ⟨fun he s _=>by unfold Dfa.stp;rw [he],fun hs=>hx.col _ _ (cell_lt hx.val.parts hi) (cell_lt hx.val.parts hj) hs⟩
 have hcls:d.cls=e.cls:=by
  refine (Lj hd.val.parts).eq (Lj he.val.parts) (fun i j hi hj=>?_) hd.srt he.srt;rw [Qh hd.val.parts hi hj,Qh he.val.parts hi hj,colD d hd i j hi hj,colD e he i j hi hj];constructor
  ·intro hs t ht;obtain ⟨s,hs',rfl⟩:=fsur t ht;rw [← fstp s hs' i hi,← fstp s hs' j hj,hs s hs']
  ·intro ht s hs;exact finj _ _ (hd.val.stp_lt hs hi) (hd.val.stp_lt hs hj) (by rw [fstp s hs i hi,fstp s hs j hj,ht _ (flt s hs)])
 have hm:d.cls.length=e.cls.length:=by rw [hcls]
 have fto:∀ s,s<d.nxt.length→∀ k,k<d.cls.length→f (d.ent2 s k)=e.ent2 (f s) k:=fun s hs k hk=>by
  obtain ⟨b,hb,hbk⟩:=Id hd.val.parts hk;have h1:=fstp s hs b hb;unfold Dfa.stp at h1;rw [← hcls,hbk] at h1;exact h1
 have hm0:0<d.cls.length:=by
  obtain ⟨c,hc,_⟩:=hd.val.parts.cov 0 (by omega);exact List.length_pos_of_mem hc
 have main:∀ p,p≤d.nxt.length*d.cls.length→(∀ q,q<p→d.ent q=e.ent q)∧∀ t,t≤mxf d.ent p→f t=t:=by
  intro p;induction p with
  | zero=>exact fun _=>⟨fun q hq=>by omega,fun t ht=>by simp only [mxf] at ht;obtain rfl:t=0:=(by omega);exact f0⟩
  | succ p ih=>
   intro hp;obtain ⟨ih1,ih2⟩:=ih (by omega);have hs:p / d.cls.length<d.nxt.length:=Nat.div_lt_of_lt_mul (by rw [Nat.mul_comm];omega);have hk:p % d.cls.length<d.cls.length:=Nat.mod_lt _ hm0;have hseen:p / d.cls.length≤mxf d.ent p:=by
    apply Classical.byContradiction;intro hn;have hcl:∀ (w:List UInt8) s,s<p / d.cls.length→d.run s w<p / d.cls.length:=fun w=>by
     induction w with
     | nil=>intro s hs;exact hs
     | cons x w ihw=>
      intro s hs';refine ihw _ ?_;have hk':=cell_lt hd.val.parts x.toNat_lt;have hq:s*d.cls.length+Aj d.cls x.toNat<p:=by
       have h1:s*d.cls.length+d.cls.length≤p / d.cls.length*d.cls.length:=by
        rw [← Nat.succ_mul];exact Nat.mul_le_mul_right _ hs'
       have h2:=Nat.div_mul_le_self p d.cls.length;omega
      have h3:=Ts d.ent p _ hq;have h4:d.ent (s*d.cls.length+Aj d.cls x.toNat)=d.stp s x.toNat:=by
       unfold Dfa.ent Dfa.stp;rw [Nat.mul_comm,Nat.mul_add_div hm0,Nat.div_eq_of_lt hk',Nat.add_zero,Nat.mul_add_mod,Nat.mod_eq_of_lt hk']
      show d.stp s x.toNat<_;omega
    obtain ⟨w,hw⟩:=hd.reach _ hs;have:=hcl w 0 (by omega);omega
   have hfs:=ih2 _ hseen;have he1:e.ent p=f (d.ent p):=by
    unfold Dfa.ent;rw [fto _ hs _ hk,hfs,← hm]
   have hlt:d.ent p<d.nxt.length:=hd.val.tgt _ hs _ hk;have hep:p<e.nxt.length*e.cls.length:=by
    have h1:=flt _ hs;rw [hfs] at h1;have h2:=Nat.div_add_mod p d.cls.length;rw [← hm];have h3:(p / d.cls.length+1)*d.cls.length≤e.nxt.length*d.cls.length:=Nat.mul_le_mul_right _ h1;rw [Nat.succ_mul,Nat.mul_comm (p / d.cls.length)] at h3;omega
   have hrd:=hd.rgf p (by omega);have hre:=he.rgf p hep;rw [← Fx d.ent e.ent p ih1,he1] at hre;have hfix:f (d.ent p)=d.ent p:=by
    by_cases hle:d.ent p≤mxf d.ent p
    ·exact ih2 _ hle
    ·have h1:¬ f (d.ent p)≤mxf d.ent p:=fun hc=>by
      have h2:=ih2 _ hc;have h3:f (d.ent p)<d.nxt.length:=by
       have:=hseen;omega
      exact hle (by rw [finj _ _ hlt h3 h2.symm];exact hc)
     omega
   refine ⟨fun q hq=>?_,fun t ht=>?_⟩
   ·by_cases hqp:q=p
    ·subst hqp;rw [he1,hfix]
    ·exact ih1 q (by omega)
   ·simp only [mxf] at ht;by_cases hle:t≤mxf d.ent p
    ·exact ih2 t hle
    ·obtain rfl:t=d.ent p:=by omega
     exact hfix
 obtain ⟨hent,hfx⟩:=main _ (Nat.le_refl _);have entD:∀ (x:Dfa),0<x.cls.length→∀ s k,k<x.cls.length→x.ent (s*x.cls.length+k)=x.ent2 s k:=fun x h0 s k hk=>by
  unfold Dfa.ent;rw [Nat.mul_comm,Nat.mul_add_div h0,Nat.div_eq_of_lt hk,Nat.add_zero,Nat.mul_add_mod,Nat.mod_eq_of_lt hk]
 have posOf:∀ n s k,s<n→k<d.cls.length→s*d.cls.length+k<n*d.cls.length:=fun n s k hs hk=>by
  have:(s+1)*d.cls.length≤n*d.cls.length:=Nat.mul_le_mul_right _ hs;rw [Nat.succ_mul] at this;omega
 have fid:∀ t,t<d.nxt.length→f t=t:=fun t ht=>by
  obtain ⟨w,hw⟩:=hd.reach t ht;rcases List.eq_nil_or_concat w with rfl|⟨u,x,rfl⟩
  ·have:t=0:=hw.symm;rw [this];exact f0
  ·rw [List.concat_eq_append,Bz] at hw;have hk:=cell_lt hd.val.parts x.toNat_lt;have hu:=hd.val.run_lt u hd.val.pos;refine hfx t ?_;have h1:=Ts d.ent _ _ (posOf _ _ _ hu hk);rw [entD d hm0 _ _ hk] at h1;have h2:d.ent2 (d.run 0 u) (Aj d.cls x.toNat)=t:=hw;rw [h2] at h1;exact h1
 have hn:d.nxt.length=e.nxt.length:=by
  apply Nat.le_antisymm
  ·apply Classical.byContradiction;intro hc;have:=flt e.nxt.length (by omega);rw [fid _ (by omega)] at this;omega
  ·apply Classical.byContradiction;intro hc;obtain ⟨s,hs,hse⟩:=fsur d.nxt.length (by omega);rw [fid s hs] at hse;omega
 have hrow:∀ s,s<d.nxt.length→d.nxt.getD s []=e.nxt.getD s []:=fun s hs=>by
  apply List.ext_getElem
  ·rw [hd.val.row s hs,he.val.row s (by omega),hm]
  ·intro k h1 h2;rw [hd.val.row s hs] at h1;have h3:=hent _ (posOf _ s k hs h1);rw [entD d hm0 s k h1] at h3;rw [hm,entD e (by omega) s k (by omega)] at h3;unfold Dfa.ent2 at h3;rw [List.getD_eq_getElem?_getD (l:=d.nxt.getD s []),List.getD_eq_getElem?_getD (l:=e.nxt.getD s []),List.getElem?_eq_getElem,List.getElem?_eq_getElem] at h3;exact h3
 have hnxt:d.nxt=e.nxt:=by
  apply List.ext_getElem hn;intro s h1 h2;have:=hrow s h1
  rwa [List.getD_eq_getElem?_getD,List.getD_eq_getElem?_getD,List.getElem?_eq_getElem h1,List.getElem?_eq_getElem h2] at this
 have hacc:d.acc=e.acc:=by
  apply List.ext_getElem (by rw [hd.val.accL,he.val.accL,hn]);intro s h1 h2;have:=fok s (by rw [← hd.val.accL];exact h1);rw [fid s (by rw [← hd.val.accL];exact h1)] at this;unfold Dfa.ok at this;rw [List.getD_eq_getElem?_getD,List.getD_eq_getElem?_getD,List.getElem?_eq_getElem h1,List.getElem?_eq_getElem h2] at this;exact this.symm
 cases d;cases e
 simp only at hcls hnxt hacc;subst hcls;subst hnxt;subst hacc
 rfl
end
theorem Db {α:Type} [DecidableEq α]:∀ (L M:List α),L.Nodup→(∀ x∈L,x∈M)→L.length≤M.length
 | [],M,_,_=>by simp
 | x::L,M,hn,hs=>by
  have hx:=hs x List.mem_cons_self;have h1:=Db L (M.erase x) (List.nodup_cons.1 hn).2 fun y hy=>by
   rw [List.mem_erase_of_ne]
   ·exact hs y (List.mem_cons_of_mem _ hy)
   ·rintro rfl;exact (List.nodup_cons.1 hn).1 hy
  rw [List.length_erase_of_mem hx] at h1;have:=List.length_pos_of_mem hx;rw [List.length_cons];omega
theorem Hj (f:Nat→Nat) (n m:Nat) (h:∀ j,j<m→∃ i,i<n∧f i=j):m≤n:=by
 have:=Db (List.range m) ((List.range n).map f) List.nodup_range fun j hj=>by
  obtain ⟨i,hi,e⟩:=h j (List.mem_range.1 hj);exact List.mem_map.2 ⟨i,List.mem_range.2 hi,e⟩
 simpa using this
theorem Ac5 (f:Nat→Nat) (m:Nat) (h:∀ j,j<m→∃ i,i<m∧f i=j) (i j:Nat) (hi:i<m) (hj:j<m) (he:f i=f j):i=j:=by
 apply Classical.byContradiction;intro hne;have:=Db (List.range m) (((List.range m).erase i).map f) List.nodup_range fun q hq=>by
  obtain ⟨p,hp,e⟩:=h q (List.mem_range.1 hq);by_cases hpi:p=i
  ·subst hpi;exact List.mem_map.2 ⟨j,(List.mem_erase_of_ne (fun e=>hne e.symm)).2 (List.mem_range.2 hj),by rw [← he,e]⟩
  ·exact List.mem_map.2 ⟨p,(List.mem_erase_of_ne hpi).2 (List.mem_range.2 hp),e⟩
 rw [List.length_map,List.length_erase_of_mem (List.mem_range.2 hi)] at this;simp at this;omega
structure Tbl where
 cell:Nat→Nat
 cells:Nat
 nxt:List (List Nat)
 acc:List Bool
namespace Tbl
def ent2 (t:Tbl) (s k:Nat):Nat:=(t.nxt.getD s []).getD k 0
def stp (t:Tbl) (s b:Nat):Nat:=t.ent2 s (t.cell b)
def run (t:Tbl) (s:Nat) (w:List UInt8):Nat:=w.foldl (fun s x=>t.stp s x.toNat) s
def ok (t:Tbl) (s:Nat):Bool:=t.acc.getD s false
def has (t:Tbl) (w:List UInt8):Bool:=t.ok (t.run 0 w)
end Tbl
structure TVal (t:Tbl):Prop where
 pos:0<t.nxt.length
 accL:t.acc.length=t.nxt.length
 row:∀ s,s<t.nxt.length→(t.nxt.getD s []).length=t.cells
 tgt:∀ s,s<t.nxt.length→∀ k,k<t.cells→t.ent2 s k<t.nxt.length
 cell_lt:∀ b,b<256→t.cell b<t.cells
 onto:∀ k,k<t.cells→∃ b,b<256∧t.cell b=k
theorem TVal.stp_lt {t:Tbl} (h:TVal t) {s b:Nat} (hs:s<t.nxt.length) (hb:b<256):t.stp s b<t.nxt.length:=h.tgt s hs _ (h.cell_lt b hb)
theorem TVal.run_lt {t:Tbl} (h:TVal t):∀ (w:List UInt8) {s:Nat},s<t.nxt.length→t.run s w<t.nxt.length
 | [],_,hs=>hs
 | x::w,_,hs=>h.run_lt w (h.stp_lt hs x.toNat_lt)
theorem Cz (t:Tbl) (s:Nat) (u w:List UInt8):t.run s (u++w)=t.run (t.run s u) w:=by simp [Tbl.run,List.foldl_append]
def Leq (t:Tbl) (s s':Nat):Prop:=∀ w,t.ok (t.run s w)=t.ok (t.run s' w)
theorem Leq.step {t:Tbl} {s s':Nat} (h:Leq t s s') (b:Nat) (hb:b<256):Leq t (t.stp s b) (t.stp s' b):=fun w=>by
 have:=h (UInt8.ofNat b::w);have e:∀ s,t.run s (UInt8.ofNat b::w)=t.run (t.stp s b) w:=fun s=>by
  show t.run (t.stp s (UInt8.ofNat b).toNat) w=_;rw [u8n b hb]
 rwa [e,e] at this
structure Reached (t:Tbl) (l:List Nat):Prop where
 head:l.getD 0 0=0
 ne:0<l.length
 nodup:l.Nodup
 lt:∀ s∈l,s<t.nxt.length
 closed:∀ s∈l,∀ k,k<t.cells→t.ent2 s k∈l
 all:∀ s∈l,∃ w,t.run 0 w=s
theorem Reached.zero {t:Tbl} {l:List Nat} (h:Reached t l):0∈l:=by
 have:=h.head;rw [List.getD_eq_getElem?_getD,List.getElem?_eq_getElem h.ne] at this;rw [← (show l[0]'h.ne=0 from this)];exact List.getElem_mem _
theorem Reached.stp {t:Tbl} {l:List Nat} (h:Reached t l) (hv:TVal t) {s b:Nat} (hs:s∈l) (hb:b<256):t.stp s b∈l:=h.closed s hs _ (hv.cell_lt b hb)
theorem Reached.run {t:Tbl} {l:List Nat} (h:Reached t l) (hv:TVal t):∀ (w:List UInt8) {s:Nat},s∈l→t.run s w∈l
 | [],_,hs=>hs
 | x::w,_,hs=>h.run hv w (h.stp hv hs x.toNat_lt)
structure Blk (l:List Nat) (B:Nat→Nat) (R:List Nat):Prop where
 lt:∀ s∈l,B s<R.length
 mem:∀ i,i<R.length→R.getD i 0∈l
 rep:∀ i,i<R.length→B (R.getD i 0)=i
def F8 (t:Tbl) (l:List Nat) (B B':Nat→Nat):Prop:=
 ∀ s∈l,∀ s'∈l,(B' s=B' s'↔B s=B s'∧∀ k,k<t.cells→B (t.ent2 s k)=B (t.ent2 s' k))
structure Refi (t:Tbl) (l:List Nat) (B:Nat→Nat) (n:Nat):Prop where
 sound:∀ s∈l,∀ s'∈l,Leq t s s'→B s=B s'
 acc:∀ s∈l,∀ s'∈l,B s=B s'→t.ok s=t.ok s'
 num:0<n→∃ R,Blk l B R∧R.length=n
theorem Aba (t:Tbl) (l:List Nat) (B:Nat→Nat) (hB:∀ s∈l,B s=if t.ok s then 1 else 0):Refi t l B 0 where
 sound:=fun s hs s' hs' h=>by
  have:=h [];rw [hB s hs,hB s' hs',show t.ok s=t.ok s' from this]
 acc:=fun s hs s' hs' h=>by
  rw [hB s hs,hB s' hs'] at h;cases h1:t.ok s<;>cases h2:t.ok s'<;>simp [h1,h2] at h ⊢
 num:=fun h=>by omega
theorem Ns {t:Tbl} (hv:TVal t) {l:List Nat} (hl:Reached t l) {B B':Nat→Nat} {n:Nat} (h:Refi t l B n) (hr:F8 t l B B') {R:List Nat} (hb:Blk l B' R):Refi t l B' R.length where
 sound:=fun s hs s' hs' he=>(hr s hs s' hs').2 ⟨h.sound s hs s' hs' he,fun k hk=>by
  obtain ⟨b,hb,rfl⟩:=hv.onto k hk;exact h.sound _ (hl.stp hv hs hb) _ (hl.stp hv hs' hb) (he.step b hb)⟩
 acc:=fun s hs s' hs' he=>h.acc s hs s' hs' ((hr s hs s' hs').1 he).1
 num:=fun _=>⟨R,hb,rfl⟩
theorem Nt {t:Tbl} {l:List Nat} {B B':Nat→Nat} {n:Nat} (h:Refi t l B n) (hr:F8 t l B B') {R:List Nat} (hb:Blk l B' R) (h0:0<l.length):n≤R.length∧0<R.length:=by
 have hpos:0<R.length:=by
  have:=hb.lt _ (List.getElem_mem h0);omega
 refine ⟨?_,hpos⟩;by_cases hn:n=0
 ·omega
 ·obtain ⟨R0,hb0,rfl⟩:=h.num (by omega);refine Hj (fun i=>B (R.getD i 0)) _ _ fun j hj=>⟨B' (R0.getD j 0),hb.lt _ (hb0.mem j hj),?_⟩
  have h1:=hb.rep _ (hb.lt _ (hb0.mem j hj));have h2:=((hr _ (hb.mem _ (hb.lt _ (hb0.mem j hj))) _ (hb0.mem j hj)).1 h1).1;show B (R.getD (B' (R0.getD j 0)) 0)=j;rw [h2,hb0.rep j hj]
theorem Sj {t:Tbl} (hv:TVal t) {l:List Nat} (hl:Reached t l) {B B':Nat→Nat} {n:Nat} (h:Refi t l B n) (hr:F8 t l B B') {R:List Nat} (hb:Blk l B' R) (hn:R.length=n) :
  ∀ s∈l,∀ s'∈l,(B' s=B' s'↔Leq t s s'):=by
 have hpos:=(Nt h hr hb hl.ne).2;obtain ⟨R0,hb0,h0⟩:=h.num (by omega);have same:∀ s∈l,∀ s'∈l,B s=B s'→B' s=B' s':=fun s hs s' hs' he=>by
  have inj:=Ac5 (fun i=>B (R.getD i 0)) R.length fun j hj=>by
   have hj0:j<R0.length:=by omega
   refine ⟨B' (R0.getD j 0),hb.lt _ (hb0.mem j hj0),?_⟩;have h1:=hb.rep _ (hb.lt _ (hb0.mem j hj0));have h2:=((hr _ (hb.mem _ (hb.lt _ (hb0.mem j hj0))) _ (hb0.mem j hj0)).1 h1).1;show B (R.getD (B' (R0.getD j 0)) 0)=j;rw [h2,hb0.rep j hj0]
  have hB:∀ s∈l,B (R.getD (B' s) 0)=B s:=fun s hs=>
   ((hr _ (hb.mem _ (hb.lt s hs)) _ hs).1 (hb.rep _ (hb.lt s hs))).1
  exact inj _ _ (hb.lt s hs) (hb.lt s' hs') (by show B (R.getD (B' s) 0)=B (R.getD (B' s') 0);rw [hB s hs,hB s' hs',he])
 have stab:∀ (w:List UInt8),∀ s∈l,∀ s'∈l,B' s=B' s'→B' (t.run s w)=B' (t.run s' w):=fun w=>by
  induction w with
  | nil=>intro s _ s' _ he;exact he
  | cons x w ih=>
   intro s hs s' hs' he;refine ih _ (hl.stp hv hs x.toNat_lt) _ (hl.stp hv hs' x.toNat_lt) (same _ (hl.stp hv hs x.toNat_lt) _ (hl.stp hv hs' x.toNat_lt) ?_);exact ((hr s hs s' hs').1 he).2 _ (hv.cell_lt _ x.toNat_lt)
 intro s hs s' hs';constructor
 ·intro he w;have:=stab w s hs s' hs' he;exact h.acc _ (hl.run hv w hs) _ (hl.run hv w hs') ((hr _ (hl.run hv w hs) _ (hl.run hv w hs')).1 this).1
 ·intro he;exact (Ns hv hl h hr hb).sound s hs s' hs' he
structure Blocks (t:Tbl) (l:List Nat) (B:Nat→Nat) (R:List Nat):Prop where
 blk:Blk l B R
 leq:∀ s∈l,∀ s'∈l,(B s=B s'↔Leq t s s')
structure Merged (t:Tbl) (B:Nat→Nat) (R K:List Nat) (L:List Cls):Prop where
 parts:Parts L
 srt:L.Pairwise fun a b=>key a≤key b
 len:K.length=L.length
 lt:∀ k,k<K.length→K.getD k 0<t.cells
 cell:∀ b,b<256→∀ i,i<R.length→B (t.ent2 (R.getD i 0) (K.getD (Aj L b) 0))=B (t.stp (R.getD i 0) b)
 col:∀ k k',k<K.length→k'<K.length→(∀ i,i<R.length→B (t.ent2 (R.getD i 0) (K.getD k 0))=B (t.ent2 (R.getD i 0) (K.getD k' 0)))→k=k'
structure Laid (t:Tbl) (B:Nat→Nat) (R K:List Nat) (L:List Cls) (O:List Nat) (d:Dfa):Prop where
 cls:d.cls=L
 len:d.nxt.length=O.length
 acl:d.acc.length=O.length
 zero:O.getD 0 0=B 0
 pos:0<O.length
 nodup:O.Nodup
 lt:∀ i,i<O.length→O.getD i 0<R.length
 row:∀ i,i<O.length→(d.nxt.getD i []).length=K.length
 tgt:∀ i,i<O.length→∀ k,k<K.length→d.ent2 i k<O.length∧O.getD (d.ent2 i k) 0=B (t.ent2 (R.getD (O.getD i 0) 0) (K.getD k 0))
 acc:∀ i,i<O.length→d.ok i=t.ok (R.getD (O.getD i 0) 0)
 rgf:∀ p,p<d.nxt.length*d.cls.length→d.ent p≤mxf d.ent p+1
 reach:∀ i,0<i→i<O.length→∃ j k,j<i∧k<K.length∧d.ent2 j k=i
theorem Afe {t:Tbl} (hv:TVal t) {l:List Nat} (hl:Reached t l) {B:Nat→Nat} {R K:List Nat} {L:List Cls} {O:List Nat} {d:Dfa}
  (hb:Blocks t l B R) (hm:Merged t B R K L) (h:Laid t B R K L O d):Cano d∧∀ w,d.has w=t.has w:=by
 have hn:=h.len;have hck:d.cls.length=K.length:=by rw [h.cls,hm.len]
 have rmem:∀ i,i<O.length→R.getD (O.getD i 0) 0∈l:=fun i hi=>hb.blk.mem _ (h.lt i hi)
 have rB:∀ i,i<O.length→B (R.getD (O.getD i 0) 0)=O.getD i 0:=fun i hi=>hb.blk.rep _ (h.lt i hi)
 have hval:Val d:=by
  refine ⟨by have:=h.pos;omega,by rw [h.acl,hn],fun s hs=>?_,fun s hs k hk=>?_,by rw [h.cls];exact hm.parts⟩
  ·rw [h.row s (by omega),hck]
  ·rw [hn];exact (h.tgt s (by omega) k (by omega)).1
 have inj:∀ i j,i<O.length→j<O.length→O.getD i 0=O.getD j 0→i=j:=fun i j hi hj he=>by
  rw [List.getD_eq_getElem?_getD,List.getD_eq_getElem?_getD,List.getElem?_eq_getElem hi,List.getElem?_eq_getElem hj] at he;exact (List.getElem_inj h.nodup).1 he
 have step:∀ i s,i<O.length→s∈l→O.getD i 0=B s→∀ b,b<256→O.getD (d.stp i b) 0=B (t.stp s b)∧d.stp i b<O.length:=fun i s hi hs he b hbb=>by
  have hkl:Aj L b<K.length:=by rw [hm.len];exact cell_lt hm.parts hbb
  have h1:=h.tgt i hi _ hkl;have h2:=hm.cell b hbb _ (h.lt i hi);have h3:B (t.stp (R.getD (O.getD i 0) 0) b)=B (t.stp s b):=by
   have hq:Leq t (R.getD (O.getD i 0) 0) s:=(hb.leq _ (rmem i hi) _ hs).1 (by rw [rB i hi,he]);exact (hb.leq _ (hl.stp hv (rmem i hi) hbb) _ (hl.stp hv hs hbb)).2 (hq.step b hbb)
  unfold Dfa.stp;rw [h.cls];exact ⟨by rw [h1.2,h2,h3],h1.1⟩
 have walk:∀ (w:List UInt8) i s,i<O.length→s∈l→O.getD i 0=B s→O.getD (d.run i w) 0=B (t.run s w)∧d.run i w<O.length:=fun w=>by
  induction w with
  | nil=>intro i s hi _ he;exact ⟨he,hi⟩
  | cons x w ih=>
   intro i s hi hs he;have h1:=step i s hi hs he x.toNat x.toNat_lt;exact ih _ _ h1.2 (hl.stp hv hs x.toNat_lt) h1.1
 have okE:∀ i s,i<O.length→s∈l→O.getD i 0=B s→d.ok i=t.ok s:=fun i s hi hs he=>by
  rw [h.acc i hi];exact (hb.leq _ (rmem i hi) _ hs).1 (by rw [rB i hi,he]) []
 have lang:∀ i s,i<O.length→s∈l→O.getD i 0=B s→∀ w,d.ok (d.run i w)=t.ok (t.run s w):=fun i s hi hs he w=>by
  have h1:=walk w i s hi hs he;exact okE _ _ h1.2 (hl.run hv w hs) h1.1
 refine ⟨⟨hval,?_,?_,?_,by rw [h.cls];exact hm.srt,h.rgf⟩,fun w=>lang 0 0 h.pos hl.zero h.zero w⟩
 ·-- reached
  have:∀ n i,i<n→i<O.length→∃ w,d.run 0 w=i:=fun n=>by
   induction n with
   | zero=>intro i hi;omega
   | succ n ih=>
    intro i hi hi';by_cases h0:i=0
    ·exact ⟨[],h0.symm⟩
    ·obtain ⟨j,k,hj,hk,hjk⟩:=h.reach i (by omega) hi';obtain ⟨w,hw⟩:=ih j (by omega) (by omega);obtain ⟨b,hbb,hbk⟩:=Id hm.parts (k:=k) (by rw [← hm.len];exact hk);refine ⟨w++[UInt8.ofNat b],?_⟩;rw [Bz,hw];show d.stp j (UInt8.ofNat b).toNat=i;rw [u8n b hbb];unfold Dfa.stp;rw [h.cls,hbk,hjk]
  intro s hs;exact this (s+1) s (by omega) (by omega)
 ·-- reduced
  intro i j hi hj he;have hi':i<O.length:=by omega
  have hj':j<O.length:=by omega
  refine inj i j hi' hj' ?_;rw [← rB i hi',← rB j hj'];refine (hb.leq _ (rmem i hi') _ (rmem j hj')).2 fun w=>?_
  rw [← lang i _ hi' (rmem i hi') (rB i hi').symm w,← lang j _ hj' (rmem j hj') (rB j hj').symm w];exact he w
 ·-- the columns differ
  intro k k' hk hk' he;refine hm.col k k' (by omega) (by omega) fun i hi=>?_
  have hall:∀ (w:List UInt8),∃ q,q<O.length∧O.getD q 0=B (t.run 0 w):=fun w=>
   ⟨d.run 0 w,(walk w 0 0 h.pos hl.zero h.zero).2,(walk w 0 0 h.pos hl.zero h.zero).1⟩
  obtain ⟨w,hw⟩:=hl.all _ (hb.blk.mem i hi);obtain ⟨q,hq,hqe⟩:=hall w;rw [hw,hb.blk.rep i hi] at hqe;have h1:=(h.tgt q hq k (by omega)).2;have h2:=(h.tgt q hq k' (by omega)).2;rw [hqe] at h1 h2;rw [← h1,← h2,he q (by omega)]
structure Joint (a b:Nat→Nat) (c:Nat→Nat) (bs:List Nat):Prop where
 lt:∀ x,x<256→c x<bs.length
 byte:∀ k,k<bs.length→bs.getD k 0<256∧c (bs.getD k 0)=k
 same:∀ x y,x<256→y<256→(c x=c y↔a x=a y∧b x=b y)
theorem Joint.rep {a b c:Nat→Nat} {bs:List Nat} (h:Joint a b c bs) (x:Nat) (hx:x<256):bs.getD (c x) 0<256∧a (bs.getD (c x) 0)=a x∧b (bs.getD (c x) 0)=b x:=by
 obtain ⟨h1,h2⟩:=h.byte _ (h.lt x hx);exact ⟨h1,((h.same _ _ h1 hx).1 h2).1,((h.same _ _ h1 hx).1 h2).2⟩
section
variable {σ:Type}
def At (nx:σ→Nat→σ) (s:σ) (w:List UInt8):σ:=w.foldl (fun s x=>nx s x.toNat) s
structure Expl (c:Nat→Nat) (bs:List Nat) (st:σ) (nx:σ→Nat→σ) (ac:σ→Bool) (l:List σ) (t:Tbl):Prop where
 cell:t.cell=c
 cells:t.cells=bs.length
 len:t.nxt.length=l.length
 acl:t.acc.length=l.length
 pos:0<l.length
 nodup:l.Nodup
 zero:l[0]? = some st
 row:∀ i,i<l.length→(t.nxt.getD i []).length=bs.length
 tgt:∀ (i:Nat) (s:σ),l[i]? = some s→∀ k,k<bs.length→t.ent2 i k<l.length∧l[t.ent2 i k]? = some (nx s (bs.getD k 0))
 acc:∀ (i:Nat) (s:σ),l[i]? = some s→t.ok i=ac s
 reach:∀ (i:Nat) (s:σ),l[i]? = some s→∃ w,At nx st w=s
theorem Expl.tval {c:Nat→Nat} {bs:List Nat} {st:σ} {nx:σ→Nat→σ} {ac:σ→Bool} {l:List σ} {t:Tbl} (h:Expl c bs st nx ac l t) {a b:Nat→Nat} (hj:Joint a b c bs):TVal t where
 pos:=by rw [h.len];exact h.pos
 accL:=by rw [h.acl,h.len]
 row:=fun s hs=>by rw [h.row s (by rw [← h.len];exact hs),h.cells]
 tgt:=fun s hs k hk=>by
  rw [h.len] at hs ⊢;exact (h.tgt s _ (List.getElem?_eq_getElem hs) k (by rw [← h.cells];exact hk)).1
 cell_lt:=fun x hx=>by rw [h.cell,h.cells];exact hj.lt x hx
 onto:=fun k hk=>by
  rw [h.cells] at hk;exact ⟨_,(hj.byte k hk).1,by rw [h.cell];exact (hj.byte k hk).2⟩
theorem Expl.has {c:Nat→Nat} {bs:List Nat} {st:σ} {nx:σ→Nat→σ} {ac:σ→Bool} {l:List σ} {t:Tbl} (h:Expl c bs st nx ac l t) {a b:Nat→Nat} (hj:Joint a b c bs)
  (hn:∀ s x,x<256→nx s (bs.getD (c x) 0)=nx s x) (w:List UInt8):t.has w=ac (At nx st w):=by
 have:∀ (w:List UInt8) i s,l[i]? = some s→l[t.run i w]? = some (At nx s w):=fun w=>by
  induction w with
  | nil=>intro i s hi;exact hi
  | cons x w ih=>
   intro i s hi;have h1:=(h.tgt i s hi _ (hj.lt _ x.toNat_lt)).2;rw [hn s _ x.toNat_lt] at h1;refine ih (t.stp i x.toNat) _ ?_;unfold Tbl.stp;rw [h.cell];exact h1
 exact h.acc _ _ (this w 0 st h.zero)
end
def Ae (d:Dfa):Tbl:=⟨Aj d.cls,d.cls.length,d.nxt,d.acc⟩
theorem Be {d:Dfa} (h:Val d):TVal (Ae d) where
 pos:=h.pos
 accL:=h.accL
 row:=h.row
 tgt:=h.tgt
 cell_lt:=fun b hb=>cell_lt h.parts hb
 onto:=fun k hk=>Id h.parts hk
theorem Yq (d:Dfa) (w:List UInt8):∀ s,(Ae d).run s w=d.run s w:=by
 induction w with
 | nil=>intro s;rfl
 | cons x w ih=>intro s;exact ih _
theorem Dt (d:Dfa) (w:List UInt8):(Ae d).has w=d.has w:=by
 unfold Tbl.has Dfa.has;rw [Yq];rfl
end Go.Proofs.YtaiogolidlamiaaGreatDoor
