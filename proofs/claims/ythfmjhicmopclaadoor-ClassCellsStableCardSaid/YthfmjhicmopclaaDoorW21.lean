/-
  The walk of the reference's Cells: its rounds.
-/
import Derived.Test.YthfmjhicmopclaaDoorW20
namespace Go.Proofs.YthfmjhicmopclaaDoor
open Go.RowKit Go.Shelf

theorem own_len {W : World} {b : Nat} {e : TypeId} {s n : Nat} {v : Value} {xs : List Value} (h : W.ownsRow b e s v n xs) : ∃ a cap, v = .slice a n cap := by
  obtain ⟨_, ⟨rfl, rfl⟩ | ⟨g, cap, cur, rfl, _⟩⟩ := h
  · exact ⟨_, _, rfl⟩
  · exact ⟨_, _, rfl⟩
theorem own_some {W : World} {b : Nat} {e : TypeId} {s n m cap : Nat} {a : Option Addr} {xs : List Value} (h : W.ownsRow b e s (.slice a m cap) n xs) (hn : 0 < n) : ∃ g, a = some ⟨g, 0, none⟩ := by
  obtain ⟨_, ⟨_, h0⟩ | ⟨g, cap, cur, hv, _⟩⟩ := h
  · omega
  · simp at hv; exact ⟨g, hv.1⟩

theorem ew_row {W : World} {base g cap : Nat} {L : List Cls} (h : Row W base (.slice (some ⟨g, 0, none⟩) L.length cap) L) (k : Nat) (hk : k < L.length) :
    W.cell? ⟨g, k * 4, none⟩ = some (.int .u64 (wd (L.getD k 0#256) 0)) ∧ W.cell? ⟨g, k * 4 + 1, none⟩ = some (.int .u64 (wd (L.getD k 0#256) 1)) ∧
    W.cell? ⟨g, k * 4 + 2, none⟩ = some (.int .u64 (wd (L.getD k 0#256) 2)) ∧ W.cell? ⟨g, k * 4 + 3, none⟩ = some (.int .u64 (wd (L.getD k 0#256) 3)) := by
  have H : ∀ j, j < 4 → W.cell? ⟨g, k * 4 + j, none⟩ = some (.int .u64 (wd (L.getD k 0#256) j)) := fun j hj => by
    rw [h.cellAt _ (by omega), flatE_get _ _ (by omega), show (k * 4 + j) / 4 = k by omega, show (k * 4 + j) % 4 = j by omega]
  exact ⟨H 0 (by omega), H 1 (by omega), H 2 (by omega), H 3 (by omega)⟩

set_option maxHeartbeats 4000000 in
set_option maxRecDepth 100000 in
theorem rcells_any (l : List Cls) (v : Value) (w : World) (h : Cs w v l) :
    Calls Tryd.prog 16 #[v] w fun e w' => ∃ v', e = .returned v' ∧ Cs w' v' (cellsS l) ∧ Ext w w' := by
  have HL := Lib.hid h
  clear h
  obtain ⟨i0, hi, hz0, hz1, hz2⟩ := info_parts info30'
  obtain ⟨j0, hj, hy0, hy1, hy2⟩ := info_parts info5
  go_enter Tryd.func16, Tryd.ntmps16
  go_wp2_with (fail)
  go_loopw [3, 4, 5] (fun o t i W => ∃ (k : Nat) (out : List Cls) (le : List UInt8), k ≤ 256 ∧ i = .int .i64 k ∧ Ext w W ∧ Row W w.heap.size o out ∧ RowB W w.heap.size t le ∧ Hid (RInv l k out le))
    (fun _ _ i _ => 256 - (intOf i).toNat)
  case atStart =>
    refine ⟨0, [], [], by omega, rfl, ((Ext.refl w).alloc _).alloc _, ?_, ?_, Lib.hid (rinv_start l)⟩
    · exact (World.ownsRow_made (base := w.heap.size) (e := 30) (size := 4) w #[] 0 (by simp) (by unfold maxLen; omega) rfl).alloc _
    · have h := World.ownsRow_made (base := w.heap.size) (e := 5) (size := 1) (w.alloc (.cells #[] 30)) #[] 0 (by simp) (by unfold maxLen; omega) rfl
      rwa [World.size_alloc] at h
  case round =>
    obtain ⟨k, out, le, hk, rfl, hE, hrow, hrb, hinv⟩ := hrel
    by_cases hlt : k < 256
    · have hlen := Lib.hid hinv.out.len
      have hbd := hinv.out.bound
      have hol : out.length ≤ k := by have := hlen.out; omega
      obtain ⟨ao, co, rfl⟩ := own_len hrow
      obtain ⟨al, cl, rfl⟩ := own_len hrb
      have hw : IntKind.u8.wrap (k : Int) = k := IntWalk.u8_in _ ⟨by omega, by omega⟩
      obtain ⟨wo, hwo⟩ : ∃ W, W = wr := ⟨_, rfl⟩
      subst hwo
      have hd : decide ((k : Int) < 256) = true := by simp; omega
      go_wp2_with (fail)
      go_loopw [6] (fun j W => ∃ m : Nat, m ≤ out.length ∧ j = .int .i64 m ∧ Ext wo W ∧ Hid (∀ q, q < m → ¬ Alk l (le.getD q 0).toNat k))
        (fun j _ => out.length - (intOf j).toNat)
      case atStart => exact ⟨0, by omega, rfl, Ext.refl wo, Lib.hid (fun q hq => by omega)⟩
      case round =>
        obtain ⟨m, hm, rfl, hEm, hno⟩ := hrel
        have hE' := hE.trans hEm
        have hrow := owns_ext hrow hEm
        have hrb := owns_ext hrb hEm
        have hs1 := hE'.size
        by_cases hm2 : m < out.length
        · have hm3 : m < le.length := by have := hlen.out; omega
          obtain ⟨g, rfl⟩ := own_some hrow (by omega)
          obtain ⟨g', rfl⟩ := own_some hrb (by have := hlen.out; omega)
          have cl := RowB.cell hrb rfl m hm3
          obtain ⟨x, hxd⟩ : ∃ x, le.getD m 0 = x := ⟨_, rfl⟩
          rw [hxd] at cl
          have HXD := Lib.hid hxd
          clear hxd
          have HAB := Lib.hid (alk_all l x.toNat k)
          have hx := x.toNat_lt
          have hA := Lib.hid (alike_any l v (x.toNat : Int) (k : Int) (by omega) (by omega) (by omega) (by omega) wr (HL.out.ext hE'))
          generalize (l.all fun c => memB c (x.toNat : Int) == memB c (k : Int)) = b at hA HAB
          cases b
          · go_wp2_with (go_at_call 39; with_reducible refine hA.out.mono ?_; rintro e w1 ⟨rfl, hE1⟩)
            clear hA cl
            go_roundw
            case rel => exact ⟨m + 1, by omega, by go_num, hEm.trans hE1, Lib.hid fun q hq => by
              by_cases hqm : q = m
              · rw [hqm, HXD.out]; exact fun ha => Bool.false_ne_true (HAB.out.2 ha)
              · exact hno.out q (by omega)⟩
            case measure => simp [intOf]; omega
          · have hne : ((m : Int) == (out.length : Int)) = false := by simp; omega
            have HS := Lib.hid (rinv_old hinv.out (by omega) m hm3 (by rw [HXD.out]; exact HAB.out.1 rfl))
            obtain ⟨a0, a1, a2, a3⟩ := ew_row hrow m hm2
            generalize out.getD m 0#256 = d at *
            have hW := fun W => Lib.hid (with_any d (k : Int) (by omega) (by omega) W)
            go_wp2_with (first
              | (go_at_call 39; with_reducible refine hA.out.mono ?_; rintro e w1 ⟨rfl, hE1⟩; have a0 := hE1.cell a0; have a1 := hE1.cell a1; have a2 := hE1.cell a2; have a3 := hE1.cell a3; have hrow1 := owns_ext hrow hE1)
              | (go_at_call 40; with_reducible refine (hW _).out.mono ?_; rintro e w2 ⟨rfl, hE2⟩)
              | (refine wpList_store_mid rfl 30 (.tmp 52) (.tmp 51) rfl g (m * 4) (encA (addB d (k : Int))) rfl rfl (row_there (owns_ext hrow1 hE2) m hm2) info30 (encA_one _) ?_))
            go_roundw
            case rel =>
              have hr := row_set4 (owns_ext hrow1 hE2) m hm2 (addB d (k : Int))
              have hgb := (hrow.lt g rfl).1
              refine ⟨k + 1, _, le, by omega, by go_num, ((hE'.trans hE1).trans hE2).grown hr.2 (fun q e => by cases e; exact hgb), ?_, ?_, HS⟩
              · have := hr.1
                show World.ownsRow _ _ _ _ _ _ _
                rw [List.length_set]
                rw [show Row _ _ _ _ = World.ownsRow _ _ _ _ _ _ _ from rfl, List.length_set] at this
                exact this
              · exact (owns_ext (owns_ext hrb hE1) hE2).kept hr.2 (own_ne (owns_ext (owns_ext hrb hE1) hE2) (owns_ext hrow1 hE2) (by decide))
            case measure => simp [intOf]; omega
        · obtain rfl : m = out.length := by omega
          have heq : ((out.length : Int) == (out.length : Int)) = true := by simp
          have HS := Lib.hid (rinv_new hinv.out (by omega) (by rw [← hlen.out]; exact hno.out))
          have hnew := row_new_cells wr 0#256
          rw [encA_zero] at hnew
          have hW := fun W => Lib.hid (with_any 0#256 (k : Int) (by omega) (by omega) W)
          have HN := Lib.hid hnew
          clear hnew
          go_wp2_with (at_builtin; (refine wpList_append_lies _ rfl _ _ 22 rfl w.heap.size 30 i0 (.agg zA) 4 32 Tryd.underlying22 hi hz0 hz1 hz2 rfl (by decide) _ _ _ rfl (hrow.alloc _) _ 1 1 (encL 0#256) rfl rfl HN.out (by simp [encL, Value.oneCell']) (by decide) (by unfold maxLen; omega) (by omega) (by simp; omega) _ rfl ?_))
          intro g cap3 w3 hrow3 hgrow3 _ hlt3
          have hE3 : Ext w w3 := (hE'.alloc _).grown hgrow3 (fun q e => by have := (hrow.lt q e).1; omega)
          have hrb3 := (hrb.alloc _).kept hgrow3 (own_ne hrb hrow (by decide))
          have hs3 := hE3.size
          clear HN hgrow3 hrb
          go_wp2_with (at_builtin; (refine wpList_append_lies _ rfl _ _ 31 rfl w.heap.size 5 j0 (.int .u8 0) 1 1 Tryd.underlying31 hj hy0 hy1 hy2 rfl (by decide) _ _ _ rfl (hrb3.alloc _) _ 1 1 [.int .u8 (k : Int)] rfl rfl (cell_one_new _ _ _) (by simp [Value.oneCell']) (by decide) (by unfold maxLen; omega) (by omega) (by simp; omega) _ rfl ?_))
          intro g4 cap4 w4 hrb4 hgrow4 _ hlt4
          have hE4 : Ext w w4 := (hE3.alloc _).grown hgrow4 (fun q e => by have := (hrb3.lt q e).1; omega)
          have hrow4 := (hrow3.alloc _).kept hgrow4 (own_ne hrow3 hrb3 (by decide))
          have HR4 : Hid (Row w4 w.heap.size (.slice (some ⟨g, 0, none⟩) (out ++ [0#256]).length cap3) (out ++ [0#256])) := Lib.hid (by
            show World.ownsRow _ _ _ _ _ _ _
            rw [flatE_append, flatE_one, List.length_append]
            exact hrow4)
          obtain ⟨a0, a1, a2, a3⟩ := ew_row HR4.out out.length (by simp)
          rw [getD_app_eq] at a0 a1 a2 a3
          have hu : ((UInt8.ofNat k).toNat : Int) = k := by rw [u8n k hlt]
          have HU := Lib.hid hu
          clear hu hgrow4 hrb3 hrow3 hrow4
          go_wp2_with (first
            | (go_at_call 40; with_reducible refine (hW _).out.mono ?_; rintro e w5 ⟨rfl, hE5⟩)
            | (refine wpList_store_mid rfl 30 (.tmp 52) (.tmp 51) rfl g (out.length * 4) (encA (addB 0#256 (k : Int))) rfl rfl (row_there (owns_ext HR4.out hE5) out.length (by simp)) info30 (encA_one _) ?_))
          go_roundw
          case rel =>
            have hr := row_set4 (owns_ext HR4.out hE5) out.length (by simp) (addB 0#256 (k : Int))
            have hgb := (HR4.out.lt g rfl).1
            have es : (out ++ [0#256]).set out.length (addB 0#256 (k : Int)) = out ++ [addB 0#256 (k : Int)] := by simp
            rw [es] at hr
            refine ⟨k + 1, out ++ [addB 0#256 (k : Int)], le ++ [UInt8.ofNat k], by omega, by go_num, (hE4.trans hE5).grown hr.2 (fun q e => by cases e; exact hgb), ?_, ?_, HS⟩
            · have := hr.1
              simp only [List.length_append, List.length_singleton] at this ⊢
              exact this
            · have := (owns_ext hrb4 hE5).kept hr.2 (own_ne (owns_ext hrb4 hE5) (owns_ext HR4.out hE5) (by decide))
              show World.ownsRow _ _ _ _ _ _ _
              rw [List.length_append, List.map_append, List.map_singleton, bv, HU.out]
              exact this
          case measure => simp [intOf]; omega
    · obtain rfl : k = 256 := by omega
      have he := rinv_end hinv.out
      have hcs := hrow.toCs (by have := hinv.out.len; have := hinv.out.bound; omega)
      rw [he] at hcs
      go_wp2
      go_ret
      exact ⟨_, rfl, hcs, hE⟩

end Go.Proofs.YthfmjhicmopclaaDoor
