/- Stores into a row of sites; contract of switchover.checked. -/
import Derived.Test.YtijhkgabonkmfaaSwA
namespace Go.Proofs.Ytijhkgabonkmfaa
open Go.RowKit
set_option linter.unusedSimpArgs false
set_option linter.unusedVariables false
theorem svCells_split (m : List Sv) (k : Nat) (h : k < m.length) : svCells m = svCells (m.take k) ++ (svRow (m.getD k zSv) ++ svCells (m.drop (k + 1))) := by
  have e : m = m.take k ++ (m.getD k zSv :: m.drop (k + 1)) := by
    have : m.getD k zSv = m[k] := by simp [List.getD_eq_getElem?_getD, List.getElem?_eq_getElem h]
    rw [this, ← List.drop_eq_getElem_cons h, List.take_append_drop]
  conv => lhs; rw [e]
  rw [svCells_append]
  rfl
theorem svCells_setAt (m : List Sv) (k : Nat) (h : k ≤ m.length) (R T : List Value) (hR : R.length = 8) (j : Nat) (hj : j < 8) (v : Value) :
    (svCells (m.take k) ++ (R ++ T)).set (k * 8 + j) v = svCells (m.take k) ++ (R.set j v ++ T) := by
  have hl : (svCells (m.take k)).length = k * 8 := by rw [svCells_length, List.length_take]; congr 1; omega
  rw [List.set_append_right _ _ (by omega), hl, Nat.add_sub_cancel_left, List.set_append_left _ _ (by omega)]
theorem svCells_put (m : List Sv) (k : Nat) (h : k < m.length) (x : Sv) : svCells (m.take k) ++ (svRow x ++ svCells (m.drop (k + 1))) = svCells (m.set k x) := by
  rw [svCells_split (m.set k x) k (by simpa using h)]
  have h1 : (m.set k x).take k = m.take k := by rw [List.take_set]; exact List.set_eq_of_length_le (by rw [List.length_take]; omega)
  have h2 : (m.set k x).drop (k + 1) = m.drop (k + 1) := by rw [List.drop_set, if_pos (by omega)]
  have h3 : (m.set k x).getD k zSv = x := by simp [List.getD_eq_getElem?_getD, List.getElem?_set, h]
  rw [h1, h2, h3]
/-- the lineage of one site is replaced -/
theorem OwnSi.setLin {W : World} {base b c : Nat} {m : List Sv} (h : OwnSi W base (some ⟨b, 0, none⟩) c m) (k : Nat) (hk : k < m.length) (A3 : Option Addr) (c3 n : Nat) (hn : n = (m.getD k zSv).s.li.length) :
    OwnSi (W.setCell ⟨b, k * 8 + 4, none⟩ (.slice A3 n c3)) base (some ⟨b, 0, none⟩) c (m.set k ⟨(m.getD k zSv).s, A3, c3⟩) ∧ W.grownBy (W.setCell ⟨b, k * 8 + 4, none⟩ (.slice A3 n c3)) (some b) := by
  subst hn
  have hs := h.1.stored (k * 8 + 4) (.slice A3 (m.getD k zSv).s.li.length c3)
  refine ⟨⟨?_, by simpa using h.2.1, by simpa using h.2.2⟩, hs.2⟩
  rw [← svCells_put m k hk, List.length_set]
  have := hs.1
  rw [svCells_split m k hk, svCells_setAt m k (by omega) _ _ rfl 4 (by omega)] at this
  exact this
/-- one site is replaced, cell by cell -/
theorem OwnSi.setSite {W : World} {base b c : Nat} {m : List Sv} (h : OwnSi W base (some ⟨b, 0, none⟩) c m) (k : Nat) (hk : k < m.length) (r : Site) (A : Option Addr) (c' : Nat) :
    OwnSi ((((((((W.setCell ⟨b, k * 8, none⟩ (.int .i64 r.nu)).setCell ⟨b, k * 8 + 1, none⟩ (.int .i64 r.ro)).setCell ⟨b, k * 8 + 2, none⟩ (.int .i64 r.ep)).setCell ⟨b, k * 8 + 3, none⟩ (.int .i64 r.ap)).setCell ⟨b, k * 8 + 4, none⟩ (.slice A r.li.length c')).setCell ⟨b, k * 8 + 5, none⟩ (.int .i64 r.so)).setCell ⟨b, k * 8 + 6, none⟩ (.bool r.al)).setCell ⟨b, k * 8 + 7, none⟩ (.bool r.co)) base (some ⟨b, 0, none⟩) c (m.set k ⟨r, A, c'⟩) ∧ W.grownBy ((((((((W.setCell ⟨b, k * 8, none⟩ (.int .i64 r.nu)).setCell ⟨b, k * 8 + 1, none⟩ (.int .i64 r.ro)).setCell ⟨b, k * 8 + 2, none⟩ (.int .i64 r.ep)).setCell ⟨b, k * 8 + 3, none⟩ (.int .i64 r.ap)).setCell ⟨b, k * 8 + 4, none⟩ (.slice A r.li.length c')).setCell ⟨b, k * 8 + 5, none⟩ (.int .i64 r.so)).setCell ⟨b, k * 8 + 6, none⟩ (.bool r.al)).setCell ⟨b, k * 8 + 7, none⟩ (.bool r.co)) (some b) := by
  have s0 := h.1.stored (k * 8) (.int .i64 r.nu)
  have s1 := s0.1.stored (k * 8 + 1) (.int .i64 r.ro)
  have s2 := s1.1.stored (k * 8 + 2) (.int .i64 r.ep)
  have s3 := s2.1.stored (k * 8 + 3) (.int .i64 r.ap)
  have s4 := s3.1.stored (k * 8 + 4) (.slice A r.li.length c')
  have s5 := s4.1.stored (k * 8 + 5) (.int .i64 r.so)
  have s6 := s5.1.stored (k * 8 + 6) (.bool r.al)
  have s7 := s6.1.stored (k * 8 + 7) (.bool r.co)
  have tr : ∀ {w1 w2 w3 : World}, w1.grownBy w2 (some b) → w2.grownBy w3 (some b) → w1.grownBy w3 (some b) := fun g1 g2 => ⟨g2.os.trans g1.os, g2.tape.trans g1.tape, g2.output.trans g1.output, Nat.le_trans g1.size g2.size, fun q hq hne => (g2.block q (Nat.lt_of_lt_of_le hq g1.size) hne).trans (g1.block q hq hne)⟩
  refine ⟨⟨?_, by simpa using h.2.1, by simpa using h.2.2⟩, tr s0.2 (tr s1.2 (tr s2.2 (tr s3.2 (tr s4.2 (tr s5.2 (tr s6.2 s7.2))))))⟩
  rw [← svCells_put m k hk, List.length_set]
  have := s7.1
  rw [svCells_split m k hk] at this
  rw [← Nat.add_zero (k * 8)] at this
  rw [svCells_setAt m k (by omega) _ _ rfl 0 (by omega)] at this
  simp only [Nat.add_zero] at this
  rw [svCells_setAt m k (by omega) _ _ rfl 1 (by omega), svCells_setAt m k (by omega) _ _ rfl 2 (by omega), svCells_setAt m k (by omega) _ _ rfl 3 (by omega), svCells_setAt m k (by omega) _ _ rfl 4 (by omega), svCells_setAt m k (by omega) _ _ rfl 5 (by omega), svCells_setAt m k (by omega) _ _ rfl 6 (by omega), svCells_setAt m k (by omega) _ _ rfl 7 (by omega)] at this
  exact this
theorem OwnSi.form {W : World} {base : Nat} {A : Option Addr} {c : Nat} {m : List Sv} (h : OwnSi W base A c m) (hn : 0 < m.length) : ∃ b, A = some ⟨b, 0, none⟩ ∧ base ≤ b ∧ b < W.heap.size ∧ (∀ j, W.frozen? ⟨b, j, none⟩ = false) ∧ ∃ cs, W.heap[b]? = some (.cells cs 57 (0, 0)) := by
  rcases h.1.2 with ⟨_, h0⟩ | ⟨b, cap, cur, hv, hb, hbb, _⟩
  · omega
  · injection hv with hA
    subst hA
    exact ⟨b, rfl, hb, (Array.getElem?_eq_some_iff.1 hbb).1, fun j => frozen_of_row W b j cur _ hbb, cur, hbb⟩
/-- A store into the row itself. -/
theorem OwnAll.put {w W W' : World} {b c : Nat} {m : List Sv} (h : OwnAll w W (some ⟨b, 0, none⟩) c m) (k : Nat) (hk : k < m.length) (x : Sv) (ho : OwnSi W' w.heap.size (some ⟨b, 0, none⟩) c (m.set k x)) (hx : Lin w W x.A x.c x.s.li) (hgr : W.grownBy W' (some b)) : OwnAll w W' (some ⟨b, 0, none⟩) c (m.set k x) := by
  have hgr' : W.grownBy W' (Value.slice (some ⟨b, 0, none⟩) m.length c).ownBlock := hgr
  refine ⟨ho, fun y hy => ?_⟩
  rcases List.mem_or_eq_of_mem_set hy with hy | rfl
  · exact (h.lin y hy).row h.own rfl hgr'
  · exact hx.row h.own rfl hgr'
theorem set_getD_self (l : List Site) (k : Nat) : l.set k (l.getD k zS) = l := by
  by_cases h : k < l.length
  · rw [List.getD_eq_getElem?_getD, List.getElem?_eq_getElem h]; exact List.set_getElem_self h
  · exact List.set_eq_of_length_le (by omega)
def Checked (w : World) (l : List Site) (e : Ending) (w' : World) : Prop := ∃ A c m, e = .returned (.slice A l.length c) ∧ m.map (·.s) = l ∧ OwnAll w w' A c m ∧ Below w.heap.size w w'
theorem sw_checked_no (w : World) (A : Option Addr) (c B : Nat) (l : List Site) (e : Int) (he : (checkAllS l).2 = e) (h0 : (e == 0) = false) (hB : ∀ x, x ∈ l → x.li.length ≤ B) (h : SitesAt B w A c l) :
    Calls Try.prog 32 #[.slice A l.length c] w fun en w' => en = .panicked [{ v := .iface 92 (.int .i64 e), recovered := false }] ∧ Below w.heap.size w w' := by
  have HC := Keep.mk h
  have HE := Keep.mk he
  have HB0 := Keep.mk hB
  clear h he hB
  go_enter Try.func32, Try.ntmps32
  go_wp2_with (first
    | (go_at_call 25; (with_reducible refine (role_CheckAll w A c B l HB0.out HC.out).mono ?_); rw [HE.out]; rintro en w1 ⟨rfl, hB⟩; have HB := Keep.mk hB; clear hB)
    | (go_at_call 40; (with_reducible refine (sw_ok_no e _ h0).mono ?_); rintro en w' ⟨rfl, hw⟩; subst w'))
  exact ⟨rfl, rfl, HB.out⟩
set_option maxHeartbeats 2000000 in
theorem sw_checked_ok (w : World) (A : Option Addr) (c B : Nat) (l : List Site) (he : (checkAllS l).2 = 0) (hl4 : l.length ≤ 4) (hB : ∀ x, x ∈ l → x.li.length ≤ B) (h : SitesAt B w A c l) :
    Calls Try.prog 32 #[.slice A l.length c] w (Checked w l) := by
  have HC := Keep.mk h
  have HE := Keep.mk he
  have HB0 := Keep.mk hB
  clear h he hB
  go_enter Try.func32, Try.ntmps32
  go_wp2_with (first
    | (go_at_call 25; (with_reducible refine (role_CheckAll w A c B l HB0.out HC.out).mono ?_); rw [HE.out]; rintro en w1 ⟨rfl, hB⟩; have HB1 := Keep.mk hB; clear hB)
    | (go_at_call 40; (with_reducible refine (sw_ok_ok _).mono ?_); rintro en w' ⟨rfl, hw⟩; subst w')
    | (go_at_call 50; (with_reducible refine (clone_sites w _ HB1.out A c B l (by omega) HC.out).mono ?_); rintro en w2 ⟨A2, c2, m2, rfl, hm, hO, hs, hB⟩; have HB2 := Keep.mk (below_then HB1.out hB); have HM := Keep.mk hm; have HO := Keep.mk (show OwnAll w w2 A2 c2 m2 from ⟨hO.mono HB1.out.size, fun x hx => .inl (hs x hx (HB0.out _ (by rw [← hm]; exact List.mem_map_of_mem hx)))⟩); clear hm hO hs hB))
  go_loopg [18] l.length (fun g i wr => ∃ (k : Nat) (m : List Sv), g = l.length - k ∧ k ≤ l.length ∧ i = .int .i64 k ∧ Keep (m.map (·.s) = l) ∧ Keep (OwnAll w wr A2 c2 m) ∧ Keep (Below w.heap.size w wr))
  case atStart => exact ⟨0, m2, by omega, by omega, rfl, HM, HO, HB2⟩
  case round =>
    obtain ⟨k, m, rfl, hk, rfl, HN, HQ, H8⟩ := hrel
    by_cases hk2 : k < l.length
    · have hml : m.length = l.length := by have := congrArg List.length HN.out; simpa using this
      obtain ⟨b, rfl, hb0, hb1, hfz, cs, hblk⟩ := HQ.out.own.form (by omega)
      obtain ⟨b', o', A', c', hA, -, -, -, -, -, d4, -, -, -, hs⟩ := (HQ.out.reads H8.out 5864062014634).at_ k (by simp; omega)
      injection hA with hA
      injection hA with q1 q2
      subst q1 q2
      rw [getD_map_s m k (by omega)] at d4 hs
      simp only [Nat.zero_add] at d4
      have hmem : m.getD k zSv ∈ m := by rw [List.getD_eq_getElem?_getD, List.getElem?_eq_getElem (by omega)]; exact List.getElem_mem _
      have HSP := Keep.mk (hs (HQ.out.few H8.out _ (List.mem_map_of_mem hmem)))
      have hk3 : (k : Int) < (l.length : Int) := by omega
      have HMK := Keep.mk (show k < m.length by omega)
      have HSET := Keep.mk (show (m.map (·.s)).set k (m.getD k zSv).s = l by rw [HN.out, ← getD_map_s m k (by omega), HN.out]; exact set_getD_self l k)
      generalize hy : m.getD k zSv = y at d4 hmem HSP HSET
      have HY := Keep.mk hy
      clear hs hml hmem hy hblk
      go_wp2_with (go_at_call 51; (with_reducible refine (clone_spans _ A' c' y.s.li HSP.out).mono ?_); rintro en w3 ⟨A3, c3, rfl, hO3, hB3⟩; obtain ⟨hcl, hfz3⟩ := bcell hB3; have HO3 := Keep.mk hO3; have HB3 := Keep.mk hB3; clear hO3 hB3)
      have hq := HQ.out.step HB3.out
      have hset := hq.own.setLin k HMK.out A3 c3 y.s.li.length (by rw [HY.out])
      rw [HY.out] at hset
      have hput := hq.put k HMK.out ⟨y.s, A3, c3⟩ hset.1 (.inr (HO3.out.mono H8.out.size)) hset.2
      go_roundg (l.length - (k + 1))
      case measure => omega
      case rel => exact ⟨k + 1, m.set k ⟨y.s, A3, c3⟩, rfl, by omega, by go_num, ⟨by rw [List.map_set]; exact HSET.out⟩, ⟨hput⟩, ⟨Below.of_grown (below_then H8.out HB3.out) hb0 hset.2⟩⟩
    · have : k = l.length := by omega
      subst this
      go_wp2
      go_ret
      exact ⟨A2, c2, m, rfl, HN.out, HQ.out, H8.out⟩
end Go.Proofs.Ytijhkgabonkmfaa
