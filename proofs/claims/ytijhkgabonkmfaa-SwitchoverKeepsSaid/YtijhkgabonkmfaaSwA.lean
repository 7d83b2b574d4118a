/- Contracts of package switchover: demand, ok, find; slices.Clone of sites. -/
import Derived.Test.YtijhkgabonkmfaaSitesB
import Derived.Test.YtijhkgabonkmfaaRoleO
import Derived.WalkLawsBesides
namespace Go.Proofs.Ytijhkgabonkmfaa
open Go.RowKit
set_option linter.unusedSimpArgs false
set_option linter.unusedVariables false
theorem sw_demand_ok (e : Int) (w : World) : Calls Try.prog 34 #[.bool true, .int .i64 e] w fun en w' => en = .returned (.tuple #[]) ∧ w' = w := by
  go_enter Try.func34, Try.ntmps34
  go_wp2
  go_end0
  exact ⟨rfl, rfl⟩
theorem sw_demand_no (e : Int) (w : World) : Calls Try.prog 34 #[.bool false, .int .i64 e] w fun en w' => en = .panicked [{ v := .iface 92 (.int .i64 e), recovered := false }] ∧ w' = w := by
  go_enter Try.func34, Try.ntmps34
  go_wp2
  exact ⟨rfl, rfl, rfl⟩
theorem sw_ok_ok (w : World) : Calls Try.prog 40 #[.int .i64 0] w fun en w' => en = .returned (.tuple #[]) ∧ w' = w := by
  go_enter Try.func40, Try.ntmps40
  go_wp2_with (go_at_call 34; (with_reducible refine (sw_demand_ok _ _).mono ?_); rintro e w' ⟨rfl, hw⟩; subst w')
  go_end0
  exact ⟨rfl, rfl⟩
theorem sw_ok_no (e : Int) (w : World) (h : (e == 0) = false) : Calls Try.prog 40 #[.int .i64 e] w fun en w' => en = .panicked [{ v := .iface 92 (.int .i64 e), recovered := false }] ∧ w' = w := by
  go_enter Try.func40, Try.ntmps40
  go_wp2_with (go_at_call 34; (with_reducible refine (sw_demand_no _ _).mono ?_); rintro e w' ⟨rfl, hw⟩; subst w')
  exact ⟨rfl, rfl, rfl⟩
theorem clos_find (w : World) (x : Site) (A : Option Addr) (c g : Nat) (n : Int) (h : w.cell? ⟨g, 0, none⟩ = some (.int .i64 n)) :
    Calls Try.prog 53 #[.agg #[.int .i64 x.nu, .int .i64 x.ro, .int .i64 x.ep, .int .i64 x.ap, .slice A x.li.length c, .int .i64 x.so, .bool x.al, .bool x.co], .pointer (some ⟨g, 0, none⟩)] w fun e w' => e = .returned (.bool (x.nu == n)) ∧ Below w.heap.size w w' := by
  have hlt : g < w.heap.size := World.block_lt_of_cell? w _ h
  go_enter Try.func53, Try.ntmps53
  go_wp2
  go_ret
  exact ⟨rfl, below_new (Below.refl _ _) _⟩
set_option maxHeartbeats 1000000 in
theorem index_find (w : World) (A : Option Addr) (c n B : Nat) (l : List Site) (hn : n = l.length) (h : SitesAt B w A c l) (g : Nat) (m : Int) (hm : w.cell? ⟨g, 0, none⟩ = some (.int .i64 m)) :
    Calls Try.prog 52 #[.slice A n c, .func (Fn.func 53) #[] #[.pointer (some ⟨g, 0, none⟩)]] w fun e w' => e = .returned (.int .i64 (idxFrom 0 (fun x => x.nu == m) l)) ∧ Below w.heap.size w w' := by
  subst hn
  have hl := h.2.1
  have HC := Keep.mk h
  clear h
  go_enter Try.func52, Try.ntmps52
  go_wp2_with fail
  go_loopg [8] l.length (fun g i wr => ∃ k : Nat, g = l.length - k ∧ k ≤ l.length ∧ i = .int .i64 k ∧ Keep (idxFrom 0 (fun x => x.nu == m) l = idxFrom k (fun x => x.nu == m) (l.drop k)) ∧ Keep (Below w.heap.size w wr))
  case atStart => exact ⟨0, by omega, by omega, rfl, ⟨rfl⟩, ⟨Below.refl _ _⟩⟩
  case round =>
    obtain ⟨k, rfl, hk, rfl, H3, H8⟩ := hrel
    by_cases hk2 : k < l.length
    · obtain ⟨b, o, A', c', hA, hb, c0, c1, c2, c3, c4, c5, c6, c7, -⟩ := (HC.out.below H8.out).at_ k hk2
      subst hA
      have hx := drop_getDS hk2 rfl
      generalize l.getD k zS = x at c0 c1 c2 c3 c4 c5 c6 c7 hx
      rw [hx] at H3
      clear hx
      have HN := Keep.mk ((H8.out.cell (p := ⟨g, 0, none⟩) (World.block_lt_of_cell? w _ hm)).trans hm)
      cases hq : (fun x => x.nu == m) x
      · have HX := Keep.mk (H3.out.trans (idxFrom_no _ k x _ hq))
        clear H3
        go_wp2_with (go_at_call 53; refine (clos_find _ x A' c' g m HN.out).mono ?_; rintro e w' ⟨rfl, hb1⟩; have HB := Keep.mk (below_then H8.out hb1); clear hb1)
        go_roundg (l.length - (k + 1))
        case measure => omega
        case rel => exact ⟨k + 1, rfl, by omega, by go_num, HX, HB⟩
      · have HX := Keep.mk (H3.out.trans (idxFrom_yes _ k x _ hq))
        clear H3
        go_wp2_with (go_at_call 53; refine (clos_find _ x A' c' g m HN.out).mono ?_; rintro e w' ⟨rfl, hb1⟩; have HB := Keep.mk (below_then H8.out hb1); clear hb1)
        go_ret
        exact ⟨ret_int HX.out.symm, HB.out⟩
    · have : k = l.length := by omega
      subst this
      go_wp2
      go_ret
      exact ⟨ret_int (by rw [H3.out, List.drop_length]; rfl), H8.out⟩
theorem sw_find_no (w : World) (A : Option Addr) (c n B : Nat) (l : List Site) (num : Int) (hn : n = l.length) (h : SitesAt B w A c l) (hi : idxFrom 0 (fun x => x.nu == num) l = -1) :
    Calls Try.prog 33 #[.slice A n c, .int .i64 num] w fun en w' => en = .panicked [{ v := .iface 92 (.int .i64 7), recovered := false }] ∧ Below w.heap.size w w' := by
  have hmf : ∀ (fn : Fn) (first cap : Array Value) (w : World), (Instr.makeFunc fn first cap).run Try.prog w = .ok (.func fn first cap) w := fun _ _ _ _ => rfl
  have HC := Keep.mk h
  have HN := Keep.mk hn
  have HI := Keep.mk hi
  clear h hn hi
  go_enter Try.func33, Try.ntmps33
  go_wp2_with (first
    | (go_at_call 52; (with_reducible refine (index_find _ A c n B l HN.out (HC.out.alloc _) w.heap.size num (by go_simp)).mono ?_); rw [HI.out]; rintro e w1 ⟨rfl, hB⟩; have HB := Keep.mk (below_then (below_new (Below.refl w.heap.size w) (.cells #[.int .i64 num] 3)) hB); clear hB)
    | (go_at_call 34; (with_reducible refine (sw_demand_no _ _).mono ?_); rintro e w' ⟨rfl, hw⟩; subst w'))
  exact ⟨rfl, rfl, HB.out⟩
theorem sw_find_ok (w : World) (b o c n B : Nat) (l : List Site) (num : Int) (i : Nat) (hn : n = l.length) (h : SitesAt B w (some ⟨b, o, none⟩) c l) (hi : idxFrom 0 (fun x => x.nu == num) l = i) (hlt : i < n) :
    Calls Try.prog 33 #[.slice (some ⟨b, o, none⟩) n c, .int .i64 num] w fun en w' => en = .returned (.pointer (some ⟨b, o + i * 8, none⟩)) ∧ Below w.heap.size w w' := by
  have hmf : ∀ (fn : Fn) (first cap : Array Value) (w : World), (Instr.makeFunc fn first cap).run Try.prog w = .ok (.func fn first cap) w := fun _ _ _ _ => rfl
  have HC := Keep.mk h
  have HN := Keep.mk hn
  have HI := Keep.mk hi
  have hll : n ≤ 1000000000 := by have := h.2.1; omega
  have hlt' : (i : Int) < (n : Int) := by omega
  clear h hn hi
  go_enter Try.func33, Try.ntmps33
  go_wp2_with (first
    | (go_at_call 52; (with_reducible refine (index_find _ _ c n B l HN.out (HC.out.alloc _) w.heap.size num (by go_simp)).mono ?_); rw [HI.out]; rintro e w1 ⟨rfl, hB⟩; have HB := Keep.mk (below_then (below_new (Below.refl w.heap.size w) (.cells #[.int .i64 num] 3)) hB); clear hB)
    | (go_at_call 34; (with_reducible refine (sw_demand_ok _ _).mono ?_); rintro e w' ⟨rfl, hw⟩; subst w'))
  go_ret
  exact ⟨rfl, HB.out⟩
/-- the sites that are read, as values in memory -/
theorem SitesAt.values {B : Nat} {w : World} {b o c : Nat} {l : List Site} (h : SitesAt B w (some ⟨b, o, none⟩) c l) :
    ∃ m : List Sv, m.map (·.s) = l ∧ (∀ j u, (svCells m)[j]? = some u → w.cell? ((⟨b, o, none⟩ : Addr).add j) = some u) ∧ ∀ x, x ∈ m → x.s.li.length ≤ B → SpansAt w x.A x.c x.s.li := by
  have key : ∀ n, n ≤ l.length → ∃ m : List Sv, m.map (·.s) = l.take n ∧ m.length = n ∧ (∀ i, i < n → SiteAt B w b (o + i * 8) (m.getD i zSv).s (m.getD i zSv).A (m.getD i zSv).c) := by
    intro n
    induction n with
    | zero => intro _; exact ⟨[], by simp, rfl, fun i hi => by omega⟩
    | succ n ih =>
      intro hn
      obtain ⟨m, h1, h2, h3⟩ := ih (by omega)
      obtain ⟨b', o', A', c', hA, _, ha⟩ := h.at_ n (by omega)
      injection hA with hA
      injection hA with q1 q2
      subst q1 q2
      refine ⟨m ++ [⟨l.getD n zS, A', c'⟩], by rw [List.map_append, h1, take_snocS l n (by omega)]; rfl, by simp [h2], fun i hi => ?_⟩
      by_cases e : i < n
      · have : (m ++ [(⟨l.getD n zS, A', c'⟩ : Sv)]).getD i zSv = m.getD i zSv := by simp [List.getD_eq_getElem?_getD, List.getElem?_append_left (by omega : i < m.length)]
        rw [this]; exact h3 i e
      · have e' : i = m.length := by omega
        have : (m ++ [(⟨l.getD n zS, A', c'⟩ : Sv)]).getD i zSv = ⟨l.getD n zS, A', c'⟩ := by subst e'; simp [List.getD_eq_getElem?_getD]
        rw [this]
        have : i = n := by omega
        subst this
        exact ha
  obtain ⟨m, h1, h2, h3⟩ := key l.length (Nat.le_refl _)
  rw [List.take_length] at h1
  refine ⟨m, h1, fun j u hu => ?_, fun x hx hB => ?_⟩
  · have hj : j < m.length * 8 := by
      rw [← svCells_length]
      exact (List.getElem?_eq_some_iff.1 hu).1
    have ea : (⟨b, o, none⟩ : Addr).add j = ⟨b, o + j, none⟩ := by unfold Addr.add; split <;> simp_all
    rw [ea]
    obtain ⟨c0, c1, c2, c3, c4, c5, c6, c7, _⟩ := h3 (j / 8) (by omega)
    have hd := svCells_at m (j / 8) (by omega) (j % 8) (by omega)
    rw [show j / 8 * 8 + j % 8 = j from by omega] at hd
    rw [hd] at hu
    have hoff : o + j = o + j / 8 * 8 + j % 8 := by omega
    rw [hoff]
    generalize m.getD (j / 8) zSv = y at *
    have h8 : j % 8 = 0 ∨ j % 8 = 1 ∨ j % 8 = 2 ∨ j % 8 = 3 ∨ j % 8 = 4 ∨ j % 8 = 5 ∨ j % 8 = 6 ∨ j % 8 = 7 := by omega
    rcases h8 with e | e | e | e | e | e | e | e <;> rw [e] at hu ⊢ <;> simp [svRow] at hu <;> subst hu <;> assumption
  · obtain ⟨i, hi, rfl⟩ := List.getElem_of_mem hx
    have := (h3 i (by omega)).2.2.2.2.2.2.2.2
    have e : m.getD i zSv = m[i] := by simp [List.getD_eq_getElem?_getD, List.getElem?_eq_getElem hi]
    rw [e] at this
    exact this hB
theorem SitesAt.valuesA {B : Nat} {w : World} {a : Addr} {c : Nat} {l : List Site} (h : SitesAt B w (some a) c l) :
    ∃ m : List Sv, m.map (·.s) = l ∧ (∀ j u, (svCells m)[j]? = some u → w.cell? (a.add j) = some u) ∧ ∀ x, x ∈ m → x.s.li.length ≤ B → SpansAt w x.A x.c x.s.li := by
  by_cases h0 : l.length = 0
  · obtain rfl := List.eq_nil_of_length_eq_zero h0
    exact ⟨[], rfl, fun j u hu => by simp [svCells] at hu, fun _ h => by cases h⟩
  · obtain ⟨b, o, e, _⟩ := h.2.2 (by omega)
    injection e with e
    subst e
    exact h.values
theorem cell_newS {w : World} {a : Addr} {v : Value} (o : Obj) (h : w.cell? a = some v) : (w.alloc o).cell? a = some v := (((Below.refl w.heap.size w).alloc (Nat.le_refl _) o).cell (p := a) (World.block_lt_of_cell? w _ h)).trans h
def ClonedSi (w0 w : World) (l : List Site) (B : Nat) (e : Ending) (w' : World) : Prop :=
  ∃ A c m, e = .returned (.slice A l.length c) ∧ m.map (·.s) = l ∧ OwnSi w' w.heap.size A c m ∧ (∀ x, x ∈ m → x.s.li.length ≤ B → SpansAt w0 x.A x.c x.s.li) ∧ Below w.heap.size w w'
set_option maxHeartbeats 1000000 in
theorem clone_sites (w0 w : World) (hb : Below w0.heap.size w0 w) (A : Option Addr) (c B : Nat) (l : List Site) (hl4 : l.length ≤ 1000000) (h : SitesAt B w0 A c l) :
    Calls Try.prog 50 #[.slice A l.length c] w (ClonedSi w0 w l B) := by
  have hq := fun (w : World) => eql_slice_nil (P := Try.prog) w 22 57 A l.length c Try.underlying22
  rcases A with _ | a
  · have hn : l = [] := by
      rcases Nat.eq_zero_or_pos l.length with h0 | h0
      · exact List.eq_nil_of_length_eq_zero h0
      · obtain ⟨b, o, e, _⟩ := h.2.2 h0
        cases e
    subst hn
    simp only [Option.isNone_none, List.length_nil] at hq
    clear h
    go_enter Try.func50, Try.ntmps50
    go_wp2
    go_ret
    exact ⟨none, 0, [], rfl, rfl, OwnSi.nil _ _, (fun _ h => by cases h), Below.refl _ _⟩
  · simp only [Option.isNone_some] at hq
    obtain ⟨m, h1, h2, h3⟩ := h.valuesA
    have hml : l.length = m.length := by rw [← h1, List.length_map]
    have HM := Keep.mk (And.intro h1 (And.intro h2 (And.intro h3 hml)))
    have OB := Keep.mk (show OwnSi (w.alloc (.cells #[] 57)) w.heap.size (some ⟨w.heap.size, 0, none⟩) 0 [] from ⟨World.ownsRow_made (base := w.heap.size) w #[] 0 (Nat.le_refl _) (by decide) (by simp), by simp, by simp⟩)
    have HN := Keep.mk (show ∀ j u, (svCells m)[j]? = some u → (w.alloc (.cells #[] 57)).cell? (a.add j) = some u from fun j u hu => cell_newS _ ((hb.cell (p := a.add j) (World.block_lt_of_cell? w0 _ (h2 j u hu))).trans (h2 j u hu)))
    have HLEN := Keep.mk (show ([] : List Sv).length + m.length ≤ 1000000 by simp; omega)
    clear h1 h2 h3 hml h
    go_enter Try.func50, Try.ntmps50
    go_wp2_with (at_builtin; (with_reducible refine wpList_app_sites ?_ (.tmp 5) (.tmp 6) ?_ w.heap.size _ 0 0 [] rfl OB.out _ c l.length m HM.out.2.2.2 HN.out ?_ ?_ HLEN.out (by simp) ?_); rfl; rfl; rfl; rfl; intro A6 c6 w6 hown hgr; have HF := Keep.mk hown; have HB := Keep.mk (grown_none (below_new (Below.refl _ _) _) hgr (fun k hk => by simp [Value.ownBlock] at hk; omega)); clear hown hgr)
    go_ret
    exact ⟨A6, c6, m, by simp, HM.out.1, HF.out, HM.out.2.2.1, HB.out⟩
end Go.Proofs.Ytijhkgabonkmfaa
