/- Contracts: switchover.Step (joined), switchover.Abort. -/
import Derived.Test.YtijhkgabonkmfaaSwU
namespace Go.Proofs.Ytijhkgabonkmfaa
open Go.RowKit
set_option linter.unusedSimpArgs false
set_option linter.unusedVariables false
set_option maxRecDepth 100000
theorem sw_Step (w : World) (p : Proc) (A : Option Addr) (c B : Nat) (l : List Site) (ok : Bool) (v : Int) (hB : ∀ x, x ∈ l → x.li.length ≤ B) (h : SitesAt B w A c l) :
    Calls Try.prog 19 #[.agg #[.int .i64 p.ki, .int .i64 p.fr, .int .i64 p.to_, .int .i64 p.st, .int .i64 p.ep, .int .i64 p.cy, .bool p.dn, .bool p.fa], .slice A l.length c, .bool ok, .int .i64 v] w (StepRes w (stepS p l ok v)) := by
  rcases checkP_two p with hc | hc
  · by_cases he : (checkAllS l).2 = 0
    · rcases find_ways l p.fr with h1 | ⟨i, h1, hil, -⟩
      · have hr : stepS p l ok v = (zP, [], 7) := by unfold stepS; rw [if_neg (not_not_intro hc), if_neg (not_not_intro he), if_pos h1]
        rw [hr]
        exact sw_Step_no3 w p A c B l ok v hc he (.inl h1) hB h
      · rcases find_ways l p.to_ with h2 | ⟨k, h2, hkl, -⟩
        · have hr : stepS p l ok v = (zP, [], 7) := by unfold stepS; rw [if_neg (not_not_intro hc), if_neg (not_not_intro he), if_neg (by omega), if_pos h2]
          rw [hr]
          exact sw_Step_no3 w p A c B l ok v hc he (.inr h2) hB h
        · exact sw_Step_go w p A c B l ok v i k hc he h1 hil h2 hkl hB h
    · have hr : stepS p l ok v = (zP, [], (checkAllS l).2) := by unfold stepS; rw [if_neg (not_not_intro hc), if_pos he]
      rw [hr]
      exact sw_Step_no2 w p A c B l ok v _ hc rfl (by simpa using he) hB h
  · have hr : stepS p l ok v = (zP, [], 3) := by unfold stepS; rw [if_pos (by omega)]
    rw [hr]
    exact sw_Step_no1 w p A c _ ok v hc
set_option maxHeartbeats 1000000 in
theorem sw_Abort_no1 (w : World) (p : Proc) (A : Option Addr) (c n : Nat) (hc : checkP p = 3) :
    Calls Try.prog 22 #[.agg #[.int .i64 p.ki, .int .i64 p.fr, .int .i64 p.to_, .int .i64 p.st, .int .i64 p.ep, .int .i64 p.cy, .bool p.dn, .bool p.fa], .slice A n c] w (StepRes w (zP, [], 3)) := by
  have hmf : ∀ (fn : Fn) (first cap : Array Value) (w : World), (Instr.makeFunc fn first cap).run Try.prog w = .ok (.func fn first cap) w := fun _ _ _ _ => rfl
  have HCK := fun w => sw_Check w p
  rw [hc] at HCK
  have S0 := Keep.mk (step_start w p)
  clear hc
  go_enter_defers Try.func22, Try.ntmps22
  go_wp2_with (first
    | (go_at_call 17; (with_reducible refine (HCK _).mono ?_); rintro en w1 ⟨rfl, hB⟩; have HB := Keep.mk hB; clear hB)
    | (go_at_call 40; (with_reducible refine (sw_ok_no 3 _ rfl).mono ?_); rintro en w' ⟨rfl, hw⟩; subst w'))
  exact abort_door w w1 _ rfl rfl rfl (S0.out.2.1.step HB.out) (S0.out.2.2.1.step HB.out) (S0.out.2.2.2.step HB.out) 3
set_option maxHeartbeats 1000000 in
theorem sw_Abort_no2 (w : World) (p : Proc) (A : Option Addr) (c B : Nat) (l : List Site) (e : Int) (hc : checkP p = 0) (he : (checkAllS l).2 = e) (h0 : (e == 0) = false) (hB : ∀ x, x ∈ l → x.li.length ≤ B) (h : SitesAt B w A c l) :
    Calls Try.prog 22 #[.agg #[.int .i64 p.ki, .int .i64 p.fr, .int .i64 p.to_, .int .i64 p.st, .int .i64 p.ep, .int .i64 p.cy, .bool p.dn, .bool p.fa], .slice A l.length c] w (StepRes w (zP, [], e)) := by
  have hmf : ∀ (fn : Fn) (first cap : Array Value) (w : World), (Instr.makeFunc fn first cap).run Try.prog w = .ok (.func fn first cap) w := fun _ _ _ _ => rfl
  have HCK := fun w => sw_Check w p
  rw [hc] at HCK
  have S0 := Keep.mk (step_start w p)
  have HC := Keep.mk h
  have HE := Keep.mk he
  have HB0 := Keep.mk hB
  clear hc h he hB
  go_enter_defers Try.func22, Try.ntmps22
  go_wp2_with (first
    | (go_at_call 17; (with_reducible refine (HCK _).mono ?_); rintro en w1 ⟨rfl, hB⟩; have S1 := Keep.mk (And.intro (S0.out.1.step hB) (And.intro (S0.out.2.1.step hB) (And.intro (S0.out.2.2.1.step hB) (S0.out.2.2.2.step hB)))); clear hB)
    | (go_at_call 40; (with_reducible refine (sw_ok_ok _).mono ?_); rintro en w' ⟨rfl, hw⟩; subst w')
    | (go_at_call 32; (with_reducible refine (sw_checked_no _ A c B l e HE.out h0 HB0.out (HC.out.below S1.out.1.bel)).mono ?_); rintro en w2 ⟨rfl, hB⟩; have HB := Keep.mk hB; clear hB))
  exact abort_door w w2 _ rfl rfl rfl (S1.out.2.1.step HB.out) (S1.out.2.2.1.step HB.out) (S1.out.2.2.2.step HB.out) e
structure StA (w W : World) (A1 : Option Addr) (c1 : Nat) (p : Proc) (m : List Sv) : Prop where
  kp : Held w w.heap.size [.int .i64 p.ki, .int .i64 p.fr, .int .i64 p.to_, .int .i64 p.st, .int .i64 p.ep, .int .i64 p.cy, .bool p.dn, .bool p.fa] 26 W
  kq : Held w (w.heap.size + 1) [.int .i64 0, .int .i64 0, .int .i64 0, .int .i64 0, .int .i64 0, .int .i64 0, .bool false, .bool false] 26 W
  km : Held w (w.heap.size + 2) [.slice A1 m.length c1] 22 W
  ke : Held w (w.heap.size + 3) [.int .i64 0] 27 W
  row : RowAt (e0 w) W (w.heap.size + 4) A1 c1 m
theorem abort_end {w W : World} {A1 : Option Addr} {c1 : Nat} {q : Proc} {m : List Sv} (h : StA w W A1 c1 q m) {n : Nat} (hn : n = m.length) :
    Held w (w.heap.size + 1) [.int .i64 q.ki, .int .i64 q.fr, .int .i64 q.to_, .int .i64 q.st, .int .i64 q.ep, .int .i64 q.cy, .bool q.dn, .bool q.fa] 26 (((((((((((W.setCell ⟨w.heap.size + 1, 0, none⟩ (.int .i64 q.ki)).setCell ⟨w.heap.size + 1, 1, none⟩ (.int .i64 q.fr)).setCell ⟨w.heap.size + 1, 2, none⟩ (.int .i64 q.to_)).setCell ⟨w.heap.size + 1, 3, none⟩ (.int .i64 q.st)).setCell ⟨w.heap.size + 1, 4, none⟩ (.int .i64 q.ep)).setCell ⟨w.heap.size + 1, 5, none⟩ (.int .i64 q.cy)).setCell ⟨w.heap.size + 1, 6, none⟩ (.bool q.dn)).setCell ⟨w.heap.size + 1, 7, none⟩ (.bool q.fa)).setCell ⟨w.heap.size + 1 + 1, 0, none⟩ (.slice A1 n c1)).setCell ⟨w.heap.size + 1 + 1 + 1, 0, none⟩ (.int .i64 0)).drew) ∧ Held w (w.heap.size + 2) [.slice A1 m.length c1] 22 (((((((((((W.setCell ⟨w.heap.size + 1, 0, none⟩ (.int .i64 q.ki)).setCell ⟨w.heap.size + 1, 1, none⟩ (.int .i64 q.fr)).setCell ⟨w.heap.size + 1, 2, none⟩ (.int .i64 q.to_)).setCell ⟨w.heap.size + 1, 3, none⟩ (.int .i64 q.st)).setCell ⟨w.heap.size + 1, 4, none⟩ (.int .i64 q.ep)).setCell ⟨w.heap.size + 1, 5, none⟩ (.int .i64 q.cy)).setCell ⟨w.heap.size + 1, 6, none⟩ (.bool q.dn)).setCell ⟨w.heap.size + 1, 7, none⟩ (.bool q.fa)).setCell ⟨w.heap.size + 1 + 1, 0, none⟩ (.slice A1 n c1)).setCell ⟨w.heap.size + 1 + 1 + 1, 0, none⟩ (.int .i64 0)).drew) ∧ Held w (w.heap.size + 3) [.int .i64 0] 27 (((((((((((W.setCell ⟨w.heap.size + 1, 0, none⟩ (.int .i64 q.ki)).setCell ⟨w.heap.size + 1, 1, none⟩ (.int .i64 q.fr)).setCell ⟨w.heap.size + 1, 2, none⟩ (.int .i64 q.to_)).setCell ⟨w.heap.size + 1, 3, none⟩ (.int .i64 q.st)).setCell ⟨w.heap.size + 1, 4, none⟩ (.int .i64 q.ep)).setCell ⟨w.heap.size + 1, 5, none⟩ (.int .i64 q.cy)).setCell ⟨w.heap.size + 1, 6, none⟩ (.bool q.dn)).setCell ⟨w.heap.size + 1, 7, none⟩ (.bool q.fa)).setCell ⟨w.heap.size + 1 + 1, 0, none⟩ (.slice A1 n c1)).setCell ⟨w.heap.size + 1 + 1 + 1, 0, none⟩ (.int .i64 0)).drew) ∧ OwnAll (e0 w) (((((((((((W.setCell ⟨w.heap.size + 1, 0, none⟩ (.int .i64 q.ki)).setCell ⟨w.heap.size + 1, 1, none⟩ (.int .i64 q.fr)).setCell ⟨w.heap.size + 1, 2, none⟩ (.int .i64 q.to_)).setCell ⟨w.heap.size + 1, 3, none⟩ (.int .i64 q.st)).setCell ⟨w.heap.size + 1, 4, none⟩ (.int .i64 q.ep)).setCell ⟨w.heap.size + 1, 5, none⟩ (.int .i64 q.cy)).setCell ⟨w.heap.size + 1, 6, none⟩ (.bool q.dn)).setCell ⟨w.heap.size + 1, 7, none⟩ (.bool q.fa)).setCell ⟨w.heap.size + 1 + 1, 0, none⟩ (.slice A1 n c1)).setCell ⟨w.heap.size + 1 + 1 + 1, 0, none⟩ (.int .i64 0)).drew) A1 c1 m := by
  subst hn
  have G := grownp W (w.heap.size + 1) q
  have K1 : Held w (w.heap.size + 1) [.int .i64 q.ki, .int .i64 q.fr, .int .i64 q.to_, .int .i64 q.st, .int .i64 q.ep, .int .i64 q.cy, .bool q.dn, .bool q.fa] 26 ((((((((W.setCell ⟨w.heap.size + 1, 0, none⟩ (.int .i64 q.ki)).setCell ⟨w.heap.size + 1, 1, none⟩ (.int .i64 q.fr)).setCell ⟨w.heap.size + 1, 2, none⟩ (.int .i64 q.to_)).setCell ⟨w.heap.size + 1, 3, none⟩ (.int .i64 q.st)).setCell ⟨w.heap.size + 1, 4, none⟩ (.int .i64 q.ep)).setCell ⟨w.heap.size + 1, 5, none⟩ (.int .i64 q.cy)).setCell ⟨w.heap.size + 1, 6, none⟩ (.bool q.dn)).setCell ⟨w.heap.size + 1, 7, none⟩ (.bool q.fa)) :=
    (((((((h.kq.set 0 (.int .i64 q.ki)).set 1 (.int .i64 q.fr)).set 2 (.int .i64 q.to_)).set 3 (.int .i64 q.st)).set 4 (.int .i64 q.ep)).set 5 (.int .i64 q.cy)).set 6 (.bool q.dn)).set 7 (.bool q.fa)
  have K2 := h.km.grown (by omega) h.kq.ge G
  have K3 := h.ke.grown (by omega) h.kq.ge G
  have R := h.row.oth h.kq.toE (by decide) (by omega) G
  generalize ((((((((W.setCell ⟨w.heap.size + 1, 0, none⟩ (.int .i64 q.ki)).setCell ⟨w.heap.size + 1, 1, none⟩ (.int .i64 q.fr)).setCell ⟨w.heap.size + 1, 2, none⟩ (.int .i64 q.to_)).setCell ⟨w.heap.size + 1, 3, none⟩ (.int .i64 q.st)).setCell ⟨w.heap.size + 1, 4, none⟩ (.int .i64 q.ep)).setCell ⟨w.heap.size + 1, 5, none⟩ (.int .i64 q.cy)).setCell ⟨w.heap.size + 1, 6, none⟩ (.bool q.dn)).setCell ⟨w.heap.size + 1, 7, none⟩ (.bool q.fa)) = W8 at K1 K2 K3 R ⊢
  have R2 := R.oth K2.toE (by decide) (by omega) (grown_set W8 (w.heap.size + 2) 0 (.slice A1 m.length c1))
  have K32 := K3.setOther (b := w.heap.size + 2) (j := 0) K2.ge (by omega) (.slice A1 m.length c1)
  have R3 := R2.oth K32.toE (by decide) (by omega) (grown_set _ (w.heap.size + 3) 0 (.int .i64 0))
  exact ⟨((K1.setOther K2.ge (by omega) _).setOther K3.ge (by omega) _).drew, ((K2.set 0 _).setOther K3.ge (by omega) _).drew, (K32.set 0 _).drew, (R3.step (below_drew (Below.refl _ _))).1⟩
theorem abort_tail {p : Proc} {l : List Site} (hc : checkP p = 0) (he : (checkAllS l).2 = 0) :
    abortS p l = if p.dn = true then (zP, [], 12) else if p.fa = true then (zP, [], 12) else if decide (p.st ≤ 3) = false then (zP, [], 12) else ({ p with fa := true }, l, 0) := by
  unfold abortS
  rw [if_neg (not_not_intro hc), if_neg (not_not_intro he)]
set_option maxHeartbeats 2000000 in
theorem sw_Abort_go (w : World) (p : Proc) (A : Option Addr) (c B : Nat) (l : List Site) (hc : checkP p = 0) (he : (checkAllS l).2 = 0) (hB : ∀ x, x ∈ l → x.li.length ≤ B) (h : SitesAt B w A c l) :
    Calls Try.prog 22 #[.agg #[.int .i64 p.ki, .int .i64 p.fr, .int .i64 p.to_, .int .i64 p.st, .int .i64 p.ep, .int .i64 p.cy, .bool p.dn, .bool p.fa], .slice A l.length c] w (StepRes w (abortS p l)) := by
  have hmf : ∀ (fn : Fn) (first cap : Array Value) (w : World), (Instr.makeFunc fn first cap).run Try.prog w = .ok (.func fn first cap) w := fun _ _ _ _ => rfl
  have HT := Keep.mk (abort_tail hc he)
  have HCK := fun w => sw_Check w p
  rw [hc] at HCK
  obtain ⟨ki, fr, to_, st, ep, cy, dn, fa⟩ := p
  simp only at HCK HT ⊢
  generalize abortS ⟨ki, fr, to_, st, ep, cy, dn, fa⟩ l = r at HT ⊢
  have S0 := Keep.mk (step_start w ⟨ki, fr, to_, st, ep, cy, dn, fa⟩)
  simp only at S0
  have HC := Keep.mk h
  have HE := Keep.mk he
  have HB0 := Keep.mk hB
  have hl4 := checkAll_len he
  clear hc h he hB
  go_enter_defers Try.func22, Try.ntmps22
  go_upto_region 4 with (first
    | (go_at_call 17; (with_reducible refine (HCK _).mono ?_); rintro en w1 ⟨rfl, hB⟩; have S1 := Keep.mk (And.intro (S0.out.1.step hB) (And.intro (S0.out.2.1.step hB) (And.intro (S0.out.2.2.1.step hB) (And.intro (S0.out.2.2.2.step hB) hB)))); clear hB)
    | (go_at_call 40; (with_reducible refine (sw_ok_ok _).mono ?_); rintro en w' ⟨rfl, hw⟩; subst w')
    | (go_at_call 32; (with_reducible refine (sw_checked_at w _ S1.out.1.bel A c B l HE.out hl4 HB0.out HC.out).mono ?_); rintro en w2 ⟨A1, c1, m, rfl, hm, hO, hO2, hB⟩; have SS := row_start (p := ⟨ki, fr, to_, st, ep, cy, dn, fa⟩) (Nat.le_trans (w4_size w ⟨ki, fr, to_, st, ep, cy, dn, fa⟩) S1.out.2.2.2.2.size) (S1.out.1.step hB) (And.intro (S1.out.2.1.step hB) (And.intro (S1.out.2.2.1.step hB) (S1.out.2.2.2.1.step hB))) hO hO2 l.length (by rw [← hm, List.length_map]); have HM := Keep.mk hm; have m0 := S1.out.2.2.1.step hB; have m8 := m0.frozen 0; have m1 := m0.cell 0 _ rfl; clear m0; have SS := Keep.mk SS; clear hB hO hO2 hm))
  (try simp only at SS)
  have HML := Keep.mk (show l.length = m.length by rw [← HM.out, List.length_map])
  generalize w2.setCell ⟨w.heap.size + 1 + 1, 0, none⟩ (.slice A1 l.length c1) = w3 at SS ⊢
  clear m8 m1 S1 S0 HC HE HB0 HCK
  have HS := Keep.mk (show StA w w3 A1 c1 ⟨ki, fr, to_, st, ep, cy, dn, fa⟩ m from ⟨SS.out.1, SS.out.2.1, SS.out.2.2.1, SS.out.2.2.2.1, SS.out.2.2.2.2⟩)
  clear SS
  obtain ⟨⟨p0, p1, p2, p3, p4, p5, p6, p7⟩, p8⟩ := HS.out.kp.c8
  (try simp only at p0 p1 p2 p3 p4 p5 p6 p7)
  (try simp only at HT)
  cases dn
  case true =>
    have hr : r = (zP, [], 12) := HT.out.trans (by simp)
    subst hr
    go_wp2_with (first | (go_at_call 34; (with_reducible refine (sw_demand_ok _ _).mono ?_); rintro e w' ⟨rfl, hw⟩; subst w') | (go_at_call 34; (with_reducible refine (sw_demand_no _ _).mono ?_); rintro e w' ⟨rfl, hw⟩; subst w'))
    exact abort_door w _ _ rfl rfl rfl HS.out.kq HS.out.km HS.out.ke 12
  cases fa
  case true =>
    have hr : r = (zP, [], 12) := HT.out.trans (by simp)
    subst hr
    go_wp2_with (first | (go_at_call 34; (with_reducible refine (sw_demand_ok _ _).mono ?_); rintro e w' ⟨rfl, hw⟩; subst w') | (go_at_call 34; (with_reducible refine (sw_demand_no _ _).mono ?_); rintro e w' ⟨rfl, hw⟩; subst w'))
    exact abort_door w _ _ rfl rfl rfl HS.out.kq HS.out.km HS.out.ke 12
  cases g : decide (st ≤ 3)
  case false =>
    have hr : r = (zP, [], 12) := HT.out.trans (by simp [g])
    subst hr
    go_wp2_with (first | (go_at_call 34; (with_reducible refine (sw_demand_ok _ _).mono ?_); rintro e w' ⟨rfl, hw⟩; subst w') | (go_at_call 34; (with_reducible refine (sw_demand_no _ _).mono ?_); rintro e w' ⟨rfl, hw⟩; subst w'))
    exact abort_door w _ _ rfl rfl rfl HS.out.kq HS.out.km HS.out.ke 12
  have hr : r = (⟨ki, fr, to_, st, ep, cy, false, true⟩, l, 0) := HT.out.trans (by simp [g])
  subst hr
  go_wp2_with (first | (go_at_call 34; (with_reducible refine (sw_demand_ok _ _).mono ?_); rintro e w' ⟨rfl, hw⟩; subst w') | (go_at_call 34; (with_reducible refine (sw_demand_no _ _).mono ?_); rintro e w' ⟨rfl, hw⟩; subst w'))
  have hS : StA w (w3.setCell ⟨w.heap.size, 7, none⟩ (.bool true)) A1 c1 ⟨ki, fr, to_, st, ep, cy, false, true⟩ m :=
    ⟨HS.out.kp.set 7 (.bool true), HS.out.kq.setOther (Nat.le_refl _) (by omega) _, HS.out.km.setOther (Nat.le_refl _) (by omega) _, HS.out.ke.setOther (Nat.le_refl _) (by omega) _, HS.out.row.oth HS.out.kp.toE (by decide) (by omega) (grown_set _ _ _ _)⟩
  generalize w3.setCell ⟨w.heap.size, 7, none⟩ (.bool true) = W9 at hS ⊢
  have HS9 := Keep.mk hS
  clear p0 p1 p2 p3 p4 p5 p6 p7 p8
  obtain ⟨⟨p0, p1, p2, p3, p4, p5, p6, p7⟩, p8⟩ := HS9.out.kp.c8
  obtain ⟨⟨q0, q1, q2, q3, q4, q5, q6, q7⟩, q8⟩ := HS9.out.kq.c8
  have m0 : W9.cell? ⟨w.heap.size + 1 + 1, 0, none⟩ = some (.slice A1 m.length c1) := HS9.out.km.cell 0 _ rfl
  rw [← HML.out] at m0
  have m8 : ∀ j, W9.frozen? ⟨w.heap.size + 1 + 1, j, none⟩ = false := HS9.out.km.frozen
  have e0 : W9.cell? ⟨w.heap.size + 1 + 1 + 1, 0, none⟩ = some (.int .i64 0) := HS9.out.ke.cell 0 _ rfl
  have e8 : ∀ j, W9.frozen? ⟨w.heap.size + 1 + 1 + 1, j, none⟩ = false := HS9.out.ke.frozen
  clear hS
  go_region
  go_wp2_with fail
  have hE := abort_end HS9.out HML.out
  exact abort_door_ok w _ _ rfl rfl rfl ⟨ki, fr, to_, st, ep, cy, false, true⟩ _ _ _ _ HM.out 0 hE.1 hE.2.1 hE.2.2.1 hE.2.2.2
theorem sw_Abort (w : World) (p : Proc) (A : Option Addr) (c B : Nat) (l : List Site) (hB : ∀ x, x ∈ l → x.li.length ≤ B) (h : SitesAt B w A c l) :
    Calls Try.prog 22 #[.agg #[.int .i64 p.ki, .int .i64 p.fr, .int .i64 p.to_, .int .i64 p.st, .int .i64 p.ep, .int .i64 p.cy, .bool p.dn, .bool p.fa], .slice A l.length c] w (StepRes w (abortS p l)) := by
  rcases checkP_two p with hc | hc
  · by_cases he : (checkAllS l).2 = 0
    · exact sw_Abort_go w p A c B l hc he hB h
    · have hr : abortS p l = (zP, [], (checkAllS l).2) := by unfold abortS; rw [if_neg (not_not_intro hc), if_pos he]
      rw [hr]
      exact sw_Abort_no2 w p A c B l _ hc rfl (by simpa using he) hB h
  · have hr : abortS p l = (zP, [], 3) := by unfold abortS; rw [if_pos (by omega)]
    rw [hr]
    exact sw_Abort_no1 w p A c _ hc
end Go.Proofs.Ytijhkgabonkmfaa
