/- Contract: the reference's CheckAll. -/
import Derived.Test.YtijhkgabonkmfaaRoleO
namespace Go.Proofs.Ytijhkgabonkmfaa
open Go.RowKit
set_option linter.unusedSimpArgs false
set_option linter.unusedVariables false
def g2S (s x : Site) : Bool := x.ro == 1 && s.ro == 1 && x.ep == s.ep
theorem any_g2 (p : List Site) (s : Site) : p.any (g2S s) = ((s.ro == 1) && p.any (fun x => x.ro == s.ro && x.ep == s.ep)) := by
  cases h : (s.ro == 1)
  · simp only [Bool.false_and, List.any_eq_false]
    intro x _
    simp [g2S, h]
  · simp only [Bool.true_and]
    have h' : s.ro = 1 := by simpa using h
    congr 1
    funext x
    simp [g2S, h']
theorem any_drop_no {p : List Site} {j : Nat} (h : j < p.length) (f : Site → Bool) (hf : f (p.getD j zS) = false) : (p.drop j).any f = (p.drop (j + 1)).any f := by
  rw [drop_consS p j h, List.any_cons, hf, Bool.false_or]
theorem any_drop_yes {p : List Site} {j : Nat} (h : j < p.length) (f : Site → Bool) (hf : f (p.getD j zS) = true) : (p.drop j).any f = true := by
  rw [drop_consS p j h, List.any_cons, hf, Bool.true_or]
theorem caStep_8 {p : List Site} {s : Site} (h0 : checkS s = 0) (h : p.any (fun x => x.nu == s.nu) = true) : caStep p s = 8 := by
  unfold caStep; rw [if_neg (not_not_intro h0), if_pos h]
theorem caStep_19 {p : List Site} {s : Site} (h0 : checkS s = 0) (h : p.any (fun x => x.nu == s.nu) = false) (h2 : p.any (g2S s) = true) : caStep p s = 19 := by
  unfold caStep; rw [if_neg (not_not_intro h0), if_neg (by simp [h]), if_pos (by rw [← any_g2]; exact h2)]
theorem caStep_0 {p : List Site} {s : Site} (h0 : checkS s = 0) (h : p.any (fun x => x.nu == s.nu) = false) (h2 : p.any (g2S s) = false) : caStep p s = 0 := by
  unfold caStep; rw [if_neg (not_not_intro h0), if_neg (by simp [h]), if_neg (by rw [← any_g2]; simp [h2])]
theorem caStep_c {p : List Site} {s : Site} (h0 : checkS s ≠ 0) : caStep p s = checkS s := by
  unfold caStep; rw [if_pos h0]
set_option maxRecDepth 100000 in
set_option maxHeartbeats 4000000 in
theorem ref_CheckAll (w : World) (A : Option Addr) (c B : Nat) (l : List Site) (hB : ∀ x, x ∈ l → x.li.length ≤ B) (h : SitesAt B w A c l) :
    Calls Try.prog 35 #[.slice A l.length c] w fun e w' => e = .returned (.tuple #[.int .i64 (checkAllS l).1, .int .i64 (checkAllS l).2]) ∧ Below w.heap.size w w' := by
  have HC := Keep.mk h
  have HB0 := Keep.mk hB
  have hcap := h.1
  clear h hB
  by_cases h4 : 4 < l.length
  · have hv : checkAllS l = (0, 6) := by unfold checkAllS; rw [if_pos (by omega)]
    rw [hv]
    have h4' : decide (4 < (l.length : Int)) = true := by simp; omega
    clear hv h4
    go_enter Try.func35, Try.ntmps35
    go_wp2
    go_ret2
    exact ⟨rfl, Below.refl _ _⟩
  · have hv : checkAllS l = caGo (l.take 0) (l.drop 0) := by unfold checkAllS; rw [if_neg (by omega)]; simp
    have h4' : decide (4 < (l.length : Int)) = false := by simp; omega
    generalize checkAllS l = r at hv
    have HV := Keep.mk hv
    clear hv
    go_enter Try.func35, Try.ntmps35
    go_wp2_with fail
    go_loopg [4] l.length (fun g i wr => ∃ k : Nat, g = l.length - k ∧ k ≤ l.length ∧ i = .int .i64 k ∧ Keep (r = caGo (l.take k) (l.drop k)) ∧ Keep (Below w.heap.size w wr))
    case atStart => exact ⟨0, by omega, by omega, rfl, HV, ⟨Below.refl _ _⟩⟩
    case round =>
      obtain ⟨k, rfl, hk, rfl, H3, H8⟩ := hrel
      obtain ⟨wo, rfl⟩ : ∃ wo : World, wo = wr := ⟨_, rfl⟩
      by_cases hk2 : k < l.length
      · have hk3 : (k : Int) < (l.length : Int) := by omega
        obtain ⟨b, o, A', c', hA, hb, c0, c1, c2, c3, c4, c5, c6, c7, c8⟩ := (HC.out.below H8.out).at_ k hk2
        subst hA
        have hmem : l.getD k zS ∈ l := by rw [List.getD_eq_getElem?_getD, List.getElem?_eq_getElem hk2]; exact List.getElem_mem hk2
        have HS := Keep.mk (c8 (HB0.out _ hmem))
        have hstop := fun e he h0 => H3.out.trans (caGo_stop l k hk2 e he h0)
        have hgo := fun he => H3.out.trans (caGo_go l k hk2 he)
        clear c8 hmem
        generalize l.getD k zS = s at c0 c1 c2 c3 c4 c5 c6 c7 hstop hgo HS
        have HSTOP := Keep.mk hstop
        have HGO := Keep.mk hgo
        clear hstop hgo H3
        by_cases h0 : checkS s = 0
        · have e1 : (checkS s != 0) = false := by simp [h0]
          have H0 := Keep.mk h0
          clear h0
          go_wp2_with (go_at_call 54; (with_reducible refine (ref_Check _ s A' c' HS.out).mono ?_); rintro e w1 ⟨rfl, hB⟩; have HB1 := Keep.mk (below_then H8.out hB); have HLT := Keep.mk (Nat.lt_of_lt_of_le hb hB.size); rw [← hB.cell (p := ⟨b, _, none⟩) hb] at c0 c1 c2; clear hB c3 c4 c5 c6 c7)
          go_loopg [6] k (fun g i wr => ∃ j : Nat, g = k - j ∧ j ≤ k ∧ i = .int .i64 j ∧ Keep ((l.take k).any (fun x => x.nu == s.nu) = ((l.take k).drop j).any (fun x => x.nu == s.nu)) ∧ Keep (Below w.heap.size w wr ∧ Below w1.heap.size w1 wr))
          case atStart => exact ⟨0, by omega, by omega, rfl, ⟨rfl⟩, ⟨HB1.out, Below.refl _ _⟩⟩
          case round =>
            obtain ⟨j, rfl, hj, rfl, H5, H9⟩ := hrel
            obtain ⟨wi, rfl⟩ : ∃ wi : World, wi = wr := ⟨_, rfl⟩
            rw [← H9.out.2.cell (p := ⟨b, _, none⟩) HLT.out] at c0 c1 c2
            by_cases hj2 : j < k
            · obtain ⟨b', o', A2, c2', hA, -, d0, d1, d2, -, -, -, -, -, -⟩ := (HC.out.below H9.out.1).at_ j (by omega)
              injection hA with hA
              injection hA with q1 q2
              subst q1 q2
              have HX := Keep.mk (show (l.take k).getD j zS = l.getD j zS from getD_take l zS hj2)
              have HTL := Keep.mk (show j < (l.take k).length by rw [List.length_take]; omega)
              generalize l.getD j zS = x at d0 d1 d2 HX
              have hjk : (j : Int) < (k : Int) := by omega
              have hjl : (j : Int) < (l.length : Int) := by omega
              have hjk' : decide ((j : Int) < (k : Int)) = true := by simp; omega
              cases hq : (x.nu == s.nu)
              · go_wp2_with fail
                go_quiet (fail)
                go_wp2
                go_roundg (k - (j + 1))
                case measure => omega
                case rel => exact ⟨j + 1, rfl, by omega, by go_num, ⟨H5.out.trans (any_drop_no HTL.out _ (by rw [HX.out]; exact hq))⟩, ⟨below_drewN H9.out.1 _, below_drewN H9.out.2 _⟩⟩
              · go_wp2_with fail
                go_quiet (fail)
                go_wp2
                go_ret2
                exact ⟨by rw [HSTOP.out 8 (caStep_8 H0.out (H5.out.trans (any_drop_yes HTL.out _ (by rw [HX.out]; exact hq)))) (by decide)]; rfl, below_drewN H9.out.1 _⟩
            · have : j = k := by omega
              subst this
              have hend : (l.take j).any (fun x => x.nu == s.nu) = false := by rw [H5.out, List.drop_of_length_le (by rw [List.length_take]; omega)]; rfl
              have HEND1 := Keep.mk hend
              clear hend H5
              go_wp2_with fail
              have HLT2 := Keep.mk (show b < wi.heap.size from World.block_lt_of_cell? _ _ c0)
              have HBJ := Keep.mk H9.out.1
              clear H9 HLT
              obtain ⟨w3, rfl⟩ : ∃ w3 : World, w3 = wi := ⟨_, rfl⟩
              go_loopg [7] j (fun g i wr => ∃ j2 : Nat, g = j - j2 ∧ j2 ≤ j ∧ i = .int .i64 j2 ∧ Keep ((l.take j).any (g2S s) = ((l.take j).drop j2).any (g2S s)) ∧ Keep (Below w.heap.size w wr ∧ Below w3.heap.size w3 wr))
              case atStart => exact ⟨0, by omega, by omega, rfl, ⟨rfl⟩, ⟨HBJ.out, Below.refl _ _⟩⟩
              case round =>
                obtain ⟨j2, rfl, hj, rfl, H5, H9⟩ := hrel
                obtain ⟨wi, rfl⟩ : ∃ wi : World, wi = wr := ⟨_, rfl⟩
                rw [← H9.out.2.cell (p := ⟨b, _, none⟩) HLT2.out] at c0 c1 c2
                by_cases hj2 : j2 < j
                · obtain ⟨b', o', A2, c2', hA, -, d0, d1, d2, -, -, -, -, -, -⟩ := (HC.out.below H9.out.1).at_ j2 (by omega)
                  injection hA with hA
                  injection hA with q1 q2
                  subst q1 q2
                  have HX := Keep.mk (show (l.take j).getD j2 zS = l.getD j2 zS from getD_take l zS hj2)
                  have HTL := Keep.mk (show j2 < (l.take j).length by rw [List.length_take]; omega)
                  generalize l.getD j2 zS = x at d0 d1 d2 HX
                  have hjk : (j2 : Int) < (j : Int) := by omega
                  have hjl : (j2 : Int) < (l.length : Int) := by omega
                  have hjk' : decide ((j2 : Int) < (j : Int)) = true := by simp; omega
                  have ways : ((x.ro == 1) = false ∧ g2S s x = false) ∨ ((x.ro == 1) = true ∧ (s.ro == 1) = false ∧ g2S s x = false) ∨ ((x.ro == 1) = true ∧ (s.ro == 1) = true ∧ (x.ep == s.ep) = false ∧ g2S s x = false) ∨ ((x.ro == 1) = true ∧ (s.ro == 1) = true ∧ (x.ep == s.ep) = true ∧ g2S s x = true) := by
                    unfold g2S
                    cases (x.ro == 1) <;> cases (s.ro == 1) <;> cases (x.ep == s.ep) <;> simp
                  rcases ways with ⟨q1, hq⟩ | ⟨q1, q2, hq⟩ | ⟨q1, q2, q3, hq⟩ | ⟨q1, q2, q3, hq⟩
                  all_goals
                    have HQ := Keep.mk hq
                    clear hq
                    go_wp2_with fail
                    go_quiet (fail)
                    go_wp2
                    first
                    | (go_ret2; exact ⟨by rw [HSTOP.out 19 (caStep_19 H0.out HEND1.out (H5.out.trans (any_drop_yes HTL.out _ (by rw [HX.out]; exact HQ.out)))) (by decide)]; rfl, below_drewN H9.out.1 _⟩)
                    | (go_roundg (j - (j2 + 1))
                       case measure => omega
                       case rel => exact ⟨j2 + 1, rfl, by omega, by go_num, ⟨H5.out.trans (any_drop_no HTL.out _ (by rw [HX.out]; exact HQ.out))⟩, ⟨below_drewN H9.out.1 _, below_drewN H9.out.2 _⟩⟩)
                · have : j2 = j := by omega
                  obtain rfl : j2 = j := this
                  have hend : (l.take j2).any (g2S s) = false := by rw [H5.out, List.drop_of_length_le (by rw [List.length_take]; omega)]; rfl
                  have HEND2 := Keep.mk hend
                  clear hend H5
                  go_wp2
                  go_roundg (l.length - (j2 + 1))
                  case measure => omega
                  case rel => exact ⟨j2 + 1, rfl, by omega, by go_num, ⟨HGO.out (caStep_0 H0.out HEND1.out HEND2.out)⟩, ⟨H9.out.1⟩⟩
        · have e1 : (checkS s != 0) = true := by simpa using h0
          have H0 := Keep.mk h0
          clear h0
          go_wp2_with (go_at_call 54; (with_reducible refine (ref_Check _ s A' c' HS.out).mono ?_); rintro e w1 ⟨rfl, hB⟩; have HB1 := Keep.mk (below_then H8.out hB); clear hB)
          go_ret2
          exact ⟨by rw [HSTOP.out _ (caStep_c H0.out) H0.out]; rfl, HB1.out⟩
      · have : k = l.length := by omega
        subst this
        have HE := Keep.mk (H3.out.trans (caGo_end l))
        go_wp2
        go_ret2
        rw [HE.out]
        exact ⟨rfl, H8.out⟩
end Go.Proofs.Ytijhkgabonkmfaa
