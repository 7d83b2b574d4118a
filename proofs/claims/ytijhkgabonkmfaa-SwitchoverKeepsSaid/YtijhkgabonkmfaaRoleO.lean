/- Contract: role.CheckAll. -/
import Derived.Test.YtijhkgabonkmfaaSites
import Derived.Test.YtijhkgabonkmfaaPlainB
namespace Go.Proofs.Ytijhkgabonkmfaa
open Go.RowKit
set_option linter.unusedSimpArgs false
set_option linter.unusedVariables false
set_option maxHeartbeats 4000000 in
theorem role_CheckAll (w : World) (A : Option Addr) (c B : Nat) (l : List Site) (hB : ∀ x, x ∈ l → x.li.length ≤ B) (h : SitesAt B w A c l) :
    Calls Try.prog 25 #[.slice A l.length c] w fun e w' => e = .returned (.tuple #[.int .i64 (checkAllS l).1, .int .i64 (checkAllS l).2]) ∧ Below w.heap.size w w' := by
  have HC := Keep.mk h
  have HB0 := Keep.mk hB
  have hcap := h.1
  clear h hB
  by_cases h4 : 4 < l.length
  · have hv : checkAllS l = (0, 6) := by unfold checkAllS; rw [if_pos (by omega)]
    rw [hv]
    have h4' : decide (4 < (l.length : Int)) = true := by simp; omega
    clear hv h4
    go_enter Try.func25, Try.ntmps25
    go_wp2
    go_ret2
    exact ⟨rfl, Below.refl _ _⟩
  · have hv : checkAllS l = caGo (l.take 0) (l.drop 0) := by unfold checkAllS; rw [if_neg (by omega)]; simp
    have h4' : decide (4 < (l.length : Int)) = false := by simp; omega
    generalize checkAllS l = r at hv
    have HV := Keep.mk hv
    clear hv
    go_enter Try.func25, Try.ntmps25
    go_wp2_with fail
    go_loopg [12] l.length (fun g i wr => ∃ k : Nat, g = l.length - k ∧ k ≤ l.length ∧ i = .int .i64 k ∧ Keep (r = caGo (l.take k) (l.drop k)) ∧ Keep (Below w.heap.size w wr))
    case atStart => exact ⟨0, by omega, by omega, rfl, HV, ⟨Below.refl _ _⟩⟩
    case round =>
      obtain ⟨k, rfl, hk, rfl, H3, H8⟩ := hrel
      by_cases hk2 : k < l.length
      · obtain ⟨b, o, A', c', hA, hb, c0, c1, c2, c3, c4, c5, c6, c7, c8⟩ := (HC.out.below H8.out).at_ k hk2
        subst hA
        have hmem : l.getD k zS ∈ l := by rw [List.getD_eq_getElem?_getD, List.getElem?_eq_getElem hk2]; exact List.getElem_mem hk2
        have HS := Keep.mk (c8 (HB0.out _ hmem))
        have HT := Keep.mk ((HC.out.below H8.out).take k (by omega))
        have HTL := Keep.mk (show k = (l.take k).length by rw [List.length_take]; omega)
        have hstop := fun e he h0 => H3.out.trans (caGo_stop l k hk2 e he h0)
        have hgo := fun he => H3.out.trans (caGo_go l k hk2 he)
        have hways := caStep_ways (l.take k) (l.getD k zS)
        clear c8 hmem
        generalize l.getD k zS = s at c0 c1 c2 c3 c4 c5 c6 c7 hways hstop hgo HS
        have HSTOP := Keep.mk hstop
        have HGO := Keep.mk hgo
        clear hstop hgo H3
        have hkl : (k : Int) ≤ (l.length : Int) := by omega
        rcases hways with ⟨e1, e2, e3⟩ | ⟨e1, e2, e3⟩ | ⟨e1, e2, e4, e3⟩ | ⟨e1, e2, e4, e5, e3⟩ | ⟨e1, e2, e4, e5, e3⟩
        case' inl => have E2 := Keep.mk e2; clear e2
        case' inr.inl => have E2 := Keep.mk e3; have e3 : (8 : Int) ≠ 0 := by decide
        case' inr.inr.inr.inl => have E2 := Keep.mk e3; have e3 : (19 : Int) ≠ 0 := by decide
        all_goals
          have HE := Keep.mk e3
          clear e3
          have hmf : ∀ (fn : Fn) (first cap : Array Value) (w : World), (Instr.makeFunc fn first cap).run Try.prog w = .ok (.func fn first cap) w := fun _ _ _ _ => rfl
          go_wp2_with (first
            | (go_at_call 44; (with_reducible refine (role_Check _ s A' c' (HS.out.alloc _)).mono ?_); rintro e w1 ⟨rfl, hB⟩; have K := (Held.new H8.out [.int .i64 s.nu, .int .i64 s.ro, .int .i64 s.ep, .int .i64 s.ap, .slice A' s.li.length c', .int .i64 s.so, .bool s.al, .bool s.co] 57).step hB; have KT := HT.out.below (below_then (below_new (Below.refl wr.heap.size wr) (.cells #[.int .i64 s.nu, .int .i64 s.ro, .int .i64 s.ep, .int .i64 s.ap, .slice A' s.li.length c', .int .i64 s.so, .bool s.al, .bool s.co] 57)) hB); obtain ⟨⟨p0, p1, p2, p3, p4, p5, p6, p7⟩, p8⟩ := K.c8; have hlt := K.lt; have KK := Keep.mk (And.intro K KT); clear hB K KT)
            | (go_at_call 45; (with_reducible refine (contains_num _ _ c k B (l.take k) HTL.out KK.out.2 wr.heap.size s.nu p0).mono ?_); rintro e w2 ⟨rfl, hB⟩; have K := KK.out.1.step hB; have KT := KK.out.2.below hB; clear p0 p1 p2 p3 p4 p5 p6 p7 p8 hlt KK; obtain ⟨⟨p0, p1, p2, p3, p4, p5, p6, p7⟩, p8⟩ := K.c8; have hlt := K.lt; have KK := Keep.mk (And.intro K KT); clear hB K KT)
            | (go_at_call 45; (with_reducible refine (contains_split _ _ c k B (l.take k) HTL.out KK.out.2 wr.heap.size s.ro s.ep p1 p2).mono ?_); rintro e w2 ⟨rfl, hB⟩; have K := KK.out.1.step hB; have KT := KK.out.2.below hB; clear p0 p1 p2 p3 p4 p5 p6 p7 p8 hlt KK; obtain ⟨⟨p0, p1, p2, p3, p4, p5, p6, p7⟩, p8⟩ := K.c8; have hlt := K.lt; have KK := Keep.mk (And.intro K KT); clear hB K KT))
          first
          | (go_ret2; exact ⟨by rw [HSTOP.out _ E2.out HE.out]; rfl, KK.out.1.bel⟩)
          | (go_roundg (l.length - (k + 1))
             case measure => omega
             case rel => exact ⟨k + 1, rfl, by omega, by go_num, ⟨HGO.out HE.out⟩, ⟨KK.out.1.bel⟩⟩)
      · have : k = l.length := by omega
        subst this
        have HE := Keep.mk (H3.out.trans (caGo_end l))
        go_wp2
        go_ret2
        rw [HE.out]
        exact ⟨rfl, H8.out⟩
end Go.Proofs.Ytijhkgabonkmfaa
