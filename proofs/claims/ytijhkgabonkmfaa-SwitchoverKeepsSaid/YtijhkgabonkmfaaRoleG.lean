/- Contracts: Same of equal sites, few, slices.Equal of lineages. -/
import Derived.Test.YtijhkgabonkmfaaRefE
namespace Go.Proofs.Ytijhkgabonkmfaa
open Go.RowKit
set_option linter.unusedSimpArgs false
set_option linter.unusedVariables false
set_option maxHeartbeats 1000000 in
theorem ref_Same (w : World) (s : Site) (A B : Option Addr) (c d : Nat) (h : SpansAt w A c s.li) (h' : SpansAt w B d s.li) :
    Calls Try.prog 27 #[.agg #[.int .i64 s.nu, .int .i64 s.ro, .int .i64 s.ep, .int .i64 s.ap, .slice A s.li.length c, .int .i64 s.so, .bool s.al, .bool s.co], .agg #[.int .i64 s.nu, .int .i64 s.ro, .int .i64 s.ep, .int .i64 s.ap, .slice B s.li.length d, .int .i64 s.so, .bool s.al, .bool s.co]] w fun e w' => e = .returned (.bool true) ∧ Below w.heap.size w w' := by
  have HC := Keep.mk h
  have HD := Keep.mk h'
  have hs := (sameL_iff s.li s.li).2 rfl
  clear h h'
  go_enter Try.func27, Try.ntmps27
  go_wp2_with (go_at_call 26; refine (ref_SameLineage _ _ _ _ _ _ _ ((HC.out.alloc _).alloc _) ((HD.out.alloc _).alloc _)).mono ?_; rintro e w1 ⟨rfl, hb⟩; obtain ⟨hcl, hfz⟩ := bcell hb; have HB := Keep.mk (below_then (below_new (below_new (Below.refl w.heap.size w) _) _) hb); clear hb)
  go_ret
  exact ⟨rfl, HB.out⟩
set_option maxHeartbeats 1000000 in
theorem equal_spans (w : World) (A B : Option Addr) (c d : Nat) (l m : List Span) (h : SpansAt w A c l) (h' : SpansAt w B d m) :
    Calls Try.prog 77 #[.slice A l.length c, .slice B m.length d] w fun e w' => e = .returned (.bool (sameL l m)) ∧ Below w.heap.size w w' := by
  have hl := h.len
  have hm := h'.len
  have HC := Keep.mk h
  have HD := Keep.mk h'
  clear h h'
  by_cases h0 : l.length = m.length
  · have h1 : ((l.length : Int) != (m.length : Int)) = false := by simp [h0]
    go_enter Try.func77, Try.ntmps77
    have H0 := Keep.mk h0
    clear h0
    go_wp2_with fail
    go_loopg [13] l.length (fun g i wr => ∃ k : Nat, g = l.length - k ∧ k ≤ l.length ∧ i = .int .i64 k ∧ Keep (sameL l m = sameL (l.drop k) (m.drop k)) ∧ Keep (Below w.heap.size w wr))
    case atStart => exact ⟨0, by omega, by omega, rfl, ⟨rfl⟩, ⟨Below.refl _ _⟩⟩
    case round =>
      obtain ⟨k, rfl, hk, rfl, H3, H8⟩ := hrel
      by_cases hlt : k < l.length
      · have hlt' : (k : Int) < (l.length : Int) := by omega
        have hltm : (k : Int) < (m.length : Int) := by have := H0.out; omega
        have hltn : k < m.length := by omega
        obtain ⟨b, o, hA, hb, c0, c1, c2⟩ := HC.out.at_ k hlt
        obtain ⟨b', o', hA', hb', d0, d1, d2⟩ := HD.out.at_ k hltn
        subst hA hA'
        rw [← H8.out.cell (p := ⟨b, _, none⟩) hb] at c0 c1 c2
        rw [← H8.out.cell (p := ⟨b', _, none⟩) hb'] at d0 d1 d2
        have hx := Keep.mk (drop_getD hlt rfl)
        have hy := Keep.mk (drop_getD hltn rfl)
        generalize l.getD k Span.z = x at c0 c1 c2 hx
        generalize m.getD k Span.z = y at d0 d1 d2 hy
        have HE := fun w => neq_span w x y
        cases hs : spanEq x y
        · rw [hs] at HE
          simp only [Bool.not_false] at HE
          have hs := Keep.mk hs
          go_wp2_with fail
          go_quiet (fail)
          go_wp2
          go_ret
          exact ⟨ret_bool (by rw [H3.out, hx.out, hy.out, sameL, hs.out]; rfl), (by repeat' (first | exact H8.out | (apply below_new) | (refine below_drewN ?_ _) | (refine below_drew ?_) | (refine below_set ?_ (by first | exact Nat.le_refl _ | omega | (simp; done) | (simp; omega)) _)))⟩
        · rw [hs] at HE
          simp only [Bool.not_true] at HE
          have hs := Keep.mk hs
          go_wp2_with fail
          go_quiet (fail)
          go_wp2
          go_roundg (l.length - (k + 1))
          case measure => omega
          case rel => exact ⟨k + 1, rfl, by omega, by go_num, ⟨by rw [H3.out, hx.out, hy.out, sameL, hs.out]; rfl⟩, ⟨(by repeat' (first | exact H8.out | (apply below_new) | (refine below_drewN ?_ _) | (refine below_drew ?_) | (refine below_set ?_ (by first | exact Nat.le_refl _ | omega | (simp; done) | (simp; omega)) _)))⟩⟩
      · have : k = l.length := by omega
        subst this
        go_wp2
        go_ret
        exact ⟨ret_bool (by rw [H3.out, List.drop_length, H0.out, List.drop_length]; rfl), H8.out⟩
  · have h1 : ((l.length : Int) != (m.length : Int)) = true := by simp; omega
    rw [sameL_len h0]
    clear h0
    go_enter Try.func77, Try.ntmps77
    go_wp2
    go_ret
    exact ⟨rfl, Below.refl _ _⟩
end Go.Proofs.Ytijhkgabonkmfaa
