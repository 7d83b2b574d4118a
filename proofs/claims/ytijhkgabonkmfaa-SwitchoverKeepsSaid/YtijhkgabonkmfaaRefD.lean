/- Contracts: the reference's Demote, Isolate, Rejoin. -/
import Derived.Test.YtijhkgabonkmfaaRefC
namespace Go.Proofs.Ytijhkgabonkmfaa
open Go.RowKit
set_option linter.unusedSimpArgs false
set_option linter.unusedVariables false
theorem demote_err (s : Site) (ep src : Int) (k : Int) (h1 : checkS s = 0) (h2 : ((s.ro == 1) = false ∧ k = 18) ∨ ((s.ro == 1) = true ∧ ep < s.ep ∧ k = 13) ∨ ((s.ro == 1) = true ∧ ¬ ep < s.ep ∧ 1073741824 < ep ∧ k = 2) ∨ ((s.ro == 1) = true ∧ ¬ ep < s.ep ∧ ¬ 1073741824 < ep ∧ okD s src = false ∧ k = 1)) : demoteS s ep src = (zS, k) := by
  unfold demoteS
  rw [if_neg (not_not_intro h1)]
  rcases h2 with ⟨a, rfl⟩ | ⟨a, b, rfl⟩ | ⟨a, b, c, rfl⟩ | ⟨a, b, c, d, rfl⟩
  · rw [if_pos a]
  · rw [if_neg (by simp [a]), if_pos (by omega)]
  · rw [if_neg (by simp [a]), if_neg (by omega), if_pos (by omega)]
  · rw [if_neg (by simp [a]), if_neg (by omega), if_neg (by omega), if_pos d]
theorem demote_ok (s : Site) (ep src : Int) (r : Int) (h1 : checkS s = 0) (a : (s.ro == 1) = true) (b : ¬ ep < s.ep) (c : ¬ 1073741824 < ep) (d : okD s src = true) (hr : (if src = -1 then (5 : Int) else 2) = r) : demoteS s ep src = ({ s with ro := r, ep := ep, so := src }, 0) := by
  unfold demoteS
  rw [if_neg (not_not_intro h1), if_neg (by simp [a]), if_neg (by omega), if_neg (by omega), if_neg (by simp [d]), hr]
set_option maxHeartbeats 2000000 in
theorem ref_Demote (w : World) (s : Site) (A : Option Addr) (c : Nat) (ep src : Int) (h : SpansAt w A c s.li) :
    Calls Try.prog 60 #[.agg #[.int .i64 s.nu, .int .i64 s.ro, .int .i64 s.ep, .int .i64 s.ap, .slice A s.li.length c, .int .i64 s.so, .bool s.al, .bool s.co], .int .i64 ep, .int .i64 src] w (SiteRes w.heap.size w (demoteS s ep src)) := by
  have HC := Keep.mk h
  have hl := h.len
  clear h
  by_cases h1 : checkS s = 0
  · have h1' : (checkS s != 0) = false := by simp [h1]
    cases h2 : (s.ro == 1)
    · rw [demote_err s ep src 18 h1 (.inl ⟨h2, rfl⟩)]
      have g2 : (s.ro != 1) = true := by simp only [bne, h2, Bool.not_false]
      clear h1 h2
      go_enter Try.func60, Try.ntmps60
      go_wp2_with (first
      | (go_at_call 54; refine (ref_Check _ s _ _ ((HC.out.alloc _).alloc _)).mono ?_; rintro e w1 ⟨rfl, hB⟩; have K0 := ((Held.new (Below.refl w.heap.size w) [.int .i64 s.nu, .int .i64 s.ro, .int .i64 s.ep, .int .i64 s.ap, .slice A s.li.length c, .int .i64 s.so, .bool s.al, .bool s.co] 57).alloc (.cells #[.int .i64 0, .int .i64 0, .int .i64 0, .int .i64 0, .slice none 0 0, .int .i64 0, .bool false, .bool false] 57)).step hB; have K1 := (Held.new1 w _ [.int .i64 0, .int .i64 0, .int .i64 0, .int .i64 0, .slice none 0 0, .int .i64 0, .bool false, .bool false] 57).step hB; clear hB; obtain ⟨⟨p0, p1, p2, p3, p4, p5, p6, p7⟩, p8⟩ := K0.c8; obtain ⟨⟨q0, q1, q2, q3, q4, q5, q6, q7⟩, q8⟩ := K1.c8; have hlt0 := K0.lt; have hlt1 := K1.lt; have KK := Keep.mk (And.intro K0 K1); clear K0 K1)
      | (go_at_call 72; refine (ref_site _ _).mono ?_; rintro e w' ⟨rfl, rfl⟩)
      | (go_at_call 80; refine (ref_Copy _ s _ _ (HC.out.below KK.out.1.bel)).mono ?_; rintro e w2 ⟨A2, c2, rfl, hO, hB⟩; have HO := Keep.mk (hO.mono KK.out.1.bel.size); have K0 := KK.out.1.step hB; have K1 := KK.out.2.step hB; clear hO hB KK p0 p1 p2 p3 p4 p5 p6 p7 p8 q0 q1 q2 q3 q4 q5 q6 q7 q8; obtain ⟨⟨p0, p1, p2, p3, p4, p5, p6, p7⟩, p8⟩ := K0.c8; obtain ⟨⟨q0, q1, q2, q3, q4, q5, q6, q7⟩, q8⟩ := K1.c8; have hlt0 := K0.lt; have hlt1 := K1.lt; have KK := Keep.mk (And.intro K0 K1); clear K0 K1))
      exact bodyPost_ret (results_row_tmp rfl _ _ (w.heap.size + 1) 57 _ _ rfl (site_stored KK.out.2 zS none 0 (OwnSp.nil _ w.heap.size)).1.blk Try.underlying57 rfl (by kernel_rfl)) rfl ⟨none, 0, rfl, (site_stored KK.out.2 zS none 0 (OwnSp.nil _ w.heap.size)).2, (site_stored KK.out.2 zS none 0 (OwnSp.nil _ w.heap.size)).1.bel⟩
    have g2 : (s.ro != 1) = false := by simp only [bne, h2, Bool.not_true]
    by_cases h3 : ep < s.ep
    · rw [demote_err s ep src 13 h1 (.inr (.inl ⟨h2, h3, rfl⟩))]
      have g3 : decide (ep < s.ep) = true := by simp [h3]
      clear h1 h2 h3
      go_enter Try.func60, Try.ntmps60
      go_wp2_with (first
      | (go_at_call 54; refine (ref_Check _ s _ _ ((HC.out.alloc _).alloc _)).mono ?_; rintro e w1 ⟨rfl, hB⟩; have K0 := ((Held.new (Below.refl w.heap.size w) [.int .i64 s.nu, .int .i64 s.ro, .int .i64 s.ep, .int .i64 s.ap, .slice A s.li.length c, .int .i64 s.so, .bool s.al, .bool s.co] 57).alloc (.cells #[.int .i64 0, .int .i64 0, .int .i64 0, .int .i64 0, .slice none 0 0, .int .i64 0, .bool false, .bool false] 57)).step hB; have K1 := (Held.new1 w _ [.int .i64 0, .int .i64 0, .int .i64 0, .int .i64 0, .slice none 0 0, .int .i64 0, .bool false, .bool false] 57).step hB; clear hB; obtain ⟨⟨p0, p1, p2, p3, p4, p5, p6, p7⟩, p8⟩ := K0.c8; obtain ⟨⟨q0, q1, q2, q3, q4, q5, q6, q7⟩, q8⟩ := K1.c8; have hlt0 := K0.lt; have hlt1 := K1.lt; have KK := Keep.mk (And.intro K0 K1); clear K0 K1)
      | (go_at_call 72; refine (ref_site _ _).mono ?_; rintro e w' ⟨rfl, rfl⟩)
      | (go_at_call 80; refine (ref_Copy _ s _ _ (HC.out.below KK.out.1.bel)).mono ?_; rintro e w2 ⟨A2, c2, rfl, hO, hB⟩; have HO := Keep.mk (hO.mono KK.out.1.bel.size); have K0 := KK.out.1.step hB; have K1 := KK.out.2.step hB; clear hO hB KK p0 p1 p2 p3 p4 p5 p6 p7 p8 q0 q1 q2 q3 q4 q5 q6 q7 q8; obtain ⟨⟨p0, p1, p2, p3, p4, p5, p6, p7⟩, p8⟩ := K0.c8; obtain ⟨⟨q0, q1, q2, q3, q4, q5, q6, q7⟩, q8⟩ := K1.c8; have hlt0 := K0.lt; have hlt1 := K1.lt; have KK := Keep.mk (And.intro K0 K1); clear K0 K1))
      exact bodyPost_ret (results_row_tmp rfl _ _ (w.heap.size + 1) 57 _ _ rfl (site_stored KK.out.2 zS none 0 (OwnSp.nil _ w.heap.size)).1.blk Try.underlying57 rfl (by kernel_rfl)) rfl ⟨none, 0, rfl, (site_stored KK.out.2 zS none 0 (OwnSp.nil _ w.heap.size)).2, (site_stored KK.out.2 zS none 0 (OwnSp.nil _ w.heap.size)).1.bel⟩
    have g3 : decide (ep < s.ep) = false := by simp [h3]
    by_cases h4 : 1073741824 < ep
    · rw [demote_err s ep src 2 h1 (.inr (.inr (.inl ⟨h2, h3, h4, rfl⟩)))]
      have g4 : decide (1073741824 < ep) = true := by simp [h4]
      clear h1 h2 h3 h4
      go_enter Try.func60, Try.ntmps60
      go_wp2_with (first
      | (go_at_call 54; refine (ref_Check _ s _ _ ((HC.out.alloc _).alloc _)).mono ?_; rintro e w1 ⟨rfl, hB⟩; have K0 := ((Held.new (Below.refl w.heap.size w) [.int .i64 s.nu, .int .i64 s.ro, .int .i64 s.ep, .int .i64 s.ap, .slice A s.li.length c, .int .i64 s.so, .bool s.al, .bool s.co] 57).alloc (.cells #[.int .i64 0, .int .i64 0, .int .i64 0, .int .i64 0, .slice none 0 0, .int .i64 0, .bool false, .bool false] 57)).step hB; have K1 := (Held.new1 w _ [.int .i64 0, .int .i64 0, .int .i64 0, .int .i64 0, .slice none 0 0, .int .i64 0, .bool false, .bool false] 57).step hB; clear hB; obtain ⟨⟨p0, p1, p2, p3, p4, p5, p6, p7⟩, p8⟩ := K0.c8; obtain ⟨⟨q0, q1, q2, q3, q4, q5, q6, q7⟩, q8⟩ := K1.c8; have hlt0 := K0.lt; have hlt1 := K1.lt; have KK := Keep.mk (And.intro K0 K1); clear K0 K1)
      | (go_at_call 72; refine (ref_site _ _).mono ?_; rintro e w' ⟨rfl, rfl⟩)
      | (go_at_call 80; refine (ref_Copy _ s _ _ (HC.out.below KK.out.1.bel)).mono ?_; rintro e w2 ⟨A2, c2, rfl, hO, hB⟩; have HO := Keep.mk (hO.mono KK.out.1.bel.size); have K0 := KK.out.1.step hB; have K1 := KK.out.2.step hB; clear hO hB KK p0 p1 p2 p3 p4 p5 p6 p7 p8 q0 q1 q2 q3 q4 q5 q6 q7 q8; obtain ⟨⟨p0, p1, p2, p3, p4, p5, p6, p7⟩, p8⟩ := K0.c8; obtain ⟨⟨q0, q1, q2, q3, q4, q5, q6, q7⟩, q8⟩ := K1.c8; have hlt0 := K0.lt; have hlt1 := K1.lt; have KK := Keep.mk (And.intro K0 K1); clear K0 K1))
      exact bodyPost_ret (results_row_tmp rfl _ _ (w.heap.size + 1) 57 _ _ rfl (site_stored KK.out.2 zS none 0 (OwnSp.nil _ w.heap.size)).1.blk Try.underlying57 rfl (by kernel_rfl)) rfl ⟨none, 0, rfl, (site_stored KK.out.2 zS none 0 (OwnSp.nil _ w.heap.size)).2, (site_stored KK.out.2 zS none 0 (OwnSp.nil _ w.heap.size)).1.bel⟩
    have g4 : decide (1073741824 < ep) = false := by simp [h4]
    cases h5 : (src == -1)
    · have g5 : (src != -1) = true := by simp only [bne, h5, Bool.not_false]
      have g5' : ¬ src = -1 := by simpa using h5
      cases h6 : inB src 0 3
      · rw [demote_err s ep src 1 h1 (.inr (.inr (.inr ⟨h2, h3, h4, by simp [okD, otherS, h6, g5'], rfl⟩)))]
        clear h1 h2 h3 h4 g5'
        go_enter Try.func60, Try.ntmps60
        go_wp2_with (first
      | (go_at_call 54; refine (ref_Check _ s _ _ ((HC.out.alloc _).alloc _)).mono ?_; rintro e w1 ⟨rfl, hB⟩; have K0 := ((Held.new (Below.refl w.heap.size w) [.int .i64 s.nu, .int .i64 s.ro, .int .i64 s.ep, .int .i64 s.ap, .slice A s.li.length c, .int .i64 s.so, .bool s.al, .bool s.co] 57).alloc (.cells #[.int .i64 0, .int .i64 0, .int .i64 0, .int .i64 0, .slice none 0 0, .int .i64 0, .bool false, .bool false] 57)).step hB; have K1 := (Held.new1 w _ [.int .i64 0, .int .i64 0, .int .i64 0, .int .i64 0, .slice none 0 0, .int .i64 0, .bool false, .bool false] 57).step hB; clear hB; obtain ⟨⟨p0, p1, p2, p3, p4, p5, p6, p7⟩, p8⟩ := K0.c8; obtain ⟨⟨q0, q1, q2, q3, q4, q5, q6, q7⟩, q8⟩ := K1.c8; have hlt0 := K0.lt; have hlt1 := K1.lt; have KK := Keep.mk (And.intro K0 K1); clear K0 K1)
      | (go_at_call 72; refine (ref_site _ _).mono ?_; rintro e w' ⟨rfl, rfl⟩)
      | (go_at_call 80; refine (ref_Copy _ s _ _ (HC.out.below KK.out.1.bel)).mono ?_; rintro e w2 ⟨A2, c2, rfl, hO, hB⟩; have HO := Keep.mk (hO.mono KK.out.1.bel.size); have K0 := KK.out.1.step hB; have K1 := KK.out.2.step hB; clear hO hB KK p0 p1 p2 p3 p4 p5 p6 p7 p8 q0 q1 q2 q3 q4 q5 q6 q7 q8; obtain ⟨⟨p0, p1, p2, p3, p4, p5, p6, p7⟩, p8⟩ := K0.c8; obtain ⟨⟨q0, q1, q2, q3, q4, q5, q6, q7⟩, q8⟩ := K1.c8; have hlt0 := K0.lt; have hlt1 := K1.lt; have KK := Keep.mk (And.intro K0 K1); clear K0 K1))
        exact bodyPost_ret (results_row_tmp rfl _ _ (w.heap.size + 1) 57 _ _ rfl (site_stored KK.out.2 zS none 0 (OwnSp.nil _ w.heap.size)).1.blk Try.underlying57 rfl (by kernel_rfl)) rfl ⟨none, 0, rfl, (site_stored KK.out.2 zS none 0 (OwnSp.nil _ w.heap.size)).2, (site_stored KK.out.2 zS none 0 (OwnSp.nil _ w.heap.size)).1.bel⟩
      cases h7 : (src == s.nu)
      · rw [demote_ok s ep src 2 h1 h2 h3 h4 (by simp only [okD, otherS, h6, bne, h7]; simp) (by simp [g5'])]
        clear h1 h2 h3 h4 g5'
        go_enter Try.func60, Try.ntmps60
        go_wp2_with (first
      | (go_at_call 54; refine (ref_Check _ s _ _ ((HC.out.alloc _).alloc _)).mono ?_; rintro e w1 ⟨rfl, hB⟩; have K0 := ((Held.new (Below.refl w.heap.size w) [.int .i64 s.nu, .int .i64 s.ro, .int .i64 s.ep, .int .i64 s.ap, .slice A s.li.length c, .int .i64 s.so, .bool s.al, .bool s.co] 57).alloc (.cells #[.int .i64 0, .int .i64 0, .int .i64 0, .int .i64 0, .slice none 0 0, .int .i64 0, .bool false, .bool false] 57)).step hB; have K1 := (Held.new1 w _ [.int .i64 0, .int .i64 0, .int .i64 0, .int .i64 0, .slice none 0 0, .int .i64 0, .bool false, .bool false] 57).step hB; clear hB; obtain ⟨⟨p0, p1, p2, p3, p4, p5, p6, p7⟩, p8⟩ := K0.c8; obtain ⟨⟨q0, q1, q2, q3, q4, q5, q6, q7⟩, q8⟩ := K1.c8; have hlt0 := K0.lt; have hlt1 := K1.lt; have KK := Keep.mk (And.intro K0 K1); clear K0 K1)
      | (go_at_call 72; refine (ref_site _ _).mono ?_; rintro e w' ⟨rfl, rfl⟩)
      | (go_at_call 80; refine (ref_Copy _ s _ _ (HC.out.below KK.out.1.bel)).mono ?_; rintro e w2 ⟨A2, c2, rfl, hO, hB⟩; have HO := Keep.mk (hO.mono KK.out.1.bel.size); have K0 := KK.out.1.step hB; have K1 := KK.out.2.step hB; clear hO hB KK p0 p1 p2 p3 p4 p5 p6 p7 p8 q0 q1 q2 q3 q4 q5 q6 q7 q8; obtain ⟨⟨p0, p1, p2, p3, p4, p5, p6, p7⟩, p8⟩ := K0.c8; obtain ⟨⟨q0, q1, q2, q3, q4, q5, q6, q7⟩, q8⟩ := K1.c8; have hlt0 := K0.lt; have hlt1 := K1.lt; have KK := Keep.mk (And.intro K0 K1); clear K0 K1))
        exact bodyPost_ret (results_row_tmp rfl _ _ (w.heap.size + 1) 57 _ _ rfl ((site_stored KK.out.2 ({ s with ro := 2, ep := ep, so := src } : Site) A2 c2 HO.out).1.alloc _).blk Try.underlying57 rfl (by kernel_rfl)) rfl ⟨A2, c2, rfl, (site_stored KK.out.2 ({ s with ro := 2, ep := ep, so := src } : Site) A2 c2 HO.out).2.step (below_new (Below.refl _ _) _), ((site_stored KK.out.2 ({ s with ro := 2, ep := ep, so := src } : Site) A2 c2 HO.out).1.alloc _).bel⟩
      · rw [demote_err s ep src 1 h1 (.inr (.inr (.inr ⟨h2, h3, h4, by simp only [okD, otherS, h6, bne, h7, h5]; simp, rfl⟩)))]
        clear h1 h2 h3 h4 g5'
        go_enter Try.func60, Try.ntmps60
        go_wp2_with (first
      | (go_at_call 54; refine (ref_Check _ s _ _ ((HC.out.alloc _).alloc _)).mono ?_; rintro e w1 ⟨rfl, hB⟩; have K0 := ((Held.new (Below.refl w.heap.size w) [.int .i64 s.nu, .int .i64 s.ro, .int .i64 s.ep, .int .i64 s.ap, .slice A s.li.length c, .int .i64 s.so, .bool s.al, .bool s.co] 57).alloc (.cells #[.int .i64 0, .int .i64 0, .int .i64 0, .int .i64 0, .slice none 0 0, .int .i64 0, .bool false, .bool false] 57)).step hB; have K1 := (Held.new1 w _ [.int .i64 0, .int .i64 0, .int .i64 0, .int .i64 0, .slice none 0 0, .int .i64 0, .bool false, .bool false] 57).step hB; clear hB; obtain ⟨⟨p0, p1, p2, p3, p4, p5, p6, p7⟩, p8⟩ := K0.c8; obtain ⟨⟨q0, q1, q2, q3, q4, q5, q6, q7⟩, q8⟩ := K1.c8; have hlt0 := K0.lt; have hlt1 := K1.lt; have KK := Keep.mk (And.intro K0 K1); clear K0 K1)
      | (go_at_call 72; refine (ref_site _ _).mono ?_; rintro e w' ⟨rfl, rfl⟩)
      | (go_at_call 80; refine (ref_Copy _ s _ _ (HC.out.below KK.out.1.bel)).mono ?_; rintro e w2 ⟨A2, c2, rfl, hO, hB⟩; have HO := Keep.mk (hO.mono KK.out.1.bel.size); have K0 := KK.out.1.step hB; have K1 := KK.out.2.step hB; clear hO hB KK p0 p1 p2 p3 p4 p5 p6 p7 p8 q0 q1 q2 q3 q4 q5 q6 q7 q8; obtain ⟨⟨p0, p1, p2, p3, p4, p5, p6, p7⟩, p8⟩ := K0.c8; obtain ⟨⟨q0, q1, q2, q3, q4, q5, q6, q7⟩, q8⟩ := K1.c8; have hlt0 := K0.lt; have hlt1 := K1.lt; have KK := Keep.mk (And.intro K0 K1); clear K0 K1))
        exact bodyPost_ret (results_row_tmp rfl _ _ (w.heap.size + 1) 57 _ _ rfl (site_stored KK.out.2 zS none 0 (OwnSp.nil _ w.heap.size)).1.blk Try.underlying57 rfl (by kernel_rfl)) rfl ⟨none, 0, rfl, (site_stored KK.out.2 zS none 0 (OwnSp.nil _ w.heap.size)).2, (site_stored KK.out.2 zS none 0 (OwnSp.nil _ w.heap.size)).1.bel⟩
    · have g5 : (src != -1) = false := by simp only [bne, h5, Bool.not_true]
      have g5' : src = -1 := by simpa using h5
      rw [demote_ok s ep src 5 h1 h2 h3 h4 (by simp [okD, h5]) (by simp [g5'])]
      clear h1 h2 h3 h4 g5'
      go_enter Try.func60, Try.ntmps60
      go_wp2_with (first
      | (go_at_call 54; refine (ref_Check _ s _ _ ((HC.out.alloc _).alloc _)).mono ?_; rintro e w1 ⟨rfl, hB⟩; have K0 := ((Held.new (Below.refl w.heap.size w) [.int .i64 s.nu, .int .i64 s.ro, .int .i64 s.ep, .int .i64 s.ap, .slice A s.li.length c, .int .i64 s.so, .bool s.al, .bool s.co] 57).alloc (.cells #[.int .i64 0, .int .i64 0, .int .i64 0, .int .i64 0, .slice none 0 0, .int .i64 0, .bool false, .bool false] 57)).step hB; have K1 := (Held.new1 w _ [.int .i64 0, .int .i64 0, .int .i64 0, .int .i64 0, .slice none 0 0, .int .i64 0, .bool false, .bool false] 57).step hB; clear hB; obtain ⟨⟨p0, p1, p2, p3, p4, p5, p6, p7⟩, p8⟩ := K0.c8; obtain ⟨⟨q0, q1, q2, q3, q4, q5, q6, q7⟩, q8⟩ := K1.c8; have hlt0 := K0.lt; have hlt1 := K1.lt; have KK := Keep.mk (And.intro K0 K1); clear K0 K1)
      | (go_at_call 72; refine (ref_site _ _).mono ?_; rintro e w' ⟨rfl, rfl⟩)
      | (go_at_call 80; refine (ref_Copy _ s _ _ (HC.out.below KK.out.1.bel)).mono ?_; rintro e w2 ⟨A2, c2, rfl, hO, hB⟩; have HO := Keep.mk (hO.mono KK.out.1.bel.size); have K0 := KK.out.1.step hB; have K1 := KK.out.2.step hB; clear hO hB KK p0 p1 p2 p3 p4 p5 p6 p7 p8 q0 q1 q2 q3 q4 q5 q6 q7 q8; obtain ⟨⟨p0, p1, p2, p3, p4, p5, p6, p7⟩, p8⟩ := K0.c8; obtain ⟨⟨q0, q1, q2, q3, q4, q5, q6, q7⟩, q8⟩ := K1.c8; have hlt0 := K0.lt; have hlt1 := K1.lt; have KK := Keep.mk (And.intro K0 K1); clear K0 K1))
      exact bodyPost_ret (results_row_tmp rfl _ _ (w.heap.size + 1) 57 _ _ rfl ((site_stored KK.out.2 ({ s with ro := 5, ep := ep, so := src } : Site) A2 c2 HO.out).1.alloc _).blk Try.underlying57 rfl (by kernel_rfl)) rfl ⟨A2, c2, rfl, (site_stored KK.out.2 ({ s with ro := 5, ep := ep, so := src } : Site) A2 c2 HO.out).2.step (below_new (Below.refl _ _) _), ((site_stored KK.out.2 ({ s with ro := 5, ep := ep, so := src } : Site) A2 c2 HO.out).1.alloc _).bel⟩
  · have hv : demoteS s ep src = (zS, checkS s) := by simp [demoteS, h1]
    rw [hv]
    have h1' : (checkS s != 0) = true := by simpa using h1
    clear h1 hv
    go_enter Try.func60, Try.ntmps60
    go_wp2_with (first
      | (go_at_call 54; refine (ref_Check _ s _ _ ((HC.out.alloc _).alloc _)).mono ?_; rintro e w1 ⟨rfl, hB⟩; have K0 := ((Held.new (Below.refl w.heap.size w) [.int .i64 s.nu, .int .i64 s.ro, .int .i64 s.ep, .int .i64 s.ap, .slice A s.li.length c, .int .i64 s.so, .bool s.al, .bool s.co] 57).alloc (.cells #[.int .i64 0, .int .i64 0, .int .i64 0, .int .i64 0, .slice none 0 0, .int .i64 0, .bool false, .bool false] 57)).step hB; have K1 := (Held.new1 w _ [.int .i64 0, .int .i64 0, .int .i64 0, .int .i64 0, .slice none 0 0, .int .i64 0, .bool false, .bool false] 57).step hB; clear hB; obtain ⟨⟨p0, p1, p2, p3, p4, p5, p6, p7⟩, p8⟩ := K0.c8; obtain ⟨⟨q0, q1, q2, q3, q4, q5, q6, q7⟩, q8⟩ := K1.c8; have hlt0 := K0.lt; have hlt1 := K1.lt; have KK := Keep.mk (And.intro K0 K1); clear K0 K1)
      | (go_at_call 72; refine (ref_site _ _).mono ?_; rintro e w' ⟨rfl, rfl⟩)
      | (go_at_call 80; refine (ref_Copy _ s _ _ (HC.out.below KK.out.1.bel)).mono ?_; rintro e w2 ⟨A2, c2, rfl, hO, hB⟩; have HO := Keep.mk (hO.mono KK.out.1.bel.size); have K0 := KK.out.1.step hB; have K1 := KK.out.2.step hB; clear hO hB KK p0 p1 p2 p3 p4 p5 p6 p7 p8 q0 q1 q2 q3 q4 q5 q6 q7 q8; obtain ⟨⟨p0, p1, p2, p3, p4, p5, p6, p7⟩, p8⟩ := K0.c8; obtain ⟨⟨q0, q1, q2, q3, q4, q5, q6, q7⟩, q8⟩ := K1.c8; have hlt0 := K0.lt; have hlt1 := K1.lt; have KK := Keep.mk (And.intro K0 K1); clear K0 K1))
    exact bodyPost_ret (results_row_tmp rfl _ _ (w.heap.size + 1) 57 _ _ rfl (site_stored KK.out.2 zS none 0 (OwnSp.nil _ w.heap.size)).1.blk Try.underlying57 rfl (by kernel_rfl)) rfl ⟨none, 0, rfl, (site_stored KK.out.2 zS none 0 (OwnSp.nil _ w.heap.size)).2, (site_stored KK.out.2 zS none 0 (OwnSp.nil _ w.heap.size)).1.bel⟩
end Go.Proofs.Ytijhkgabonkmfaa
