/- Contract: the reference's Synced. The program's Synced computes the same plain function. -/
import Derived.Test.YtfkdcjkkmfhalaaRefH
namespace Go.Proofs.Ytfkdcjkkmfhalaa
open Go.RowKit
set_option linter.unusedSimpArgs false
set_option linter.unusedVariables false
theorem corr_head_fr {x : Span} {r : List Span} {pe pt : Int} (h : corr (x :: r) pe pt = true) : x.fr = pt + 1 ∧ x.fr ≤ x.to_ ∧ corr r x.ep x.to_ = true := by
  simp only [corr, Bool.and_eq_true, decide_eq_true_eq] at h
  exact ⟨h.1.1.1.1.1, h.1.1.1.1.2, h.2⟩
theorem cutR_nil_of (l : List Span) (pe pt n : Int) (h : corr l pe pt = true) (hn : n ≤ pt) : cutR l n = [] := by
  unfold cutR
  have : l.filter (fun x => decide (x.fr ≤ n)) = [] := by
    rw [List.filter_eq_nil_iff]
    intro y hy
    rw [decide_eq_true_eq]
    obtain ⟨j, hj, rfl⟩ := List.getElem_of_mem hy
    have := corr_fr l pe pt h j hj
    simp only [List.getD_eq_getElem?_getD, List.getElem?_eq_getElem hj, Option.getD_some] at this
    omega
  rw [this]; rfl
theorem cut_same (n : Int) : ∀ (l : List Span) (pe pt : Int), corr l pe pt = true → cutLast (l.take (headN l n)) n = cutR l n := by
  intro l
  induction l with
  | nil => intro pe pt _; rfl
  | cons x r ih =>
    intro pe pt h
    obtain ⟨h1, h2, h3⟩ := corr_head_fr h
    by_cases hx : x.fr ≤ n
    · have e1 : headN (x :: r) n = headN r n + 1 := by unfold headN; rw [List.takeWhile_cons, if_pos (by simpa using hx)]; rfl
      have e2 : cutR (x :: r) n = { x with to_ := min x.to_ n } :: cutR r n := by
        unfold cutR; rw [List.filter_cons, if_pos (by simpa using hx)]; rfl
      have ih' := ih _ _ h3
      rw [e1, e2, List.take_succ_cons, ← ih']
      rcases r with _ | ⟨y, r⟩
      · simp [cutLast, mnI_min, headN]
      · by_cases hy : y.fr ≤ n
        · obtain ⟨g1, _, _⟩ := corr_head_fr h3
          have e3 : headN (y :: r) n = headN r n + 1 := by unfold headN; rw [List.takeWhile_cons, if_pos (by simpa using hy)]; rfl
          rw [e3, List.take_succ_cons]
          generalize r.take (headN r n) = m
          have : min x.to_ n = x.to_ := by rw [Int.min_def, if_pos (by omega)]
          rw [this]
          simp [cutLast]
        · have e3 : headN (y :: r) n = 0 := by unfold headN; rw [List.takeWhile_cons, if_neg (by simpa using hy)]; rfl
          rw [e3]
          simp [cutLast, mnI_min]
    · have e1 : headN (x :: r) n = 0 := by unfold headN; rw [List.takeWhile_cons, if_neg (by simpa using hx)]; rfl
      rw [e1, cutR_nil_of _ pe pt n h (by omega)]
      rfl
theorem sync_same (s : Site) (n : Int) : syVal s n (s.li.take (headN s.li n)) = syncedWith cutR s n := by
  by_cases h1 : checkS s = 0
  · unfold syVal syncedWith syK
    rw [h1]
    cases h2 : (s.ro == 4)
    · simp [dem]
    · cases h3 : inB n 1 1073741824
      · simp [dem]
      · have e : syLi s n (s.li.take (headN s.li n)) = extendR (cutR s.li n) s.ep n := by
          unfold syLi extendR
          rw [cut_same n s.li 0 0 (checkS_corr h1)]
          by_cases h : (lastS (cutR s.li n)).to_ < n
          · rw [if_pos h, if_neg (by omega)]
          · rw [if_neg h, if_pos (by omega)]
        simp [dem, e]
  · unfold syVal syncedWith syK
    simp [dem, h1]
theorem role_Sync (w : World) (s : Site) (A : Option Addr) (c : Nat) (n : Int) (hls : s.li.length ≤ 1000000) (h : SpansAt w A c s.li) :
    Calls Try.prog 18 #[.agg #[.int .i64 s.nu, .int .i64 s.ro, .int .i64 s.ep, .int .i64 s.ap, .slice A s.li.length c, .int .i64 s.so, .bool s.al, .bool s.co], .int .i64 n] w (SiteRes w.heap.size w (syncedWith cutR s n)) := by
  rw [← sync_same]; exact role_Synced w s A c n hls h
theorem synced_err (s : Site) (n k : Int) (h1 : checkS s = 0) (h2 : ((s.ro == 4) = false ∧ k = 18) ∨ ((s.ro == 4) = true ∧ inB n 1 1073741824 = false ∧ k = 2)) : syncedWith cutR s n = (zS, k) := by
  unfold syncedWith
  rw [if_neg (not_not_intro h1)]
  rcases h2 with ⟨a, rfl⟩ | ⟨a, b, rfl⟩
  · rw [if_pos a]
  · rw [if_neg (by simp [a]), if_pos b]
theorem synced_ok (s : Site) (n : Int) (h1 : checkS s = 0) (a : (s.ro == 4) = true) (b : inB n 1 1073741824 = true) : syncedWith cutR s n = ({ s with ro := 2, ap := n, li := extendR (cutR s.li n) s.ep n }, 0) := by
  unfold syncedWith
  rw [if_neg (not_not_intro h1), if_neg (by simp [a]), if_neg (by simp [b])]
theorem cut_bounds (s : Site) (n : Int) (h1 : checkS s = 0) (hn : 1 ≤ n ∧ n ≤ 1073741824) : 0 ≤ (lastS (cutR s.li n)).to_ ∧ (lastS (cutR s.li n)).to_ ≤ 1073741824 := by
  rw [← cut_same n s.li 0 0 (checkS_corr h1)]
  exact last_bounds s n h1 hn.1 hn.2
set_option maxHeartbeats 2000000 in
theorem ref_Synced (w : World) (s : Site) (A : Option Addr) (c : Nat) (n : Int) (hls : s.li.length ≤ 1000000) (h : SpansAt w A c s.li) :
    Calls Try.prog 19 #[.agg #[.int .i64 s.nu, .int .i64 s.ro, .int .i64 s.ep, .int .i64 s.ap, .slice A s.li.length c, .int .i64 s.so, .bool s.al, .bool s.co], .int .i64 n] w (SiteRes w.heap.size w (syncedWith cutR s n)) := by
  have HC := Keep.mk h
  have hl := h.len
  clear h
  by_cases h1 : checkS s = 0
  · have h1' : (checkS s != 0) = false := by simp [h1]
    cases r1 : (s.ro == 4)
    · have g1 : (s.ro != 4) = true := by simp only [bne, r1, Bool.not_false]
      rw [synced_err s n 18 h1 (.inl ⟨r1, rfl⟩)]
      clear h1
      go_enter Try.func19, Try.ntmps19
      go_wp2_with (first
      | (go_at_call 32; refine (ref_Check _ s _ _ ((HC.out.alloc _).alloc _)).mono ?_; rintro e w1 ⟨rfl, hB⟩; have K0 := ((Held.new (Below.refl w.heap.size w) [.int .i64 s.nu, .int .i64 s.ro, .int .i64 s.ep, .int .i64 s.ap, .slice A s.li.length c, .int .i64 s.so, .bool s.al, .bool s.co] 24).alloc (.cells #[.int .i64 0, .int .i64 0, .int .i64 0, .int .i64 0, .slice none 0 0, .int .i64 0, .bool false, .bool false] 24)).step hB; have K1 := (Held.new1 w _ [.int .i64 0, .int .i64 0, .int .i64 0, .int .i64 0, .slice none 0 0, .int .i64 0, .bool false, .bool false] 24).step hB; clear hB; obtain ⟨⟨p0, p1, p2, p3, p4, p5, p6, p7⟩, p8⟩ := K0.c8; obtain ⟨⟨q0, q1, q2, q3, q4, q5, q6, q7⟩, q8⟩ := K1.c8; have hlt0 := K0.lt; have hlt1 := K1.lt; have KK := Keep.mk (And.intro K0 K1); clear K0 K1)
      | (go_at_call 45; refine (ref_site _ _).mono ?_; rintro e w' ⟨rfl, rfl⟩)
      | (go_at_call 43; refine (ref_Copy _ s _ _ (HC.out.below KK.out.1.bel)).mono ?_; rintro e w2 ⟨A2, c2, rfl, hO, hB⟩; have HO := Keep.mk (hO.mono KK.out.1.bel.size); have K0 := KK.out.1.step hB; have K1 := KK.out.2.step hB; clear hO hB KK p0 p1 p2 p3 p4 p5 p6 p7 p8 q0 q1 q2 q3 q4 q5 q6 q7 q8; obtain ⟨⟨p0, p1, p2, p3, p4, p5, p6, p7⟩, p8⟩ := K0.c8; obtain ⟨⟨q0, q1, q2, q3, q4, q5, q6, q7⟩, q8⟩ := K1.c8; have hlt0 := K0.lt; have hlt1 := K1.lt; have KK := Keep.mk (And.intro K0 K1); clear K0 K1))
      exact bodyPost_ret (results_row_tmp rfl _ _ (w.heap.size + 1) 24 _ _ rfl (site_stored KK.out.2 zS none 0 (OwnSp.nil _ w.heap.size)).1.blk Try.underlying24 rfl (by kernel_rfl)) rfl ⟨none, 0, rfl, (site_stored KK.out.2 zS none 0 (OwnSp.nil _ w.heap.size)).2, (site_stored KK.out.2 zS none 0 (OwnSp.nil _ w.heap.size)).1.bel⟩
    have g1 : (s.ro != 4) = false := by simp only [bne, r1, Bool.not_true]
    by_cases h2 : n < 1
    · rw [synced_err s n 2 h1 (.inr ⟨r1, by simp [inB]; omega, rfl⟩)]
      have g2 : decide (n < 1) = true := by simp [h2]
      clear h1 h2
      go_enter Try.func19, Try.ntmps19
      go_wp2_with (first
      | (go_at_call 32; refine (ref_Check _ s _ _ ((HC.out.alloc _).alloc _)).mono ?_; rintro e w1 ⟨rfl, hB⟩; have K0 := ((Held.new (Below.refl w.heap.size w) [.int .i64 s.nu, .int .i64 s.ro, .int .i64 s.ep, .int .i64 s.ap, .slice A s.li.length c, .int .i64 s.so, .bool s.al, .bool s.co] 24).alloc (.cells #[.int .i64 0, .int .i64 0, .int .i64 0, .int .i64 0, .slice none 0 0, .int .i64 0, .bool false, .bool false] 24)).step hB; have K1 := (Held.new1 w _ [.int .i64 0, .int .i64 0, .int .i64 0, .int .i64 0, .slice none 0 0, .int .i64 0, .bool false, .bool false] 24).step hB; clear hB; obtain ⟨⟨p0, p1, p2, p3, p4, p5, p6, p7⟩, p8⟩ := K0.c8; obtain ⟨⟨q0, q1, q2, q3, q4, q5, q6, q7⟩, q8⟩ := K1.c8; have hlt0 := K0.lt; have hlt1 := K1.lt; have KK := Keep.mk (And.intro K0 K1); clear K0 K1)
      | (go_at_call 45; refine (ref_site _ _).mono ?_; rintro e w' ⟨rfl, rfl⟩)
      | (go_at_call 43; refine (ref_Copy _ s _ _ (HC.out.below KK.out.1.bel)).mono ?_; rintro e w2 ⟨A2, c2, rfl, hO, hB⟩; have HO := Keep.mk (hO.mono KK.out.1.bel.size); have K0 := KK.out.1.step hB; have K1 := KK.out.2.step hB; clear hO hB KK p0 p1 p2 p3 p4 p5 p6 p7 p8 q0 q1 q2 q3 q4 q5 q6 q7 q8; obtain ⟨⟨p0, p1, p2, p3, p4, p5, p6, p7⟩, p8⟩ := K0.c8; obtain ⟨⟨q0, q1, q2, q3, q4, q5, q6, q7⟩, q8⟩ := K1.c8; have hlt0 := K0.lt; have hlt1 := K1.lt; have KK := Keep.mk (And.intro K0 K1); clear K0 K1))
      exact bodyPost_ret (results_row_tmp rfl _ _ (w.heap.size + 1) 24 _ _ rfl (site_stored KK.out.2 zS none 0 (OwnSp.nil _ w.heap.size)).1.blk Try.underlying24 rfl (by kernel_rfl)) rfl ⟨none, 0, rfl, (site_stored KK.out.2 zS none 0 (OwnSp.nil _ w.heap.size)).2, (site_stored KK.out.2 zS none 0 (OwnSp.nil _ w.heap.size)).1.bel⟩
    have g2 : decide (n < 1) = false := by simp [h2]
    by_cases h3 : 1073741824 < n
    · rw [synced_err s n 2 h1 (.inr ⟨r1, by simp [inB]; omega, rfl⟩)]
      have g3 : decide (1073741824 < n) = true := by simp [h3]
      clear h1 h2 h3
      go_enter Try.func19, Try.ntmps19
      go_wp2_with (first
      | (go_at_call 32; refine (ref_Check _ s _ _ ((HC.out.alloc _).alloc _)).mono ?_; rintro e w1 ⟨rfl, hB⟩; have K0 := ((Held.new (Below.refl w.heap.size w) [.int .i64 s.nu, .int .i64 s.ro, .int .i64 s.ep, .int .i64 s.ap, .slice A s.li.length c, .int .i64 s.so, .bool s.al, .bool s.co] 24).alloc (.cells #[.int .i64 0, .int .i64 0, .int .i64 0, .int .i64 0, .slice none 0 0, .int .i64 0, .bool false, .bool false] 24)).step hB; have K1 := (Held.new1 w _ [.int .i64 0, .int .i64 0, .int .i64 0, .int .i64 0, .slice none 0 0, .int .i64 0, .bool false, .bool false] 24).step hB; clear hB; obtain ⟨⟨p0, p1, p2, p3, p4, p5, p6, p7⟩, p8⟩ := K0.c8; obtain ⟨⟨q0, q1, q2, q3, q4, q5, q6, q7⟩, q8⟩ := K1.c8; have hlt0 := K0.lt; have hlt1 := K1.lt; have KK := Keep.mk (And.intro K0 K1); clear K0 K1)
      | (go_at_call 45; refine (ref_site _ _).mono ?_; rintro e w' ⟨rfl, rfl⟩)
      | (go_at_call 43; refine (ref_Copy _ s _ _ (HC.out.below KK.out.1.bel)).mono ?_; rintro e w2 ⟨A2, c2, rfl, hO, hB⟩; have HO := Keep.mk (hO.mono KK.out.1.bel.size); have K0 := KK.out.1.step hB; have K1 := KK.out.2.step hB; clear hO hB KK p0 p1 p2 p3 p4 p5 p6 p7 p8 q0 q1 q2 q3 q4 q5 q6 q7 q8; obtain ⟨⟨p0, p1, p2, p3, p4, p5, p6, p7⟩, p8⟩ := K0.c8; obtain ⟨⟨q0, q1, q2, q3, q4, q5, q6, q7⟩, q8⟩ := K1.c8; have hlt0 := K0.lt; have hlt1 := K1.lt; have KK := Keep.mk (And.intro K0 K1); clear K0 K1))
      exact bodyPost_ret (results_row_tmp rfl _ _ (w.heap.size + 1) 24 _ _ rfl (site_stored KK.out.2 zS none 0 (OwnSp.nil _ w.heap.size)).1.blk Try.underlying24 rfl (by kernel_rfl)) rfl ⟨none, 0, rfl, (site_stored KK.out.2 zS none 0 (OwnSp.nil _ w.heap.size)).2, (site_stored KK.out.2 zS none 0 (OwnSp.nil _ w.heap.size)).1.bel⟩
    have g3 : decide (1073741824 < n) = false := by simp [h3]
    rw [synced_ok s n h1 r1 (by simp [inB]; omega)]
    have HBD := Keep.mk (cut_bounds s n h1 (by omega))
    have HCL := Keep.mk (Nat.le_trans (cutR_len s.li n) hls)
    clear h1 h2 h3
    go_enter Try.func19, Try.ntmps19
    go_wp2_with (first
      | (go_at_call 32; refine (ref_Check _ s _ _ ((HC.out.alloc _).alloc _)).mono ?_; rintro e w1 ⟨rfl, hB⟩; have K0 := ((Held.new (Below.refl w.heap.size w) [.int .i64 s.nu, .int .i64 s.ro, .int .i64 s.ep, .int .i64 s.ap, .slice A s.li.length c, .int .i64 s.so, .bool s.al, .bool s.co] 24).alloc (.cells #[.int .i64 0, .int .i64 0, .int .i64 0, .int .i64 0, .slice none 0 0, .int .i64 0, .bool false, .bool false] 24)).step hB; have K1 := (Held.new1 w _ [.int .i64 0, .int .i64 0, .int .i64 0, .int .i64 0, .slice none 0 0, .int .i64 0, .bool false, .bool false] 24).step hB; clear hB; obtain ⟨⟨p0, p1, p2, p3, p4, p5, p6, p7⟩, p8⟩ := K0.c8; obtain ⟨⟨q0, q1, q2, q3, q4, q5, q6, q7⟩, q8⟩ := K1.c8; have hlt0 := K0.lt; have hlt1 := K1.lt; have KK := Keep.mk (And.intro K0 K1); clear K0 K1)
      | (go_at_call 45; refine (ref_site _ _).mono ?_; rintro e w' ⟨rfl, rfl⟩)
      | (go_at_call 43; refine (ref_Copy _ s _ _ (HC.out.below KK.out.1.bel)).mono ?_; rintro e w2 ⟨A2, c2, rfl, hO, hB⟩; have HO := Keep.mk (hO.mono KK.out.1.bel.size); have K0 := KK.out.1.step hB; have K1 := KK.out.2.step hB; clear hO hB KK p0 p1 p2 p3 p4 p5 p6 p7 p8 q0 q1 q2 q3 q4 q5 q6 q7 q8; obtain ⟨⟨p0, p1, p2, p3, p4, p5, p6, p7⟩, p8⟩ := K0.c8; obtain ⟨⟨q0, q1, q2, q3, q4, q5, q6, q7⟩, q8⟩ := K1.c8; have hlt0 := K0.lt; have hlt1 := K1.lt; have KK := Keep.mk (And.intro K0 K1); clear K0 K1))
    have KO : Held w w2.heap.size [.int .i64 s.nu, .int .i64 s.ro, .int .i64 s.ep, .int .i64 s.ap, .slice A2 s.li.length c2, .int .i64 s.so, .bool s.al, .bool s.co] 24 (w2.alloc (.cells #[.int .i64 s.nu, .int .i64 s.ro, .int .i64 s.ep, .int .i64 s.ap, .slice A2 s.li.length c2, .int .i64 s.so, .bool s.al, .bool s.co] 24)) := Held.new KK.out.1.bel _ _
    have K0 := KK.out.1.alloc (.cells #[.int .i64 s.nu, .int .i64 s.ro, .int .i64 s.ep, .int .i64 s.ap, .slice A2 s.li.length c2, .int .i64 s.so, .bool s.al, .bool s.co] 24)
    have K1 := KK.out.2.alloc (.cells #[.int .i64 s.nu, .int .i64 s.ro, .int .i64 s.ep, .int .i64 s.ap, .slice A2 s.li.length c2, .int .i64 s.so, .bool s.al, .bool s.co] 24)
    have hne : w.heap.size + 1 ≠ w2.heap.size := by omega
    have hne0 : w.heap.size ≠ w2.heap.size := by omega
    have hge := KK.out.1.bel.size
    clear KK hlt0 hlt1 HO p0 p1 p2 p3 p4 p5 p6 p7 p8 q0 q1 q2 q3 q4 q5 q6 q7 q8
    generalize w2.heap.size = g2 at KO hne hne0 hge ⊢
    generalize w2.alloc (.cells #[.int .i64 s.nu, .int .i64 s.ro, .int .i64 s.ep, .int .i64 s.ap, .slice A2 s.li.length c2, .int .i64 s.so, .bool s.al, .bool s.co] 24) = WO at KO K0 K1 ⊢
    obtain ⟨⟨p0, p1, p2, p3, p4, p5, p6, p7⟩, p8⟩ := K0.c8
    have HK := Keep.mk (And.intro K0.drew (And.intro K1.drew KO.drew))
    clear K0 K1 KO
    go_region_held3 (fun W => W.cell? ⟨w.heap.size, 4, none⟩ = some (.slice A s.li.length c) ∧ W.cell? ⟨w.heap.size, 2, none⟩ = some (.int .i64 s.ep))
      ((first | exact ⟨p4, p2⟩ | exact ⟨H3.out.1.cell 4 _ rfl, H3.out.1.cell 2 _ rfl⟩ | exact ⟨x4, x2⟩ | exact ⟨z4, z2⟩ | (go_simp; done)))
      (first
        | (go_at_call 53; refine (ref_cut _ A c s.li n hls (HC.out.below HK.out.1.bel)).mono ?_; rintro e w3 ⟨A3, c3, rfl, hO3, hB3⟩; have H3 := Keep.mk (And.intro (HK.out.1.step hB3) (And.intro (HK.out.2.1.step hB3) (And.intro (HK.out.2.2.step hB3) hO3))); clear hO3 hB3)
        | (go_at_call 52; refine (ref_extend _ A3 c3 (cutR s.li n) s.ep n HBD.out HCL.out H3.out.2.2.2.reads).mono ?_; rintro e w4 ⟨A4, c4, rfl, hO4, hB4⟩; have H4 := Keep.mk (And.intro (H3.out.1.step hB4) (And.intro (H3.out.2.1.step hB4) (And.intro (H3.out.2.2.1.step hB4) hO4))); have x4 := (H3.out.1.step hB4).cell 4 _ rfl; have x2 := (H3.out.1.step hB4).cell 2 _ rfl; obtain ⟨⟨y0, y1, y2, y3, y4, y5, y6, y7⟩, y8⟩ := H4.out.2.2.1.c8; clear hO4 hB4))
    have KR := ((H4.out.2.1.setOther (j := 1) hge hne (.int .i64 2)).setOther (j := 3) hge hne (.int .i64 n)).setOther (j := 4) hge hne (.slice A4 (extendR (cutR s.li n) s.ep n).length c4)
    have KO := ((H4.out.2.2.1.set 1 (.int .i64 2)).set 3 (.int .i64 n)).set 4 (.slice A4 (extendR (cutR s.li n) s.ep n).length c4)
    have HO := ((H4.out.2.2.2.setOther (j := 1) H4.out.2.2.1.blk (by decide) (.int .i64 2)).setOther (j := 3) (H4.out.2.2.1.set 1 (.int .i64 2)).blk (by decide) (.int .i64 n)).setOther (j := 4) ((H4.out.2.2.1.set 1 (.int .i64 2)).set 3 (.int .i64 n)).blk (by decide) (.slice A4 (extendR (cutR s.li n) s.ep n).length c4)
    replace HO := HO.mono H3.out.1.bel.size
    clear y0 y1 y2 y3 y4 y5 y6 y7 y8 x2 x4 p0 p1 p2 p3 p4 p5 p6 p7 p8 H3 H4 HK
    rename_i hx
    clear hx
    generalize ((w4.setCell ⟨g2, 1, none⟩ (.int .i64 2)).setCell ⟨g2, 3, none⟩ (.int .i64 n)).setCell ⟨g2, 4, none⟩ (.slice A4 (extendR (cutR s.li n) s.ep n).length c4) = W5 at KR KO HO ⊢
    obtain ⟨⟨p0, p1, p2, p3, p4, p5, p6, p7⟩, p8⟩ := KO.c8
    obtain ⟨⟨q0, q1, q2, q3, q4, q5, q6, q7⟩, q8⟩ := KR.c8
    have hlt1 := KR.lt
    have KK := Keep.mk (And.intro KR HO)
    clear KR KO HO
    go_wp2
    have S := site_stored KK.out.1 ({ s with ro := 2, ap := n, li := extendR (cutR s.li n) s.ep n } : Site) A4 c4 KK.out.2
    exact bodyPost_ret (results_row_tmp rfl _ _ (w.heap.size + 1) 24 _ _ rfl S.1.blk Try.underlying24 rfl (by kernel_rfl)) rfl ⟨A4, c4, rfl, S.2, S.1.bel⟩
  · have hv : syncedWith cutR s n = (zS, checkS s) := by simp [syncedWith, h1]
    rw [hv]
    have h1' : (checkS s != 0) = true := by simpa using h1
    clear h1 hv
    go_enter Try.func19, Try.ntmps19
    go_wp2_with (first
      | (go_at_call 32; refine (ref_Check _ s _ _ ((HC.out.alloc _).alloc _)).mono ?_; rintro e w1 ⟨rfl, hB⟩; have K0 := ((Held.new (Below.refl w.heap.size w) [.int .i64 s.nu, .int .i64 s.ro, .int .i64 s.ep, .int .i64 s.ap, .slice A s.li.length c, .int .i64 s.so, .bool s.al, .bool s.co] 24).alloc (.cells #[.int .i64 0, .int .i64 0, .int .i64 0, .int .i64 0, .slice none 0 0, .int .i64 0, .bool false, .bool false] 24)).step hB; have K1 := (Held.new1 w _ [.int .i64 0, .int .i64 0, .int .i64 0, .int .i64 0, .slice none 0 0, .int .i64 0, .bool false, .bool false] 24).step hB; clear hB; obtain ⟨⟨p0, p1, p2, p3, p4, p5, p6, p7⟩, p8⟩ := K0.c8; obtain ⟨⟨q0, q1, q2, q3, q4, q5, q6, q7⟩, q8⟩ := K1.c8; have hlt0 := K0.lt; have hlt1 := K1.lt; have KK := Keep.mk (And.intro K0 K1); clear K0 K1)
      | (go_at_call 45; refine (ref_site _ _).mono ?_; rintro e w' ⟨rfl, rfl⟩)
      | (go_at_call 43; refine (ref_Copy _ s _ _ (HC.out.below KK.out.1.bel)).mono ?_; rintro e w2 ⟨A2, c2, rfl, hO, hB⟩; have HO := Keep.mk (hO.mono KK.out.1.bel.size); have K0 := KK.out.1.step hB; have K1 := KK.out.2.step hB; clear hO hB KK p0 p1 p2 p3 p4 p5 p6 p7 p8 q0 q1 q2 q3 q4 q5 q6 q7 q8; obtain ⟨⟨p0, p1, p2, p3, p4, p5, p6, p7⟩, p8⟩ := K0.c8; obtain ⟨⟨q0, q1, q2, q3, q4, q5, q6, q7⟩, q8⟩ := K1.c8; have hlt0 := K0.lt; have hlt1 := K1.lt; have KK := Keep.mk (And.intro K0 K1); clear K0 K1))
    exact bodyPost_ret (results_row_tmp rfl _ _ (w.heap.size + 1) 24 _ _ rfl (site_stored KK.out.2 zS none 0 (OwnSp.nil _ w.heap.size)).1.blk Try.underlying24 rfl (by kernel_rfl)) rfl ⟨none, 0, rfl, (site_stored KK.out.2 zS none 0 (OwnSp.nil _ w.heap.size)).2, (site_stored KK.out.2 zS none 0 (OwnSp.nil _ w.heap.size)).1.bel⟩
end Go.Proofs.Ytfkdcjkkmfhalaa
