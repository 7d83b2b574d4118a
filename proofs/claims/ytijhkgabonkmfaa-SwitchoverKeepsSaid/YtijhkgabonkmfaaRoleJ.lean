/- Contract: role.Apply. -/
import Derived.Test.YtijhkgabonkmfaaRoleI
namespace Go.Proofs.Ytijhkgabonkmfaa
open Go.RowKit
set_option linter.unusedSimpArgs false
set_option linter.unusedVariables false
def mxI (x y : Int) : Int := if x < y then y else x
theorem max2_mx (k k' : IntKind) (x y : Int) : Builtin.max2 (.int k x) (.int k' y) = pure (.int k (mxI x y)) := max2_int k k' x y
attribute [local go_sem] max2_mx max_two
abbrev apK (s : Site) (e n : Int) (b1 b2 : Bool) : Int := dem (dem (dem (dem (checkS s) b1 18) b2 13) (decide (mxI e n ≤ 1073741824)) 2) (decide (s.ap < n)) 8
theorem max_if (e n : Int) : max e n = mxI e n := by unfold mxI; rw [Int.max_def]; split <;> split <;> omega
theorem apply_val (s : Site) (e n : Int) (b1 b2 : Bool) (h1 : okA s = b1) (h2 : okAE s e = b2) : applyS s e n = (if apK s e n b1 b2 = 0 then { s with ep := e, ap := n, li := extendS s.li e s.ap n } else zS, apK s e n b1 b2) := by
  subst h1 h2
  unfold applyS apK
  rw [max_if]
  generalize okA s = a
  generalize okAE s e = b
  generalize mxI e n = m
  generalize hk : checkS s = k
  by_cases h1 : k = 0
  · cases a
    · simp [dem, h1]
    · cases b
      · simp [dem, h1]
      · by_cases h5 : m ≤ 1073741824
        · by_cases h6 : s.ap < n <;> simp [dem, h1, h5, h6]
        · simp [dem, h1, h5]
  · simp [dem, h1]
theorem okA_ways (s : Site) (e : Int) : ((s.ro == 1) = true ∧ okA s = true ∧ (s.ro != 1) = false ∧ ((decide (s.ep ≤ e) = false ∧ okAE s e = false) ∨ (decide (s.ep ≤ e) = true ∧ (e != 0) = false ∧ okAE s e = false) ∨ (decide (s.ep ≤ e) = true ∧ (e != 0) = true ∧ okAE s e = (e == s.ep)))) ∨
    ((s.ro == 1) = false ∧ okA s = (s.ro == 2) ∧ (s.ro != 1) = true ∧ ((decide (s.ep ≤ e) = false ∧ okAE s e = false) ∨ (decide (s.ep ≤ e) = true ∧ (e != 0) = false ∧ okAE s e = false) ∨ (decide (s.ep ≤ e) = true ∧ (e != 0) = true ∧ okAE s e = true))) := by
  unfold okA okAE
  cases h : (s.ro == 1)
  · right
    refine ⟨rfl, by simp, by simp only [bne, h]; rfl, ?_⟩
    cases h1 : decide (s.ep ≤ e)
    · left; simp
    · cases h2 : (e != 0)
      · right; left; simp
      · right; right; simp only [bne, h]; simp
  · left
    refine ⟨rfl, by simp, by simp only [bne, h]; rfl, ?_⟩
    cases h1 : decide (s.ep ≤ e)
    · left; simp
    · cases h2 : (e != 0)
      · right; left; simp
      · right; right; simp only [bne, h]; simp
theorem dem_zero {e x : Int} {b : Bool} (h : dem e b x = 0) (hx : x ≠ 0) : e = 0 := by
  unfold dem at h
  split at h
  · exact absurd h hx
  · exact h
theorem checkS_zero {s : Site} (h : checkS s = 0) : 0 ≤ s.ap ∧ s.ap ≤ 1073741824 ∧ 0 ≤ s.ep ∧ s.ep ≤ 1073741824 := by
  unfold checkS at h
  split at h
  · split at h
    · split at h
      · rename_i hh
        have h1 := hh.1
        have h2 := hh.2.1
        simp only [inB, Bool.and_eq_true, decide_eq_true_eq] at h1 h2
        omega
      · exact absurd h (by decide)
    · exact absurd h (by decide)
  · exact absurd h (by decide)
theorem apK_zero {s : Site} {e n : Int} {b1 b2 : Bool} (h : (apK s e n b1 b2 == 0) = true) : 0 ≤ s.ap ∧ s.ap ≤ 1073741824 := by
  have := checkS_zero (dem_zero (dem_zero (dem_zero (dem_zero (beq_iff_eq.1 h) (by decide)) (by decide)) (by decide)) (by decide))
  omega
theorem apply_yes {s : Site} {e n : Int} {b1 b2 : Bool} (hv : applyS s e n = (if apK s e n b1 b2 = 0 then { s with ep := e, ap := n, li := extendS s.li e s.ap n } else zS, apK s e n b1 b2)) (h : (apK s e n b1 b2 == 0) = true) :
    applyS s e n = (if apK s e n b1 b2 = 0 then { s with ep := e, ap := n, li := extendS s.li e s.ap n } else zS, apK s e n b1 b2) := hv
theorem apply_no {s : Site} {e n : Int} {b1 b2 : Bool} (hv : applyS s e n = (if apK s e n b1 b2 = 0 then { s with ep := e, ap := n, li := extendS s.li e s.ap n } else zS, apK s e n b1 b2)) (h : (apK s e n b1 b2 == 0) = false) :
    applyS s e n = (if apK s e n b1 b2 = 0 then s else zS, apK s e n b1 b2) := by
  have : apK s e n b1 b2 ≠ 0 := by simpa using h
  rw [hv, if_neg this, if_neg this]
theorem Tr.c9 {w0 W : World} {g : Nat} {s : Site} {e : Int} (h : Tr w0 g s e W) : W.cell? ⟨g, 8, none⟩ = some (.int .i64 e) ∧ W.cell? ⟨g, 1, none⟩ = some (.int .i64 s.ro) ∧ W.cell? ⟨g, 2, none⟩ = some (.int .i64 s.ep) ∧ W.cell? ⟨g, 3, none⟩ = some (.int .i64 s.ap) ∧ ∀ j, W.frozen? ⟨g, j, none⟩ = false := by
  obtain ⟨A, c, K, _⟩ := h
  exact ⟨K.cell 8 _ rfl, K.cell 1 _ rfl, K.cell 2 _ rfl, K.cell 3 _ rfl, K.frozen⟩
theorem Tr.setAp {w0 W : World} {g : Nat} {s : Site} {e : Int} (h : Tr w0 g s e W) (p n : Int) : Tr w0 g { s with ep := p, ap := n } e ((W.setCell ⟨g, 3, none⟩ (.int .i64 n)).setCell ⟨g, 2, none⟩ (.int .i64 p)) := by
  obtain ⟨A, c, K, HO⟩ := h
  exact ⟨A, c, (K.set 3 _).set 2 _, (HO.setOther K.blk (by decide) _).setOther (K.set 3 _).blk (by decide) _⟩
set_option maxHeartbeats 2000000 in
theorem role_Apply (w : World) (s : Site) (A : Option Addr) (c : Nat) (ep n : Int) (hls : s.li.length ≤ 1000000) (h : SpansAt w A c s.li) :
    Calls Try.prog 48 #[.agg #[.int .i64 s.nu, .int .i64 s.ro, .int .i64 s.ep, .int .i64 s.ap, .slice A s.li.length c, .int .i64 s.so, .bool s.al, .bool s.co], .int .i64 ep, .int .i64 n] w (SiteRes w.heap.size w (applyS s ep n)) := by
  have HC := Keep.mk h
  have hl := h.len
  clear h
  rcases okA_ways s ep with ⟨h1, ha, h2, ⟨h3, hb⟩ | ⟨h3, h4, hb⟩ | ⟨h3, h4, hb⟩⟩ | ⟨h1, ha, h2, ⟨h3, hb⟩ | ⟨h3, h4, hb⟩ | ⟨h3, h4, hb⟩⟩
  all_goals
    have HV := Keep.mk (apply_val s ep n _ _ ha hb)
    clear ha hb
    go_enter Try.func48, Try.ntmps48
    go_wp2_with (first
      | (go_at_call 68; refine (role_begin _ s _ _ ((HC.out.alloc _).alloc _)).mono ?_; rintro e w1 ⟨g, rfl, T⟩; obtain ⟨hcl, hfz⟩ := bcell T.bel)
      | (go_at_call 69; refine (tr_demand _ _ _ _ _ _ _ (by assumption)).mono ?_; rintro e w2 ⟨rfl, T⟩; obtain ⟨hcl, hfz⟩ := bcell T.bel; obtain ⟨t8, t1, t2, t3, tf⟩ := T.c9))
  all_goals first
    | (refine (tr_extend _ _ _ _ _ _ _ _ (apK_zero (by assumption)).1 (apK_zero (by assumption)).2 hls (by assumption)).mono ?_
       rintro e w2 ⟨rfl, T⟩
       obtain ⟨hcl, hfz⟩ := bcell T.bel
       obtain ⟨t8, t1, t2, t3, tf⟩ := T.c9
       go_wp2_with fail
       have T := T.setAp ep n
       refine (tr_end _ _ _ _ _ _ (apply_yes HV.out (by assumption)) T).mono ?_
       rintro e w3 ⟨A3, c3, rfl, hsp, hb⟩
       have HS := Keep.mk hsp
       have HB := Keep.mk (below_then T.bel hb)
       obtain ⟨hcl, hfz⟩ := bcell HB.out
       clear hsp hb
       go_wp2
       have S := site_stored ((Held.new1 w _ [.int .i64 0, .int .i64 0, .int .i64 0, .int .i64 0, .slice none 0 0, .int .i64 0, .bool false, .bool false] 57).step HB.out) (applyS s ep n).1 A3 c3 HS.out
       exact bodyPost_ret (results_row_tmp rfl _ _ (w.heap.size + 1) 57 _ _ rfl S.1.blk Try.underlying57 rfl (by kernel_rfl)) rfl ⟨A3, c3, rfl, S.2.mono (by simp; omega), S.1.bel⟩)
    | (refine (tr_end _ _ _ _ _ _ (apply_no HV.out (by assumption)) (by assumption)).mono ?_
       rintro e w3 ⟨A3, c3, rfl, hsp, hb⟩
       have HS := Keep.mk hsp
       have HB := Keep.mk (below_then T.bel hb)
       obtain ⟨hcl, hfz⟩ := bcell HB.out
       clear hsp hb
       go_wp2
       have S := site_stored ((Held.new1 w _ [.int .i64 0, .int .i64 0, .int .i64 0, .int .i64 0, .slice none 0 0, .int .i64 0, .bool false, .bool false] 57).step HB.out) (applyS s ep n).1 A3 c3 HS.out
       exact bodyPost_ret (results_row_tmp rfl _ _ (w.heap.size + 1) 57 _ _ rfl S.1.blk Try.underlying57 rfl (by kernel_rfl)) rfl ⟨A3, c3, rfl, S.2.mono (by simp; omega), S.1.bel⟩)
end Go.Proofs.Ytijhkgabonkmfaa
