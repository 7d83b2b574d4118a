/- Contracts: role.Promote, Demote, Isolate, Rejoin. -/
import Derived.Test.YtijhkgabonkmfaaRoleD
namespace Go.Proofs.Ytijhkgabonkmfaa
open Go.RowKit
set_option linter.unusedSimpArgs false
set_option linter.unusedVariables false
def promVal (s : Site) (e : Int) (b : Bool) : Site × Int :=
  (if dem (dem (dem (dem (checkS s) s.al 12) b 18) (decide (s.ep < e)) 13) (decide (e ≤ 1073741824)) 2 = 0 then { s with ro := 1, ep := e, so := -1 } else zS, dem (dem (dem (dem (checkS s) s.al 12) b 18) (decide (s.ep < e)) 13) (decide (e ≤ 1073741824)) 2)
theorem promote_val (s : Site) (e : Int) : promoteS s e = promVal s e (okP s) := by
  unfold promoteS promVal
  generalize okP s = b
  generalize hk : checkS s = k
  by_cases h1 : k = 0
  · cases h2 : s.al
    · simp [dem, h1]
    · cases b
      · simp [dem, h1]
      · by_cases h4 : s.ep < e
        · by_cases h5 : e ≤ 1073741824 <;> simp [dem, h1, h4, h5, h2]
        · simp [dem, h1, h4]
  · simp [dem, h1]
theorem okP_ways (s : Site) :
    ((s.ro == 0) = true ∧ ((s.li.length : Int) == 0) = true ∧ okP s = true) ∨ ((s.ro == 0) = true ∧ ((s.li.length : Int) == 0) = false ∧ (s.ro == 2) = false ∧ (s.ro == 3) = false ∧ okP s = false) ∨
    ((s.ro == 0) = false ∧ (s.ro == 2) = true ∧ okP s = true) ∨ ((s.ro == 0) = false ∧ (s.ro == 2) = false ∧ (s.ro == 3) = true ∧ okP s = true) ∨ ((s.ro == 0) = false ∧ (s.ro == 2) = false ∧ (s.ro == 3) = false ∧ okP s = false) := by
  unfold okP
  cases h0 : (s.ro == 0) <;> cases h1 : ((s.li.length : Int) == 0) <;> cases h2 : (s.ro == 2) <;> cases h3 : (s.ro == 3) <;> simp_all
set_option maxHeartbeats 4000000 in
theorem role_Promote (w : World) (s : Site) (A : Option Addr) (c : Nat) (ep : Int) (h : SpansAt w A c s.li) :
    Calls Try.prog 79 #[.agg #[.int .i64 s.nu, .int .i64 s.ro, .int .i64 s.ep, .int .i64 s.ap, .slice A s.li.length c, .int .i64 s.so, .bool s.al, .bool s.co], .int .i64 ep] w (SiteRes w.heap.size w (promoteS s ep)) := by
  have HC := Keep.mk h
  have hl := h.len
  clear h
  rcases okP_ways s with ⟨h0, h1, hk⟩ | ⟨h0, h1, h2, h3, hk⟩ | ⟨h0, h2, hk⟩ | ⟨h0, h2, h3, hk⟩ | ⟨h0, h2, h3, hk⟩
  all_goals
    have HV := Keep.mk ((promote_val s ep).trans (congrArg (promVal s ep) hk))
    clear hk
    go_enter Try.func79, Try.ntmps79
    go_wp2_with (first
      | (go_at_call 68; refine (role_begin _ s _ _ ((HC.out.alloc _).alloc _)).mono ?_; rintro e w1 ⟨g, rfl, T⟩; obtain ⟨hcl, hfz⟩ := bcell T.bel)
      | (go_at_call 69; refine (tr_demand _ _ _ _ _ _ _ (by assumption)).mono ?_; rintro e w2 ⟨rfl, T⟩; obtain ⟨hcl, hfz⟩ := bcell T.bel)
      | (go_at_call 82; refine (tr_become _ _ _ _ _ _ _ _ (by assumption)).mono ?_; rintro e w2 ⟨rfl, T⟩; obtain ⟨hcl, hfz⟩ := bcell T.bel)
      | (go_at_call 71; refine (tr_end _ _ _ _ _ (promoteS s ep) HV.out (by assumption)).mono ?_; rintro e w3 ⟨A3, c3, rfl, hsp, hb⟩; have HS := Keep.mk hsp; have HB := Keep.mk (below_then T.bel hb); obtain ⟨hcl, hfz⟩ := bcell HB.out; clear hsp hb))
    have S := site_stored ((Held.new1 w _ [.int .i64 0, .int .i64 0, .int .i64 0, .int .i64 0, .slice none 0 0, .int .i64 0, .bool false, .bool false] 57).step HB.out) (promoteS s ep).1 A3 c3 HS.out
    exact bodyPost_ret (results_row_tmp rfl _ _ (w.heap.size + 1) 57 _ _ rfl S.1.blk Try.underlying57 rfl (by kernel_rfl)) rfl ⟨A3, c3, rfl, S.2.mono (by simp; omega), S.1.bel⟩
def demVal (s : Site) (e src : Int) (b : Bool) (r : Int) : Site × Int :=
  (if dem (dem (dem (dem (checkS s) (s.ro == 1) 18) (decide (s.ep ≤ e)) 13) (decide (e ≤ 1073741824)) 2) b 1 = 0 then { s with ro := r, ep := e, so := src } else zS, dem (dem (dem (dem (checkS s) (s.ro == 1) 18) (decide (s.ep ≤ e)) 13) (decide (e ≤ 1073741824)) 2) b 1)
theorem demote_val (s : Site) (e src : Int) (b : Bool) (r : Int) (hb : okD s src = b) (hr : (if src = -1 then (5 : Int) else 2) = r) : demoteS s e src = demVal s e src b r := by
  subst hb hr
  unfold demoteS demVal
  generalize okD s src = b
  generalize (s.ro == 1) = a
  generalize hk : checkS s = k
  by_cases h1 : k = 0
  · cases a
    · simp [dem, h1]
    · by_cases h4 : s.ep ≤ e
      · by_cases h5 : e ≤ 1073741824
        · cases b <;> simp [dem, h1, h4, h5]
        · simp [dem, h1, h4, h5]
      · simp [dem, h1, h4]
  · simp [dem, h1]
set_option maxHeartbeats 4000000 in
theorem role_Demote (w : World) (s : Site) (A : Option Addr) (c : Nat) (ep src : Int) (h : SpansAt w A c s.li) :
    Calls Try.prog 78 #[.agg #[.int .i64 s.nu, .int .i64 s.ro, .int .i64 s.ep, .int .i64 s.ap, .slice A s.li.length c, .int .i64 s.so, .bool s.al, .bool s.co], .int .i64 ep, .int .i64 src] w (SiteRes w.heap.size w (demoteS s ep src)) := by
  have HC := Keep.mk h
  have hl := h.len
  clear h
  by_cases h0 : src = -1
  · subst h0
    have HV := Keep.mk (demote_val s ep (-1) true 5 (by simp [okD]) (by simp))
    go_enter Try.func78, Try.ntmps78
    go_wp2_with (first
      | (go_at_call 68; refine (role_begin _ s _ _ ((HC.out.alloc _).alloc _)).mono ?_; rintro e w1 ⟨g, rfl, T⟩; obtain ⟨hcl, hfz⟩ := bcell T.bel)
      | (go_at_call 69; refine (tr_demand _ _ _ _ _ _ _ (by assumption)).mono ?_; rintro e w2 ⟨rfl, T⟩; obtain ⟨hcl, hfz⟩ := bcell T.bel)
      | (go_at_call 67; refine (role_other s _ _ _ _).mono ?_; rintro e w2 ⟨rfl, hb⟩; have T := Tr.step (by assumption) hb; clear hb; obtain ⟨hcl, hfz⟩ := bcell T.bel)
      | (go_at_call 82; refine (tr_become _ _ _ _ _ _ _ _ (by assumption)).mono ?_; rintro e w2 ⟨rfl, T⟩; obtain ⟨hcl, hfz⟩ := bcell T.bel)
      | (go_at_call 71; refine (tr_end _ _ _ _ _ _ HV.out (by assumption)).mono ?_; rintro e w3 ⟨A3, c3, rfl, hsp, hb⟩; have HS := Keep.mk hsp; have HB := Keep.mk (below_then T.bel hb); obtain ⟨hcl, hfz⟩ := bcell HB.out; clear hsp hb))
    have S := site_stored ((Held.new1 w _ [.int .i64 0, .int .i64 0, .int .i64 0, .int .i64 0, .slice none 0 0, .int .i64 0, .bool false, .bool false] 57).step HB.out) (demoteS s ep (-1)).1 A3 c3 HS.out
    exact bodyPost_ret (results_row_tmp rfl _ _ (w.heap.size + 1) 57 _ _ rfl S.1.blk Try.underlying57 rfl (by kernel_rfl)) rfl ⟨A3, c3, rfl, S.2.mono (by simp; omega), S.1.bel⟩
  · have HV := Keep.mk (demote_val s ep src (otherS s src) 2 (by simp [okD, h0]) (by simp [h0]))
    have h1 : (src == -1) = false := by simpa using h0
    clear h0
    go_enter Try.func78, Try.ntmps78
    go_wp2_with (first
      | (go_at_call 68; refine (role_begin _ s _ _ ((HC.out.alloc _).alloc _)).mono ?_; rintro e w1 ⟨g, rfl, T⟩; obtain ⟨hcl, hfz⟩ := bcell T.bel)
      | (go_at_call 69; refine (tr_demand _ _ _ _ _ _ _ (by assumption)).mono ?_; rintro e w2 ⟨rfl, T⟩; obtain ⟨hcl, hfz⟩ := bcell T.bel)
      | (go_at_call 67; refine (role_other s _ _ _ _).mono ?_; rintro e w2 ⟨rfl, hb⟩; have T := Tr.step (by assumption) hb; clear hb; obtain ⟨hcl, hfz⟩ := bcell T.bel)
      | (go_at_call 82; refine (tr_become _ _ _ _ _ _ _ _ (by assumption)).mono ?_; rintro e w2 ⟨rfl, T⟩; obtain ⟨hcl, hfz⟩ := bcell T.bel)
      | (go_at_call 71; refine (tr_end _ _ _ _ _ _ HV.out (by assumption)).mono ?_; rintro e w3 ⟨A3, c3, rfl, hsp, hb⟩; have HS := Keep.mk hsp; have HB := Keep.mk (below_then T.bel hb); obtain ⟨hcl, hfz⟩ := bcell HB.out; clear hsp hb))
    have S := site_stored ((Held.new1 w _ [.int .i64 0, .int .i64 0, .int .i64 0, .int .i64 0, .slice none 0 0, .int .i64 0, .bool false, .bool false] 57).step HB.out) (demoteS s ep src).1 A3 c3 HS.out
    exact bodyPost_ret (results_row_tmp rfl _ _ (w.heap.size + 1) 57 _ _ rfl S.1.blk Try.underlying57 rfl (by kernel_rfl)) rfl ⟨A3, c3, rfl, S.2.mono (by simp; omega), S.1.bel⟩
def isoVal (s : Site) : Site × Int := (if dem (checkS s) (s.ro == 2) 18 = 0 then { s with ro := 3, so := -1 } else zS, dem (checkS s) (s.ro == 2) 18)
theorem isolate_val (s : Site) : isolateS s = isoVal s := by
  unfold isolateS isoVal
  generalize (s.ro == 2) = a
  generalize hk : checkS s = k
  by_cases h1 : k = 0
  · cases a <;> simp [dem, h1]
  · simp [dem, h1]
def rejVal (s : Site) (e src : Int) (b1 b2 : Bool) (r : Int) : Site × Int :=
  (if dem (dem (dem (dem (checkS s) b1 18) b2 13) (decide (e ≤ 1073741824)) 2) (otherS s src) 1 = 0 then { s with ro := r, ep := e, so := src } else zS, dem (dem (dem (dem (checkS s) b1 18) b2 13) (decide (e ≤ 1073741824)) 2) (otherS s src) 1)
theorem rejoin_val (s : Site) (e src : Int) (b1 b2 : Bool) (r : Int) (h1 : okR s = b1) (h2 : okE s e = b2) (hr : (if s.ro = 3 ∧ e = s.ep then (2 : Int) else 4) = r) : rejoinS s e src = rejVal s e src b1 b2 r := by
  subst h1 h2 hr
  unfold rejoinS rejVal
  generalize okR s = a
  generalize okE s e = b
  generalize otherS s src = d
  generalize hk : checkS s = k
  by_cases h1 : k = 0
  · cases a
    · simp [dem, h1]
    · cases b
      · simp [dem, h1]
      · by_cases h5 : e ≤ 1073741824
        · cases d <;> simp [dem, h1, h5]
        · simp [dem, h1, h5]
  · simp [dem, h1]
end Go.Proofs.Ytijhkgabonkmfaa
