/- The walk of RoleChecks: it returns true at every input, and what was there is as it was. -/
import Derived.Test.YtfkdcjkkmfhalaaRefK
namespace Go.Proofs.Ytfkdcjkkmfhalaa
open Go.RowKit
set_option linter.unusedSimpArgs false
set_option linter.unusedVariables false
/-- a site in a block of the call's own, whatever has been made since -/
def OneC (w w0 : World) (g : Nat) (s : Site) (A : Option Addr) (c : Nat) (W : World) : Prop := Held w g [.int .i64 s.nu, .int .i64 s.ro, .int .i64 s.ep, .int .i64 s.ap, .slice A s.li.length c, .int .i64 s.so, .bool s.al, .bool s.co] 24 W ∧ Below w0.heap.size w0 W
theorem OneC.step {w w0 W W' : World} {g : Nat} {s : Site} {A : Option Addr} {c : Nat} (h : OneC w w0 g s A c W) (hb : Below W.heap.size W W') : OneC w w0 g s A c W' := ⟨h.1.step hb, below_then h.2 hb⟩
theorem one_check {w w0 : World} {g : Nat} {s : Site} {A : Option Addr} {c : Nat} (h : SpansAt w0 A c s.li) (W : World) (hW : OneC w w0 g s A c W) :
    Calls Try.prog 23 #[.agg #[.int .i64 s.nu, .int .i64 s.ro, .int .i64 s.ep, .int .i64 s.ap, .slice A s.li.length c, .int .i64 s.so, .bool s.al, .bool s.co]] W fun e w' => e = .returned (.int .i64 (checkS s)) ∧ OneC w w0 g s A c w' :=
  (role_Check W s A c (h.below hW.2)).mono fun _ _ h => ⟨h.1, hW.step h.2⟩
theorem one_rcheck {w w0 : World} {g : Nat} {s : Site} {A : Option Addr} {c : Nat} (h : SpansAt w0 A c s.li) (W : World) (hW : OneC w w0 g s A c W) :
    Calls Try.prog 32 #[.agg #[.int .i64 s.nu, .int .i64 s.ro, .int .i64 s.ep, .int .i64 s.ap, .slice A s.li.length c, .int .i64 s.so, .bool s.al, .bool s.co]] W fun e w' => e = .returned (.int .i64 (checkS s)) ∧ OneC w w0 g s A c w' :=
  (ref_Check W s A c (h.below hW.2)).mono fun _ _ h => ⟨h.1, hW.step h.2⟩
theorem one_allowed {w w0 : World} {g : Nat} {s : Site} {A : Option Addr} {c : Nat} (o : Int) (h : SpansAt w0 A c s.li) (W : World) (hW : OneC w w0 g s A c W) :
    Calls Try.prog 22 #[.agg #[.int .i64 s.nu, .int .i64 s.ro, .int .i64 s.ep, .int .i64 s.ap, .slice A s.li.length c, .int .i64 s.so, .bool s.al, .bool s.co], .int .i64 o] W fun e w' => e = .returned (.bool (allowedS s o)) ∧ OneC w w0 g s A c w' :=
  (role_Allowed W s A c o (h.below hW.2)).mono fun _ _ h => ⟨h.1, hW.step h.2⟩
theorem one_rallowed {w w0 : World} {g : Nat} {s : Site} {A : Option Addr} {c : Nat} (o : Int) (h : SpansAt w0 A c s.li) (W : World) (hW : OneC w w0 g s A c W) :
    Calls Try.prog 33 #[.agg #[.int .i64 s.nu, .int .i64 s.ro, .int .i64 s.ep, .int .i64 s.ap, .slice A s.li.length c, .int .i64 s.so, .bool s.al, .bool s.co], .int .i64 o] W fun e w' => e = .returned (.bool (allowedS s o)) ∧ OneC w w0 g s A c w' :=
  (ref_Allowed W s A c o (h.below hW.2)).mono fun _ _ h => ⟨h.1, hW.step h.2⟩
set_option maxRecDepth 100000 in
set_option maxHeartbeats 4000000 in
theorem law_RoleChecks (w : World) (A : Option Addr) (c : Nat) (l : List Site) (op : Int) (h : l.length ≤ 20 → SitesAt 20 w A c l) :
    Calls Try.prog 9 #[.slice A l.length c, .int .i64 op] w fun e w' => e = .returned (.bool true) ∧ Below w.heap.size w w' := by
  by_cases h1 : l.length ≤ 10
  · have HC := Keep.mk (h (by omega))
    have h2 : decide (10 < (l.length : Int)) = false := by simp; omega
    clear h
    by_cases hany : l.any (fun x => !decide ((x.li.length : Int) ≤ 20)) = true
    · have HA := Keep.mk hany
      clear hany
      go_enter Try.func9, Try.ntmps9
      go_wp2_with (first
        | (go_at_call 30; (with_reducible refine (contains_few _ A c l.length 20 l rfl HC.out).mono ?_); rw [HA.out]; rintro e w1 ⟨rfl, hB⟩; have HB1 := Keep.mk hB; clear hB)
        | (go_at_call 12; (with_reducible refine (law_awake _).mono ?_); rintro e w9 ⟨rfl, hB⟩; have HB9 := Keep.mk (below_then HB1.out hB); clear hB))
      go_ret
      exact ⟨rfl, HB9.out⟩
    · have hany' : l.any (fun x => !decide ((x.li.length : Int) ≤ 20)) = false := by simpa using hany
      have HA := Keep.mk hany'
      have HB0 := Keep.mk (show ∀ x, x ∈ l → x.li.length ≤ 20 by
        intro x hx
        have := List.any_eq_false.1 hany' x hx
        simp at this; omega)
      clear hany hany'
      go_enter Try.func9, Try.ntmps9
      go_wp2_with (first
        | (go_at_call 30; (with_reducible refine (contains_few _ A c l.length 20 l rfl HC.out).mono ?_); rw [HA.out]; rintro e w1 ⟨rfl, hB⟩; have HB1 := Keep.mk hB; clear hB))
      go_loopg [21] l.length (fun g i wr => ∃ k : Nat, g = l.length - k ∧ k ≤ l.length ∧ i = .int .i64 k ∧ Keep (Below w.heap.size w wr))
      case atStart => exact ⟨0, by omega, by omega, rfl, HB1⟩
      case round =>
        obtain ⟨k, rfl, hk, rfl, H8⟩ := hrel
        by_cases hk2 : k < l.length
        · obtain ⟨b, o, A', c', hA, hb, c0, c1, c2, c3, c4, c5, c6, c7, c8⟩ := (HC.out.below H8.out).at_ k hk2
          subst hA
          have hmem : l.getD k zS ∈ l := by rw [List.getD_eq_getElem?_getD, List.getElem?_eq_getElem hk2]; exact List.getElem_mem hk2
          have HS := Keep.mk (c8 (HB0.out _ hmem))
          clear c8 hmem
          generalize l.getD k zS = s at c0 c1 c2 c3 c4 c5 c6 c7 HS
          go_wp2_with fail
          have hC : OneC w wr wr.heap.size s A' c' (wr.alloc (.cells #[.int .i64 s.nu, .int .i64 s.ro, .int .i64 s.ep, .int .i64 s.ap, .slice A' s.li.length c', .int .i64 s.so, .bool s.al, .bool s.co] 24)) := ⟨Held.new H8.out _ _, below_new (Below.refl _ _) _⟩
          refine wp_region_class (OneC w wr wr.heap.size s A' c') (by kernel_rfl) (by kernel_rfl) (OneC.step hC (below_drew (Below.refl _ _))) ?_
          repeat (first
            | (refine wq_skip (by rfl) ?_; simp only [Act.put, List.setIfInBounds_toArray, List.set_cons_succ, List.set_cons_zero])
            | (refine wq_ran (by rfl) ?_; apply Exists.intro; refine ⟨fun W hW => ?_, ?_⟩; ((((try (obtain ⟨e1, -⟩ := hW; obtain ⟨⟨p0, p1, p2, p3, p4, p5, p6, p7⟩, p8⟩ := e1.c8))); go_simp; rfl)); simp only [Act.put, List.setIfInBounds_toArray, List.set_cons_succ, List.set_cons_zero])
            | (refine wq_called (by rfl) ?_; apply Exists.intro; apply Exists.intro; apply Exists.intro; refine ⟨fun W hW => ?_, fun W hW => ?_, ?_⟩; ((go_simp; first | rfl | exact ⟨rfl, rfl⟩)); (first | with_reducible exact one_check HS.out W hW | with_reducible exact one_rcheck HS.out W hW | with_reducible exact one_allowed op HS.out W hW | with_reducible exact one_rallowed op HS.out W hW); simp only [Act.put, List.setIfInBounds_toArray, List.set_cons_succ, List.set_cons_zero]))
          refine wpQuiet_nil ?_
          intro W hW
          go_wp2
          go_roundg (l.length - (k + 1))
          case measure => omega
          case rel => exact ⟨k + 1, rfl, by omega, by go_num, ⟨hW.1.bel⟩⟩
        · have : k = l.length := by omega
          subst this
          go_wp2_with (first
            | (go_at_call 34; (with_reducible refine (role_CheckAll _ A c 20 l HB0.out (HC.out.below H8.out)).mono ?_); rintro e w3 ⟨rfl, hB⟩; have HB3 := Keep.mk (below_then H8.out hB); clear hB)
            | (go_at_call 35; (with_reducible refine (ref_CheckAll _ A c 20 l HB0.out (HC.out.below HB3.out)).mono ?_); rintro e w4 ⟨rfl, hB⟩; have HB4 := Keep.mk (below_then HB3.out hB); clear hB)
            | (go_at_call 12; (with_reducible refine (law_awake _).mono ?_); rintro e w9 ⟨rfl, hB⟩; have HB9 := Keep.mk (below_then HB4.out hB); clear hB))
          go_ret
          exact ⟨rfl, HB9.out⟩
  · have h2 : decide (10 < (l.length : Int)) = true := by simp; omega
    clear h h1
    go_enter Try.func9, Try.ntmps9
    go_wp2_with (go_at_call 12; refine (law_awake _).mono ?_; rintro e w9 ⟨rfl, hB⟩; have HB9 := Keep.mk hB; clear hB)
    go_ret
    exact ⟨rfl, HB9.out⟩
end Go.Proofs.Ytfkdcjkkmfhalaa
