/- Contract: standbyref51.SameAll of equal sites. -/
import Derived.Test.YtijhkgabonkmfaaSwU
import Derived.Test.YtijhkgabonkmfaaRoleG
namespace Go.Proofs.Ytijhkgabonkmfaa
open Go.RowKit
set_option linter.unusedSimpArgs false
set_option linter.unusedVariables false
set_option maxRecDepth 100000
theorem SitesAt.atq {B : Nat} {w : World} {A : Option Addr} {c : Nat} {l : List Site} (h : SitesAt B w A c l) (hB : ∀ x, x ∈ l → x.li.length ≤ B) (i : Nat) (hi : i < l.length) : ∃ b o A' c', A = some ⟨b, o, none⟩ ∧ SiteAt B w b (o + i * 8) (l.getD i zS) A' c' ∧ SpansAt w A' c' (l.getD i zS).li := by
  obtain ⟨b, o, A', c', hA, -, hs⟩ := h.at_ i hi
  exact ⟨b, o, A', c', hA, hs, hs.2.2.2.2.2.2.2.2 (hB _ (by rw [List.getD_eq_getElem?_getD, List.getElem?_eq_getElem hi]; exact List.getElem_mem hi))⟩
set_option maxHeartbeats 2000000 in
theorem ref_SameAll (w : World) (A A2 : Option Addr) (c c2 : Nat) (l : List Site) (hB : ∀ x, x ∈ l → x.li.length ≤ 5864062014634) (h : SitesAt 5864062014634 w A c l) (h2 : SitesAt 5864062014634 w A2 c2 l) :
    Calls Try.prog 21 #[.slice A l.length c, .slice A2 l.length c2] w fun e w' => e = .returned (.bool true) ∧ Below w.heap.size w w' := by
  have HC := Keep.mk h
  have HD := Keep.mk h2
  have HB0 := Keep.mk hB
  have hl := h.2.1
  have hne : ((l.length : Int) != (l.length : Int)) = false := by simp
  clear h h2 hB
  go_enter Try.func21, Try.ntmps21
  go_wp2_with fail
  go_loopg [5] l.length (fun g i wr => ∃ k : Nat, g = l.length - k ∧ k ≤ l.length ∧ i = .int .i64 k ∧ Keep (Below w.heap.size w wr))
  case atStart => exact ⟨0, by omega, by omega, rfl, ⟨Below.refl _ _⟩⟩
  case round =>
    obtain ⟨k, rfl, hk, rfl, H8⟩ := hrel
    by_cases hk2 : k < l.length
    · obtain ⟨b, o, A', c', hA, hs, hsp⟩ := (HC.out.below H8.out).atq HB0.out k hk2
      obtain ⟨b', o', B', d', hA', hs', hsp'⟩ := (HD.out.below H8.out).atq HB0.out k hk2
      subst hA hA'
      have hk3 : (k : Int) < (l.length : Int) := by omega
      generalize l.getD k zS = x at hs hs' hsp hsp'
      have HS := Keep.mk (And.intro hs (And.intro hs' (And.intro hsp hsp')))
      clear hs hs' hsp hsp'
      go_wp2_with fail
      refine wp_region_held_drew (S := fun W => SiteAt 5864062014634 W b (o + k * 8) x A' c' ∧ SiteAt 5864062014634 W b' (o' + k * 8) x B' d' ∧ SpansAt W A' c' x.li ∧ SpansAt W B' d' x.li ∧ Below w.heap.size w W) (by kernel_rfl) ⟨HS.out.1.below (below_drew (Below.refl _ _)), HS.out.2.1.below (below_drew (Below.refl _ _)), HS.out.2.2.1.below (below_drew (Below.refl _ _)), HS.out.2.2.2.below (below_drew (Below.refl _ _)), below_drew H8.out⟩ (fun hHeld => ?_)
      refine takeD (i := 0) (v := .slice (some ⟨b, o, none⟩) l.length c) rfl rfl (by kernel_rfl) (by kernel_rfl) (by kernel_rfl) (fun _ _ _ h => h) (by rfl) ?_ hHeld ?_
      · intro W hSw
        go_simp
      simp only [Act.put, List.setIfInBounds_toArray, List.set_cons_zero, List.set_cons_succ]
      refine takeD (i := 1) (v := .int .i64 k) rfl rfl (by kernel_rfl) (by kernel_rfl) (by kernel_rfl) (fun _ _ _ h => h) (by rfl) ?_ hHeld ?_
      · intro W hSw
        go_simp
      simp only [Act.put, List.setIfInBounds_toArray, List.set_cons_zero, List.set_cons_succ]
      refine takeD (i := 2) (v := .pointer (some ⟨b, o + k * 8, none⟩)) rfl rfl (by kernel_rfl) (by kernel_rfl) (by kernel_rfl) (fun _ _ _ h => h) (by rfl) ?_ hHeld ?_
      · intro W hSw
        go_simp
      simp only [Act.put, List.setIfInBounds_toArray, List.set_cons_zero, List.set_cons_succ]
      refine takeD (i := 3) (v := .agg #[.int .i64 x.nu, .int .i64 x.ro, .int .i64 x.ep, .int .i64 x.ap, .slice A' x.li.length c', .int .i64 x.so, .bool x.al, .bool x.co]) rfl rfl (by kernel_rfl) (by kernel_rfl) (by kernel_rfl) (fun _ _ _ h => h) (by rfl) ?_ hHeld ?_
      · intro W hSw
        obtain ⟨t0, t1, t2, t3, t4, t5, t6, t7, -⟩ := hSw.1
        go_simp
      simp only [Act.put, List.setIfInBounds_toArray, List.set_cons_zero, List.set_cons_succ]
      refine takeD (i := 4) (v := .slice (some ⟨b', o', none⟩) l.length c2) rfl rfl (by kernel_rfl) (by kernel_rfl) (by kernel_rfl) (fun _ _ _ h => h) (by rfl) ?_ hHeld ?_
      · intro W hSw
        go_simp
      simp only [Act.put, List.setIfInBounds_toArray, List.set_cons_zero, List.set_cons_succ]
      refine takeD (i := 5) (v := .int .i64 k) rfl rfl (by kernel_rfl) (by kernel_rfl) (by kernel_rfl) (fun _ _ _ h => h) (by rfl) ?_ hHeld ?_
      · intro W hSw
        go_simp
      simp only [Act.put, List.setIfInBounds_toArray, List.set_cons_zero, List.set_cons_succ]
      refine takeD (i := 6) (v := .pointer (some ⟨b', o' + k * 8, none⟩)) rfl rfl (by kernel_rfl) (by kernel_rfl) (by kernel_rfl) (fun _ _ _ h => h) (by rfl) ?_ hHeld ?_
      · intro W hSw
        go_simp
      simp only [Act.put, List.setIfInBounds_toArray, List.set_cons_zero, List.set_cons_succ]
      refine takeD (i := 7) (v := .agg #[.int .i64 x.nu, .int .i64 x.ro, .int .i64 x.ep, .int .i64 x.ap, .slice B' x.li.length d', .int .i64 x.so, .bool x.al, .bool x.co]) rfl rfl (by kernel_rfl) (by kernel_rfl) (by kernel_rfl) (fun _ _ _ h => h) (by rfl) ?_ hHeld ?_
      · intro W hSw
        obtain ⟨t0, t1, t2, t3, t4, t5, t6, t7, -⟩ := hSw.2.1
        go_simp
      simp only [Act.put, List.setIfInBounds_toArray, List.set_cons_zero, List.set_cons_succ]
      refine wpAnyH_all (rs := [8]) (by kernel_rfl) (by simp) ?_
      intro j hj
      simp only [List.mem_cons, List.not_mem_nil, or_false] at hj
      subst hj
      refine opCalledR (R := fun w' => SiteAt 5864062014634 w' b (o + k * 8) x A' c' ∧ SiteAt 5864062014634 w' b' (o' + k * 8) x B' d' ∧ SpansAt w' A' c' x.li ∧ SpansAt w' B' d' x.li ∧ Below w.heap.size w w') (v := .bool true) (f := 27) (args := #[.agg #[.int .i64 x.nu, .int .i64 x.ro, .int .i64 x.ep, .int .i64 x.ap, .slice A' x.li.length c', .int .i64 x.so, .bool x.al, .bool x.co], .agg #[.int .i64 x.nu, .int .i64 x.ro, .int .i64 x.ep, .int .i64 x.ap, .slice B' x.li.length d', .int .i64 x.so, .bool x.al, .bool x.co]]) rfl rfl (by rfl) ?_ (Calls.mono (ref_Same _ x A' B' c' d' hHeld.2.2.1 hHeld.2.2.2.1) ?_) ?_
      · go_simp
      · rintro e w' ⟨rfl, hB⟩; exact ⟨rfl, hHeld.1.below hB, hHeld.2.1.below hB, hHeld.2.2.1.below hB, hHeld.2.2.2.1.below hB, below_then hHeld.2.2.2.2 hB⟩
      clear hHeld
      intro w5 hHeld
      refine ⟨hHeld, ?_⟩
      simp only [Act.put, List.setIfInBounds_toArray, List.set_cons_zero, List.set_cons_succ]
      refine takeD (i := 9) (v := .bool false) rfl rfl (by kernel_rfl) (by kernel_rfl) (by kernel_rfl) (fun _ _ _ h => h) (by rfl) ?_ hHeld ?_
      · intro W hSw
        go_simp
      simp only [Act.put, List.setIfInBounds_toArray, List.set_cons_zero, List.set_cons_succ]
      refine wpAnyH_done (by kernel_rfl) ?_ _
      have HB5 := Keep.mk hHeld.2.2.2.2
      clear hHeld HS
      go_wp2_with fail
      go_roundg (l.length - (k + 1))
      case measure => omega
      case rel => exact ⟨k + 1, rfl, by omega, by go_num, HB5⟩
    · have : k = l.length := by omega
      subst this
      go_wp2_with fail
      go_ret
      exact ⟨rfl, H8.out⟩
end Go.Proofs.Ytijhkgabonkmfaa
