/- Contract: the reference's extend. -/
import Derived.Test.YtfkdcjkkmfhalaaRoleL
namespace Go.Proofs.Ytfkdcjkkmfhalaa
open Go.RowKit
set_option linter.unusedSimpArgs false
set_option linter.unusedVariables false
def LinRes (base : Nat) (w : World) (l : List Span) (e : Ending) (w' : World) : Prop := ∃ A c, e = .returned (.slice A l.length c) ∧ OwnSp w' base A c l ∧ Below w.heap.size w w'
theorem lin_ret {base : Nat} {w w' : World} {l : List Span} {A : Option Addr} {c n : Nat} (hn : n = l.length) (ho : OwnSp w' base A c l) (hb : Below w.heap.size w w') : LinRes base w l (.returned (.slice A n c)) w' := by
  subst hn; exact ⟨A, c, rfl, ho, hb⟩
theorem extendR_keep (l : List Span) (e n : Int) (h : n ≤ (lastS l).to_) : extendR l e n = l := by unfold extendR; rw [if_pos h]
theorem extendR_go (l : List Span) (e n : Int) (h : ¬ n ≤ (lastS l).to_) : extendR l e n = extendS l e (lastS l).to_ n := by unfold extendR; rw [if_neg h]
set_option maxHeartbeats 2000000 in
theorem ref_extend (w : World) (A : Option Addr) (c : Nat) (l : List Span) (ep n : Int) (hb : 0 ≤ (lastS l).to_ ∧ (lastS l).to_ ≤ 1073741824) (hls : l.length ≤ 1000000) (h : SpansAt w A c l) :
    Calls Try.prog 52 #[.slice A l.length c, .int .i64 ep, .int .i64 n] w (LinRes w.heap.size w (extendR l ep n)) := by
  have HC := Keep.mk h
  clear h
  have hi : IntKind.i64.wrap ((lastS l).to_ + 1) = (lastS l).to_ + 1 := IntWalk.i64_in _ (by omega)
  by_cases h1 : n ≤ (lastS l).to_
  · rw [extendR_keep l ep n h1]
    have h1' : decide (n ≤ (lastS l).to_) = true := by simp [h1]
    clear h1
    go_enter Try.func52, Try.ntmps52
    go_wp2_with (first
      | (at_builtin; refine wpList_app_spans rfl (.tmp 10) (.tmp 11) rfl w.heap.size none 0 0 [] rfl (OwnSp.nil _ _) A c l.length l rfl HC.out rfl rfl (by simp; omega) (Nat.le_refl _) ?_; intro A1 c1 w1 hown hgr; have HO := Keep.mk (show OwnSp w1 w.heap.size A1 c1 l from hown); have HB := Keep.mk (grown_none (Below.refl w.heap.size w) hgr (fun k hk => by simp [Value.ownBlock] at hk)); clear hown hgr)
      | (go_at_call 29; refine (ref_Head _ _ _ _ (HC.out.below HB.out)).mono ?_; rintro e w2 ⟨rfl, hB0⟩; have hB := Keep.mk hB0; clear hB0)
      | (at_builtin; refine wpList_app_spans rfl (.tmp 38) (.tmp 44) rfl w.heap.size _ _ _ l rfl ((HO.out.step hB.out).step (below_new (Below.refl _ _) _)) (some ⟨w2.heap.size, 0, none⟩) 1 1 [⟨ep, (lastS l).to_ + 1, n⟩] rfl (one_span w2 ep ((lastS l).to_ + 1) n) rfl rfl (by simp; omega) (Nat.le_trans (below_then HB.out hB.out).size (by simp)) ?_; intro A2 c2 w3 hown hgr; have HO2 := Keep.mk hown; have HB2 := Keep.mk (grown_none (below_new (below_then HB.out hB.out) _) hgr (fun k hk => OwnSp.ge (HO.out.step hB.out) _ k hk)); clear hown hgr))
    go_ret
    exact lin_ret (by simp) (HO.out.step hB.out) (below_then HB.out hB.out)
  · rw [extendR_go l ep n h1]
    have h1' : decide (n ≤ (lastS l).to_) = false := by simp [h1]
    clear h1
    by_cases h0 : l.length = 0
    · have hx := extendS_app l ep (lastS l).to_ n (.inl h0)
      rw [hx]
      have h2 : ¬ 0 < l.length := by omega
      have h2' : decide (0 < l.length) = false := by simp [h2]
      clear hx h0
      go_enter Try.func52, Try.ntmps52
      go_wp2_with (first
      | (at_builtin; refine wpList_app_spans rfl (.tmp 10) (.tmp 11) rfl w.heap.size none 0 0 [] rfl (OwnSp.nil _ _) A c l.length l rfl HC.out rfl rfl (by simp; omega) (Nat.le_refl _) ?_; intro A1 c1 w1 hown hgr; have HO := Keep.mk (show OwnSp w1 w.heap.size A1 c1 l from hown); have HB := Keep.mk (grown_none (Below.refl w.heap.size w) hgr (fun k hk => by simp [Value.ownBlock] at hk)); clear hown hgr)
      | (go_at_call 29; refine (ref_Head _ _ _ _ (HC.out.below HB.out)).mono ?_; rintro e w2 ⟨rfl, hB0⟩; have hB := Keep.mk hB0; clear hB0)
      | (at_builtin; refine wpList_app_spans rfl (.tmp 38) (.tmp 44) rfl w.heap.size _ _ _ l rfl ((HO.out.step hB.out).step (below_new (Below.refl _ _) _)) (some ⟨w2.heap.size, 0, none⟩) 1 1 [⟨ep, (lastS l).to_ + 1, n⟩] rfl (one_span w2 ep ((lastS l).to_ + 1) n) rfl rfl (by simp; omega) (Nat.le_trans (below_then HB.out hB.out).size (by simp)) ?_; intro A2 c2 w3 hown hgr; have HO2 := Keep.mk hown; have HB2 := Keep.mk (grown_none (below_new (below_then HB.out hB.out) _) hgr (fun k hk => OwnSp.ge (HO.out.step hB.out) _ k hk)); clear hown hgr))
      go_ret
      exact lin_ret (by simp) HO2.out HB2.out
    · have h2 : 0 < l.length := by omega
      have hp := wrap_pred (n := l.length) (by omega) (by omega)
      have hp2 : ((l.length - 1 : Nat) : Int) < (l.length : Int) := by omega
      by_cases h3 : (lastS l).ep = ep
      · have hx := extendS_set l ep (lastS l).to_ n h2 h3
        rw [hx]
        have h3' : ((lastS l).ep == ep) = true := by simp [h3]
        clear hx h3 h0
        go_enter Try.func52, Try.ntmps52
        have hpl : l.length - 1 < l.length := by omega
        go_wp2_with (first
      | (at_builtin; refine wpList_app_spans rfl (.tmp 10) (.tmp 11) rfl w.heap.size none 0 0 [] rfl (OwnSp.nil _ _) A c l.length l rfl HC.out rfl rfl (by simp; omega) (Nat.le_refl _) ?_; intro A1 c1 w1 hown hgr; have HO := Keep.mk (show OwnSp w1 w.heap.size A1 c1 l from hown); have HB := Keep.mk (grown_none (Below.refl w.heap.size w) hgr (fun k hk => by simp [Value.ownBlock] at hk)); clear hown hgr)
      | (go_at_call 29; refine (ref_Head _ _ _ _ (HC.out.below HB.out)).mono ?_; rintro e w2 ⟨rfl, hB0⟩; have hB := Keep.mk hB0; clear hB0; obtain ⟨b3, rfl, hba, hbl, hfz, hcells⟩ := (HO.out.step hB.out).form h2; obtain ⟨d0, d1, d2⟩ := hcells (l.length - 1) hpl; clear hcells)
      | (at_builtin; refine wpList_app_spans rfl (.tmp 38) (.tmp 44) rfl w.heap.size _ _ _ l rfl ((HO.out.step hB.out).step (below_new (Below.refl _ _) _)) (some ⟨w2.heap.size, 0, none⟩) 1 1 [⟨ep, (lastS l).to_ + 1, n⟩] rfl (one_span w2 ep ((lastS l).to_ + 1) n) rfl rfl (by simp; omega) (Nat.le_trans (below_then HB.out hB.out).size (by simp)) ?_; intro A2 c2 w3 hown hgr; have HO2 := Keep.mk hown; have HB2 := Keep.mk (grown_none (below_new (below_then HB.out hB.out) _) hgr (fun k hk => OwnSp.ge (HO.out.step hB.out) _ k hk)); clear hown hgr))
        go_ret
        have S := (HO.out.step hB.out).setTo (l.length - 1) hpl n
        exact lin_ret (by simp) S.1 (grown_none (below_then HB.out hB.out) S.2 (fun k hk => by injection hk with hk; omega))
      · have hx := extendS_app l ep (lastS l).to_ n (.inr h3)
        rw [hx]
        have h3' : ((lastS l).ep == ep) = false := by simpa using h3
        clear hx h3 h0
        go_enter Try.func52, Try.ntmps52
        go_wp2_with (first
      | (at_builtin; refine wpList_app_spans rfl (.tmp 10) (.tmp 11) rfl w.heap.size none 0 0 [] rfl (OwnSp.nil _ _) A c l.length l rfl HC.out rfl rfl (by simp; omega) (Nat.le_refl _) ?_; intro A1 c1 w1 hown hgr; have HO := Keep.mk (show OwnSp w1 w.heap.size A1 c1 l from hown); have HB := Keep.mk (grown_none (Below.refl w.heap.size w) hgr (fun k hk => by simp [Value.ownBlock] at hk)); clear hown hgr)
      | (go_at_call 29; refine (ref_Head _ _ _ _ (HC.out.below HB.out)).mono ?_; rintro e w2 ⟨rfl, hB0⟩; have hB := Keep.mk hB0; clear hB0)
      | (at_builtin; refine wpList_app_spans rfl (.tmp 38) (.tmp 44) rfl w.heap.size _ _ _ l rfl ((HO.out.step hB.out).step (below_new (Below.refl _ _) _)) (some ⟨w2.heap.size, 0, none⟩) 1 1 [⟨ep, (lastS l).to_ + 1, n⟩] rfl (one_span w2 ep ((lastS l).to_ + 1) n) rfl rfl (by simp; omega) (Nat.le_trans (below_then HB.out hB.out).size (by simp)) ?_; intro A2 c2 w3 hown hgr; have HO2 := Keep.mk hown; have HB2 := Keep.mk (grown_none (below_new (below_then HB.out hB.out) _) hgr (fun k hk => OwnSp.ge (HO.out.step hB.out) _ k hk)); clear hown hgr))
        go_ret
        exact lin_ret (by simp) HO2.out HB2.out
end Go.Proofs.Ytfkdcjkkmfhalaa
