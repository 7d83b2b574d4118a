/- Contracts: standbyref52.Step, standbyref52.Abort. -/
import Derived.Test.YtijhkgabonkmfaaRwC
import Derived.Test.YtijhkgabonkmfaaSwU
import Derived.Test.YtijhkgabonkmfaaSwF
namespace Go.Proofs.Ytijhkgabonkmfaa
open Go.RowKit
set_option linter.unusedSimpArgs false
set_option linter.unusedVariables false
set_option maxRecDepth 100000
def RStepRes (w : World) (r : Proc × List Site × Int) (en : Ending) (w' : World) : Prop := ∃ A c, en = .returned (.tuple #[.agg #[.int .i64 r.1.ki, .int .i64 r.1.fr, .int .i64 r.1.to_, .int .i64 r.1.st, .int .i64 r.1.ep, .int .i64 r.1.cy, .bool r.1.dn, .bool r.1.fa], .slice A r.2.1.length c, .int .i64 r.2.2]) ∧ SitesAt 5864062014634 w' A c r.2.1 ∧ (∀ x, x ∈ r.2.1 → x.li.length ≤ 5864062014634) ∧ Below w.heap.size w w'
theorem rstep_out (w w1 : World) (tmps : Array Value) (q : Proc) (l : List Site) (e : Int) (A : Option Addr) (c n : Nat) (hn : n = l.length) (h8 : tmps.getD 8 undef = .pointer (some ⟨w.heap.size + 1, 0, none⟩)) (h9 : tmps.getD 9 undef = .slice A n c) (h10 : tmps.getD 10 undef = .int .i64 e) (K : Held w (w.heap.size + 1) [.int .i64 q.ki, .int .i64 q.fr, .int .i64 q.to_, .int .i64 q.st, .int .i64 q.ep, .int .i64 q.cy, .bool q.dn, .bool q.fa] 26 w1) (HS : SitesAt 5864062014634 w1 A c l) (HF : ∀ x, x ∈ l → x.li.length ≤ 5864062014634) :
    bodyPost Try.prog Try.f20 (RStepRes w (q, l, e)) Exit.ret { tmps := tmps, defers := [] } w1 := by
  subst hn
  refine bodyPost_ret (results_row_tmp2 rfl tmps w1 (w.heap.size + 1) 26 _ _ h8 K.blk Try.underlying26 rfl (by kernel_rfl)) rfl ⟨A, c, ?_, HS, HF, K.bel⟩
  rw [h9, h10]
theorem rstep_no (w w1 : World) (tmps : Array Value) (e : Int) (h8 : tmps.getD 8 undef = .pointer (some ⟨w.heap.size + 1, 0, none⟩)) (h9 : tmps.getD 9 undef = .slice none 0 0) (h10 : tmps.getD 10 undef = .int .i64 e) (K : Held w (w.heap.size + 1) [.int .i64 0, .int .i64 0, .int .i64 0, .int .i64 0, .int .i64 0, .int .i64 0, .bool false, .bool false] 26 w1) :
    bodyPost Try.prog Try.f20 (RStepRes w (zP, [], e)) Exit.ret { tmps := tmps, defers := [] } w1 :=
  rstep_out w w1 tmps zP [] e none 0 0 rfl h8 h9 h10 K (SitesAt.nil _ _) (fun _ h => by cases h)
theorem rstart (w : World) (p : Proc) : Held w w.heap.size [.int .i64 p.ki, .int .i64 p.fr, .int .i64 p.to_, .int .i64 p.st, .int .i64 p.ep, .int .i64 p.cy, .bool p.dn, .bool p.fa] 26 ((w.alloc (.cells #[.int .i64 p.ki, .int .i64 p.fr, .int .i64 p.to_, .int .i64 p.st, .int .i64 p.ep, .int .i64 p.cy, .bool p.dn, .bool p.fa] 26)).alloc (.cells #[.int .i64 0, .int .i64 0, .int .i64 0, .int .i64 0, .int .i64 0, .int .i64 0, .bool false, .bool false] 26)) ∧ Held w (w.heap.size + 1) [.int .i64 0, .int .i64 0, .int .i64 0, .int .i64 0, .int .i64 0, .int .i64 0, .bool false, .bool false] 26 ((w.alloc (.cells #[.int .i64 p.ki, .int .i64 p.fr, .int .i64 p.to_, .int .i64 p.st, .int .i64 p.ep, .int .i64 p.cy, .bool p.dn, .bool p.fa] 26)).alloc (.cells #[.int .i64 0, .int .i64 0, .int .i64 0, .int .i64 0, .int .i64 0, .int .i64 0, .bool false, .bool false] 26)) :=
  ⟨(Held.new (Below.refl w.heap.size w) _ _).alloc _, Held.newN (n := w.heap.size + 1) (below_new (Below.refl w.heap.size w) _) _ _ (by simp)⟩
theorem sucL_len (p : Proc) (l : List Site) (i k : Nat) : (sucL p l i k).length = l.length := by
  unfold sucL
  split
  · rw [List.length_set]
  · split
    · rw [List.length_set]
    · rfl
set_option maxHeartbeats 1000000 in
theorem ref52_Step_no1 (w : World) (p : Proc) (A : Option Addr) (c n : Nat) (ok : Bool) (v : Int) (hc : checkP p = 3) :
    Calls Try.prog 20 #[.agg #[.int .i64 p.ki, .int .i64 p.fr, .int .i64 p.to_, .int .i64 p.st, .int .i64 p.ep, .int .i64 p.cy, .bool p.dn, .bool p.fa], .slice A n c, .bool ok, .int .i64 v] w (RStepRes w (zP, [], 3)) := by
  have HCK := fun w => ref52_Check w p
  rw [hc] at HCK
  clear hc
  obtain ⟨ki, fr, to_, st, ep, cy, dn, fa⟩ := p
  have K0 := Keep.mk (rstart w ⟨ki, fr, to_, st, ep, cy, dn, fa⟩)
  simp only at HCK K0 ⊢
  obtain ⟨⟨p0, p1, p2, p3, p4, p5, p6, p7⟩, p8⟩ := K0.out.1.c8
  go_enter Try.func20, Try.ntmps20
  go_wp2_with (first | (go_at_call 18; (with_reducible refine (HCK _).mono ?_); rintro en w1 ⟨rfl, hB⟩; have KQ := Keep.mk (K0.out.2.step hB); clear hB) | ((with_reducible refine wpList_store_proc (v0 := .int .i64 0) (v1 := .int .i64 0) (v2 := .int .i64 0) (v3 := .int .i64 0) (v4 := .int .i64 0) (v5 := .int .i64 0) (v6 := .bool false) (v7 := .bool false) ?_ (.tmp 8) (.tmp 21) ?_ w (w.heap.size + 1) ?_ ?_ zP ?_ ?_); rfl; rfl; (repeat' (first | with_reducible exact KQ.out | (with_reducible refine Held.alloc ?_ _) | (with_reducible refine Held.setOther ?_ (Nat.le_refl _) (Nat.succ_ne_self _) _))); rfl; rfl; intro w9 K9 hg; have K9 := Keep.mk K9; have HG := Keep.mk hg; clear hg))
  exact rstep_no w _ _ 3 rfl rfl rfl K9.out
set_option maxHeartbeats 1000000 in
theorem ref52_Step_no2 (w : World) (p : Proc) (A : Option Addr) (c : Nat) (l : List Site) (ok : Bool) (v : Int) (e : Int) (hc : checkP p = 0) (he : (checkAllS l).2 = e) (h0 : e ≠ 0) (hB : ∀ x, x ∈ l → x.li.length ≤ 5864062014634) (h : SitesAt 5864062014634 w A c l) :
    Calls Try.prog 20 #[.agg #[.int .i64 p.ki, .int .i64 p.fr, .int .i64 p.to_, .int .i64 p.st, .int .i64 p.ep, .int .i64 p.cy, .bool p.dn, .bool p.fa], .slice A l.length c, .bool ok, .int .i64 v] w (RStepRes w (zP, [], e)) := by
  have HCK := fun w => ref52_Check w p
  rw [hc] at HCK
  have hck : checkAllS l = ((checkAllS l).1, e) := by rw [← he]
  generalize (checkAllS l).1 = ci at hck
  have HE := Keep.mk hck
  have h0' : (e != 0) = true := by simpa using h0
  clear hck he h0
  have HC := Keep.mk h
  have HB0 := Keep.mk hB
  clear hc h hB
  obtain ⟨ki, fr, to_, st, ep, cy, dn, fa⟩ := p
  have K0 := Keep.mk (rstart w ⟨ki, fr, to_, st, ep, cy, dn, fa⟩)
  simp only at HCK K0 ⊢
  obtain ⟨⟨p0, p1, p2, p3, p4, p5, p6, p7⟩, p8⟩ := K0.out.1.c8
  go_enter Try.func20, Try.ntmps20
  go_wp2_with (first | (go_at_call 18; (with_reducible refine (HCK _).mono ?_); rintro en w1 ⟨rfl, hB⟩; have K1 := K0.out.1.step hB; have KP := Keep.mk K1; have KQ := Keep.mk (K0.out.2.step hB); clear p0 p1 p2 p3 p4 p5 p6 p7 p8; obtain ⟨⟨p0, p1, p2, p3, p4, p5, p6, p7⟩, p8⟩ := K1.c8; clear K1 hB) | (go_at_call 35; (with_reducible refine (ref_CheckAll _ A c 5864062014634 l HB0.out (HC.out.below KP.out.bel)).mono ?_); rw [HE.out]; rintro en w2 ⟨rfl, hB⟩; have K2 := KP.out.step hB; replace KP := Keep.mk K2; replace KQ := Keep.mk (KQ.out.step hB); clear p0 p1 p2 p3 p4 p5 p6 p7 p8; obtain ⟨⟨p0, p1, p2, p3, p4, p5, p6, p7⟩, p8⟩ := K2.c8; clear K2 hB) | ((with_reducible refine wpList_store_proc (v0 := .int .i64 0) (v1 := .int .i64 0) (v2 := .int .i64 0) (v3 := .int .i64 0) (v4 := .int .i64 0) (v5 := .int .i64 0) (v6 := .bool false) (v7 := .bool false) ?_ (.tmp 8) (.tmp 29) ?_ w (w.heap.size + 1) ?_ ?_ zP ?_ ?_); rfl; rfl; (repeat' (first | with_reducible exact KQ.out | (with_reducible refine Held.alloc ?_ _) | (with_reducible refine Held.setOther ?_ (Nat.le_refl _) (Nat.succ_ne_self _) _))); rfl; rfl; intro w9 K9 hg; have K9 := Keep.mk K9; have HG := Keep.mk hg; clear hg))
  exact rstep_no w _ _ e rfl rfl rfl K9.out
set_option maxHeartbeats 2000000 in
theorem ref52_Step_no3 (w : World) (p : Proc) (A : Option Addr) (c : Nat) (l : List Site) (ok : Bool) (v : Int) (hc : checkP p = 0) (he : (checkAllS l).2 = 0) (hf : findS l p.fr = -1 ∨ findS l p.to_ = -1) (hB : ∀ x, x ∈ l → x.li.length ≤ 5864062014634) (h : SitesAt 5864062014634 w A c l) :
    Calls Try.prog 20 #[.agg #[.int .i64 p.ki, .int .i64 p.fr, .int .i64 p.to_, .int .i64 p.st, .int .i64 p.ep, .int .i64 p.cy, .bool p.dn, .bool p.fa], .slice A l.length c, .bool ok, .int .i64 v] w (RStepRes w (zP, [], 7)) := by
  have HCK := fun w => ref52_Check w p
  rw [hc] at HCK
  have HF : ((findS l p.fr = -1 ∧ findS l p.to_ = -1) ∨ (∃ i : Nat, findS l p.fr = -1 ∧ findS l p.to_ = i) ∨ (∃ i : Nat, findS l p.fr = i ∧ findS l p.to_ = -1)) := by
    rcases find_ways l p.fr with h1 | ⟨i, h1, h1', -⟩ <;> rcases find_ways l p.to_ with h2 | ⟨k, h2, h2', -⟩
    · exact .inl ⟨h1, h2⟩
    · exact .inr (.inl ⟨k, h1, h2⟩)
    · exact .inr (.inr ⟨i, h1, h2⟩)
    · exfalso; rcases hf with hf | hf
      · rw [h1] at hf; omega
      · rw [h2] at hf; omega
  clear hf
  have hck : checkAllS l = ((checkAllS l).1, 0) := by rw [← he]
  generalize (checkAllS l).1 = ci at hck
  have hl4 := checkAll_len he
  have h00 : ((0 : Int) != 0) = false := rfl
  have HE := Keep.mk hck
  clear hck he
  have HC := Keep.mk h
  have HB0 := Keep.mk hB
  clear hc h hB
  obtain ⟨ki, fr, to_, st, ep, cy, dn, fa⟩ := p
  have K0 := Keep.mk (rstart w ⟨ki, fr, to_, st, ep, cy, dn, fa⟩)
  simp only at HCK K0 HF ⊢
  obtain ⟨⟨p0, p1, p2, p3, p4, p5, p6, p7⟩, p8⟩ := K0.out.1.c8
  rcases HF with ⟨h1, h2⟩ | ⟨i, h1, h2⟩ | ⟨i, h1, h2⟩
  · have HI := Keep.mk h1
    have HK := Keep.mk h2
    clear h1 h2
    go_enter Try.func20, Try.ntmps20
    go_upto_region 6 with (first | (go_at_call 18; (with_reducible refine (HCK _).mono ?_); rintro en w1 ⟨rfl, hB⟩; have K1 := K0.out.1.step hB; have KP := Keep.mk K1; have KQ := Keep.mk (K0.out.2.step hB); clear p0 p1 p2 p3 p4 p5 p6 p7 p8; obtain ⟨⟨p0, p1, p2, p3, p4, p5, p6, p7⟩, p8⟩ := K1.c8; clear K1 hB) | (go_at_call 35; (with_reducible refine (ref_CheckAll _ A c 5864062014634 l HB0.out (HC.out.below KP.out.bel)).mono ?_); rw [HE.out]; rintro en w2 ⟨rfl, hB⟩; have K2 := KP.out.step hB; replace KP := Keep.mk K2; replace KQ := Keep.mk (KQ.out.step hB); clear p0 p1 p2 p3 p4 p5 p6 p7 p8; obtain ⟨⟨p0, p1, p2, p3, p4, p5, p6, p7⟩, p8⟩ := K2.c8; clear K2 hB))
    refine wp_region_held_drew (S := fun W => Held w w.heap.size [.int .i64 (Proc.mk ki fr to_ st ep cy dn fa).ki, .int .i64 (Proc.mk ki fr to_ st ep cy dn fa).fr, .int .i64 (Proc.mk ki fr to_ st ep cy dn fa).to_, .int .i64 (Proc.mk ki fr to_ st ep cy dn fa).st, .int .i64 (Proc.mk ki fr to_ st ep cy dn fa).ep, .int .i64 (Proc.mk ki fr to_ st ep cy dn fa).cy, .bool (Proc.mk ki fr to_ st ep cy dn fa).dn, .bool (Proc.mk ki fr to_ st ep cy dn fa).fa] 26 W ∧ Held w (w.heap.size + 1) [.int .i64 0, .int .i64 0, .int .i64 0, .int .i64 0, .int .i64 0, .int .i64 0, .bool false, .bool false] 26 W) (by kernel_rfl) ⟨KP.out.drew, KQ.out.drew⟩ (fun hHeld => ?_)
    refine takeD (i := 0) (v := .slice A l.length c) rfl rfl (by kernel_rfl) (by kernel_rfl) (by kernel_rfl) (fun _ _ _ h => h) (by rfl) ?_ hHeld ?_
    · intro W hSw
      go_simp
    simp only [Act.put, List.setIfInBounds_toArray, List.set_cons_zero, List.set_cons_succ]
    refine takeD (i := 1) (v := .pointer (some ⟨w.heap.size, 1, none⟩)) rfl rfl (by kernel_rfl) (by kernel_rfl) (by kernel_rfl) (fun _ _ _ h => h) (by rfl) ?_ hHeld ?_
    · intro W hSw
      go_simp
    simp only [Act.put, List.setIfInBounds_toArray, List.set_cons_zero, List.set_cons_succ]
    refine takeD (i := 2) (v := .int .i64 fr) rfl rfl (by kernel_rfl) (by kernel_rfl) (by kernel_rfl) (fun _ _ _ h => h) (by rfl) ?_ hHeld ?_
    · intro W hSw
      have t1 := hSw.1.cell 1 _ rfl
      (try simp only at t1)
      go_simp
    simp only [Act.put, List.setIfInBounds_toArray, List.set_cons_zero, List.set_cons_succ]
    refine takeD (i := 4) (v := .slice A l.length c) rfl rfl (by kernel_rfl) (by kernel_rfl) (by kernel_rfl) (fun _ _ _ h => h) (by rfl) ?_ hHeld ?_
    · intro W hSw
      go_simp
    simp only [Act.put, List.setIfInBounds_toArray, List.set_cons_zero, List.set_cons_succ]
    refine takeD (i := 5) (v := .pointer (some ⟨w.heap.size, 2, none⟩)) rfl rfl (by kernel_rfl) (by kernel_rfl) (by kernel_rfl) (fun _ _ _ h => h) (by rfl) ?_ hHeld ?_
    · intro W hSw
      go_simp
    simp only [Act.put, List.setIfInBounds_toArray, List.set_cons_zero, List.set_cons_succ]
    refine takeD (i := 6) (v := .int .i64 to_) rfl rfl (by kernel_rfl) (by kernel_rfl) (by kernel_rfl) (fun _ _ _ h => h) (by rfl) ?_ hHeld ?_
    · intro W hSw
      have t1 := hSw.1.cell 2 _ rfl
      (try simp only at t1)
      go_simp
    simp only [Act.put, List.setIfInBounds_toArray, List.set_cons_zero, List.set_cons_succ]
    refine wpAnyH_all (rs := [3]) (by kernel_rfl) (by simp) ?_
    intro j hj
    simp only [List.mem_cons, List.not_mem_nil, or_false] at hj
    subst hj
    refine opCalledR (R := fun w' => Held w w.heap.size [.int .i64 (Proc.mk ki fr to_ st ep cy dn fa).ki, .int .i64 (Proc.mk ki fr to_ st ep cy dn fa).fr, .int .i64 (Proc.mk ki fr to_ st ep cy dn fa).to_, .int .i64 (Proc.mk ki fr to_ st ep cy dn fa).st, .int .i64 (Proc.mk ki fr to_ st ep cy dn fa).ep, .int .i64 (Proc.mk ki fr to_ st ep cy dn fa).cy, .bool (Proc.mk ki fr to_ st ep cy dn fa).dn, .bool (Proc.mk ki fr to_ st ep cy dn fa).fa] 26 w' ∧ Held w (w.heap.size + 1) [.int .i64 0, .int .i64 0, .int .i64 0, .int .i64 0, .int .i64 0, .int .i64 0, .bool false, .bool false] 26 w') (v := .int .i64 (-1)) (f := 36) (args := #[.slice A l.length c, .int .i64 fr]) rfl rfl (by rfl) ?_ (Calls.mono (ref52_Find _ A c l.length 5864062014634 l fr rfl (HC.out.below hHeld.1.bel)) ?_) ?_
    · go_simp
    · rw [HI.out]; rintro e w' ⟨rfl, hB⟩; exact ⟨rfl, hHeld.1.step hB, hHeld.2.step hB⟩
    clear hHeld
    intro w5 hHeld
    refine ⟨hHeld, ?_⟩
    simp only [Act.put, List.setIfInBounds_toArray, List.set_cons_zero, List.set_cons_succ]
    refine wpAnyH_all (rs := [7]) (by kernel_rfl) (by simp) ?_
    intro j hj
    simp only [List.mem_cons, List.not_mem_nil, or_false] at hj
    subst hj
    refine opCalledR (R := fun w' => Held w w.heap.size [.int .i64 (Proc.mk ki fr to_ st ep cy dn fa).ki, .int .i64 (Proc.mk ki fr to_ st ep cy dn fa).fr, .int .i64 (Proc.mk ki fr to_ st ep cy dn fa).to_, .int .i64 (Proc.mk ki fr to_ st ep cy dn fa).st, .int .i64 (Proc.mk ki fr to_ st ep cy dn fa).ep, .int .i64 (Proc.mk ki fr to_ st ep cy dn fa).cy, .bool (Proc.mk ki fr to_ st ep cy dn fa).dn, .bool (Proc.mk ki fr to_ st ep cy dn fa).fa] 26 w' ∧ Held w (w.heap.size + 1) [.int .i64 0, .int .i64 0, .int .i64 0, .int .i64 0, .int .i64 0, .int .i64 0, .bool false, .bool false] 26 w') (v := .int .i64 (-1)) (f := 36) (args := #[.slice A l.length c, .int .i64 to_]) rfl rfl (by rfl) ?_ (Calls.mono (ref52_Find _ A c l.length 5864062014634 l to_ rfl (HC.out.below hHeld.1.bel)) ?_) ?_
    · go_simp
    · rw [HK.out]; rintro e w' ⟨rfl, hB⟩; exact ⟨rfl, hHeld.1.step hB, hHeld.2.step hB⟩
    clear hHeld
    intro w6 hHeld
    refine ⟨hHeld, ?_⟩
    simp only [Act.put, List.setIfInBounds_toArray, List.set_cons_zero, List.set_cons_succ]
    refine takeD (i := 8) (v := .int .i64 (-1)) rfl rfl (by kernel_rfl) (by kernel_rfl) (by kernel_rfl) (fun _ _ _ h => h) (by rfl) ?_ hHeld ?_
    · intro W hSw
      go_simp
    simp only [Act.put, List.setIfInBounds_toArray, List.set_cons_zero, List.set_cons_succ]
    refine takeD (i := 9) (v := .int .i64 (-1)) rfl rfl (by kernel_rfl) (by kernel_rfl) (by kernel_rfl) (fun _ _ _ h => h) (by rfl) ?_ hHeld ?_
    · intro W hSw
      go_simp
    simp only [Act.put, List.setIfInBounds_toArray, List.set_cons_zero, List.set_cons_succ]
    refine wpAnyH_done (by kernel_rfl) ?_ _
    clear KP KQ p0 p1 p2 p3 p4 p5 p6 p7 p8
    have KP := Keep.mk hHeld.1
    have KQ := Keep.mk hHeld.2
    clear hHeld
    obtain ⟨⟨p0, p1, p2, p3, p4, p5, p6, p7⟩, p8⟩ := KP.out.c8
    (try simp only at p0 p1 p2 p3 p4 p5 p6 p7)
    go_wp2_with (first | ((with_reducible refine wpList_store_proc (v0 := .int .i64 0) (v1 := .int .i64 0) (v2 := .int .i64 0) (v3 := .int .i64 0) (v4 := .int .i64 0) (v5 := .int .i64 0) (v6 := .bool false) (v7 := .bool false) ?_ (.tmp 8) (.tmp 45) ?_ w (w.heap.size + 1) ?_ ?_ zP ?_ ?_); rfl; rfl; (repeat' (first | with_reducible exact KQ.out | (with_reducible refine Held.alloc ?_ _) | (with_reducible refine Held.setOther ?_ (Nat.le_refl _) (Nat.succ_ne_self _) _))); rfl; rfl; intro w9 K9 hg; have K9 := Keep.mk K9; have HG := Keep.mk hg; clear hg))
    exact rstep_no w _ _ 7 rfl rfl rfl K9.out
  · have HI := Keep.mk h1
    have HK := Keep.mk h2
    clear h1 h2
    go_enter Try.func20, Try.ntmps20
    go_upto_region 6 with (first | (go_at_call 18; (with_reducible refine (HCK _).mono ?_); rintro en w1 ⟨rfl, hB⟩; have K1 := K0.out.1.step hB; have KP := Keep.mk K1; have KQ := Keep.mk (K0.out.2.step hB); clear p0 p1 p2 p3 p4 p5 p6 p7 p8; obtain ⟨⟨p0, p1, p2, p3, p4, p5, p6, p7⟩, p8⟩ := K1.c8; clear K1 hB) | (go_at_call 35; (with_reducible refine (ref_CheckAll _ A c 5864062014634 l HB0.out (HC.out.below KP.out.bel)).mono ?_); rw [HE.out]; rintro en w2 ⟨rfl, hB⟩; have K2 := KP.out.step hB; replace KP := Keep.mk K2; replace KQ := Keep.mk (KQ.out.step hB); clear p0 p1 p2 p3 p4 p5 p6 p7 p8; obtain ⟨⟨p0, p1, p2, p3, p4, p5, p6, p7⟩, p8⟩ := K2.c8; clear K2 hB))
    refine wp_region_held_drew (S := fun W => Held w w.heap.size [.int .i64 (Proc.mk ki fr to_ st ep cy dn fa).ki, .int .i64 (Proc.mk ki fr to_ st ep cy dn fa).fr, .int .i64 (Proc.mk ki fr to_ st ep cy dn fa).to_, .int .i64 (Proc.mk ki fr to_ st ep cy dn fa).st, .int .i64 (Proc.mk ki fr to_ st ep cy dn fa).ep, .int .i64 (Proc.mk ki fr to_ st ep cy dn fa).cy, .bool (Proc.mk ki fr to_ st ep cy dn fa).dn, .bool (Proc.mk ki fr to_ st ep cy dn fa).fa] 26 W ∧ Held w (w.heap.size + 1) [.int .i64 0, .int .i64 0, .int .i64 0, .int .i64 0, .int .i64 0, .int .i64 0, .bool false, .bool false] 26 W) (by kernel_rfl) ⟨KP.out.drew, KQ.out.drew⟩ (fun hHeld => ?_)
    refine takeD (i := 0) (v := .slice A l.length c) rfl rfl (by kernel_rfl) (by kernel_rfl) (by kernel_rfl) (fun _ _ _ h => h) (by rfl) ?_ hHeld ?_
    · intro W hSw
      go_simp
    simp only [Act.put, List.setIfInBounds_toArray, List.set_cons_zero, List.set_cons_succ]
    refine takeD (i := 1) (v := .pointer (some ⟨w.heap.size, 1, none⟩)) rfl rfl (by kernel_rfl) (by kernel_rfl) (by kernel_rfl) (fun _ _ _ h => h) (by rfl) ?_ hHeld ?_
    · intro W hSw
      go_simp
    simp only [Act.put, List.setIfInBounds_toArray, List.set_cons_zero, List.set_cons_succ]
    refine takeD (i := 2) (v := .int .i64 fr) rfl rfl (by kernel_rfl) (by kernel_rfl) (by kernel_rfl) (fun _ _ _ h => h) (by rfl) ?_ hHeld ?_
    · intro W hSw
      have t1 := hSw.1.cell 1 _ rfl
      (try simp only at t1)
      go_simp
    simp only [Act.put, List.setIfInBounds_toArray, List.set_cons_zero, List.set_cons_succ]
    refine takeD (i := 4) (v := .slice A l.length c) rfl rfl (by kernel_rfl) (by kernel_rfl) (by kernel_rfl) (fun _ _ _ h => h) (by rfl) ?_ hHeld ?_
    · intro W hSw
      go_simp
    simp only [Act.put, List.setIfInBounds_toArray, List.set_cons_zero, List.set_cons_succ]
    refine takeD (i := 5) (v := .pointer (some ⟨w.heap.size, 2, none⟩)) rfl rfl (by kernel_rfl) (by kernel_rfl) (by kernel_rfl) (fun _ _ _ h => h) (by rfl) ?_ hHeld ?_
    · intro W hSw
      go_simp
    simp only [Act.put, List.setIfInBounds_toArray, List.set_cons_zero, List.set_cons_succ]
    refine takeD (i := 6) (v := .int .i64 to_) rfl rfl (by kernel_rfl) (by kernel_rfl) (by kernel_rfl) (fun _ _ _ h => h) (by rfl) ?_ hHeld ?_
    · intro W hSw
      have t1 := hSw.1.cell 2 _ rfl
      (try simp only at t1)
      go_simp
    simp only [Act.put, List.setIfInBounds_toArray, List.set_cons_zero, List.set_cons_succ]
    refine wpAnyH_all (rs := [3]) (by kernel_rfl) (by simp) ?_
    intro j hj
    simp only [List.mem_cons, List.not_mem_nil, or_false] at hj
    subst hj
    refine opCalledR (R := fun w' => Held w w.heap.size [.int .i64 (Proc.mk ki fr to_ st ep cy dn fa).ki, .int .i64 (Proc.mk ki fr to_ st ep cy dn fa).fr, .int .i64 (Proc.mk ki fr to_ st ep cy dn fa).to_, .int .i64 (Proc.mk ki fr to_ st ep cy dn fa).st, .int .i64 (Proc.mk ki fr to_ st ep cy dn fa).ep, .int .i64 (Proc.mk ki fr to_ st ep cy dn fa).cy, .bool (Proc.mk ki fr to_ st ep cy dn fa).dn, .bool (Proc.mk ki fr to_ st ep cy dn fa).fa] 26 w' ∧ Held w (w.heap.size + 1) [.int .i64 0, .int .i64 0, .int .i64 0, .int .i64 0, .int .i64 0, .int .i64 0, .bool false, .bool false] 26 w') (v := .int .i64 (-1)) (f := 36) (args := #[.slice A l.length c, .int .i64 fr]) rfl rfl (by rfl) ?_ (Calls.mono (ref52_Find _ A c l.length 5864062014634 l fr rfl (HC.out.below hHeld.1.bel)) ?_) ?_
    · go_simp
    · rw [HI.out]; rintro e w' ⟨rfl, hB⟩; exact ⟨rfl, hHeld.1.step hB, hHeld.2.step hB⟩
    clear hHeld
    intro w5 hHeld
    refine ⟨hHeld, ?_⟩
    simp only [Act.put, List.setIfInBounds_toArray, List.set_cons_zero, List.set_cons_succ]
    refine wpAnyH_all (rs := [7]) (by kernel_rfl) (by simp) ?_
    intro j hj
    simp only [List.mem_cons, List.not_mem_nil, or_false] at hj
    subst hj
    refine opCalledR (R := fun w' => Held w w.heap.size [.int .i64 (Proc.mk ki fr to_ st ep cy dn fa).ki, .int .i64 (Proc.mk ki fr to_ st ep cy dn fa).fr, .int .i64 (Proc.mk ki fr to_ st ep cy dn fa).to_, .int .i64 (Proc.mk ki fr to_ st ep cy dn fa).st, .int .i64 (Proc.mk ki fr to_ st ep cy dn fa).ep, .int .i64 (Proc.mk ki fr to_ st ep cy dn fa).cy, .bool (Proc.mk ki fr to_ st ep cy dn fa).dn, .bool (Proc.mk ki fr to_ st ep cy dn fa).fa] 26 w' ∧ Held w (w.heap.size + 1) [.int .i64 0, .int .i64 0, .int .i64 0, .int .i64 0, .int .i64 0, .int .i64 0, .bool false, .bool false] 26 w') (v := .int .i64 i) (f := 36) (args := #[.slice A l.length c, .int .i64 to_]) rfl rfl (by rfl) ?_ (Calls.mono (ref52_Find _ A c l.length 5864062014634 l to_ rfl (HC.out.below hHeld.1.bel)) ?_) ?_
    · go_simp
    · rw [HK.out]; rintro e w' ⟨rfl, hB⟩; exact ⟨rfl, hHeld.1.step hB, hHeld.2.step hB⟩
    clear hHeld
    intro w6 hHeld
    refine ⟨hHeld, ?_⟩
    simp only [Act.put, List.setIfInBounds_toArray, List.set_cons_zero, List.set_cons_succ]
    refine takeD (i := 8) (v := .int .i64 (-1)) rfl rfl (by kernel_rfl) (by kernel_rfl) (by kernel_rfl) (fun _ _ _ h => h) (by rfl) ?_ hHeld ?_
    · intro W hSw
      go_simp
    simp only [Act.put, List.setIfInBounds_toArray, List.set_cons_zero, List.set_cons_succ]
    refine takeD (i := 9) (v := .int .i64 i) rfl rfl (by kernel_rfl) (by kernel_rfl) (by kernel_rfl) (fun _ _ _ h => h) (by rfl) ?_ hHeld ?_
    · intro W hSw
      go_simp
    simp only [Act.put, List.setIfInBounds_toArray, List.set_cons_zero, List.set_cons_succ]
    refine wpAnyH_done (by kernel_rfl) ?_ _
    clear KP KQ p0 p1 p2 p3 p4 p5 p6 p7 p8
    have KP := Keep.mk hHeld.1
    have KQ := Keep.mk hHeld.2
    clear hHeld
    obtain ⟨⟨p0, p1, p2, p3, p4, p5, p6, p7⟩, p8⟩ := KP.out.c8
    (try simp only at p0 p1 p2 p3 p4 p5 p6 p7)
    go_wp2_with (first | ((with_reducible refine wpList_store_proc (v0 := .int .i64 0) (v1 := .int .i64 0) (v2 := .int .i64 0) (v3 := .int .i64 0) (v4 := .int .i64 0) (v5 := .int .i64 0) (v6 := .bool false) (v7 := .bool false) ?_ (.tmp 8) (.tmp 45) ?_ w (w.heap.size + 1) ?_ ?_ zP ?_ ?_); rfl; rfl; (repeat' (first | with_reducible exact KQ.out | (with_reducible refine Held.alloc ?_ _) | (with_reducible refine Held.setOther ?_ (Nat.le_refl _) (Nat.succ_ne_self _) _))); rfl; rfl; intro w9 K9 hg; have K9 := Keep.mk K9; have HG := Keep.mk hg; clear hg))
    exact rstep_no w _ _ 7 rfl rfl rfl K9.out
  · have HI := Keep.mk h1
    have HK := Keep.mk h2
    clear h1 h2
    go_enter Try.func20, Try.ntmps20
    go_upto_region 6 with (first | (go_at_call 18; (with_reducible refine (HCK _).mono ?_); rintro en w1 ⟨rfl, hB⟩; have K1 := K0.out.1.step hB; have KP := Keep.mk K1; have KQ := Keep.mk (K0.out.2.step hB); clear p0 p1 p2 p3 p4 p5 p6 p7 p8; obtain ⟨⟨p0, p1, p2, p3, p4, p5, p6, p7⟩, p8⟩ := K1.c8; clear K1 hB) | (go_at_call 35; (with_reducible refine (ref_CheckAll _ A c 5864062014634 l HB0.out (HC.out.below KP.out.bel)).mono ?_); rw [HE.out]; rintro en w2 ⟨rfl, hB⟩; have K2 := KP.out.step hB; replace KP := Keep.mk K2; replace KQ := Keep.mk (KQ.out.step hB); clear p0 p1 p2 p3 p4 p5 p6 p7 p8; obtain ⟨⟨p0, p1, p2, p3, p4, p5, p6, p7⟩, p8⟩ := K2.c8; clear K2 hB))
    refine wp_region_held_drew (S := fun W => Held w w.heap.size [.int .i64 (Proc.mk ki fr to_ st ep cy dn fa).ki, .int .i64 (Proc.mk ki fr to_ st ep cy dn fa).fr, .int .i64 (Proc.mk ki fr to_ st ep cy dn fa).to_, .int .i64 (Proc.mk ki fr to_ st ep cy dn fa).st, .int .i64 (Proc.mk ki fr to_ st ep cy dn fa).ep, .int .i64 (Proc.mk ki fr to_ st ep cy dn fa).cy, .bool (Proc.mk ki fr to_ st ep cy dn fa).dn, .bool (Proc.mk ki fr to_ st ep cy dn fa).fa] 26 W ∧ Held w (w.heap.size + 1) [.int .i64 0, .int .i64 0, .int .i64 0, .int .i64 0, .int .i64 0, .int .i64 0, .bool false, .bool false] 26 W) (by kernel_rfl) ⟨KP.out.drew, KQ.out.drew⟩ (fun hHeld => ?_)
    refine takeD (i := 0) (v := .slice A l.length c) rfl rfl (by kernel_rfl) (by kernel_rfl) (by kernel_rfl) (fun _ _ _ h => h) (by rfl) ?_ hHeld ?_
    · intro W hSw
      go_simp
    simp only [Act.put, List.setIfInBounds_toArray, List.set_cons_zero, List.set_cons_succ]
    refine takeD (i := 1) (v := .pointer (some ⟨w.heap.size, 1, none⟩)) rfl rfl (by kernel_rfl) (by kernel_rfl) (by kernel_rfl) (fun _ _ _ h => h) (by rfl) ?_ hHeld ?_
    · intro W hSw
      go_simp
    simp only [Act.put, List.setIfInBounds_toArray, List.set_cons_zero, List.set_cons_succ]
    refine takeD (i := 2) (v := .int .i64 fr) rfl rfl (by kernel_rfl) (by kernel_rfl) (by kernel_rfl) (fun _ _ _ h => h) (by rfl) ?_ hHeld ?_
    · intro W hSw
      have t1 := hSw.1.cell 1 _ rfl
      (try simp only at t1)
      go_simp
    simp only [Act.put, List.setIfInBounds_toArray, List.set_cons_zero, List.set_cons_succ]
    refine takeD (i := 4) (v := .slice A l.length c) rfl rfl (by kernel_rfl) (by kernel_rfl) (by kernel_rfl) (fun _ _ _ h => h) (by rfl) ?_ hHeld ?_
    · intro W hSw
      go_simp
    simp only [Act.put, List.setIfInBounds_toArray, List.set_cons_zero, List.set_cons_succ]
    refine takeD (i := 5) (v := .pointer (some ⟨w.heap.size, 2, none⟩)) rfl rfl (by kernel_rfl) (by kernel_rfl) (by kernel_rfl) (fun _ _ _ h => h) (by rfl) ?_ hHeld ?_
    · intro W hSw
      go_simp
    simp only [Act.put, List.setIfInBounds_toArray, List.set_cons_zero, List.set_cons_succ]
    refine takeD (i := 6) (v := .int .i64 to_) rfl rfl (by kernel_rfl) (by kernel_rfl) (by kernel_rfl) (fun _ _ _ h => h) (by rfl) ?_ hHeld ?_
    · intro W hSw
      have t1 := hSw.1.cell 2 _ rfl
      (try simp only at t1)
      go_simp
    simp only [Act.put, List.setIfInBounds_toArray, List.set_cons_zero, List.set_cons_succ]
    refine wpAnyH_all (rs := [3]) (by kernel_rfl) (by simp) ?_
    intro j hj
    simp only [List.mem_cons, List.not_mem_nil, or_false] at hj
    subst hj
    refine opCalledR (R := fun w' => Held w w.heap.size [.int .i64 (Proc.mk ki fr to_ st ep cy dn fa).ki, .int .i64 (Proc.mk ki fr to_ st ep cy dn fa).fr, .int .i64 (Proc.mk ki fr to_ st ep cy dn fa).to_, .int .i64 (Proc.mk ki fr to_ st ep cy dn fa).st, .int .i64 (Proc.mk ki fr to_ st ep cy dn fa).ep, .int .i64 (Proc.mk ki fr to_ st ep cy dn fa).cy, .bool (Proc.mk ki fr to_ st ep cy dn fa).dn, .bool (Proc.mk ki fr to_ st ep cy dn fa).fa] 26 w' ∧ Held w (w.heap.size + 1) [.int .i64 0, .int .i64 0, .int .i64 0, .int .i64 0, .int .i64 0, .int .i64 0, .bool false, .bool false] 26 w') (v := .int .i64 i) (f := 36) (args := #[.slice A l.length c, .int .i64 fr]) rfl rfl (by rfl) ?_ (Calls.mono (ref52_Find _ A c l.length 5864062014634 l fr rfl (HC.out.below hHeld.1.bel)) ?_) ?_
    · go_simp
    · rw [HI.out]; rintro e w' ⟨rfl, hB⟩; exact ⟨rfl, hHeld.1.step hB, hHeld.2.step hB⟩
    clear hHeld
    intro w5 hHeld
    refine ⟨hHeld, ?_⟩
    simp only [Act.put, List.setIfInBounds_toArray, List.set_cons_zero, List.set_cons_succ]
    refine wpAnyH_all (rs := [7]) (by kernel_rfl) (by simp) ?_
    intro j hj
    simp only [List.mem_cons, List.not_mem_nil, or_false] at hj
    subst hj
    refine opCalledR (R := fun w' => Held w w.heap.size [.int .i64 (Proc.mk ki fr to_ st ep cy dn fa).ki, .int .i64 (Proc.mk ki fr to_ st ep cy dn fa).fr, .int .i64 (Proc.mk ki fr to_ st ep cy dn fa).to_, .int .i64 (Proc.mk ki fr to_ st ep cy dn fa).st, .int .i64 (Proc.mk ki fr to_ st ep cy dn fa).ep, .int .i64 (Proc.mk ki fr to_ st ep cy dn fa).cy, .bool (Proc.mk ki fr to_ st ep cy dn fa).dn, .bool (Proc.mk ki fr to_ st ep cy dn fa).fa] 26 w' ∧ Held w (w.heap.size + 1) [.int .i64 0, .int .i64 0, .int .i64 0, .int .i64 0, .int .i64 0, .int .i64 0, .bool false, .bool false] 26 w') (v := .int .i64 (-1)) (f := 36) (args := #[.slice A l.length c, .int .i64 to_]) rfl rfl (by rfl) ?_ (Calls.mono (ref52_Find _ A c l.length 5864062014634 l to_ rfl (HC.out.below hHeld.1.bel)) ?_) ?_
    · go_simp
    · rw [HK.out]; rintro e w' ⟨rfl, hB⟩; exact ⟨rfl, hHeld.1.step hB, hHeld.2.step hB⟩
    clear hHeld
    intro w6 hHeld
    refine ⟨hHeld, ?_⟩
    simp only [Act.put, List.setIfInBounds_toArray, List.set_cons_zero, List.set_cons_succ]
    refine takeD (i := 8) (v := .int .i64 i) rfl rfl (by kernel_rfl) (by kernel_rfl) (by kernel_rfl) (fun _ _ _ h => h) (by rfl) ?_ hHeld ?_
    · intro W hSw
      go_simp
    simp only [Act.put, List.setIfInBounds_toArray, List.set_cons_zero, List.set_cons_succ]
    refine takeD (i := 9) (v := .int .i64 (-1)) rfl rfl (by kernel_rfl) (by kernel_rfl) (by kernel_rfl) (fun _ _ _ h => h) (by rfl) ?_ hHeld ?_
    · intro W hSw
      go_simp
    simp only [Act.put, List.setIfInBounds_toArray, List.set_cons_zero, List.set_cons_succ]
    refine wpAnyH_done (by kernel_rfl) ?_ _
    clear KP KQ p0 p1 p2 p3 p4 p5 p6 p7 p8
    have KP := Keep.mk hHeld.1
    have KQ := Keep.mk hHeld.2
    clear hHeld
    obtain ⟨⟨p0, p1, p2, p3, p4, p5, p6, p7⟩, p8⟩ := KP.out.c8
    (try simp only at p0 p1 p2 p3 p4 p5 p6 p7)
    go_wp2_with (first | ((with_reducible refine wpList_store_proc (v0 := .int .i64 0) (v1 := .int .i64 0) (v2 := .int .i64 0) (v3 := .int .i64 0) (v4 := .int .i64 0) (v5 := .int .i64 0) (v6 := .bool false) (v7 := .bool false) ?_ (.tmp 8) (.tmp 45) ?_ w (w.heap.size + 1) ?_ ?_ zP ?_ ?_); rfl; rfl; (repeat' (first | with_reducible exact KQ.out | (with_reducible refine Held.alloc ?_ _) | (with_reducible refine Held.setOther ?_ (Nat.le_refl _) (Nat.succ_ne_self _) _))); rfl; rfl; intro w9 K9 hg; have K9 := Keep.mk K9; have HG := Keep.mk hg; clear hg))
    exact rstep_no w _ _ 7 rfl rfl rfl K9.out
set_option maxHeartbeats 4000000 in
theorem ref52_Step_go (w : World) (p : Proc) (A : Option Addr) (c : Nat) (l : List Site) (ok : Bool) (v : Int) (i k : Nat) (hc : checkP p = 0) (he : (checkAllS l).2 = 0) (h1 : findS l p.fr = i) (hil : i < l.length) (h2 : findS l p.to_ = k) (hkl : k < l.length) (hB : ∀ x, x ∈ l → x.li.length ≤ 5864062014634) (h : SitesAt 5864062014634 w A c l) :
    Calls Try.prog 20 #[.agg #[.int .i64 p.ki, .int .i64 p.fr, .int .i64 p.to_, .int .i64 p.st, .int .i64 p.ep, .int .i64 p.cy, .bool p.dn, .bool p.fa], .slice A l.length c, .bool ok, .int .i64 v] w (RStepRes w (stepS p l ok v)) := by
  have HCK := fun w => ref52_Check w p
  rw [hc] at HCK
  have HT := Keep.mk (step_tail (ok := ok) (v := v) hc he h1 h2)
  have HST := Keep.mk (And.intro (checkP_step hc) (checkP_dn hc))
  generalize stepS p l ok v = r at HT ⊢
  have HI := Keep.mk h1
  have HK := Keep.mk h2
  clear h1 h2
  have hck : checkAllS l = ((checkAllS l).1, 0) := by rw [← he]
  generalize (checkAllS l).1 = ci at hck
  have hl4 := checkAll_len he
  have h00 : ((0 : Int) != 0) = false := rfl
  have HE := Keep.mk hck
  clear hck he
  have HC := Keep.mk h
  have HB0 := Keep.mk hB
  clear hc h hB
  obtain ⟨ki, fr, to_, st, ep, cy, dn, fa⟩ := p
  have K0 := Keep.mk (rstart w ⟨ki, fr, to_, st, ep, cy, dn, fa⟩)
  simp only at HCK K0 HT HST HI HK ⊢
  obtain ⟨⟨p0, p1, p2, p3, p4, p5, p6, p7⟩, p8⟩ := K0.out.1.c8
  go_enter Try.func20, Try.ntmps20
  go_upto_region 6 with (first | (go_at_call 18; (with_reducible refine (HCK _).mono ?_); rintro en w1 ⟨rfl, hB⟩; have K1 := K0.out.1.step hB; have KP := Keep.mk K1; have KQ := Keep.mk (K0.out.2.step hB); clear p0 p1 p2 p3 p4 p5 p6 p7 p8; obtain ⟨⟨p0, p1, p2, p3, p4, p5, p6, p7⟩, p8⟩ := K1.c8; clear K1 hB) | (go_at_call 35; (with_reducible refine (ref_CheckAll _ A c 5864062014634 l HB0.out (HC.out.below KP.out.bel)).mono ?_); rw [HE.out]; rintro en w2 ⟨rfl, hB⟩; have K2 := KP.out.step hB; replace KP := Keep.mk K2; replace KQ := Keep.mk (KQ.out.step hB); clear p0 p1 p2 p3 p4 p5 p6 p7 p8; obtain ⟨⟨p0, p1, p2, p3, p4, p5, p6, p7⟩, p8⟩ := K2.c8; clear K2 hB))
  refine wp_region_held_drew (S := fun W => Held w w.heap.size [.int .i64 (Proc.mk ki fr to_ st ep cy dn fa).ki, .int .i64 (Proc.mk ki fr to_ st ep cy dn fa).fr, .int .i64 (Proc.mk ki fr to_ st ep cy dn fa).to_, .int .i64 (Proc.mk ki fr to_ st ep cy dn fa).st, .int .i64 (Proc.mk ki fr to_ st ep cy dn fa).ep, .int .i64 (Proc.mk ki fr to_ st ep cy dn fa).cy, .bool (Proc.mk ki fr to_ st ep cy dn fa).dn, .bool (Proc.mk ki fr to_ st ep cy dn fa).fa] 26 W ∧ Held w (w.heap.size + 1) [.int .i64 0, .int .i64 0, .int .i64 0, .int .i64 0, .int .i64 0, .int .i64 0, .bool false, .bool false] 26 W) (by kernel_rfl) ⟨KP.out.drew, KQ.out.drew⟩ (fun hHeld => ?_)
  refine takeD (i := 0) (v := .slice A l.length c) rfl rfl (by kernel_rfl) (by kernel_rfl) (by kernel_rfl) (fun _ _ _ h => h) (by rfl) ?_ hHeld ?_
  · intro W hSw
    go_simp
  simp only [Act.put, List.setIfInBounds_toArray, List.set_cons_zero, List.set_cons_succ]
  refine takeD (i := 1) (v := .pointer (some ⟨w.heap.size, 1, none⟩)) rfl rfl (by kernel_rfl) (by kernel_rfl) (by kernel_rfl) (fun _ _ _ h => h) (by rfl) ?_ hHeld ?_
  · intro W hSw
    go_simp
  simp only [Act.put, List.setIfInBounds_toArray, List.set_cons_zero, List.set_cons_succ]
  refine takeD (i := 2) (v := .int .i64 fr) rfl rfl (by kernel_rfl) (by kernel_rfl) (by kernel_rfl) (fun _ _ _ h => h) (by rfl) ?_ hHeld ?_
  · intro W hSw
    have t1 := hSw.1.cell 1 _ rfl
    (try simp only at t1)
    go_simp
  simp only [Act.put, List.setIfInBounds_toArray, List.set_cons_zero, List.set_cons_succ]
  refine takeD (i := 4) (v := .slice A l.length c) rfl rfl (by kernel_rfl) (by kernel_rfl) (by kernel_rfl) (fun _ _ _ h => h) (by rfl) ?_ hHeld ?_
  · intro W hSw
    go_simp
  simp only [Act.put, List.setIfInBounds_toArray, List.set_cons_zero, List.set_cons_succ]
  refine takeD (i := 5) (v := .pointer (some ⟨w.heap.size, 2, none⟩)) rfl rfl (by kernel_rfl) (by kernel_rfl) (by kernel_rfl) (fun _ _ _ h => h) (by rfl) ?_ hHeld ?_
  · intro W hSw
    go_simp
  simp only [Act.put, List.setIfInBounds_toArray, List.set_cons_zero, List.set_cons_succ]
  refine takeD (i := 6) (v := .int .i64 to_) rfl rfl (by kernel_rfl) (by kernel_rfl) (by kernel_rfl) (fun _ _ _ h => h) (by rfl) ?_ hHeld ?_
  · intro W hSw
    have t1 := hSw.1.cell 2 _ rfl
    (try simp only at t1)
    go_simp
  simp only [Act.put, List.setIfInBounds_toArray, List.set_cons_zero, List.set_cons_succ]
  refine wpAnyH_all (rs := [3]) (by kernel_rfl) (by simp) ?_
  intro j hj
  simp only [List.mem_cons, List.not_mem_nil, or_false] at hj
  subst hj
  refine opCalledR (R := fun w' => Held w w.heap.size [.int .i64 (Proc.mk ki fr to_ st ep cy dn fa).ki, .int .i64 (Proc.mk ki fr to_ st ep cy dn fa).fr, .int .i64 (Proc.mk ki fr to_ st ep cy dn fa).to_, .int .i64 (Proc.mk ki fr to_ st ep cy dn fa).st, .int .i64 (Proc.mk ki fr to_ st ep cy dn fa).ep, .int .i64 (Proc.mk ki fr to_ st ep cy dn fa).cy, .bool (Proc.mk ki fr to_ st ep cy dn fa).dn, .bool (Proc.mk ki fr to_ st ep cy dn fa).fa] 26 w' ∧ Held w (w.heap.size + 1) [.int .i64 0, .int .i64 0, .int .i64 0, .int .i64 0, .int .i64 0, .int .i64 0, .bool false, .bool false] 26 w') (v := .int .i64 i) (f := 36) (args := #[.slice A l.length c, .int .i64 fr]) rfl rfl (by rfl) ?_ (Calls.mono (ref52_Find _ A c l.length 5864062014634 l fr rfl (HC.out.below hHeld.1.bel)) ?_) ?_
  · go_simp
  · rw [HI.out]; rintro e w' ⟨rfl, hB⟩; exact ⟨rfl, hHeld.1.step hB, hHeld.2.step hB⟩
  clear hHeld
  intro w5 hHeld
  refine ⟨hHeld, ?_⟩
  simp only [Act.put, List.setIfInBounds_toArray, List.set_cons_zero, List.set_cons_succ]
  refine wpAnyH_all (rs := [7]) (by kernel_rfl) (by simp) ?_
  intro j hj
  simp only [List.mem_cons, List.not_mem_nil, or_false] at hj
  subst hj
  refine opCalledR (R := fun w' => Held w w.heap.size [.int .i64 (Proc.mk ki fr to_ st ep cy dn fa).ki, .int .i64 (Proc.mk ki fr to_ st ep cy dn fa).fr, .int .i64 (Proc.mk ki fr to_ st ep cy dn fa).to_, .int .i64 (Proc.mk ki fr to_ st ep cy dn fa).st, .int .i64 (Proc.mk ki fr to_ st ep cy dn fa).ep, .int .i64 (Proc.mk ki fr to_ st ep cy dn fa).cy, .bool (Proc.mk ki fr to_ st ep cy dn fa).dn, .bool (Proc.mk ki fr to_ st ep cy dn fa).fa] 26 w' ∧ Held w (w.heap.size + 1) [.int .i64 0, .int .i64 0, .int .i64 0, .int .i64 0, .int .i64 0, .int .i64 0, .bool false, .bool false] 26 w') (v := .int .i64 k) (f := 36) (args := #[.slice A l.length c, .int .i64 to_]) rfl rfl (by rfl) ?_ (Calls.mono (ref52_Find _ A c l.length 5864062014634 l to_ rfl (HC.out.below hHeld.1.bel)) ?_) ?_
  · go_simp
  · rw [HK.out]; rintro e w' ⟨rfl, hB⟩; exact ⟨rfl, hHeld.1.step hB, hHeld.2.step hB⟩
  clear hHeld
  intro w6 hHeld
  refine ⟨hHeld, ?_⟩
  simp only [Act.put, List.setIfInBounds_toArray, List.set_cons_zero, List.set_cons_succ]
  refine takeD (i := 8) (v := .int .i64 i) rfl rfl (by kernel_rfl) (by kernel_rfl) (by kernel_rfl) (fun _ _ _ h => h) (by rfl) ?_ hHeld ?_
  · intro W hSw
    go_simp
  simp only [Act.put, List.setIfInBounds_toArray, List.set_cons_zero, List.set_cons_succ]
  refine takeD (i := 9) (v := .int .i64 k) rfl rfl (by kernel_rfl) (by kernel_rfl) (by kernel_rfl) (fun _ _ _ h => h) (by rfl) ?_ hHeld ?_
  · intro W hSw
    go_simp
  simp only [Act.put, List.setIfInBounds_toArray, List.set_cons_zero, List.set_cons_succ]
  refine wpAnyH_done (by kernel_rfl) ?_ _
  clear KP KQ p0 p1 p2 p3 p4 p5 p6 p7 p8
  have KP := Keep.mk hHeld.1
  have KQ := Keep.mk hHeld.2
  clear hHeld
  obtain ⟨⟨p0, p1, p2, p3, p4, p5, p6, p7⟩, p8⟩ := KP.out.c8
  (try simp only at p0 p1 p2 p3 p4 p5 p6 p7)
  cases dn
  case true =>
    have hr : r = (zP, [], 12) := HT.out.trans (by simp)
    subst hr
    go_wp2_with (first | ((with_reducible refine wpList_store_proc (v0 := .int .i64 0) (v1 := .int .i64 0) (v2 := .int .i64 0) (v3 := .int .i64 0) (v4 := .int .i64 0) (v5 := .int .i64 0) (v6 := .bool false) (v7 := .bool false) ?_ (.tmp 8) (.tmp 52) ?_ w (w.heap.size + 1) ?_ ?_ zP ?_ ?_); rfl; rfl; (repeat' (first | with_reducible exact KQ.out | (with_reducible refine Held.alloc ?_ _) | (with_reducible refine Held.setOther ?_ (Nat.le_refl _) (Nat.succ_ne_self _) _))); rfl; rfl; intro w9 K9 hg; have K9 := Keep.mk K9; have HG := Keep.mk hg; clear hg))
    exact rstep_no w _ _ 12 rfl rfl rfl K9.out
  cases fa
  case true =>
    have hr : r = (zP, [], 12) := HT.out.trans (by simp)
    subst hr
    go_wp2_with (first | ((with_reducible refine wpList_store_proc (v0 := .int .i64 0) (v1 := .int .i64 0) (v2 := .int .i64 0) (v3 := .int .i64 0) (v4 := .int .i64 0) (v5 := .int .i64 0) (v6 := .bool false) (v7 := .bool false) ?_ (.tmp 8) (.tmp 52) ?_ w (w.heap.size + 1) ?_ ?_ zP ?_ ?_); rfl; rfl; (repeat' (first | with_reducible exact KQ.out | (with_reducible refine Held.alloc ?_ _) | (with_reducible refine Held.setOther ?_ (Nat.le_refl _) (Nat.succ_ne_self _) _))); rfl; rfl; intro w9 K9 hg; have K9 := Keep.mk K9; have HG := Keep.mk hg; clear hg))
    exact rstep_no w _ _ 12 rfl rfl rfl K9.out
  cases ok
  case false =>
    have hr : r = (⟨ki, fr, to_, st, ep, cy, false, decide (st ≤ 3)⟩, l, 0) := HT.out.trans (by simp)
    subst hr
    go_wp2_with (first | ((with_reducible refine wpList_store_proc (v0 := .int .i64 0) (v1 := .int .i64 0) (v2 := .int .i64 0) (v3 := .int .i64 0) (v4 := .int .i64 0) (v5 := .int .i64 0) (v6 := .bool false) (v7 := .bool false) ?_ (.tmp 8) (.tmp 59) ?_ w (w.heap.size + 1) ?_ ?_ ⟨ki, fr, to_, st, ep, cy, false, decide (st ≤ 3)⟩ ?_ ?_); rfl; rfl; (repeat' (first | with_reducible exact KQ.out | (with_reducible refine Held.alloc ?_ _) | (with_reducible refine Held.setOther ?_ (Nat.le_refl _) (Nat.succ_ne_self _) _))); rfl; rfl; intro w9 K9 hg; have K9 := Keep.mk K9; have HG := Keep.mk hg; clear hg))
    exact rstep_out w _ _ ⟨ki, fr, to_, st, ep, cy, false, decide (st ≤ 3)⟩ l 0 A c _ rfl rfl rfl rfl K9.out (HC.out.below K9.out.bel) HB0.out
  have h5 : st ≠ 5 := fun e => by have := HST.out.2; subst e; exact absurd this (by decide)
  have HSTL := Keep.mk (show st = 0 ∨ st = 1 ∨ st = 2 ∨ st = 3 ∨ st = 4 by have := HST.out.1; omega)
  obtain ⟨sa, hsa⟩ : ∃ x, l.getD i zS = x := ⟨_, rfl⟩
  obtain ⟨sb, hsb⟩ : ∃ x, l.getD k zS = x := ⟨_, rfl⟩
  rw [hsa, hsb] at HT
  have HSS := Keep.mk (And.intro hsa hsb)
  clear hsa hsb h5 HST
  by_cases he : sucE ⟨ki, fr, to_, st, ep, cy, false, false⟩ sa sb v = 0
  · obtain ⟨⟨y1, y2, y3, y4, y5, y6, y7, y8⟩, hq⟩ : ∃ q : Proc, sucP ⟨ki, fr, to_, st, ep, cy, false, false⟩ v = q := ⟨_, rfl⟩
    obtain ⟨l2, hl2⟩ : ∃ x, sucL ⟨ki, fr, to_, st, ep, cy, false, false⟩ l i k = x := ⟨_, rfl⟩
    have hr : r = (⟨y1, y2, y3, y4, y5, y6, y7, y8⟩, l2, 0) := HT.out.trans (by simp [he, hq, hl2])
    subst hr
    have hsl := sucL_len ⟨ki, fr, to_, st, ep, cy, false, false⟩ l i k
    rw [hl2] at hsl
    have HL2 := Keep.mk hsl
    have HSC := Keep.mk (show ∀ W, Held w w.heap.size [.int .i64 (Proc.mk ki fr to_ st ep cy false false).ki, .int .i64 (Proc.mk ki fr to_ st ep cy false false).fr, .int .i64 (Proc.mk ki fr to_ st ep cy false false).to_, .int .i64 (Proc.mk ki fr to_ st ep cy false false).st, .int .i64 (Proc.mk ki fr to_ st ep cy false false).ep, .int .i64 (Proc.mk ki fr to_ st ep cy false false).cy, .bool (Proc.mk ki fr to_ st ep cy false false).dn, .bool (Proc.mk ki fr to_ st ep cy false false).fa] 26 W → Calls Try.prog 42 #[.agg #[.int .i64 (Proc.mk ki fr to_ st ep cy false false).ki, .int .i64 (Proc.mk ki fr to_ st ep cy false false).fr, .int .i64 (Proc.mk ki fr to_ st ep cy false false).to_, .int .i64 (Proc.mk ki fr to_ st ep cy false false).st, .int .i64 (Proc.mk ki fr to_ st ep cy false false).ep, .int .i64 (Proc.mk ki fr to_ st ep cy false false).cy, .bool (Proc.mk ki fr to_ st ep cy false false).dn, .bool (Proc.mk ki fr to_ st ep cy false false).fa], .slice A l.length c, .int .i64 i, .int .i64 k, .int .i64 v] W (fun en w' => ∃ A2 c2, en = .returned (.tuple #[.agg #[.int .i64 (Proc.mk y1 y2 y3 y4 y5 y6 y7 y8).ki, .int .i64 (Proc.mk y1 y2 y3 y4 y5 y6 y7 y8).fr, .int .i64 (Proc.mk y1 y2 y3 y4 y5 y6 y7 y8).to_, .int .i64 (Proc.mk y1 y2 y3 y4 y5 y6 y7 y8).st, .int .i64 (Proc.mk y1 y2 y3 y4 y5 y6 y7 y8).ep, .int .i64 (Proc.mk y1 y2 y3 y4 y5 y6 y7 y8).cy, .bool (Proc.mk y1 y2 y3 y4 y5 y6 y7 y8).dn, .bool (Proc.mk y1 y2 y3 y4 y5 y6 y7 y8).fa], .slice A2 l.length c2, .int .i64 0]) ∧ SitesOut w W.heap.size A c l A2 c2 l2 w' ∧ Below W.heap.size W w') from fun W K => (ref52_succeed w W K.bel ⟨ki, fr, to_, st, ep, cy, false, false⟩ A c l.length l i k v sa sb rfl hl4 hil hkl HSS.out.1 HSS.out.2 HB0.out HC.out HSTL.out).mono (by rintro en w' (⟨h, -⟩ | ⟨-, h⟩); exact absurd he h; rw [hq, hl2] at h; exact h))
    simp only at HSC
    clear hq hl2 he hsl
    go_wp2_with (first
      | (go_at_call 42; (with_reducible refine (HSC.out _ KP.out).mono ?_); rintro en w7 ⟨A2, c2, rfl, hO, hB⟩; have HO := Keep.mk hO; have HQL := Keep.mk KQ.out.lt; replace KQ := Keep.mk (KQ.out.step hB); have HKP := Keep.mk (KP.out.step hB); clear hB hO)
      | ((with_reducible refine wpList_store_proc (v0 := .int .i64 0) (v1 := .int .i64 0) (v2 := .int .i64 0) (v3 := .int .i64 0) (v4 := .int .i64 0) (v5 := .int .i64 0) (v6 := .bool false) (v7 := .bool false) ?_ (.tmp 8) (.tmp 75) ?_ w (w.heap.size + 1) ?_ ?_ ⟨y1, y2, y3, y4, y5, y6, y7, y8⟩ ?_ ?_); rfl; rfl; (repeat' (first | with_reducible exact KQ.out | (with_reducible refine Held.alloc ?_ _) | (with_reducible refine Held.setOther ?_ (Nat.le_refl _) (Nat.succ_ne_self _) _))); rfl; rfl; intro w9 K9 hg; have K9 := Keep.mk K9; have HG := Keep.mk hg; clear hg))
    rcases HO.out with ⟨rfl, rfl, rfl⟩ | ⟨m, hm, hR⟩
    · exact rstep_out w _ _ ⟨y1, y2, y3, y4, y5, y6, y7, y8⟩ _ 0 _ _ _ rfl rfl rfl rfl K9.out (HC.out.below K9.out.bel) HB0.out
    · have hR2 := (hR.step (below_new (Below.refl _ _) _)).oth (KQ.out.alloc _) (by decide) HQL.out HG.out
      exact rstep_out w _ _ ⟨y1, y2, y3, y4, y5, y6, y7, y8⟩ l2 0 _ _ l.length HL2.out.symm rfl rfl rfl K9.out (hm ▸ hR2.1.reads K9.out.bel _) (hm ▸ hR2.1.few K9.out.bel)
  · obtain ⟨e, hes⟩ : ∃ e, sucE ⟨ki, fr, to_, st, ep, cy, false, false⟩ sa sb v = e := ⟨_, rfl⟩
    have hr : r = (zP, [], e) := HT.out.trans (by rw [← hes]; simp [he])
    subst hr
    have HSC := Keep.mk (show ∀ W, Held w w.heap.size [.int .i64 (Proc.mk ki fr to_ st ep cy false false).ki, .int .i64 (Proc.mk ki fr to_ st ep cy false false).fr, .int .i64 (Proc.mk ki fr to_ st ep cy false false).to_, .int .i64 (Proc.mk ki fr to_ st ep cy false false).st, .int .i64 (Proc.mk ki fr to_ st ep cy false false).ep, .int .i64 (Proc.mk ki fr to_ st ep cy false false).cy, .bool (Proc.mk ki fr to_ st ep cy false false).dn, .bool (Proc.mk ki fr to_ st ep cy false false).fa] 26 W → Calls Try.prog 42 #[.agg #[.int .i64 (Proc.mk ki fr to_ st ep cy false false).ki, .int .i64 (Proc.mk ki fr to_ st ep cy false false).fr, .int .i64 (Proc.mk ki fr to_ st ep cy false false).to_, .int .i64 (Proc.mk ki fr to_ st ep cy false false).st, .int .i64 (Proc.mk ki fr to_ st ep cy false false).ep, .int .i64 (Proc.mk ki fr to_ st ep cy false false).cy, .bool (Proc.mk ki fr to_ st ep cy false false).dn, .bool (Proc.mk ki fr to_ st ep cy false false).fa], .slice A l.length c, .int .i64 i, .int .i64 k, .int .i64 v] W (fun en w' => en = .returned (.tuple #[.agg #[.int .i64 (Proc.mk ki fr to_ st ep cy false false).ki, .int .i64 (Proc.mk ki fr to_ st ep cy false false).fr, .int .i64 (Proc.mk ki fr to_ st ep cy false false).to_, .int .i64 (Proc.mk ki fr to_ st ep cy false false).st, .int .i64 (Proc.mk ki fr to_ st ep cy false false).ep, .int .i64 (Proc.mk ki fr to_ st ep cy false false).cy, .bool (Proc.mk ki fr to_ st ep cy false false).dn, .bool (Proc.mk ki fr to_ st ep cy false false).fa], .slice A l.length c, .int .i64 e]) ∧ Below W.heap.size W w') from fun W K => (ref52_succeed w W K.bel ⟨ki, fr, to_, st, ep, cy, false, false⟩ A c l.length l i k v sa sb rfl hl4 hil hkl HSS.out.1 HSS.out.2 HB0.out HC.out HSTL.out).mono (by rintro en w' (⟨-, h⟩ | ⟨h, -⟩); rw [hes] at h; exact h; exact absurd h he))
    simp only at HSC
    have h0' : (e != 0) = true := by rw [← hes]; simpa using he
    clear he hes
    go_wp2_with (first
      | (go_at_call 42; (with_reducible refine (HSC.out _ KP.out).mono ?_); rintro en w7 ⟨rfl, hB⟩; replace KQ := Keep.mk (KQ.out.step hB); clear hB)
      | ((with_reducible refine wpList_store_proc (v0 := .int .i64 0) (v1 := .int .i64 0) (v2 := .int .i64 0) (v3 := .int .i64 0) (v4 := .int .i64 0) (v5 := .int .i64 0) (v6 := .bool false) (v7 := .bool false) ?_ (.tmp 8) (.tmp 73) ?_ w (w.heap.size + 1) ?_ ?_ zP ?_ ?_); rfl; rfl; (repeat' (first | with_reducible exact KQ.out | (with_reducible refine Held.alloc ?_ _) | (with_reducible refine Held.setOther ?_ (Nat.le_refl _) (Nat.succ_ne_self _) _))); rfl; rfl; intro w9 K9 hg; have K9 := Keep.mk K9; have HG := Keep.mk hg; clear hg))
    exact rstep_no w _ _ e rfl rfl rfl K9.out
theorem abort_tailr {p : Proc} {l : List Site} (hc : checkP p = 0) (he : (checkAllS l).2 = 0) :
    abortS p l = if p.dn = true then (zP, [], 12) else if p.fa = true then (zP, [], 12) else if decide (p.st ≤ 3) = false then (zP, [], 12) else ({ p with fa := true }, l, 0) := by
  unfold abortS
  rw [if_neg (not_not_intro hc), if_neg (not_not_intro he)]
theorem rabort_out (w w1 : World) (tmps : Array Value) (q : Proc) (l : List Site) (e : Int) (A : Option Addr) (c n : Nat) (hn : n = l.length) (h8 : tmps.getD 4 undef = .pointer (some ⟨w.heap.size + 1, 0, none⟩)) (h9 : tmps.getD 5 undef = .slice A n c) (h10 : tmps.getD 6 undef = .int .i64 e) (K : Held w (w.heap.size + 1) [.int .i64 q.ki, .int .i64 q.fr, .int .i64 q.to_, .int .i64 q.st, .int .i64 q.ep, .int .i64 q.cy, .bool q.dn, .bool q.fa] 26 w1) (HS : SitesAt 5864062014634 w1 A c l) (HF : ∀ x, x ∈ l → x.li.length ≤ 5864062014634) :
    bodyPost Try.prog Try.f23 (RStepRes w (q, l, e)) Exit.ret { tmps := tmps, defers := [] } w1 := by
  subst hn
  refine bodyPost_ret (results_row_tmp2 rfl tmps w1 (w.heap.size + 1) 26 _ _ h8 K.blk Try.underlying26 rfl (by kernel_rfl)) rfl ⟨A, c, ?_, HS, HF, K.bel⟩
  rw [h9, h10]
theorem rabort_no (w w1 : World) (tmps : Array Value) (e : Int) (h8 : tmps.getD 4 undef = .pointer (some ⟨w.heap.size + 1, 0, none⟩)) (h9 : tmps.getD 5 undef = .slice none 0 0) (h10 : tmps.getD 6 undef = .int .i64 e) (K : Held w (w.heap.size + 1) [.int .i64 0, .int .i64 0, .int .i64 0, .int .i64 0, .int .i64 0, .int .i64 0, .bool false, .bool false] 26 w1) :
    bodyPost Try.prog Try.f23 (RStepRes w (zP, [], e)) Exit.ret { tmps := tmps, defers := [] } w1 :=
  rabort_out w w1 tmps zP [] e none 0 0 rfl h8 h9 h10 K (SitesAt.nil _ _) (fun _ h => by cases h)
set_option maxHeartbeats 1000000 in
theorem ref52_Abort_no1 (w : World) (p : Proc) (A : Option Addr) (c n : Nat) (hc : checkP p = 3) :
    Calls Try.prog 23 #[.agg #[.int .i64 p.ki, .int .i64 p.fr, .int .i64 p.to_, .int .i64 p.st, .int .i64 p.ep, .int .i64 p.cy, .bool p.dn, .bool p.fa], .slice A n c] w (RStepRes w (zP, [], 3)) := by
  have HCK := fun w => ref52_Check w p
  rw [hc] at HCK
  clear hc
  obtain ⟨ki, fr, to_, st, ep, cy, dn, fa⟩ := p
  have K0 := Keep.mk (rstart w ⟨ki, fr, to_, st, ep, cy, dn, fa⟩)
  simp only at HCK K0 ⊢
  obtain ⟨⟨p0, p1, p2, p3, p4, p5, p6, p7⟩, p8⟩ := K0.out.1.c8
  go_enter Try.func23, Try.ntmps23
  go_wp2_with (first | (go_at_call 18; (with_reducible refine (HCK _).mono ?_); rintro en w1 ⟨rfl, hB⟩; have KQ := Keep.mk (K0.out.2.step hB); clear hB) | ((with_reducible refine wpList_store_proc (v0 := .int .i64 0) (v1 := .int .i64 0) (v2 := .int .i64 0) (v3 := .int .i64 0) (v4 := .int .i64 0) (v5 := .int .i64 0) (v6 := .bool false) (v7 := .bool false) ?_ (.tmp 4) (.tmp 12) ?_ w (w.heap.size + 1) ?_ ?_ zP ?_ ?_); rfl; rfl; (repeat' (first | with_reducible exact KQ.out | (with_reducible refine Held.alloc ?_ _) | (with_reducible refine Held.setOther ?_ (Nat.le_refl _) (Nat.succ_ne_self _) _))); rfl; rfl; intro w9 K9 hg; have K9 := Keep.mk K9; have HG := Keep.mk hg; clear hg))
  exact rabort_no w _ _ 3 rfl rfl rfl K9.out
set_option maxHeartbeats 1000000 in
theorem ref52_Abort_no2 (w : World) (p : Proc) (A : Option Addr) (c : Nat) (l : List Site) (e : Int) (hc : checkP p = 0) (he : (checkAllS l).2 = e) (h0 : e ≠ 0) (hB : ∀ x, x ∈ l → x.li.length ≤ 5864062014634) (h : SitesAt 5864062014634 w A c l) :
    Calls Try.prog 23 #[.agg #[.int .i64 p.ki, .int .i64 p.fr, .int .i64 p.to_, .int .i64 p.st, .int .i64 p.ep, .int .i64 p.cy, .bool p.dn, .bool p.fa], .slice A l.length c] w (RStepRes w (zP, [], e)) := by
  have HCK := fun w => ref52_Check w p
  rw [hc] at HCK
  have hck : checkAllS l = ((checkAllS l).1, e) := by rw [← he]
  generalize (checkAllS l).1 = ci at hck
  have HE := Keep.mk hck
  have h0' : (e != 0) = true := by simpa using h0
  clear hck he h0
  have HC := Keep.mk h
  have HB0 := Keep.mk hB
  clear hc h hB
  obtain ⟨ki, fr, to_, st, ep, cy, dn, fa⟩ := p
  have K0 := Keep.mk (rstart w ⟨ki, fr, to_, st, ep, cy, dn, fa⟩)
  simp only at HCK K0 ⊢
  obtain ⟨⟨p0, p1, p2, p3, p4, p5, p6, p7⟩, p8⟩ := K0.out.1.c8
  go_enter Try.func23, Try.ntmps23
  go_wp2_with (first | (go_at_call 18; (with_reducible refine (HCK _).mono ?_); rintro en w1 ⟨rfl, hB⟩; have K1 := K0.out.1.step hB; have KP := Keep.mk K1; have KQ := Keep.mk (K0.out.2.step hB); clear p0 p1 p2 p3 p4 p5 p6 p7 p8; obtain ⟨⟨p0, p1, p2, p3, p4, p5, p6, p7⟩, p8⟩ := K1.c8; clear K1 hB) | (go_at_call 35; (with_reducible refine (ref_CheckAll _ A c 5864062014634 l HB0.out (HC.out.below KP.out.bel)).mono ?_); rw [HE.out]; rintro en w2 ⟨rfl, hB⟩; have K2 := KP.out.step hB; replace KP := Keep.mk K2; replace KQ := Keep.mk (KQ.out.step hB); clear p0 p1 p2 p3 p4 p5 p6 p7 p8; obtain ⟨⟨p0, p1, p2, p3, p4, p5, p6, p7⟩, p8⟩ := K2.c8; clear K2 hB) | ((with_reducible refine wpList_store_proc (v0 := .int .i64 0) (v1 := .int .i64 0) (v2 := .int .i64 0) (v3 := .int .i64 0) (v4 := .int .i64 0) (v5 := .int .i64 0) (v6 := .bool false) (v7 := .bool false) ?_ (.tmp 4) (.tmp 20) ?_ w (w.heap.size + 1) ?_ ?_ zP ?_ ?_); rfl; rfl; (repeat' (first | with_reducible exact KQ.out | (with_reducible refine Held.alloc ?_ _) | (with_reducible refine Held.setOther ?_ (Nat.le_refl _) (Nat.succ_ne_self _) _))); rfl; rfl; intro w9 K9 hg; have K9 := Keep.mk K9; have HG := Keep.mk hg; clear hg))
  exact rabort_no w _ _ e rfl rfl rfl K9.out
set_option maxHeartbeats 1000000 in
theorem ref52_Abort_go (w : World) (p : Proc) (A : Option Addr) (c : Nat) (l : List Site) (hc : checkP p = 0) (he : (checkAllS l).2 = 0) (hB : ∀ x, x ∈ l → x.li.length ≤ 5864062014634) (h : SitesAt 5864062014634 w A c l) :
    Calls Try.prog 23 #[.agg #[.int .i64 p.ki, .int .i64 p.fr, .int .i64 p.to_, .int .i64 p.st, .int .i64 p.ep, .int .i64 p.cy, .bool p.dn, .bool p.fa], .slice A l.length c] w (RStepRes w (abortS p l)) := by
  have HCK := fun w => ref52_Check w p
  rw [hc] at HCK
  have HT := Keep.mk (abort_tailr hc he)
  generalize abortS p l = r at HT ⊢
  have hck : checkAllS l = ((checkAllS l).1, 0) := by rw [← he]
  generalize (checkAllS l).1 = ci at hck
  have h00 : ((0 : Int) != 0) = false := rfl
  have HE := Keep.mk hck
  clear hck he
  have HC := Keep.mk h
  have HB0 := Keep.mk hB
  clear hc h hB
  obtain ⟨ki, fr, to_, st, ep, cy, dn, fa⟩ := p
  have K0 := Keep.mk (rstart w ⟨ki, fr, to_, st, ep, cy, dn, fa⟩)
  simp only at HCK K0 HT ⊢
  obtain ⟨⟨p0, p1, p2, p3, p4, p5, p6, p7⟩, p8⟩ := K0.out.1.c8
  cases dn
  case true =>
    have hr : r = (zP, [], 12) := HT.out.trans (by simp)
    subst hr
    go_enter Try.func23, Try.ntmps23
    go_wp2_with (first | (go_at_call 18; (with_reducible refine (HCK _).mono ?_); rintro en w1 ⟨rfl, hB⟩; have K1 := K0.out.1.step hB; have KP := Keep.mk K1; have KQ := Keep.mk (K0.out.2.step hB); clear p0 p1 p2 p3 p4 p5 p6 p7 p8; obtain ⟨⟨p0, p1, p2, p3, p4, p5, p6, p7⟩, p8⟩ := K1.c8; clear K1 hB) | (go_at_call 35; (with_reducible refine (ref_CheckAll _ A c 5864062014634 l HB0.out (HC.out.below KP.out.bel)).mono ?_); rw [HE.out]; rintro en w2 ⟨rfl, hB⟩; have K2 := KP.out.step hB; replace KP := Keep.mk K2; replace KQ := Keep.mk (KQ.out.step hB); clear p0 p1 p2 p3 p4 p5 p6 p7 p8; obtain ⟨⟨p0, p1, p2, p3, p4, p5, p6, p7⟩, p8⟩ := K2.c8; clear K2 hB) | ((with_reducible refine wpList_store_proc (v0 := .int .i64 0) (v1 := .int .i64 0) (v2 := .int .i64 0) (v3 := .int .i64 0) (v4 := .int .i64 0) (v5 := .int .i64 0) (v6 := .bool false) (v7 := .bool false) ?_ (.tmp 4) (.tmp 33) ?_ w (w.heap.size + 1) ?_ ?_ zP ?_ ?_); rfl; rfl; (repeat' (first | with_reducible exact KQ.out | (with_reducible refine Held.alloc ?_ _) | (with_reducible refine Held.setOther ?_ (Nat.le_refl _) (Nat.succ_ne_self _) _))); rfl; rfl; intro w9 K9 hg; have K9 := Keep.mk K9; have HG := Keep.mk hg; clear hg))
    exact rabort_no w _ _ 12 rfl rfl rfl K9.out
  cases fa
  case true =>
    have hr : r = (zP, [], 12) := HT.out.trans (by simp)
    subst hr
    go_enter Try.func23, Try.ntmps23
    go_wp2_with (first | (go_at_call 18; (with_reducible refine (HCK _).mono ?_); rintro en w1 ⟨rfl, hB⟩; have K1 := K0.out.1.step hB; have KP := Keep.mk K1; have KQ := Keep.mk (K0.out.2.step hB); clear p0 p1 p2 p3 p4 p5 p6 p7 p8; obtain ⟨⟨p0, p1, p2, p3, p4, p5, p6, p7⟩, p8⟩ := K1.c8; clear K1 hB) | (go_at_call 35; (with_reducible refine (ref_CheckAll _ A c 5864062014634 l HB0.out (HC.out.below KP.out.bel)).mono ?_); rw [HE.out]; rintro en w2 ⟨rfl, hB⟩; have K2 := KP.out.step hB; replace KP := Keep.mk K2; replace KQ := Keep.mk (KQ.out.step hB); clear p0 p1 p2 p3 p4 p5 p6 p7 p8; obtain ⟨⟨p0, p1, p2, p3, p4, p5, p6, p7⟩, p8⟩ := K2.c8; clear K2 hB) | ((with_reducible refine wpList_store_proc (v0 := .int .i64 0) (v1 := .int .i64 0) (v2 := .int .i64 0) (v3 := .int .i64 0) (v4 := .int .i64 0) (v5 := .int .i64 0) (v6 := .bool false) (v7 := .bool false) ?_ (.tmp 4) (.tmp 33) ?_ w (w.heap.size + 1) ?_ ?_ zP ?_ ?_); rfl; rfl; (repeat' (first | with_reducible exact KQ.out | (with_reducible refine Held.alloc ?_ _) | (with_reducible refine Held.setOther ?_ (Nat.le_refl _) (Nat.succ_ne_self _) _))); rfl; rfl; intro w9 K9 hg; have K9 := Keep.mk K9; have HG := Keep.mk hg; clear hg))
    exact rabort_no w _ _ 12 rfl rfl rfl K9.out
  cases g : decide (st ≤ 3)
  case false =>
    have hr : r = (zP, [], 12) := HT.out.trans (by simp [g])
    subst hr
    have g' : decide (3 < st) = true := by simp at g ⊢; omega
    clear g
    go_enter Try.func23, Try.ntmps23
    go_wp2_with (first | (go_at_call 18; (with_reducible refine (HCK _).mono ?_); rintro en w1 ⟨rfl, hB⟩; have K1 := K0.out.1.step hB; have KP := Keep.mk K1; have KQ := Keep.mk (K0.out.2.step hB); clear p0 p1 p2 p3 p4 p5 p6 p7 p8; obtain ⟨⟨p0, p1, p2, p3, p4, p5, p6, p7⟩, p8⟩ := K1.c8; clear K1 hB) | (go_at_call 35; (with_reducible refine (ref_CheckAll _ A c 5864062014634 l HB0.out (HC.out.below KP.out.bel)).mono ?_); rw [HE.out]; rintro en w2 ⟨rfl, hB⟩; have K2 := KP.out.step hB; replace KP := Keep.mk K2; replace KQ := Keep.mk (KQ.out.step hB); clear p0 p1 p2 p3 p4 p5 p6 p7 p8; obtain ⟨⟨p0, p1, p2, p3, p4, p5, p6, p7⟩, p8⟩ := K2.c8; clear K2 hB) | ((with_reducible refine wpList_store_proc (v0 := .int .i64 0) (v1 := .int .i64 0) (v2 := .int .i64 0) (v3 := .int .i64 0) (v4 := .int .i64 0) (v5 := .int .i64 0) (v6 := .bool false) (v7 := .bool false) ?_ (.tmp 4) (.tmp 33) ?_ w (w.heap.size + 1) ?_ ?_ zP ?_ ?_); rfl; rfl; (repeat' (first | with_reducible exact KQ.out | (with_reducible refine Held.alloc ?_ _) | (with_reducible refine Held.setOther ?_ (Nat.le_refl _) (Nat.succ_ne_self _) _))); rfl; rfl; intro w9 K9 hg; have K9 := Keep.mk K9; have HG := Keep.mk hg; clear hg))
    exact rabort_no w _ _ 12 rfl rfl rfl K9.out
  have hr : r = (⟨ki, fr, to_, st, ep, cy, false, true⟩, l, 0) := HT.out.trans (by simp [g])
  subst hr
  have g' : decide (3 < st) = false := by simp at g ⊢; omega
  clear g
  go_enter Try.func23, Try.ntmps23
  go_wp2_with (first | (go_at_call 18; (with_reducible refine (HCK _).mono ?_); rintro en w1 ⟨rfl, hB⟩; have K1 := K0.out.1.step hB; have KP := Keep.mk K1; have KQ := Keep.mk (K0.out.2.step hB); clear p0 p1 p2 p3 p4 p5 p6 p7 p8; obtain ⟨⟨p0, p1, p2, p3, p4, p5, p6, p7⟩, p8⟩ := K1.c8; clear K1 hB) | (go_at_call 35; (with_reducible refine (ref_CheckAll _ A c 5864062014634 l HB0.out (HC.out.below KP.out.bel)).mono ?_); rw [HE.out]; rintro en w2 ⟨rfl, hB⟩; have K2 := KP.out.step hB; replace KP := Keep.mk K2; replace KQ := Keep.mk (KQ.out.step hB); clear p0 p1 p2 p3 p4 p5 p6 p7 p8; obtain ⟨⟨p0, p1, p2, p3, p4, p5, p6, p7⟩, p8⟩ := K2.c8; clear K2 hB) | ((with_reducible refine wpList_store_proc (v0 := .int .i64 0) (v1 := .int .i64 0) (v2 := .int .i64 0) (v3 := .int .i64 0) (v4 := .int .i64 0) (v5 := .int .i64 0) (v6 := .bool false) (v7 := .bool false) ?_ (.tmp 4) (.tmp 35) ?_ w (w.heap.size + 1) ?_ ?_ ⟨ki, fr, to_, st, ep, cy, false, true⟩ ?_ ?_); rfl; rfl; (repeat' (first | with_reducible exact KQ.out | (with_reducible refine Held.alloc ?_ _) | (with_reducible refine Held.setOther ?_ (Nat.le_refl _) (Nat.succ_ne_self _) _))); rfl; rfl; intro w9 K9 hg; have K9 := Keep.mk K9; have HG := Keep.mk hg; clear hg))
  exact rabort_out w _ _ ⟨ki, fr, to_, st, ep, cy, false, true⟩ l 0 A c _ rfl rfl rfl rfl K9.out (HC.out.below K9.out.bel) HB0.out
theorem ref52_Step (w : World) (p : Proc) (A : Option Addr) (c : Nat) (l : List Site) (ok : Bool) (v : Int) (hB : ∀ x, x ∈ l → x.li.length ≤ 5864062014634) (h : SitesAt 5864062014634 w A c l) :
    Calls Try.prog 20 #[.agg #[.int .i64 p.ki, .int .i64 p.fr, .int .i64 p.to_, .int .i64 p.st, .int .i64 p.ep, .int .i64 p.cy, .bool p.dn, .bool p.fa], .slice A l.length c, .bool ok, .int .i64 v] w (RStepRes w (stepS p l ok v)) := by
  rcases checkP_two p with hc | hc
  · by_cases he : (checkAllS l).2 = 0
    · rcases find_ways l p.fr with h1 | ⟨i, h1, hil, -⟩
      · have hr : stepS p l ok v = (zP, [], 7) := by unfold stepS; rw [if_neg (not_not_intro hc), if_neg (not_not_intro he), if_pos h1]
        rw [hr]
        exact ref52_Step_no3 w p A c l ok v hc he (.inl h1) hB h
      · rcases find_ways l p.to_ with h2 | ⟨k, h2, hkl, -⟩
        · have hr : stepS p l ok v = (zP, [], 7) := by unfold stepS; rw [if_neg (not_not_intro hc), if_neg (not_not_intro he), if_neg (by omega), if_pos h2]
          rw [hr]
          exact ref52_Step_no3 w p A c l ok v hc he (.inr h2) hB h
        · exact ref52_Step_go w p A c l ok v i k hc he h1 hil h2 hkl hB h
    · have hr : stepS p l ok v = (zP, [], (checkAllS l).2) := by unfold stepS; rw [if_neg (not_not_intro hc), if_pos he]
      rw [hr]
      exact ref52_Step_no2 w p A c l ok v _ hc rfl he hB h
  · have hr : stepS p l ok v = (zP, [], 3) := by unfold stepS; rw [if_pos (by omega)]
    rw [hr]
    exact ref52_Step_no1 w p A c _ ok v hc
theorem ref52_Abort (w : World) (p : Proc) (A : Option Addr) (c : Nat) (l : List Site) (hB : ∀ x, x ∈ l → x.li.length ≤ 5864062014634) (h : SitesAt 5864062014634 w A c l) :
    Calls Try.prog 23 #[.agg #[.int .i64 p.ki, .int .i64 p.fr, .int .i64 p.to_, .int .i64 p.st, .int .i64 p.ep, .int .i64 p.cy, .bool p.dn, .bool p.fa], .slice A l.length c] w (RStepRes w (abortS p l)) := by
  rcases checkP_two p with hc | hc
  · by_cases he : (checkAllS l).2 = 0
    · exact ref52_Abort_go w p A c l hc he hB h
    · have hr : abortS p l = (zP, [], (checkAllS l).2) := by unfold abortS; rw [if_neg (not_not_intro hc), if_pos he]
      rw [hr]
      exact ref52_Abort_no2 w p A c l _ hc rfl he hB h
  · have hr : abortS p l = (zP, [], 3) := by unfold abortS; rw [if_pos (by omega)]
    rw [hr]
    exact ref52_Abort_no1 w p A c _ hc
end Go.Proofs.Ytijhkgabonkmfaa
