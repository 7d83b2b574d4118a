/- The walk of RoleAllows: it returns true at every input, and what was there is as it was. -/
import Derived.Test.YtfkdcjkkmfhalaaRoleN
import Derived.Test.YtfkdcjkkmfhalaaReg
namespace Go.Proofs.Ytfkdcjkkmfhalaa
open Go.RowKit
set_option linter.unusedSimpArgs false
set_option linter.unusedVariables false
theorem allowed_at (w : World) (s : Site) (A : Option Addr) (c : Nat) (o : Int) (b : Bool) (hb : allowedS s o = b) (h : SpansAt w A c s.li) :
    Calls Try.prog 22 #[.agg #[.int .i64 s.nu, .int .i64 s.ro, .int .i64 s.ep, .int .i64 s.ap, .slice A s.li.length c, .int .i64 s.so, .bool s.al, .bool s.co], .int .i64 o] w fun e w' => e = .returned (.bool b) ∧ Below w.heap.size w w' := by
  subst hb; exact role_Allowed w s A c o h
theorem allowed_t (w : World) (s : Site) (A : Option Addr) (c : Nat) (o : Int) (b : Bool) (hb : allowedS { s with co := false } o = b) (h : SpansAt w A c s.li) :
    Calls Try.prog 22 #[.agg #[.int .i64 s.nu, .int .i64 s.ro, .int .i64 s.ep, .int .i64 s.ap, .slice A s.li.length c, .int .i64 s.so, .bool s.al, .bool false], .int .i64 o] w fun e w' => e = .returned (.bool b) ∧ Below w.heap.size w w' := by
  subst hb; exact role_Allowed w { s with co := false } A c o h
theorem allowedS_off (s : Site) (o : Int) (h : checkS s ≠ 0 ∨ s.al = false) : allowedS s o = false := by
  unfold allowedS
  rcases h with h | h
  · have : (checkS s == 0) = false := by simpa using h
    simp [this]
  · simp [h]
theorem checkS_co (s : Site) (b : Bool) : checkS { s with co := b } = checkS s := rfl
theorem allowedS_t2 (s : Site) : allowedS { s with co := false } 2 = false := by simp [allowedS]
theorem allowedS_t3 (s : Site) : allowedS { s with co := false } 3 = allowedS s 3 := by simp [allowedS, checkS_co]
theorem allowedS_t4 (s : Site) : allowedS { s with co := false } 4 = allowedS s 4 := by simp [allowedS, checkS_co]
theorem allowedS_s0 (s : Site) (h : checkS s = 0) (ha : s.al = true) : allowedS s 0 = (s.ro == 1) := by
  simp only [allowedS, h, ha]
  by_cases h1 : s.ro = 1
  · simp [h1]
  · simp [h1]
theorem allowedS_s1 (s : Site) (h : checkS s = 0) (ha : s.al = true) : allowedS s 1 = (s.ro == 1) := by
  simp only [allowedS, h, ha]
  by_cases h1 : s.ro = 1
  · simp [h1]
  · simp [h1]
theorem allowedS_p (s : Site) (h1 : s.ro = 1) : allowedS s 2 = false ∧ allowedS s 3 = false := by
  constructor <;> simp [allowedS, h1]
theorem allowedS_range (s : Site) (o : Int) (h : allowedS s o = true) : 0 ≤ o ∧ o ≤ 4 ∧ s.ro ≠ 5 ∧ s.ro ≠ 0 := by
  unfold allowedS at h
  simp only [Bool.and_eq_true] at h
  have h := h.2
  split at h
  · simp at h; omega
  · split at h
    · simp at h; omega
    · split at h
      · simp at h; omega
      · split at h
        · simp at h; omega
        · cases h
/-- the two blocks of the site and of its copy without the link, whatever has been made since -/
def AlC (w : World) (g6 : Nat) (s : Site) (A : Option Addr) (c : Nat) (W : World) : Prop := Held w w.heap.size [.int .i64 s.nu, .int .i64 s.ro, .int .i64 s.ep, .int .i64 s.ap, .slice A s.li.length c, .int .i64 s.so, .bool s.al, .bool s.co] 24 W ∧ Held w g6 [.int .i64 s.nu, .int .i64 s.ro, .int .i64 s.ep, .int .i64 s.ap, .slice A s.li.length c, .int .i64 s.so, .bool s.al, .bool false] 24 W
theorem AlC.step {w W W' : World} {g6 : Nat} {s : Site} {A : Option Addr} {c : Nat} (h : AlC w g6 s A c W) (hb : Below W.heap.size W W') : AlC w g6 s A c W' := ⟨h.1.step hb, h.2.step hb⟩
theorem alC_s (w : World) (g6 : Nat) (s : Site) (A : Option Addr) (c : Nat) (o : Int) (b : Bool) (hb : allowedS s o = b) (h : SpansAt w A c s.li) (W : World) (hW : AlC w g6 s A c W) :
    Calls Try.prog 22 #[.agg #[.int .i64 s.nu, .int .i64 s.ro, .int .i64 s.ep, .int .i64 s.ap, .slice A s.li.length c, .int .i64 s.so, .bool s.al, .bool s.co], .int .i64 o] W fun e w' => e = .returned (.bool b) ∧ AlC w g6 s A c w' :=
  (allowed_at W s A c o b hb (h.below hW.1.bel)).mono fun _ _ h => ⟨h.1, hW.step h.2⟩
theorem alC_t (w : World) (g6 : Nat) (s : Site) (A : Option Addr) (c : Nat) (o : Int) (b : Bool) (hb : allowedS { s with co := false } o = b) (h : SpansAt w A c s.li) (W : World) (hW : AlC w g6 s A c W) :
    Calls Try.prog 22 #[.agg #[.int .i64 s.nu, .int .i64 s.ro, .int .i64 s.ep, .int .i64 s.ap, .slice A s.li.length c, .int .i64 s.so, .bool s.al, .bool false], .int .i64 o] W fun e w' => e = .returned (.bool b) ∧ AlC w g6 s A c w' :=
  (allowed_t W s A c o b hb (h.below hW.1.bel)).mono fun _ _ h => ⟨h.1, hW.step h.2⟩
theorem alC_awake (w : World) (g6 : Nat) (s : Site) (A : Option Addr) (c : Nat) (W : World) (hW : AlC w g6 s A c W) :
    Calls Try.prog 12 #[] W fun e w' => e = .returned (.bool true) ∧ AlC w g6 s A c w' :=
  (law_awake W).mono fun _ _ h => ⟨h.1, hW.step h.2⟩
set_option maxHeartbeats 2000000 in
theorem law_RoleAllows (w : World) (s : Site) (A : Option Addr) (c : Nat) (op : Int) (h : s.li.length ≤ 20 → SpansAt w A c s.li) :
    Calls Try.prog 5 #[.agg #[.int .i64 s.nu, .int .i64 s.ro, .int .i64 s.ep, .int .i64 s.ap, .slice A s.li.length c, .int .i64 s.so, .bool s.al, .bool s.co], .int .i64 op] w fun e w' => e = .returned (.bool true) ∧ Below w.heap.size w w' := by
  by_cases h1 : s.li.length ≤ 20
  · have HC := Keep.mk (h h1)
    have h2 : decide ((s.li.length : Int) ≤ 20) = true := by simp; omega
    clear h h1
    by_cases hk : checkS s = 0
    · cases hal : s.al == true
      · have hal' : (!s.al) = true := by simpa using hal
        have ho := allowedS_off s op (.inr (by simpa using hal))
        have hk' : (checkS s != 0) = false := by simp [hk]
        clear hk hal
        have Z0 : Keep True := ⟨trivial⟩
        go_enter Try.func5, Try.ntmps5
        go_wp2_with (first
          | (go_at_call 11; refine (law_few _ s A c).mono ?_; rintro e w1 ⟨rfl, hB⟩; have K := (Held.new (Below.refl w.heap.size w) [.int .i64 s.nu, .int .i64 s.ro, .int .i64 s.ep, .int .i64 s.ap, .slice A s.li.length c, .int .i64 s.so, .bool s.al, .bool s.co] 24).step hB; obtain ⟨⟨p0, p1, p2, p3, p4, p5, p6, p7⟩, p8⟩ := K.c8; have KK := Keep.mk K; clear hB K)
          | (go_at_call 23; refine (role_Check _ s A c (HC.out.below KK.out.bel)).mono ?_; rintro e wx ⟨rfl, hB⟩; have K := KK.out.step hB; clear p0 p1 p2 p3 p4 p5 p6 p7 p8; clear KK; obtain ⟨⟨p0, p1, p2, p3, p4, p5, p6, p7⟩, p8⟩ := K.c8; have KK := Keep.mk K; clear hB K)
          | (go_at_call 22; clear Z0; have Z1 : Keep True := ⟨trivial⟩; refine (allowed_at _ s A c op false ho (HC.out.below KK.out.bel)).mono ?_; rintro e wx ⟨rfl, hB⟩; have K := KK.out.step hB; clear p0 p1 p2 p3 p4 p5 p6 p7 p8; clear KK; obtain ⟨⟨p0, p1, p2, p3, p4, p5, p6, p7⟩, p8⟩ := K.c8; have KK := Keep.mk K; clear hB K)
          | (go_at_call 12; refine (law_awake _).mono ?_; rintro e w9 ⟨rfl, hB⟩; have HB9 := Keep.mk (below_then KK.out.bel hB); clear hB))
        go_ret
        exact ⟨rfl, HB9.out⟩
      · have ha : s.al = true := by simpa using hal
        have hal' : (!s.al) = false := by simp [ha]
        have hk' : (checkS s != 0) = false := by simp [hk]
        have ht2 := allowedS_t2 s
        obtain ⟨x, hs3⟩ : ∃ x, allowedS s 3 = x := ⟨_, rfl⟩
        obtain ⟨y, hs4⟩ : ∃ y, allowedS s 4 = y := ⟨_, rfl⟩
        have ht3 := (allowedS_t3 s).trans hs3
        have ht4 := (allowedS_t4 s).trans hs4
        have hs0 := allowedS_s0 s hk ha
        have hs1 := allowedS_s1 s hk ha
        obtain ⟨z, ho⟩ : ∃ z, allowedS s op = z := ⟨_, rfl⟩
        have HT2 := Keep.mk ht2
        have HT3 := Keep.mk ht3
        have HT4 := Keep.mk ht4
        have HS3 := Keep.mk hs3
        have HS4 := Keep.mk hs4
        have HO := Keep.mk ho
        cases h1 : s.ro == 1
        · have HS0 := Keep.mk (hs0.trans h1)
          have HS1 := Keep.mk (hs1.trans h1)
          cases z
          · clear ht2 hs3 hs4 ht3 ht4 hs0 hs1 ho hk ha hal
            have Z0 : Keep True := ⟨trivial⟩
            go_enter Try.func5, Try.ntmps5
            go_wp2_with (first
              | (go_at_call 11; refine (law_few _ s A c).mono ?_; rintro e w1 ⟨rfl, hB⟩; have K := (Held.new (Below.refl w.heap.size w) [.int .i64 s.nu, .int .i64 s.ro, .int .i64 s.ep, .int .i64 s.ap, .slice A s.li.length c, .int .i64 s.so, .bool s.al, .bool s.co] 24).step hB; obtain ⟨⟨p0, p1, p2, p3, p4, p5, p6, p7⟩, p8⟩ := K.c8; have KK := Keep.mk K; clear hB K)
              | (go_at_call 23; refine (role_Check _ s A c (HC.out.below KK.out.bel)).mono ?_; rintro e wx ⟨rfl, hB⟩; have K := KK.out.step hB; clear p0 p1 p2 p3 p4 p5 p6 p7 p8; clear KK; obtain ⟨⟨p0, p1, p2, p3, p4, p5, p6, p7⟩, p8⟩ := K.c8; have KK := Keep.mk K; clear hB K)
              | (go_at_call 22; clear Z0; have Z1 : Keep True := ⟨trivial⟩; refine (allowed_at _ s A c op false HO.out (HC.out.below KK.out.bel)).mono ?_; rintro e wx ⟨rfl, hB⟩; have K := KK.out.step hB; clear p0 p1 p2 p3 p4 p5 p6 p7 p8; clear KK; obtain ⟨⟨p0, p1, p2, p3, p4, p5, p6, p7⟩, p8⟩ := K.c8; have KK := Keep.mk K; clear hB K)
              | (go_at_call 22; clear Z1; have Z2 : Keep True := ⟨trivial⟩; refine (allowed_at _ s A c 0 false HS0.out (HC.out.below KK.out.bel)).mono ?_; rintro e wx ⟨rfl, hB⟩; have K := KK.out.step hB; clear p0 p1 p2 p3 p4 p5 p6 p7 p8; clear KK; obtain ⟨⟨p0, p1, p2, p3, p4, p5, p6, p7⟩, p8⟩ := K.c8; have KK := Keep.mk K; clear hB K)
              | (go_at_call 22; clear Z2; have Z3 : Keep True := ⟨trivial⟩; refine (allowed_at _ s A c 1 false HS1.out (HC.out.below KK.out.bel)).mono ?_; rintro e wx ⟨rfl, hB⟩; have K := KK.out.step hB; clear p0 p1 p2 p3 p4 p5 p6 p7 p8; clear KK; obtain ⟨⟨p0, p1, p2, p3, p4, p5, p6, p7⟩, p8⟩ := K.c8; have KK := Keep.mk K; clear hB K)
              | (go_at_call 12; refine (law_awake _).mono ?_; rintro e w9 ⟨rfl, hB⟩; have HB9 := Keep.mk (below_then KK.out.bel hB); clear hB))
            have K1 := KK.out.alloc (.cells #[.int .i64 s.nu, .int .i64 s.ro, .int .i64 s.ep, .int .i64 s.ap, .slice A s.li.length c, .int .i64 s.so, .bool s.al, .bool false] 24)
            have K6 := Held.new KK.out.bel [.int .i64 s.nu, .int .i64 s.ro, .int .i64 s.ep, .int .i64 s.ap, .slice A s.li.length c, .int .i64 s.so, .bool s.al, .bool false] 24
            clear KK p0 p1 p2 p3 p4 p5 p6 p7 p8
            generalize hg6 : wx.heap.size = g6 at K6 ⊢
            generalize wx.alloc (.cells #[.int .i64 s.nu, .int .i64 s.ro, .int .i64 s.ep, .int .i64 s.ap, .slice A s.li.length c, .int .i64 s.so, .bool s.al, .bool false] 24) = W2 at K1 K6 ⊢
            have C2 := Keep.mk (alC_t w g6 s A c 2 false HT2.out HC.out)
            have C3 := Keep.mk (alC_t w g6 s A c 3 x HT3.out HC.out)
            have D3 := Keep.mk (alC_s w g6 s A c 3 x HS3.out HC.out)
            have C4 := Keep.mk (alC_t w g6 s A c 4 y HT4.out HC.out)
            have D4 := Keep.mk (alC_s w g6 s A c 4 y HS4.out HC.out)
            refine wp_region_class (AlC w g6 s A c) (by kernel_rfl) (by kernel_rfl) ⟨K1.drew, K6.drew⟩ ?_
            repeat (first
              | (refine wq_skip (by rfl) ?_; simp only [Act.put, List.setIfInBounds_toArray, List.set_cons_succ, List.set_cons_zero])
              | (refine wq_ran (by rfl) ?_; apply Exists.intro; refine ⟨fun W hW => ?_, ?_⟩; (((try (obtain ⟨e1, e6⟩ := hW; obtain ⟨⟨p0, p1, p2, p3, p4, p5, p6, p7⟩, p8⟩ := e1.c8; obtain ⟨⟨q0, q1, q2, q3, q4, q5, q6, q7⟩, q8⟩ := e6.c8)); go_simp; rfl)); simp only [Act.put, List.setIfInBounds_toArray, List.set_cons_succ, List.set_cons_zero])
              | (refine wq_called (by rfl) ?_; apply Exists.intro; apply Exists.intro; apply Exists.intro; refine ⟨fun W hW => ?_, fun W hW => ?_, ?_⟩; ((go_simp; first | rfl | exact ⟨rfl, rfl⟩)); (first | with_reducible exact C2.out W hW | with_reducible exact C3.out W hW | with_reducible exact D3.out W hW | with_reducible exact C4.out W hW | with_reducible exact D4.out W hW | with_reducible exact alC_awake w g6 s A c W hW); simp only [Act.put, List.setIfInBounds_toArray, List.set_cons_succ, List.set_cons_zero]))
            refine wpQuiet_nil ?_
            intro W hW
            go_wp2
            go_ret
            exact ⟨rfl, hW.1.bel⟩
          · have hr := allowedS_range s op ho
            have r0 : decide (op < 0) = false := by simp; omega
            have r4 : decide (4 < op) = false := by simp; omega
            have r5 : (s.ro == 5) = false := by simpa using hr.2.2.1
            have r6 : (s.ro == 0) = false := by simpa using hr.2.2.2
            clear ht2 hs3 hs4 ht3 ht4 hs0 hs1 ho hk ha hal hr
            have Z0 : Keep True := ⟨trivial⟩
            go_enter Try.func5, Try.ntmps5
            go_wp2_with (first
              | (go_at_call 11; refine (law_few _ s A c).mono ?_; rintro e w1 ⟨rfl, hB⟩; have K := (Held.new (Below.refl w.heap.size w) [.int .i64 s.nu, .int .i64 s.ro, .int .i64 s.ep, .int .i64 s.ap, .slice A s.li.length c, .int .i64 s.so, .bool s.al, .bool s.co] 24).step hB; obtain ⟨⟨p0, p1, p2, p3, p4, p5, p6, p7⟩, p8⟩ := K.c8; have KK := Keep.mk K; clear hB K)
              | (go_at_call 23; refine (role_Check _ s A c (HC.out.below KK.out.bel)).mono ?_; rintro e wx ⟨rfl, hB⟩; have K := KK.out.step hB; clear p0 p1 p2 p3 p4 p5 p6 p7 p8; clear KK; obtain ⟨⟨p0, p1, p2, p3, p4, p5, p6, p7⟩, p8⟩ := K.c8; have KK := Keep.mk K; clear hB K)
              | (go_at_call 22; clear Z0; have Z1 : Keep True := ⟨trivial⟩; refine (allowed_at _ s A c op true HO.out (HC.out.below KK.out.bel)).mono ?_; rintro e wx ⟨rfl, hB⟩; have K := KK.out.step hB; clear p0 p1 p2 p3 p4 p5 p6 p7 p8; clear KK; obtain ⟨⟨p0, p1, p2, p3, p4, p5, p6, p7⟩, p8⟩ := K.c8; have KK := Keep.mk K; clear hB K)
              | (go_at_call 22; clear Z1; have Z2 : Keep True := ⟨trivial⟩; refine (allowed_at _ s A c 0 false HS0.out (HC.out.below KK.out.bel)).mono ?_; rintro e wx ⟨rfl, hB⟩; have K := KK.out.step hB; clear p0 p1 p2 p3 p4 p5 p6 p7 p8; clear KK; obtain ⟨⟨p0, p1, p2, p3, p4, p5, p6, p7⟩, p8⟩ := K.c8; have KK := Keep.mk K; clear hB K)
              | (go_at_call 22; clear Z2; have Z3 : Keep True := ⟨trivial⟩; refine (allowed_at _ s A c 1 false HS1.out (HC.out.below KK.out.bel)).mono ?_; rintro e wx ⟨rfl, hB⟩; have K := KK.out.step hB; clear p0 p1 p2 p3 p4 p5 p6 p7 p8; clear KK; obtain ⟨⟨p0, p1, p2, p3, p4, p5, p6, p7⟩, p8⟩ := K.c8; have KK := Keep.mk K; clear hB K)
              | (go_at_call 12; refine (law_awake _).mono ?_; rintro e w9 ⟨rfl, hB⟩; have HB9 := Keep.mk (below_then KK.out.bel hB); clear hB))
            have K1 := KK.out.alloc (.cells #[.int .i64 s.nu, .int .i64 s.ro, .int .i64 s.ep, .int .i64 s.ap, .slice A s.li.length c, .int .i64 s.so, .bool s.al, .bool false] 24)
            have K6 := Held.new KK.out.bel [.int .i64 s.nu, .int .i64 s.ro, .int .i64 s.ep, .int .i64 s.ap, .slice A s.li.length c, .int .i64 s.so, .bool s.al, .bool false] 24
            clear KK p0 p1 p2 p3 p4 p5 p6 p7 p8
            generalize hg6 : wx.heap.size = g6 at K6 ⊢
            generalize wx.alloc (.cells #[.int .i64 s.nu, .int .i64 s.ro, .int .i64 s.ep, .int .i64 s.ap, .slice A s.li.length c, .int .i64 s.so, .bool s.al, .bool false] 24) = W2 at K1 K6 ⊢
            have C2 := Keep.mk (alC_t w g6 s A c 2 false HT2.out HC.out)
            have C3 := Keep.mk (alC_t w g6 s A c 3 x HT3.out HC.out)
            have D3 := Keep.mk (alC_s w g6 s A c 3 x HS3.out HC.out)
            have C4 := Keep.mk (alC_t w g6 s A c 4 y HT4.out HC.out)
            have D4 := Keep.mk (alC_s w g6 s A c 4 y HS4.out HC.out)
            refine wp_region_class (AlC w g6 s A c) (by kernel_rfl) (by kernel_rfl) ⟨K1.drew, K6.drew⟩ ?_
            repeat (first
              | (refine wq_skip (by rfl) ?_; simp only [Act.put, List.setIfInBounds_toArray, List.set_cons_succ, List.set_cons_zero])
              | (refine wq_ran (by rfl) ?_; apply Exists.intro; refine ⟨fun W hW => ?_, ?_⟩; (((try (obtain ⟨e1, e6⟩ := hW; obtain ⟨⟨p0, p1, p2, p3, p4, p5, p6, p7⟩, p8⟩ := e1.c8; obtain ⟨⟨q0, q1, q2, q3, q4, q5, q6, q7⟩, q8⟩ := e6.c8)); go_simp; rfl)); simp only [Act.put, List.setIfInBounds_toArray, List.set_cons_succ, List.set_cons_zero])
              | (refine wq_called (by rfl) ?_; apply Exists.intro; apply Exists.intro; apply Exists.intro; refine ⟨fun W hW => ?_, fun W hW => ?_, ?_⟩; ((go_simp; first | rfl | exact ⟨rfl, rfl⟩)); (first | with_reducible exact C2.out W hW | with_reducible exact C3.out W hW | with_reducible exact D3.out W hW | with_reducible exact C4.out W hW | with_reducible exact D4.out W hW | with_reducible exact alC_awake w g6 s A c W hW); simp only [Act.put, List.setIfInBounds_toArray, List.set_cons_succ, List.set_cons_zero]))
            refine wpQuiet_nil ?_
            intro W hW
            go_wp2
            go_ret
            exact ⟨rfl, hW.1.bel⟩
        · have HS0 := Keep.mk (hs0.trans h1)
          have HS1 := Keep.mk (hs1.trans h1)
          have HP2 := Keep.mk (allowedS_p s (by simpa using h1)).1
          have HP3 := Keep.mk (allowedS_p s (by simpa using h1)).2
          cases z
          · clear ht2 hs3 hs4 ht3 ht4 hs0 hs1 ho hk ha hal
            have Z0 : Keep True := ⟨trivial⟩
            go_enter Try.func5, Try.ntmps5
            go_wp2_with (first
              | (go_at_call 11; refine (law_few _ s A c).mono ?_; rintro e w1 ⟨rfl, hB⟩; have K := (Held.new (Below.refl w.heap.size w) [.int .i64 s.nu, .int .i64 s.ro, .int .i64 s.ep, .int .i64 s.ap, .slice A s.li.length c, .int .i64 s.so, .bool s.al, .bool s.co] 24).step hB; obtain ⟨⟨p0, p1, p2, p3, p4, p5, p6, p7⟩, p8⟩ := K.c8; have KK := Keep.mk K; clear hB K)
              | (go_at_call 23; refine (role_Check _ s A c (HC.out.below KK.out.bel)).mono ?_; rintro e wx ⟨rfl, hB⟩; have K := KK.out.step hB; clear p0 p1 p2 p3 p4 p5 p6 p7 p8; clear KK; obtain ⟨⟨p0, p1, p2, p3, p4, p5, p6, p7⟩, p8⟩ := K.c8; have KK := Keep.mk K; clear hB K)
              | (go_at_call 22; clear Z0; have Z1 : Keep True := ⟨trivial⟩; refine (allowed_at _ s A c op false HO.out (HC.out.below KK.out.bel)).mono ?_; rintro e wx ⟨rfl, hB⟩; have K := KK.out.step hB; clear p0 p1 p2 p3 p4 p5 p6 p7 p8; clear KK; obtain ⟨⟨p0, p1, p2, p3, p4, p5, p6, p7⟩, p8⟩ := K.c8; have KK := Keep.mk K; clear hB K)
              | (go_at_call 22; clear Z1; have Z2 : Keep True := ⟨trivial⟩; refine (allowed_at _ s A c 0 true HS0.out (HC.out.below KK.out.bel)).mono ?_; rintro e wx ⟨rfl, hB⟩; have K := KK.out.step hB; clear p0 p1 p2 p3 p4 p5 p6 p7 p8; clear KK; obtain ⟨⟨p0, p1, p2, p3, p4, p5, p6, p7⟩, p8⟩ := K.c8; have KK := Keep.mk K; clear hB K)
              | (go_at_call 22; clear Z2; have Z3 : Keep True := ⟨trivial⟩; refine (allowed_at _ s A c 1 true HS1.out (HC.out.below KK.out.bel)).mono ?_; rintro e wx ⟨rfl, hB⟩; have K := KK.out.step hB; clear p0 p1 p2 p3 p4 p5 p6 p7 p8; clear KK; obtain ⟨⟨p0, p1, p2, p3, p4, p5, p6, p7⟩, p8⟩ := K.c8; have KK := Keep.mk K; clear hB K)
              | (go_at_call 22; clear Z3; have Z4 : Keep True := ⟨trivial⟩; refine (allowed_at _ s A c 2 false HP2.out (HC.out.below KK.out.bel)).mono ?_; rintro e wx ⟨rfl, hB⟩; have K := KK.out.step hB; clear p0 p1 p2 p3 p4 p5 p6 p7 p8; clear KK; obtain ⟨⟨p0, p1, p2, p3, p4, p5, p6, p7⟩, p8⟩ := K.c8; have KK := Keep.mk K; clear hB K)
              | (go_at_call 22; clear Z4; have Z5 : Keep True := ⟨trivial⟩; refine (allowed_at _ s A c 3 false HP3.out (HC.out.below KK.out.bel)).mono ?_; rintro e wx ⟨rfl, hB⟩; have K := KK.out.step hB; clear p0 p1 p2 p3 p4 p5 p6 p7 p8; clear KK; obtain ⟨⟨p0, p1, p2, p3, p4, p5, p6, p7⟩, p8⟩ := K.c8; have KK := Keep.mk K; clear hB K)
              | (go_at_call 12; refine (law_awake _).mono ?_; rintro e w9 ⟨rfl, hB⟩; have HB9 := Keep.mk (below_then KK.out.bel hB); clear hB))
            have K1 := KK.out.alloc (.cells #[.int .i64 s.nu, .int .i64 s.ro, .int .i64 s.ep, .int .i64 s.ap, .slice A s.li.length c, .int .i64 s.so, .bool s.al, .bool false] 24)
            have K6 := Held.new KK.out.bel [.int .i64 s.nu, .int .i64 s.ro, .int .i64 s.ep, .int .i64 s.ap, .slice A s.li.length c, .int .i64 s.so, .bool s.al, .bool false] 24
            clear KK p0 p1 p2 p3 p4 p5 p6 p7 p8
            generalize hg6 : wx.heap.size = g6 at K6 ⊢
            generalize wx.alloc (.cells #[.int .i64 s.nu, .int .i64 s.ro, .int .i64 s.ep, .int .i64 s.ap, .slice A s.li.length c, .int .i64 s.so, .bool s.al, .bool false] 24) = W2 at K1 K6 ⊢
            have C2 := Keep.mk (alC_t w g6 s A c 2 false HT2.out HC.out)
            have C3 := Keep.mk (alC_t w g6 s A c 3 x HT3.out HC.out)
            have D3 := Keep.mk (alC_s w g6 s A c 3 x HS3.out HC.out)
            have C4 := Keep.mk (alC_t w g6 s A c 4 y HT4.out HC.out)
            have D4 := Keep.mk (alC_s w g6 s A c 4 y HS4.out HC.out)
            refine wp_region_class (AlC w g6 s A c) (by kernel_rfl) (by kernel_rfl) ⟨K1.drew, K6.drew⟩ ?_
            repeat (first
              | (refine wq_skip (by rfl) ?_; simp only [Act.put, List.setIfInBounds_toArray, List.set_cons_succ, List.set_cons_zero])
              | (refine wq_ran (by rfl) ?_; apply Exists.intro; refine ⟨fun W hW => ?_, ?_⟩; (((try (obtain ⟨e1, e6⟩ := hW; obtain ⟨⟨p0, p1, p2, p3, p4, p5, p6, p7⟩, p8⟩ := e1.c8; obtain ⟨⟨q0, q1, q2, q3, q4, q5, q6, q7⟩, q8⟩ := e6.c8)); go_simp; rfl)); simp only [Act.put, List.setIfInBounds_toArray, List.set_cons_succ, List.set_cons_zero])
              | (refine wq_called (by rfl) ?_; apply Exists.intro; apply Exists.intro; apply Exists.intro; refine ⟨fun W hW => ?_, fun W hW => ?_, ?_⟩; ((go_simp; first | rfl | exact ⟨rfl, rfl⟩)); (first | with_reducible exact C2.out W hW | with_reducible exact C3.out W hW | with_reducible exact D3.out W hW | with_reducible exact C4.out W hW | with_reducible exact D4.out W hW | with_reducible exact alC_awake w g6 s A c W hW); simp only [Act.put, List.setIfInBounds_toArray, List.set_cons_succ, List.set_cons_zero]))
            refine wpQuiet_nil ?_
            intro W hW
            go_wp2
            go_ret
            exact ⟨rfl, hW.1.bel⟩
          · have hr := allowedS_range s op ho
            have r0 : decide (op < 0) = false := by simp; omega
            have r4 : decide (4 < op) = false := by simp; omega
            have r5 : (s.ro == 5) = false := by simpa using hr.2.2.1
            have r6 : (s.ro == 0) = false := by simpa using hr.2.2.2
            clear ht2 hs3 hs4 ht3 ht4 hs0 hs1 ho hk ha hal hr
            have Z0 : Keep True := ⟨trivial⟩
            go_enter Try.func5, Try.ntmps5
            go_wp2_with (first
              | (go_at_call 11; refine (law_few _ s A c).mono ?_; rintro e w1 ⟨rfl, hB⟩; have K := (Held.new (Below.refl w.heap.size w) [.int .i64 s.nu, .int .i64 s.ro, .int .i64 s.ep, .int .i64 s.ap, .slice A s.li.length c, .int .i64 s.so, .bool s.al, .bool s.co] 24).step hB; obtain ⟨⟨p0, p1, p2, p3, p4, p5, p6, p7⟩, p8⟩ := K.c8; have KK := Keep.mk K; clear hB K)
              | (go_at_call 23; refine (role_Check _ s A c (HC.out.below KK.out.bel)).mono ?_; rintro e wx ⟨rfl, hB⟩; have K := KK.out.step hB; clear p0 p1 p2 p3 p4 p5 p6 p7 p8; clear KK; obtain ⟨⟨p0, p1, p2, p3, p4, p5, p6, p7⟩, p8⟩ := K.c8; have KK := Keep.mk K; clear hB K)
              | (go_at_call 22; clear Z0; have Z1 : Keep True := ⟨trivial⟩; refine (allowed_at _ s A c op true HO.out (HC.out.below KK.out.bel)).mono ?_; rintro e wx ⟨rfl, hB⟩; have K := KK.out.step hB; clear p0 p1 p2 p3 p4 p5 p6 p7 p8; clear KK; obtain ⟨⟨p0, p1, p2, p3, p4, p5, p6, p7⟩, p8⟩ := K.c8; have KK := Keep.mk K; clear hB K)
              | (go_at_call 22; clear Z1; have Z2 : Keep True := ⟨trivial⟩; refine (allowed_at _ s A c 0 true HS0.out (HC.out.below KK.out.bel)).mono ?_; rintro e wx ⟨rfl, hB⟩; have K := KK.out.step hB; clear p0 p1 p2 p3 p4 p5 p6 p7 p8; clear KK; obtain ⟨⟨p0, p1, p2, p3, p4, p5, p6, p7⟩, p8⟩ := K.c8; have KK := Keep.mk K; clear hB K)
              | (go_at_call 22; clear Z2; have Z3 : Keep True := ⟨trivial⟩; refine (allowed_at _ s A c 1 true HS1.out (HC.out.below KK.out.bel)).mono ?_; rintro e wx ⟨rfl, hB⟩; have K := KK.out.step hB; clear p0 p1 p2 p3 p4 p5 p6 p7 p8; clear KK; obtain ⟨⟨p0, p1, p2, p3, p4, p5, p6, p7⟩, p8⟩ := K.c8; have KK := Keep.mk K; clear hB K)
              | (go_at_call 22; clear Z3; have Z4 : Keep True := ⟨trivial⟩; refine (allowed_at _ s A c 2 false HP2.out (HC.out.below KK.out.bel)).mono ?_; rintro e wx ⟨rfl, hB⟩; have K := KK.out.step hB; clear p0 p1 p2 p3 p4 p5 p6 p7 p8; clear KK; obtain ⟨⟨p0, p1, p2, p3, p4, p5, p6, p7⟩, p8⟩ := K.c8; have KK := Keep.mk K; clear hB K)
              | (go_at_call 22; clear Z4; have Z5 : Keep True := ⟨trivial⟩; refine (allowed_at _ s A c 3 false HP3.out (HC.out.below KK.out.bel)).mono ?_; rintro e wx ⟨rfl, hB⟩; have K := KK.out.step hB; clear p0 p1 p2 p3 p4 p5 p6 p7 p8; clear KK; obtain ⟨⟨p0, p1, p2, p3, p4, p5, p6, p7⟩, p8⟩ := K.c8; have KK := Keep.mk K; clear hB K)
              | (go_at_call 12; refine (law_awake _).mono ?_; rintro e w9 ⟨rfl, hB⟩; have HB9 := Keep.mk (below_then KK.out.bel hB); clear hB))
            have K1 := KK.out.alloc (.cells #[.int .i64 s.nu, .int .i64 s.ro, .int .i64 s.ep, .int .i64 s.ap, .slice A s.li.length c, .int .i64 s.so, .bool s.al, .bool false] 24)
            have K6 := Held.new KK.out.bel [.int .i64 s.nu, .int .i64 s.ro, .int .i64 s.ep, .int .i64 s.ap, .slice A s.li.length c, .int .i64 s.so, .bool s.al, .bool false] 24
            clear KK p0 p1 p2 p3 p4 p5 p6 p7 p8
            generalize hg6 : wx.heap.size = g6 at K6 ⊢
            generalize wx.alloc (.cells #[.int .i64 s.nu, .int .i64 s.ro, .int .i64 s.ep, .int .i64 s.ap, .slice A s.li.length c, .int .i64 s.so, .bool s.al, .bool false] 24) = W2 at K1 K6 ⊢
            have C2 := Keep.mk (alC_t w g6 s A c 2 false HT2.out HC.out)
            have C3 := Keep.mk (alC_t w g6 s A c 3 x HT3.out HC.out)
            have D3 := Keep.mk (alC_s w g6 s A c 3 x HS3.out HC.out)
            have C4 := Keep.mk (alC_t w g6 s A c 4 y HT4.out HC.out)
            have D4 := Keep.mk (alC_s w g6 s A c 4 y HS4.out HC.out)
            refine wp_region_class (AlC w g6 s A c) (by kernel_rfl) (by kernel_rfl) ⟨K1.drew, K6.drew⟩ ?_
            repeat (first
              | (refine wq_skip (by rfl) ?_; simp only [Act.put, List.setIfInBounds_toArray, List.set_cons_succ, List.set_cons_zero])
              | (refine wq_ran (by rfl) ?_; apply Exists.intro; refine ⟨fun W hW => ?_, ?_⟩; (((try (obtain ⟨e1, e6⟩ := hW; obtain ⟨⟨p0, p1, p2, p3, p4, p5, p6, p7⟩, p8⟩ := e1.c8; obtain ⟨⟨q0, q1, q2, q3, q4, q5, q6, q7⟩, q8⟩ := e6.c8)); go_simp; rfl)); simp only [Act.put, List.setIfInBounds_toArray, List.set_cons_succ, List.set_cons_zero])
              | (refine wq_called (by rfl) ?_; apply Exists.intro; apply Exists.intro; apply Exists.intro; refine ⟨fun W hW => ?_, fun W hW => ?_, ?_⟩; ((go_simp; first | rfl | exact ⟨rfl, rfl⟩)); (first | with_reducible exact C2.out W hW | with_reducible exact C3.out W hW | with_reducible exact D3.out W hW | with_reducible exact C4.out W hW | with_reducible exact D4.out W hW | with_reducible exact alC_awake w g6 s A c W hW); simp only [Act.put, List.setIfInBounds_toArray, List.set_cons_succ, List.set_cons_zero]))
            refine wpQuiet_nil ?_
            intro W hW
            go_wp2
            go_ret
            exact ⟨rfl, hW.1.bel⟩
    · have ho := allowedS_off s op (.inl hk)
      have hk' : (checkS s != 0) = true := by simpa using hk
      clear hk
      have Z0 : Keep True := ⟨trivial⟩
      go_enter Try.func5, Try.ntmps5
      go_wp2_with (first
        | (go_at_call 11; refine (law_few _ s A c).mono ?_; rintro e w1 ⟨rfl, hB⟩; have K := (Held.new (Below.refl w.heap.size w) [.int .i64 s.nu, .int .i64 s.ro, .int .i64 s.ep, .int .i64 s.ap, .slice A s.li.length c, .int .i64 s.so, .bool s.al, .bool s.co] 24).step hB; obtain ⟨⟨p0, p1, p2, p3, p4, p5, p6, p7⟩, p8⟩ := K.c8; have KK := Keep.mk K; clear hB K)
        | (go_at_call 23; refine (role_Check _ s A c (HC.out.below KK.out.bel)).mono ?_; rintro e wx ⟨rfl, hB⟩; have K := KK.out.step hB; clear p0 p1 p2 p3 p4 p5 p6 p7 p8; clear KK; obtain ⟨⟨p0, p1, p2, p3, p4, p5, p6, p7⟩, p8⟩ := K.c8; have KK := Keep.mk K; clear hB K)
        | (go_at_call 22; clear Z0; have Z1 : Keep True := ⟨trivial⟩; refine (allowed_at _ s A c op false ho (HC.out.below KK.out.bel)).mono ?_; rintro e wx ⟨rfl, hB⟩; have K := KK.out.step hB; clear p0 p1 p2 p3 p4 p5 p6 p7 p8; clear KK; obtain ⟨⟨p0, p1, p2, p3, p4, p5, p6, p7⟩, p8⟩ := K.c8; have KK := Keep.mk K; clear hB K)
        | (go_at_call 12; refine (law_awake _).mono ?_; rintro e w9 ⟨rfl, hB⟩; have HB9 := Keep.mk (below_then KK.out.bel hB); clear hB))
      go_ret
      exact ⟨rfl, HB9.out⟩
  · have h2 : decide ((s.li.length : Int) ≤ 20) = false := by simp; omega
    clear h h1
    go_enter Try.func5, Try.ntmps5
    go_wp2_with (first
      | (go_at_call 11; refine (law_few _ s A c).mono ?_; rintro e w1 ⟨rfl, hB⟩; have HB1 := Keep.mk (below_then (below_new (Below.refl w.heap.size w) (.cells #[.int .i64 s.nu, .int .i64 s.ro, .int .i64 s.ep, .int .i64 s.ap, .slice A s.li.length c, .int .i64 s.so, .bool s.al, .bool s.co] 24)) hB); clear hB)
      | (go_at_call 12; refine (law_awake _).mono ?_; rintro e w9 ⟨rfl, hB⟩; have HB9 := Keep.mk (below_then HB1.out hB); clear hB))
    go_ret
    exact ⟨rfl, HB9.out⟩
end Go.Proofs.Ytfkdcjkkmfhalaa
