/- The walk of RoleWays: it returns true at every input, and what was there is as it was. -/
import Derived.Test.YtfkdcjkkmfhalaaLawE
namespace Go.Proofs.Ytfkdcjkkmfhalaa
open Go.RowKit
set_option linter.unusedSimpArgs false
set_option linter.unusedVariables false
theorem ways_of {S N : Site} {k : Int} (hd : Done S N k) :
    ((S.ro == 5) = true ∧ (S.ro == 4) = false ∧ (S.ro != 1) = true ∧ (S.ro == 1) = false ∧ (N.ro != 5) = false ∧ (N.ro == 1) = false ∧ True ∧ True) ∨
    ((S.ro == 5) = true ∧ (S.ro == 4) = false ∧ (S.ro != 1) = true ∧ (S.ro == 1) = false ∧ (N.ro != 5) = true ∧ (N.ro == 1) = false ∧ (N.ro != 4) = false ∧ True) ∨
    ((S.ro == 5) = false ∧ (S.ro == 4) = true ∧ (S.ro != 1) = true ∧ (S.ro == 1) = false ∧ (N.ro == 2) = false ∧ (N.ro == 1) = false ∧ (N.ro != 4) = false ∧ True) ∨
    ((S.ro == 5) = false ∧ (S.ro == 4) = true ∧ (S.ro != 1) = true ∧ (S.ro == 1) = false ∧ (N.ro == 2) = true ∧ (N.ro == 1) = false ∧ (N.ro != 2) = false ∧ (k != 4) = false ∧ (N.ro != 4) = true) ∨
    ((S.ro == 5) = false ∧ (S.ro == 4) = false ∧ (S.ro != 1) = false ∧ (S.ro == 1) = true ∧ (N.ro != 1) = false ∧ True ∧ True ∧ True) ∨
    ((S.ro == 5) = false ∧ (S.ro == 4) = false ∧ (S.ro != 1) = false ∧ (S.ro == 1) = true ∧ (N.ro != 1) = true ∧ (k != 1) = false ∧ True ∧ True) ∨
    ((S.ro == 5) = false ∧ (S.ro == 4) = false ∧ (S.ro != 1) = true ∧ (S.ro == 1) = false ∧ (N.ro == 1) = false ∧ True ∧ True ∧ True) ∨
    ((S.ro == 5) = false ∧ (S.ro == 4) = false ∧ (S.ro != 1) = true ∧ (S.ro == 1) = false ∧ (N.ro == 1) = true ∧ (k != 0) = false ∧ decide (N.ep ≤ S.ep) = false ∧ (!S.al) = false) := by
  obtain ⟨-, -, -, -, -, e1, e2, e3, e4⟩ := hd
  by_cases a5 : S.ro = 5
  · rcases e1 a5 with h | h
    · left; simp [a5, h]
    · right; left; simp [a5, h]
  by_cases a4 : S.ro = 4
  · rcases e2 a4 with h | ⟨h, h'⟩
    · right; right; left; simp [a4, h]
    · right; right; right; left; simp [a4, h, h']
  by_cases a1 : S.ro = 1
  · by_cases h : N.ro = 1
    · right; right; right; right; left; simp [a1, h]
    · have h' : k = 1 := (e4 a1).resolve_left h
      right; right; right; right; right; left; simp [a1, h, h']
  by_cases h : N.ro = 1
  · obtain ⟨h1, h2, h3⟩ := e3 a1 h
    right; right; right; right; right; right; right
    simp [a5, a4, a1, h, h1, h3]; omega
  · right; right; right; right; right; right; left
    simp [a5, a4, a1, h]
set_option maxRecDepth 100000 in
set_option maxHeartbeats 8000000 in
theorem law_RoleWays (w : World) (n : Int) (A : Option Addr) (c : Nat) (l : List StepS) (hn : 0 ≤ n ∧ n ≤ 255) (h : l.length ≤ 40 → StepsAt w A c l) :
    Calls Try.prog 8 #[.int .u8 n, .slice A l.length c] w fun e w' => e = .returned (.bool true) ∧ Below w.heap.size w w' := by
  obtain ⟨hn0, hn1⟩ := hn
  by_cases h1 : l.length ≤ 40
  · have HL := Keep.mk (h h1)
    have h2 : decide (40 < (l.length : Int)) = false := by simp; omega
    clear h
    go_enter Try.func8, Try.ntmps8
    go_wp2_with fail
    go_loopg [20] l.length (fun g i wr => ∃ (k : Nat) (S : Site) (A' : Option Addr) (c' : Nat), g = l.length - k ∧ k ≤ l.length ∧ i = .int .i64 k ∧ S.li.length ≤ k ∧ Keep (checkS S = 0) ∧ Keep (Held w w.heap.size [.int .i64 S.nu, .int .i64 S.ro, .int .i64 S.ep, .int .i64 S.ap, .slice A' S.li.length c', .int .i64 S.so, .bool S.al, .bool S.co] 24 wr ∧ Lin w wr A' c' S.li))
    case atStart => exact ⟨0, startS (n % 4), none, 0, by omega, by omega, rfl, by simp [startS], ⟨start_ok _ (by omega)⟩, ⟨Held.new (Below.refl _ _) [.int .i64 (startS (n % 4)).nu, .int .i64 (startS (n % 4)).ro, .int .i64 (startS (n % 4)).ep, .int .i64 (startS (n % 4)).ap, .slice none (startS (n % 4)).li.length 0, .int .i64 (startS (n % 4)).so, .bool (startS (n % 4)).al, .bool (startS (n % 4)).co] _, .inl (SpansAt.nil _)⟩⟩
    case round =>
      obtain ⟨k, S, A', c', rfl, hk, rfl, hlk, HS, HK⟩ := hrel
      by_cases hlt : k < l.length
      · obtain ⟨b, o, hA, hb, c0, c1, c2, c3⟩ := HL.out.at_ k hlt
        subst hA
        rw [← HK.out.1.bel.cell (p := ⟨b, _, none⟩) hb] at c0 c1 c2 c3
        generalize l.getD k StepS.z = x at c0 c1 c2 c3
        have hd := run_done x HS.out
        have hls : S.li.length ≤ 1000000 := by omega
        have RC := Keep.mk (fun W h => law_run W S A' c' x hls h)
        generalize runS S x = r at hd RC
        obtain ⟨N, bb⟩ := r
        have hw := ways_of hd
        have D1 := Keep.mk hd.1
        have hlen : N.li.length ≤ k + 1 := by have := hd.2.2.2.2.1; simp only at this; omega
        clear hd hls
        simp only at hw
        obtain ⟨⟨p0, p1, p2, p3, p4, p5, p6, p7⟩, p8⟩ := HK.out.1.c8
        have hlw := HK.out.1.lt
        rcases hw with ⟨a1, a2, a3, a4, a5, a6, a7, a8⟩ | ⟨a1, a2, a3, a4, a5, a6, a7, a8⟩ | ⟨a1, a2, a3, a4, a5, a6, a7, a8⟩ | ⟨a1, a2, a3, a4, a5, a6, a7, a8, a9⟩ | ⟨a1, a2, a3, a4, a5, a6, a7, a8⟩ | ⟨a1, a2, a3, a4, a5, a6, a7, a8⟩ | ⟨a1, a2, a3, a4, a5, a6, a7, a8⟩ | ⟨a1, a2, a3, a4, a5, a6, a7, a8⟩
        all_goals
          go_wp2_with (first
            | (go_at_call 28; refine (RC.out _ ((HK.out.2.reads HK.out.1.bel).alloc _)).mono ?_; rintro e w1 ⟨A2, c2, rfl, hc2, hB⟩; have L2 := run_lin HK.out.2 (below_new (Below.refl wr.heap.size wr) (.cells #[.int .i64 x.ki, .int .i64 x.ep, .int .i64 x.so, .int .i64 x.nu] 42)) (Nat.le_trans HK.out.1.bel.size (by simp)) hB hc2; have K5 := (HK.out.1.alloc (.cells #[.int .i64 x.ki, .int .i64 x.ep, .int .i64 x.so, .int .i64 x.nu] 42)).step hB; have K7 := (Held.new HK.out.1.bel [.int .i64 x.ki, .int .i64 x.ep, .int .i64 x.so, .int .i64 x.nu] 42).step hB; clear p0 p1 p2 p3 p4 p5 p6 p7 p8 hlw; have K8 := Held.new K5.bel [.int .i64 N.nu, .int .i64 N.ro, .int .i64 N.ep, .int .i64 N.ap, .slice A2 N.li.length c2, .int .i64 N.so, .bool N.al, .bool N.co] 24; have H1 := Keep.mk (And.intro (K5.alloc (.cells #[.int .i64 N.nu, .int .i64 N.ro, .int .i64 N.ep, .int .i64 N.ap, .slice A2 N.li.length c2, .int .i64 N.so, .bool N.al, .bool N.co] 24)) (And.intro (K7.alloc (.cells #[.int .i64 N.nu, .int .i64 N.ro, .int .i64 N.ep, .int .i64 N.ap, .slice A2 N.li.length c2, .int .i64 N.so, .bool N.al, .bool N.co] 24)) (And.intro K8 (L2.step (below_new (Below.refl _ _) (.cells #[.int .i64 N.nu, .int .i64 N.ro, .int .i64 N.ep, .int .i64 N.ap, .slice A2 N.li.length c2, .int .i64 N.so, .bool N.al, .bool N.co] 24)))))); have k5 := K5.alloc (.cells #[.int .i64 N.nu, .int .i64 N.ro, .int .i64 N.ep, .int .i64 N.ap, .slice A2 N.li.length c2, .int .i64 N.so, .bool N.al, .bool N.co] 24); obtain ⟨⟨p0, p1, p2, p3, p4, p5, p6, p7⟩, p8⟩ := k5.c8; have hl5 := k5.lt; have k7 := K7.alloc (.cells #[.int .i64 N.nu, .int .i64 N.ro, .int .i64 N.ep, .int .i64 N.ap, .slice A2 N.li.length c2, .int .i64 N.so, .bool N.al, .bool N.co] 24); have x0 := k7.cell 0 _ rfl; have hl7 := k7.lt; clear hc2 hB K5 K7 K8 L2 k5 k7)
            | ((with_reducible refine wpList_store_site ?_ (.tmp 5) (.tmp 112) ?_ w (w.heap.size) H1.out.1 ?_ N A2 c2 ?_ ?_); rfl; rfl; rfl; rfl; intro w4 K5 hg; have L2 := H1.out.2.2.2.grown H1.out.1 (by decide) hg; have H4 := Keep.mk (And.intro K5 L2); clear K5 L2 hg H1 p0 p1 p2 p3 p4 p5 p6 p7 p8 hl5 hl7 x0))
          go_roundg (l.length - (k + 1))
          case measure => omega
          case rel => exact ⟨k + 1, N, A2, c2, rfl, by omega, by go_num, hlen, ⟨D1.out⟩, H4⟩
      · have : k = l.length := by omega
        subst this
        go_wp2_with (go_at_call 12; refine (law_awake _).mono ?_; rintro e w9 ⟨rfl, hB⟩; have HB9 := Keep.mk (below_then HK.out.1.bel hB); clear hB)
        go_ret
        exact ⟨rfl, HB9.out⟩
  · have h2 : decide (40 < (l.length : Int)) = true := by simp; omega
    clear h h1
    go_enter Try.func8, Try.ntmps8
    go_wp2_with (go_at_call 12; refine (law_awake _).mono ?_; rintro e w9 ⟨rfl, hB⟩; have HB9 := Keep.mk (below_then (below_new (Below.refl w.heap.size w) _) hB); clear hB)
    go_ret
    exact ⟨rfl, HB9.out⟩
end Go.Proofs.Ytfkdcjkkmfhalaa
