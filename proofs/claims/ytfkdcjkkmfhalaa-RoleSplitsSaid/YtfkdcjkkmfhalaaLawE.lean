/- The walk of RoleKeeps: it returns true at every input, and what was there is as it was. -/
import Derived.Test.YtfkdcjkkmfhalaaRun
import Derived.Test.YtfkdcjkkmfhalaaRoleN
namespace Go.Proofs.Ytfkdcjkkmfhalaa
open Go.RowKit
set_option linter.unusedSimpArgs false
set_option linter.unusedVariables false
def StepS.z : StepS := ⟨0, 0, 0, 0⟩
/-- The slice at A, of capacity c, reads as the list l. -/
def StepsAt (w : World) (A : Option Addr) (c : Nat) (l : List StepS) : Prop :=
  l.length ≤ c ∧ l.length ≤ 5864062014634 ∧ (0 < l.length → ∃ b o, A = some ⟨b, o, none⟩ ∧ ∀ i, i < l.length → w.cell? ⟨b, o + i * 4, none⟩ = some (.int .i64 (l.getD i .z).ki) ∧ w.cell? ⟨b, o + i * 4 + 1, none⟩ = some (.int .i64 (l.getD i .z).ep) ∧ w.cell? ⟨b, o + i * 4 + 2, none⟩ = some (.int .i64 (l.getD i .z).so) ∧ w.cell? ⟨b, o + i * 4 + 3, none⟩ = some (.int .i64 (l.getD i .z).nu))
theorem StepsAt.len {w : World} {A : Option Addr} {c : Nat} {l : List StepS} (h : StepsAt w A c l) : l.length ≤ 5864062014634 := h.2.1
theorem StepsAt.nil (w : World) : StepsAt w none 0 [] := ⟨by simp, by simp, by simp⟩
theorem StepsAt.at_ {w : World} {A : Option Addr} {c : Nat} {l : List StepS} (h : StepsAt w A c l) (i : Nat) (hi : i < l.length) : ∃ b o, A = some ⟨b, o, none⟩ ∧ b < w.heap.size ∧ w.cell? ⟨b, o + i * 4, none⟩ = some (.int .i64 (l.getD i .z).ki) ∧ w.cell? ⟨b, o + i * 4 + 1, none⟩ = some (.int .i64 (l.getD i .z).ep) ∧ w.cell? ⟨b, o + i * 4 + 2, none⟩ = some (.int .i64 (l.getD i .z).so) ∧ w.cell? ⟨b, o + i * 4 + 3, none⟩ = some (.int .i64 (l.getD i .z).nu) := by
  obtain ⟨b, o, e, hc⟩ := h.2.2 (by omega)
  exact ⟨b, o, e, World.block_lt_of_cell? w _ (hc i hi).1, hc i hi⟩
theorem StepsAt.below {w w' : World} {A : Option Addr} {c : Nat} {l : List StepS} (h : StepsAt w A c l) (hb : Below w.heap.size w w') : StepsAt w' A c l := by
  refine ⟨h.1, h.2.1, fun hn => ?_⟩
  obtain ⟨b, o, e, hc⟩ := h.2.2 hn
  refine ⟨b, o, e, fun i hi => ?_⟩
  have hlt : b < w.heap.size := World.block_lt_of_cell? w _ (hc i hi).1
  obtain ⟨c0, c1, c2, c3⟩ := hc i hi
  exact ⟨(hb.cell (p := ⟨b, _, none⟩) hlt).trans c0, (hb.cell (p := ⟨b, _, none⟩) hlt).trans c1, (hb.cell (p := ⟨b, _, none⟩) hlt).trans c2, (hb.cell (p := ⟨b, _, none⟩) hlt).trans c3⟩
theorem StepsAt.alloc {w : World} {A : Option Addr} {c : Nat} {l : List StepS} (h : StepsAt w A c l) (o : Obj) : StepsAt (w.alloc o) A c l := h.below ((Below.refl _ _).alloc (Nat.le_refl _) o)
theorem run_lin {w W0 W w1 : World} {A A2 : Option Addr} {c c2 : Nat} {l l2 : List Span} (hL : Lin w W0 A c l) (hb : Below W0.heap.size W0 W) (hW : w.heap.size ≤ W.heap.size) (hB : Below W.heap.size W w1)
    (hc : (A2 = A ∧ c2 = c ∧ l2 = l) ∨ OwnSp w1 W.heap.size A2 c2 l2) : Lin w w1 A2 c2 l2 := by
  rcases hc with ⟨rfl, rfl, rfl⟩ | h
  · exact (hL.step hb).step hB
  · exact Lin.own h hW
def startS (n : Int) : Site := ⟨n, 0, 0, 0, [], -1, true, false⟩
theorem start_ok (n : Int) (h : 0 ≤ n ∧ n ≤ 3) : checkS (startS n) = 0 := by
  rw [checkS_iff]
  simp [startS, corr, lastS, Span.z, recv, otherS, inB]
  omega
set_option maxHeartbeats 2000000 in
theorem law_RoleKeeps (w : World) (n : Int) (A : Option Addr) (c : Nat) (l : List StepS) (hn : 0 ≤ n ∧ n ≤ 255) (h : l.length ≤ 40 → StepsAt w A c l) :
    Calls Try.prog 7 #[.int .u8 n, .slice A l.length c] w fun e w' => e = .returned (.bool true) ∧ Below w.heap.size w w' := by
  obtain ⟨hn0, hn1⟩ := hn
  by_cases h1 : l.length ≤ 40
  · have HL := Keep.mk (h h1)
    have h2 : decide (40 < (l.length : Int)) = false := by simp; omega
    clear h
    go_enter Try.func7, Try.ntmps7
    go_wp2_with fail
    go_loopg [22] l.length (fun g i wr => ∃ (k : Nat) (S : Site) (A' : Option Addr) (c' : Nat), g = l.length - k ∧ k ≤ l.length ∧ i = .int .i64 k ∧ S.li.length ≤ k ∧ Keep (checkS S = 0) ∧ Keep (Held w w.heap.size [.int .i64 S.nu, .int .i64 S.ro, .int .i64 S.ep, .int .i64 S.ap, .slice A' S.li.length c', .int .i64 S.so, .bool S.al, .bool S.co] 24 wr ∧ Lin w wr A' c' S.li))
    case atStart => exact ⟨0, startS (n % 4), none, 0, by omega, by omega, rfl, by simp [startS], ⟨start_ok _ (by omega)⟩, ⟨Held.new (Below.refl _ _) [.int .i64 (startS (n % 4)).nu, .int .i64 (startS (n % 4)).ro, .int .i64 (startS (n % 4)).ep, .int .i64 (startS (n % 4)).ap, .slice none (startS (n % 4)).li.length 0, .int .i64 (startS (n % 4)).so, .bool (startS (n % 4)).al, .bool (startS (n % 4)).co] _, .inl (SpansAt.nil _)⟩⟩
    case round =>
      obtain ⟨k, S, A', c', rfl, hk, rfl, hlk, HS, HK⟩ := hrel
      by_cases hlt : k < l.length
      · obtain ⟨b, o, hA, hb, c0, c1, c2, c3⟩ := HL.out.at_ k hlt
        subst hA
        rw [← HK.out.1.bel.cell (p := ⟨b, _, none⟩) hb] at c0 c1 c2 c3
        generalize l.getD k StepS.z = x at c0 c1 c2 c3
        have hd := run_done x HS.out
        have hls : S.li.length ≤ 1000000 := by omega
        have RC := Keep.mk (fun W h => law_run W S A' c' x hls h)
        generalize runS S x = r at hd RC
        obtain ⟨N, bb⟩ := r
        obtain ⟨d1, d2, d3, d4, d5, -, -, -, -⟩ := hd
        simp only at d1 d2 d3 d4 d5
        obtain ⟨-, -, -, -, -, -, g7, g8, -⟩ := (checkS_iff N).1 d1
        have f1 : (checkS N != 0) = false := by simp [d1]
        have f2 : (N.nu != S.nu) = false := by simp [d2]
        have f3 : decide (N.ep < S.ep) = false := by simp; omega
        have f6 : ((lastS N.li).to_ != N.ap) = false := by simp [g8]
        have f7 : decide (N.ep < (lastS N.li).ep) = false := by simp; omega
        have D1 := Keep.mk d1
        have hlen : N.li.length ≤ k + 1 := by omega
        have ways : decide (N.ap < S.ap) = false ∨ (decide (N.ap < S.ap) = true ∧ (x.ki != 4) = false) := by
          by_cases h4 : x.ki = 4
          · by_cases h5 : N.ap < S.ap
            · exact .inr ⟨by simp [h5], by simp [h4]⟩
            · exact .inl (by simp [h5])
          · exact .inl (by have := d4 h4; simp; omega)
        obtain ⟨⟨p0, p1, p2, p3, p4, p5, p6, p7⟩, p8⟩ := HK.out.1.c8
        have hlw := HK.out.1.lt
        clear d1 d2 d3 d4 d5 g7 g8 hls
        rcases ways with f4 | ⟨f4, f5⟩
        all_goals
          go_wp2_with (first
            | (go_at_call 28; refine (RC.out _ ((HK.out.2.reads HK.out.1.bel).alloc _)).mono ?_; rintro e w1 ⟨A2, c2, rfl, hc2, hB⟩; have L2 := run_lin HK.out.2 (below_new (Below.refl wr.heap.size wr) (.cells #[.int .i64 x.ki, .int .i64 x.ep, .int .i64 x.so, .int .i64 x.nu] 42)) (Nat.le_trans HK.out.1.bel.size (by simp)) hB hc2; have K5 := (HK.out.1.alloc (.cells #[.int .i64 x.ki, .int .i64 x.ep, .int .i64 x.so, .int .i64 x.nu] 42)).step hB; have K7 := (Held.new HK.out.1.bel [.int .i64 x.ki, .int .i64 x.ep, .int .i64 x.so, .int .i64 x.nu] 42).step hB; have K8 := Held.new K5.bel [.int .i64 N.nu, .int .i64 N.ro, .int .i64 N.ep, .int .i64 N.ap, .slice A2 N.li.length c2, .int .i64 N.so, .bool N.al, .bool N.co] 24; have H1 := Keep.mk (And.intro (K5.alloc (.cells #[.int .i64 N.nu, .int .i64 N.ro, .int .i64 N.ep, .int .i64 N.ap, .slice A2 N.li.length c2, .int .i64 N.so, .bool N.al, .bool N.co] 24)) (And.intro (K7.alloc (.cells #[.int .i64 N.nu, .int .i64 N.ro, .int .i64 N.ep, .int .i64 N.ap, .slice A2 N.li.length c2, .int .i64 N.so, .bool N.al, .bool N.co] 24)) (And.intro K8 (L2.step (below_new (Below.refl _ _) (.cells #[.int .i64 N.nu, .int .i64 N.ro, .int .i64 N.ep, .int .i64 N.ap, .slice A2 N.li.length c2, .int .i64 N.so, .bool N.al, .bool N.co] 24)))))); clear hc2 hB K5 K7 K8 L2)
            | (go_at_call 23; refine (role_Check _ N A2 c2 (H1.out.2.2.2.reads H1.out.1.bel)).mono ?_; rintro e w2 ⟨rfl, hB⟩; have K5 := H1.out.1.step hB; have K7 := H1.out.2.1.step hB; have K8 := H1.out.2.2.1.step hB; have L2 := H1.out.2.2.2.step hB; clear p0 p1 p2 p3 p4 p5 p6 p7 p8; obtain ⟨⟨p0, p1, p2, p3, p4, p5, p6, p7⟩, p8⟩ := K5.c8; obtain ⟨⟨q0, q1, q2, q3, q4, q5, q6, q7⟩, q8⟩ := K8.c8; have x0 := K7.cell 0 _ rfl; have hl5 := K5.lt; have hl7 := K7.lt; have hl8 := K8.lt; have H2 := Keep.mk (And.intro K5 (And.intro K7 (And.intro K8 L2))); clear hB K5 K7 K8 L2 H1)
            | (go_at_call 29; refine (ref_Head _ A2 c2 N.li (H2.out.2.2.2.reads H2.out.1.bel)).mono ?_; rintro e w3 ⟨rfl, hB⟩; have K5 := H2.out.1.step hB; have K8 := H2.out.2.2.1.step hB; have L2 := H2.out.2.2.2.step hB; clear p0 p1 p2 p3 p4 p5 p6 p7 p8 q0 q1 q2 q3 q4 q5 q6 q7 q8 hl5 hl7 hl8 x0; obtain ⟨⟨p0, p1, p2, p3, p4, p5, p6, p7⟩, p8⟩ := K5.c8; obtain ⟨⟨q0, q1, q2, q3, q4, q5, q6, q7⟩, q8⟩ := K8.c8; have hl5 := K5.lt; have hl8 := K8.lt; have H3 := Keep.mk (And.intro K5 L2); clear hB K5 K8 L2 H2)
            | ((with_reducible refine wpList_store_site ?_ (.tmp 5) (.tmp 77) ?_ w (w.heap.size) H3.out.1 ?_ N A2 c2 ?_ ?_); rfl; rfl; rfl; rfl; intro w4 K5 hg; have L2 := H3.out.2.grown H3.out.1 (by decide) hg; have H4 := Keep.mk (And.intro K5 L2); clear K5 L2 hg H3 p0 p1 p2 p3 p4 p5 p6 p7 p8 q0 q1 q2 q3 q4 q5 q6 q7 q8 hl5 hl8))
          go_roundg (l.length - (k + 1))
          case measure => omega
          case rel => exact ⟨k + 1, N, A2, c2, rfl, by omega, by go_num, hlen, ⟨D1.out⟩, H4⟩
      · have : k = l.length := by omega
        subst this
        go_wp2_with (go_at_call 12; refine (law_awake _).mono ?_; rintro e w9 ⟨rfl, hB⟩; have HB9 := Keep.mk (below_then HK.out.1.bel hB); clear hB)
        go_ret
        exact ⟨rfl, HB9.out⟩
  · have h2 : decide (40 < (l.length : Int)) = true := by simp; omega
    clear h h1
    go_enter Try.func7, Try.ntmps7
    go_wp2_with (go_at_call 12; refine (law_awake _).mono ?_; rintro e w9 ⟨rfl, hB⟩; have HB9 := Keep.mk (below_then (below_new (Below.refl w.heap.size w) _) hB); clear hB)
    go_ret
    exact ⟨rfl, HB9.out⟩
end Go.Proofs.Ytfkdcjkkmfhalaa
