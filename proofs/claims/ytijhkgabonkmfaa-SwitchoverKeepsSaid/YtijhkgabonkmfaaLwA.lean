/- Contracts: standbylaw52.pair, awake. -/
import Derived.Test.YtijhkgabonkmfaaRwE
import Derived.Test.YtijhkgabonkmfaaSwV
import Derived.Test.YtijhkgabonkmfaaSwG
namespace Go.Proofs.Ytijhkgabonkmfaa
open Go.RowKit
set_option linter.unusedSimpArgs false
set_option linter.unusedVariables false
set_option maxRecDepth 100000
/-! ### sites in a row of their type, their lineages in rows of theirs -/
theorem ownsRow_full {W : World} {g n size : Nat} {t : TypeId} (cs : List Value) (h : W.heap[g]? = some (.cells cs.toArray t (0, 0))) (hl : cs.length = n * size) (hn : n ≤ 1000000) : W.ownsRow 0 t size (.slice (some ⟨g, 0, none⟩) n n) n cs :=
  ⟨hl, .inr ⟨g, n, cs.toArray, rfl, Nat.zero_le _, h, Nat.le_refl _, by simp only [maxLen]; omega, by simpa using hl, by rw [← hl]; simp⟩⟩
def TL (W : World) (A : Option Addr) (c : Nat) (l : List Span) : Prop := l = [] ∨ OwnSp W 0 A c l
theorem TL.nil (W : World) (A : Option Addr) (c : Nat) : TL W A c [] := .inl rfl
theorem TL.reads {W : World} {A : Option Addr} {c : Nat} {l : List Span} (h : TL W A c l) : SpansAt W A c l := by
  rcases h with rfl | h
  · exact ⟨by simp, by simp, by simp⟩
  · exact h.reads
theorem TL.step {W W' : World} {A : Option Addr} {c : Nat} {l : List Span} (h : TL W A c l) (hB : Below W.heap.size W W') : TL W' A c l := h.imp id fun h => h.step hB
theorem TL.grown {W W' : World} {A : Option Addr} {c : Nat} {l : List Span} {g : Nat} {cs : Array Value} {t : TypeId} (h : TL W A c l) (hg : W.heap[g]? = some (.cells cs t (0, 0))) (ht : t ≠ 88) (hgr : W.grownBy W' (some g)) : TL W' A c l := h.imp id fun h => h.grown hg ht hgr
def TSites (W : World) (A : Option Addr) (c : Nat) (l : List Site) : Prop := ∃ m, m.map (·.s) = l ∧ OwnSi W 0 A c m ∧ ∀ x, x ∈ m → TL W x.A x.c x.s.li
theorem TSites.step {W W' : World} {A : Option Addr} {c : Nat} {l : List Site} (h : TSites W A c l) (hB : Below W.heap.size W W') : TSites W' A c l := by
  obtain ⟨m, h1, h2, h3⟩ := h
  exact ⟨m, h1, h2.step hB, fun x hx => (h3 x hx).step hB⟩
theorem OwnSi.typed {W W' : World} {base : Nat} {A : Option Addr} {c : Nat} {m : List Sv} {g : Nat} {cs : Array Value} {t : TypeId} (h : OwnSi W base A c m) (hg : W.heap[g]? = some (.cells cs t (0, 0))) (ht : t ≠ 57) (hgr : W.grownBy W' (some g)) : OwnSi W' base A c m := by
  refine ⟨h.1.kept (row := some g) hgr ?_, h.2⟩
  rcases h.1.2 with ⟨hv, _⟩ | ⟨b, cap, cur, hv, hb, hbb, _⟩
  · left; rw [hv]; rfl
  · right; rw [hv]
    intro e
    have : b = g := by simpa [Value.ownBlock] using e
    subst this
    rw [hbb] at hg
    injection hg with hg
    injection hg with _ hg
    exact ht hg.symm
theorem TSites.other {w W W' : World} {A : Option Addr} {c : Nat} {l : List Site} {g : Nat} {cs : List Value} {t : TypeId} (h : TSites W A c l) (K : Held w g cs t W) (ht : t ≠ 88 ∧ t ≠ 57) (hgr : W.grownBy W' (some g)) : TSites W' A c l := by
  obtain ⟨m, h1, h2, h3⟩ := h
  exact ⟨m, h1, h2.typed K.blk ht.2 hgr, fun x hx => (h3 x hx).grown K.blk ht.1 hgr⟩
theorem TSites.reads {W : World} {A : Option Addr} {c : Nat} {l : List Site} (h : TSites W A c l) (B : Nat) : SitesAt B W A c l := by
  obtain ⟨m, rfl, h2, h3⟩ := h
  exact h2.reads fun x hx _ => (h3 x hx).reads
theorem TSites.few {W : World} {A : Option Addr} {c : Nat} {l : List Site} (h : TSites W A c l) : ∀ x, x ∈ l → x.li.length ≤ 5864062014634 := by
  obtain ⟨m, rfl, h2, h3⟩ := h
  intro x hx
  obtain ⟨y, hy, rfl⟩ := List.mem_map.1 hx
  exact (h3 y hy).reads.len
theorem OwnAll.typed {w W : World} {A : Option Addr} {c : Nat} {m : List Sv} {l : List Site} (h : OwnAll (e0 w) W A c m) (hm : m.map (·.s) = l) : TSites W A c l := by
  refine ⟨m, hm, h.own.mono (Nat.zero_le _), fun x hx => ?_⟩
  rcases h.lin x hx with hs | ho
  · left
    by_cases hl : x.s.li = []
    · exact hl
    · have hl' : 0 < x.s.li.length := List.length_pos_iff.2 hl
      obtain ⟨b, o, _, hc⟩ := hs.2.2 hl'
      have h0 := (hc 0 hl').1
      have := World.block_lt_of_cell? _ _ h0
      exact absurd this (Nat.not_lt_zero _)
  · exact .inr (ho.mono (Nat.zero_le _))
def liS (n : Int) : List Span := if 0 < n then [⟨1, 1, n⟩] else []
def pairS (n m : Int) : List Site := [⟨0, 1, 1, n, liS n, -1, true, true⟩, ⟨1, 2, 1, m, liS m, 0, true, true⟩]
def PairRes (w : World) (n m : Int) (e : Ending) (w' : World) : Prop := ∃ A c, e = .returned (.slice A 2 c) ∧ TSites w' A c (pairS n m) ∧ Below w.heap.size w w'
theorem tl_span_at (W : World) (n : Nat) (hn : n = W.heap.size) (a b c : Int) : TL (W.alloc (.cells #[.int .i64 a, .int .i64 b, .int .i64 c] 88)) (some ⟨n, 0, none⟩) 1 [⟨a, b, c⟩] := by
  subst hn
  exact .inr ⟨ownsRow_full [.int .i64 a, .int .i64 b, .int .i64 c] (Held.new (Below.refl W.heap.size W) [.int .i64 a, .int .i64 b, .int .i64 c] 88).blk rfl (by simp), by simp, by simp⟩
theorem pair_sites (W : World) (g : Nat) (hg : g = W.heap.size) (A1 A2 : Option Addr) (c1 c2 : Nat) (a b : Site) (h1 : TL W A1 c1 a.li) (h2 : TL W A2 c2 b.li) :
    TSites (W.alloc (.cells #[.int .i64 a.nu, .int .i64 a.ro, .int .i64 a.ep, .int .i64 a.ap, .slice A1 a.li.length c1, .int .i64 a.so, .bool a.al, .bool a.co, .int .i64 b.nu, .int .i64 b.ro, .int .i64 b.ep, .int .i64 b.ap, .slice A2 b.li.length c2, .int .i64 b.so, .bool b.al, .bool b.co] 57)) (some ⟨g, 0, none⟩) 2 [a, b] := by
  subst hg
  have K := Held.new (Below.refl W.heap.size W) [.int .i64 a.nu, .int .i64 a.ro, .int .i64 a.ep, .int .i64 a.ap, .slice A1 a.li.length c1, .int .i64 a.so, .bool a.al, .bool a.co, .int .i64 b.nu, .int .i64 b.ro, .int .i64 b.ep, .int .i64 b.ap, .slice A2 b.li.length c2, .int .i64 b.so, .bool b.al, .bool b.co] 57
  refine ⟨[⟨a, A1, c1⟩, ⟨b, A2, c2⟩], rfl, ⟨ownsRow_full _ K.blk rfl (by simp), by simp, by simp⟩, fun x hx => ?_⟩
  simp only [List.mem_cons, List.not_mem_nil, or_false] at hx
  rcases hx with rfl | rfl
  · exact h1.step K.bel
  · exact h2.step K.bel
theorem liS_yes {n : Int} (h : decide (0 < n) = true) : liS n = [⟨1, 1, n⟩] := if_pos (by simpa using h)
theorem liS_no {n : Int} (h : decide (0 < n) = false) : liS n = [] := if_neg (by simpa using h)
set_option maxHeartbeats 1000000 in
theorem law_pair (w : World) (n m : Int) : Calls Try.prog 28 #[.int .i64 n, .int .i64 m] w (PairRes w n m) := by
  unfold PairRes pairS
  cases h1 : decide (0 < n) <;> cases h2 : decide (0 < m)
  · rw [liS_no h1, liS_no h2]
    go_enter Try.func28, Try.ntmps28
    go_wp2_with fail
    go_ret
    exact ⟨_, _, rfl, pair_sites _ _ (by simp) none none 0 0 (Site.mk 0 1 1 n [] (-1) true true) (Site.mk 1 2 1 m [] 0 true true) (TL.nil _ _ _) (TL.nil _ _ _), (by repeat' (first | exact (Below.refl _ _) | (apply below_new) | (refine below_drewN ?_ _) | (refine below_drew ?_) | (refine below_set ?_ (by first | exact Nat.le_refl _ | omega | (simp; done) | (simp; omega)) _)))⟩
  · rw [liS_no h1, liS_yes h2]
    go_enter Try.func28, Try.ntmps28
    go_wp2_with fail
    go_ret
    exact ⟨_, _, rfl, pair_sites _ _ (by simp) none (some ⟨w.heap.size + 1 + 1, 0, none⟩) 0 1 (Site.mk 0 1 1 n [] (-1) true true) (Site.mk 1 2 1 m [⟨1, 1, m⟩] 0 true true) (TL.nil _ _ _) (tl_span_at _ _ (by simp) 1 1 m), (by repeat' (first | exact (Below.refl _ _) | (apply below_new) | (refine below_drewN ?_ _) | (refine below_drew ?_) | (refine below_set ?_ (by first | exact Nat.le_refl _ | omega | (simp; done) | (simp; omega)) _)))⟩
  · rw [liS_yes h1, liS_no h2]
    go_enter Try.func28, Try.ntmps28
    go_wp2_with fail
    go_ret
    exact ⟨_, _, rfl, pair_sites _ _ (by simp) (some ⟨w.heap.size + 1 + 1, 0, none⟩) none 1 0 (Site.mk 0 1 1 n [⟨1, 1, n⟩] (-1) true true) (Site.mk 1 2 1 m [] 0 true true) (tl_span_at _ _ (by simp) 1 1 n) (TL.nil _ _ _), (by repeat' (first | exact (Below.refl _ _) | (apply below_new) | (refine below_drewN ?_ _) | (refine below_drew ?_) | (refine below_set ?_ (by first | exact Nat.le_refl _ | omega | (simp; done) | (simp; omega)) _)))⟩
  · rw [liS_yes h1, liS_yes h2]
    go_enter Try.func28, Try.ntmps28
    go_wp2_with fail
    go_ret
    exact ⟨_, _, rfl, pair_sites _ _ (by simp) (some ⟨w.heap.size + 1 + 1, 0, none⟩) (some ⟨w.heap.size + 1 + 1 + 1, 0, none⟩) 1 1 (Site.mk 0 1 1 n [⟨1, 1, n⟩] (-1) true true) (Site.mk 1 2 1 m [⟨1, 1, m⟩] 0 true true) ((tl_span_at _ _ (by simp) 1 1 n).step (below_new (Below.refl _ _) _)) (tl_span_at _ _ (by simp) 1 1 m), (by repeat' (first | exact (Below.refl _ _) | (apply below_new) | (refine below_drewN ?_ _) | (refine below_drew ?_) | (refine below_set ?_ (by first | exact Nat.le_refl _ | omega | (simp; done) | (simp; omega)) _)))⟩
end Go.Proofs.Ytijhkgabonkmfaa
