/- Contract: a transition's extend. -/
import Derived.Test.YtijhkgabonkmfaaRefE
import Derived.Deep.AppendLies
namespace Go.Proofs.Ytijhkgabonkmfaa
open Go.RowKit
set_option linter.unusedSimpArgs false
set_option linter.unusedVariables false
theorem spanCells_set (l : List Span) : ∀ (k : Nat) (x : Span), k < l.length → spanCells (l.set k x) = (((spanCells l).set (k * 3) (.int .i64 x.ep)).set (k * 3 + 1) (.int .i64 x.fr)).set (k * 3 + 2) (.int .i64 x.to_) := by
  induction l with
  | nil => intro k x h; simp at h
  | cons y r ih =>
    intro k x h
    rcases k with _ | k
    · simp [spanCells]
    · have := ih k x (by simpa using h)
      show [Value.int .i64 y.ep, Value.int .i64 y.fr, Value.int .i64 y.to_] ++ spanCells (r.set k x) = _
      rw [this]
      show _ = ((([Value.int .i64 y.ep, Value.int .i64 y.fr, Value.int .i64 y.to_] ++ spanCells r).set ((k + 1) * 3) _).set _ _).set _ _
      rw [List.set_append_right _ _ (by simp; omega), List.set_append_right _ _ (by simp; omega), List.set_append_right _ _ (by simp; omega)]
      simp only [List.length_cons, List.length_nil]
      congr 1
      rw [show (k + 1) * 3 - (0 + 1 + 1 + 1) = k * 3 from by omega, show (k + 1) * 3 + 1 - (0 + 1 + 1 + 1) = k * 3 + 1 from by omega, show (k + 1) * 3 + 2 - (0 + 1 + 1 + 1) = k * 3 + 2 from by omega]
theorem list_set_same {α : Type} (l : List α) (k : Nat) (x : α) (h : l[k]? = some x) : l.set k x = l := by
  apply List.ext_getElem?
  intro j
  rw [List.getElem?_set]
  split
  · rename_i e; subst e
    have := (List.getElem?_eq_some_iff.1 h).1
    rw [if_pos this, h]
  · rfl
theorem spanCells_setTo (l : List Span) (k : Nat) (n : Int) (h : k < l.length) : spanCells (l.set k { l.getD k .z with to_ := n }) = (spanCells l).set (k * 3 + 2) (.int .i64 n) := by
  rw [spanCells_set l k _ h]
  obtain ⟨a, b, _⟩ := spanCells_at l k h
  rw [list_set_same _ _ _ a, list_set_same _ _ _ b]
theorem OwnSp.form {W : World} {base : Nat} {A : Option Addr} {c : Nat} {l : List Span} (h : OwnSp W base A c l) (hn : 0 < l.length) : ∃ b, A = some ⟨b, 0, none⟩ ∧ base ≤ b ∧ b < W.heap.size ∧ (∀ j, W.frozen? ⟨b, j, none⟩ = false) ∧ (∀ i, i < l.length → W.cell? ⟨b, i * 3, none⟩ = some (.int .i64 (l.getD i .z).ep) ∧ W.cell? ⟨b, i * 3 + 1, none⟩ = some (.int .i64 (l.getD i .z).fr) ∧ W.cell? ⟨b, i * 3 + 2, none⟩ = some (.int .i64 (l.getD i .z).to_)) := by
  rcases h.1.2 with ⟨_, h0⟩ | ⟨b, cap, cur, hv, hb, hbb, _⟩
  · omega
  · injection hv with hA
    subst hA
    refine ⟨b, rfl, hb, (Array.getElem?_eq_some_iff.1 hbb).1, fun j => frozen_of_row W b j cur _ hbb, fun i hi => ?_⟩
    obtain ⟨b', o', e, _, c0, c1, c2⟩ := h.reads.at_ i hi
    injection e with e
    injection e with e1 e2
    subst e1 e2
    simp only [Nat.zero_add] at c0 c1 c2
    exact ⟨c0, c1, c2⟩
theorem OwnSp.setTo {W : World} {base b c : Nat} {l : List Span} (h : OwnSp W base (some ⟨b, 0, none⟩) c l) (k : Nat) (hk : k < l.length) (n : Int) :
    OwnSp (W.setCell ⟨b, k * 3 + 2, none⟩ (.int .i64 n)) base (some ⟨b, 0, none⟩) c (l.set k { l.getD k .z with to_ := n }) ∧ W.grownBy (W.setCell ⟨b, k * 3 + 2, none⟩ (.int .i64 n)) (some b) := by
  have hs := h.1.stored (k * 3 + 2) (.int .i64 n)
  refine ⟨⟨?_, by simpa using h.2.1, by simpa using h.2.2⟩, hs.2⟩
  rw [spanCells_setTo l k n hk, List.length_set]
  exact hs.1
theorem OwnSp.ne {W : World} {base b c : Nat} {l : List Span} (h : OwnSp W base (some ⟨b, 0, none⟩) c l) {g : Nat} {cs : Array Value} {t : TypeId} (hg : W.heap[g]? = some (.cells cs t (0, 0))) (ht : t ≠ 88) : g ≠ b := by
  rcases h.1.2 with ⟨hv, _⟩ | ⟨b', cap, cur, hv, hb, hbb, _⟩
  · cases hv
  · injection hv with hv
    injection hv with hv
    injection hv with hv
    subst hv
    intro e
    subst e
    rw [hbb] at hg
    injection hg with hg
    injection hg with _ hg
    exact ht hg.symm
theorem extendS_set (l : List Span) (e b n : Int) (h0 : 0 < l.length) (h1 : (lastS l).ep = e) : extendS l e b n = l.set (l.length - 1) { l.getD (l.length - 1) .z with to_ := n } := by
  unfold extendS; rw [if_pos ⟨h0, h1⟩]; rfl
theorem extendS_app (l : List Span) (e b n : Int) (h : l.length = 0 ∨ (lastS l).ep ≠ e) : extendS l e b n = l ++ [⟨e, b + 1, n⟩] := by
  unfold extendS
  rw [if_neg]
  rintro ⟨h1, h2⟩
  rcases h with h | h
  · omega
  · exact h h2
theorem tr_grown {w0 W W' : World} {g : Nat} {s : Site} {e : Int} {A : Option Addr} {c : Nat} (K : Held w0 g [.int .i64 s.nu, .int .i64 s.ro, .int .i64 s.ep, .int .i64 s.ap, .slice A s.li.length c, .int .i64 s.so, .bool s.al, .bool s.co, .int .i64 e] 108 W) {row : Option Nat} (hg : W.grownBy W' row) (hr : ∀ k, row = some k → w0.heap.size ≤ k ∧ k ≠ g) : Held w0 g [.int .i64 s.nu, .int .i64 s.ro, .int .i64 s.ep, .int .i64 s.ap, .slice A s.li.length c, .int .i64 s.so, .bool s.al, .bool s.co, .int .i64 e] 108 W' :=
  ⟨(hg.block g K.lt (fun h => (hr g h.symm).2 rfl)).trans K.blk, K.ge, K.bel.grown hg K.bel.size (fun k hk => (hr k hk).1)⟩
theorem one_span (W : World) (a b c : Int) : SpansAt (W.alloc (.cells #[.int .i64 a, .int .i64 b, .int .i64 c] 88)) (some ⟨W.heap.size, 0, none⟩) 1 [⟨a, b, c⟩] := by
  refine ⟨by simp, by simp, fun _ => ⟨W.heap.size, 0, rfl, fun i hi => ?_⟩⟩
  have : i = 0 := by simpa using hi
  subst this
  exact ⟨by go_simp, by go_simp, by go_simp⟩
theorem OwnSp.nb {W : World} {base : Nat} {A : Option Addr} {c : Nat} {l : List Span} (h : OwnSp W base A c l) {g : Nat} {cs : Array Value} {t : TypeId} (hg : W.heap[g]? = some (.cells cs t (0, 0))) (ht : t ≠ 88) (n : Nat) : ∀ k, (Value.slice A n c).ownBlock = some k → base ≤ k ∧ k ≠ g := by
  intro k hk
  refine ⟨h.ge n k hk, ?_⟩
  rcases h.1.2 with ⟨hv, _⟩ | ⟨b, cap, cur, hv, _⟩
  · injection hv with hv; rw [hv] at hk; cases hk
  · injection hv with hv
    subst hv
    have e : b = k := by simpa [Value.ownBlock] using hk
    subst e
    exact fun e => h.ne hg ht e.symm
theorem tr_mk {w0 W : World} {g : Nat} {s : Site} {e : Int} {A : Option Addr} {c n : Nat} {X : List Span} (K : Held w0 g [.int .i64 s.nu, .int .i64 s.ro, .int .i64 s.ep, .int .i64 s.ap, .slice A n c, .int .i64 s.so, .bool s.al, .bool s.co, .int .i64 e] 108 W) (HO : OwnSp W w0.heap.size A c X) (hn : n = X.length) : Tr w0 g { s with li := X } e W := by
  subst hn
  exact ⟨A, c, K, HO⟩
set_option maxHeartbeats 1000000 in
theorem tr_extend (w0 W : World) (g : Nat) (s : Site) (e : Int) (ep b n : Int) (hb0 : 0 ≤ b) (hb1 : b ≤ 1073741824) (hls : s.li.length ≤ 1000000) (h : Tr w0 g s e W) :
    Calls Try.prog 70 #[.pointer (some ⟨g, 0, none⟩), .int .i64 ep, .int .i64 b, .int .i64 n] W fun en W' => en = .returned (.tuple #[]) ∧ Tr w0 g { s with li := extendS s.li ep b n } e W' := by
  obtain ⟨A, c, K, HO⟩ := h
  have ha4 := K.cell 4 _ rfl
  have hz4 := K.frozen 4
  have hgl := K.lt
  have hi : IntKind.i64.wrap (b + 1) = b + 1 := IntWalk.i64_in _ (by omega)
  by_cases h0 : s.li.length = 0
  · have h1 : decide ((0 : Int) < (s.li.length : Int)) = false := by simp [h0]
    have h1' : decide (0 < s.li.length) = false := by simp [h0]
    have h1b : ¬ 0 < s.li.length := by omega
    have hx := extendS_app s.li ep b n (.inl h0)
    rw [hx]
    have KW := K.alloc (.cells #[.int .i64 ep, .int .i64 (b + 1), .int .i64 n] 88); have HOW := HO.step (below_new (Below.refl W.heap.size W) (.cells #[.int .i64 ep, .int .i64 (b + 1), .int .i64 n] 88)); have NB := HOW.nb KW.blk (by decide); have PR := Keep.mk (And.intro KW (And.intro HOW NB)); have hsz := Keep.mk (show w0.heap.size ≤ (W.alloc (.cells #[.int .i64 ep, .int .i64 (b + 1), .int .i64 n] 88)).heap.size from KW.bel.size); clear KW HOW NB
    clear K HO hx h0
    go_enter Try.func70, Try.ntmps70
    go_wp2_with (at_builtin; refine wpList_app_spans rfl (.tmp 46) (.tmp 52) rfl w0.heap.size _ _ _ s.li rfl PR.out.2.1 (some ⟨W.heap.size, 0, none⟩) 1 1 [⟨ep, b + 1, n⟩] rfl (one_span W ep (b + 1) n) rfl rfl (by simp; omega) hsz.out ?_; intro A' c' W' hown hgr; have K' := Keep.mk (tr_grown PR.out.1 hgr (PR.out.2.2 _)); have HO' := Keep.mk hown; have q4 := K'.out.cell 4 _ rfl; have z4 := K'.out.frozen 4; clear hown hgr)
    go_end0
    exact ⟨rfl, tr_mk (K'.out.set 4 _) (HO'.out.setOther K'.out.blk (by decide) _) (by simp)⟩
  · have h1 : decide ((0 : Int) < (s.li.length : Int)) = true := by simp; omega
    obtain ⟨ba, rfl, hba, hbl, hfz, hcells⟩ := HO.form (by omega)
    obtain ⟨c0, c1, c2⟩ := hcells (s.li.length - 1) (by omega)
    have hp := wrap_pred (n := s.li.length) (by omega) (by omega)
    have hp2 : ((s.li.length - 1 : Nat) : Int) < (s.li.length : Int) := by omega
    rw [show s.li.getD (s.li.length - 1) .z = lastS s.li from rfl] at c0 c1 c2
    clear hcells
    by_cases h2 : (lastS s.li).ep = ep
    · have hx := extendS_set s.li ep b n (by omega) h2
      rw [hx]
      have h2' : ((lastS s.li).ep == ep) = true := by simp [h2]
      have hne := HO.ne K.blk (by decide)
      have HS := Keep.mk (HO.setTo (s.li.length - 1) (by omega) n)
      have HK := Keep.mk (And.intro K HO)
      clear K HO hx h2
      go_enter Try.func70, Try.ntmps70
      go_wp2
      first | go_end0 | refine bodyPost_ret (results_none rfl _ _ _) rfl ?_
      exact ⟨rfl, tr_mk (HK.out.1.setOther hba hne _) HS.out.1 (by simp)⟩
    · have hx := extendS_app s.li ep b n (.inr h2)
      rw [hx]
      have h2' : ((lastS s.li).ep == ep) = false := by simpa using h2
      have KW := K.alloc (.cells #[.int .i64 ep, .int .i64 (b + 1), .int .i64 n] 88); have HOW := HO.step (below_new (Below.refl W.heap.size W) (.cells #[.int .i64 ep, .int .i64 (b + 1), .int .i64 n] 88)); have NB := HOW.nb KW.blk (by decide); have PR := Keep.mk (And.intro KW (And.intro HOW NB)); have hsz := Keep.mk (show w0.heap.size ≤ (W.alloc (.cells #[.int .i64 ep, .int .i64 (b + 1), .int .i64 n] 88)).heap.size from KW.bel.size); clear KW HOW NB
      clear K HO hx h2
      go_enter Try.func70, Try.ntmps70
      go_wp2_with (at_builtin; refine wpList_app_spans rfl (.tmp 46) (.tmp 52) rfl w0.heap.size _ _ _ s.li rfl PR.out.2.1 (some ⟨W.heap.size, 0, none⟩) 1 1 [⟨ep, b + 1, n⟩] rfl (one_span W ep (b + 1) n) rfl rfl (by simp; omega) hsz.out ?_; intro A' c' W' hown hgr; have K' := Keep.mk (tr_grown PR.out.1 hgr (PR.out.2.2 _)); have HO' := Keep.mk hown; have q4 := K'.out.cell 4 _ rfl; have z4 := K'.out.frozen 4; clear hown hgr)
      go_end0
      exact ⟨rfl, tr_mk (K'.out.set 4 _) (HO'.out.setOther K'.out.blk (by decide) _) (by simp)⟩
end Go.Proofs.Ytijhkgabonkmfaa
