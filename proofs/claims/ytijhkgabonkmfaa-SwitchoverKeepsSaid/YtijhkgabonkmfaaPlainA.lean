/- Plain laws of layer 51: what a transition that succeeds has done; a site remains correct. No program in sight. -/
import Derived.Test.YtijhkgabonkmfaaData
namespace Go.Proofs.Ytijhkgabonkmfaa
theorem checkS_iff (s : Site) : checkS s = 0 ↔ ((0 ≤ s.nu ∧ s.nu ≤ 3) ∧ (0 ≤ s.ro ∧ s.ro ≤ 5) ∧ (0 ≤ s.ep ∧ s.ep ≤ 1073741824) ∧ (0 ≤ s.ap ∧ s.ap ≤ 1073741824) ∧ (s.ro = 0 ∨ s.ep ≠ 0) ∧ corr s.li 0 0 = true ∧ (lastS s.li).ep ≤ s.ep ∧ (lastS s.li).to_ = s.ap ∧
    ((recv s.ro = true ∧ otherS s s.so = true) ∨ (recv s.ro = false ∧ s.so = -1))) := by
  have hb : ∀ a b c : Int, inB a b c = true ↔ (b ≤ a ∧ a ≤ c) := fun a b c => by simp [inB]
  unfold checkS
  constructor
  · intro h
    split at h
    case isFalse => exact absurd h (by decide)
    split at h
    case isFalse => exact absurd h (by decide)
    split at h
    case isFalse => exact absurd h (by decide)
    split at h
    case isFalse => exact absurd h (by decide)
    split at h
    case isTrue => exact absurd h (by decide)
    split at h
    case isTrue => exact absurd h (by decide)
    rename_i a1 a2 a3 a4 a5 a6
    simp only [hb] at a1 a2 a3
    refine ⟨a1, a2, a3.1, a3.2.1, by omega, a4, by omega, by omega, ?_⟩
    split at h
    · rename_i a7
      split at h
      · rename_i a8; exact .inl ⟨a7, a8⟩
      · exact absurd h (by decide)
    · rename_i a7
      split at h
      · rename_i a8; exact .inr ⟨by simpa using a7, a8⟩
      · exact absurd h (by decide)
  · rintro ⟨a1, a2, a3, a4, a5, a6, a7, a8, a9⟩
    rw [if_pos ((hb _ _ _).2 a1), if_pos ((hb _ _ _).2 a2), if_pos ⟨(hb _ _ _).2 a3, (hb _ _ _).2 a4, by omega⟩, if_pos a6, if_neg (by omega), if_neg (by omega)]
    rcases a9 with ⟨b1, b2⟩ | ⟨b1, b2⟩
    · rw [if_pos b1, if_pos b2]
    · rw [if_neg (by simp [b1]), if_pos b2]
theorem corr_cons (x : Span) (r : List Span) (pe pt : Int) : corr (x :: r) pe pt = true ↔ (x.fr = pt + 1 ∧ x.fr ≤ x.to_ ∧ x.to_ ≤ 1073741824 ∧ 1 ≤ x.ep ∧ x.ep ≤ 1073741824 ∧ pe < x.ep ∧ corr r x.ep x.to_ = true) := by
  simp only [corr, inB, Bool.and_eq_true, decide_eq_true_eq]
  constructor
  · rintro ⟨⟨⟨⟨⟨a, b⟩, c⟩, d, e⟩, f⟩, g⟩; exact ⟨a, b, c, d, e, f, g⟩
  · rintro ⟨a, b, c, d, e, f, g⟩; exact ⟨⟨⟨⟨⟨a, b⟩, c⟩, d, e⟩, f⟩, g⟩
theorem lastS_cons2 (x y : Span) (r : List Span) : lastS (x :: y :: r) = lastS (y :: r) := by simp [lastS]
theorem lastS_one (x : Span) : lastS [x] = x := by simp [lastS]
theorem lastS_nil : lastS [] = Span.z := rfl
theorem lastS_snoc (l : List Span) (y : Span) : lastS (l ++ [y]) = y := by
  simp [lastS, List.getD_eq_getElem?_getD]
theorem corr_snoc (y : Span) : ∀ (l : List Span) (pe pt : Int), corr l pe pt = true → y.fr = (if l = [] then pt else (lastS l).to_) + 1 → y.fr ≤ y.to_ → y.to_ ≤ 1073741824 → 1 ≤ y.ep → y.ep ≤ 1073741824 → (if l = [] then pe else (lastS l).ep) < y.ep → corr (l ++ [y]) pe pt = true := by
  intro l
  induction l with
  | nil =>
    intro pe pt _ h1 h2 h3 h4 h5 h6
    rw [if_pos rfl] at h1 h6
    exact (corr_cons _ _ _ _).2 ⟨h1, h2, h3, h4, h5, h6, rfl⟩
  | cons x r ih =>
    intro pe pt hc h1 h2 h3 h4 h5 h6
    obtain ⟨a, b, c, d, e, f, g⟩ := (corr_cons _ _ _ _).1 hc
    rw [if_neg (by simp)] at h1 h6
    refine (corr_cons _ _ _ _).2 ⟨a, b, c, d, e, f, ih _ _ g ?_ h2 h3 h4 h5 ?_⟩
    · rcases r with _ | ⟨z, r⟩
      · simpa [lastS_one] using h1
      · rw [if_neg (by simp)]; rwa [lastS_cons2] at h1
    · rcases r with _ | ⟨z, r⟩
      · simpa [lastS_one] using h6
      · rw [if_neg (by simp)]; rwa [lastS_cons2] at h6
theorem corr_set_last (n : Int) : ∀ (l : List Span) (pe pt : Int), corr l pe pt = true → l ≠ [] → (lastS l).to_ ≤ n → n ≤ 1073741824 → corr (l.set (l.length - 1) { lastS l with to_ := n }) pe pt = true := by
  intro l
  induction l with
  | nil => intro _ _ _ h; exact absurd rfl h
  | cons x r ih =>
    intro pe pt hc _ h1 h2
    obtain ⟨a, b, c, d, e, f, g⟩ := (corr_cons _ _ _ _).1 hc
    rcases r with _ | ⟨z, r⟩
    · rw [lastS_one] at h1 ⊢
      exact (corr_cons _ _ _ _).2 ⟨a, by simp; omega, h2, d, e, f, rfl⟩
    · rw [lastS_cons2] at h1 ⊢
      have := ih _ _ g (by simp) h1 h2
      exact (corr_cons _ _ _ _).2 ⟨a, b, c, d, e, f, by simpa using this⟩
theorem lastS_set_last (l : List Span) (y : Span) (h : l ≠ []) : lastS (l.set (l.length - 1) y) = y := by
  have : 0 < l.length := List.length_pos_iff.2 h
  unfold lastS
  rw [List.length_set, List.getD_eq_getElem?_getD, List.getElem?_set, if_pos rfl, if_pos (by omega)]
  rfl
theorem corr_last : ∀ (l : List Span) (pe pt : Int), corr l pe pt = true → l ≠ [] → pe < (lastS l).ep ∧ pt < (lastS l).to_ := by
  intro l
  induction l with
  | nil => intro _ _ _ h; exact absurd rfl h
  | cons x r ih =>
    intro pe pt hc _
    obtain ⟨a, b, c, d, e, f, g⟩ := (corr_cons _ _ _ _).1 hc
    rcases r with _ | ⟨z, r⟩
    · rw [lastS_one]; omega
    · rw [lastS_cons2]
      have := ih _ _ g (by simp)
      omega
/-- a lineage that goes on -/
theorem extendS_corr (l : List Span) (e b n : Int) (hc : corr l 0 0 = true) (hb : b = (lastS l).to_) (hn : b < n) (hm : n ≤ 1073741824) (he : (lastS l).ep ≤ e) (h1 : 1 ≤ e) (h2 : e ≤ 1073741824) :
    corr (extendS l e b n) 0 0 = true ∧ lastS (extendS l e b n) = ⟨e, (lastS (extendS l e b n)).fr, n⟩ ∧ (extendS l e b n).length ≤ l.length + 1 := by
  unfold extendS
  split
  · rename_i h
    have hne : l ≠ [] := by intro h0; rw [h0] at h; exact absurd h.1 (by simp)
    refine ⟨corr_set_last n l 0 0 hc hne (by omega) hm, ?_, by simp⟩
    rw [lastS_set_last _ _ hne, ← h.2]
  · rename_i h
    refine ⟨corr_snoc _ l 0 0 hc ?_ (by simp; omega) hm h1 h2 ?_, by rw [lastS_snoc], by simp⟩
    · split
      · rename_i h0; subst h0; simp only [hb, lastS_nil, Span.z]
      · simp [hb]
    · split
      · simp; omega
      · rename_i h0
        have : 0 < l.length := List.length_pos_iff.2 h0
        simp only
        omega
theorem corr_fr' : ∀ (l : List Span) (pe pt : Int), corr l pe pt = true → ∀ x, x ∈ l → pt < x.fr := by
  intro l
  induction l with
  | nil => intro _ _ _ x h; cases h
  | cons y r ih =>
    intro pe pt hc x hx
    obtain ⟨a, b, c, d, e, f, g⟩ := (corr_cons _ _ _ _).1 hc
    rcases List.mem_cons.1 hx with rfl | hx
    · omega
    · have := ih _ _ g x hx; omega
theorem cutR_none (l : List Span) (pe pt n : Int) (h : corr l pe pt = true) (hn : n ≤ pt) : cutR l n = [] := by
  unfold cutR
  rw [List.filter_eq_nil_iff.2]
  · rfl
  · intro y hy
    rw [decide_eq_true_eq]
    have := corr_fr' l pe pt h y hy
    omega
theorem cutR_corr (n : Int) (hn : n ≤ 1073741824) : ∀ (l : List Span) (pe pt : Int), corr l pe pt = true → corr (cutR l n) pe pt = true ∧ (cutR l n).length ≤ l.length ∧ (cutR l n ≠ [] → (lastS (cutR l n)).to_ ≤ n ∧ (lastS (cutR l n)).ep ≤ (lastS l).ep) := by
  intro l
  induction l with
  | nil => intro pe pt _; exact ⟨rfl, by simp [cutR], fun h => absurd rfl h⟩
  | cons x r ih =>
    intro pe pt hc
    obtain ⟨a, b, c, d, e, f, g⟩ := (corr_cons _ _ _ _).1 hc
    by_cases hx : x.fr ≤ n
    · have e2 : cutR (x :: r) n = { x with to_ := min x.to_ n } :: cutR r n := by
        unfold cutR; rw [List.filter_cons, if_pos (by simpa using hx)]; rfl
      rw [e2]
      by_cases ht : x.to_ ≤ n
      · obtain ⟨i1, i2, i3⟩ := ih _ _ g
        have em : min x.to_ n = x.to_ := by rw [Int.min_def, if_pos ht]
        rw [em]
        refine ⟨(corr_cons _ _ _ _).2 ⟨a, b, c, d, e, f, i1⟩, by simp; omega, fun _ => ?_⟩
        rcases hq : cutR r n with _ | ⟨z, q⟩
        · rw [lastS_one]
          refine ⟨ht, ?_⟩
          rcases r with _ | ⟨y, r⟩
          · rw [lastS_one]; exact Int.le_refl _
          · have := (corr_last (y :: r) x.ep x.to_ g (by simp)).1
            rw [lastS_cons2]
            simp only; omega
        · rw [lastS_cons2]
          have hne : r ≠ [] := by rintro rfl; cases hq
          have := i3 (by rw [hq]; simp)
          rw [hq] at this
          rcases r with _ | ⟨y, r⟩
          · exact absurd rfl hne
          · rw [lastS_cons2]; exact this
      · have em : min x.to_ n = n := by rw [Int.min_def, if_neg ht]
        have e3 : cutR r n = [] := cutR_none r _ _ n g (by omega)
        rw [em, e3]
        refine ⟨(corr_cons _ _ _ _).2 ⟨a, hx, hn, d, e, f, rfl⟩, by simp, fun _ => ?_⟩
        rw [lastS_one]
        refine ⟨Int.le_refl _, ?_⟩
        rcases r with _ | ⟨y, r⟩
        · rw [lastS_one]; exact Int.le_refl _
        · have := (corr_last (y :: r) x.ep x.to_ g (by simp)).1
          rw [lastS_cons2]
          simp only; omega
    · have e3 : cutR (x :: r) n = [] := cutR_none _ pe pt n hc (by omega)
      rw [e3]
      exact ⟨rfl, by simp, fun h => absurd rfl h⟩

/-- a transition, or a change of the flags -/
structure StepS where
  ki : Int
  ep : Int
  so : Int
  nu : Int
def callS (s : Site) (x : StepS) : Site × Int :=
  if x.ki = 0 then promoteS s x.ep else if x.ki = 1 then demoteS s x.ep x.so else if x.ki = 2 then isolateS s else if x.ki = 3 then rejoinS s x.ep x.so
  else if x.ki = 4 then syncedWith cutR s x.nu else applyS s x.ep x.nu
def flagS (s : Site) (x : StepS) : Site := { s with al := x.nu.tmod 2 != 0, co := x.ep.tmod 2 != 0 }
def runS (s : Site) (x : StepS) : Site × Bool :=
  if 0 ≤ x.ki ∧ x.ki ≤ 5 then (if (callS s x).2 = 0 then ((callS s x).1, true) else (s, false)) else (flagS s x, true)
theorem corr_ep1 {l : List Span} (h : corr l 0 0 = true) (hn : l ≠ []) : 1 ≤ (lastS l).ep ∧ 1 ≤ (lastS l).to_ := by
  have := corr_last l 0 0 h hn
  omega
/-- what a transition that succeeds has done -/
def Done (s t : Site) (k : Int) : Prop :=
  checkS t = 0 ∧ t.nu = s.nu ∧ s.ep ≤ t.ep ∧ (k ≠ 4 → s.ap ≤ t.ap) ∧ t.li.length ≤ s.li.length + 1 ∧
  (s.ro = 5 → t.ro = 5 ∨ t.ro = 4) ∧ (s.ro = 4 → t.ro = 4 ∨ (t.ro = 2 ∧ k = 4)) ∧ (s.ro ≠ 1 → t.ro = 1 → k = 0 ∧ s.ep < t.ep ∧ s.al = true) ∧ (s.ro = 1 → t.ro = 1 ∨ k = 1)
theorem promote_done {s : Site} {e : Int} (h : (promoteS s e).2 = 0) : Done s (promoteS s e).1 0 := by
  unfold promoteS at h ⊢
  split at h
  case isTrue => exact absurd h (by assumption)
  split at h
  case isTrue => exact absurd h (by decide)
  split at h
  case isTrue => exact absurd h (by decide)
  split at h
  case isTrue => exact absurd h (by decide)
  split at h
  case isTrue => exact absurd h (by decide)
  rename_i a1 a2 a3 a4 a5
  rw [if_neg a1, if_neg a2, if_neg a3, if_neg a4, if_neg a5]
  have hc := (checkS_iff s).1 (by simpa using a1)
  obtain ⟨c1, c2, c3, c4, c5, c6, c7, c8, c9⟩ := hc
  have hr : s.ro = 0 ∨ s.ro = 2 ∨ s.ro = 3 := by
    unfold okP at a3
    simp at a3
    omega
  refine ⟨(checkS_iff _).2 ⟨c1, by simp, by simp only; omega, c4, by simp only; omega, c6, by simp only; omega, c8, .inr ⟨rfl, rfl⟩⟩, rfl, by simp only; omega, fun _ => Int.le_refl _, by simp, by simp only; omega, by simp only; omega, fun _ _ => ⟨rfl, by simp only; omega, by simpa using a2⟩, by simp only; omega⟩
theorem demote_done {s : Site} {e src : Int} (h : (demoteS s e src).2 = 0) : Done s (demoteS s e src).1 1 := by
  unfold demoteS at h ⊢
  split at h
  case isTrue => exact absurd h (by assumption)
  split at h
  case isTrue => exact absurd h (by decide)
  split at h
  case isTrue => exact absurd h (by decide)
  split at h
  case isTrue => exact absurd h (by decide)
  split at h
  case isTrue => exact absurd h (by decide)
  rename_i a1 a2 a3 a4 a5
  rw [if_neg a1, if_neg a2, if_neg a3, if_neg a4, if_neg a5]
  have hc := (checkS_iff s).1 (by simpa using a1)
  obtain ⟨c1, c2, c3, c4, c5, c6, c7, c8, c9⟩ := hc
  have hr : s.ro = 1 := by simpa using a2
  by_cases h1 : src = -1
  · simp only [h1, if_true]
    refine ⟨(checkS_iff _).2 ⟨c1, by simp, by simp only; omega, c4, by simp only; omega, c6, by simp only; omega, c8, .inr ⟨rfl, rfl⟩⟩, rfl, by simp only; omega, fun _ => Int.le_refl _, by simp, by simp only; omega, by simp only; omega, by simp only; omega, by simp⟩
  · simp only [h1, if_false]
    have ho : otherS s src = true := by
      unfold okD at a5
      simpa [h1] using a5
    refine ⟨(checkS_iff _).2 ⟨c1, by simp, by simp only; omega, c4, by simp only; omega, c6, by simp only; omega, c8, .inl ⟨rfl, ho⟩⟩, rfl, by simp only; omega, fun _ => Int.le_refl _, by simp, by simp only; omega, by simp only; omega, by simp only; omega, by simp⟩
theorem isolate_done {s : Site} (h : (isolateS s).2 = 0) : Done s (isolateS s).1 2 := by
  unfold isolateS at h ⊢
  split at h
  case isTrue => exact absurd h (by assumption)
  split at h
  case isTrue => exact absurd h (by decide)
  rename_i a1 a2
  rw [if_neg a1, if_neg a2]
  have hc := (checkS_iff s).1 (by simpa using a1)
  obtain ⟨c1, c2, c3, c4, c5, c6, c7, c8, c9⟩ := hc
  have hr : s.ro = 2 := by simpa using a2
  refine ⟨(checkS_iff _).2 ⟨c1, by simp, c3, c4, by simp only; omega, c6, c7, c8, .inr ⟨rfl, rfl⟩⟩, rfl, Int.le_refl _, fun _ => Int.le_refl _, by simp, by simp only; omega, by simp only; omega, by simp, by simp only; omega⟩
theorem rejoin_done {s : Site} {e src : Int} (h : (rejoinS s e src).2 = 0) : Done s (rejoinS s e src).1 3 := by
  unfold rejoinS at h ⊢
  split at h
  case isTrue => exact absurd h (by assumption)
  split at h
  case isTrue => exact absurd h (by decide)
  split at h
  case isTrue => exact absurd h (by decide)
  split at h
  case isTrue => exact absurd h (by decide)
  split at h
  case isTrue => exact absurd h (by decide)
  rename_i a1 a2 a3 a4 a5
  rw [if_neg a1, if_neg a2, if_neg a3, if_neg a4, if_neg a5]
  have hc := (checkS_iff s).1 (by simpa using a1)
  obtain ⟨c1, c2, c3, c4, c5, c6, c7, c8, c9⟩ := hc
  have hr : s.ro ≠ 1 ∧ s.ro ≠ 2 := by simpa [okR] using a2
  have he : s.ep ≤ e ∧ e ≠ 0 := by simpa [okE] using a3
  have ho : otherS s src = true := by simpa using a5
  by_cases h1 : s.ro = 3 ∧ e = s.ep
  · rw [if_pos h1]
    have h3 := h1.1
    refine ⟨(checkS_iff _).2 ⟨c1, by simp, by simp only; omega, c4, by simp only; omega, c6, by simp only; omega, c8, .inl ⟨rfl, ho⟩⟩, rfl, by simp only; omega, fun _ => Int.le_refl _, by simp, by simp only; omega, by simp only; omega, by simp, by simp only; omega⟩
  · rw [if_neg h1]
    refine ⟨(checkS_iff _).2 ⟨c1, by simp, by simp only; omega, c4, by simp only; omega, c6, by simp only; omega, c8, .inl ⟨rfl, ho⟩⟩, rfl, by simp only; omega, fun _ => Int.le_refl _, by simp, by simp, by simp, by simp, by simp only; omega⟩
theorem synced_done {s : Site} {n : Int} (h : (syncedWith cutR s n).2 = 0) : Done s (syncedWith cutR s n).1 4 := by
  unfold syncedWith at h ⊢
  split at h
  case isTrue => exact absurd h (by assumption)
  split at h
  case isTrue => exact absurd h (by decide)
  split at h
  case isTrue => exact absurd h (by decide)
  rename_i a1 a2 a3
  rw [if_neg a1, if_neg a2, if_neg a3]
  have hc := (checkS_iff s).1 (by simpa using a1)
  obtain ⟨c1, c2, c3, c4, c5, c6, c7, c8, c9⟩ := hc
  have hr : s.ro = 4 := by simpa using a2
  have hn : 1 ≤ n ∧ n ≤ 1073741824 := by simpa [inB] using a3
  have h9 : otherS s s.so = true := by
    rcases c9 with c9 | c9
    · exact c9.2
    · rw [hr] at c9; exact absurd c9.1 (by decide)
  obtain ⟨d1, d2, d3⟩ := cutR_corr n hn.2 s.li 0 0 c6
  have hl : (lastS (cutR s.li n)).ep ≤ s.ep ∧ (lastS (cutR s.li n)).to_ ≤ n := by
    by_cases h0 : cutR s.li n = []
    · rw [h0, lastS_nil]; simp only [Span.z]; omega
    · have := d3 h0; omega
  have key : corr (extendR (cutR s.li n) s.ep n) 0 0 = true ∧ (lastS (extendR (cutR s.li n) s.ep n)).to_ = n ∧ (lastS (extendR (cutR s.li n) s.ep n)).ep ≤ s.ep ∧ (extendR (cutR s.li n) s.ep n).length ≤ s.li.length + 1 := by
    unfold extendR
    split
    · exact ⟨d1, by omega, hl.1, by omega⟩
    · obtain ⟨e1, e2, e3⟩ := extendS_corr (cutR s.li n) s.ep _ n d1 rfl (by omega) hn.2 hl.1 (by omega) (by omega)
      exact ⟨e1, by rw [e2], by rw [e2]; exact Int.le_refl _, by omega⟩
  refine ⟨(checkS_iff _).2 ⟨c1, by simp, c3, by simp only; omega, by simp only; omega, key.1, key.2.2.1, key.2.1, .inl ⟨rfl, h9⟩⟩, rfl, Int.le_refl _, fun h => absurd rfl h, key.2.2.2, by simp only; omega, by simp, by simp, by simp only; omega⟩
theorem apply_done {s : Site} {e n : Int} (h : (applyS s e n).2 = 0) : Done s (applyS s e n).1 5 := by
  unfold applyS at h ⊢
  split at h
  case isTrue => exact absurd h (by assumption)
  split at h
  case isTrue => exact absurd h (by decide)
  split at h
  case isTrue => exact absurd h (by decide)
  split at h
  case isTrue => exact absurd h (by decide)
  split at h
  case isTrue => exact absurd h (by decide)
  rename_i a1 a2 a3 a4 a5
  rw [if_neg a1, if_neg a2, if_neg a3, if_neg a4, if_neg a5]
  have hc := (checkS_iff s).1 (by simpa using a1)
  obtain ⟨c1, c2, c3, c4, c5, c6, c7, c8, c9⟩ := hc
  have hr : s.ro = 1 ∨ s.ro = 2 := by
    unfold okA at a2; simp at a2; omega
  have he : s.ep ≤ e ∧ e ≠ 0 := by
    unfold okAE at a3
    simp only [Bool.not_eq_false, Bool.and_eq_true, decide_eq_true_eq, bne_iff_ne] at a3
    exact a3.1
  have hm : e ≤ 1073741824 ∧ n ≤ 1073741824 := by omega
  obtain ⟨e1, e2, e3⟩ := extendS_corr s.li e s.ap n c6 c8.symm (by omega) hm.2 (by omega) (by omega) hm.1
  refine ⟨(checkS_iff _).2 ⟨c1, c2, by simp only; omega, by simp only; omega, by simp only; omega, e1, by simp only; rw [e2]; exact Int.le_refl _, by simp only; rw [e2], c9⟩, rfl, he.1, fun _ => by simp only; omega, e3, by simp only; omega, by simp only; omega, fun hx hy => absurd hy hx, fun hx => .inl hx⟩
theorem run_done {s : Site} (x : StepS) (h : checkS s = 0) : Done s (runS s x).1 x.ki := by
  have same : ∀ k, Done s s k := fun k => ⟨h, rfl, Int.le_refl _, fun _ => Int.le_refl _, by omega, fun h => .inl h, fun h => .inl h, fun hx hy => absurd hy hx, fun hx => .inl hx⟩
  unfold runS
  split
  · rename_i hk
    split
    · rename_i h0
      unfold callS at h0 ⊢
      by_cases k0 : x.ki = 0
      · rw [if_pos k0] at h0 ⊢; rw [k0]; exact promote_done h0
      rw [if_neg k0] at h0 ⊢
      by_cases k1 : x.ki = 1
      · rw [if_pos k1] at h0 ⊢; rw [k1]; exact demote_done h0
      rw [if_neg k1] at h0 ⊢
      by_cases k2 : x.ki = 2
      · rw [if_pos k2] at h0 ⊢; rw [k2]; exact isolate_done h0
      rw [if_neg k2] at h0 ⊢
      by_cases k3 : x.ki = 3
      · rw [if_pos k3] at h0 ⊢; rw [k3]; exact rejoin_done h0
      rw [if_neg k3] at h0 ⊢
      by_cases k4 : x.ki = 4
      · rw [if_pos k4] at h0 ⊢; rw [k4]; exact synced_done h0
      rw [if_neg k4] at h0 ⊢
      have k5 : x.ki = 5 := by omega
      rw [k5]; exact apply_done h0
    · exact same _
  · have e : checkS (flagS s x) = checkS s := rfl
    exact ⟨e.trans h, rfl, Int.le_refl _, fun _ => Int.le_refl _, by simp [flagS], fun h => .inl h, fun h => .inl h, fun hx hy => absurd hy hx, fun hx => .inl hx⟩
end Go.Proofs.Ytijhkgabonkmfaa
