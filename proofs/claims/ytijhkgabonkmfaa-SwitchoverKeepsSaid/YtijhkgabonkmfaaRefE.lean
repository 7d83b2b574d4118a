/- Contracts: the reference's Rejoin; SameLineage, Same. -/
import Derived.Test.YtijhkgabonkmfaaRefD
import Derived.Laws.StructEq
namespace Go.Proofs.Ytijhkgabonkmfaa
open Go.RowKit
set_option linter.unusedSimpArgs false
set_option linter.unusedVariables false
section
variable {P : Program} {w : World} {d : Nat} {xs ys : Array Value} {f : Field} {fs : List Field} {a b : Value} {r s : Bool}
theorem eqf_nil : (Op.eqFields d xs ys []).run P w = .ok true w := by simp [Op.eqFields]
theorem eqf_cons (hn : (f.name == "_") = false) (ha : (part f.type xs f.offset).run P w = .ok a w) (hb : (part f.type ys f.offset).run P w = .ok b w) (he : (Op.equalIn d f.type a b).run P w = .ok r w) (hr : (Op.eqFields d xs ys fs).run P w = .ok s w) : (Op.eqFields d xs ys (f :: fs)).run P w = .ok (r && s) w := by
  have hn' : f.name ≠ "_" := by simpa using hn
  rw [Op.eqFields]
  simp only [if_pos hn', Sem.run_bind, ha, hb, he, Result.andThen_ok]
  cases r
  · simp
  · simpa using hr
theorem eqIn_of {t : TypeId} {fs : Array Field} (hu : P.underlying t = some (.struct fs)) (hp : P.stoodInHeld t = false) (h : (Op.eqFields d xs ys fs.toList).run P w = .ok r w) : (Op.equalIn (d + 1) t (.agg xs) (.agg ys)).run P w = .ok r w := by
  have hf : P.fieldsOf t = fs := by simp [Program.fieldsOf, hu]
  rw [run_equalIn_struct (P := P) w d t xs ys (by rw [hf]; exact hu) hp, hf]
  exact h
end
def spanEq (x y : Span) : Bool := x.ep == y.ep && (x.fr == y.fr && (x.to_ == y.to_ && true))
theorem eqIn_span (d : Nat) (w : World) (x y : Span) : (Op.equalIn (d + 2) 88 (.agg #[.int .i64 x.ep, .int .i64 x.fr, .int .i64 x.to_]) (.agg #[.int .i64 y.ep, .int .i64 y.fr, .int .i64 y.to_])).run Try.prog w = .ok (spanEq x y) w := by
  refine eqIn_of Try.underlying88 (by kernel_rfl) ?_
  refine eqf_cons (by rfl) (by go_simp; rfl) (by go_simp; rfl) (by go_simp) ?_
  refine eqf_cons (by rfl) (by go_simp; rfl) (by go_simp; rfl) (by go_simp) ?_
  refine eqf_cons (by rfl) (by go_simp; rfl) (by go_simp; rfl) (by go_simp) eqf_nil
theorem neq_span (w : World) (x y : Span) : (binOp .neq 88 (.agg #[.int .i64 x.ep, .int .i64 x.fr, .int .i64 x.to_]) (.agg #[.int .i64 y.ep, .int .i64 y.fr, .int .i64 y.to_])).run Try.prog w = .ok (.bool (!spanEq x y)) w := by
  have h := eqIn_span 9998 w x y
  simp only [binOp]
  simp [Op.equal, Op.maxDepth, h]
theorem eql_span (w : World) (x y : Span) : (binOp .eql 88 (.agg #[.int .i64 x.ep, .int .i64 x.fr, .int .i64 x.to_]) (.agg #[.int .i64 y.ep, .int .i64 y.fr, .int .i64 y.to_])).run Try.prog w = .ok (.bool (spanEq x y)) w := by
  have h := eqIn_span 9998 w x y
  simp only [binOp]
  simp [Op.equal, Op.maxDepth, h]
theorem spanEq_iff (x y : Span) : spanEq x y = true ↔ x = y := by
  obtain ⟨a, b, c⟩ := x
  obtain ⟨d, e, f⟩ := y
  simp [spanEq]
/-- two lineages are equal -/
def sameL : List Span → List Span → Bool
  | [], [] => true
  | x :: r, y :: q => spanEq x y && sameL r q
  | _, _ => false
theorem sameL_iff : ∀ (a b : List Span), sameL a b = true ↔ a = b
  | [], [] => by simp [sameL]
  | [], _ :: _ => by simp [sameL]
  | _ :: _, [] => by simp [sameL]
  | x :: r, y :: q => by simp [sameL, spanEq_iff, sameL_iff r q]
theorem sameL_len {a b : List Span} (h : a.length ≠ b.length) : sameL a b = false := by
  cases hs : sameL a b
  · rfl
  · rw [sameL_iff] at hs; subst hs; exact absurd rfl h
set_option maxHeartbeats 1000000 in
theorem ref_SameLineage (w : World) (A B : Option Addr) (c d : Nat) (l m : List Span) (h : SpansAt w A c l) (h' : SpansAt w B d m) :
    Calls Try.prog 26 #[.slice A l.length c, .slice B m.length d] w fun e w' => e = .returned (.bool (sameL l m)) ∧ Below w.heap.size w w' := by
  have hl := h.len
  have hm := h'.len
  have HC := Keep.mk h
  have HD := Keep.mk h'
  clear h h'
  by_cases h0 : l.length = m.length
  · have h1 : ((l.length : Int) != (m.length : Int)) = false := by simp [h0]
    go_enter Try.func26, Try.ntmps26
    have H0 := Keep.mk h0
    clear h0
    go_wp2_with fail
    go_loopg [5] l.length (fun g i wr => ∃ k : Nat, g = l.length - k ∧ k ≤ l.length ∧ i = .int .i64 k ∧ Keep (sameL l m = sameL (l.drop k) (m.drop k)) ∧ Keep (Below w.heap.size w wr))
    case atStart => exact ⟨0, by omega, by omega, rfl, ⟨rfl⟩, ⟨Below.refl _ _⟩⟩
    case round =>
      obtain ⟨k, rfl, hk, rfl, H3, H8⟩ := hrel
      by_cases hlt : k < l.length
      · have hlt' : (k : Int) < (l.length : Int) := by omega
        have hltm : (k : Int) < (m.length : Int) := by have := H0.out; omega
        have hltn : k < m.length := by omega
        obtain ⟨b, o, hA, hb, c0, c1, c2⟩ := HC.out.at_ k hlt
        obtain ⟨b', o', hA', hb', d0, d1, d2⟩ := HD.out.at_ k hltn
        subst hA hA'
        rw [← H8.out.cell (p := ⟨b, _, none⟩) hb] at c0 c1 c2
        rw [← H8.out.cell (p := ⟨b', _, none⟩) hb'] at d0 d1 d2
        have hx := Keep.mk (drop_getD hlt rfl)
        have hy := Keep.mk (drop_getD hltn rfl)
        generalize l.getD k Span.z = x at c0 c1 c2 hx
        generalize m.getD k Span.z = y at d0 d1 d2 hy
        have HE := fun w => neq_span w x y
        cases hs : spanEq x y
        · rw [hs] at HE
          simp only [Bool.not_false] at HE
          have hs := Keep.mk hs
          go_wp2_with fail
          go_quiet (fail)
          go_wp2
          go_ret
          exact ⟨ret_bool (by rw [H3.out, hx.out, hy.out, sameL, hs.out]; rfl), (by repeat' (first | exact H8.out | (apply below_new) | (refine below_drewN ?_ _) | (refine below_drew ?_) | (refine below_set ?_ (by first | exact Nat.le_refl _ | omega | (simp; done) | (simp; omega)) _)))⟩
        · rw [hs] at HE
          simp only [Bool.not_true] at HE
          have hs := Keep.mk hs
          go_wp2_with fail
          go_quiet (fail)
          go_wp2
          go_roundg (l.length - (k + 1))
          case measure => omega
          case rel => exact ⟨k + 1, rfl, by omega, by go_num, ⟨by rw [H3.out, hx.out, hy.out, sameL, hs.out]; rfl⟩, ⟨(by repeat' (first | exact H8.out | (apply below_new) | (refine below_drewN ?_ _) | (refine below_drew ?_) | (refine below_set ?_ (by first | exact Nat.le_refl _ | omega | (simp; done) | (simp; omega)) _)))⟩⟩
      · have : k = l.length := by omega
        subst this
        go_wp2
        go_ret
        exact ⟨ret_bool (by rw [H3.out, List.drop_length, H0.out, List.drop_length]; rfl), H8.out⟩
  · have h1 : ((l.length : Int) != (m.length : Int)) = true := by simp; omega
    rw [sameL_len h0]
    clear h0
    go_enter Try.func26, Try.ntmps26
    go_wp2
    go_ret
    exact ⟨rfl, Below.refl _ _⟩
end Go.Proofs.Ytijhkgabonkmfaa
