/- A region that draws its order, walked once in the order of the text, in a class of worlds that every operation and call keeps. -/
import Derived.Test.YtijhkgabonkmfaaKit
namespace Go.Proofs.Ytijhkgabonkmfaa
section
variable {P : Program} {ops : Array Oper} {C : World → Prop} {Q : Act → Prop} {a : Act} {o : Oper} {rest : List Oper}
theorem wp_region_class {id : Nat} {Q : Exit → Act → World → Prop} {a : Act} {w : World} {l : List Oper} (C : World → Prop) (hm : P.follows .mixedOrders = true) (hB : Region.lexB .any l.toArray = true) (hC : C w.drew)
    (h : wpQuiet P l.toArray C (fun a' => ∀ w', C w' → Q .normal a' w') l a) : (Code.region id l.toArray true).wp P Q a w :=
  wp_region_quiet hm hB hC (by simpa using h)
theorem wq_skip (hw : Region.wanted o (yielded ops a.tmps) = false) (h : wpQuiet P ops C Q rest (a.put o.dst undef)) : wpQuiet P ops C Q (o :: rest) a :=
  wpQuiet_step fun _ hK => by rw [if_neg (by rw [hw]; exact Bool.false_ne_true)]; exact hK _ h
theorem wq_run {v : Value} (hw : Region.wanted o (yielded ops a.tmps) = true) (h : ∀ W, C W → (execOp a.eval o).run P W = .ok (.value v) W) (hk : wpQuiet P ops C Q rest (a.put o.dst v)) : wpQuiet P ops C Q (o :: rest) a :=
  wpQuiet_step fun _ hK => by
    rw [if_pos hw]
    exact ⟨v, fun W hW => by unfold Oper.quietAt; rw [h W hW]; exact ⟨rfl, rfl⟩, hK _ hk⟩
theorem wq_call {v : Value} {f : FuncId} {args : Array Value} (hw : Region.wanted o (yielded ops a.tmps) = true) (h : ∀ W, C W → (execOp a.eval o).run P W = .ok (.enter f args) W)
    (hc : ∀ W, C W → Calls P f args W fun e w' => e = .returned v ∧ C w') (hk : wpQuiet P ops C Q rest (a.put o.dst v)) : wpQuiet P ops C Q (o :: rest) a :=
  wpQuiet_step fun _ hK => by
    rw [if_pos hw]
    exact ⟨v, fun W hW => by unfold Oper.quietAt; rw [h W hW]; exact ⟨rfl, hc W hW⟩, hK _ hk⟩
theorem wq_ran (hw : Region.wanted o (yielded ops a.tmps) = true) (h : ∃ v, (∀ W, C W → (execOp a.eval o).run P W = .ok (.value v) W) ∧ wpQuiet P ops C Q rest (a.put o.dst v)) : wpQuiet P ops C Q (o :: rest) a :=
  let ⟨_, h1, h2⟩ := h
  wq_run hw h1 h2
theorem wq_called (hw : Region.wanted o (yielded ops a.tmps) = true) (h : ∃ v f args, (∀ W, C W → (execOp a.eval o).run P W = .ok (.enter f args) W) ∧ (∀ W, C W → Calls P f args W fun e w' => e = .returned v ∧ C w') ∧ wpQuiet P ops C Q rest (a.put o.dst v)) : wpQuiet P ops C Q (o :: rest) a :=
  let ⟨_, _, _, h1, h2, h3⟩ := h
  wq_call hw h1 h2 h3
end
end Go.Proofs.Ytijhkgabonkmfaa
