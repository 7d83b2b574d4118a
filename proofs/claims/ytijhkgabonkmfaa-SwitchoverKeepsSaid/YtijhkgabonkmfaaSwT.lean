/- Contract: switchover.Step: its ways out where the procedure, the sites or their numbers are not in order. -/
import Derived.Test.YtijhkgabonkmfaaSwO
import Derived.Test.YtijhkgabonkmfaaRwB
import Derived.Deep.RegionHeld3
namespace Go.Proofs.Ytijhkgabonkmfaa
open Go.RowKit
set_option linter.unusedSimpArgs false
set_option linter.unusedVariables false
set_option maxRecDepth 100000
theorem step_start (w : World) (p : Proc) : Held w w.heap.size [.int .i64 p.ki, .int .i64 p.fr, .int .i64 p.to_, .int .i64 p.st, .int .i64 p.ep, .int .i64 p.cy, .bool p.dn, .bool p.fa] 26 ((((w.alloc (.cells #[.int .i64 p.ki, .int .i64 p.fr, .int .i64 p.to_, .int .i64 p.st, .int .i64 p.ep, .int .i64 p.cy, .bool p.dn, .bool p.fa] 26)).alloc (.cells #[.int .i64 0, .int .i64 0, .int .i64 0, .int .i64 0, .int .i64 0, .int .i64 0, .bool false, .bool false] 26)).alloc (.cells #[.slice none 0 0] 22)).alloc (.cells #[.int .i64 0] 27)) ∧ Held w (w.heap.size + 1) [.int .i64 0, .int .i64 0, .int .i64 0, .int .i64 0, .int .i64 0, .int .i64 0, .bool false, .bool false] 26 ((((w.alloc (.cells #[.int .i64 p.ki, .int .i64 p.fr, .int .i64 p.to_, .int .i64 p.st, .int .i64 p.ep, .int .i64 p.cy, .bool p.dn, .bool p.fa] 26)).alloc (.cells #[.int .i64 0, .int .i64 0, .int .i64 0, .int .i64 0, .int .i64 0, .int .i64 0, .bool false, .bool false] 26)).alloc (.cells #[.slice none 0 0] 22)).alloc (.cells #[.int .i64 0] 27)) ∧ Held w (w.heap.size + 2) [.slice none 0 0] 22 ((((w.alloc (.cells #[.int .i64 p.ki, .int .i64 p.fr, .int .i64 p.to_, .int .i64 p.st, .int .i64 p.ep, .int .i64 p.cy, .bool p.dn, .bool p.fa] 26)).alloc (.cells #[.int .i64 0, .int .i64 0, .int .i64 0, .int .i64 0, .int .i64 0, .int .i64 0, .bool false, .bool false] 26)).alloc (.cells #[.slice none 0 0] 22)).alloc (.cells #[.int .i64 0] 27)) ∧ Held w (w.heap.size + 3) [.int .i64 0] 27 ((((w.alloc (.cells #[.int .i64 p.ki, .int .i64 p.fr, .int .i64 p.to_, .int .i64 p.st, .int .i64 p.ep, .int .i64 p.cy, .bool p.dn, .bool p.fa] 26)).alloc (.cells #[.int .i64 0, .int .i64 0, .int .i64 0, .int .i64 0, .int .i64 0, .int .i64 0, .bool false, .bool false] 26)).alloc (.cells #[.slice none 0 0] 22)).alloc (.cells #[.int .i64 0] 27)) :=
  ⟨(((Held.new (Below.refl w.heap.size w) _ _).alloc _).alloc _).alloc _,
   ((Held.newN (n := w.heap.size + 1) (below_new (Below.refl w.heap.size w) _) _ _ (by simp)).alloc _).alloc _,
   (Held.newN (n := w.heap.size + 2) (below_new (below_new (Below.refl w.heap.size w) _) _) _ _ (by simp)).alloc _,
   Held.newN (n := w.heap.size + 3) (below_new (below_new (below_new (Below.refl w.heap.size w) _) _) _) _ _ (by simp)⟩
theorem checkP_two (p : Proc) : checkP p = 0 ∨ checkP p = 3 := by unfold checkP; split <;> simp
set_option maxHeartbeats 1000000 in
theorem sw_Step_no1 (w : World) (p : Proc) (A : Option Addr) (c n : Nat) (ok : Bool) (v : Int) (hc : checkP p = 3) :
    Calls Try.prog 19 #[.agg #[.int .i64 p.ki, .int .i64 p.fr, .int .i64 p.to_, .int .i64 p.st, .int .i64 p.ep, .int .i64 p.cy, .bool p.dn, .bool p.fa], .slice A n c, .bool ok, .int .i64 v] w (StepRes w (zP, [], 3)) := by
  have hmf : ∀ (fn : Fn) (first cap : Array Value) (w : World), (Instr.makeFunc fn first cap).run Try.prog w = .ok (.func fn first cap) w := fun _ _ _ _ => rfl
  have HCK := fun w => sw_Check w p
  rw [hc] at HCK
  have S0 := Keep.mk (step_start w p)
  clear hc
  go_enter_defers Try.func19, Try.ntmps19
  go_wp2_with (first
    | (go_at_call 17; (with_reducible refine (HCK _).mono ?_); rintro en w1 ⟨rfl, hB⟩; have HB := Keep.mk hB; clear hB)
    | (go_at_call 40; (with_reducible refine (sw_ok_no 3 _ rfl).mono ?_); rintro en w' ⟨rfl, hw⟩; subst w'))
  exact step_door w w1 _ rfl rfl rfl (S0.out.2.1.step HB.out) (S0.out.2.2.1.step HB.out) (S0.out.2.2.2.step HB.out) 3
set_option maxHeartbeats 1000000 in
theorem sw_Step_no2 (w : World) (p : Proc) (A : Option Addr) (c B : Nat) (l : List Site) (ok : Bool) (v e : Int) (hc : checkP p = 0) (he : (checkAllS l).2 = e) (h0 : (e == 0) = false) (hB : ∀ x, x ∈ l → x.li.length ≤ B) (h : SitesAt B w A c l) :
    Calls Try.prog 19 #[.agg #[.int .i64 p.ki, .int .i64 p.fr, .int .i64 p.to_, .int .i64 p.st, .int .i64 p.ep, .int .i64 p.cy, .bool p.dn, .bool p.fa], .slice A l.length c, .bool ok, .int .i64 v] w (StepRes w (zP, [], e)) := by
  have hmf : ∀ (fn : Fn) (first cap : Array Value) (w : World), (Instr.makeFunc fn first cap).run Try.prog w = .ok (.func fn first cap) w := fun _ _ _ _ => rfl
  have HCK := fun w => sw_Check w p
  rw [hc] at HCK
  have S0 := Keep.mk (step_start w p)
  have HC := Keep.mk h
  have HE := Keep.mk he
  have HB0 := Keep.mk hB
  clear hc h he hB
  go_enter_defers Try.func19, Try.ntmps19
  go_wp2_with (first
    | (go_at_call 17; (with_reducible refine (HCK _).mono ?_); rintro en w1 ⟨rfl, hB⟩; have S1 := Keep.mk (And.intro (S0.out.1.step hB) (And.intro (S0.out.2.1.step hB) (And.intro (S0.out.2.2.1.step hB) (S0.out.2.2.2.step hB)))); clear hB)
    | (go_at_call 40; (with_reducible refine (sw_ok_ok _).mono ?_); rintro en w' ⟨rfl, hw⟩; subst w')
    | (go_at_call 32; (with_reducible refine (sw_checked_no _ A c B l e HE.out h0 HB0.out (HC.out.below S1.out.1.bel)).mono ?_); rintro en w2 ⟨rfl, hB⟩; have HB := Keep.mk hB; clear hB))
  exact step_door w w2 _ rfl rfl rfl (S1.out.2.1.step HB.out) (S1.out.2.2.1.step HB.out) (S1.out.2.2.2.step HB.out) e
/-- behind 'm = checked(l)' -/
theorem row_start {w w4 w2 : World} {p : Proc} {A1 : Option Addr} {c1 : Nat} {m : List Sv} (h4 : w.heap.size + 4 ≤ w4.heap.size) (KP : Held w w.heap.size [.int .i64 p.ki, .int .i64 p.fr, .int .i64 p.to_, .int .i64 p.st, .int .i64 p.ep, .int .i64 p.cy, .bool p.dn, .bool p.fa] 26 w2) (K : Held w (w.heap.size + 1) [.int .i64 0, .int .i64 0, .int .i64 0, .int .i64 0, .int .i64 0, .int .i64 0, .bool false, .bool false] 26 w2 ∧ Held w (w.heap.size + 2) [.slice none 0 0] 22 w2 ∧ Held w (w.heap.size + 3) [.int .i64 0] 27 w2) (hO : OwnAll (e0 w) w2 A1 c1 m) (hS : OwnSi w2 w4.heap.size A1 c1 m) (n : Nat) (hn : n = m.length) :
    Held w w.heap.size [.int .i64 p.ki, .int .i64 p.fr, .int .i64 p.to_, .int .i64 p.st, .int .i64 p.ep, .int .i64 p.cy, .bool p.dn, .bool p.fa] 26 (w2.setCell ⟨w.heap.size + 1 + 1, 0, none⟩ (.slice A1 n c1)) ∧ Held w (w.heap.size + 1) [.int .i64 0, .int .i64 0, .int .i64 0, .int .i64 0, .int .i64 0, .int .i64 0, .bool false, .bool false] 26 (w2.setCell ⟨w.heap.size + 1 + 1, 0, none⟩ (.slice A1 n c1)) ∧ Held w (w.heap.size + 1 + 1) [.slice A1 m.length c1] 22 (w2.setCell ⟨w.heap.size + 1 + 1, 0, none⟩ (.slice A1 n c1)) ∧ Held w (w.heap.size + 1 + 1 + 1) [.int .i64 0] 27 (w2.setCell ⟨w.heap.size + 1 + 1, 0, none⟩ (.slice A1 n c1)) ∧ RowAt (e0 w) (w2.setCell ⟨w.heap.size + 1 + 1, 0, none⟩ (.slice A1 n c1)) (w.heap.size + 4) A1 c1 m := by
  subst hn
  exact ⟨KP.setOther (by omega) (by omega) _, K.1.setOther (by omega) (by omega) _, K.2.1.set 0 _, K.2.2.setOther (by omega) (by omega) _, RowAt.oth ⟨hO, hS.mono h4⟩ K.2.1.toE (by decide) (by omega) (grownSet _ _ _ _)⟩
theorem w4_size (w : World) (p : Proc) : w.heap.size + 4 ≤ ((((w.alloc (.cells #[.int .i64 p.ki, .int .i64 p.fr, .int .i64 p.to_, .int .i64 p.st, .int .i64 p.ep, .int .i64 p.cy, .bool p.dn, .bool p.fa] 26)).alloc (.cells #[.int .i64 0, .int .i64 0, .int .i64 0, .int .i64 0, .int .i64 0, .int .i64 0, .bool false, .bool false] 26)).alloc (.cells #[.slice none 0 0] 22)).alloc (.cells #[.int .i64 0] 27)).heap.size := by simp
/-! ### a region that draws its order in a function that defers, and panics -/
def PQ (Q : Exit → Act → World → Prop) (Inv : Act → Prop) (Pan : World → Prop) (c0 : List PanicEntry) : Exit → Act → World → Prop
  | .panic c, a, w => Inv a ∧ c = c0 ∧ Pan w
  | e, a, w => Q e a w
def Inv3 (D : List Deferred) (x y z : Tmp) (p q r : Value) (a : Act) : Prop := a.defers = D ∧ a.tmps.getD x undef = p ∧ a.tmps.getD y undef = q ∧ a.tmps.getD z undef = r
theorem getD_put_ne {a : Act} {d x : Tmp} {v : Value} (h : d ≠ x) : (a.put (some d) v).tmps.getD x undef = a.tmps.getD x undef := by
  simp [Act.put, Array.getD_eq_getD_getElem?, Array.getElem?_setIfInBounds_ne h]
theorem inv3_put {D : List Deferred} {x y z d : Tmp} {p q r v : Value} {a : Act} (hx : d ≠ x) (hy : d ≠ y) (hz : d ≠ z) (h : Inv3 D x y z p q r (a.put (some d) v)) : Inv3 D x y z p q r a := by
  obtain ⟨h1, h2, h3, h4⟩ := h
  rw [getD_put_ne hx] at h2
  rw [getD_put_ne hy] at h3
  rw [getD_put_ne hz] at h4
  exact ⟨h1, h2, h3, h4⟩
theorem wp_region_pan {P : Program} {id : Nat} {ops : Array Oper} {Q : Exit → Act → World → Prop} {a : Act} {w : World} (S : World → Prop) (Inv : Act → Prop) (c0 : List PanicEntry) (hm : P.follows .mixedOrders = true) (hq : ∀ a w, Inv a → S w → Q (.panic c0) a w) (hS : S w.drew)
    (h : S w.drew → wpAnyH P .any ops (PQ Q Inv S c0) S ops.size (Array.replicate ops.size false) a w.drew) : (Code.region id ops true).wp P Q a w :=
  Code.wp_mono (Q := PQ Q Inv S c0) (fun e a w h => by cases e <;> first | exact h | (obtain ⟨h1, rfl, h3⟩ := h; exact hq _ _ h1 h3)) (wp_region_held_drew hm hS h)
section
variable {P : Program} {ops : Array Oper} {Q : Exit → Act → World → Prop} {md : Region.Mode} {S : World → Prop} {i fuel : Nat} {o : Oper} {listed : Array Bool} {a : Act} {w : World} {d : Tmp} {v : Value} {f : FuncId} {args : Array Value}
theorem takeD (ho : ops[i]? = some o) (hd : o.dst = some d) (hs : Region.noSelect ops = true) (hf : Region.free md ops listed i = true) (hr : (Region.ready md ops listed).contains i = true)
    (hQ : ∀ c a w, Q (.panic c) (a.put (some d) v) w → Q (.panic c) a w) (hw : Region.wanted o (yielded ops a.tmps) = true) (hy : ∀ w, S w → (execOp a.eval o).run P w = .ok (.value v) w) (hS : S w)
    (h : wpAnyH P md ops Q S fuel (listed.setIfInBounds i true) (a.put (some d) v) w) : wpAnyH P md ops Q S (fuel + 1) listed a w :=
  wpAnyH_take ho hs hf hr (by rw [hd]; exact hQ) (.inl ⟨hw, hy⟩) hS (by rw [hd]; exact h)
theorem opRan {w' : World} (ho : ops[i]? = some o) (hd : o.dst = some d) (hw : Region.wanted o (yielded ops a.tmps) = true) (he : (execOp a.eval o).run P w = .ok (.value v) w') (hS : S w') (h : wpAnyH P md ops Q S fuel (listed.setIfInBounds i true) (a.put (some d) v) w') :
    wpOp P ops Q i (fun a' w' => S w' ∧ wpAnyH P md ops Q S fuel (listed.setIfInBounds i true) a' w') a w := by
  unfold wpOp
  simp only [ho, hw, if_true]
  refine .inl ?_
  unfold Oper.wp
  rw [he, Oper.upon_value, hd]
  exact ⟨hS, h⟩
theorem opCalled (ho : ops[i]? = some o) (hd : o.dst = some d) (hw : Region.wanted o (yielded ops a.tmps) = true) (he : (execOp a.eval o).run P w = .ok (.enter f args) w) (hc : Calls P f args w fun e w' => e = .returned v ∧ S w') (h : ∀ w', S w' → wpAnyH P md ops Q S fuel (listed.setIfInBounds i true) (a.put (some d) v) w') :
    wpOp P ops Q i (fun a' w' => S w' ∧ wpAnyH P md ops Q S fuel (listed.setIfInBounds i true) a' w') a w := by
  unfold wpOp
  simp only [ho, hw, if_true]
  refine .inl ?_
  unfold Oper.wp
  rw [he, Oper.upon_enter, hd]
  exact hc.mono (by rintro e w' ⟨rfl, hS⟩; exact ⟨hS, h w' hS⟩)
theorem opDied {c : List PanicEntry} (ho : ops[i]? = some o) (hw : Region.wanted o (yielded ops a.tmps) = true) (he : (execOp a.eval o).run P w = .ok (.enter f args) w) (hc : Calls P f args w fun e w' => e = .panicked c ∧ S w') (h : ∀ w', S w' → Q (.panic c) a w') :
    wpOp P ops Q i (fun a' w' => S w' ∧ wpAnyH P md ops Q S fuel (listed.setIfInBounds i true) a' w') a w := by
  unfold wpOp
  simp only [ho, hw, if_true]
  refine .inl ?_
  unfold Oper.wp
  rw [he, Oper.upon_enter]
  exact hc.mono (by rintro e w' ⟨rfl, hS⟩; exact h w' hS)
end
/-- the world of the searches -/
structure StF (w : World) (p : Proc) (A1 : Option Addr) (c1 : Nat) (l : List Site) (W : World) : Prop where
  kp : Held w w.heap.size [.int .i64 p.ki, .int .i64 p.fr, .int .i64 p.to_, .int .i64 p.st, .int .i64 p.ep, .int .i64 p.cy, .bool p.dn, .bool p.fa] 26 W
  kq : Held w (w.heap.size + 1) [.int .i64 0, .int .i64 0, .int .i64 0, .int .i64 0, .int .i64 0, .int .i64 0, .bool false, .bool false] 26 W
  km : Held w (w.heap.size + 1 + 1) [.slice A1 l.length c1] 22 W
  ke : Held w (w.heap.size + 1 + 1 + 1) [.int .i64 0] 27 W
  hs : SitesAt 5864062014634 W A1 c1 l
theorem StF.step {w W W' : World} {p : Proc} {A1 : Option Addr} {c1 : Nat} {l : List Site} (h : StF w p A1 c1 l W) (hB : Below W.heap.size W W') : StF w p A1 c1 l W' := ⟨h.kp.step hB, h.kq.step hB, h.km.step hB, h.ke.step hB, h.hs.below hB⟩
theorem StF.c1 {w W : World} {p : Proc} {A1 : Option Addr} {c1 : Nat} {l : List Site} (h : StF w p A1 c1 l W) : W.cell? ⟨w.heap.size, 1, none⟩ = some (.int .i64 p.fr) := h.kp.cell 1 _ rfl
theorem StF.c2 {w W : World} {p : Proc} {A1 : Option Addr} {c1 : Nat} {l : List Site} (h : StF w p A1 c1 l W) : W.cell? ⟨w.heap.size, 2, none⟩ = some (.int .i64 p.to_) := h.kp.cell 2 _ rfl
theorem StF.cm {w W : World} {p : Proc} {A1 : Option Addr} {c1 : Nat} {l : List Site} (h : StF w p A1 c1 l W) : W.cell? ⟨w.heap.size + 1 + 1, 0, none⟩ = some (.slice A1 l.length c1) := h.km.cell 0 _ rfl
set_option maxHeartbeats 2000000 in
theorem sw_Step_no3 (w : World) (p : Proc) (A : Option Addr) (c B : Nat) (l : List Site) (ok : Bool) (v : Int) (hc : checkP p = 0) (he : (checkAllS l).2 = 0) (hf : findS l p.fr = -1 ∨ findS l p.to_ = -1) (hB : ∀ x, x ∈ l → x.li.length ≤ B) (h : SitesAt B w A c l) :
    Calls Try.prog 19 #[.agg #[.int .i64 p.ki, .int .i64 p.fr, .int .i64 p.to_, .int .i64 p.st, .int .i64 p.ep, .int .i64 p.cy, .bool p.dn, .bool p.fa], .slice A l.length c, .bool ok, .int .i64 v] w (StepRes w (zP, [], 7)) := by
  have hmf : ∀ (fn : Fn) (first cap : Array Value) (w : World), (Instr.makeFunc fn first cap).run Try.prog w = .ok (.func fn first cap) w := fun _ _ _ _ => rfl
  have HCK := fun w => sw_Check w p
  rw [hc] at HCK
  have S0 := Keep.mk (step_start w p)
  have HC := Keep.mk h
  have HE := Keep.mk he
  have HB0 := Keep.mk hB
  have hl4 := checkAll_len he
  have HF : ((findS l p.fr = -1 ∧ findS l p.to_ = -1) ∨ (∃ i : Nat, findS l p.fr = -1 ∧ findS l p.to_ = i ∧ i < l.length) ∨ (∃ i : Nat, findS l p.fr = i ∧ i < l.length ∧ findS l p.to_ = -1)) := by
    rcases find_ways l p.fr with h1 | ⟨i, h1, h1', -⟩ <;> rcases find_ways l p.to_ with h2 | ⟨k, h2, h2', -⟩
    · exact .inl ⟨h1, h2⟩
    · exact .inr (.inl ⟨k, h1, h2, h2'⟩)
    · exact .inr (.inr ⟨i, h1, h1', h2⟩)
    · exfalso; rcases hf with hf | hf
      · rw [h1] at hf; omega
      · rw [h2] at hf; omega
  clear hc h he hB hf
  go_enter_defers Try.func19, Try.ntmps19
  go_upto_region 4 with (first
    | (go_at_call 17; (with_reducible refine (HCK _).mono ?_); rintro en w1 ⟨rfl, hB⟩; have S1 := Keep.mk (And.intro (S0.out.1.step hB) (And.intro (S0.out.2.1.step hB) (And.intro (S0.out.2.2.1.step hB) (And.intro (S0.out.2.2.2.step hB) hB)))); clear hB)
    | (go_at_call 40; (with_reducible refine (sw_ok_ok _).mono ?_); rintro en w' ⟨rfl, hw⟩; subst w')
    | (go_at_call 32; (with_reducible refine (sw_checked_at w _ S1.out.1.bel A c B l HE.out hl4 HB0.out HC.out).mono ?_); rintro en w2 ⟨A1, c1, m, rfl, hm, hO, hO2, hB⟩; have SS := row_start (Nat.le_trans (w4_size w p) S1.out.2.2.2.2.size) (S1.out.1.step hB) (And.intro (S1.out.2.1.step hB) (And.intro (S1.out.2.2.1.step hB) (S1.out.2.2.2.1.step hB))) hO hO2 l.length (by rw [← hm, List.length_map]); have HM := Keep.mk hm; have m0 := S1.out.2.2.1.step hB; have m8 := m0.frozen 0; have m1 := m0.cell 0 _ rfl; clear m0; have SS := Keep.mk SS; clear hB hO hO2 hm))
  generalize w2.setCell ⟨w.heap.size + 1 + 1, 0, none⟩ (.slice A1 l.length c1) = w3 at SS ⊢
  clear m8 m1
  have hml : l.length = m.length := by rw [← HM.out, List.length_map]
  have HF0 := Keep.mk (show StF w p A1 c1 l w3 from ⟨SS.out.1, SS.out.2.1, hml ▸ SS.out.2.2.1, SS.out.2.2.2.1, HM.out ▸ SS.out.2.2.2.2.1.reads (e0b SS.out.1.bel) 5864062014634⟩)
  clear hml
  refine wp_region_pan (StF w p A1 c1 l) (Inv3 [{ target := Target.fn (Fn.func 39) #[.pointer (some ⟨w.heap.size + 1, 0, none⟩), .pointer (some ⟨w.heap.size + 1 + 1, 0, none⟩), .pointer (some ⟨w.heap.size + 1 + 1 + 1, 0, none⟩)], args := #[] }] 8 9 10 (.pointer (some ⟨w.heap.size + 1, 0, none⟩)) (.pointer (some ⟨w.heap.size + 1 + 1, 0, none⟩)) (.pointer (some ⟨w.heap.size + 1 + 1 + 1, 0, none⟩))) [{ v := .iface 92 (.int .i64 7), recovered := false }] (by kernel_rfl) ?_ (HF0.out.step (below_drew (Below.refl _ _))) (fun hHeld => ?_)
  · rintro ⟨tmps, ds⟩ W ⟨h1, h8, h9, h10⟩ hS
    simp only at h1 h8 h9 h10
    subst h1
    exact step_door w W tmps h8 h9 h10 hS.kq hS.km hS.ke 7
  refine takeD (i := 0) (v := .slice A1 l.length c1) rfl rfl (by kernel_rfl) (by kernel_rfl) (by kernel_rfl) (fun c a w h => ⟨inv3_put (by decide) (by decide) (by decide) h.1, h.2⟩) (by rfl) ?_ hHeld ?_
  · intro W hSw
    have t1 := hSw.c1
    have t2 := hSw.c2
    have t3 := hSw.cm
    go_simp
  simp only [Act.put, List.setIfInBounds_toArray, List.set_cons_zero, List.set_cons_succ]
  refine takeD (i := 1) (v := .pointer (some ⟨w.heap.size, 1, none⟩)) rfl rfl (by kernel_rfl) (by kernel_rfl) (by kernel_rfl) (fun c a w h => ⟨inv3_put (by decide) (by decide) (by decide) h.1, h.2⟩) (by rfl) ?_ hHeld ?_
  · intro W hSw
    have t1 := hSw.c1
    have t2 := hSw.c2
    have t3 := hSw.cm
    go_simp
  simp only [Act.put, List.setIfInBounds_toArray, List.set_cons_zero, List.set_cons_succ]
  refine takeD (i := 2) (v := .int .i64 p.fr) rfl rfl (by kernel_rfl) (by kernel_rfl) (by kernel_rfl) (fun c a w h => ⟨inv3_put (by decide) (by decide) (by decide) h.1, h.2⟩) (by rfl) ?_ hHeld ?_
  · intro W hSw
    have t1 := hSw.c1
    have t2 := hSw.c2
    have t3 := hSw.cm
    go_simp
  simp only [Act.put, List.setIfInBounds_toArray, List.set_cons_zero, List.set_cons_succ]
  refine takeD (i := 4) (v := .slice A1 l.length c1) rfl rfl (by kernel_rfl) (by kernel_rfl) (by kernel_rfl) (fun c a w h => ⟨inv3_put (by decide) (by decide) (by decide) h.1, h.2⟩) (by rfl) ?_ hHeld ?_
  · intro W hSw
    have t1 := hSw.c1
    have t2 := hSw.c2
    have t3 := hSw.cm
    go_simp
  simp only [Act.put, List.setIfInBounds_toArray, List.set_cons_zero, List.set_cons_succ]
  refine takeD (i := 5) (v := .pointer (some ⟨w.heap.size, 2, none⟩)) rfl rfl (by kernel_rfl) (by kernel_rfl) (by kernel_rfl) (fun c a w h => ⟨inv3_put (by decide) (by decide) (by decide) h.1, h.2⟩) (by rfl) ?_ hHeld ?_
  · intro W hSw
    have t1 := hSw.c1
    have t2 := hSw.c2
    have t3 := hSw.cm
    go_simp
  simp only [Act.put, List.setIfInBounds_toArray, List.set_cons_zero, List.set_cons_succ]
  refine takeD (i := 6) (v := .int .i64 p.to_) rfl rfl (by kernel_rfl) (by kernel_rfl) (by kernel_rfl) (fun c a w h => ⟨inv3_put (by decide) (by decide) (by decide) h.1, h.2⟩) (by rfl) ?_ hHeld ?_
  · intro W hSw
    have t1 := hSw.c1
    have t2 := hSw.c2
    have t3 := hSw.cm
    go_simp
  simp only [Act.put, List.setIfInBounds_toArray, List.set_cons_zero, List.set_cons_succ]
  refine takeD (i := 8) (v := .int .i64 v) rfl rfl (by kernel_rfl) (by kernel_rfl) (by kernel_rfl) (fun c a w h => ⟨inv3_put (by decide) (by decide) (by decide) h.1, h.2⟩) (by rfl) ?_ hHeld ?_
  · intro W hSw
    have t1 := hSw.c1
    have t2 := hSw.c2
    have t3 := hSw.cm
    go_simp
  simp only [Act.put, List.setIfInBounds_toArray, List.set_cons_zero, List.set_cons_succ]
  rcases HF with ⟨h1, -⟩ | ⟨i, h1, -, -⟩ | ⟨i, h1, hil, h2⟩
  · refine wpAnyH_all (rs := [3, 10]) (by kernel_rfl) (by simp) ?_
    intro j hj
    simp only [List.mem_cons, List.not_mem_nil, or_false] at hj
    rcases hj with rfl | rfl
    · refine opDied (c := [{ v := .iface 92 (.int .i64 7), recovered := false }]) (f := 33) (args := #[.slice A1 l.length c1, .int .i64 p.fr]) rfl (by rfl) ?_ (Calls.mono (sw_find_no _ A1 c1 l.length _ l p.fr rfl hHeld.hs h1) (R' := fun e w' => e = .panicked [{ v := .iface 92 (.int .i64 7), recovered := false }] ∧ StF w p A1 c1 l w') ?_) ?_
      · go_simp
      · rintro e w' ⟨rfl, hB⟩; exact ⟨rfl, hHeld.step hB⟩
      · intro w' hS; exact ⟨⟨rfl, rfl, rfl, rfl⟩, rfl, hS⟩
    · refine opRan (v := .pointer (some ⟨w3.drew.heap.size, 0, none⟩)) (w' := w3.drew.alloc (.cells #[.pointer none, .pointer none, .pointer none, .int .i64 0] 79)) rfl rfl (by rfl) ?_ (hHeld.step (below_new (Below.refl _ _) _)) ?_
      · go_simp
      have hHeld := hHeld.step (below_new (Below.refl _ _) (.cells #[.pointer none, .pointer none, .pointer none, .int .i64 0] 79))
      simp only [Act.put, List.setIfInBounds_toArray, List.set_cons_zero, List.set_cons_succ]
      refine wpAnyH_all (rs := [3]) (by kernel_rfl) (by simp) ?_
      intro j hj
      simp only [List.mem_cons, List.not_mem_nil, or_false] at hj
      subst hj
      · refine opDied (c := [{ v := .iface 92 (.int .i64 7), recovered := false }]) (f := 33) (args := #[.slice A1 l.length c1, .int .i64 p.fr]) rfl (by rfl) ?_ (Calls.mono (sw_find_no _ A1 c1 l.length _ l p.fr rfl hHeld.hs h1) (R' := fun e w' => e = .panicked [{ v := .iface 92 (.int .i64 7), recovered := false }] ∧ StF w p A1 c1 l w') ?_) ?_
        · go_simp
        · rintro e w' ⟨rfl, hB⟩; exact ⟨rfl, hHeld.step hB⟩
        · intro w' hS; exact ⟨⟨rfl, rfl, rfl, rfl⟩, rfl, hS⟩
  · refine wpAnyH_all (rs := [3, 10]) (by kernel_rfl) (by simp) ?_
    intro j hj
    simp only [List.mem_cons, List.not_mem_nil, or_false] at hj
    rcases hj with rfl | rfl
    · refine opDied (c := [{ v := .iface 92 (.int .i64 7), recovered := false }]) (f := 33) (args := #[.slice A1 l.length c1, .int .i64 p.fr]) rfl (by rfl) ?_ (Calls.mono (sw_find_no _ A1 c1 l.length _ l p.fr rfl hHeld.hs h1) (R' := fun e w' => e = .panicked [{ v := .iface 92 (.int .i64 7), recovered := false }] ∧ StF w p A1 c1 l w') ?_) ?_
      · go_simp
      · rintro e w' ⟨rfl, hB⟩; exact ⟨rfl, hHeld.step hB⟩
      · intro w' hS; exact ⟨⟨rfl, rfl, rfl, rfl⟩, rfl, hS⟩
    · refine opRan (v := .pointer (some ⟨w3.drew.heap.size, 0, none⟩)) (w' := w3.drew.alloc (.cells #[.pointer none, .pointer none, .pointer none, .int .i64 0] 79)) rfl rfl (by rfl) ?_ (hHeld.step (below_new (Below.refl _ _) _)) ?_
      · go_simp
      have hHeld := hHeld.step (below_new (Below.refl _ _) (.cells #[.pointer none, .pointer none, .pointer none, .int .i64 0] 79))
      simp only [Act.put, List.setIfInBounds_toArray, List.set_cons_zero, List.set_cons_succ]
      refine wpAnyH_all (rs := [3]) (by kernel_rfl) (by simp) ?_
      intro j hj
      simp only [List.mem_cons, List.not_mem_nil, or_false] at hj
      subst hj
      · refine opDied (c := [{ v := .iface 92 (.int .i64 7), recovered := false }]) (f := 33) (args := #[.slice A1 l.length c1, .int .i64 p.fr]) rfl (by rfl) ?_ (Calls.mono (sw_find_no _ A1 c1 l.length _ l p.fr rfl hHeld.hs h1) (R' := fun e w' => e = .panicked [{ v := .iface 92 (.int .i64 7), recovered := false }] ∧ StF w p A1 c1 l w') ?_) ?_
        · go_simp
        · rintro e w' ⟨rfl, hB⟩; exact ⟨rfl, hHeld.step hB⟩
        · intro w' hS; exact ⟨⟨rfl, rfl, rfl, rfl⟩, rfl, hS⟩
  · obtain ⟨b, o, _, _, hA, -, -⟩ := hHeld.hs.at_ i hil
    have hA0 : A1 = some ⟨b, 0, none⟩ := by
      obtain ⟨b', e, -⟩ := SS.out.2.2.2.2.1.own.form (by rw [← HM.out, List.length_map] at hil; omega)
      rw [e] at hA
      injection hA with hA
      injection hA with e1 e2
      rw [e, e1]
    clear hA
    subst hA0
    refine wpAnyH_all (rs := [3, 10]) (by kernel_rfl) (by simp) ?_
    intro j hj
    simp only [List.mem_cons, List.not_mem_nil, or_false] at hj
    rcases hj with rfl | rfl
    · refine opCalled (v := .pointer (some ⟨b, i * 8, none⟩)) (f := 33) (args := #[.slice (some ⟨b, 0, none⟩) l.length c1, .int .i64 p.fr]) rfl rfl (by rfl) ?_ (Calls.mono (sw_find_at _ b c1 l.length _ l p.fr i rfl hHeld.hs h1 hil) (R' := fun e w' => e = .returned (.pointer (some ⟨b, i * 8, none⟩)) ∧ StF w p (some ⟨b, 0, none⟩) c1 l w') ?_) ?_
      · go_simp
      · rintro e w' ⟨rfl, hB⟩; exact ⟨rfl, hHeld.step hB⟩
      clear hHeld
      intro w5 hHeld
      simp only [Act.put, List.setIfInBounds_toArray, List.set_cons_zero, List.set_cons_succ]
      refine wpAnyH_all (rs := [7, 10]) (by kernel_rfl) (by simp) ?_
      intro j hj
      simp only [List.mem_cons, List.not_mem_nil, or_false] at hj
      rcases hj with rfl | rfl
      · refine opDied (c := [{ v := .iface 92 (.int .i64 7), recovered := false }]) (f := 33) (args := #[.slice (some ⟨b, 0, none⟩) l.length c1, .int .i64 p.to_]) rfl (by rfl) ?_ (Calls.mono (sw_find_no _ (some ⟨b, 0, none⟩) c1 l.length _ l p.to_ rfl hHeld.hs h2) (R' := fun e w' => e = .panicked [{ v := .iface 92 (.int .i64 7), recovered := false }] ∧ StF w p (some ⟨b, 0, none⟩) c1 l w') ?_) ?_
        · go_simp
        · rintro e w' ⟨rfl, hB⟩; exact ⟨rfl, hHeld.step hB⟩
        · intro w' hS; exact ⟨⟨rfl, rfl, rfl, rfl⟩, rfl, hS⟩
      · refine opRan (v := .pointer (some ⟨w5.heap.size, 0, none⟩)) (w' := w5.alloc (.cells #[.pointer none, .pointer none, .pointer none, .int .i64 0] 79)) rfl rfl (by rfl) ?_ (hHeld.step (below_new (Below.refl _ _) _)) ?_
        · go_simp
        have hHeld := hHeld.step (below_new (Below.refl _ _) (.cells #[.pointer none, .pointer none, .pointer none, .int .i64 0] 79))
        simp only [Act.put, List.setIfInBounds_toArray, List.set_cons_zero, List.set_cons_succ]
        refine wpAnyH_all (rs := [7]) (by kernel_rfl) (by simp) ?_
        intro j hj
        simp only [List.mem_cons, List.not_mem_nil, or_false] at hj
        subst hj
        · refine opDied (c := [{ v := .iface 92 (.int .i64 7), recovered := false }]) (f := 33) (args := #[.slice (some ⟨b, 0, none⟩) l.length c1, .int .i64 p.to_]) rfl (by rfl) ?_ (Calls.mono (sw_find_no _ (some ⟨b, 0, none⟩) c1 l.length _ l p.to_ rfl hHeld.hs h2) (R' := fun e w' => e = .panicked [{ v := .iface 92 (.int .i64 7), recovered := false }] ∧ StF w p (some ⟨b, 0, none⟩) c1 l w') ?_) ?_
          · go_simp
          · rintro e w' ⟨rfl, hB⟩; exact ⟨rfl, hHeld.step hB⟩
          · intro w' hS; exact ⟨⟨rfl, rfl, rfl, rfl⟩, rfl, hS⟩
    · refine opRan (v := .pointer (some ⟨w3.drew.heap.size, 0, none⟩)) (w' := w3.drew.alloc (.cells #[.pointer none, .pointer none, .pointer none, .int .i64 0] 79)) rfl rfl (by rfl) ?_ (hHeld.step (below_new (Below.refl _ _) _)) ?_
      · go_simp
      have hHeld := hHeld.step (below_new (Below.refl _ _) (.cells #[.pointer none, .pointer none, .pointer none, .int .i64 0] 79))
      simp only [Act.put, List.setIfInBounds_toArray, List.set_cons_zero, List.set_cons_succ]
      refine wpAnyH_all (rs := [3]) (by kernel_rfl) (by simp) ?_
      intro j hj
      simp only [List.mem_cons, List.not_mem_nil, or_false] at hj
      subst hj
      refine opCalled (v := .pointer (some ⟨b, i * 8, none⟩)) (f := 33) (args := #[.slice (some ⟨b, 0, none⟩) l.length c1, .int .i64 p.fr]) rfl rfl (by rfl) ?_ (Calls.mono (sw_find_at _ b c1 l.length _ l p.fr i rfl hHeld.hs h1 hil) (R' := fun e w' => e = .returned (.pointer (some ⟨b, i * 8, none⟩)) ∧ StF w p (some ⟨b, 0, none⟩) c1 l w') ?_) ?_
      · go_simp
      · rintro e w' ⟨rfl, hB⟩; exact ⟨rfl, hHeld.step hB⟩
      clear hHeld
      intro w5 hHeld
      simp only [Act.put, List.setIfInBounds_toArray, List.set_cons_zero, List.set_cons_succ]
      refine wpAnyH_all (rs := [7]) (by kernel_rfl) (by simp) ?_
      intro j hj
      simp only [List.mem_cons, List.not_mem_nil, or_false] at hj
      subst hj
      · refine opDied (c := [{ v := .iface 92 (.int .i64 7), recovered := false }]) (f := 33) (args := #[.slice (some ⟨b, 0, none⟩) l.length c1, .int .i64 p.to_]) rfl (by rfl) ?_ (Calls.mono (sw_find_no _ (some ⟨b, 0, none⟩) c1 l.length _ l p.to_ rfl hHeld.hs h2) (R' := fun e w' => e = .panicked [{ v := .iface 92 (.int .i64 7), recovered := false }] ∧ StF w p (some ⟨b, 0, none⟩) c1 l w') ?_) ?_
        · go_simp
        · rintro e w' ⟨rfl, hB⟩; exact ⟨rfl, hHeld.step hB⟩
        · intro w' hS; exact ⟨⟨rfl, rfl, rfl, rfl⟩, rfl, hS⟩
end Go.Proofs.Ytijhkgabonkmfaa
