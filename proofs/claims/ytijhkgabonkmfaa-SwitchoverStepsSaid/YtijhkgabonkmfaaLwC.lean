/- The walks of SwitchoverBegins, SwitchoverNeeds, SwitchoverSteps, SwitchoverAborts: they return true at every input, and what was there is as it was. -/
import Derived.Test.YtijhkgabonkmfaaLwB
import Derived.Test.YtijhkgabonkmfaaRwD
namespace Go.Proofs.Ytijhkgabonkmfaa
open Go.RowKit
set_option linter.unusedSimpArgs false
set_option linter.unusedVariables false
set_option maxRecDepth 100000
def procEq (x y : Proc) : Bool := x.ki == y.ki && (x.fr == y.fr && (x.to_ == y.to_ && (x.st == y.st && (x.ep == y.ep && (x.cy == y.cy && (x.dn == y.dn && (x.fa == y.fa && true)))))))
theorem procEq_self (x : Proc) : procEq x x = true := by simp [procEq]
theorem eqIn_proc (d : Nat) (w : World) (x y : Proc) : (Op.equalIn (d + 2) 26 (.agg #[.int .i64 x.ki, .int .i64 x.fr, .int .i64 x.to_, .int .i64 x.st, .int .i64 x.ep, .int .i64 x.cy, .bool x.dn, .bool x.fa]) (.agg #[.int .i64 y.ki, .int .i64 y.fr, .int .i64 y.to_, .int .i64 y.st, .int .i64 y.ep, .int .i64 y.cy, .bool y.dn, .bool y.fa])).run Try.prog w = .ok (procEq x y) w := by
  refine eqIn_of Try.underlying26 (by kernel_rfl) ?_
  refine eqf_cons (by rfl) (by go_simp; rfl) (by go_simp; rfl) (by go_simp) ?_
  refine eqf_cons (by rfl) (by go_simp; rfl) (by go_simp; rfl) (by go_simp) ?_
  refine eqf_cons (by rfl) (by go_simp; rfl) (by go_simp; rfl) (by go_simp) ?_
  refine eqf_cons (by rfl) (by go_simp; rfl) (by go_simp; rfl) (by go_simp) ?_
  refine eqf_cons (by rfl) (by go_simp; rfl) (by go_simp; rfl) (by go_simp) ?_
  refine eqf_cons (by rfl) (by go_simp; rfl) (by go_simp; rfl) (by go_simp) ?_
  refine eqf_cons (by rfl) (by go_simp; rfl) (by go_simp; rfl) (by go_simp) ?_
  refine eqf_cons (by rfl) (by go_simp; rfl) (by go_simp; rfl) (by go_simp) eqf_nil
theorem eql_proc (w : World) (x : Proc) : (binOp .eql 26 (.agg #[.int .i64 x.ki, .int .i64 x.fr, .int .i64 x.to_, .int .i64 x.st, .int .i64 x.ep, .int .i64 x.cy, .bool x.dn, .bool x.fa]) (.agg #[.int .i64 x.ki, .int .i64 x.fr, .int .i64 x.to_, .int .i64 x.st, .int .i64 x.ep, .int .i64 x.cy, .bool x.dn, .bool x.fa])).run Try.prog w = .ok (.bool true) w := by
  have h := eqIn_proc 9998 w x x
  rw [procEq_self] at h
  simp only [binOp]
  simp [Op.equal, Op.maxDepth, h]
theorem SitesAt.widen {B B' : Nat} {w : World} {A : Option Addr} {c : Nat} {l : List Site} (h : SitesAt B w A c l) (hB : ∀ x, x ∈ l → x.li.length ≤ B) : SitesAt B' w A c l := by
  refine ⟨h.1, h.2.1, fun hp => ?_⟩
  obtain ⟨b, o, e, hs⟩ := h.2.2 hp
  refine ⟨b, o, e, fun i hi => ?_⟩
  obtain ⟨A', c', x0, x1, x2, x3, x4, x5, x6, x7, x8⟩ := hs i hi
  exact ⟨A', c', x0, x1, x2, x3, x4, x5, x6, x7, fun _ => x8 (hB _ (by rw [List.getD_eq_getElem?_getD, List.getElem?_eq_getElem hi]; exact List.getElem_mem hi))⟩
theorem few_yes {l : List Site} (h : (smallS (l.take 10) && decide ((l.length : Int) ≤ 10)) = true) : l.length ≤ 10 ∧ ∀ x, x ∈ l → x.li.length ≤ 20 := by
  simp only [Bool.and_eq_true, decide_eq_true_eq] at h
  have h2 : l.length ≤ 10 := by omega
  have h1 := h.1
  rw [List.take_of_length_le h2] at h1
  refine ⟨h2, fun x hx => ?_⟩
  have := List.all_eq_true.1 h1 x hx
  simpa using this
def AwRes (w : World) (e : Ending) (w' : World) : Prop := e = .returned (.bool true) ∧ Below w.heap.size w w'
def PC (w : World) (p : Proc) (W : World) : Prop := Held w w.heap.size [.int .i64 p.ki, .int .i64 p.fr, .int .i64 p.to_, .int .i64 p.st, .int .i64 p.ep, .int .i64 p.cy, .bool p.dn, .bool p.fa] 26 W
theorem pc_awake {w : World} {p : Proc} (W : World) (h : PC w p W) : Calls Try.prog 12 #[] W fun e w' => e = .returned (.bool true) ∧ PC w p w' := (law_awake W).mono fun _ _ x => ⟨x.1, Held.step h x.2⟩
theorem pc_check {w : World} {p : Proc} {ck : Int} (hc : checkP p = ck) (W : World) (h : PC w p W) : Calls Try.prog 17 #[.agg #[.int .i64 p.ki, .int .i64 p.fr, .int .i64 p.to_, .int .i64 p.st, .int .i64 p.ep, .int .i64 p.cy, .bool p.dn, .bool p.fa]] W fun e w' => e = .returned (.int .i64 ck) ∧ PC w p w' := (sw_Check W p).mono fun _ _ x => ⟨hc ▸ x.1, Held.step h x.2⟩
theorem pc_rcheck {w : World} {p : Proc} {ck : Int} (hc : checkP p = ck) (W : World) (h : PC w p W) : Calls Try.prog 18 #[.agg #[.int .i64 p.ki, .int .i64 p.fr, .int .i64 p.to_, .int .i64 p.st, .int .i64 p.ep, .int .i64 p.cy, .bool p.dn, .bool p.fa]] W fun e w' => e = .returned (.int .i64 ck) ∧ PC w p w' := (ref52_Check W p).mono fun _ _ x => ⟨hc ▸ x.1, Held.step h x.2⟩
theorem take_ten {l : List Site} : (l.take 10).length = min l.length 10 := by rw [List.length_take]; omega
set_option maxHeartbeats 2000000 in
theorem law_SwitchoverNeeds (w : World) (p : Proc) : Calls Try.prog 4 #[.agg #[.int .i64 p.ki, .int .i64 p.fr, .int .i64 p.to_, .int .i64 p.st, .int .i64 p.ep, .int .i64 p.cy, .bool p.dn, .bool p.fa]] w (AwRes w) := by
  have hN := fun w => sw_Need w p
  have hR := fun w => ref52_Need w p
  obtain ⟨nb, hnb⟩ : ∃ x, (needP p).1 = x := ⟨_, rfl⟩
  obtain ⟨ni, hni⟩ : ∃ x, (needP p).2 = x := ⟨_, rfl⟩
  obtain ⟨ck, hck⟩ : ∃ x, checkP p = x := ⟨_, rfl⟩
  rw [hnb, hni] at hN hR
  have HCK := Keep.mk hck
  clear hnb hni hck
  have KP0 := Keep.mk (Held.new (Below.refl w.heap.size w) [.int .i64 p.ki, .int .i64 p.fr, .int .i64 p.to_, .int .i64 p.st, .int .i64 p.ep, .int .i64 p.cy, .bool p.dn, .bool p.fa] 26)
  go_enter Try.func4, Try.ntmps4
  go_wp2_with (first
    | (go_at_call 15; (with_reducible refine (hN _).mono ?_); rintro e w1 ⟨rfl, hB⟩; have KP1 := Keep.mk (KP0.out.step hB); obtain ⟨⟨p0, p1, p2, p3, p4, p5, p6, p7⟩, p8⟩ := KP1.out.c8; clear hB)
    | (go_at_call 16; (with_reducible refine (hR _).mono ?_); rintro e w2 ⟨rfl, hB⟩; have KP2 := Keep.mk (KP1.out.step hB); clear hB p0 p1 p2 p3 p4 p5 p6 p7 p8))
  refine wp_region_class (PC w p) (by kernel_rfl) (by kernel_rfl) (Held.drew KP2.out) ?_
  repeat (first
    | (refine wq_skip (by rfl) ?_; simp only [Act.put, List.setIfInBounds_toArray, List.set_cons_succ, List.set_cons_zero])
    | (refine wq_ran (by rfl) ?_; apply Exists.intro; refine ⟨fun W hW => ?_, ?_⟩; ((((try (have e1 := hW; unfold PC at e1; obtain ⟨⟨p0, p1, p2, p3, p4, p5, p6, p7⟩, p8⟩ := e1.c8))); go_simp; rfl)); simp only [Act.put, List.setIfInBounds_toArray, List.set_cons_succ, List.set_cons_zero])
    | (refine wq_called (by rfl) ?_; apply Exists.intro; apply Exists.intro; apply Exists.intro; refine ⟨fun W hW => ?_, fun W hW => ?_, ?_⟩; ((go_simp; first | rfl | exact ⟨rfl, rfl⟩)); (first | with_reducible exact pc_awake W hW | with_reducible exact pc_check HCK.out W hW | with_reducible exact pc_rcheck HCK.out W hW); simp only [Act.put, List.setIfInBounds_toArray, List.set_cons_succ, List.set_cons_zero]))
  refine wpQuiet_nil ?_
  intro W hW
  go_wp2
  go_ret
  exact ⟨rfl, Held.bel hW⟩
set_option maxHeartbeats 2000000 in
theorem law_SwitchoverBegins (w : World) (A : Option Addr) (c : Nat) (l : List Site) (fr to_ : Int) (h : (l.length ≤ 1000000 → SitesAt 20 w A c l) ∧ SitesAt 20 w A c (l.take 10)) :
    Calls Try.prog 3 #[.slice A l.length c, .int .i64 fr, .int .i64 to_] w (AwRes w) := by
  have HE := eql_proc
  have HT := Keep.mk h.2
  cases hf : (smallS (l.take 10) && decide ((l.length : Int) ≤ 10))
  · have HF := Keep.mk hf
    clear h hf
    go_enter Try.func3, Try.ntmps3
    go_wp2_with (first
      | (go_at_call 11; (with_reducible refine (ref52_Few _ A c l.length 20 (l.take 10) take_ten HT.out).mono ?_); rw [HF.out]; rintro e w1 ⟨rfl, hB⟩; have HB1 := Keep.mk hB; clear hB)
      | (go_at_call 12; (with_reducible refine (law_awake _).mono ?_); rintro e w2 ⟨rfl, hB⟩; have HB2 := Keep.mk (below_then HB1.out hB); clear hB))
    go_ret
    exact ⟨rfl, HB2.out⟩
  · obtain ⟨h10, hB⟩ := few_yes hf
    have HF := Keep.mk hf
    have HC := Keep.mk (h.1 (by omega))
    have HB0 := Keep.mk hB
    clear h hf h10 hB
    obtain ⟨r, hr⟩ : ∃ x, beginS l fr to_ = x := ⟨_, rfl⟩
    obtain ⟨q, e⟩ := r
    have HR := Keep.mk hr
    clear hr
    go_enter Try.func3, Try.ntmps3
    go_wp2_with (first
      | (go_at_call 11; (with_reducible refine (ref52_Few _ A c l.length 20 (l.take 10) take_ten HT.out).mono ?_); rw [HF.out]; rintro e w1 ⟨rfl, hB⟩; have HB1 := Keep.mk hB; clear hB)
      | (go_at_call 13; (with_reducible refine (sw_Begin _ A c 20 l fr to_ HB0.out (HC.out.below HB1.out)).mono ?_); rw [HR.out]; rintro en w2 ⟨rfl, hB⟩; have HB2 := Keep.mk (below_then HB1.out hB); have KA := Keep.mk (Held.new HB2.out [.int .i64 q.ki, .int .i64 q.fr, .int .i64 q.to_, .int .i64 q.st, .int .i64 q.ep, .int .i64 q.cy, .bool q.dn, .bool q.fa] 26); clear hB)
      | (go_at_call 14; (with_reducible refine (ref52_Begin _ A c 20 l fr to_ HB0.out (HC.out.below KA.out.bel)).mono ?_); rw [HR.out]; rintro en w3 ⟨rfl, hB⟩; have KB := Keep.mk ((KA.out.step hB).alloc (.cells #[.int .i64 q.ki, .int .i64 q.fr, .int .i64 q.to_, .int .i64 q.st, .int .i64 q.ep, .int .i64 q.cy, .bool q.dn, .bool q.fa] 26)); have KC := Keep.mk (Held.new (KA.out.step hB).bel [.int .i64 q.ki, .int .i64 q.fr, .int .i64 q.to_, .int .i64 q.st, .int .i64 q.ep, .int .i64 q.cy, .bool q.dn, .bool q.fa] 26); clear hB)
      | (go_at_call 12; (with_reducible refine (law_awake _).mono ?_); rintro en w4 ⟨rfl, hB⟩; have KD := KB.out.step hB; have KE := KC.out.step hB; obtain ⟨⟨p0, p1, p2, p3, p4, p5, p6, p7⟩, p8⟩ := KD.c8; obtain ⟨⟨q0, q1, q2, q3, q4, q5, q6, q7⟩, q8⟩ := KE.c8; have HBD := Keep.mk KD.bel; clear hB KD KE))
    go_ret
    exact ⟨rfl, HBD.out⟩
set_option maxHeartbeats 2000000 in
theorem law_SwitchoverSteps (w : World) (p : Proc) (A : Option Addr) (c : Nat) (l : List Site) (ok : Bool) (v : Int) (h : (l.length ≤ 1000000 → SitesAt 20 w A c l) ∧ SitesAt 20 w A c (l.take 10)) :
    Calls Try.prog 5 #[.agg #[.int .i64 p.ki, .int .i64 p.fr, .int .i64 p.to_, .int .i64 p.st, .int .i64 p.ep, .int .i64 p.cy, .bool p.dn, .bool p.fa], .slice A l.length c, .agg #[.bool ok, .int .i64 v]] w (AwRes w) := by
  have HE := eql_proc
  have HT := Keep.mk h.2
  have K0 := Keep.mk ((Held.new (Below.refl w.heap.size w) [.int .i64 p.ki, .int .i64 p.fr, .int .i64 p.to_, .int .i64 p.st, .int .i64 p.ep, .int .i64 p.cy, .bool p.dn, .bool p.fa] 26).alloc (.cells #[.bool ok, .int .i64 v] 39))
  have J0 := Keep.mk (Held.newN (n := w.heap.size + 1) (below_new (Below.refl w.heap.size w) (.cells #[.int .i64 p.ki, .int .i64 p.fr, .int .i64 p.to_, .int .i64 p.st, .int .i64 p.ep, .int .i64 p.cy, .bool p.dn, .bool p.fa] 26)) [.bool ok, .int .i64 v] 39 (by simp))
  cases hf : (smallS (l.take 10) && decide ((l.length : Int) ≤ 10))
  · have HF := Keep.mk hf
    clear h hf
    go_enter Try.func5, Try.ntmps5
    go_wp2_with (first
      | (go_at_call 11; (with_reducible refine (ref52_Few _ A c l.length 20 (l.take 10) take_ten (HT.out.below K0.out.bel)).mono ?_); rw [HF.out]; rintro e w1 ⟨rfl, hB⟩; have HB1 := Keep.mk (below_then K0.out.bel hB); clear hB)
      | (go_at_call 12; (with_reducible refine (law_awake _).mono ?_); rintro e w2 ⟨rfl, hB⟩; have HB2 := Keep.mk (below_then HB1.out hB); clear hB))
    go_ret
    exact ⟨rfl, HB2.out⟩
  · obtain ⟨h10, hB⟩ := few_yes hf
    have HF := Keep.mk hf
    have HC := Keep.mk (h.1 (by omega))
    have HB0 := Keep.mk hB
    have HC5 := Keep.mk (HC.out.widen (B' := 5864062014634) hB)
    have HB5 := Keep.mk (show ∀ x, x ∈ l → x.li.length ≤ 5864062014634 from fun x hx => Nat.le_trans (hB x hx) (by omega))
    clear h hf h10 hB
    obtain ⟨r, hr⟩ : ∃ x, stepS p l ok v = x := ⟨_, rfl⟩
    obtain ⟨q, l2, e⟩ := r
    have HR := Keep.mk hr
    clear hr
    go_enter Try.func5, Try.ntmps5
    go_wp2_with (first
      | (go_at_call 11; (with_reducible refine (ref52_Few _ A c l.length 20 (l.take 10) take_ten (HT.out.below K0.out.bel)).mono ?_); rw [HF.out]; rintro e w1 ⟨rfl, hB⟩; have K1 := Keep.mk (K0.out.step hB); have J1 := Keep.mk (J0.out.step hB); have j0 := J1.out.cell 0 _ rfl; have j1 := J1.out.cell 1 _ rfl; obtain ⟨⟨p0, p1, p2, p3, p4, p5, p6, p7⟩, p8⟩ := K1.out.c8; clear hB)
      | (go_at_call 19; (with_reducible refine (sw_Step _ p A c 20 l ok v HB0.out (HC.out.below K1.out.bel)).mono ?_); rw [HR.out]; rintro en w2 ⟨A2, c2, m2, rfl, hm, hO, hB⟩; go_loud (have HT2 : TSites w2 A2 c2 l2 := hO.typed hm); go_loud (have hml : m2.length = l2.length := by (have hm2 : m2.map (·.s) = l2 := hm); rw [← hm2, List.length_map]); go_loud (rw [hml]); clear hml hm; have K2 := Keep.mk ((K1.out.step hB).alloc (.cells #[.int .i64 q.ki, .int .i64 q.fr, .int .i64 q.to_, .int .i64 q.st, .int .i64 q.ep, .int .i64 q.cy, .bool q.dn, .bool q.fa] 26)); have J2 := Keep.mk ((J1.out.step hB).alloc (.cells #[.int .i64 q.ki, .int .i64 q.fr, .int .i64 q.to_, .int .i64 q.st, .int .i64 q.ep, .int .i64 q.cy, .bool q.dn, .bool q.fa] 26)); have j0 := J2.out.cell 0 _ rfl; have j1 := J2.out.cell 1 _ rfl; have KA := Keep.mk (Held.new (K1.out.step hB).bel [.int .i64 q.ki, .int .i64 q.fr, .int .i64 q.to_, .int .i64 q.st, .int .i64 q.ep, .int .i64 q.cy, .bool q.dn, .bool q.fa] 26); have HS2 := Keep.mk (HT2.step (below_new (Below.refl _ _) (.cells #[.int .i64 q.ki, .int .i64 q.fr, .int .i64 q.to_, .int .i64 q.st, .int .i64 q.ep, .int .i64 q.cy, .bool q.dn, .bool q.fa] 26))); clear hB hO HT2 p0 p1 p2 p3 p4 p5 p6 p7 p8; obtain ⟨⟨p0, p1, p2, p3, p4, p5, p6, p7⟩, p8⟩ := K2.out.c8)
      | (go_at_call 20; (with_reducible refine (ref52_Step _ p A c l ok v HB5.out (HC5.out.below K2.out.bel)).mono ?_); rw [HR.out]; rintro en w3 ⟨A3, c3, rfl, hS, hF, hB⟩; have KB := Keep.mk ((KA.out.step hB).alloc (.cells #[.int .i64 q.ki, .int .i64 q.fr, .int .i64 q.to_, .int .i64 q.st, .int .i64 q.ep, .int .i64 q.cy, .bool q.dn, .bool q.fa] 26)); have KC := Keep.mk (Held.new (KA.out.step hB).bel [.int .i64 q.ki, .int .i64 q.fr, .int .i64 q.to_, .int .i64 q.st, .int .i64 q.ep, .int .i64 q.cy, .bool q.dn, .bool q.fa] 26); have HS3 := Keep.mk ((HS2.out.step hB).step (below_new (Below.refl _ _) (.cells #[.int .i64 q.ki, .int .i64 q.fr, .int .i64 q.to_, .int .i64 q.st, .int .i64 q.ep, .int .i64 q.cy, .bool q.dn, .bool q.fa] 26))); have HS4 := Keep.mk (And.intro (hS.below (below_new (Below.refl _ _) (.cells #[.int .i64 q.ki, .int .i64 q.fr, .int .i64 q.to_, .int .i64 q.st, .int .i64 q.ep, .int .i64 q.cy, .bool q.dn, .bool q.fa] 26))) hF); clear hB hS hF p0 p1 p2 p3 p4 p5 p6 p7 p8)
      | (go_at_call 12; (with_reducible refine (law_awake _).mono ?_); rintro en w4 ⟨rfl, hB⟩; have KD := KB.out.step hB; have KE := KC.out.step hB; obtain ⟨⟨p0, p1, p2, p3, p4, p5, p6, p7⟩, p8⟩ := KD.c8; obtain ⟨⟨q0, q1, q2, q3, q4, q5, q6, q7⟩, q8⟩ := KE.c8; have HBD := Keep.mk KD.bel; have HS5 := Keep.mk (HS3.out.step hB); have HS6 := Keep.mk (HS4.out.1.below hB); clear hB KD KE)
      | (go_at_call 21; (with_reducible refine (ref_SameAll _ A2 A3 c2 c3 l2 HS4.out.2 (HS5.out.reads _) HS6.out).mono ?_); rintro en w5 ⟨rfl, hB⟩; have HBE := Keep.mk (below_then HBD.out hB); clear hB))
    go_ret
    exact ⟨rfl, HBE.out⟩
set_option maxHeartbeats 2000000 in
theorem law_SwitchoverAborts (w : World) (p : Proc) (A : Option Addr) (c : Nat) (l : List Site) (h : (l.length ≤ 1000000 → SitesAt 20 w A c l) ∧ SitesAt 20 w A c (l.take 10)) :
    Calls Try.prog 6 #[.agg #[.int .i64 p.ki, .int .i64 p.fr, .int .i64 p.to_, .int .i64 p.st, .int .i64 p.ep, .int .i64 p.cy, .bool p.dn, .bool p.fa], .slice A l.length c] w (AwRes w) := by
  have HE := eql_proc
  have HT := Keep.mk h.2
  have K0 := Keep.mk (Held.new (Below.refl w.heap.size w) [.int .i64 p.ki, .int .i64 p.fr, .int .i64 p.to_, .int .i64 p.st, .int .i64 p.ep, .int .i64 p.cy, .bool p.dn, .bool p.fa] 26)
  cases hf : (smallS (l.take 10) && decide ((l.length : Int) ≤ 10))
  · have HF := Keep.mk hf
    clear h hf
    go_enter Try.func6, Try.ntmps6
    go_wp2_with (first
      | (go_at_call 11; (with_reducible refine (ref52_Few _ A c l.length 20 (l.take 10) take_ten (HT.out.below K0.out.bel)).mono ?_); rw [HF.out]; rintro e w1 ⟨rfl, hB⟩; have HB1 := Keep.mk (below_then K0.out.bel hB); clear hB)
      | (go_at_call 12; (with_reducible refine (law_awake _).mono ?_); rintro e w2 ⟨rfl, hB⟩; have HB2 := Keep.mk (below_then HB1.out hB); clear hB))
    go_ret
    exact ⟨rfl, HB2.out⟩
  · obtain ⟨h10, hB⟩ := few_yes hf
    have HF := Keep.mk hf
    have HC := Keep.mk (h.1 (by omega))
    have HB0 := Keep.mk hB
    have HC5 := Keep.mk (HC.out.widen (B' := 5864062014634) hB)
    have HB5 := Keep.mk (show ∀ x, x ∈ l → x.li.length ≤ 5864062014634 from fun x hx => Nat.le_trans (hB x hx) (by omega))
    clear h hf h10 hB
    obtain ⟨r, hr⟩ : ∃ x, abortS p l = x := ⟨_, rfl⟩
    obtain ⟨q, l2, e⟩ := r
    have HR := Keep.mk hr
    clear hr
    go_enter Try.func6, Try.ntmps6
    go_wp2_with (first
      | (go_at_call 11; (with_reducible refine (ref52_Few _ A c l.length 20 (l.take 10) take_ten (HT.out.below K0.out.bel)).mono ?_); rw [HF.out]; rintro e w1 ⟨rfl, hB⟩; have K1 := Keep.mk (K0.out.step hB); obtain ⟨⟨p0, p1, p2, p3, p4, p5, p6, p7⟩, p8⟩ := K1.out.c8; clear hB)
      | (go_at_call 22; (with_reducible refine (sw_Abort _ p A c 20 l HB0.out (HC.out.below K1.out.bel)).mono ?_); rw [HR.out]; rintro en w2 ⟨A2, c2, m2, rfl, hm, hO, hB⟩; go_loud (have HT2 : TSites w2 A2 c2 l2 := hO.typed hm); go_loud (have hml : m2.length = l2.length := by (have hm2 : m2.map (·.s) = l2 := hm); rw [← hm2, List.length_map]); go_loud (rw [hml]); clear hml hm; have K2 := Keep.mk ((K1.out.step hB).alloc (.cells #[.int .i64 q.ki, .int .i64 q.fr, .int .i64 q.to_, .int .i64 q.st, .int .i64 q.ep, .int .i64 q.cy, .bool q.dn, .bool q.fa] 26)); have KA := Keep.mk (Held.new (K1.out.step hB).bel [.int .i64 q.ki, .int .i64 q.fr, .int .i64 q.to_, .int .i64 q.st, .int .i64 q.ep, .int .i64 q.cy, .bool q.dn, .bool q.fa] 26); have HS2 := Keep.mk (HT2.step (below_new (Below.refl _ _) (.cells #[.int .i64 q.ki, .int .i64 q.fr, .int .i64 q.to_, .int .i64 q.st, .int .i64 q.ep, .int .i64 q.cy, .bool q.dn, .bool q.fa] 26))); clear hB hO HT2 p0 p1 p2 p3 p4 p5 p6 p7 p8; obtain ⟨⟨p0, p1, p2, p3, p4, p5, p6, p7⟩, p8⟩ := K2.out.c8)
      | (go_at_call 23; (with_reducible refine (ref52_Abort _ p A c l HB5.out (HC5.out.below K2.out.bel)).mono ?_); rw [HR.out]; rintro en w3 ⟨A3, c3, rfl, hS, hF, hB⟩; have KB := Keep.mk ((KA.out.step hB).alloc (.cells #[.int .i64 q.ki, .int .i64 q.fr, .int .i64 q.to_, .int .i64 q.st, .int .i64 q.ep, .int .i64 q.cy, .bool q.dn, .bool q.fa] 26)); have KC := Keep.mk (Held.new (KA.out.step hB).bel [.int .i64 q.ki, .int .i64 q.fr, .int .i64 q.to_, .int .i64 q.st, .int .i64 q.ep, .int .i64 q.cy, .bool q.dn, .bool q.fa] 26); have HS3 := Keep.mk ((HS2.out.step hB).step (below_new (Below.refl _ _) (.cells #[.int .i64 q.ki, .int .i64 q.fr, .int .i64 q.to_, .int .i64 q.st, .int .i64 q.ep, .int .i64 q.cy, .bool q.dn, .bool q.fa] 26))); have HS4 := Keep.mk (And.intro (hS.below (below_new (Below.refl _ _) (.cells #[.int .i64 q.ki, .int .i64 q.fr, .int .i64 q.to_, .int .i64 q.st, .int .i64 q.ep, .int .i64 q.cy, .bool q.dn, .bool q.fa] 26))) hF); clear hB hS hF p0 p1 p2 p3 p4 p5 p6 p7 p8)
      | (go_at_call 12; (with_reducible refine (law_awake _).mono ?_); rintro en w4 ⟨rfl, hB⟩; have KD := KB.out.step hB; have KE := KC.out.step hB; obtain ⟨⟨p0, p1, p2, p3, p4, p5, p6, p7⟩, p8⟩ := KD.c8; obtain ⟨⟨q0, q1, q2, q3, q4, q5, q6, q7⟩, q8⟩ := KE.c8; have HBD := Keep.mk KD.bel; have HS5 := Keep.mk (HS3.out.step hB); have HS6 := Keep.mk (HS4.out.1.below hB); clear hB KD KE)
      | (go_at_call 21; (with_reducible refine (ref_SameAll _ A2 A3 c2 c3 l2 HS4.out.2 (HS5.out.reads _) HS6.out).mono ?_); rintro en w5 ⟨rfl, hB⟩; have HBE := Keep.mk (below_then HBD.out hB); clear hB))
    go_ret
    exact ⟨rfl, HBE.out⟩
end Go.Proofs.Ytijhkgabonkmfaa
