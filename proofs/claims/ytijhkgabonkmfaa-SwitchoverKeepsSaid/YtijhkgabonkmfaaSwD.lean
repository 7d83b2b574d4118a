/- Contract: switchover.Begin. -/
import Derived.Test.YtijhkgabonkmfaaSwC
namespace Go.Proofs.Ytijhkgabonkmfaa
open Go.RowKit
set_option linter.unusedSimpArgs false
set_option linter.unusedVariables false
def BegRes (w : World) (r : Proc × Int) (en : Ending) (w' : World) : Prop := en = .returned (.tuple #[.agg #[.int .i64 r.1.ki, .int .i64 r.1.fr, .int .i64 r.1.to_, .int .i64 r.1.st, .int .i64 r.1.ep, .int .i64 r.1.cy, .bool r.1.dn, .bool r.1.fa], .int .i64 r.2]) ∧ Below w.heap.size w w'
/-- results that lie in two variables -/
theorem results_row_cell {P : Program} {fn : Func} {p q : Tmp} {ty tq : TypeId} (h : fn.results = #[.cell p ty, .cell q tq]) (tmps : Array Value) (w : World) (g gq : Nat) (t : TypeId) (cs : Array Value) (v : Value) (d : TypeDesc)
    (hp : tmps.getD p undef = .pointer (some ⟨g, 0, none⟩)) (hg : w.heap[g]? = some (.cells cs t (0, 0))) (hq : tmps.getD q undef = .pointer (some ⟨gq, 0, none⟩)) (hl : (loadVar tq ⟨gq, 0, none⟩).run P w = .ok v w)
    (hu : P.underlying ty = some d) (hd : (match d with | .struct _ | .array _ _ => true | _ => false) = true) (hi : (P.info? ty).map (·.size) = some cs.size) :
    (results fn tmps).run P w = .ok (.tuple #[.agg cs, v]) w := by
  have hp' : tmps[p]?.getD undef = .pointer (some ⟨g, 0, none⟩) := by simpa using hp
  have hq' : tmps[q]?.getD undef = .pointer (some ⟨gq, 0, none⟩) := by simpa using hq
  unfold results
  simp [h, hp', hq', asAddr, run_loadVar_row w g t ty cs (0, 0) d hg hu hd hi, hl, Result.andThen]
theorem load_errno (w : World) (g : Nat) (e : Int) (h : w.cell? ⟨g, 0, none⟩ = some (.int .i64 e)) : (loadVar 27 ⟨g, 0, none⟩).run Try.prog w = .ok (.int .i64 e) w := by go_simp
theorem begin_door (w w1 : World) (tmps : Array Value) (h6 : tmps.getD 6 undef = .pointer (some ⟨w.heap.size, 0, none⟩)) (h7 : tmps.getD 7 undef = .pointer (some ⟨w.heap.size + 1, 0, none⟩)) {v0 v1 v2 v3 v4 v5 v6 v7 v8 : Value}
    (KP : Held w w.heap.size [v0, v1, v2, v3, v4, v5, v6, v7] 26 w1) (KQ : Held w (w.heap.size + 1) [v8] 27 w1) (e : Int) :
    bodyPostD Try.prog Try.f13 (BegRes w (zP, e)) (Exit.panic [{ v := .iface 92 (.int .i64 e), recovered := false }])
      { tmps := tmps, defers := [{ target := Target.fn (Fn.func 30) #[.pointer (some ⟨w.heap.size, 0, none⟩), .pointer (some ⟨w.heap.size + 1, 0, none⟩)], args := #[] }] } w1 := by
  refine leaves_cons (f := 30) (args := #[.pointer (some ⟨w.heap.size, 0, none⟩), .pointer (some ⟨w.heap.size + 1, 0, none⟩)]) (by simp) (by simp [go_sem]) ?_
  refine (begin_panic w w1 _ _ KP KQ (by omega) e []).mono ?_
  rintro en u' w'' ⟨rfl, rfl, K1, K2⟩
  simp only [Leaves, settle]
  exact ⟨_, results_row_cell rfl tmps w'' w.heap.size (w.heap.size + 1) 26 _ _ _ h6 K1.blk h7 (load_errno _ _ _ (K2.cell 0 _ rfl)) Try.underlying26 rfl (by kernel_rfl), rfl, K1.bel⟩
set_option maxHeartbeats 1000000 in
theorem sw_Begin_no (w : World) (A : Option Addr) (c B : Nat) (l : List Site) (fr to_ e : Int) (he : (checkAllS l).2 = e) (h0 : (e == 0) = false) (hB : ∀ x, x ∈ l → x.li.length ≤ B) (h : SitesAt B w A c l) :
    Calls Try.prog 13 #[.slice A l.length c, .int .i64 fr, .int .i64 to_] w (BegRes w (zP, e)) := by
  have hmf : ∀ (fn : Fn) (first cap : Array Value) (w : World), (Instr.makeFunc fn first cap).run Try.prog w = .ok (.func fn first cap) w := fun _ _ _ _ => rfl
  have HC := Keep.mk h
  have HE := Keep.mk he
  have HB0 := Keep.mk hB
  have W2 := Below.refl w.heap.size w; have KP0 := Keep.mk ((Held.new W2 [.int .i64 0, .int .i64 0, .int .i64 0, .int .i64 0, .int .i64 0, .int .i64 0, .bool false, .bool false] 26).alloc (.cells #[.int .i64 0] 27)); have KQ0 := Keep.mk (Held.newN (n := w.heap.size + 1) (below_new W2 (.cells #[.int .i64 0, .int .i64 0, .int .i64 0, .int .i64 0, .int .i64 0, .int .i64 0, .bool false, .bool false] 26)) [.int .i64 0] 27 (by simp)); clear W2
  clear h he hB
  go_enter_defers Try.func13, Try.ntmps13
  go_wp2_with (first
    | (go_at_call 32; (with_reducible refine (sw_checked_no _ A c B l e HE.out h0 HB0.out (HC.out.below KP0.out.bel)).mono ?_); rintro en w1 ⟨rfl, hB⟩; have KP := Keep.mk (KP0.out.step hB); have KQ := Keep.mk (KQ0.out.step hB); clear hB))
  exact begin_door w w1 _ rfl rfl KP.out KQ.out e
theorem begin_door_ok (w w1 : World) (tmps : Array Value) (h6 : tmps.getD 6 undef = .pointer (some ⟨w.heap.size, 0, none⟩)) (h7 : tmps.getD 7 undef = .pointer (some ⟨w.heap.size + 1, 0, none⟩)) (r : Proc) (e : Int)
    (KP : Held w w.heap.size [.int .i64 r.ki, .int .i64 r.fr, .int .i64 r.to_, .int .i64 r.st, .int .i64 r.ep, .int .i64 r.cy, .bool r.dn, .bool r.fa] 26 w1) (KQ : Held w (w.heap.size + 1) [.int .i64 e] 27 w1) :
    bodyPostD Try.prog Try.f13 (BegRes w (r, e)) Exit.ret
      { tmps := tmps, defers := [{ target := Target.fn (Fn.func 30) #[.pointer (some ⟨w.heap.size, 0, none⟩), .pointer (some ⟨w.heap.size + 1, 0, none⟩)], args := #[] }] } w1 := by
  refine leaves_cons (f := 30) (args := #[.pointer (some ⟨w.heap.size, 0, none⟩), .pointer (some ⟨w.heap.size + 1, 0, none⟩)]) (by simp) (by simp [go_sem]) ?_
  refine (begin_idle _ _ _).mono ?_
  rintro en u' w'' ⟨rfl, rfl, hw⟩; subst w''
  simp only [Leaves, settle]
  exact ⟨_, results_row_cell rfl tmps w1 w.heap.size (w.heap.size + 1) 26 _ _ _ h6 KP.blk h7 (load_errno _ _ _ (KQ.cell 0 _ rfl)) Try.underlying26 rfl (by kernel_rfl), rfl, KP.bel⟩
theorem SitesAt.atp {B : Nat} {w : World} {b o : Nat} {c : Nat} {l : List Site} (h : SitesAt B w (some ⟨b, o, none⟩) c l) (i : Nat) (hi : i < l.length) : ∃ A' c', SiteAt B w b (o + i * 8) (l.getD i zS) A' c' := by
  obtain ⟨b', o', A', c', e, -, hs⟩ := h.at_ i hi
  injection e with e
  injection e with e1 e2
  subst e1 e2
  exact ⟨A', c', hs⟩
set_option maxHeartbeats 2000000 in
theorem sw_Begin (w : World) (A : Option Addr) (c B : Nat) (l : List Site) (fr to_ : Int) (hB : ∀ x, x ∈ l → x.li.length ≤ B) (h : SitesAt B w A c l) :
    Calls Try.prog 13 #[.slice A l.length c, .int .i64 fr, .int .i64 to_] w (BegRes w (beginS l fr to_)) := by
  by_cases h0 : (checkAllS l).2 = 0
  case neg =>
    have hv : beginS l fr to_ = (zP, (checkAllS l).2) := by unfold beginS; rw [if_pos h0]
    rw [hv]
    exact sw_Begin_no w A c B l fr to_ _ rfl (by simpa using h0) hB h
  have hmf : ∀ (fn : Fn) (first cap : Array Value) (w : World), (Instr.makeFunc fn first cap).run Try.prog w = .ok (.func fn first cap) w := fun _ _ _ _ => rfl
  have HC := Keep.mk h
  have HE := Keep.mk h0
  have HB0 := Keep.mk hB
  have hl4 := checkAll_len h0
  have W2 := Below.refl w.heap.size w; have KP0 := Keep.mk ((Held.new W2 [.int .i64 0, .int .i64 0, .int .i64 0, .int .i64 0, .int .i64 0, .int .i64 0, .bool false, .bool false] 26).alloc (.cells #[.int .i64 0] 27)); have KQ0 := Keep.mk (Held.newN (n := w.heap.size + 1) (below_new W2 (.cells #[.int .i64 0, .int .i64 0, .int .i64 0, .int .i64 0, .int .i64 0, .int .i64 0, .bool false, .bool false] 26)) [.int .i64 0] 27 (by simp)); clear W2
  clear h h0 hB
  rcases find_ways l fr with h1 | ⟨i, h1, hil, -⟩
  · rw [begin_1 HE.out h1]
    have HI := Keep.mk h1
    clear h1
    go_enter_defers Try.func13, Try.ntmps13
    go_wp2_with (first
      | (go_at_call 32; (with_reducible refine (sw_checked_ok _ A c B l HE.out hl4 HB0.out (HC.out.below KP0.out.bel)).mono ?_); rintro en w1 ⟨A1, c1, m, rfl, hm, hO, hB⟩; have KP := Keep.mk (KP0.out.step hB); have KQ := Keep.mk (KQ0.out.step hB); have HS := Keep.mk (show SitesAt 5864062014634 w1 A1 c1 l from hm ▸ hO.reads hB 5864062014634); clear hO hB hm)
      | (go_at_call 33; go_loud (with_reducible refine (sw_find_no _ A1 c1 l.length _ l fr rfl HS.out HI.out).mono ?_); rintro en w2 ⟨rfl, hB⟩; have KP2 := Keep.mk (KP.out.step hB); have KQ2 := Keep.mk (KQ.out.step hB); clear hB))
    exact begin_door w w2 _ rfl rfl KP2.out KQ2.out 7
  rcases find_ways l to_ with h2 | ⟨k, h2, hkl, -⟩
  · rw [begin_2 HE.out h2]
    have HI := Keep.mk h1
    have HK := Keep.mk h2
    clear h1 h2
    go_enter_defers Try.func13, Try.ntmps13
    go_wp2_with (first
      | (go_at_call 32; (with_reducible refine (sw_checked_ok _ A c B l HE.out hl4 HB0.out (HC.out.below KP0.out.bel)).mono ?_); rintro en w1 ⟨A1, c1, m, rfl, hm, hO, hB⟩; have KP := Keep.mk (KP0.out.step hB); have KQ := Keep.mk (KQ0.out.step hB); have HS := Keep.mk (show SitesAt 5864062014634 w1 A1 c1 l from hm ▸ hO.reads hB 5864062014634); clear hO hB hm; obtain ⟨b, o, _, _, hA, hb, -⟩ := HS.out.at_ i hil; subst hA)
      | (go_at_call 33; go_loud (with_reducible refine (sw_find_ok _ b o c1 l.length _ l fr i rfl HS.out HI.out hil).mono ?_); rintro en w2 ⟨rfl, hB⟩; have KP2 := Keep.mk (KP.out.step hB); have KQ2 := Keep.mk (KQ.out.step hB); have HS2 := Keep.mk (HS.out.below hB); clear hB)
      | (go_at_call 33; go_loud (with_reducible refine (sw_find_no _ _ c1 l.length _ l to_ rfl HS2.out HK.out).mono ?_); rintro en w3 ⟨rfl, hB⟩; have KP3 := Keep.mk (KP2.out.step hB); have KQ3 := Keep.mk (KQ2.out.step hB); clear hB))
    exact begin_door w w3 _ rfl rfl KP3.out KQ3.out 7
  have h3 := begin_3 (fr := fr) (to_ := to_) HE.out h1 h2
  obtain ⟨sa, hsa⟩ : ∃ x, l.getD i zS = x := ⟨_, rfl⟩
  obtain ⟨sb, hsb⟩ : ∃ x, l.getD k zS = x := ⟨_, rfl⟩
  rw [hsa, hsb] at h3
  have HI := Keep.mk h1
  have HK := Keep.mk h2
  have HSA := Keep.mk hsa
  have HSB := Keep.mk hsb
  clear h1 h2 hsa hsb
  rcases begin_ways sa sb fr to_ _ h3 with ⟨g1, hr⟩ | ⟨g1, g2, hr⟩ | ⟨g1, g2, g3, hr⟩ | ⟨g1, g2, g3, g4, hr⟩ | ⟨g1, g2, g3, g4, g5, hr⟩ | ⟨g1, g2, g3, g4, g5, g6, hr⟩ | ⟨g1, g2, g3, g4, g5, g6, g7, hr⟩ | ⟨g1, g2, g3, g4, g5, g6, g7, hr⟩
  all_goals
    rw [hr]
    clear h3 hr
    go_enter_defers Try.func13, Try.ntmps13
    go_wp2_with (first
      | (go_at_call 32; (with_reducible refine (sw_checked_ok _ A c B l HE.out hl4 HB0.out (HC.out.below KP0.out.bel)).mono ?_); rintro en w1 ⟨A1, c1, m, rfl, hm, hO, hB⟩; have KP := Keep.mk (KP0.out.step hB); have KQ := Keep.mk (KQ0.out.step hB); have HS := Keep.mk (show SitesAt 5864062014634 w1 A1 c1 l from hm ▸ hO.reads hB 5864062014634); clear hO hB hm; obtain ⟨b, o, _, _, hA, hb, -⟩ := HS.out.at_ i hil; subst hA)
      | (go_at_call 33; go_loud (with_reducible refine (sw_find_ok _ b o c1 l.length _ l fr i rfl HS.out HI.out hil).mono ?_); rintro en w2 ⟨rfl, hB⟩; have KP2 := Keep.mk (KP.out.step hB); have KQ2 := Keep.mk (KQ.out.step hB); have HS2 := Keep.mk (HS.out.below hB); clear hB KP KQ)
      | (go_at_call 33; go_loud (with_reducible refine (sw_find_ok _ b o c1 l.length _ l to_ k rfl HS2.out HK.out hkl).mono ?_); rintro en w3 ⟨rfl, hB⟩; have KP3 := Keep.mk (KP2.out.step hB); have KQ3 := Keep.mk (KQ2.out.step hB); obtain ⟨Aa, ca, -, a1, -, a3, -, -, a6, -⟩ := (HS2.out.below hB).atp i hil; rw [HSA.out] at a1 a3 a6; obtain ⟨Ab, cb, -, b1, -, -, -, b5, b6, b7, -⟩ := (HS2.out.below hB).atp k hkl; rw [HSB.out] at b1 b5 b6 b7; (try rw [g5] at a6); (try rw [g6] at b6); (try rw [g7] at b7); clear hB KP2 KQ2)
      | (go_at_call 34; (with_reducible refine (sw_demand_ok _ _).mono ?_); rintro e w' ⟨rfl, hw⟩; subst w')
      | (go_at_call 34; (with_reducible refine (sw_demand_no _ _).mono ?_); rintro e w' ⟨rfl, hw⟩; subst w')
      | ((with_reducible refine wpList_store_proc ?_ (.tmp 6) (.tmp 67) ?_ w w.heap.size KP3.out ?_ ⟨1, fr, to_, 0, 0, sa.ap, false, false⟩ ?_ ?_); rfl; rfl; rfl; rfl; intro w4 K1 hg; have K2 := KQ3.out.grown (by omega) KP3.out.ge hg; have c8 := K2.cell 0 _ rfl; have f8 := K2.frozen 0; have H2 := Keep.mk (And.intro K1 K2); clear K1 K2 hg))
  all_goals first
    | exact begin_door w w3 _ rfl rfl KP3.out KQ3.out _
    | exact begin_door_ok w _ _ rfl rfl _ _ (H2.out.1.setOther (j := 0) H2.out.2.ge (by omega) (.int .i64 0)) (H2.out.2.set 0 (.int .i64 0))
end Go.Proofs.Ytijhkgabonkmfaa
