/- Contracts: standbyref52.succeed. -/
import Derived.Test.YtijhkgabonkmfaaRwB
import Derived.Deep.DeepCutAuto
namespace Go.Proofs.Ytijhkgabonkmfaa
open Go.RowKit
set_option linter.unusedSimpArgs false
set_option linter.unusedVariables false
set_option maxRecDepth 100000
theorem results_row_tmp2 {P : Program} {fn : Func} {p u s : Tmp} {ty : TypeId} (h : fn.results = #[.cell p ty, .tmp u, .tmp s]) (tmps : Array Value) (w : World) (g : Nat) (t : TypeId) (cs : Array Value) (d : TypeDesc)
    (hp : tmps.getD p undef = .pointer (some ⟨g, 0, none⟩)) (hg : w.heap[g]? = some (.cells cs t (0, 0)))
    (hu : P.underlying ty = some d) (hd : (match d with | .struct _ | .array _ _ => true | _ => false) = true) (hi : (P.info? ty).map (·.size) = some cs.size) :
    (results fn tmps).run P w = .ok (.tuple #[.agg cs, tmps.getD u undef, tmps.getD s undef]) w := by
  have hp' : tmps[p]?.getD undef = .pointer (some ⟨g, 0, none⟩) := by simpa using hp
  unfold results
  simp [h, hp', asAddr, run_loadVar_row w g t ty cs (0, 0) d hg hu hd hi, Result.andThen]
structure SucSt (w W : World) (p : Proc) (a b : Site) (Aa Ab : Option Addr) (ca cb ga gb : Nat) : Prop where
  kp : Held w w.heap.size [.int .i64 p.ki, .int .i64 p.fr, .int .i64 p.to_, .int .i64 p.st, .int .i64 p.ep, .int .i64 p.cy, .bool p.dn, .bool p.fa] 26 W
  kq : Held w (w.heap.size + 1) [.int .i64 0, .int .i64 0, .int .i64 0, .int .i64 0, .int .i64 0, .int .i64 0, .bool false, .bool false] 26 W
  ka : Held w ga [.int .i64 a.nu, .int .i64 a.ro, .int .i64 a.ep, .int .i64 a.ap, .slice Aa a.li.length ca, .int .i64 a.so, .bool a.al, .bool a.co] 57 W
  kb : Held w gb [.int .i64 b.nu, .int .i64 b.ro, .int .i64 b.ep, .int .i64 b.ap, .slice Ab b.li.length cb, .int .i64 b.so, .bool b.al, .bool b.co] 57 W
  ha : w.heap.size + 2 ≤ ga
  hb : w.heap.size + 2 ≤ gb
/-- the sites that come back: those that came in, or a row of the call's own -/
def SitesOut (w0 : World) (n : Nat) (A : Option Addr) (c : Nat) (l : List Site) (A2 : Option Addr) (c2 : Nat) (r : List Site) (w' : World) : Prop := (A2 = A ∧ c2 = c ∧ r = l) ∨ ∃ m, m.map (·.s) = r ∧ RowAt w0 w' n A2 c2 m
theorem Held.base {w0 w W : World} {g : Nat} {cs : List Value} {t : TypeId} (K : Held w g cs t W) (hb : Below w0.heap.size w0 w) : Held w0 g cs t W := ⟨K.blk, Nat.le_trans hb.size K.ge, below_then hb K.bel⟩
def SucRes (w0 w : World) (A : Option Addr) (c : Nat) (l : List Site) (i k : Nat) (p : Proc) (v : Int) (er : Int) (en : Ending) (w' : World) : Prop :=
  (er ≠ 0 ∧ en = .returned (.tuple #[.agg #[.int .i64 p.ki, .int .i64 p.fr, .int .i64 p.to_, .int .i64 p.st, .int .i64 p.ep, .int .i64 p.cy, .bool p.dn, .bool p.fa], .slice A l.length c, .int .i64 er]) ∧ Below w.heap.size w w') ∨
  (er = 0 ∧ ∃ A2 c2, en = .returned (.tuple #[.agg #[.int .i64 (sucP p v).ki, .int .i64 (sucP p v).fr, .int .i64 (sucP p v).to_, .int .i64 (sucP p v).st, .int .i64 (sucP p v).ep, .int .i64 (sucP p v).cy, .bool (sucP p v).dn, .bool (sucP p v).fa], .slice A2 l.length c2, .int .i64 0]) ∧ SitesOut w0 w.heap.size A c l A2 c2 (sucL p l i k) w' ∧ Below w.heap.size w w')
theorem suc_no (w0 w w1 : World) (tmps : Array Value) (A : Option Addr) (c : Nat) (l : List Site) (i k : Nat) (p : Proc) (v e : Int) (h10 : tmps.getD 10 undef = .pointer (some ⟨w.heap.size + 1, 0, none⟩)) (h11 : tmps.getD 11 undef = .slice A l.length c) (h12 : tmps.getD 12 undef = .int .i64 e) (h0 : e ≠ 0) (K : Held w (w.heap.size + 1) [.int .i64 p.ki, .int .i64 p.fr, .int .i64 p.to_, .int .i64 p.st, .int .i64 p.ep, .int .i64 p.cy, .bool p.dn, .bool p.fa] 26 w1) :
    bodyPost Try.prog Try.f42 (SucRes w0 w A c l i k p v e) Exit.ret { tmps := tmps, defers := [] } w1 := by
  refine bodyPost_ret (results_row_tmp2 rfl tmps w1 (w.heap.size + 1) 26 _ _ h10 K.blk Try.underlying26 rfl (by kernel_rfl)) rfl (.inl ⟨h0, ?_, K.bel⟩)
  rw [h11, h12]
theorem suc_ok (w0 w w1 : World) (tmps : Array Value) (A : Option Addr) (c : Nat) (l : List Site) (i k : Nat) (p q : Proc) (v e : Int) (A2 : Option Addr) (c2 : Nat) (he : e = 0) (hq : sucP p v = q) (h10 : tmps.getD 10 undef = .pointer (some ⟨w.heap.size + 1, 0, none⟩)) (h11 : tmps.getD 11 undef = .slice A2 l.length c2) (h12 : tmps.getD 12 undef = .int .i64 0) (K : Held w (w.heap.size + 1) [.int .i64 q.ki, .int .i64 q.fr, .int .i64 q.to_, .int .i64 q.st, .int .i64 q.ep, .int .i64 q.cy, .bool q.dn, .bool q.fa] 26 w1) (m : List Site) (hm : sucL p l i k = m) (HR : SitesOut w0 w.heap.size A c l A2 c2 m w1) :
    bodyPost Try.prog Try.f42 (SucRes w0 w A c l i k p v e) Exit.ret { tmps := tmps, defers := [] } w1 := by
  subst he hq hm
  refine bodyPost_ret (results_row_tmp2 rfl tmps w1 (w.heap.size + 1) 26 _ _ h10 K.blk Try.underlying26 rfl (by kernel_rfl)) rfl (.inr ⟨rfl, A2, c2, ?_, HR, K.bel⟩)
  rw [h11, h12]
set_option maxHeartbeats 2000000 in
theorem ref52_succeed (w0 w : World) (hw0 : Below w0.heap.size w0 w) (p : Proc) (A : Option Addr) (c n : Nat) (l : List Site) (i k : Nat) (v : Int) (a b : Site) (hn : n = l.length) (hl4 : l.length ≤ 4) (hi : i < l.length) (hk : k < l.length) (ha : l.getD i zS = a) (hb : l.getD k zS = b) (hB : ∀ x, x ∈ l → x.li.length ≤ 5864062014634) (h : SitesAt 5864062014634 w0 A c l) (hst : p.st = 0 ∨ p.st = 1 ∨ p.st = 2 ∨ p.st = 3 ∨ p.st = 4) :
    Calls Try.prog 42 #[.agg #[.int .i64 p.ki, .int .i64 p.fr, .int .i64 p.to_, .int .i64 p.st, .int .i64 p.ep, .int .i64 p.cy, .bool p.dn, .bool p.fa], .slice A n c, .int .i64 i, .int .i64 k, .int .i64 v] w (SucRes w0 w A c l i k p v (sucE p a b v)) := by
  subst hn
  obtain ⟨ki, fr, to_, st, ep, cy, dn, fa⟩ := p
  simp only at hst
  obtain ⟨b0, o0, rfl, -⟩ := h.2.2 (by omega)
  have HW := Keep.mk hw0
  clear hw0
  have HC := Keep.mk h
  have HB0 := Keep.mk hB
  have HST := Keep.mk hst
  obtain ⟨Aa, ca, hsa⟩ := h.atp i hi
  obtain ⟨Ab, cb, hsb⟩ := h.atp k hk
  have HAB := Keep.mk (And.intro ha hb)
  rw [ha] at hsa
  rw [hb] at hsb
  have HSA := Keep.mk (And.intro hsa hsb)
  have HLI := Keep.mk (And.intro (hsa.2.2.2.2.2.2.2.2 (by rw [← ha]; exact hB _ (by rw [List.getD_eq_getElem?_getD, List.getElem?_eq_getElem hi]; exact List.getElem_mem hi))) (hsb.2.2.2.2.2.2.2.2 (by rw [← hb]; exact hB _ (by rw [List.getD_eq_getElem?_getD, List.getElem?_eq_getElem hk]; exact List.getElem_mem hk))))
  have hi2 : (i : Int) < (l.length : Int) := by omega
  have hk2 : (k : Int) < (l.length : Int) := by omega
  clear h hB hst hsa hsb ha hb
  generalize hE : sucE ⟨ki, fr, to_, st, ep, cy, dn, fa⟩ a b v = er
  have HE := Keep.mk hE
  clear hE
  go_enter Try.func42, Try.ntmps42
  go_upto_region 1 with fail
  have K0 := Keep.mk (And.intro ((Held.new (Below.refl w.heap.size w) [.int .i64 (Proc.mk ki fr to_ st ep cy dn fa).ki, .int .i64 (Proc.mk ki fr to_ st ep cy dn fa).fr, .int .i64 (Proc.mk ki fr to_ st ep cy dn fa).to_, .int .i64 (Proc.mk ki fr to_ st ep cy dn fa).st, .int .i64 (Proc.mk ki fr to_ st ep cy dn fa).ep, .int .i64 (Proc.mk ki fr to_ st ep cy dn fa).cy, .bool (Proc.mk ki fr to_ st ep cy dn fa).dn, .bool (Proc.mk ki fr to_ st ep cy dn fa).fa] 26).alloc (.cells #[.int .i64 0, .int .i64 0, .int .i64 0, .int .i64 0, .int .i64 0, .int .i64 0, .bool false, .bool false] 26)) (Held.newN (n := w.heap.size + 1) (below_new (Below.refl w.heap.size w) (.cells #[.int .i64 (Proc.mk ki fr to_ st ep cy dn fa).ki, .int .i64 (Proc.mk ki fr to_ st ep cy dn fa).fr, .int .i64 (Proc.mk ki fr to_ st ep cy dn fa).to_, .int .i64 (Proc.mk ki fr to_ st ep cy dn fa).st, .int .i64 (Proc.mk ki fr to_ st ep cy dn fa).ep, .int .i64 (Proc.mk ki fr to_ st ep cy dn fa).cy, .bool (Proc.mk ki fr to_ st ep cy dn fa).dn, .bool (Proc.mk ki fr to_ st ep cy dn fa).fa] 26)) [.int .i64 0, .int .i64 0, .int .i64 0, .int .i64 0, .int .i64 0, .int .i64 0, .bool false, .bool false] 26 (by simp)))
  have hsz := Keep.mk (show w.heap.size + 2 ≤ ((w.alloc (.cells #[.int .i64 (Proc.mk ki fr to_ st ep cy dn fa).ki, .int .i64 (Proc.mk ki fr to_ st ep cy dn fa).fr, .int .i64 (Proc.mk ki fr to_ st ep cy dn fa).to_, .int .i64 (Proc.mk ki fr to_ st ep cy dn fa).st, .int .i64 (Proc.mk ki fr to_ st ep cy dn fa).ep, .int .i64 (Proc.mk ki fr to_ st ep cy dn fa).cy, .bool (Proc.mk ki fr to_ st ep cy dn fa).dn, .bool (Proc.mk ki fr to_ st ep cy dn fa).fa] 26)).alloc (.cells #[.int .i64 0, .int .i64 0, .int .i64 0, .int .i64 0, .int .i64 0, .int .i64 0, .bool false, .bool false] 26)).heap.size by simp)
  generalize hW : (w.alloc (.cells #[.int .i64 (Proc.mk ki fr to_ st ep cy dn fa).ki, .int .i64 (Proc.mk ki fr to_ st ep cy dn fa).fr, .int .i64 (Proc.mk ki fr to_ st ep cy dn fa).to_, .int .i64 (Proc.mk ki fr to_ st ep cy dn fa).st, .int .i64 (Proc.mk ki fr to_ st ep cy dn fa).ep, .int .i64 (Proc.mk ki fr to_ st ep cy dn fa).cy, .bool (Proc.mk ki fr to_ st ep cy dn fa).dn, .bool (Proc.mk ki fr to_ st ep cy dn fa).fa] 26)).alloc (.cells #[.int .i64 0, .int .i64 0, .int .i64 0, .int .i64 0, .int .i64 0, .int .i64 0, .bool false, .bool false] 26) = W at K0 hsz ⊢
  clear hW
  obtain ⟨a0, a1, a2, a3, a4, a5, a6, a7, -⟩ := HSA.out.1.below (below_then HW.out K0.out.1.bel)
  obtain ⟨b0', b1, b2, b3, b4, b5, b6, b7, -⟩ := HSA.out.2.below (below_then HW.out K0.out.1.bel)
  have hlt : b0 < W.heap.size := World.block_lt_of_cell? _ _ a0
  have hn1 : b0 ≠ W.heap.size := Nat.ne_of_lt hlt
  have hn2 : b0 ≠ W.heap.size + 1 := Nat.ne_of_lt (Nat.lt_succ_of_lt hlt)
  go_cut [13, 14] (fun s13 s14 wx => ∃ ga gb, s13 = .pointer (some ⟨ga, 0, none⟩) ∧ s14 = .pointer (some ⟨gb, 0, none⟩) ∧ Keep (SucSt w wx ⟨ki, fr, to_, st, ep, cy, dn, fa⟩ a b Aa Ab ca cb ga gb))
  case first =>
    go_region
    · go_wp2_with fail
      go_meet
      exact ⟨_, _, rfl, rfl, ⟨⟨((K0.out.1.alloc _).alloc _).drew, ((K0.out.2.alloc _).alloc _).drew, ((Held.new K0.out.1.bel _ _).alloc _).drew, (Held.newN (below_new K0.out.1.bel _) _ _ (by simp)).drew, hsz.out, Nat.le_succ_of_le hsz.out⟩⟩⟩
    · go_wp2_with fail
      go_meet
      exact ⟨_, _, rfl, rfl, ⟨⟨((K0.out.1.alloc _).alloc _).drew, ((K0.out.2.alloc _).alloc _).drew, (Held.newN (below_new K0.out.1.bel _) _ _ (by simp)).drew, ((Held.new K0.out.1.bel _ _).alloc _).drew, Nat.le_succ_of_le hsz.out, hsz.out⟩⟩⟩
  case rest =>
    obtain ⟨ga, gb, rfl, rfl, HS⟩ := hcut
    clear a0 a1 a2 a3 a4 a5 a6 a7 b0' b1 b2 b3 b4 b5 b6 b7 hlt hn1 hn2 K0 hsz
    obtain ⟨⟨p0, p1, p2, p3, p4, p5, p6, p7⟩, p8⟩ := HS.out.kp.c8
    obtain ⟨⟨q0, q1, q2, q3, q4, q5, q6, q7⟩, q8⟩ := HS.out.ka.c8
    obtain ⟨⟨r0, r1, r2, r3, r4, r5, r6, r7⟩, r8⟩ := HS.out.kb.c8
    simp only at p0 p1 p2 p3 p4 p5 p6 p7
    have KQ := Keep.mk HS.out.kq
    rcases HST.out with hs | hs | hs | hs | hs
    · subst hs
      cases g1 : (a.ro == 1)
      · have n1 : (a.ro != 1) = true := by simp [bne, g1]
        have hE : er = 18 := HE.out.symm.trans (by simp [sucE, quE, g1])
        subst hE
        clear g1
        go_wp2_with (first | ((with_reducible refine wpList_store_proc (v0 := .int .i64 0) (v1 := .int .i64 0) (v2 := .int .i64 0) (v3 := .int .i64 0) (v4 := .int .i64 0) (v5 := .int .i64 0) (v6 := .bool false) (v7 := .bool false) ?_ (.tmp 10) (.tmp 34) ?_ w (w.heap.size + 1) ?_ ?_ ⟨ki, fr, to_, 0, ep, cy, dn, fa⟩ ?_ ?_); rfl; rfl; (repeat' (first | with_reducible exact KQ.out | (with_reducible refine Held.alloc ?_ _) | (with_reducible refine Held.setOther ?_ (Nat.le_refl _) (Nat.succ_ne_self _) _))); rfl; rfl; intro w9 K9 hg; have K9 := Keep.mk K9; have HG := Keep.mk hg; clear hg))
        exact suc_no w0 w _ _ _ _ _ _ _ _ _ 18 rfl rfl rfl (by decide) K9.out
      have n1 : (a.ro != 1) = false := by simp [bne, g1]
      cases g2 : (v == a.ap)
      · have n2 : (v != a.ap) = true := by simp [bne, g2]
        have hE : er = 22 := HE.out.symm.trans (by simp [sucE, quE, g1,g2])
        subst hE
        clear g1 g2
        go_wp2_with (first | ((with_reducible refine wpList_store_proc (v0 := .int .i64 0) (v1 := .int .i64 0) (v2 := .int .i64 0) (v3 := .int .i64 0) (v4 := .int .i64 0) (v5 := .int .i64 0) (v6 := .bool false) (v7 := .bool false) ?_ (.tmp 10) (.tmp 40) ?_ w (w.heap.size + 1) ?_ ?_ ⟨ki, fr, to_, 0, ep, cy, dn, fa⟩ ?_ ?_); rfl; rfl; (repeat' (first | with_reducible exact KQ.out | (with_reducible refine Held.alloc ?_ _) | (with_reducible refine Held.setOther ?_ (Nat.le_refl _) (Nat.succ_ne_self _) _))); rfl; rfl; intro w9 K9 hg; have K9 := Keep.mk K9; have HG := Keep.mk hg; clear hg))
        exact suc_no w0 w _ _ _ _ _ _ _ _ _ 22 rfl rfl rfl (by decide) K9.out
      have n2 : (v != a.ap) = false := by simp [bne, g2]
      have hE : er = 0 := HE.out.symm.trans (by simp [sucE, quE, g1,g2])
      have hP : sucP ⟨ki, fr, to_, 0, ep, cy, dn, fa⟩ v = ⟨ki, fr, to_, 1, ep, v, dn, fa⟩ := by simp [sucP, g1,g2]
      have HPP := Keep.mk hP
      subst hE
      clear hP g1 g2
      go_wp2_with (first | ((with_reducible refine wpList_store_proc (v0 := .int .i64 0) (v1 := .int .i64 0) (v2 := .int .i64 0) (v3 := .int .i64 0) (v4 := .int .i64 0) (v5 := .int .i64 0) (v6 := .bool false) (v7 := .bool false) ?_ (.tmp 10) (.tmp 157) ?_ w (w.heap.size + 1) ?_ ?_ ⟨ki, fr, to_, 1, ep, v, dn, fa⟩ ?_ ?_); rfl; rfl; (repeat' (first | with_reducible exact KQ.out | (with_reducible refine Held.alloc ?_ _) | (with_reducible refine Held.setOther ?_ (Nat.le_refl _) (Nat.succ_ne_self _) _))); rfl; rfl; intro w9 K9 hg; have K9 := Keep.mk K9; have HG := Keep.mk hg; clear hg))
      exact suc_ok w0 w _ _ _ _ _ _ _ _ ⟨ki, fr, to_, 1, ep, v, dn, fa⟩ _ _ _ _ rfl HPP.out rfl rfl rfl K9.out l rfl (.inl ⟨rfl, rfl, rfl⟩)
    · subst hs
      have SLA := fun w => ref_SameLineage w Aa Ab ca cb a.li b.li
      cases g1 : (v == b.ap)
      · have n1 : (v != b.ap) = true := by simp [bne, g1]
        have hE : er = 22 := HE.out.symm.trans (by simp [sucE, drE, g1])
        subst hE
        clear g1
        go_wp2_with (first | ((with_reducible refine wpList_store_proc (v0 := .int .i64 0) (v1 := .int .i64 0) (v2 := .int .i64 0) (v3 := .int .i64 0) (v4 := .int .i64 0) (v5 := .int .i64 0) (v6 := .bool false) (v7 := .bool false) ?_ (.tmp 10) (.tmp 57) ?_ w (w.heap.size + 1) ?_ ?_ ⟨ki, fr, to_, 1, ep, cy, dn, fa⟩ ?_ ?_); rfl; rfl; (repeat' (first | with_reducible exact KQ.out | (with_reducible refine Held.alloc ?_ _) | (with_reducible refine Held.setOther ?_ (Nat.le_refl _) (Nat.succ_ne_self _) _))); rfl; rfl; intro w9 K9 hg; have K9 := Keep.mk K9; have HG := Keep.mk hg; clear hg))
        exact suc_no w0 w _ _ _ _ _ _ _ _ _ 22 rfl rfl rfl (by decide) K9.out
      have n1 : (v != b.ap) = false := by simp [bne, g1]
      cases g2 : decide (v ≤ cy)
      · have n2 : decide (cy < v) = true := by simp at g2 ⊢; omega
        have hE : er = 22 := HE.out.symm.trans (by simp [sucE, drE, g1,g2])
        subst hE
        clear g1 g2
        go_wp2_with (first | ((with_reducible refine wpList_store_proc (v0 := .int .i64 0) (v1 := .int .i64 0) (v2 := .int .i64 0) (v3 := .int .i64 0) (v4 := .int .i64 0) (v5 := .int .i64 0) (v6 := .bool false) (v7 := .bool false) ?_ (.tmp 10) (.tmp 57) ?_ w (w.heap.size + 1) ?_ ?_ ⟨ki, fr, to_, 1, ep, cy, dn, fa⟩ ?_ ?_); rfl; rfl; (repeat' (first | with_reducible exact KQ.out | (with_reducible refine Held.alloc ?_ _) | (with_reducible refine Held.setOther ?_ (Nat.le_refl _) (Nat.succ_ne_self _) _))); rfl; rfl; intro w9 K9 hg; have K9 := Keep.mk K9; have HG := Keep.mk hg; clear hg))
        exact suc_no w0 w _ _ _ _ _ _ _ _ _ 22 rfl rfl rfl (by decide) K9.out
      have n2 : decide (cy < v) = false := by simp at g2 ⊢; omega
      cases g3 : decide (v < cy)
      case true =>
        have n3 := g3
        have hE : er = 0 := HE.out.symm.trans (by simp [sucE, drE, g1,g2,g3])
        have hP : sucP ⟨ki, fr, to_, 1, ep, cy, dn, fa⟩ v = ⟨ki, fr, to_, 1, ep, cy, dn, fa⟩ := by simp [sucP, g1,g2,g3]
        have HPP := Keep.mk hP
        subst hE
        clear hP g1 g2 g3
        go_wp2_with (first | ((with_reducible refine wpList_store_proc (v0 := .int .i64 0) (v1 := .int .i64 0) (v2 := .int .i64 0) (v3 := .int .i64 0) (v4 := .int .i64 0) (v5 := .int .i64 0) (v6 := .bool false) (v7 := .bool false) ?_ (.tmp 10) (.tmp 63) ?_ w (w.heap.size + 1) ?_ ?_ ⟨ki, fr, to_, 1, ep, cy, dn, fa⟩ ?_ ?_); rfl; rfl; (repeat' (first | with_reducible exact KQ.out | (with_reducible refine Held.alloc ?_ _) | (with_reducible refine Held.setOther ?_ (Nat.le_refl _) (Nat.succ_ne_self _) _))); rfl; rfl; intro w9 K9 hg; have K9 := Keep.mk K9; have HG := Keep.mk hg; clear hg))
        exact suc_ok w0 w _ _ _ _ _ _ _ _ ⟨ki, fr, to_, 1, ep, cy, dn, fa⟩ _ _ _ _ rfl HPP.out rfl rfl rfl K9.out l rfl (.inl ⟨rfl, rfl, rfl⟩)
      have n3 := g3
      cases g4 : sameL a.li b.li
      · rw [g4] at SLA
        have hE : er = 19 := HE.out.symm.trans (by simp [sucE, drE, g1,g2,g3,g4])
        subst hE
        clear g1 g2 g3 g4
        go_wp2_with (first | (go_at_call 26; (with_reducible refine (SLA _ (HLI.out.1.below (below_then HW.out HS.out.kp.bel)) (HLI.out.2.below (below_then HW.out HS.out.kp.bel))).mono ?_); rintro e w5 ⟨rfl, hB⟩; have KP5 := HS.out.kp.step hB; clear p0 p1 p2 p3 p4 p5 p6 p7 p8; obtain ⟨⟨p0, p1, p2, p3, p4, p5, p6, p7⟩, p8⟩ := KP5.c8; replace KQ := Keep.mk (KQ.out.step hB); clear hB KP5) | ((with_reducible refine wpList_store_proc (v0 := .int .i64 0) (v1 := .int .i64 0) (v2 := .int .i64 0) (v3 := .int .i64 0) (v4 := .int .i64 0) (v5 := .int .i64 0) (v6 := .bool false) (v7 := .bool false) ?_ (.tmp 10) (.tmp 71) ?_ w (w.heap.size + 1) ?_ ?_ ⟨ki, fr, to_, 1, ep, cy, dn, fa⟩ ?_ ?_); rfl; rfl; (repeat' (first | with_reducible exact KQ.out | (with_reducible refine Held.alloc ?_ _) | (with_reducible refine Held.setOther ?_ (Nat.le_refl _) (Nat.succ_ne_self _) _))); rfl; rfl; intro w9 K9 hg; have K9 := Keep.mk K9; have HG := Keep.mk hg; clear hg))
        exact suc_no w0 w _ _ _ _ _ _ _ _ _ 19 rfl rfl rfl (by decide) K9.out
      rw [g4] at SLA
      have hE : er = 0 := HE.out.symm.trans (by simp [sucE, drE, g1,g2,g3,g4])
      have hP : sucP ⟨ki, fr, to_, 1, ep, cy, dn, fa⟩ v = ⟨ki, fr, to_, 2, ep, cy, dn, fa⟩ := by simp [sucP, g1,g2,g3,g4]
      have HPP := Keep.mk hP
      subst hE
      clear hP g1 g2 g3 g4
      go_wp2_with (first | (go_at_call 26; (with_reducible refine (SLA _ (HLI.out.1.below (below_then HW.out HS.out.kp.bel)) (HLI.out.2.below (below_then HW.out HS.out.kp.bel))).mono ?_); rintro e w5 ⟨rfl, hB⟩; have KP5 := HS.out.kp.step hB; clear p0 p1 p2 p3 p4 p5 p6 p7 p8; obtain ⟨⟨p0, p1, p2, p3, p4, p5, p6, p7⟩, p8⟩ := KP5.c8; replace KQ := Keep.mk (KQ.out.step hB); clear hB KP5) | ((with_reducible refine wpList_store_proc (v0 := .int .i64 0) (v1 := .int .i64 0) (v2 := .int .i64 0) (v3 := .int .i64 0) (v4 := .int .i64 0) (v5 := .int .i64 0) (v6 := .bool false) (v7 := .bool false) ?_ (.tmp 10) (.tmp 157) ?_ w (w.heap.size + 1) ?_ ?_ ⟨ki, fr, to_, 2, ep, cy, dn, fa⟩ ?_ ?_); rfl; rfl; (repeat' (first | with_reducible exact KQ.out | (with_reducible refine Held.alloc ?_ _) | (with_reducible refine Held.setOther ?_ (Nat.le_refl _) (Nat.succ_ne_self _) _))); rfl; rfl; intro w9 K9 hg; have K9 := Keep.mk K9; have HG := Keep.mk hg; clear hg))
      exact suc_ok w0 w _ _ _ _ _ _ _ _ ⟨ki, fr, to_, 2, ep, cy, dn, fa⟩ _ _ _ _ rfl HPP.out rfl rfl rfl K9.out l rfl (.inl ⟨rfl, rfl, rfl⟩)
    · subst hs
      cases g1 : decide (v ≤ 1073741824)
      · have n1 : decide (1073741824 < v) = true := by simp at g1 ⊢; omega
        have hE : er = 2 := HE.out.symm.trans (by simp [sucE, grE, g1])
        subst hE
        clear g1
        go_wp2_with (first | ((with_reducible refine wpList_store_proc (v0 := .int .i64 0) (v1 := .int .i64 0) (v2 := .int .i64 0) (v3 := .int .i64 0) (v4 := .int .i64 0) (v5 := .int .i64 0) (v6 := .bool false) (v7 := .bool false) ?_ (.tmp 10) (.tmp 78) ?_ w (w.heap.size + 1) ?_ ?_ ⟨ki, fr, to_, 2, ep, cy, dn, fa⟩ ?_ ?_); rfl; rfl; (repeat' (first | with_reducible exact KQ.out | (with_reducible refine Held.alloc ?_ _) | (with_reducible refine Held.setOther ?_ (Nat.le_refl _) (Nat.succ_ne_self _) _))); rfl; rfl; intro w9 K9 hg; have K9 := Keep.mk K9; have HG := Keep.mk hg; clear hg))
        exact suc_no w0 w _ _ _ _ _ _ _ _ _ 2 rfl rfl rfl (by decide) K9.out
      have n1 : decide (1073741824 < v) = false := by simp at g1 ⊢; omega
      cases g2 : decide (a.ep < v)
      · have n2 : decide (v ≤ a.ep) = true := by simp at g2 ⊢; omega
        have hE : er = 13 := HE.out.symm.trans (by simp [sucE, grE, g1,g2])
        subst hE
        clear g1 g2
        go_wp2_with (first | ((with_reducible refine wpList_store_proc (v0 := .int .i64 0) (v1 := .int .i64 0) (v2 := .int .i64 0) (v3 := .int .i64 0) (v4 := .int .i64 0) (v5 := .int .i64 0) (v6 := .bool false) (v7 := .bool false) ?_ (.tmp 10) (.tmp 90) ?_ w (w.heap.size + 1) ?_ ?_ ⟨ki, fr, to_, 2, ep, cy, dn, fa⟩ ?_ ?_); rfl; rfl; (repeat' (first | with_reducible exact KQ.out | (with_reducible refine Held.alloc ?_ _) | (with_reducible refine Held.setOther ?_ (Nat.le_refl _) (Nat.succ_ne_self _) _))); rfl; rfl; intro w9 K9 hg; have K9 := Keep.mk K9; have HG := Keep.mk hg; clear hg))
        exact suc_no w0 w _ _ _ _ _ _ _ _ _ 13 rfl rfl rfl (by decide) K9.out
      have n2 : decide (v ≤ a.ep) = false := by simp at g2 ⊢; omega
      cases g3 : decide (b.ep < v)
      · have n3 : decide (v ≤ b.ep) = true := by simp at g3 ⊢; omega
        have hE : er = 13 := HE.out.symm.trans (by simp [sucE, grE, g1,g2,g3])
        subst hE
        clear g1 g2 g3
        go_wp2_with (first | ((with_reducible refine wpList_store_proc (v0 := .int .i64 0) (v1 := .int .i64 0) (v2 := .int .i64 0) (v3 := .int .i64 0) (v4 := .int .i64 0) (v5 := .int .i64 0) (v6 := .bool false) (v7 := .bool false) ?_ (.tmp 10) (.tmp 90) ?_ w (w.heap.size + 1) ?_ ?_ ⟨ki, fr, to_, 2, ep, cy, dn, fa⟩ ?_ ?_); rfl; rfl; (repeat' (first | with_reducible exact KQ.out | (with_reducible refine Held.alloc ?_ _) | (with_reducible refine Held.setOther ?_ (Nat.le_refl _) (Nat.succ_ne_self _) _))); rfl; rfl; intro w9 K9 hg; have K9 := Keep.mk K9; have HG := Keep.mk hg; clear hg))
        exact suc_no w0 w _ _ _ _ _ _ _ _ _ 13 rfl rfl rfl (by decide) K9.out
      have n3 : decide (v ≤ b.ep) = false := by simp at g3 ⊢; omega
      have hE : er = 0 := HE.out.symm.trans (by simp [sucE, grE, g1,g2,g3])
      have hP : sucP ⟨ki, fr, to_, 2, ep, cy, dn, fa⟩ v = ⟨ki, fr, to_, 3, v, cy, dn, fa⟩ := by simp [sucP, g1,g2,g3]
      have HPP := Keep.mk hP
      subst hE
      clear hP g1 g2 g3
      go_wp2_with (first | ((with_reducible refine wpList_store_proc (v0 := .int .i64 0) (v1 := .int .i64 0) (v2 := .int .i64 0) (v3 := .int .i64 0) (v4 := .int .i64 0) (v5 := .int .i64 0) (v6 := .bool false) (v7 := .bool false) ?_ (.tmp 10) (.tmp 157) ?_ w (w.heap.size + 1) ?_ ?_ ⟨ki, fr, to_, 3, v, cy, dn, fa⟩ ?_ ?_); rfl; rfl; (repeat' (first | with_reducible exact KQ.out | (with_reducible refine Held.alloc ?_ _) | (with_reducible refine Held.setOther ?_ (Nat.le_refl _) (Nat.succ_ne_self _) _))); rfl; rfl; intro w9 K9 hg; have K9 := Keep.mk K9; have HG := Keep.mk hg; clear hg))
      exact suc_ok w0 w _ _ _ _ _ _ _ _ ⟨ki, fr, to_, 3, v, cy, dn, fa⟩ _ _ _ _ rfl HPP.out rfl rfl rfl K9.out l rfl (.inl ⟨rfl, rfl, rfl⟩)
    · subst hs
      cases g1 : (a.ap == cy)
      · have n1 : (a.ap != cy) = true := by simp [bne, g1]
        have hE : er = 22 := HE.out.symm.trans (by simp [sucE, deE, g1])
        subst hE
        clear g1
        go_wp2_with (first | ((with_reducible refine wpList_store_proc (v0 := .int .i64 0) (v1 := .int .i64 0) (v2 := .int .i64 0) (v3 := .int .i64 0) (v4 := .int .i64 0) (v5 := .int .i64 0) (v6 := .bool false) (v7 := .bool false) ?_ (.tmp 10) (.tmp 109) ?_ w (w.heap.size + 1) ?_ ?_ ⟨ki, fr, to_, 3, ep, cy, dn, fa⟩ ?_ ?_); rfl; rfl; (repeat' (first | with_reducible exact KQ.out | (with_reducible refine Held.alloc ?_ _) | (with_reducible refine Held.setOther ?_ (Nat.le_refl _) (Nat.succ_ne_self _) _))); rfl; rfl; intro w9 K9 hg; have K9 := Keep.mk K9; have HG := Keep.mk hg; clear hg))
        exact suc_no w0 w _ _ _ _ _ _ _ _ _ 22 rfl rfl rfl (by decide) K9.out
      have n1 : (a.ap != cy) = false := by simp [bne, g1]
      cases g2 : (b.ap == cy)
      · have n2 : (b.ap != cy) = true := by simp [bne, g2]
        have hE : er = 22 := HE.out.symm.trans (by simp [sucE, deE, g1,g2])
        subst hE
        clear g1 g2
        go_wp2_with (first | ((with_reducible refine wpList_store_proc (v0 := .int .i64 0) (v1 := .int .i64 0) (v2 := .int .i64 0) (v3 := .int .i64 0) (v4 := .int .i64 0) (v5 := .int .i64 0) (v6 := .bool false) (v7 := .bool false) ?_ (.tmp 10) (.tmp 109) ?_ w (w.heap.size + 1) ?_ ?_ ⟨ki, fr, to_, 3, ep, cy, dn, fa⟩ ?_ ?_); rfl; rfl; (repeat' (first | with_reducible exact KQ.out | (with_reducible refine Held.alloc ?_ _) | (with_reducible refine Held.setOther ?_ (Nat.le_refl _) (Nat.succ_ne_self _) _))); rfl; rfl; intro w9 K9 hg; have K9 := Keep.mk K9; have HG := Keep.mk hg; clear hg))
        exact suc_no w0 w _ _ _ _ _ _ _ _ _ 22 rfl rfl rfl (by decide) K9.out
      have n2 : (b.ap != cy) = false := by simp [bne, g2]
      by_cases he : (demoteS a ep to_).2 = 0
      · have hE : er = 0 := HE.out.symm.trans (by simp [sucE, deE, g1,g2, he])
        have hP : sucP ⟨ki, fr, to_, 3, ep, cy, dn, fa⟩ v = ⟨ki, fr, to_, 4, ep, cy, dn, fa⟩ := by simp [sucP]
        have hL : sucL ⟨ki, fr, to_, 3, ep, cy, dn, fa⟩ l i k = l.set i (demoteS a ep to_).1 := by simp only [sucL, HAB.out.1, HAB.out.2]; rfl
        have HPP := Keep.mk (And.intro hP hL)
        have HZ := Keep.mk he
        subst hE
        clear hP hL he g1 g2
        go_wp2_with (first | ((go_at_call 60; (with_reducible refine (ref_Demote _ a Aa ca ep to_ (HLI.out.1.below (below_then HW.out HS.out.kp.bel))).mono ?_); rintro e w5 ⟨A5, c5, rfl, hO, hB⟩; have KP5 := HS.out.kp.step hB; clear p0 p1 p2 p3 p4 p5 p6 p7 p8; obtain ⟨⟨p0, p1, p2, p3, p4, p5, p6, p7⟩, p8⟩ := KP5.c8; replace KQ := Keep.mk (KQ.out.step hB); have HKP := Keep.mk KP5; have HO5 := Keep.mk hO; have hn5 : w.heap.size ≠ w5.heap.size := Nat.ne_of_lt KP5.lt; have hl5 : w.heap.size < w5.heap.size := KP5.lt; clear hB KP5 hO); (try rw [HZ.out])) | (go_at_call 61; (with_reducible refine (ref52_replace w0 _ (below_then HW.out (below_new HKP.out.bel _)) _ c l.length 5864062014634 l i (demoteS a ep to_).1 A5 c5 rfl hl4 hi HB0.out HC.out (Lin.own (HO5.out.step (below_new (Below.refl _ _) _)) (Nat.le_trans HW.out.size HS.out.kp.bel.size))).mono ?_); rintro e w6 ⟨A6, c6, m6, rfl, hm, hR, hB⟩; have KP6 := (HKP.out.alloc _).step hB; have HR := Keep.mk (show RowAt w0 w6 (w.heap.size + 2) A6 c6 m6 from ⟨hR.1, hR.2.mono (Nat.le_trans (Nat.succ_le_of_lt KQ.out.lt) (below_new (Below.refl _ _) _).size)⟩); have HM := Keep.mk hm; have HKP6 := Keep.mk KP6; clear p0 p1 p2 p3 p4 p5 p6 p7 p8; obtain ⟨⟨p0, p1, p2, p3, p4, p5, p6, p7⟩, p8⟩ := KP6.c8; replace KQ := Keep.mk ((KQ.out.alloc _).step hB); clear hB KP6 hR hm) | ((with_reducible refine wpList_store_proc (v0 := .int .i64 0) (v1 := .int .i64 0) (v2 := .int .i64 0) (v3 := .int .i64 0) (v4 := .int .i64 0) (v5 := .int .i64 0) (v6 := .bool false) (v7 := .bool false) ?_ (.tmp 10) (.tmp 157) ?_ w (w.heap.size + 1) ?_ ?_ ⟨ki, fr, to_, 4, ep, cy, dn, fa⟩ ?_ ?_); rfl; rfl; (repeat' (first | with_reducible exact KQ.out | (with_reducible refine Held.alloc ?_ _) | (with_reducible refine Held.setOther ?_ (Nat.le_refl _) (Nat.succ_ne_self _) _))); rfl; rfl; intro w9 K9 hg; have K9 := Keep.mk K9; have HG := Keep.mk hg; clear hg))
        have HX := HR.out.oth (HKP6.out.base HW.out) (by decide) (by omega) (grownSet _ _ 3 (.int .i64 4)); have HY := HX.oth ((KQ.out.setOther (j := 3) (Nat.le_refl _) (Nat.succ_ne_self _) (.int .i64 4)).base HW.out) (by decide) (by omega) HG.out
        exact suc_ok w0 w _ _ _ _ _ _ _ _ ⟨ki, fr, to_, 4, ep, cy, dn, fa⟩ _ _ _ _ rfl HPP.out.1 rfl rfl rfl K9.out _ (HPP.out.2.trans HM.out.symm) (.inr ⟨m6, rfl, HY.1, HY.2.mono (Nat.le_add_right _ _)⟩)
      · have hE : er = (demoteS a ep to_).2 := HE.out.symm.trans (by simp [sucE, deE, g1,g2])
        have hN : ((demoteS a ep to_).2 != 0) = true := by simpa using he
        have HZ := Keep.mk he
        subst hE
        clear he g1 g2
        go_wp2_with (first | (go_at_call 60; (with_reducible refine (ref_Demote _ a Aa ca ep to_ (HLI.out.1.below (below_then HW.out HS.out.kp.bel))).mono ?_); rintro e w5 ⟨A5, c5, rfl, hO, hB⟩; have KP5 := HS.out.kp.step hB; clear p0 p1 p2 p3 p4 p5 p6 p7 p8; obtain ⟨⟨p0, p1, p2, p3, p4, p5, p6, p7⟩, p8⟩ := KP5.c8; replace KQ := Keep.mk (KQ.out.step hB); have HKP := Keep.mk KP5; have HO5 := Keep.mk hO; have hn5 : w.heap.size ≠ w5.heap.size := Nat.ne_of_lt KP5.lt; have hl5 : w.heap.size < w5.heap.size := KP5.lt; clear hB KP5 hO) | ((with_reducible refine wpList_store_proc (v0 := .int .i64 0) (v1 := .int .i64 0) (v2 := .int .i64 0) (v3 := .int .i64 0) (v4 := .int .i64 0) (v5 := .int .i64 0) (v6 := .bool false) (v7 := .bool false) ?_ (.tmp 10) (.tmp 122) ?_ w (w.heap.size + 1) ?_ ?_ ⟨ki, fr, to_, 3, ep, cy, dn, fa⟩ ?_ ?_); rfl; rfl; (repeat' (first | with_reducible exact KQ.out | (with_reducible refine Held.alloc ?_ _) | (with_reducible refine Held.setOther ?_ (Nat.le_refl _) (Nat.succ_ne_self _) _))); rfl; rfl; intro w9 K9 hg; have K9 := Keep.mk K9; have HG := Keep.mk hg; clear hg))
        exact suc_no w0 w _ _ _ _ _ _ _ _ _ _ rfl rfl rfl HZ.out K9.out
    · subst hs
      cases g2 : (b.ap == cy)
      · have n2 : (b.ap != cy) = true := by simp [bne, g2]
        have hE : er = 22 := HE.out.symm.trans (by simp [sucE, prE, g2])
        subst hE
        clear g2
        go_wp2_with (first | ((with_reducible refine wpList_store_proc (v0 := .int .i64 0) (v1 := .int .i64 0) (v2 := .int .i64 0) (v3 := .int .i64 0) (v4 := .int .i64 0) (v5 := .int .i64 0) (v6 := .bool false) (v7 := .bool false) ?_ (.tmp 10) (.tmp 137) ?_ w (w.heap.size + 1) ?_ ?_ ⟨ki, fr, to_, 4, ep, cy, dn, fa⟩ ?_ ?_); rfl; rfl; (repeat' (first | with_reducible exact KQ.out | (with_reducible refine Held.alloc ?_ _) | (with_reducible refine Held.setOther ?_ (Nat.le_refl _) (Nat.succ_ne_self _) _))); rfl; rfl; intro w9 K9 hg; have K9 := Keep.mk K9; have HG := Keep.mk hg; clear hg))
        exact suc_no w0 w _ _ _ _ _ _ _ _ _ 22 rfl rfl rfl (by decide) K9.out
      have n2 : (b.ap != cy) = false := by simp [bne, g2]
      by_cases he : (promoteS b ep).2 = 0
      · have hE : er = 0 := HE.out.symm.trans (by simp [sucE, prE, g2, he])
        have hP : sucP ⟨ki, fr, to_, 4, ep, cy, dn, fa⟩ v = ⟨ki, fr, to_, 5, ep, cy, true, fa⟩ := by simp [sucP]
        have hL : sucL ⟨ki, fr, to_, 4, ep, cy, dn, fa⟩ l i k = l.set k (promoteS b ep).1 := by simp only [sucL, HAB.out.1, HAB.out.2]; rfl
        have HPP := Keep.mk (And.intro hP hL)
        have HZ := Keep.mk he
        subst hE
        clear hP hL he g2
        go_wp2_with (first | ((go_at_call 62; (with_reducible refine (ref_Promote _ b Ab cb ep (HLI.out.2.below (below_then HW.out HS.out.kp.bel))).mono ?_); rintro e w5 ⟨A5, c5, rfl, hO, hB⟩; have KP5 := HS.out.kp.step hB; clear p0 p1 p2 p3 p4 p5 p6 p7 p8; obtain ⟨⟨p0, p1, p2, p3, p4, p5, p6, p7⟩, p8⟩ := KP5.c8; replace KQ := Keep.mk (KQ.out.step hB); have HKP := Keep.mk KP5; have HO5 := Keep.mk hO; have hn5 : w.heap.size ≠ w5.heap.size := Nat.ne_of_lt KP5.lt; have hl5 : w.heap.size < w5.heap.size := KP5.lt; clear hB KP5 hO); (try rw [HZ.out])) | (go_at_call 61; (with_reducible refine (ref52_replace w0 _ (below_then HW.out (below_new HKP.out.bel _)) _ c l.length 5864062014634 l k (promoteS b ep).1 A5 c5 rfl hl4 hk HB0.out HC.out (Lin.own (HO5.out.step (below_new (Below.refl _ _) _)) (Nat.le_trans HW.out.size HS.out.kp.bel.size))).mono ?_); rintro e w6 ⟨A6, c6, m6, rfl, hm, hR, hB⟩; have KP6 := (HKP.out.alloc _).step hB; have HR := Keep.mk (show RowAt w0 w6 (w.heap.size + 2) A6 c6 m6 from ⟨hR.1, hR.2.mono (Nat.le_trans (Nat.succ_le_of_lt KQ.out.lt) (below_new (Below.refl _ _) _).size)⟩); have HM := Keep.mk hm; have HKP6 := Keep.mk KP6; clear p0 p1 p2 p3 p4 p5 p6 p7 p8; obtain ⟨⟨p0, p1, p2, p3, p4, p5, p6, p7⟩, p8⟩ := KP6.c8; replace KQ := Keep.mk ((KQ.out.alloc _).step hB); clear hB KP6 hR hm) | ((with_reducible refine wpList_store_proc (v0 := .int .i64 0) (v1 := .int .i64 0) (v2 := .int .i64 0) (v3 := .int .i64 0) (v4 := .int .i64 0) (v5 := .int .i64 0) (v6 := .bool false) (v7 := .bool false) ?_ (.tmp 10) (.tmp 157) ?_ w (w.heap.size + 1) ?_ ?_ ⟨ki, fr, to_, 5, ep, cy, true, fa⟩ ?_ ?_); rfl; rfl; (repeat' (first | with_reducible exact KQ.out | (with_reducible refine Held.alloc ?_ _) | (with_reducible refine Held.setOther ?_ (Nat.le_refl _) (Nat.succ_ne_self _) _))); rfl; rfl; intro w9 K9 hg; have K9 := Keep.mk K9; have HG := Keep.mk hg; clear hg))
        have HX := (HR.out.oth (HKP6.out.base HW.out) (by decide) (by omega) (grownSet _ _ 3 (.int .i64 5))).oth ((HKP6.out.set 3 (.int .i64 5)).base HW.out) (by decide) (by omega) (grownSet _ _ 6 (.bool true)); have HY := HX.oth (((KQ.out.setOther (j := 3) (Nat.le_refl _) (Nat.succ_ne_self _) (.int .i64 5)).setOther (j := 6) (Nat.le_refl _) (Nat.succ_ne_self _) (.bool true)).base HW.out) (by decide) (by omega) HG.out
        exact suc_ok w0 w _ _ _ _ _ _ _ _ ⟨ki, fr, to_, 5, ep, cy, true, fa⟩ _ _ _ _ rfl HPP.out.1 rfl rfl rfl K9.out _ (HPP.out.2.trans HM.out.symm) (.inr ⟨m6, rfl, HY.1, HY.2.mono (Nat.le_add_right _ _)⟩)
      · have hE : er = (promoteS b ep).2 := HE.out.symm.trans (by simp [sucE, prE, g2])
        have hN : ((promoteS b ep).2 != 0) = true := by simpa using he
        have HZ := Keep.mk he
        subst hE
        clear he g2
        go_wp2_with (first | (go_at_call 62; (with_reducible refine (ref_Promote _ b Ab cb ep (HLI.out.2.below (below_then HW.out HS.out.kp.bel))).mono ?_); rintro e w5 ⟨A5, c5, rfl, hO, hB⟩; have KP5 := HS.out.kp.step hB; clear p0 p1 p2 p3 p4 p5 p6 p7 p8; obtain ⟨⟨p0, p1, p2, p3, p4, p5, p6, p7⟩, p8⟩ := KP5.c8; replace KQ := Keep.mk (KQ.out.step hB); have HKP := Keep.mk KP5; have HO5 := Keep.mk hO; have hn5 : w.heap.size ≠ w5.heap.size := Nat.ne_of_lt KP5.lt; have hl5 : w.heap.size < w5.heap.size := KP5.lt; clear hB KP5 hO) | ((with_reducible refine wpList_store_proc (v0 := .int .i64 0) (v1 := .int .i64 0) (v2 := .int .i64 0) (v3 := .int .i64 0) (v4 := .int .i64 0) (v5 := .int .i64 0) (v6 := .bool false) (v7 := .bool false) ?_ (.tmp 10) (.tmp 148) ?_ w (w.heap.size + 1) ?_ ?_ ⟨ki, fr, to_, 4, ep, cy, dn, fa⟩ ?_ ?_); rfl; rfl; (repeat' (first | with_reducible exact KQ.out | (with_reducible refine Held.alloc ?_ _) | (with_reducible refine Held.setOther ?_ (Nat.le_refl _) (Nat.succ_ne_self _) _))); rfl; rfl; intro w9 K9 hg; have K9 := Keep.mk K9; have HG := Keep.mk hg; clear hg))
        exact suc_no w0 w _ _ _ _ _ _ _ _ _ _ rfl rfl rfl HZ.out K9.out
end Go.Proofs.Ytijhkgabonkmfaa
