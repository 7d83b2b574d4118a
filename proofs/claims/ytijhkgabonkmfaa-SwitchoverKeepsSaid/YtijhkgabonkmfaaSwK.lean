/- Contract: demote. -/
import Derived.Test.YtijhkgabonkmfaaSwH
import Derived.WalkSpells
namespace Go.Proofs.Ytijhkgabonkmfaa
open Go.RowKit
set_option linter.unusedSimpArgs false
set_option linter.unusedVariables false
set_option maxRecDepth 100000
attribute [local irreducible] wpStill
theorem sw_ok_eq (e : Int) (w : World) (h : e = 0) : Calls Try.prog 40 #[.int .i64 e] w fun en w' => en = .returned (.tuple #[]) ∧ w' = w := by subst h; exact sw_ok_ok w
theorem cell_new {W : World} {o : Obj} {p : Addr} {u : Value} (h : W.cell? p = some u) : (W.alloc o).cell? p = some u := ((below_new (Below.refl W.heap.size W) o).cell (World.block_lt_of_cell? _ _ h)).trans h
theorem cell_set {W : World} {g j : Nat} {v : Value} {p : Addr} {u : Value} (hne : p.block ≠ g) (h : W.cell? p = some u) : (W.setCell ⟨g, j, none⟩ v).cell? p = some u := by
  unfold World.cell? at *
  rw [heap_set_other W g j p.block v hne]
  exact h
theorem cell_stored {W : World} {g : Nat} {r : Site} {A : Option Addr} {c : Nat} {p : Addr} {u : Value} (hne : p.block ≠ g) (h : W.cell? p = some u) : ((((((((W.setCell ⟨g, 0, none⟩ (.int .i64 r.nu)).setCell ⟨g, 1, none⟩ (.int .i64 r.ro)).setCell ⟨g, 2, none⟩ (.int .i64 r.ep)).setCell ⟨g, 3, none⟩ (.int .i64 r.ap)).setCell ⟨g, 4, none⟩ (.slice A r.li.length c)).setCell ⟨g, 5, none⟩ (.int .i64 r.so)).setCell ⟨g, 6, none⟩ (.bool r.al)).setCell ⟨g, 7, none⟩ (.bool r.co)).cell? p = some u :=
  cell_set hne (cell_set hne (cell_set hne (cell_set hne (cell_set hne (cell_set hne (cell_set hne (cell_set hne h)))))))
theorem grown_tr {w1 w2 w3 : World} {g : Nat} (h1 : w1.grownBy w2 (some g)) (h2 : w2.grownBy w3 (some g)) : w1.grownBy w3 (some g) := ⟨h2.os.trans h1.os, h2.tape.trans h1.tape, h2.output.trans h1.output, Nat.le_trans h1.size h2.size, fun q hq hne => (h2.block q (Nat.lt_of_lt_of_le hq h1.size) hne).trans (h1.block q hq hne)⟩
theorem grown8 (W : World) (g : Nat) (r : Site) (A : Option Addr) (c : Nat) : W.grownBy ((((((((W.setCell ⟨g, 0, none⟩ (.int .i64 r.nu)).setCell ⟨g, 1, none⟩ (.int .i64 r.ro)).setCell ⟨g, 2, none⟩ (.int .i64 r.ep)).setCell ⟨g, 3, none⟩ (.int .i64 r.ap)).setCell ⟨g, 4, none⟩ (.slice A r.li.length c)).setCell ⟨g, 5, none⟩ (.int .i64 r.so)).setCell ⟨g, 6, none⟩ (.bool r.al)).setCell ⟨g, 7, none⟩ (.bool r.co)) (some g) :=
  grown_tr (grown_tr (grown_tr (grown_tr (grown_tr (grown_tr (grown_tr (grown_set _ g 0 _) (grown_set _ g 1 _)) (grown_set _ g 2 _)) (grown_set _ g 3 _)) (grown_set _ g 4 _)) (grown_set _ g 5 _)) (grown_set _ g 6 _)) (grown_set _ g 7 _)
theorem Mv.other {w0 W W' : World} {gp b c g : Nat} {p : Proc} {m : List Sv} {cs : List Value} {t : TypeId} (h : Mv w0 W gp b c p m) (K : Held w0 g cs t W) (ht : t ≠ 88) (h1 : gp ≠ g) (h2 : b ≠ g) (hgr : W.grownBy W' (some g)) : Mv w0 W' gp b c p m :=
  ⟨h.kp.grown h1 K.ge hgr, h.row.other K ht (by simp [Value.ownBlock]; exact h2) hgr, h.ne⟩
set_option maxHeartbeats 1000000 in
/-- a site that is stored into a block of its own -/
theorem mv_s {w0 W W4 : World} {gp b c gs base : Nat} {p : Proc} {m : List Sv} {xs : List Value} {tx : TypeId} {v0 v1 v2 v3 v4 v5 v6 v7 : Value} (KS : Held W gs [v0, v1, v2, v3, v4, v5, v6, v7] 57 W4) (H4 : Mv w0 W4 gp b c p m) (KX : Held W W.heap.size xs tx W4) (hw : w0.heap.size ≤ W.heap.size) (n0 : W.heap.size ≠ gs) (n1 : gp ≠ gs) (n2 : b ≠ gs) (r : Site) (A : Option Addr) (c' : Nat) (HO : OwnSp W4 base A c' r.li) (hb : w0.heap.size ≤ base) :
    Held W gs [.int .i64 r.nu, .int .i64 r.ro, .int .i64 r.ep, .int .i64 r.ap, .slice A r.li.length c', .int .i64 r.so, .bool r.al, .bool r.co] 57 ((((((((W4.setCell ⟨gs, 0, none⟩ (.int .i64 r.nu)).setCell ⟨gs, 1, none⟩ (.int .i64 r.ro)).setCell ⟨gs, 2, none⟩ (.int .i64 r.ep)).setCell ⟨gs, 3, none⟩ (.int .i64 r.ap)).setCell ⟨gs, 4, none⟩ (.slice A r.li.length c')).setCell ⟨gs, 5, none⟩ (.int .i64 r.so)).setCell ⟨gs, 6, none⟩ (.bool r.al)).setCell ⟨gs, 7, none⟩ (.bool r.co)) ∧ Mv w0 ((((((((W4.setCell ⟨gs, 0, none⟩ (.int .i64 r.nu)).setCell ⟨gs, 1, none⟩ (.int .i64 r.ro)).setCell ⟨gs, 2, none⟩ (.int .i64 r.ep)).setCell ⟨gs, 3, none⟩ (.int .i64 r.ap)).setCell ⟨gs, 4, none⟩ (.slice A r.li.length c')).setCell ⟨gs, 5, none⟩ (.int .i64 r.so)).setCell ⟨gs, 6, none⟩ (.bool r.al)).setCell ⟨gs, 7, none⟩ (.bool r.co)) gp b c p m ∧ Held W W.heap.size xs tx ((((((((W4.setCell ⟨gs, 0, none⟩ (.int .i64 r.nu)).setCell ⟨gs, 1, none⟩ (.int .i64 r.ro)).setCell ⟨gs, 2, none⟩ (.int .i64 r.ep)).setCell ⟨gs, 3, none⟩ (.int .i64 r.ap)).setCell ⟨gs, 4, none⟩ (.slice A r.li.length c')).setCell ⟨gs, 5, none⟩ (.int .i64 r.so)).setCell ⟨gs, 6, none⟩ (.bool r.al)).setCell ⟨gs, 7, none⟩ (.bool r.co)) ∧ Lin w0 ((((((((W4.setCell ⟨gs, 0, none⟩ (.int .i64 r.nu)).setCell ⟨gs, 1, none⟩ (.int .i64 r.ro)).setCell ⟨gs, 2, none⟩ (.int .i64 r.ep)).setCell ⟨gs, 3, none⟩ (.int .i64 r.ap)).setCell ⟨gs, 4, none⟩ (.slice A r.li.length c')).setCell ⟨gs, 5, none⟩ (.int .i64 r.so)).setCell ⟨gs, 6, none⟩ (.bool r.al)).setCell ⟨gs, 7, none⟩ (.bool r.co)) A c' r.li := by
  have G := grown8 W4 gs r A c'
  have S := site_stored KS r A c' HO
  generalize ((((((((W4.setCell ⟨gs, 0, none⟩ (.int .i64 r.nu)).setCell ⟨gs, 1, none⟩ (.int .i64 r.ro)).setCell ⟨gs, 2, none⟩ (.int .i64 r.ep)).setCell ⟨gs, 3, none⟩ (.int .i64 r.ap)).setCell ⟨gs, 4, none⟩ (.slice A r.li.length c')).setCell ⟨gs, 5, none⟩ (.int .i64 r.so)).setCell ⟨gs, 6, none⟩ (.bool r.al)).setCell ⟨gs, 7, none⟩ (.bool r.co)) = W5 at G S ⊢
  exact ⟨S.1, H4.other (g := gs) ⟨KS.blk, Nat.le_trans hw KS.ge, H4.kp.bel⟩ (by decide) n1 n2 G, KX.grown n0 KS.ge G, .inr (S.2.mono hb)⟩
theorem heap8 (W : World) (b i : Nat) (r : Site) (A : Option Addr) (c' q : Nat) (h : q ≠ b) : ((((((((W.setCell ⟨b, i, none⟩ (.int .i64 r.nu)).setCell ⟨b, i + 1, none⟩ (.int .i64 r.ro)).setCell ⟨b, i + 2, none⟩ (.int .i64 r.ep)).setCell ⟨b, i + 3, none⟩ (.int .i64 r.ap)).setCell ⟨b, i + 4, none⟩ (.slice A r.li.length c')).setCell ⟨b, i + 5, none⟩ (.int .i64 r.so)).setCell ⟨b, i + 6, none⟩ (.bool r.al)).setCell ⟨b, i + 7, none⟩ (.bool r.co)).heap[q]? = W.heap[q]? := by
  iterate 8 rw [heap_set_other _ b _ q _ h]
set_option maxHeartbeats 1000000 in
theorem Mv.setRow {w0 W : World} {gp b c : Nat} {p : Proc} {m : List Sv} (h : Mv w0 W gp b c p m) (i : Nat) (hi : i < m.length) (r : Site) (A : Option Addr) (c' : Nat) (hl : Lin w0 W A c' r.li) : Mv w0 ((((((((W.setCell ⟨b, i * 8, none⟩ (.int .i64 r.nu)).setCell ⟨b, i * 8 + 1, none⟩ (.int .i64 r.ro)).setCell ⟨b, i * 8 + 2, none⟩ (.int .i64 r.ep)).setCell ⟨b, i * 8 + 3, none⟩ (.int .i64 r.ap)).setCell ⟨b, i * 8 + 4, none⟩ (.slice A r.li.length c')).setCell ⟨b, i * 8 + 5, none⟩ (.int .i64 r.so)).setCell ⟨b, i * 8 + 6, none⟩ (.bool r.al)).setCell ⟨b, i * 8 + 7, none⟩ (.bool r.co)) gp b c p (m.set i ⟨r, A, c'⟩) := by
  obtain ⟨b1, hA, hb0, -⟩ := h.row.own.form (by omega)
  have hbb : b = b1 := by cases hA; rfl
  have hb1 : w0.heap.size ≤ b := hbb ▸ hb0
  have hs := OwnSi.setSite h.row.own i hi r A c'
  have hp := OwnAll.put h.row i hi ⟨r, A, c'⟩ hs.1 hl hs.2
  have hk := Held.grown h.kp h.ne hb1 hs.2
  exact Mv.mk hk hp h.ne
set_option maxHeartbeats 1000000 in
theorem mv_rowp {w0 W W5 : World} {gp b c : Nat} {p : Proc} {m : List Sv} (hB : Below W.heap.size W W5) (h : Mv w0 W5 gp b c p m) (i : Nat) (hi : i < m.length) (r : Site) (A : Option Addr) (c' : Nat) (hl : Lin w0 W5 A c' r.li) (n : Int) (q : Proc) (hq : ([.int .i64 p.ki, .int .i64 p.fr, .int .i64 p.to_, .int .i64 p.st, .int .i64 p.ep, .int .i64 p.cy, .bool p.dn, .bool p.fa] : List Value).set 3 (.int .i64 n) = ([.int .i64 q.ki, .int .i64 q.fr, .int .i64 q.to_, .int .i64 q.st, .int .i64 q.ep, .int .i64 q.cy, .bool q.dn, .bool q.fa] : List Value)) :
    MvPost w0 W gp b c q (m.set i ⟨r, A, c'⟩) 0 (.returned (.tuple #[])) (((((((((W5.setCell ⟨b, i * 8, none⟩ (.int .i64 r.nu)).setCell ⟨b, i * 8 + 1, none⟩ (.int .i64 r.ro)).setCell ⟨b, i * 8 + 2, none⟩ (.int .i64 r.ep)).setCell ⟨b, i * 8 + 3, none⟩ (.int .i64 r.ap)).setCell ⟨b, i * 8 + 4, none⟩ (.slice A r.li.length c')).setCell ⟨b, i * 8 + 5, none⟩ (.int .i64 r.so)).setCell ⟨b, i * 8 + 6, none⟩ (.bool r.al)).setCell ⟨b, i * 8 + 7, none⟩ (.bool r.co)).setCell ⟨gp, 3, none⟩ (.int .i64 n)).drew := by
  have h8 := fun q h => heap8 W5 b (i * 8) r A c' q h
  have hs := h.setRow i hi r A c' hl
  generalize ((((((((W5.setCell ⟨b, i * 8, none⟩ (.int .i64 r.nu)).setCell ⟨b, i * 8 + 1, none⟩ (.int .i64 r.ro)).setCell ⟨b, i * 8 + 2, none⟩ (.int .i64 r.ep)).setCell ⟨b, i * 8 + 3, none⟩ (.int .i64 r.ap)).setCell ⟨b, i * 8 + 4, none⟩ (.slice A r.li.length c')).setCell ⟨b, i * 8 + 5, none⟩ (.int .i64 r.so)).setCell ⟨b, i * 8 + 6, none⟩ (.bool r.al)).setCell ⟨b, i * 8 + 7, none⟩ (.bool r.co)) = W6 at h8 hs ⊢
  exact MvPost.ok hB ((hs.setp 3 (.int .i64 n) q hq).drew) (fun q h1 h2 => (heap_set_other W6 gp 3 q _ h1).trans (h8 q h2))
set_option maxHeartbeats 3000000 in
theorem mv_demote (w0 W : World) (gp b c i k : Nat) (p : Proc) (m : List Sv) (v : Int) (a b' : Site) (H : Mv w0 W gp b c p m) (hi : i < m.length) (hk : k < m.length) (ha : (m.getD i zSv).s = a) (hb : (m.getD k zSv).s = b') :
    Calls Try.prog 58 #[.agg #[.pointer (some ⟨gp, 0, none⟩), .pointer (some ⟨b, i * 8, none⟩), .pointer (some ⟨b, k * 8, none⟩), .int .i64 v]] W fun en W' => ∃ A' c', MvPost w0 W gp b c { p with st := 4 } (m.set i ⟨(demoteS a p.ep p.to_).1, A', c'⟩) (deE p a b') en W' := by
  unfold deE
  cases g1 : (a.ap == p.cy)
  · simp only [Bool.true_eq_false, Bool.false_eq_true, if_false, if_true]
    go_enter Try.func58, Try.ntmps58
    go_upto_region 1 with (fail)
    have KX := Held.new (Below.refl W.heap.size W) [.pointer (some ⟨gp, 0, none⟩), .pointer (some ⟨b, i * 8, none⟩), .pointer (some ⟨b, k * 8, none⟩), .int .i64 v] 79
    have H1 := Keep.mk (H.step KX.bel)
    generalize hW1 : W.alloc (.cells #[.pointer (some ⟨gp, 0, none⟩), .pointer (some ⟨b, i * 8, none⟩), .pointer (some ⟨b, k * 8, none⟩), .int .i64 v] 79) = W1 at KX H1 ⊢
    clear hW1
    have x0 := KX.cell 0 _ rfl; have x1 := KX.cell 1 _ rfl; have x2 := KX.cell 2 _ rfl; have x3 := KX.cell 3 _ rfl
    have KX := Keep.mk KX
    obtain ⟨⟨p0, p1, p2, p3, p4, p5, p6, p7⟩, p8⟩ := H1.out.kp.c8
    obtain ⟨A1, c1, ⟨a0, a1, a2, a3, a4, a5, a6, a7, -⟩, SA⟩ := H1.out.at_ i hi a ha
    obtain ⟨A2, c2, ⟨b0, b1, b2, b3, b4, b5, b6, b7, -⟩, SB⟩ := H1.out.at_ k hk b' hb
    have SAB := Keep.mk (And.intro SA SB)
    clear SA SB
    refine wp_region_still_tail 24 (by kernel_rfl) (by kernel_rfl) ?_
    simp only [List.take_succ_cons, List.take_zero, List.drop_succ_cons, List.drop_zero]
    repeat (first | (refine ws_skip (by rfl) ?_; simp only [Act.put, List.setIfInBounds_toArray, List.set_cons_succ, List.set_cons_zero]) | (refine ws_ran (by rfl) ?_; apply Exists.intro; refine ⟨?_, ?_⟩; ((go_simp; rfl)); simp only [Act.put, List.setIfInBounds_toArray, List.set_cons_succ, List.set_cons_zero]))
    refine wpStill_nil ?_
    change wpList _ _ _ _ _ (World.drew _)
    go_wp2_with (first | (go_at_call 34; (with_reducible refine (sw_demand_ok _ _).mono ?_); rintro e w' ⟨rfl, hw⟩; subst w') | (go_at_call 34; (with_reducible refine (sw_demand_no _ _).mono ?_); rintro e w' ⟨rfl, hw⟩; subst w'))
    all_goals (refine ⟨rfl, none, 0, MvPost.no ?_ (by repeat' (first | exact KX.out.bel | (apply below_new) | (refine below_drewN ?_ _) | (refine below_drew ?_) | (refine below_set ?_ (by first | exact Nat.le_refl _ | omega | (simp; done) | (simp; omega)) _)))⟩; decide)
  cases g2 : (b'.ap == p.cy)
  · simp only [Bool.true_eq_false, Bool.false_eq_true, if_false, if_true]
    go_enter Try.func58, Try.ntmps58
    go_upto_region 1 with (fail)
    have KX := Held.new (Below.refl W.heap.size W) [.pointer (some ⟨gp, 0, none⟩), .pointer (some ⟨b, i * 8, none⟩), .pointer (some ⟨b, k * 8, none⟩), .int .i64 v] 79
    have H1 := Keep.mk (H.step KX.bel)
    generalize hW1 : W.alloc (.cells #[.pointer (some ⟨gp, 0, none⟩), .pointer (some ⟨b, i * 8, none⟩), .pointer (some ⟨b, k * 8, none⟩), .int .i64 v] 79) = W1 at KX H1 ⊢
    clear hW1
    have x0 := KX.cell 0 _ rfl; have x1 := KX.cell 1 _ rfl; have x2 := KX.cell 2 _ rfl; have x3 := KX.cell 3 _ rfl
    have KX := Keep.mk KX
    obtain ⟨⟨p0, p1, p2, p3, p4, p5, p6, p7⟩, p8⟩ := H1.out.kp.c8
    obtain ⟨A1, c1, ⟨a0, a1, a2, a3, a4, a5, a6, a7, -⟩, SA⟩ := H1.out.at_ i hi a ha
    obtain ⟨A2, c2, ⟨b0, b1, b2, b3, b4, b5, b6, b7, -⟩, SB⟩ := H1.out.at_ k hk b' hb
    have SAB := Keep.mk (And.intro SA SB)
    clear SA SB
    refine wp_region_still_tail 24 (by kernel_rfl) (by kernel_rfl) ?_
    simp only [List.take_succ_cons, List.take_zero, List.drop_succ_cons, List.drop_zero]
    repeat (first | (refine ws_skip (by rfl) ?_; simp only [Act.put, List.setIfInBounds_toArray, List.set_cons_succ, List.set_cons_zero]) | (refine ws_ran (by rfl) ?_; apply Exists.intro; refine ⟨?_, ?_⟩; ((go_simp; rfl)); simp only [Act.put, List.setIfInBounds_toArray, List.set_cons_succ, List.set_cons_zero]))
    refine wpStill_nil ?_
    change wpList _ _ _ _ _ (World.drew _)
    go_wp2_with (first | (go_at_call 34; (with_reducible refine (sw_demand_ok _ _).mono ?_); rintro e w' ⟨rfl, hw⟩; subst w') | (go_at_call 34; (with_reducible refine (sw_demand_no _ _).mono ?_); rintro e w' ⟨rfl, hw⟩; subst w'))
    all_goals (refine ⟨rfl, none, 0, MvPost.no ?_ (by repeat' (first | exact KX.out.bel | (apply below_new) | (refine below_drewN ?_ _) | (refine below_drew ?_) | (refine below_set ?_ (by first | exact Nat.le_refl _ | omega | (simp; done) | (simp; omega)) _)))⟩; decide)
  simp only [Bool.true_eq_false, Bool.false_eq_true, if_false, if_true]
  go_enter Try.func58, Try.ntmps58
  go_upto_region 1 with (fail)
  have KX := Held.new (Below.refl W.heap.size W) [.pointer (some ⟨gp, 0, none⟩), .pointer (some ⟨b, i * 8, none⟩), .pointer (some ⟨b, k * 8, none⟩), .int .i64 v] 79
  have H1 := Keep.mk (H.step KX.bel)
  generalize hW1 : W.alloc (.cells #[.pointer (some ⟨gp, 0, none⟩), .pointer (some ⟨b, i * 8, none⟩), .pointer (some ⟨b, k * 8, none⟩), .int .i64 v] 79) = W1 at KX H1 ⊢
  clear hW1
  have x0 := KX.cell 0 _ rfl; have x1 := KX.cell 1 _ rfl; have x2 := KX.cell 2 _ rfl; have x3 := KX.cell 3 _ rfl
  have KX := Keep.mk KX
  obtain ⟨⟨p0, p1, p2, p3, p4, p5, p6, p7⟩, p8⟩ := H1.out.kp.c8
  obtain ⟨A1, c1, ⟨a0, a1, a2, a3, a4, a5, a6, a7, -⟩, SA⟩ := H1.out.at_ i hi a ha
  obtain ⟨A2, c2, ⟨b0, b1, b2, b3, b4, b5, b6, b7, -⟩, SB⟩ := H1.out.at_ k hk b' hb
  have SAB := Keep.mk (And.intro SA SB)
  clear SA SB
  refine wp_region_still_tail 24 (by kernel_rfl) (by kernel_rfl) ?_
  simp only [List.take_succ_cons, List.take_zero, List.drop_succ_cons, List.drop_zero]
  repeat (first | (refine ws_skip (by rfl) ?_; simp only [Act.put, List.setIfInBounds_toArray, List.set_cons_succ, List.set_cons_zero]) | (refine ws_ran (by rfl) ?_; apply Exists.intro; refine ⟨?_, ?_⟩; ((go_simp; rfl)); simp only [Act.put, List.setIfInBounds_toArray, List.set_cons_succ, List.set_cons_zero]))
  refine wpStill_nil ?_
  change wpList _ _ _ _ _ (World.drew _)
  go_wp2_with (first | (go_at_call 34; (with_reducible refine (sw_demand_ok _ _).mono ?_); rintro e w' ⟨rfl, hw⟩; subst w') | (go_at_call 34; (with_reducible refine (sw_demand_no _ _).mono ?_); rintro e w' ⟨rfl, hw⟩; subst w'))
  generalize hq : World.drew _ = W3
  have hB : Below W1.heap.size W1 W3 := hq ▸ below_drew (Below.refl _ _)
  replace KX := Keep.mk (KX.out.step hB)
  replace H1 := Keep.mk (H1.out.step hB)
  clear hq hB x0 x1 x2 x3 p0 p1 p2 p3 p4 p5 p6 p7 p8 a0 a1 a2 a3 a4 a5 a6 a7 b0 b1 b2 b3 b4 b5 b6 b7 SAB
  have x0 := KX.out.cell 0 _ rfl; have x1 := KX.out.cell 1 _ rfl; have x2 := KX.out.cell 2 _ rfl; have x3 := KX.out.cell 3 _ rfl
  obtain ⟨⟨p0, p1, p2, p3, p4, p5, p6, p7⟩, p8⟩ := H1.out.kp.c8
  obtain ⟨A1, c1, ⟨a0, a1, a2, a3, a4, a5, a6, a7, -⟩, SA⟩ := H1.out.at_ i hi a ha
  obtain ⟨A2, c2, ⟨b0, b1, b2, b3, b4, b5, b6, b7, -⟩, SB⟩ := H1.out.at_ k hk b' hb
  have SAB := Keep.mk (And.intro SA SB)
  clear SA SB
  have HW := Keep.mk H.kp.bel.size
  have HC := Keep.mk (And.intro KX.out.drew H1.out.drew)
  have HCB := Keep.mk (And.intro (KX.out.alloc (.cells #[.int .i64 0, .int .i64 0, .int .i64 0, .int .i64 0, .slice none 0 0, .int .i64 0, .bool false, .bool false] 57)).drew (And.intro (H1.out.step (below_new (Below.refl _ _) (.cells #[.int .i64 0, .int .i64 0, .int .i64 0, .int .i64 0, .slice none 0 0, .int .i64 0, .bool false, .bool false] 57))).drew (Held.new KX.out.bel [.int .i64 0, .int .i64 0, .int .i64 0, .int .i64 0, .slice none 0 0, .int .i64 0, .bool false, .bool false] 57).drew))
  go_region_held3 (fun V => V.cell? ⟨W.heap.size, 0, none⟩ = some (.pointer (some ⟨gp, 0, none⟩)) ∧ V.cell? ⟨W.heap.size, 1, none⟩ = some (.pointer (some ⟨b, i * 8, none⟩)) ∧ V.cell? ⟨gp, 4, none⟩ = some (.int .i64 p.ep) ∧ V.cell? ⟨gp, 2, none⟩ = some (.int .i64 p.to_) ∧ V.cell? ⟨b, i * 8, none⟩ = some (.int .i64 a.nu) ∧ V.cell? ⟨b, i * 8 + 1, none⟩ = some (.int .i64 a.ro) ∧ V.cell? ⟨b, i * 8 + 2, none⟩ = some (.int .i64 a.ep) ∧ V.cell? ⟨b, i * 8 + 3, none⟩ = some (.int .i64 a.ap) ∧ V.cell? ⟨b, i * 8 + 4, none⟩ = some (.slice A1 a.li.length c1) ∧ V.cell? ⟨b, i * 8 + 5, none⟩ = some (.int .i64 a.so) ∧ V.cell? ⟨b, i * 8 + 6, none⟩ = some (.bool a.al) ∧ V.cell? ⟨b, i * 8 + 7, none⟩ = some (.bool a.co))
    ((first | with_reducible exact ⟨y0, y1, q4, q2, d0, d1, d2, d3, d4, d5, d6, d7⟩ | with_reducible exact ⟨cell_new y0, cell_new y1, cell_new q4, cell_new q2, cell_new d0, cell_new d1, cell_new d2, cell_new d3, cell_new d4, cell_new d5, cell_new d6, cell_new d7⟩ | with_reducible exact ⟨cell_stored n0 y0, cell_stored n0 y1, cell_stored n1 q4, cell_stored n1 q2, cell_stored n2 d0, cell_stored n2 d1, cell_stored n2 d2, cell_stored n2 d3, cell_stored n2 d4, cell_stored n2 d5, cell_stored n2 d6, cell_stored n2 d7⟩ | with_reducible exact ⟨cell_stored n0 (cell_new y0), cell_stored n0 (cell_new y1), cell_stored n1 (cell_new q4), cell_stored n1 (cell_new q2), cell_stored n2 (cell_new d0), cell_stored n2 (cell_new d1), cell_stored n2 (cell_new d2), cell_stored n2 (cell_new d3), cell_stored n2 (cell_new d4), cell_stored n2 (cell_new d5), cell_stored n2 (cell_new d6), cell_stored n2 (cell_new d7)⟩ | exact ⟨x0, x1, p4, p2, a0, a1, a2, a3, a4, a5, a6, a7⟩ | exact ⟨cell_new x0, cell_new x1, cell_new p4, cell_new p2, cell_new a0, cell_new a1, cell_new a2, cell_new a3, cell_new a4, cell_new a5, cell_new a6, cell_new a7⟩))
    (first
      | (go_at_call 78; (with_reducible refine (role_Demote _ a A1 c1 p.ep p.to_ (SAB.out.1.below (below_drew (Below.refl _ _)))).mono ?_); rintro e W4 ⟨A4, c4, rfl, hO, hB⟩; have KX4 := Keep.mk (HC.out.1.step hB); have H4 := Keep.mk (HC.out.2.step hB); have HO4 := Keep.mk hO; have HB4 := Keep.mk (show w0.heap.size ≤ W3.drew.heap.size from H1.out.kp.bel.size); have hlt : b < W3.heap.size := World.block_lt_of_cell? _ _ (a4); have d0 := (hB.cell (p := ⟨b, _, none⟩) hlt).trans (a0); have d1 := (hB.cell (p := ⟨b, _, none⟩) hlt).trans (a1); have d2 := (hB.cell (p := ⟨b, _, none⟩) hlt).trans (a2); have d3 := (hB.cell (p := ⟨b, _, none⟩) hlt).trans (a3); have d4 := (hB.cell (p := ⟨b, _, none⟩) hlt).trans (a4); have d5 := (hB.cell (p := ⟨b, _, none⟩) hlt).trans (a5); have d6 := (hB.cell (p := ⟨b, _, none⟩) hlt).trans (a6); have d7 := (hB.cell (p := ⟨b, _, none⟩) hlt).trans (a7); have KS := Keep.mk (Held.new KX4.out.bel [.int .i64 0, .int .i64 0, .int .i64 0, .int .i64 0, .slice none 0 0, .int .i64 0, .bool false, .bool false] 57); obtain ⟨⟨s0, s1, s2, s3, s4, s5, s6, s7⟩, s8⟩ := KS.out.c8; clear hlt; obtain ⟨⟨q0, q1, q2, q3, q4, q5, q6, q7⟩, q8⟩ := H4.out.kp.c8; have y0 := KX4.out.cell 0 _ rfl; have y1 := KX4.out.cell 1 _ rfl; have n0 : W.heap.size ≠ W4.heap.size := Nat.ne_of_lt KX4.out.lt; have n1 : gp ≠ W4.heap.size := Nat.ne_of_lt H4.out.kp.lt; have n2 : b ≠ W4.heap.size := Nat.ne_of_lt (World.block_lt_of_cell? _ _ d0); clear hO hB)
      | (go_at_call 78; (with_reducible refine (role_Demote _ a A1 c1 p.ep p.to_ (SAB.out.1.below (below_drew (below_new (Below.refl _ _) _)))).mono ?_); rintro e W4 ⟨A4, c4, rfl, hO, hB⟩; have KX4 := Keep.mk (HCB.out.1.step hB); have H4 := Keep.mk (HCB.out.2.1.step hB); have HO4 := Keep.mk hO; have HB4 := Keep.mk (show w0.heap.size ≤ (W3.alloc (.cells #[.int .i64 0, .int .i64 0, .int .i64 0, .int .i64 0, .slice none 0 0, .int .i64 0, .bool false, .bool false] 57)).drew.heap.size from (H1.out.kp.alloc (.cells #[.int .i64 0, .int .i64 0, .int .i64 0, .int .i64 0, .slice none 0 0, .int .i64 0, .bool false, .bool false] 57)).bel.size); have hlt : b < (W3.alloc (.cells #[.int .i64 0, .int .i64 0, .int .i64 0, .int .i64 0, .slice none 0 0, .int .i64 0, .bool false, .bool false] 57)).heap.size := World.block_lt_of_cell? _ _ (cell_new a4); have d0 := (hB.cell (p := ⟨b, _, none⟩) hlt).trans (cell_new a0); have d1 := (hB.cell (p := ⟨b, _, none⟩) hlt).trans (cell_new a1); have d2 := (hB.cell (p := ⟨b, _, none⟩) hlt).trans (cell_new a2); have d3 := (hB.cell (p := ⟨b, _, none⟩) hlt).trans (cell_new a3); have d4 := (hB.cell (p := ⟨b, _, none⟩) hlt).trans (cell_new a4); have d5 := (hB.cell (p := ⟨b, _, none⟩) hlt).trans (cell_new a5); have d6 := (hB.cell (p := ⟨b, _, none⟩) hlt).trans (cell_new a6); have d7 := (hB.cell (p := ⟨b, _, none⟩) hlt).trans (cell_new a7); have KS := Keep.mk (HCB.out.2.2.step hB); obtain ⟨⟨s0, s1, s2, s3, s4, s5, s6, s7⟩, s8⟩ := KS.out.c8; clear hlt; obtain ⟨⟨q0, q1, q2, q3, q4, q5, q6, q7⟩, q8⟩ := H4.out.kp.c8; have y0 := KX4.out.cell 0 _ rfl; have y1 := KX4.out.cell 1 _ rfl; have n0 : W.heap.size ≠ W3.heap.size := Nat.ne_of_lt KX.out.lt; have n1 : gp ≠ W3.heap.size := Nat.ne_of_lt H1.out.kp.lt; have n2 : b ≠ W3.heap.size := Nat.ne_of_lt (World.block_lt_of_cell? _ _ a0); clear hO hB))
  all_goals
    first
      | (have FF := Keep.mk (mv_s KS.out H4.out KX4.out HW.out n0 n1 n2 (demoteS a p.ep p.to_).1 A4 c4 HO4.out HB4.out)
         have hg := n0
         clear n0 n1 n2
         generalize ((((((((W4.setCell ⟨W3.heap.size, 0, none⟩ (.int .i64 (demoteS a p.ep p.to_).1.nu)).setCell ⟨W3.heap.size, 1, none⟩ (.int .i64 (demoteS a p.ep p.to_).1.ro)).setCell ⟨W3.heap.size, 2, none⟩ (.int .i64 (demoteS a p.ep p.to_).1.ep)).setCell ⟨W3.heap.size, 3, none⟩ (.int .i64 (demoteS a p.ep p.to_).1.ap)).setCell ⟨W3.heap.size, 4, none⟩ (.slice A4 (demoteS a p.ep p.to_).1.li.length c4)).setCell ⟨W3.heap.size, 5, none⟩ (.int .i64 (demoteS a p.ep p.to_).1.so)).setCell ⟨W3.heap.size, 6, none⟩ (.bool (demoteS a p.ep p.to_).1.al)).setCell ⟨W3.heap.size, 7, none⟩ (.bool (demoteS a p.ep p.to_).1.co)) = W5 at FF ⊢
         generalize W3.heap.size = gs at FF hg ⊢)
      | (have FF := Keep.mk (And.intro (Held.new KX4.out.bel [.int .i64 (demoteS a p.ep p.to_).1.nu, .int .i64 (demoteS a p.ep p.to_).1.ro, .int .i64 (demoteS a p.ep p.to_).1.ep, .int .i64 (demoteS a p.ep p.to_).1.ap, .slice A4 (demoteS a p.ep p.to_).1.li.length c4, .int .i64 (demoteS a p.ep p.to_).1.so, .bool (demoteS a p.ep p.to_).1.al, .bool (demoteS a p.ep p.to_).1.co] 57) (And.intro (H4.out.step (below_new (Below.refl _ _) (.cells #[.int .i64 (demoteS a p.ep p.to_).1.nu, .int .i64 (demoteS a p.ep p.to_).1.ro, .int .i64 (demoteS a p.ep p.to_).1.ep, .int .i64 (demoteS a p.ep p.to_).1.ap, .slice A4 (demoteS a p.ep p.to_).1.li.length c4, .int .i64 (demoteS a p.ep p.to_).1.so, .bool (demoteS a p.ep p.to_).1.al, .bool (demoteS a p.ep p.to_).1.co] 57))) (And.intro (KX4.out.alloc (.cells #[.int .i64 (demoteS a p.ep p.to_).1.nu, .int .i64 (demoteS a p.ep p.to_).1.ro, .int .i64 (demoteS a p.ep p.to_).1.ep, .int .i64 (demoteS a p.ep p.to_).1.ap, .slice A4 (demoteS a p.ep p.to_).1.li.length c4, .int .i64 (demoteS a p.ep p.to_).1.so, .bool (demoteS a p.ep p.to_).1.al, .bool (demoteS a p.ep p.to_).1.co] 57)) (Lin.own (HO4.out.step (below_new (Below.refl _ _) (.cells #[.int .i64 (demoteS a p.ep p.to_).1.nu, .int .i64 (demoteS a p.ep p.to_).1.ro, .int .i64 (demoteS a p.ep p.to_).1.ep, .int .i64 (demoteS a p.ep p.to_).1.ap, .slice A4 (demoteS a p.ep p.to_).1.li.length c4, .int .i64 (demoteS a p.ep p.to_).1.so, .bool (demoteS a p.ep p.to_).1.al, .bool (demoteS a p.ep p.to_).1.co] 57))) HB4.out))))
         have hg := n0
         clear n0 n1 n2
         generalize W4.alloc (.cells #[.int .i64 (demoteS a p.ep p.to_).1.nu, .int .i64 (demoteS a p.ep p.to_).1.ro, .int .i64 (demoteS a p.ep p.to_).1.ep, .int .i64 (demoteS a p.ep p.to_).1.ap, .slice A4 (demoteS a p.ep p.to_).1.li.length c4, .int .i64 (demoteS a p.ep p.to_).1.so, .bool (demoteS a p.ep p.to_).1.al, .bool (demoteS a p.ep p.to_).1.co] 57) = W5 at FF ⊢
         generalize W4.heap.size = gs at FF hg ⊢)
    clear KX4 H4 HO4 HB4 KS HC HCB SAB
    obtain ⟨t0, t1, t2, t3, t4, t5, t6, t7⟩ := FF.out.1.c8.1
    have t8 := FF.out.1.c8.2
    obtain ⟨⟨p0, p1, p2, p3, p4, p5, p6, p7⟩, p8⟩ := FF.out.2.1.kp.c8
    have x0 := FF.out.2.2.1.cell 0 _ rfl; have x1 := FF.out.2.2.1.cell 1 _ rfl
    obtain ⟨A7, c7, ⟨a0, a1, a2, a3, a4, a5, a6, a7, -⟩, -⟩ := FF.out.2.1.at_ i hi a ha
    obtain ⟨b1, hA, -, -, hfz, -⟩ := FF.out.2.1.row.own.form (by omega)
    have hbb : b = b1 := by cases hA; rfl
    subst hbb
    clear hA
    have hne := FF.out.2.1.ne
    have hne' : b ≠ gp := fun h => hne h.symm
    have hbl : b < W.heap.size := by obtain ⟨_, _, ⟨z0, -⟩, -⟩ := H.at_ i hi a ha; exact World.block_lt_of_cell? _ _ z0
    have nb1 : W.heap.size ≠ b := Nat.ne_of_gt hbl
    have nb2 : b ≠ W.heap.size := Nat.ne_of_lt hbl
    by_cases he : (demoteS a p.ep p.to_).2 = 0
    · go_wp2_with (go_at_call 40; (with_reducible refine (sw_ok_ok _).mono ?_); rintro en w' ⟨rfl, hw⟩; subst w')
      go_region
      go_end0
      refine ⟨A4, c4, ?_⟩
      rw [he]
      exact mv_rowp FF.out.2.2.1.bel FF.out.2.1 i hi (demoteS a p.ep p.to_).1 A4 c4 FF.out.2.2.2 4 { p with st := 4 } rfl
    · have he' : ((demoteS a p.ep p.to_).2 == 0) = false := by simpa using he
      go_wp2_with (go_at_call 40; (with_reducible refine (sw_ok_no _ _ he').mono ?_); rintro en w' ⟨rfl, hw⟩; subst w')
      exact ⟨rfl, none, 0, MvPost.no he FF.out.2.2.1.bel⟩
end Go.Proofs.Ytijhkgabonkmfaa
