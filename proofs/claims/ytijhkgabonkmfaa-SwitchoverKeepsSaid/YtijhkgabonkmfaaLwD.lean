/- Contracts: standbylaw52.State.value; plain functions of a switchover under way. -/
import Derived.Test.YtijhkgabonkmfaaLwB
import Derived.Test.YtijhkgabonkmfaaRoleE
namespace Go.Proofs.Ytijhkgabonkmfaa
open Go.RowKit
set_option linter.unusedSimpArgs false
set_option linter.unusedVariables false
set_option maxRecDepth 100000
structure StS where
  p : Proc
  l : List Site
  cy : Int
  old : List Site
  cl : Bool
  ri : Bool
def saS (s : StS) : Site := s.l.getD 0 zS
def sbS (s : StS) : Site := s.l.getD 1 zS
def valueS (s : StS) : Int := if s.p.st = 0 then (saS s).ap else if s.p.st = 1 then (sbS s).ap else 7
/-- an event of kind k (already taken modulo 9), with value v -/
def stateStep (s : StS) (k v : Int) : StS :=
  if s.l.length ≠ 2 then { s with ri := false }
  else if k = 8 then
    (if ((saS s).ro == 1 && s.cl) = true then { s with l := [(applyS (saS s) 1 (s.cy + 1)).1, sbS s], cy := s.cy + 1, ri := s.ri && (applyS (saS s) 1 (s.cy + 1)).2 == 0 } else s)
  else if k = 6 then
    (if (decide ((sbS s).ap < s.cy) && (sbS s).ro == 2 && (saS s).ro == 1) = true then { s with l := [saS s, (applyS (sbS s) 1 ((sbS s).ap + 1)).1], ri := s.ri && (applyS (sbS s) 1 ((sbS s).ap + 1)).2 == 0 } else s)
  else if k = 7 then (if (abortS s.p s.l).2.2 = 0 then { s with p := (abortS s.p s.l).1, l := (abortS s.p s.l).2.1 } else s)
  else
    let s1 : StS := if s.p.st = 3 then { s with old := s.l } else s
    let r := stepS s.p s.l (k != 4) (if k = 5 then v else valueS s)
    if r.2.2 = 0 then { s1 with p := r.1, l := r.2.1 } else s1
set_option maxHeartbeats 1000000 in
theorem law_value (w : World) (s : StS) (A A2 : Option Addr) (c c2 : Nat) (h2 : s.l.length = 2) (h : TSites w A c s.l) : Calls Try.prog 49 #[.agg #[.int .i64 s.p.ki, .int .i64 s.p.fr, .int .i64 s.p.to_, .int .i64 s.p.st, .int .i64 s.p.ep, .int .i64 s.p.cy, .bool s.p.dn, .bool s.p.fa, .slice A s.l.length c, .int .i64 s.cy, .slice A2 s.old.length c2, .bool s.cl, .bool s.ri]] w fun e w' => e = .returned (.int .i64 (valueS s)) ∧ Below w.heap.size w w' := by
  obtain ⟨b, o, A1, c1, hA, -, l0⟩ := ((h.reads 5864062014634).alloc (.cells #[.int .i64 s.p.ki, .int .i64 s.p.fr, .int .i64 s.p.to_, .int .i64 s.p.st, .int .i64 s.p.ep, .int .i64 s.p.cy, .bool s.p.dn, .bool s.p.fa, .slice A s.l.length c, .int .i64 s.cy, .slice A2 s.old.length c2, .bool s.cl, .bool s.ri] 51)).at_ 0 (by omega)
  obtain ⟨b', o', A3, c3, hA', -, l1⟩ := ((h.reads 5864062014634).alloc (.cells #[.int .i64 s.p.ki, .int .i64 s.p.fr, .int .i64 s.p.to_, .int .i64 s.p.st, .int .i64 s.p.ep, .int .i64 s.p.cy, .bool s.p.dn, .bool s.p.fa, .slice A s.l.length c, .int .i64 s.cy, .slice A2 s.old.length c2, .bool s.cl, .bool s.ri] 51)).at_ 1 (by omega)
  rw [hA] at hA'
  injection hA' with hA'
  injection hA' with e1 e2
  subst hA e1 e2
  obtain ⟨-, -, -, a3, -⟩ := l0
  obtain ⟨-, -, -, b3, -⟩ := l1
  simp only [Nat.zero_mul, Nat.add_zero, Nat.one_mul] at a3 b3
  have hv : valueS s = if s.p.st = 0 then (s.l.getD 0 zS).ap else if s.p.st = 1 then (s.l.getD 1 zS).ap else 7 := rfl
  rw [hv]
  clear hv h
  obtain ⟨p, l, cy, old, cl, ri⟩ := s
  simp only at h2 a3 b3 ⊢
  generalize l.getD 0 zS = x at a3
  generalize l.getD 1 zS = y at b3
  have h2' : (0 : Int) < (l.length : Int) ∧ (1 : Int) < (l.length : Int) := by omega
  obtain ⟨h20, h21⟩ := h2'
  have HH := Keep.mk h2
  clear h2
  by_cases g0 : p.st = 0
  · have g1 : (p.st == 0) = true := by simpa using g0
    rw [if_pos g0]
    clear g0
    go_enter Try.func49, Try.ntmps49
    go_wp2_with fail
    go_ret
    exact ⟨rfl, below_new (Below.refl _ _) _⟩
  rw [if_neg g0]
  have g1 : (p.st == 0) = false := by simpa using g0
  clear g0
  by_cases g0 : p.st = 1
  · have g2 : (p.st == 1) = true := by simpa using g0
    rw [if_pos g0]
    clear g0
    go_enter Try.func49, Try.ntmps49
    go_wp2_with fail
    go_ret
    exact ⟨rfl, below_new (Below.refl _ _) _⟩
  rw [if_neg g0]
  have g2 : (p.st == 1) = false := by simpa using g0
  clear g0
  go_enter Try.func49, Try.ntmps49
  go_wp2_with fail
  go_ret
  exact ⟨rfl, below_new (Below.refl _ _) _⟩
/-- the memory of State.step -/
structure StW (w W : World) (s : StS) (A A2 : Option Addr) (c c2 : Nat) (k v : Int) : Prop where
  hs : Held w w.heap.size [.int .i64 s.p.ki, .int .i64 s.p.fr, .int .i64 s.p.to_, .int .i64 s.p.st, .int .i64 s.p.ep, .int .i64 s.p.cy, .bool s.p.dn, .bool s.p.fa, .slice A s.l.length c, .int .i64 s.cy, .slice A2 s.old.length c2, .bool s.cl, .bool s.ri] 51 W
  hx : Held w (w.heap.size + 1) [.int .u8 k, .int .i64 v] 64 W
  hr : Held w (w.heap.size + 2) [.int .i64 0, .int .i64 0, .int .i64 0, .int .i64 0, .int .i64 0, .int .i64 0, .bool false, .bool false, .slice none 0 0, .int .i64 0, .slice none 0 0, .bool false, .bool false] 51 W
  tl : TSites W A c s.l
  to_ : TSites W A2 c2 s.old
theorem StW.step {w W W' : World} {s : StS} {A A2 : Option Addr} {c c2 : Nat} {k v : Int} (h : StW w W s A A2 c c2 k v) (hB : Below W.heap.size W W') : StW w W' s A A2 c c2 k v := ⟨h.hs.step hB, h.hx.step hB, h.hr.step hB, h.tl.step hB, h.to_.step hB⟩
theorem stw_start (w : World) (s : StS) (A A2 : Option Addr) (c c2 : Nat) (k v : Int) (h : TSites w A c s.l) (h2 : TSites w A2 c2 s.old) :
    StW w (((w.alloc (.cells #[.int .i64 s.p.ki, .int .i64 s.p.fr, .int .i64 s.p.to_, .int .i64 s.p.st, .int .i64 s.p.ep, .int .i64 s.p.cy, .bool s.p.dn, .bool s.p.fa, .slice A s.l.length c, .int .i64 s.cy, .slice A2 s.old.length c2, .bool s.cl, .bool s.ri] 51)).alloc (.cells #[.int .u8 k, .int .i64 v] 64)).alloc (.cells #[.int .i64 0, .int .i64 0, .int .i64 0, .int .i64 0, .int .i64 0, .int .i64 0, .bool false, .bool false, .slice none 0 0, .int .i64 0, .slice none 0 0, .bool false, .bool false] 51)) s A A2 c c2 k v := by
  have hB := below_new (below_new (below_new (Below.refl w.heap.size w) (.cells #[.int .i64 s.p.ki, .int .i64 s.p.fr, .int .i64 s.p.to_, .int .i64 s.p.st, .int .i64 s.p.ep, .int .i64 s.p.cy, .bool s.p.dn, .bool s.p.fa, .slice A s.l.length c, .int .i64 s.cy, .slice A2 s.old.length c2, .bool s.cl, .bool s.ri] 51)) (.cells #[.int .u8 k, .int .i64 v] 64)) (.cells #[.int .i64 0, .int .i64 0, .int .i64 0, .int .i64 0, .int .i64 0, .int .i64 0, .bool false, .bool false, .slice none 0 0, .int .i64 0, .slice none 0 0, .bool false, .bool false] 51)
  exact ⟨((Held.new (Below.refl w.heap.size w) _ _).alloc _).alloc _, (Held.newN (n := w.heap.size + 1) (below_new (Below.refl w.heap.size w) _) _ _ (by simp)).alloc _,
    Held.newN (n := w.heap.size + 2) (below_new (below_new (Below.refl w.heap.size w) _) _) _ _ (by simp), h.step hB, h2.step hB⟩
def SStep (w : World) (r : StS) (en : Ending) (w' : World) : Prop := ∃ A c A2 c2, en = .returned (.agg #[.int .i64 r.p.ki, .int .i64 r.p.fr, .int .i64 r.p.to_, .int .i64 r.p.st, .int .i64 r.p.ep, .int .i64 r.p.cy, .bool r.p.dn, .bool r.p.fa, .slice A r.l.length c, .int .i64 r.cy, .slice A2 r.old.length c2, .bool r.cl, .bool r.ri]) ∧ TSites w' A c r.l ∧ TSites w' A2 c2 r.old ∧ Below w.heap.size w w'
theorem st_size : (Try.prog.info? 51).map (·.size) = some 13 := by kernel_rfl
theorem st_one (s : StS) (A A2 : Option Addr) (c c2 : Nat) : (#[.int .i64 s.p.ki, .int .i64 s.p.fr, .int .i64 s.p.to_, .int .i64 s.p.st, .int .i64 s.p.ep, .int .i64 s.p.cy, .bool s.p.dn, .bool s.p.fa, .slice A s.l.length c, .int .i64 s.cy, .slice A2 s.old.length c2, .bool s.cl, .bool s.ri] : Array Value).all (·.oneCell') = true :=
  Array.all_eq_true_iff_forall_mem.2 (fun v hv => by simp only [List.mem_toArray, List.mem_cons, List.not_mem_nil, or_false] at hv; rcases hv with rfl | rfl | rfl | rfl | rfl | rfl | rfl | rfl | rfl | rfl | rfl | rfl | rfl <;> rfl)
/-- a store of one cell of the state -/
theorem StW.put {w W : World} {s s' : StS} {A A2 A' A2' : Option Addr} {c c2 c' c2' : Nat} {k v : Int} (h : StW w W s A A2 c c2 k v) (j : Nat) (u : Value) (hq : ([.int .i64 s.p.ki, .int .i64 s.p.fr, .int .i64 s.p.to_, .int .i64 s.p.st, .int .i64 s.p.ep, .int .i64 s.p.cy, .bool s.p.dn, .bool s.p.fa, .slice A s.l.length c, .int .i64 s.cy, .slice A2 s.old.length c2, .bool s.cl, .bool s.ri] : List Value).set j u = [.int .i64 s'.p.ki, .int .i64 s'.p.fr, .int .i64 s'.p.to_, .int .i64 s'.p.st, .int .i64 s'.p.ep, .int .i64 s'.p.cy, .bool s'.p.dn, .bool s'.p.fa, .slice A' s'.l.length c', .int .i64 s'.cy, .slice A2' s'.old.length c2', .bool s'.cl, .bool s'.ri]) (hl : TSites W A' c' s'.l) (ho : TSites W A2' c2' s'.old) : StW w (W.setCell ⟨w.heap.size, j, none⟩ u) s' A' A2' c' c2' k v :=
  ⟨hq ▸ h.hs.set j u, h.hx.setOther (Nat.le_refl _) (by omega) u, h.hr.setOther (Nat.le_refl _) (by omega) u, hl.other h.hs (by decide) (grown_set _ _ _ _), ho.other h.hs (by decide) (grown_set _ _ _ _)⟩
/-- the procedure and the sites are stored into the state -/
theorem StW.putPL {w W : World} {s : StS} {A A2 A' : Option Addr} {c c2 c' n : Nat} {k v : Int} (h : StW w W s A A2 c c2 k v) (q : Proc) (l : List Site) (hn : n = l.length) (hl : TSites W A' c' l) :
    StW w (((((((((W.setCell ⟨w.heap.size, 0, none⟩ (.int .i64 q.ki)).setCell ⟨w.heap.size, 1, none⟩ (.int .i64 q.fr)).setCell ⟨w.heap.size, 2, none⟩ (.int .i64 q.to_)).setCell ⟨w.heap.size, 3, none⟩ (.int .i64 q.st)).setCell ⟨w.heap.size, 4, none⟩ (.int .i64 q.ep)).setCell ⟨w.heap.size, 5, none⟩ (.int .i64 q.cy)).setCell ⟨w.heap.size, 6, none⟩ (.bool q.dn)).setCell ⟨w.heap.size, 7, none⟩ (.bool q.fa)).setCell ⟨w.heap.size, 8, none⟩ (.slice A' n c')) { s with p := q, l := l } A' A2 c' c2 k v := by
  subst hn
  have G := grownp W w.heap.size q
  have K : Held w w.heap.size [.int .i64 q.ki, .int .i64 q.fr, .int .i64 q.to_, .int .i64 q.st, .int .i64 q.ep, .int .i64 q.cy, .bool q.dn, .bool q.fa, .slice A s.l.length c, .int .i64 s.cy, .slice A2 s.old.length c2, .bool s.cl, .bool s.ri] 51 ((((((((W.setCell ⟨w.heap.size, 0, none⟩ (.int .i64 q.ki)).setCell ⟨w.heap.size, 1, none⟩ (.int .i64 q.fr)).setCell ⟨w.heap.size, 2, none⟩ (.int .i64 q.to_)).setCell ⟨w.heap.size, 3, none⟩ (.int .i64 q.st)).setCell ⟨w.heap.size, 4, none⟩ (.int .i64 q.ep)).setCell ⟨w.heap.size, 5, none⟩ (.int .i64 q.cy)).setCell ⟨w.heap.size, 6, none⟩ (.bool q.dn)).setCell ⟨w.heap.size, 7, none⟩ (.bool q.fa)) :=
    (((((((h.hs.set 0 (.int .i64 q.ki)).set 1 (.int .i64 q.fr)).set 2 (.int .i64 q.to_)).set 3 (.int .i64 q.st)).set 4 (.int .i64 q.ep)).set 5 (.int .i64 q.cy)).set 6 (.bool q.dn)).set 7 (.bool q.fa)
  have hx := h.hx.grown (by omega) (Nat.le_refl _) G
  have hr := h.hr.grown (by omega) (Nat.le_refl _) G
  have hl2 := hl.other h.hs (by decide) G
  have ho2 := h.to_.other h.hs (by decide) G
  generalize ((((((((W.setCell ⟨w.heap.size, 0, none⟩ (.int .i64 q.ki)).setCell ⟨w.heap.size, 1, none⟩ (.int .i64 q.fr)).setCell ⟨w.heap.size, 2, none⟩ (.int .i64 q.to_)).setCell ⟨w.heap.size, 3, none⟩ (.int .i64 q.st)).setCell ⟨w.heap.size, 4, none⟩ (.int .i64 q.ep)).setCell ⟨w.heap.size, 5, none⟩ (.int .i64 q.cy)).setCell ⟨w.heap.size, 6, none⟩ (.bool q.dn)).setCell ⟨w.heap.size, 7, none⟩ (.bool q.fa)) = W8 at K hx hr hl2 ho2 ⊢
  exact ⟨K.set 8 (.slice A' l.length c'), hx.setOther (Nat.le_refl _) (by omega) _, hr.setOther (Nat.le_refl _) (by omega) _, hl2.other K (by decide) (grown_set _ _ _ _), ho2.other K (by decide) (grown_set _ _ _ _)⟩
set_option maxHeartbeats 2000000 in
theorem law_step7 (w : World) (s : StS) (A A2 : Option Addr) (c c2 : Nat) (k0 v : Int) (hk : k0.tmod 9 = 7) (h2 : s.l.length = 2) (h : TSites w A c s.l) (ho : TSites w A2 c2 s.old) :
    Calls Try.prog 29 #[.agg #[.int .i64 s.p.ki, .int .i64 s.p.fr, .int .i64 s.p.to_, .int .i64 s.p.st, .int .i64 s.p.ep, .int .i64 s.p.cy, .bool s.p.dn, .bool s.p.fa, .slice A s.l.length c, .int .i64 s.cy, .slice A2 s.old.length c2, .bool s.cl, .bool s.ri], .agg #[.int .u8 k0, .int .i64 v]] w (SStep w (stateStep s 7 v)) := by
  have HS := Keep.mk (stw_start w s A A2 c c2 k0 v h ho)
  have hne : ((s.l.length : Int) != 2) = false := by rw [h2]; rfl
  obtain ⟨r, hr⟩ : ∃ x, abortS s.p s.l = x := ⟨_, rfl⟩
  obtain ⟨q, l', e⟩ := r
  have HR := Keep.mk hr
  by_cases he : e = 0
  · subst he
    have hv : stateStep s 7 v = { s with p := q, l := l' } := by unfold stateStep; rw [if_neg (not_not_intro h2), if_neg (by decide), if_neg (by decide), if_pos rfl, hr]; simp
    rw [hv]
    clear hv hr h2 h ho
    go_enter Try.func29, Try.ntmps29
    go_upto_region 5 with fail
    generalize (((w.alloc (.cells #[.int .i64 s.p.ki, .int .i64 s.p.fr, .int .i64 s.p.to_, .int .i64 s.p.st, .int .i64 s.p.ep, .int .i64 s.p.cy, .bool s.p.dn, .bool s.p.fa, .slice A s.l.length c, .int .i64 s.cy, .slice A2 s.old.length c2, .bool s.cl, .bool s.ri] 51)).alloc (.cells #[.int .u8 k0, .int .i64 v] 64)).alloc (.cells #[.int .i64 0, .int .i64 0, .int .i64 0, .int .i64 0, .int .i64 0, .int .i64 0, .bool false, .bool false, .slice none 0 0, .int .i64 0, .slice none 0 0, .bool false, .bool false] 51)) = W at HS ⊢
    have p0 := HS.out.hs.cell 0 _ rfl; have p1 := HS.out.hs.cell 1 _ rfl; have p2 := HS.out.hs.cell 2 _ rfl; have p3 := HS.out.hs.cell 3 _ rfl; have p4 := HS.out.hs.cell 4 _ rfl; have p5 := HS.out.hs.cell 5 _ rfl; have p6 := HS.out.hs.cell 6 _ rfl; have p7 := HS.out.hs.cell 7 _ rfl; have p8 := HS.out.hs.cell 8 _ rfl; have p9 := HS.out.hs.cell 9 _ rfl; have p10 := HS.out.hs.cell 10 _ rfl; have p11 := HS.out.hs.cell 11 _ rfl; have p12 := HS.out.hs.cell 12 _ rfl; have pz := HS.out.hs.frozen
    have x0 := HS.out.hx.cell 0 _ rfl
    have x1 := HS.out.hx.cell 1 _ rfl
    go_upto_region 21 with (first
      | (go_at_call 22; (with_reducible refine (sw_Abort _ s.p A c 5864062014634 s.l HS.out.tl.few (HS.out.tl.reads _)).mono ?_); rw [HR.out]; rintro en w1 ⟨A1, c1, m, rfl, hm, hO, hB⟩; have hT : TSites w1 A1 c1 l' := hO.typed hm; have hml : m.length = l'.length := (by have hm2 : m.map (·.s) = l' := hm; rw [← hm2, List.length_map]); rw [hml]; have H1 := Keep.mk (HS.out.step hB); have T1 := Keep.mk hT; clear p0 p1 p2 p3 p4 p5 p6 p7 p8 p9 p10 p11 p12 pz; have hlt1 : w.heap.size < w1.heap.size := (HS.out.hs.step hB).lt; have KS1 := HS.out.hs.step hB; have p0 := KS1.cell 0 _ rfl; have p1 := KS1.cell 1 _ rfl; have p2 := KS1.cell 2 _ rfl; have p3 := KS1.cell 3 _ rfl; have p4 := KS1.cell 4 _ rfl; have p5 := KS1.cell 5 _ rfl; have p6 := KS1.cell 6 _ rfl; have p7 := KS1.cell 7 _ rfl; have p8 := KS1.cell 8 _ rfl; have p9 := KS1.cell 9 _ rfl; have p10 := KS1.cell 10 _ rfl; have p11 := KS1.cell 11 _ rfl; have p12 := KS1.cell 12 _ rfl; have pz := KS1.frozen; clear hT hO hB hm hml KS1))
    have H9 := (H1.out.putPL q l' rfl T1.out).step (below_new (Below.refl _ _) (.cells #[.int .i64 q.ki, .int .i64 q.fr, .int .i64 q.to_, .int .i64 q.st, .int .i64 q.ep, .int .i64 q.cy, .bool q.dn, .bool q.fa] 26))
    generalize hW9 : (((((((((w1.setCell ⟨w.heap.size, 0, none⟩ (.int .i64 q.ki)).setCell ⟨w.heap.size, 1, none⟩ (.int .i64 q.fr)).setCell ⟨w.heap.size, 2, none⟩ (.int .i64 q.to_)).setCell ⟨w.heap.size, 3, none⟩ (.int .i64 q.st)).setCell ⟨w.heap.size, 4, none⟩ (.int .i64 q.ep)).setCell ⟨w.heap.size, 5, none⟩ (.int .i64 q.cy)).setCell ⟨w.heap.size, 6, none⟩ (.bool q.dn)).setCell ⟨w.heap.size, 7, none⟩ (.bool q.fa)).setCell ⟨w.heap.size, 8, none⟩ (.slice A1 l'.length c1)).alloc (.cells #[.int .i64 q.ki, .int .i64 q.fr, .int .i64 q.to_, .int .i64 q.st, .int .i64 q.ep, .int .i64 q.cy, .bool q.dn, .bool q.fa] 26) = W9 at H9 ⊢
    clear hW9 H1 T1 hlt1 HS p0 p1 p2 p3 p4 p5 p6 p7 p8 p9 p10 p11 p12 pz x0 x1
    have H9 := Keep.mk H9
    have p0 := H9.out.hs.cell 0 _ rfl; have p1 := H9.out.hs.cell 1 _ rfl; have p2 := H9.out.hs.cell 2 _ rfl; have p3 := H9.out.hs.cell 3 _ rfl; have p4 := H9.out.hs.cell 4 _ rfl; have p5 := H9.out.hs.cell 5 _ rfl; have p6 := H9.out.hs.cell 6 _ rfl; have p7 := H9.out.hs.cell 7 _ rfl; have p8 := H9.out.hs.cell 8 _ rfl; have p9 := H9.out.hs.cell 9 _ rfl; have p10 := H9.out.hs.cell 10 _ rfl; have p11 := H9.out.hs.cell 11 _ rfl; have p12 := H9.out.hs.cell 12 _ rfl; have pz := H9.out.hs.frozen
    go_wp2_with ((with_reducible refine wpList_store_held ?_ 51 (.tmp 4) (.tmp 139) ?_ w (w.heap.size + 2) [.int .i64 0, .int .i64 0, .int .i64 0, .int .i64 0, .int .i64 0, .int .i64 0, .bool false, .bool false, .slice none 0 0, .int .i64 0, .slice none 0 0, .bool false, .bool false] 51 H9.out.hr ?_ [.int .i64 (StS.mk q l' s.cy s.old s.cl s.ri).p.ki, .int .i64 (StS.mk q l' s.cy s.old s.cl s.ri).p.fr, .int .i64 (StS.mk q l' s.cy s.old s.cl s.ri).p.to_, .int .i64 (StS.mk q l' s.cy s.old s.cl s.ri).p.st, .int .i64 (StS.mk q l' s.cy s.old s.cl s.ri).p.ep, .int .i64 (StS.mk q l' s.cy s.old s.cl s.ri).p.cy, .bool (StS.mk q l' s.cy s.old s.cl s.ri).p.dn, .bool (StS.mk q l' s.cy s.old s.cl s.ri).p.fa, .slice A1 (StS.mk q l' s.cy s.old s.cl s.ri).l.length c1, .int .i64 (StS.mk q l' s.cy s.old s.cl s.ri).cy, .slice A2 (StS.mk q l' s.cy s.old s.cl s.ri).old.length c2, .bool (StS.mk q l' s.cy s.old s.cl s.ri).cl, .bool (StS.mk q l' s.cy s.old s.cl s.ri).ri] ?_ ?_ ?_ ?_ ?_); rfl; rfl; rfl; rfl; rfl; exact st_size; exact st_one _ _ _ _ _; intro wE KE hg; have HE := Keep.mk (And.intro KE hg); clear KE hg)
    exact bodyPost_ret (results_row1 rfl _ _ (w.heap.size + 2) 51 _ _ rfl HE.out.1.blk Try.underlying51 rfl (by kernel_rfl)) rfl ⟨A1, c1, A2, c2, rfl, H9.out.tl.other H9.out.hr (by decide) HE.out.2, H9.out.to_.other H9.out.hr (by decide) HE.out.2, HE.out.1.bel⟩
  · have hv : stateStep s 7 v = s := by unfold stateStep; rw [if_neg (not_not_intro h2), if_neg (by decide), if_neg (by decide), if_pos rfl, hr]; simp [he]
    rw [hv]
    have he' : (e == 0) = false := by simpa using he
    clear hv hr h2 h ho he
    go_enter Try.func29, Try.ntmps29
    go_upto_region 5 with fail
    generalize (((w.alloc (.cells #[.int .i64 s.p.ki, .int .i64 s.p.fr, .int .i64 s.p.to_, .int .i64 s.p.st, .int .i64 s.p.ep, .int .i64 s.p.cy, .bool s.p.dn, .bool s.p.fa, .slice A s.l.length c, .int .i64 s.cy, .slice A2 s.old.length c2, .bool s.cl, .bool s.ri] 51)).alloc (.cells #[.int .u8 k0, .int .i64 v] 64)).alloc (.cells #[.int .i64 0, .int .i64 0, .int .i64 0, .int .i64 0, .int .i64 0, .int .i64 0, .bool false, .bool false, .slice none 0 0, .int .i64 0, .slice none 0 0, .bool false, .bool false] 51)) = W at HS ⊢
    have p0 := HS.out.hs.cell 0 _ rfl; have p1 := HS.out.hs.cell 1 _ rfl; have p2 := HS.out.hs.cell 2 _ rfl; have p3 := HS.out.hs.cell 3 _ rfl; have p4 := HS.out.hs.cell 4 _ rfl; have p5 := HS.out.hs.cell 5 _ rfl; have p6 := HS.out.hs.cell 6 _ rfl; have p7 := HS.out.hs.cell 7 _ rfl; have p8 := HS.out.hs.cell 8 _ rfl; have p9 := HS.out.hs.cell 9 _ rfl; have p10 := HS.out.hs.cell 10 _ rfl; have p11 := HS.out.hs.cell 11 _ rfl; have p12 := HS.out.hs.cell 12 _ rfl; have pz := HS.out.hs.frozen
    have x0 := HS.out.hx.cell 0 _ rfl
    have x1 := HS.out.hx.cell 1 _ rfl
    go_upto_region 21 with (first
      | (go_at_call 22; (with_reducible refine (sw_Abort _ s.p A c 5864062014634 s.l HS.out.tl.few (HS.out.tl.reads _)).mono ?_); rw [HR.out]; rintro en w1 ⟨A1, c1, m, rfl, hm, hO, hB⟩; have H1 := Keep.mk (HS.out.step hB); clear p0 p1 p2 p3 p4 p5 p6 p7 p8 p9 p10 p11 p12 pz; have hlt1 : w.heap.size < w1.heap.size := (HS.out.hs.step hB).lt; have KS1 := HS.out.hs.step hB; have p0 := KS1.cell 0 _ rfl; have p1 := KS1.cell 1 _ rfl; have p2 := KS1.cell 2 _ rfl; have p3 := KS1.cell 3 _ rfl; have p4 := KS1.cell 4 _ rfl; have p5 := KS1.cell 5 _ rfl; have p6 := KS1.cell 6 _ rfl; have p7 := KS1.cell 7 _ rfl; have p8 := KS1.cell 8 _ rfl; have p9 := KS1.cell 9 _ rfl; have p10 := KS1.cell 10 _ rfl; have p11 := KS1.cell 11 _ rfl; have p12 := KS1.cell 12 _ rfl; have pz := KS1.frozen; clear hO hB hm KS1))
    have H9 := Keep.mk (H1.out.step (below_new (Below.refl _ _) (.cells #[.int .i64 q.ki, .int .i64 q.fr, .int .i64 q.to_, .int .i64 q.st, .int .i64 q.ep, .int .i64 q.cy, .bool q.dn, .bool q.fa] 26)))
    generalize hW9 : w1.alloc (.cells #[.int .i64 q.ki, .int .i64 q.fr, .int .i64 q.to_, .int .i64 q.st, .int .i64 q.ep, .int .i64 q.cy, .bool q.dn, .bool q.fa] 26) = W9 at H9 ⊢
    clear hW9 H1 hlt1 HS p0 p1 p2 p3 p4 p5 p6 p7 p8 p9 p10 p11 p12 pz x0 x1
    have p0 := H9.out.hs.cell 0 _ rfl; have p1 := H9.out.hs.cell 1 _ rfl; have p2 := H9.out.hs.cell 2 _ rfl; have p3 := H9.out.hs.cell 3 _ rfl; have p4 := H9.out.hs.cell 4 _ rfl; have p5 := H9.out.hs.cell 5 _ rfl; have p6 := H9.out.hs.cell 6 _ rfl; have p7 := H9.out.hs.cell 7 _ rfl; have p8 := H9.out.hs.cell 8 _ rfl; have p9 := H9.out.hs.cell 9 _ rfl; have p10 := H9.out.hs.cell 10 _ rfl; have p11 := H9.out.hs.cell 11 _ rfl; have p12 := H9.out.hs.cell 12 _ rfl; have pz := H9.out.hs.frozen
    go_wp2_with ((with_reducible refine wpList_store_held ?_ 51 (.tmp 4) (.tmp 139) ?_ w (w.heap.size + 2) [.int .i64 0, .int .i64 0, .int .i64 0, .int .i64 0, .int .i64 0, .int .i64 0, .bool false, .bool false, .slice none 0 0, .int .i64 0, .slice none 0 0, .bool false, .bool false] 51 H9.out.hr ?_ [.int .i64 s.p.ki, .int .i64 s.p.fr, .int .i64 s.p.to_, .int .i64 s.p.st, .int .i64 s.p.ep, .int .i64 s.p.cy, .bool s.p.dn, .bool s.p.fa, .slice A s.l.length c, .int .i64 s.cy, .slice A2 s.old.length c2, .bool s.cl, .bool s.ri] ?_ ?_ ?_ ?_ ?_); rfl; rfl; rfl; rfl; rfl; exact st_size; exact st_one _ _ _ _ _; intro wE KE hg; have HE := Keep.mk (And.intro KE hg); clear KE hg)
    exact bodyPost_ret (results_row1 rfl _ _ (w.heap.size + 2) 51 _ _ rfl HE.out.1.blk Try.underlying51 rfl (by kernel_rfl)) rfl ⟨A, c, A2, c2, rfl, H9.out.tl.other H9.out.hr (by decide) HE.out.2, H9.out.to_.other H9.out.hr (by decide) HE.out.2, HE.out.1.bel⟩
end Go.Proofs.Ytijhkgabonkmfaa
