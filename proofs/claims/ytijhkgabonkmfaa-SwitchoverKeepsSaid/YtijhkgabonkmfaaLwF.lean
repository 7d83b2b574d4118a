/- Contract: standbylaw52.State.step where a cycle is closed or applied. -/
import Derived.Test.YtijhkgabonkmfaaLwD
namespace Go.Proofs.Ytijhkgabonkmfaa
open Go.RowKit
set_option linter.unusedSimpArgs false
set_option linter.unusedVariables false
set_option maxRecDepth 100000
theorem TSites.two {W : World} {A : Option Addr} {c : Nat} {l : List Site} (h : TSites W A c l) (h2 : l.length = 2) : ∃ b A1 c1 A3 c3, A = some ⟨b, 0, none⟩ ∧ (W.cell? ⟨b, 0, none⟩ = some (.int .i64 (l.getD 0 zS).nu) ∧ W.cell? ⟨b, 1, none⟩ = some (.int .i64 (l.getD 0 zS).ro) ∧ W.cell? ⟨b, 2, none⟩ = some (.int .i64 (l.getD 0 zS).ep) ∧ W.cell? ⟨b, 3, none⟩ = some (.int .i64 (l.getD 0 zS).ap) ∧ W.cell? ⟨b, 4, none⟩ = some (.slice A1 (l.getD 0 zS).li.length c1) ∧ W.cell? ⟨b, 5, none⟩ = some (.int .i64 (l.getD 0 zS).so) ∧ W.cell? ⟨b, 6, none⟩ = some (.bool (l.getD 0 zS).al) ∧ W.cell? ⟨b, 7, none⟩ = some (.bool (l.getD 0 zS).co)) ∧ (W.cell? ⟨b, 8, none⟩ = some (.int .i64 (l.getD 1 zS).nu) ∧ W.cell? ⟨b, 9, none⟩ = some (.int .i64 (l.getD 1 zS).ro) ∧ W.cell? ⟨b, 10, none⟩ = some (.int .i64 (l.getD 1 zS).ep) ∧ W.cell? ⟨b, 11, none⟩ = some (.int .i64 (l.getD 1 zS).ap) ∧ W.cell? ⟨b, 12, none⟩ = some (.slice A3 (l.getD 1 zS).li.length c3) ∧ W.cell? ⟨b, 13, none⟩ = some (.int .i64 (l.getD 1 zS).so) ∧ W.cell? ⟨b, 14, none⟩ = some (.bool (l.getD 1 zS).al) ∧ W.cell? ⟨b, 15, none⟩ = some (.bool (l.getD 1 zS).co)) ∧ TL W A1 c1 (l.getD 0 zS).li ∧ TL W A3 c3 (l.getD 1 zS).li := by
  obtain ⟨m, rfl, ho, h3⟩ := h
  have hm : m.length = 2 := by simpa using h2
  match m, hm with
  | [x, y], _ =>
    rcases ho.1.2 with ⟨hv, h0⟩ | ⟨g, cap, cur, hv, _⟩
    · exact absurd h0 (by simp)
    · injection hv with hA
      have hc := ho.1.cells (g := g) (by rw [hA]; rfl)
      have ea : ∀ j, (⟨g, 0, none⟩ : Addr).add j = ⟨g, j, none⟩ := fun j => by unfold Addr.add; split <;> simp_all
      have hcell : ∀ j v, (svCells [x, y])[j]? = some v → W.cell? ⟨g, j, none⟩ = some v := fun j v hj => by have := hc j v hj; rwa [ea] at this
      exact ⟨g, x.A, x.c, y.A, y.c, hA, ⟨hcell 0 _ rfl, hcell 1 _ rfl, hcell 2 _ rfl, hcell 3 _ rfl, hcell 4 _ rfl, hcell 5 _ rfl, hcell 6 _ rfl, hcell 7 _ rfl⟩, ⟨hcell 8 _ rfl, hcell 9 _ rfl, hcell 10 _ rfl, hcell 11 _ rfl, hcell 12 _ rfl, hcell 13 _ rfl, hcell 14 _ rfl, hcell 15 _ rfl⟩, h3 x (by simp), h3 y (by simp)⟩
theorem TSites.lt {W : World} {A : Option Addr} {c : Nat} {l : List Site} (h : TSites W A c l) : ∀ k, (Value.slice A l.length c).ownBlock = some k → k < W.heap.size := by
  obtain ⟨m, rfl, ho, -⟩ := h
  intro k hk
  exact (ho.lt k (by simpa using hk)).2
theorem TSites.apart {w W W' : World} {A : Option Addr} {c : Nat} {l : List Site} {g : Nat} {cs : List Value} {t : TypeId} (h : TSites W A c l) (K : Held w g cs t W) (ht : t ≠ 88) (hk : ∀ k, (Value.slice A l.length c).ownBlock = some k → k ≠ g) (hgr : W.grownBy W' (some g)) : TSites W' A c l := by
  obtain ⟨m, rfl, h2, h3⟩ := h
  exact ⟨m, rfl, h2.grown (fun e => hk g (by simpa using e) rfl) hgr, fun x hx => (h3 x hx).grown K.blk ht hgr⟩
/-- the memory of State.step, the two sites read -/
structure StX (w W : World) (s : StS) (b : Nat) (A2 A1 A3 : Option Addr) (c c2 c1 c3 : Nat) (k v : Int) : Prop where
  st : StW w W s (some ⟨b, 0, none⟩) A2 c c2 k v
  cx : W.cell? ⟨b, 0, none⟩ = some (.int .i64 (saS s).nu) ∧ W.cell? ⟨b, 1, none⟩ = some (.int .i64 (saS s).ro) ∧ W.cell? ⟨b, 2, none⟩ = some (.int .i64 (saS s).ep) ∧ W.cell? ⟨b, 3, none⟩ = some (.int .i64 (saS s).ap) ∧ W.cell? ⟨b, 4, none⟩ = some (.slice A1 (saS s).li.length c1) ∧ W.cell? ⟨b, 5, none⟩ = some (.int .i64 (saS s).so) ∧ W.cell? ⟨b, 6, none⟩ = some (.bool (saS s).al) ∧ W.cell? ⟨b, 7, none⟩ = some (.bool (saS s).co)
  cy : W.cell? ⟨b, 8, none⟩ = some (.int .i64 (sbS s).nu) ∧ W.cell? ⟨b, 9, none⟩ = some (.int .i64 (sbS s).ro) ∧ W.cell? ⟨b, 10, none⟩ = some (.int .i64 (sbS s).ep) ∧ W.cell? ⟨b, 11, none⟩ = some (.int .i64 (sbS s).ap) ∧ W.cell? ⟨b, 12, none⟩ = some (.slice A3 (sbS s).li.length c3) ∧ W.cell? ⟨b, 13, none⟩ = some (.int .i64 (sbS s).so) ∧ W.cell? ⟨b, 14, none⟩ = some (.bool (sbS s).al) ∧ W.cell? ⟨b, 15, none⟩ = some (.bool (sbS s).co)
  tx : TL W A1 c1 (saS s).li
  ty : TL W A3 c3 (sbS s).li
theorem StX.step {w W W' : World} {s : StS} {b : Nat} {A2 A1 A3 : Option Addr} {c c2 c1 c3 : Nat} {k v : Int} (h : StX w W s b A2 A1 A3 c c2 c1 c3 k v) (hB : Below W.heap.size W W') : StX w W' s b A2 A1 A3 c c2 c1 c3 k v := by
  obtain ⟨x0, x1, x2, x3, x4, x5, x6, x7⟩ := h.cx
  obtain ⟨y0, y1, y2, y3, y4, y5, y6, y7⟩ := h.cy
  have hlt : b < W.heap.size := World.block_lt_of_cell? _ _ x0
  have k : ∀ j v, W.cell? ⟨b, j, none⟩ = some v → W'.cell? ⟨b, j, none⟩ = some v := fun j v hv => (hB.cell (p := ⟨b, j, none⟩) hlt).trans hv
  exact ⟨h.st.step hB, ⟨k _ _ x0, k _ _ x1, k _ _ x2, k _ _ x3, k _ _ x4, k _ _ x5, k _ _ x6, k _ _ x7⟩, ⟨k _ _ y0, k _ _ y1, k _ _ y2, k _ _ y3, k _ _ y4, k _ _ y5, k _ _ y6, k _ _ y7⟩, h.tx.step hB, h.ty.step hB⟩
/-- the blocks that stand: none of them is made later -/
theorem StX.lts {w W : World} {s : StS} {b : Nat} {A2 A1 A3 : Option Addr} {c c2 c1 c3 : Nat} {k v : Int} (h : StX w W s b A2 A1 A3 c c2 c1 c3 k v) : b < W.heap.size ∧ w.heap.size + 2 < W.heap.size ∧ (∀ k, (Value.slice A2 s.old.length c2).ownBlock = some k → k < W.heap.size) := ⟨World.block_lt_of_cell? _ _ h.cx.1, h.st.hr.lt, h.st.to_.lt⟩
theorem StX.put8 {w W : World} {s : StS} {b g : Nat} {A2 A1 A3 : Option Addr} {c c2 c1 c3 : Nat} {k v : Int} {v0 v1 v2 v3 v4 v5 v6 v7 : Value} (h : StX w W s b A2 A1 A3 c c2 c1 c3 k v) (K : Held w g [v0, v1, v2, v3, v4, v5, v6, v7] 57 W) (hg : b < g ∧ w.heap.size + 2 < g ∧ (∀ k, (Value.slice A2 s.old.length c2).ownBlock = some k → k < g)) (r : Site) (A' : Option Addr) (c' : Nat) (hT : TL W A' c' r.li) :
    StX w ((((((((W.setCell ⟨g, 0, none⟩ (.int .i64 r.nu)).setCell ⟨g, 1, none⟩ (.int .i64 r.ro)).setCell ⟨g, 2, none⟩ (.int .i64 r.ep)).setCell ⟨g, 3, none⟩ (.int .i64 r.ap)).setCell ⟨g, 4, none⟩ (.slice A' r.li.length c')).setCell ⟨g, 5, none⟩ (.int .i64 r.so)).setCell ⟨g, 6, none⟩ (.bool r.al)).setCell ⟨g, 7, none⟩ (.bool r.co)) s b A2 A1 A3 c c2 c1 c3 k v ∧ Held w g [.int .i64 r.nu, .int .i64 r.ro, .int .i64 r.ep, .int .i64 r.ap, .slice A' r.li.length c', .int .i64 r.so, .bool r.al, .bool r.co] 57 ((((((((W.setCell ⟨g, 0, none⟩ (.int .i64 r.nu)).setCell ⟨g, 1, none⟩ (.int .i64 r.ro)).setCell ⟨g, 2, none⟩ (.int .i64 r.ep)).setCell ⟨g, 3, none⟩ (.int .i64 r.ap)).setCell ⟨g, 4, none⟩ (.slice A' r.li.length c')).setCell ⟨g, 5, none⟩ (.int .i64 r.so)).setCell ⟨g, 6, none⟩ (.bool r.al)).setCell ⟨g, 7, none⟩ (.bool r.co)) ∧ TL ((((((((W.setCell ⟨g, 0, none⟩ (.int .i64 r.nu)).setCell ⟨g, 1, none⟩ (.int .i64 r.ro)).setCell ⟨g, 2, none⟩ (.int .i64 r.ep)).setCell ⟨g, 3, none⟩ (.int .i64 r.ap)).setCell ⟨g, 4, none⟩ (.slice A' r.li.length c')).setCell ⟨g, 5, none⟩ (.int .i64 r.so)).setCell ⟨g, 6, none⟩ (.bool r.al)).setCell ⟨g, 7, none⟩ (.bool r.co)) A' c' r.li := by
  have G := grown8 W g r A' c'
  have KZ : Held w g [.int .i64 r.nu, .int .i64 r.ro, .int .i64 r.ep, .int .i64 r.ap, .slice A' r.li.length c', .int .i64 r.so, .bool r.al, .bool r.co] 57 ((((((((W.setCell ⟨g, 0, none⟩ (.int .i64 r.nu)).setCell ⟨g, 1, none⟩ (.int .i64 r.ro)).setCell ⟨g, 2, none⟩ (.int .i64 r.ep)).setCell ⟨g, 3, none⟩ (.int .i64 r.ap)).setCell ⟨g, 4, none⟩ (.slice A' r.li.length c')).setCell ⟨g, 5, none⟩ (.int .i64 r.so)).setCell ⟨g, 6, none⟩ (.bool r.al)).setCell ⟨g, 7, none⟩ (.bool r.co)) := (((((((K.set 0 _).set 1 _).set 2 _).set 3 _).set 4 _).set 5 _).set 6 _).set 7 _
  obtain ⟨x0, x1, x2, x3, x4, x5, x6, x7⟩ := h.cx
  obtain ⟨y0, y1, y2, y3, y4, y5, y6, y7⟩ := h.cy
  have hne : b ≠ g := by omega
  have cs : ∀ j v, W.cell? ⟨b, j, none⟩ = some v → ((((((((W.setCell ⟨g, 0, none⟩ (.int .i64 r.nu)).setCell ⟨g, 1, none⟩ (.int .i64 r.ro)).setCell ⟨g, 2, none⟩ (.int .i64 r.ep)).setCell ⟨g, 3, none⟩ (.int .i64 r.ap)).setCell ⟨g, 4, none⟩ (.slice A' r.li.length c')).setCell ⟨g, 5, none⟩ (.int .i64 r.so)).setCell ⟨g, 6, none⟩ (.bool r.al)).setCell ⟨g, 7, none⟩ (.bool r.co)).cell? ⟨b, j, none⟩ = some v := fun j v hv => cell_stored hne hv
  generalize ((((((((W.setCell ⟨g, 0, none⟩ (.int .i64 r.nu)).setCell ⟨g, 1, none⟩ (.int .i64 r.ro)).setCell ⟨g, 2, none⟩ (.int .i64 r.ep)).setCell ⟨g, 3, none⟩ (.int .i64 r.ap)).setCell ⟨g, 4, none⟩ (.slice A' r.li.length c')).setCell ⟨g, 5, none⟩ (.int .i64 r.so)).setCell ⟨g, 6, none⟩ (.bool r.al)).setCell ⟨g, 7, none⟩ (.bool r.co)) = W8 at G KZ cs ⊢
  exact ⟨⟨⟨h.st.hs.grown (by omega) K.ge G, h.st.hx.grown (by omega) K.ge G, h.st.hr.grown (by omega) K.ge G, h.st.tl.apart K (by decide) (fun k hk => by simp [Value.ownBlock] at hk; omega) G, h.st.to_.apart K (by decide) (fun k hk => Nat.ne_of_lt (hg.2.2 k hk)) G⟩,
    ⟨cs _ _ x0, cs _ _ x1, cs _ _ x2, cs _ _ x3, cs _ _ x4, cs _ _ x5, cs _ _ x6, cs _ _ x7⟩, ⟨cs _ _ y0, cs _ _ y1, cs _ _ y2, cs _ _ y3, cs _ _ y4, cs _ _ y5, cs _ _ y6, cs _ _ y7⟩, h.tx.grown K.blk (by decide) G, h.ty.grown K.blk (by decide) G⟩, KZ, hT.grown K.blk (by decide) G⟩
theorem stx_start {w W : World} {s : StS} {A A2 : Option Addr} {c c2 : Nat} {k v : Int} (h : StW w W s A A2 c c2 k v) (h2 : s.l.length = 2) : ∃ b A1 c1 A3 c3, A = some ⟨b, 0, none⟩ ∧ StX w W s b A2 A1 A3 c c2 c1 c3 k v := by
  obtain ⟨b, A1, c1, A3, c3, rfl, hx, hy, tx, ty⟩ := h.tl.two h2
  exact ⟨b, A1, c1, A3, c3, rfl, h, hx, hy, tx, ty⟩
theorem stw_row9 {w W : World} {s : StS} {A A2 : Option Addr} {c c2 : Nat} {k v : Int} (h : StW w W s A A2 c c2 k v) (n : Int) (x y : Site) (Ax Ay : Option Addr) (cx cy : Nat) (hx : TL W Ax cx x.li) (hy : TL W Ay cy y.li) :
    StW w (((W.setCell ⟨w.heap.size, 8, none⟩ (.slice (some ⟨W.heap.size, 0, none⟩) 2 2)).setCell ⟨w.heap.size, 9, none⟩ (.int .i64 n)).alloc (.cells #[.int .i64 x.nu, .int .i64 x.ro, .int .i64 x.ep, .int .i64 x.ap, .slice Ax x.li.length cx, .int .i64 x.so, .bool x.al, .bool x.co, .int .i64 y.nu, .int .i64 y.ro, .int .i64 y.ep, .int .i64 y.ap, .slice Ay y.li.length cy, .int .i64 y.so, .bool y.al, .bool y.co] 57)) (StS.mk s.p [x, y] n s.old s.cl s.ri) (some ⟨W.heap.size, 0, none⟩) A2 2 c2 k v :=
  ⟨((h.hs.set 8 (.slice (some ⟨W.heap.size, 0, none⟩) 2 2)).set 9 (.int .i64 n)).alloc _, ((h.hx.setOther (Nat.le_refl _) (by omega) _).setOther (Nat.le_refl _) (by omega) _).alloc _, ((h.hr.setOther (Nat.le_refl _) (by omega) _).setOther (Nat.le_refl _) (by omega) _).alloc _, pair_sites ((W.setCell ⟨w.heap.size, 8, none⟩ (.slice (some ⟨W.heap.size, 0, none⟩) 2 2)).setCell ⟨w.heap.size, 9, none⟩ (.int .i64 n)) W.heap.size (by simp) Ax Ay cx cy x y ((hx.grown h.hs.blk (by decide) (grown_set W w.heap.size 8 _)).grown (h.hs.set 8 (.slice (some ⟨W.heap.size, 0, none⟩) 2 2)).blk (by decide) (grown_set _ w.heap.size 9 _)) ((hy.grown h.hs.blk (by decide) (grown_set W w.heap.size 8 _)).grown (h.hs.set 8 (.slice (some ⟨W.heap.size, 0, none⟩) 2 2)).blk (by decide) (grown_set _ w.heap.size 9 _)), ((h.to_.other h.hs (by decide) (grown_set W w.heap.size 8 _)).other (h.hs.set 8 (.slice (some ⟨W.heap.size, 0, none⟩) 2 2)) (by decide) (grown_set _ w.heap.size 9 _)).step (below_new (Below.refl _ _) _)⟩
theorem stw_row {w W : World} {s : StS} {A A2 : Option Addr} {c c2 : Nat} {k v : Int} (h : StW w W s A A2 c c2 k v) (x y : Site) (Ax Ay : Option Addr) (cx cy : Nat) (hx : TL W Ax cx x.li) (hy : TL W Ay cy y.li) :
    StW w ((W.setCell ⟨w.heap.size, 8, none⟩ (.slice (some ⟨W.heap.size, 0, none⟩) 2 2)).alloc (.cells #[.int .i64 x.nu, .int .i64 x.ro, .int .i64 x.ep, .int .i64 x.ap, .slice Ax x.li.length cx, .int .i64 x.so, .bool x.al, .bool x.co, .int .i64 y.nu, .int .i64 y.ro, .int .i64 y.ep, .int .i64 y.ap, .slice Ay y.li.length cy, .int .i64 y.so, .bool y.al, .bool y.co] 57)) (StS.mk s.p [x, y] s.cy s.old s.cl s.ri) (some ⟨W.heap.size, 0, none⟩) A2 2 c2 k v :=
  ⟨(h.hs.set 8 (.slice (some ⟨W.heap.size, 0, none⟩) 2 2)).alloc _, (h.hx.setOther (Nat.le_refl _) (by omega) _).alloc _, (h.hr.setOther (Nat.le_refl _) (by omega) _).alloc _, pair_sites (W.setCell ⟨w.heap.size, 8, none⟩ (.slice (some ⟨W.heap.size, 0, none⟩) 2 2)) W.heap.size (by simp) Ax Ay cx cy x y (hx.grown h.hs.blk (by decide) (grown_set W w.heap.size 8 _)) (hy.grown h.hs.blk (by decide) (grown_set W w.heap.size 8 _)), (h.to_.other h.hs (by decide) (grown_set W w.heap.size 8 _)).step (below_new (Below.refl _ _) _)⟩
set_option maxHeartbeats 4000000 in
theorem law_step8 (w : World) (s : StS) (A A2 : Option Addr) (c c2 : Nat) (k0 v : Int) (hk : k0.tmod 9 = 8) (h2 : s.l.length = 2) (hcy : 0 ≤ s.cy ∧ s.cy ≤ 1000000) (hls : (saS s).li.length ≤ 1000000) (hri : s.ri = true) (h : TSites w A c s.l) (ho : TSites w A2 c2 s.old) :
    Calls Try.prog 29 #[.agg #[.int .i64 s.p.ki, .int .i64 s.p.fr, .int .i64 s.p.to_, .int .i64 s.p.st, .int .i64 s.p.ep, .int .i64 s.p.cy, .bool s.p.dn, .bool s.p.fa, .slice A s.l.length c, .int .i64 s.cy, .slice A2 s.old.length c2, .bool s.cl, .bool s.ri], .agg #[.int .u8 k0, .int .i64 v]] w (SStep w (stateStep s 8 v)) := by
  have HS := Keep.mk (stw_start w s A A2 c c2 k0 v h ho)
  have hne : ((s.l.length : Int) != 2) = false := by rw [h2]; rfl
  have hnl : ¬ s.l = [] := by intro e; rw [e] at h2; simp at h2
  have HRI := Keep.mk hri
  clear hri
  have hlen : (0 : Int) < (s.l.length : Int) ∧ (1 : Int) < (s.l.length : Int) := by omega
  obtain ⟨hlen0, hlen1⟩ := hlen
  have hw : IntKind.i64.wrap (s.cy + 1) = s.cy + 1 := IntWalk.i64_in _ (by omega)
  have hv : stateStep s 8 v = if ((saS s).ro == 1 && s.cl) = true then { s with l := [(applyS (saS s) 1 (s.cy + 1)).1, sbS s], cy := s.cy + 1, ri := s.ri && (applyS (saS s) 1 (s.cy + 1)).2 == 0 } else s := by
    unfold stateStep; rw [if_neg (not_not_intro h2), if_pos rfl]
  generalize stateStep s 8 v = s9 at hv ⊢
  have HV := Keep.mk hv
  have HL := Keep.mk h2
  have HLS := Keep.mk hls
  clear hv h2 h ho hcy hls
  go_enter Try.func29, Try.ntmps29
  go_upto_region 5 with fail
  generalize (((w.alloc (.cells #[.int .i64 s.p.ki, .int .i64 s.p.fr, .int .i64 s.p.to_, .int .i64 s.p.st, .int .i64 s.p.ep, .int .i64 s.p.cy, .bool s.p.dn, .bool s.p.fa, .slice A s.l.length c, .int .i64 s.cy, .slice A2 s.old.length c2, .bool s.cl, .bool s.ri] 51)).alloc (.cells #[.int .u8 k0, .int .i64 v] 64)).alloc (.cells #[.int .i64 0, .int .i64 0, .int .i64 0, .int .i64 0, .int .i64 0, .int .i64 0, .bool false, .bool false, .slice none 0 0, .int .i64 0, .slice none 0 0, .bool false, .bool false] 51)) = W at HS ⊢
  have p0 := HS.out.hs.cell 0 _ rfl; have p1 := HS.out.hs.cell 1 _ rfl; have p2 := HS.out.hs.cell 2 _ rfl; have p3 := HS.out.hs.cell 3 _ rfl; have p4 := HS.out.hs.cell 4 _ rfl; have p5 := HS.out.hs.cell 5 _ rfl; have p6 := HS.out.hs.cell 6 _ rfl; have p7 := HS.out.hs.cell 7 _ rfl; have p8 := HS.out.hs.cell 8 _ rfl; have p9 := HS.out.hs.cell 9 _ rfl; have p10 := HS.out.hs.cell 10 _ rfl; have p11 := HS.out.hs.cell 11 _ rfl; have p12 := HS.out.hs.cell 12 _ rfl; have pz := HS.out.hs.frozen
  have x0 := HS.out.hx.cell 0 _ rfl
  have x1 := HS.out.hx.cell 1 _ rfl
  obtain ⟨b, A1, c1, A3, c3, rfl, hX⟩ := stx_start HS.out HL.out
  have HX := Keep.mk hX
  obtain ⟨e0, e1, e2, e3, e4, e5, e6, e7⟩ := HX.out.cx
  clear hX
  cases g1 : ((saS s).ro == 1)
  · have hv := HV.out
    rw [g1] at hv
    simp only [Bool.false_and, Bool.false_eq_true, if_false] at hv
    have hv := hv.symm
    subst hv
    go_upto_region 10 with fail
    have H9 := HX
    go_wp2_with ((with_reducible refine wpList_store_held ?_ 51 (.tmp 4) (.tmp 66) ?_ w (w.heap.size + 2) [.int .i64 0, .int .i64 0, .int .i64 0, .int .i64 0, .int .i64 0, .int .i64 0, .bool false, .bool false, .slice none 0 0, .int .i64 0, .slice none 0 0, .bool false, .bool false] 51 HS.out.hr ?_ [.int .i64 s.p.ki, .int .i64 s.p.fr, .int .i64 s.p.to_, .int .i64 s.p.st, .int .i64 s.p.ep, .int .i64 s.p.cy, .bool s.p.dn, .bool s.p.fa, .slice (some ⟨b, 0, none⟩) s.l.length c, .int .i64 s.cy, .slice A2 s.old.length c2, .bool s.cl, .bool s.ri] ?_ ?_ ?_ ?_ ?_); rfl; rfl; rfl; rfl; rfl; exact st_size; exact st_one _ _ _ _ _; intro wE KE hg; have HE := Keep.mk (And.intro KE hg); clear KE hg)
    exact bodyPost_ret (results_row1 rfl _ _ (w.heap.size + 2) 51 _ _ rfl HE.out.1.blk Try.underlying51 rfl (by kernel_rfl)) rfl ⟨(some ⟨b, 0, none⟩), c, A2, c2, rfl, HS.out.tl.other HS.out.hr (by decide) HE.out.2, HS.out.to_.other HS.out.hr (by decide) HE.out.2, HE.out.1.bel⟩
  cases g2 : s.cl
  · have hv := HV.out
    rw [g2] at hv
    simp only [Bool.and_false, Bool.false_eq_true, if_false] at hv
    have hv := hv.symm
    subst hv
    rw [g2] at p11
    go_upto_region 10 with fail
    clear p11 g2
    have p11 := HS.out.hs.cell 11 _ rfl
    go_wp2_with ((with_reducible refine wpList_store_held ?_ 51 (.tmp 4) (.tmp 66) ?_ w (w.heap.size + 2) [.int .i64 0, .int .i64 0, .int .i64 0, .int .i64 0, .int .i64 0, .int .i64 0, .bool false, .bool false, .slice none 0 0, .int .i64 0, .slice none 0 0, .bool false, .bool false] 51 HS.out.hr ?_ [.int .i64 s.p.ki, .int .i64 s.p.fr, .int .i64 s.p.to_, .int .i64 s.p.st, .int .i64 s.p.ep, .int .i64 s.p.cy, .bool s.p.dn, .bool s.p.fa, .slice (some ⟨b, 0, none⟩) s.l.length c, .int .i64 s.cy, .slice A2 s.old.length c2, .bool s.cl, .bool s.ri] ?_ ?_ ?_ ?_ ?_); rfl; rfl; rfl; rfl; rfl; exact st_size; exact st_one _ _ _ _ _; intro wE KE hg; have HE := Keep.mk (And.intro KE hg); clear KE hg)
    exact bodyPost_ret (results_row1 rfl _ _ (w.heap.size + 2) 51 _ _ rfl HE.out.1.blk Try.underlying51 rfl (by kernel_rfl)) rfl ⟨(some ⟨b, 0, none⟩), c, A2, c2, rfl, HS.out.tl.other HS.out.hr (by decide) HE.out.2, HS.out.to_.other HS.out.hr (by decide) HE.out.2, HE.out.1.bel⟩
  have hv := HV.out.trans (if_pos (by rw [g1, g2]; rfl))
  have hls := HLS.out
  rw [g2] at p11
  go_upto_region 7 with fail
  go_cut [5, 6] (fun s5 s6 wx => ∃ g5 A' c', s5 = .pointer (some ⟨g5, 0, none⟩) ∧ s6 = .int .i64 (applyS (saS s) 1 (s.cy + 1)).2 ∧ Keep (Held w g5 [.int .i64 (applyS (saS s) 1 (s.cy + 1)).1.nu, .int .i64 (applyS (saS s) 1 (s.cy + 1)).1.ro, .int .i64 (applyS (saS s) 1 (s.cy + 1)).1.ep, .int .i64 (applyS (saS s) 1 (s.cy + 1)).1.ap, .slice A' (applyS (saS s) 1 (s.cy + 1)).1.li.length c', .int .i64 (applyS (saS s) 1 (s.cy + 1)).1.so, .bool (applyS (saS s) 1 (s.cy + 1)).1.al, .bool (applyS (saS s) 1 (s.cy + 1)).1.co] 57 wx) ∧ Keep (StX w wx s b A2 A1 A3 c c2 c1 c3 k0 v) ∧ Keep (TL wx A' c' (applyS (saS s) 1 (s.cy + 1)).1.li))
  case first =>
    clear p0 p1 p2 p3 p4 p5 p6 p7 p8 p9 p10 p11 p12 pz x0 x1 e0 e1 e2 e3 e4 e5 e6 e7 g1 g2
    refine wp_region_held_drew (S := fun W' => StX w W' s b A2 A1 A3 c c2 c1 c3 k0 v) (by kernel_rfl) (HX.out.step (below_drew (Below.refl _ _))) (fun hHeld => ?_)
    refine takeD (i := 0) (v := .pointer (some ⟨w.heap.size, 8, none⟩)) rfl rfl (by kernel_rfl) (by kernel_rfl) (by kernel_rfl) (fun _ _ _ h => h) (by rfl) ?_ hHeld ?_
    · intro W' hSw
      go_simp
    simp only [Act.put, List.setIfInBounds_toArray, List.set_cons_zero, List.set_cons_succ]
    refine takeD (i := 1) (v := .slice (some ⟨b, 0, none⟩) s.l.length c) rfl rfl (by kernel_rfl) (by kernel_rfl) (by kernel_rfl) (fun _ _ _ h => h) (by rfl) ?_ hHeld ?_
    · intro W' hSw
      have t8 := hSw.st.hs.cell 8 _ rfl
      go_simp
    simp only [Act.put, List.setIfInBounds_toArray, List.set_cons_zero, List.set_cons_succ]
    refine takeD (i := 2) (v := .pointer (some ⟨b, 0, none⟩)) rfl rfl (by kernel_rfl) (by kernel_rfl) (by kernel_rfl) (fun _ _ _ h => h) (by rfl) ?_ hHeld ?_
    · intro W' hSw
      go_simp
    simp only [Act.put, List.setIfInBounds_toArray, List.set_cons_zero, List.set_cons_succ]
    refine takeD (i := 3) (v := .agg #[.int .i64 (saS s).nu, .int .i64 (saS s).ro, .int .i64 (saS s).ep, .int .i64 (saS s).ap, .slice A1 (saS s).li.length c1, .int .i64 (saS s).so, .bool (saS s).al, .bool (saS s).co]) rfl rfl (by kernel_rfl) (by kernel_rfl) (by kernel_rfl) (fun _ _ _ h => h) (by rfl) ?_ hHeld ?_
    · intro W' hSw
      obtain ⟨t0, t1, t2, t3, t4, t5, t6, t7⟩ := hSw.cx
      go_simp
    simp only [Act.put, List.setIfInBounds_toArray, List.set_cons_zero, List.set_cons_succ]
    refine takeD (i := 4) (v := .pointer (some ⟨w.heap.size, 9, none⟩)) rfl rfl (by kernel_rfl) (by kernel_rfl) (by kernel_rfl) (fun _ _ _ h => h) (by rfl) ?_ hHeld ?_
    · intro W' hSw
      go_simp
    simp only [Act.put, List.setIfInBounds_toArray, List.set_cons_zero, List.set_cons_succ]
    refine takeD (i := 5) (v := .int .i64 s.cy) rfl rfl (by kernel_rfl) (by kernel_rfl) (by kernel_rfl) (fun _ _ _ h => h) (by rfl) ?_ hHeld ?_
    · intro W' hSw
      have t9 := hSw.st.hs.cell 9 _ rfl
      go_simp
    simp only [Act.put, List.setIfInBounds_toArray, List.set_cons_zero, List.set_cons_succ]
    refine takeD (i := 6) (v := .int .i64 (s.cy + 1)) rfl rfl (by kernel_rfl) (by kernel_rfl) (by kernel_rfl) (fun _ _ _ h => h) (by rfl) ?_ hHeld ?_
    · intro W' hSw
      go_simp
    simp only [Act.put, List.setIfInBounds_toArray, List.set_cons_zero, List.set_cons_succ]
    refine wpAnyH_all (rs := [7, 11]) (by kernel_rfl) (by simp) ?_
    intro j hj
    simp only [List.mem_cons, List.not_mem_nil, or_false] at hj
    rcases hj with rfl | rfl
    · refine opCalledX (R := fun v' w' => ∃ A' c', v' = .tuple #[.agg #[.int .i64 (applyS (saS s) 1 (s.cy + 1)).1.nu, .int .i64 (applyS (saS s) 1 (s.cy + 1)).1.ro, .int .i64 (applyS (saS s) 1 (s.cy + 1)).1.ep, .int .i64 (applyS (saS s) 1 (s.cy + 1)).1.ap, .slice A' (applyS (saS s) 1 (s.cy + 1)).1.li.length c', .int .i64 (applyS (saS s) 1 (s.cy + 1)).1.so, .bool (applyS (saS s) 1 (s.cy + 1)).1.al, .bool (applyS (saS s) 1 (s.cy + 1)).1.co], .int .i64 (applyS (saS s) 1 (s.cy + 1)).2] ∧ TL w' A' c' (applyS (saS s) 1 (s.cy + 1)).1.li ∧ Below (W.drew).heap.size (W.drew) w') (f := 48) (args := #[.agg #[.int .i64 (saS s).nu, .int .i64 (saS s).ro, .int .i64 (saS s).ep, .int .i64 (saS s).ap, .slice A1 (saS s).li.length c1, .int .i64 (saS s).so, .bool (saS s).al, .bool (saS s).co], .int .i64 1, .int .i64 (s.cy + 1)]) rfl rfl (by rfl) ?_ ((role_Apply _ (saS s) A1 c1 1 (s.cy + 1) hls (hHeld.tx.reads)).mono ?_) ?_
      · go_simp
      · rintro en w' ⟨A', c', rfl, hO, hB⟩; exact ⟨_, rfl, A', c', rfl, .inr (hO.mono (Nat.zero_le _)), hB⟩
      rintro vv w5 ⟨A', c', rfl, hTL, hB⟩
      have hHeld := hHeld.step hB
      refine ⟨hHeld, ?_⟩
      clear hB
      simp only [Act.put, List.setIfInBounds_toArray, List.set_cons_zero, List.set_cons_succ]
      refine takeD (i := 8) (v := .tuple #[.agg #[.int .i64 (applyS (saS s) 1 (s.cy + 1)).1.nu, .int .i64 (applyS (saS s) 1 (s.cy + 1)).1.ro, .int .i64 (applyS (saS s) 1 (s.cy + 1)).1.ep, .int .i64 (applyS (saS s) 1 (s.cy + 1)).1.ap, .slice A' (applyS (saS s) 1 (s.cy + 1)).1.li.length c', .int .i64 (applyS (saS s) 1 (s.cy + 1)).1.so, .bool (applyS (saS s) 1 (s.cy + 1)).1.al, .bool (applyS (saS s) 1 (s.cy + 1)).1.co], .int .i64 (applyS (saS s) 1 (s.cy + 1)).2]) rfl rfl (by kernel_rfl) (by kernel_rfl) (by kernel_rfl) (fun _ _ _ h => h) (by rfl) ?_ hHeld ?_
      · intro W' hSw
        go_simp
      simp only [Act.put, List.setIfInBounds_toArray, List.set_cons_zero, List.set_cons_succ]
      refine takeD (i := 9) (v := .agg #[.int .i64 (applyS (saS s) 1 (s.cy + 1)).1.nu, .int .i64 (applyS (saS s) 1 (s.cy + 1)).1.ro, .int .i64 (applyS (saS s) 1 (s.cy + 1)).1.ep, .int .i64 (applyS (saS s) 1 (s.cy + 1)).1.ap, .slice A' (applyS (saS s) 1 (s.cy + 1)).1.li.length c', .int .i64 (applyS (saS s) 1 (s.cy + 1)).1.so, .bool (applyS (saS s) 1 (s.cy + 1)).1.al, .bool (applyS (saS s) 1 (s.cy + 1)).1.co]) rfl rfl (by kernel_rfl) (by kernel_rfl) (by kernel_rfl) (fun _ _ _ h => h) (by rfl) ?_ hHeld ?_
      · intro W' hSw
        go_simp
      simp only [Act.put, List.setIfInBounds_toArray, List.set_cons_zero, List.set_cons_succ]
      refine takeD (i := 10) (v := .int .i64 (applyS (saS s) 1 (s.cy + 1)).2) rfl rfl (by kernel_rfl) (by kernel_rfl) (by kernel_rfl) (fun _ _ _ h => h) (by rfl) ?_ hHeld ?_
      · intro W' hSw
        go_simp
      simp only [Act.put, List.setIfInBounds_toArray, List.set_cons_zero, List.set_cons_succ]
      refine wpAnyH_all (rs := [11]) (by kernel_rfl) (by simp) ?_
      intro j hj
      simp only [List.mem_cons, List.not_mem_nil, or_false] at hj
      subst hj
      have hgs := StX.lts hHeld
      refine opRan (v := .pointer (some ⟨(w5).heap.size, 0, none⟩)) (w' := (w5).alloc (.cells #[.int .i64 0, .int .i64 0, .int .i64 0, .int .i64 0, .slice none 0 0, .int .i64 0, .bool false, .bool false] 57)) rfl rfl (by rfl) ?_ (hHeld.step (below_new (Below.refl _ _) _)) ?_
      · go_simp
      have KX := Held.new hHeld.st.hs.bel [.int .i64 0, .int .i64 0, .int .i64 0, .int .i64 0, .slice none 0 0, .int .i64 0, .bool false, .bool false] 57
      have hHeld := hHeld.step (below_new (Below.refl _ _) (.cells #[.int .i64 0, .int .i64 0, .int .i64 0, .int .i64 0, .slice none 0 0, .int .i64 0, .bool false, .bool false] 57))
      simp only [Act.put, List.setIfInBounds_toArray, List.set_cons_zero, List.set_cons_succ]
      have hW56 := below_new (Below.refl w5.heap.size w5) (.cells #[.int .i64 0, .int .i64 0, .int .i64 0, .int .i64 0, .slice none 0 0, .int .i64 0, .bool false, .bool false] 57)
      generalize (w5).alloc (.cells #[.int .i64 0, .int .i64 0, .int .i64 0, .int .i64 0, .slice none 0 0, .int .i64 0, .bool false, .bool false] 57) = W6 at KX hHeld hW56 ⊢
      generalize (w5).heap.size = g5 at KX hgs ⊢
      have hTL := hTL.step (show Below w5.heap.size w5 W6 from hW56)
      refine wpAnyH_all (rs := [12]) (by kernel_rfl) (by simp) ?_
      intro j hj
      simp only [List.mem_cons, List.not_mem_nil, or_false] at hj
      subst hj
      have hP := StX.put8 hHeld KX hgs (applyS (saS s) 1 (s.cy + 1)).1 A' c' hTL
      refine opStored (w' := ((((((((W6.setCell ⟨g5, 0, none⟩ (.int .i64 (applyS (saS s) 1 (s.cy + 1)).1.nu)).setCell ⟨g5, 1, none⟩ (.int .i64 (applyS (saS s) 1 (s.cy + 1)).1.ro)).setCell ⟨g5, 2, none⟩ (.int .i64 (applyS (saS s) 1 (s.cy + 1)).1.ep)).setCell ⟨g5, 3, none⟩ (.int .i64 (applyS (saS s) 1 (s.cy + 1)).1.ap)).setCell ⟨g5, 4, none⟩ (.slice A' (applyS (saS s) 1 (s.cy + 1)).1.li.length c')).setCell ⟨g5, 5, none⟩ (.int .i64 (applyS (saS s) 1 (s.cy + 1)).1.so)).setCell ⟨g5, 6, none⟩ (.bool (applyS (saS s) 1 (s.cy + 1)).1.al)).setCell ⟨g5, 7, none⟩ (.bool (applyS (saS s) 1 (s.cy + 1)).1.co))) rfl rfl (by rfl) ?_ hP.1 ?_
      · obtain ⟨⟨z0, z1, z2, z3, z4, z5, z6, z7⟩, z8⟩ := KX.c8
        go_simp
      have hHeld := hP.1
      
      refine takeD (i := 13) (v := .int .i64 (applyS (saS s) 1 (s.cy + 1)).2) rfl rfl (by kernel_rfl) (by kernel_rfl) (by kernel_rfl) (fun _ _ _ h => h) (by rfl) ?_ hHeld ?_
      · intro W' hSw
        go_simp
      simp only [Act.put, List.setIfInBounds_toArray, List.set_cons_zero, List.set_cons_succ]
      refine wpAnyH_done (by kernel_rfl) ?_ _
      go_wp2_with fail
      go_meet
      exact ⟨g5, A', c', rfl, rfl, ⟨hP.2.1⟩, ⟨hP.1⟩, ⟨hP.2.2⟩⟩
    · have hgs := StX.lts hHeld
      refine opRan (v := .pointer (some ⟨(W.drew).heap.size, 0, none⟩)) (w' := (W.drew).alloc (.cells #[.int .i64 0, .int .i64 0, .int .i64 0, .int .i64 0, .slice none 0 0, .int .i64 0, .bool false, .bool false] 57)) rfl rfl (by rfl) ?_ (hHeld.step (below_new (Below.refl _ _) _)) ?_
      · go_simp
      have KX := Held.new hHeld.st.hs.bel [.int .i64 0, .int .i64 0, .int .i64 0, .int .i64 0, .slice none 0 0, .int .i64 0, .bool false, .bool false] 57
      have hHeld := hHeld.step (below_new (Below.refl _ _) (.cells #[.int .i64 0, .int .i64 0, .int .i64 0, .int .i64 0, .slice none 0 0, .int .i64 0, .bool false, .bool false] 57))
      simp only [Act.put, List.setIfInBounds_toArray, List.set_cons_zero, List.set_cons_succ]
      generalize (W.drew).alloc (.cells #[.int .i64 0, .int .i64 0, .int .i64 0, .int .i64 0, .slice none 0 0, .int .i64 0, .bool false, .bool false] 57) = W6 at KX hHeld ⊢
      generalize (W.drew).heap.size = g5 at KX hgs ⊢
      refine wpAnyH_all (rs := [7]) (by kernel_rfl) (by simp) ?_
      intro j hj
      simp only [List.mem_cons, List.not_mem_nil, or_false] at hj
      subst hj
      refine opCalledX (R := fun v' w' => ∃ A' c', v' = .tuple #[.agg #[.int .i64 (applyS (saS s) 1 (s.cy + 1)).1.nu, .int .i64 (applyS (saS s) 1 (s.cy + 1)).1.ro, .int .i64 (applyS (saS s) 1 (s.cy + 1)).1.ep, .int .i64 (applyS (saS s) 1 (s.cy + 1)).1.ap, .slice A' (applyS (saS s) 1 (s.cy + 1)).1.li.length c', .int .i64 (applyS (saS s) 1 (s.cy + 1)).1.so, .bool (applyS (saS s) 1 (s.cy + 1)).1.al, .bool (applyS (saS s) 1 (s.cy + 1)).1.co], .int .i64 (applyS (saS s) 1 (s.cy + 1)).2] ∧ TL w' A' c' (applyS (saS s) 1 (s.cy + 1)).1.li ∧ Below (W6).heap.size (W6) w') (f := 48) (args := #[.agg #[.int .i64 (saS s).nu, .int .i64 (saS s).ro, .int .i64 (saS s).ep, .int .i64 (saS s).ap, .slice A1 (saS s).li.length c1, .int .i64 (saS s).so, .bool (saS s).al, .bool (saS s).co], .int .i64 1, .int .i64 (s.cy + 1)]) rfl rfl (by rfl) ?_ ((role_Apply _ (saS s) A1 c1 1 (s.cy + 1) hls (hHeld.tx.reads)).mono ?_) ?_
      · go_simp
      · rintro en w' ⟨A', c', rfl, hO, hB⟩; exact ⟨_, rfl, A', c', rfl, .inr (hO.mono (Nat.zero_le _)), hB⟩
      rintro vv w5 ⟨A', c', rfl, hTL, hB⟩
      have hHeld := hHeld.step hB
      have KX := KX.step hB
      refine ⟨hHeld, ?_⟩
      clear hB
      simp only [Act.put, List.setIfInBounds_toArray, List.set_cons_zero, List.set_cons_succ]
      refine takeD (i := 8) (v := .tuple #[.agg #[.int .i64 (applyS (saS s) 1 (s.cy + 1)).1.nu, .int .i64 (applyS (saS s) 1 (s.cy + 1)).1.ro, .int .i64 (applyS (saS s) 1 (s.cy + 1)).1.ep, .int .i64 (applyS (saS s) 1 (s.cy + 1)).1.ap, .slice A' (applyS (saS s) 1 (s.cy + 1)).1.li.length c', .int .i64 (applyS (saS s) 1 (s.cy + 1)).1.so, .bool (applyS (saS s) 1 (s.cy + 1)).1.al, .bool (applyS (saS s) 1 (s.cy + 1)).1.co], .int .i64 (applyS (saS s) 1 (s.cy + 1)).2]) rfl rfl (by kernel_rfl) (by kernel_rfl) (by kernel_rfl) (fun _ _ _ h => h) (by rfl) ?_ hHeld ?_
      · intro W' hSw
        go_simp
      simp only [Act.put, List.setIfInBounds_toArray, List.set_cons_zero, List.set_cons_succ]
      refine takeD (i := 9) (v := .agg #[.int .i64 (applyS (saS s) 1 (s.cy + 1)).1.nu, .int .i64 (applyS (saS s) 1 (s.cy + 1)).1.ro, .int .i64 (applyS (saS s) 1 (s.cy + 1)).1.ep, .int .i64 (applyS (saS s) 1 (s.cy + 1)).1.ap, .slice A' (applyS (saS s) 1 (s.cy + 1)).1.li.length c', .int .i64 (applyS (saS s) 1 (s.cy + 1)).1.so, .bool (applyS (saS s) 1 (s.cy + 1)).1.al, .bool (applyS (saS s) 1 (s.cy + 1)).1.co]) rfl rfl (by kernel_rfl) (by kernel_rfl) (by kernel_rfl) (fun _ _ _ h => h) (by rfl) ?_ hHeld ?_
      · intro W' hSw
        go_simp
      simp only [Act.put, List.setIfInBounds_toArray, List.set_cons_zero, List.set_cons_succ]
      refine takeD (i := 10) (v := .int .i64 (applyS (saS s) 1 (s.cy + 1)).2) rfl rfl (by kernel_rfl) (by kernel_rfl) (by kernel_rfl) (fun _ _ _ h => h) (by rfl) ?_ hHeld ?_
      · intro W' hSw
        go_simp
      simp only [Act.put, List.setIfInBounds_toArray, List.set_cons_zero, List.set_cons_succ]
      refine wpAnyH_all (rs := [12]) (by kernel_rfl) (by simp) ?_
      intro j hj
      simp only [List.mem_cons, List.not_mem_nil, or_false] at hj
      subst hj
      have hP := StX.put8 hHeld KX hgs (applyS (saS s) 1 (s.cy + 1)).1 A' c' hTL
      refine opStored (w' := ((((((((w5.setCell ⟨g5, 0, none⟩ (.int .i64 (applyS (saS s) 1 (s.cy + 1)).1.nu)).setCell ⟨g5, 1, none⟩ (.int .i64 (applyS (saS s) 1 (s.cy + 1)).1.ro)).setCell ⟨g5, 2, none⟩ (.int .i64 (applyS (saS s) 1 (s.cy + 1)).1.ep)).setCell ⟨g5, 3, none⟩ (.int .i64 (applyS (saS s) 1 (s.cy + 1)).1.ap)).setCell ⟨g5, 4, none⟩ (.slice A' (applyS (saS s) 1 (s.cy + 1)).1.li.length c')).setCell ⟨g5, 5, none⟩ (.int .i64 (applyS (saS s) 1 (s.cy + 1)).1.so)).setCell ⟨g5, 6, none⟩ (.bool (applyS (saS s) 1 (s.cy + 1)).1.al)).setCell ⟨g5, 7, none⟩ (.bool (applyS (saS s) 1 (s.cy + 1)).1.co))) rfl rfl (by rfl) ?_ hP.1 ?_
      · obtain ⟨⟨z0, z1, z2, z3, z4, z5, z6, z7⟩, z8⟩ := KX.c8
        go_simp
      have hHeld := hP.1
      
      refine takeD (i := 13) (v := .int .i64 (applyS (saS s) 1 (s.cy + 1)).2) rfl rfl (by kernel_rfl) (by kernel_rfl) (by kernel_rfl) (fun _ _ _ h => h) (by rfl) ?_ hHeld ?_
      · intro W' hSw
        go_simp
      simp only [Act.put, List.setIfInBounds_toArray, List.set_cons_zero, List.set_cons_succ]
      refine wpAnyH_done (by kernel_rfl) ?_ _
      go_wp2_with fail
      go_meet
      exact ⟨g5, A', c', rfl, rfl, ⟨hP.2.1⟩, ⟨hP.1⟩, ⟨hP.2.2⟩⟩
  case rest =>
    obtain ⟨g5, A', c', rfl, rfl, KG, HX2, HTL⟩ := hcut
    clear p0 p1 p2 p3 p4 p5 p6 p7 p8 p9 p10 p11 p12 pz x0 x1 e0 e1 e2 e3 e4 e5 e6 e7 HX HS
    generalize (applyS (saS s) 1 (s.cy + 1)) = r at KG HTL hv ⊢
    rw [HRI.out, Bool.true_and] at hv
    have hv := hv.symm
    subst hv
    clear g1 g2
    have p0 := HX2.out.st.hs.cell 0 _ rfl; have p1 := HX2.out.st.hs.cell 1 _ rfl; have p2 := HX2.out.st.hs.cell 2 _ rfl; have p3 := HX2.out.st.hs.cell 3 _ rfl; have p4 := HX2.out.st.hs.cell 4 _ rfl; have p5 := HX2.out.st.hs.cell 5 _ rfl; have p6 := HX2.out.st.hs.cell 6 _ rfl; have p7 := HX2.out.st.hs.cell 7 _ rfl; have p8 := HX2.out.st.hs.cell 8 _ rfl; have p9 := HX2.out.st.hs.cell 9 _ rfl; have p10 := HX2.out.st.hs.cell 10 _ rfl; have p11 := HX2.out.st.hs.cell 11 _ rfl; have p12 := HX2.out.st.hs.cell 12 _ rfl; have pz := HX2.out.st.hs.frozen
    obtain ⟨⟨q0, q1, q2, q3, q4, q5, q6, q7⟩, q8⟩ := KG.out.c8
    obtain ⟨y0, y1, y2, y3, y4, y5, y6, y7⟩ := HX2.out.cy
    have hlg := KG.out.lt
    have hls9 := HX2.out.st.hs.lt
    have hlb : b < wc.heap.size := World.block_lt_of_cell? _ _ y0
    go_wp2_with fail
    go_region
    have H9 := (stw_row9 HX2.out.st (s.cy + 1) r.1 (sbS s) A' A3 c' c3 HTL.out HX2.out.ty).step (below_drew (Below.refl _ _))
    clear p0 p1 p2 p3 p4 p5 p6 p7 p8 p9 p10 p11 p12 pz
    clear q0 q1 q2 q3 q4 q5 q6 q7 q8 y0 y1 y2 y3 y4 y5 y6 y7 hlg hls9 hlb
    generalize hW9 : (((wc.setCell ⟨w.heap.size, 8, none⟩ (.slice (some ⟨wc.heap.size, 0, none⟩) 2 2)).setCell ⟨w.heap.size, 9, none⟩ (.int .i64 (s.cy + 1))).alloc (.cells #[.int .i64 r.1.nu, .int .i64 r.1.ro, .int .i64 r.1.ep, .int .i64 r.1.ap, .slice A' r.1.li.length c', .int .i64 r.1.so, .bool r.1.al, .bool r.1.co, .int .i64 (sbS s).nu, .int .i64 (sbS s).ro, .int .i64 (sbS s).ep, .int .i64 (sbS s).ap, .slice A3 (sbS s).li.length c3, .int .i64 (sbS s).so, .bool (sbS s).al, .bool (sbS s).co] 57)).drew = W9 at H9 ⊢
    clear hW9 KG HX2 HTL
    have H9 := Keep.mk H9
    have p0 := H9.out.hs.cell 0 _ rfl; have p1 := H9.out.hs.cell 1 _ rfl; have p2 := H9.out.hs.cell 2 _ rfl; have p3 := H9.out.hs.cell 3 _ rfl; have p4 := H9.out.hs.cell 4 _ rfl; have p5 := H9.out.hs.cell 5 _ rfl; have p6 := H9.out.hs.cell 6 _ rfl; have p7 := H9.out.hs.cell 7 _ rfl; have p8 := H9.out.hs.cell 8 _ rfl; have p9 := H9.out.hs.cell 9 _ rfl; have p10 := H9.out.hs.cell 10 _ rfl; have p11 := H9.out.hs.cell 11 _ rfl; have p12 := H9.out.hs.cell 12 _ rfl; have pz := H9.out.hs.frozen
    have hri := HRI.out
    rw [hri] at p12
    clear hri
    go_upto_region 10 with fail
    have HA := H9.out.put (s' := StS.mk s.p [r.1, sbS s] (s.cy + 1) s.old s.cl (r.2 == 0)) 12 (.bool (r.2 == 0)) rfl H9.out.tl H9.out.to_
    clear p0 p1 p2 p3 p4 p5 p6 p7 p8 p9 p10 p11 p12 pz
    generalize W9.setCell ⟨w.heap.size, 12, none⟩ (.bool (r.2 == 0)) = W10 at HA ⊢
    have HA := Keep.mk HA
    have p0 := HA.out.hs.cell 0 _ rfl; have p1 := HA.out.hs.cell 1 _ rfl; have p2 := HA.out.hs.cell 2 _ rfl; have p3 := HA.out.hs.cell 3 _ rfl; have p4 := HA.out.hs.cell 4 _ rfl; have p5 := HA.out.hs.cell 5 _ rfl; have p6 := HA.out.hs.cell 6 _ rfl; have p7 := HA.out.hs.cell 7 _ rfl; have p8 := HA.out.hs.cell 8 _ rfl; have p9 := HA.out.hs.cell 9 _ rfl; have p10 := HA.out.hs.cell 10 _ rfl; have p11 := HA.out.hs.cell 11 _ rfl; have p12 := HA.out.hs.cell 12 _ rfl; have pz := HA.out.hs.frozen
    go_wp2_with ((with_reducible refine wpList_store_held ?_ 51 (.tmp 4) (.tmp 66) ?_ w (w.heap.size + 2) [.int .i64 0, .int .i64 0, .int .i64 0, .int .i64 0, .int .i64 0, .int .i64 0, .bool false, .bool false, .slice none 0 0, .int .i64 0, .slice none 0 0, .bool false, .bool false] 51 HA.out.hr ?_ [.int .i64 (StS.mk s.p [r.1, sbS s] (s.cy + 1) s.old s.cl (r.2 == 0)).p.ki, .int .i64 (StS.mk s.p [r.1, sbS s] (s.cy + 1) s.old s.cl (r.2 == 0)).p.fr, .int .i64 (StS.mk s.p [r.1, sbS s] (s.cy + 1) s.old s.cl (r.2 == 0)).p.to_, .int .i64 (StS.mk s.p [r.1, sbS s] (s.cy + 1) s.old s.cl (r.2 == 0)).p.st, .int .i64 (StS.mk s.p [r.1, sbS s] (s.cy + 1) s.old s.cl (r.2 == 0)).p.ep, .int .i64 (StS.mk s.p [r.1, sbS s] (s.cy + 1) s.old s.cl (r.2 == 0)).p.cy, .bool (StS.mk s.p [r.1, sbS s] (s.cy + 1) s.old s.cl (r.2 == 0)).p.dn, .bool (StS.mk s.p [r.1, sbS s] (s.cy + 1) s.old s.cl (r.2 == 0)).p.fa, .slice (some ⟨wc.heap.size, 0, none⟩) (StS.mk s.p [r.1, sbS s] (s.cy + 1) s.old s.cl (r.2 == 0)).l.length 2, .int .i64 (StS.mk s.p [r.1, sbS s] (s.cy + 1) s.old s.cl (r.2 == 0)).cy, .slice A2 (StS.mk s.p [r.1, sbS s] (s.cy + 1) s.old s.cl (r.2 == 0)).old.length c2, .bool (StS.mk s.p [r.1, sbS s] (s.cy + 1) s.old s.cl (r.2 == 0)).cl, .bool (StS.mk s.p [r.1, sbS s] (s.cy + 1) s.old s.cl (r.2 == 0)).ri] ?_ ?_ ?_ ?_ ?_); rfl; rfl; rfl; rfl; rfl; exact st_size; exact st_one _ _ _ _ _; intro wE KE hg; have HE := Keep.mk (And.intro KE hg); clear KE hg)
    exact bodyPost_ret (results_row1 rfl _ _ (w.heap.size + 2) 51 _ _ rfl HE.out.1.blk Try.underlying51 rfl (by kernel_rfl)) rfl ⟨(some ⟨wc.heap.size, 0, none⟩), 2, A2, c2, rfl, HA.out.tl.other HA.out.hr (by decide) HE.out.2, HA.out.to_.other HA.out.hr (by decide) HE.out.2, HE.out.1.bel⟩
end Go.Proofs.Ytijhkgabonkmfaa
