/- Contract: standbylaw52.State.step where a cycle is applied at the secondary. -/
import Derived.Test.YtijhkgabonkmfaaLwF
namespace Go.Proofs.Ytijhkgabonkmfaa
open Go.RowKit
set_option linter.unusedSimpArgs false
set_option linter.unusedVariables false
set_option maxRecDepth 100000
set_option maxHeartbeats 4000000 in
theorem law_step6 (w : World) (s : StS) (A A2 : Option Addr) (c c2 : Nat) (k0 v : Int) (hk : k0.tmod 9 = 6) (h2 : s.l.length = 2) (hcy : 0 ≤ s.cy ∧ s.cy ≤ 1000000) (hap : 0 ≤ (sbS s).ap) (hls : (sbS s).li.length ≤ 1000000) (hri : s.ri = true) (h : TSites w A c s.l) (ho : TSites w A2 c2 s.old) :
    Calls Try.prog 29 #[.agg #[.int .i64 s.p.ki, .int .i64 s.p.fr, .int .i64 s.p.to_, .int .i64 s.p.st, .int .i64 s.p.ep, .int .i64 s.p.cy, .bool s.p.dn, .bool s.p.fa, .slice A s.l.length c, .int .i64 s.cy, .slice A2 s.old.length c2, .bool s.cl, .bool s.ri], .agg #[.int .u8 k0, .int .i64 v]] w (SStep w (stateStep s 6 v)) := by
  have HS := Keep.mk (stw_start w s A A2 c c2 k0 v h ho)
  have hne : ((s.l.length : Int) != 2) = false := by rw [h2]; rfl
  have hnl : ¬ s.l = [] := by intro e; rw [e] at h2; simp at h2
  have HRI := Keep.mk hri
  clear hri
  have hlen : (0 : Int) < (s.l.length : Int) ∧ (1 : Int) < (s.l.length : Int) := by omega
  obtain ⟨hlen0, hlen1⟩ := hlen
  have HB6 := Keep.mk (And.intro hcy hap)
  have hv : stateStep s 6 v = if (decide ((sbS s).ap < s.cy) && (sbS s).ro == 2 && (saS s).ro == 1) = true then { s with l := [saS s, (applyS (sbS s) 1 ((sbS s).ap + 1)).1], ri := s.ri && (applyS (sbS s) 1 ((sbS s).ap + 1)).2 == 0 } else s := by
    unfold stateStep; rw [if_neg (not_not_intro h2), if_neg (by decide), if_pos rfl]
  generalize stateStep s 6 v = s9 at hv ⊢
  have HV := Keep.mk hv
  have HL := Keep.mk h2
  have HLS := Keep.mk hls
  clear hv h2 h ho hcy hls hap
  go_enter Try.func29, Try.ntmps29
  go_upto_region 5 with fail
  generalize (((w.alloc (.cells #[.int .i64 s.p.ki, .int .i64 s.p.fr, .int .i64 s.p.to_, .int .i64 s.p.st, .int .i64 s.p.ep, .int .i64 s.p.cy, .bool s.p.dn, .bool s.p.fa, .slice A s.l.length c, .int .i64 s.cy, .slice A2 s.old.length c2, .bool s.cl, .bool s.ri] 51)).alloc (.cells #[.int .u8 k0, .int .i64 v] 64)).alloc (.cells #[.int .i64 0, .int .i64 0, .int .i64 0, .int .i64 0, .int .i64 0, .int .i64 0, .bool false, .bool false, .slice none 0 0, .int .i64 0, .slice none 0 0, .bool false, .bool false] 51)) = W at HS ⊢
  have p0 := HS.out.hs.cell 0 _ rfl; have p1 := HS.out.hs.cell 1 _ rfl; have p2 := HS.out.hs.cell 2 _ rfl; have p3 := HS.out.hs.cell 3 _ rfl; have p4 := HS.out.hs.cell 4 _ rfl; have p5 := HS.out.hs.cell 5 _ rfl; have p6 := HS.out.hs.cell 6 _ rfl; have p7 := HS.out.hs.cell 7 _ rfl; have p8 := HS.out.hs.cell 8 _ rfl; have p9 := HS.out.hs.cell 9 _ rfl; have p10 := HS.out.hs.cell 10 _ rfl; have p11 := HS.out.hs.cell 11 _ rfl; have p12 := HS.out.hs.cell 12 _ rfl; have pz := HS.out.hs.frozen
  have x0 := HS.out.hx.cell 0 _ rfl
  have x1 := HS.out.hx.cell 1 _ rfl
  obtain ⟨b, A1, c1, A3, c3, rfl, hX⟩ := stx_start HS.out HL.out
  have HX := Keep.mk hX
  obtain ⟨e0, e1, e2, e3, e4, e5, e6, e7⟩ := HX.out.cx
  clear hX
  obtain ⟨f0, f1, f2, f3, f4, f5, f6, f7⟩ := HX.out.cy
  cases g1 : decide ((sbS s).ap < s.cy)
  · have hc : (decide ((sbS s).ap < s.cy) && (sbS s).ro == 2 && (saS s).ro == 1) = false := by rw [g1]; rfl
    have hv := (HV.out.trans (if_neg (by rw [hc]; decide))).symm
    subst hv
    go_upto_region 12 with fail
    go_quiet (fail)
    have HSD := Keep.mk (HS.out.step (below_drewN (Below.refl _ _) nq))
    generalize W.drewN nq = WD at HSD ⊢
    go_upto_region 16 with fail
    clear hc g1
    clear p0 p1 p2 p3 p4 p5 p6 p7 p8 p9 p10 p11 p12 pz
    have p0 := HSD.out.hs.cell 0 _ rfl; have p1 := HSD.out.hs.cell 1 _ rfl; have p2 := HSD.out.hs.cell 2 _ rfl; have p3 := HSD.out.hs.cell 3 _ rfl; have p4 := HSD.out.hs.cell 4 _ rfl; have p5 := HSD.out.hs.cell 5 _ rfl; have p6 := HSD.out.hs.cell 6 _ rfl; have p7 := HSD.out.hs.cell 7 _ rfl; have p8 := HSD.out.hs.cell 8 _ rfl; have p9 := HSD.out.hs.cell 9 _ rfl; have p10 := HSD.out.hs.cell 10 _ rfl; have p11 := HSD.out.hs.cell 11 _ rfl; have p12 := HSD.out.hs.cell 12 _ rfl; have pz := HSD.out.hs.frozen
    go_wp2_with ((with_reducible refine wpList_store_held ?_ 51 (.tmp 4) (.tmp 121) ?_ w (w.heap.size + 2) [.int .i64 0, .int .i64 0, .int .i64 0, .int .i64 0, .int .i64 0, .int .i64 0, .bool false, .bool false, .slice none 0 0, .int .i64 0, .slice none 0 0, .bool false, .bool false] 51 HSD.out.hr ?_ [.int .i64 s.p.ki, .int .i64 s.p.fr, .int .i64 s.p.to_, .int .i64 s.p.st, .int .i64 s.p.ep, .int .i64 s.p.cy, .bool s.p.dn, .bool s.p.fa, .slice (some ⟨b, 0, none⟩) s.l.length c, .int .i64 s.cy, .slice A2 s.old.length c2, .bool s.cl, .bool s.ri] ?_ ?_ ?_ ?_ ?_); rfl; rfl; rfl; rfl; rfl; exact st_size; exact st_one _ _ _ _ _; intro wE KE hg; have HE := Keep.mk (And.intro KE hg); clear KE hg)
    exact bodyPost_ret (results_row1 rfl _ _ (w.heap.size + 2) 51 _ _ rfl HE.out.1.blk Try.underlying51 rfl (by kernel_rfl)) rfl ⟨(some ⟨b, 0, none⟩), c, A2, c2, rfl, HSD.out.tl.other HSD.out.hr (by decide) HE.out.2, HSD.out.to_.other HSD.out.hr (by decide) HE.out.2, HE.out.1.bel⟩
  cases g2 : ((sbS s).ro == 2)
  · have hc : (decide ((sbS s).ap < s.cy) && (sbS s).ro == 2 && (saS s).ro == 1) = false := by rw [g1, g2]; rfl
    have hv := (HV.out.trans (if_neg (by rw [hc]; decide))).symm
    subst hv
    go_upto_region 12 with fail
    go_quiet (fail)
    have HSD := Keep.mk (HS.out.step (below_drewN (Below.refl _ _) nq))
    generalize W.drewN nq = WD at HSD ⊢
    go_upto_region 16 with fail
    clear hc g1 g2
    clear p0 p1 p2 p3 p4 p5 p6 p7 p8 p9 p10 p11 p12 pz
    have p0 := HSD.out.hs.cell 0 _ rfl; have p1 := HSD.out.hs.cell 1 _ rfl; have p2 := HSD.out.hs.cell 2 _ rfl; have p3 := HSD.out.hs.cell 3 _ rfl; have p4 := HSD.out.hs.cell 4 _ rfl; have p5 := HSD.out.hs.cell 5 _ rfl; have p6 := HSD.out.hs.cell 6 _ rfl; have p7 := HSD.out.hs.cell 7 _ rfl; have p8 := HSD.out.hs.cell 8 _ rfl; have p9 := HSD.out.hs.cell 9 _ rfl; have p10 := HSD.out.hs.cell 10 _ rfl; have p11 := HSD.out.hs.cell 11 _ rfl; have p12 := HSD.out.hs.cell 12 _ rfl; have pz := HSD.out.hs.frozen
    go_wp2_with ((with_reducible refine wpList_store_held ?_ 51 (.tmp 4) (.tmp 121) ?_ w (w.heap.size + 2) [.int .i64 0, .int .i64 0, .int .i64 0, .int .i64 0, .int .i64 0, .int .i64 0, .bool false, .bool false, .slice none 0 0, .int .i64 0, .slice none 0 0, .bool false, .bool false] 51 HSD.out.hr ?_ [.int .i64 s.p.ki, .int .i64 s.p.fr, .int .i64 s.p.to_, .int .i64 s.p.st, .int .i64 s.p.ep, .int .i64 s.p.cy, .bool s.p.dn, .bool s.p.fa, .slice (some ⟨b, 0, none⟩) s.l.length c, .int .i64 s.cy, .slice A2 s.old.length c2, .bool s.cl, .bool s.ri] ?_ ?_ ?_ ?_ ?_); rfl; rfl; rfl; rfl; rfl; exact st_size; exact st_one _ _ _ _ _; intro wE KE hg; have HE := Keep.mk (And.intro KE hg); clear KE hg)
    exact bodyPost_ret (results_row1 rfl _ _ (w.heap.size + 2) 51 _ _ rfl HE.out.1.blk Try.underlying51 rfl (by kernel_rfl)) rfl ⟨(some ⟨b, 0, none⟩), c, A2, c2, rfl, HSD.out.tl.other HSD.out.hr (by decide) HE.out.2, HSD.out.to_.other HSD.out.hr (by decide) HE.out.2, HE.out.1.bel⟩
  cases g3 : ((saS s).ro == 1)
  · have hc : (decide ((sbS s).ap < s.cy) && (sbS s).ro == 2 && (saS s).ro == 1) = false := by rw [g1, g2, g3]; rfl
    have hv := (HV.out.trans (if_neg (by rw [hc]; decide))).symm
    subst hv
    go_upto_region 12 with fail
    go_quiet (fail)
    have HSD := Keep.mk (HS.out.step (below_drewN (Below.refl _ _) nq))
    generalize W.drewN nq = WD at HSD ⊢
    go_upto_region 16 with fail
    clear hc g1 g2 g3
    clear p0 p1 p2 p3 p4 p5 p6 p7 p8 p9 p10 p11 p12 pz
    have p0 := HSD.out.hs.cell 0 _ rfl; have p1 := HSD.out.hs.cell 1 _ rfl; have p2 := HSD.out.hs.cell 2 _ rfl; have p3 := HSD.out.hs.cell 3 _ rfl; have p4 := HSD.out.hs.cell 4 _ rfl; have p5 := HSD.out.hs.cell 5 _ rfl; have p6 := HSD.out.hs.cell 6 _ rfl; have p7 := HSD.out.hs.cell 7 _ rfl; have p8 := HSD.out.hs.cell 8 _ rfl; have p9 := HSD.out.hs.cell 9 _ rfl; have p10 := HSD.out.hs.cell 10 _ rfl; have p11 := HSD.out.hs.cell 11 _ rfl; have p12 := HSD.out.hs.cell 12 _ rfl; have pz := HSD.out.hs.frozen
    go_wp2_with ((with_reducible refine wpList_store_held ?_ 51 (.tmp 4) (.tmp 121) ?_ w (w.heap.size + 2) [.int .i64 0, .int .i64 0, .int .i64 0, .int .i64 0, .int .i64 0, .int .i64 0, .bool false, .bool false, .slice none 0 0, .int .i64 0, .slice none 0 0, .bool false, .bool false] 51 HSD.out.hr ?_ [.int .i64 s.p.ki, .int .i64 s.p.fr, .int .i64 s.p.to_, .int .i64 s.p.st, .int .i64 s.p.ep, .int .i64 s.p.cy, .bool s.p.dn, .bool s.p.fa, .slice (some ⟨b, 0, none⟩) s.l.length c, .int .i64 s.cy, .slice A2 s.old.length c2, .bool s.cl, .bool s.ri] ?_ ?_ ?_ ?_ ?_); rfl; rfl; rfl; rfl; rfl; exact st_size; exact st_one _ _ _ _ _; intro wE KE hg; have HE := Keep.mk (And.intro KE hg); clear KE hg)
    exact bodyPost_ret (results_row1 rfl _ _ (w.heap.size + 2) 51 _ _ rfl HE.out.1.blk Try.underlying51 rfl (by kernel_rfl)) rfl ⟨(some ⟨b, 0, none⟩), c, A2, c2, rfl, HSD.out.tl.other HSD.out.hr (by decide) HE.out.2, HSD.out.to_.other HSD.out.hr (by decide) HE.out.2, HE.out.1.bel⟩
  have hv := HV.out.trans (if_pos (by rw [g1, g2, g3]; rfl))
  have hls := HLS.out
  have hw : IntKind.i64.wrap ((sbS s).ap + 1) = (sbS s).ap + 1 := IntWalk.i64_in _ (by have h1 := HB6.out; simp at g1; omega)
  go_upto_region 12 with fail
  go_quiet (fail)
  clear HS
  have HX := Keep.mk (HX.out.step (below_drewN (Below.refl _ _) nq))
  generalize W.drewN nq = W at HX ⊢
  go_upto_region 13 with fail
  go_cut [7, 8] (fun s7 s8 wx => ∃ g5 A' c', s7 = .pointer (some ⟨g5, 0, none⟩) ∧ s8 = .int .i64 (applyS (sbS s) 1 ((sbS s).ap + 1)).2 ∧ Keep (Held w g5 [.int .i64 (applyS (sbS s) 1 ((sbS s).ap + 1)).1.nu, .int .i64 (applyS (sbS s) 1 ((sbS s).ap + 1)).1.ro, .int .i64 (applyS (sbS s) 1 ((sbS s).ap + 1)).1.ep, .int .i64 (applyS (sbS s) 1 ((sbS s).ap + 1)).1.ap, .slice A' (applyS (sbS s) 1 ((sbS s).ap + 1)).1.li.length c', .int .i64 (applyS (sbS s) 1 ((sbS s).ap + 1)).1.so, .bool (applyS (sbS s) 1 ((sbS s).ap + 1)).1.al, .bool (applyS (sbS s) 1 ((sbS s).ap + 1)).1.co] 57 wx) ∧ Keep (StX w wx s b A2 A1 A3 c c2 c1 c3 k0 v) ∧ Keep (TL wx A' c' (applyS (sbS s) 1 ((sbS s).ap + 1)).1.li))
  case first =>
    clear p0 p1 p2 p3 p4 p5 p6 p7 p8 p9 p10 p11 p12 pz x0 x1 e0 e1 e2 e3 e4 e5 e6 e7 f0 f1 f2 f3 f4 f5 f6 f7 g1 g2 g3
    refine wp_region_held_drew (S := fun W' => StX w W' s b A2 A1 A3 c c2 c1 c3 k0 v) (by kernel_rfl) (HX.out.step (below_drew (Below.refl _ _))) (fun hHeld => ?_)
    refine takeD (i := 0) (v := .pointer (some ⟨w.heap.size, 8, none⟩)) rfl rfl (by kernel_rfl) (by kernel_rfl) (by kernel_rfl) (fun _ _ _ h => h) (by rfl) ?_ hHeld ?_
    · intro W' hSw
      go_simp
    simp only [Act.put, List.setIfInBounds_toArray, List.set_cons_zero, List.set_cons_succ]
    refine takeD (i := 1) (v := .slice (some ⟨b, 0, none⟩) s.l.length c) rfl rfl (by kernel_rfl) (by kernel_rfl) (by kernel_rfl) (fun _ _ _ h => h) (by rfl) ?_ hHeld ?_
    · intro W' hSw
      have t8 := hSw.st.hs.cell 8 _ rfl
      go_simp
    simp only [Act.put, List.setIfInBounds_toArray, List.set_cons_zero, List.set_cons_succ]
    refine takeD (i := 2) (v := .pointer (some ⟨b, 8, none⟩)) rfl rfl (by kernel_rfl) (by kernel_rfl) (by kernel_rfl) (fun _ _ _ h => h) (by rfl) ?_ hHeld ?_
    · intro W' hSw
      go_simp
    simp only [Act.put, List.setIfInBounds_toArray, List.set_cons_zero, List.set_cons_succ]
    refine takeD (i := 3) (v := .agg #[.int .i64 (sbS s).nu, .int .i64 (sbS s).ro, .int .i64 (sbS s).ep, .int .i64 (sbS s).ap, .slice A3 (sbS s).li.length c3, .int .i64 (sbS s).so, .bool (sbS s).al, .bool (sbS s).co]) rfl rfl (by kernel_rfl) (by kernel_rfl) (by kernel_rfl) (fun _ _ _ h => h) (by rfl) ?_ hHeld ?_
    · intro W' hSw
      obtain ⟨t0, t1, t2, t3, t4, t5, t6, t7⟩ := hSw.cy
      go_simp
    simp only [Act.put, List.setIfInBounds_toArray, List.set_cons_zero, List.set_cons_succ]
    refine takeD (i := 4) (v := .pointer (some ⟨w.heap.size, 8, none⟩)) rfl rfl (by kernel_rfl) (by kernel_rfl) (by kernel_rfl) (fun _ _ _ h => h) (by rfl) ?_ hHeld ?_
    · intro W' hSw
      go_simp
    simp only [Act.put, List.setIfInBounds_toArray, List.set_cons_zero, List.set_cons_succ]
    refine takeD (i := 5) (v := .slice (some ⟨b, 0, none⟩) s.l.length c) rfl rfl (by kernel_rfl) (by kernel_rfl) (by kernel_rfl) (fun _ _ _ h => h) (by rfl) ?_ hHeld ?_
    · intro W' hSw
      have t8 := hSw.st.hs.cell 8 _ rfl
      go_simp
    simp only [Act.put, List.setIfInBounds_toArray, List.set_cons_zero, List.set_cons_succ]
    refine takeD (i := 6) (v := .pointer (some ⟨b, 8, none⟩)) rfl rfl (by kernel_rfl) (by kernel_rfl) (by kernel_rfl) (fun _ _ _ h => h) (by rfl) ?_ hHeld ?_
    · intro W' hSw
      go_simp
    simp only [Act.put, List.setIfInBounds_toArray, List.set_cons_zero, List.set_cons_succ]
    refine takeD (i := 7) (v := .pointer (some ⟨b, 11, none⟩)) rfl rfl (by kernel_rfl) (by kernel_rfl) (by kernel_rfl) (fun _ _ _ h => h) (by rfl) ?_ hHeld ?_
    · intro W' hSw
      go_simp
    simp only [Act.put, List.setIfInBounds_toArray, List.set_cons_zero, List.set_cons_succ]
    refine takeD (i := 8) (v := .int .i64 (sbS s).ap) rfl rfl (by kernel_rfl) (by kernel_rfl) (by kernel_rfl) (fun _ _ _ h => h) (by rfl) ?_ hHeld ?_
    · intro W' hSw
      obtain ⟨t0, t1, t2, t3, t4, t5, t6, t7⟩ := hSw.cy
      go_simp
    simp only [Act.put, List.setIfInBounds_toArray, List.set_cons_zero, List.set_cons_succ]
    refine takeD (i := 9) (v := .int .i64 ((sbS s).ap + 1)) rfl rfl (by kernel_rfl) (by kernel_rfl) (by kernel_rfl) (fun _ _ _ h => h) (by rfl) ?_ hHeld ?_
    · intro W' hSw
      go_simp
    simp only [Act.put, List.setIfInBounds_toArray, List.set_cons_zero, List.set_cons_succ]
    refine wpAnyH_all (rs := [10, 14]) (by kernel_rfl) (by simp) ?_
    intro j hj
    simp only [List.mem_cons, List.not_mem_nil, or_false] at hj
    rcases hj with rfl | rfl
    · refine opCalledX (R := fun v' w' => ∃ A' c', v' = .tuple #[.agg #[.int .i64 (applyS (sbS s) 1 ((sbS s).ap + 1)).1.nu, .int .i64 (applyS (sbS s) 1 ((sbS s).ap + 1)).1.ro, .int .i64 (applyS (sbS s) 1 ((sbS s).ap + 1)).1.ep, .int .i64 (applyS (sbS s) 1 ((sbS s).ap + 1)).1.ap, .slice A' (applyS (sbS s) 1 ((sbS s).ap + 1)).1.li.length c', .int .i64 (applyS (sbS s) 1 ((sbS s).ap + 1)).1.so, .bool (applyS (sbS s) 1 ((sbS s).ap + 1)).1.al, .bool (applyS (sbS s) 1 ((sbS s).ap + 1)).1.co], .int .i64 (applyS (sbS s) 1 ((sbS s).ap + 1)).2] ∧ TL w' A' c' (applyS (sbS s) 1 ((sbS s).ap + 1)).1.li ∧ Below (W.drew).heap.size (W.drew) w') (f := 48) (args := #[.agg #[.int .i64 (sbS s).nu, .int .i64 (sbS s).ro, .int .i64 (sbS s).ep, .int .i64 (sbS s).ap, .slice A3 (sbS s).li.length c3, .int .i64 (sbS s).so, .bool (sbS s).al, .bool (sbS s).co], .int .i64 1, .int .i64 ((sbS s).ap + 1)]) rfl rfl (by rfl) ?_ ((role_Apply _ (sbS s) A3 c3 1 ((sbS s).ap + 1) hls (hHeld.ty.reads)).mono ?_) ?_
      · go_simp
      · rintro en w' ⟨A', c', rfl, hO, hB⟩; exact ⟨_, rfl, A', c', rfl, .inr (hO.mono (Nat.zero_le _)), hB⟩
      rintro vv w5 ⟨A', c', rfl, hTL, hB⟩
      have hHeld := hHeld.step hB
      refine ⟨hHeld, ?_⟩
      clear hB
      simp only [Act.put, List.setIfInBounds_toArray, List.set_cons_zero, List.set_cons_succ]
      refine takeD (i := 11) (v := .tuple #[.agg #[.int .i64 (applyS (sbS s) 1 ((sbS s).ap + 1)).1.nu, .int .i64 (applyS (sbS s) 1 ((sbS s).ap + 1)).1.ro, .int .i64 (applyS (sbS s) 1 ((sbS s).ap + 1)).1.ep, .int .i64 (applyS (sbS s) 1 ((sbS s).ap + 1)).1.ap, .slice A' (applyS (sbS s) 1 ((sbS s).ap + 1)).1.li.length c', .int .i64 (applyS (sbS s) 1 ((sbS s).ap + 1)).1.so, .bool (applyS (sbS s) 1 ((sbS s).ap + 1)).1.al, .bool (applyS (sbS s) 1 ((sbS s).ap + 1)).1.co], .int .i64 (applyS (sbS s) 1 ((sbS s).ap + 1)).2]) rfl rfl (by kernel_rfl) (by kernel_rfl) (by kernel_rfl) (fun _ _ _ h => h) (by rfl) ?_ hHeld ?_
      · intro W' hSw
        go_simp
      simp only [Act.put, List.setIfInBounds_toArray, List.set_cons_zero, List.set_cons_succ]
      refine takeD (i := 12) (v := .agg #[.int .i64 (applyS (sbS s) 1 ((sbS s).ap + 1)).1.nu, .int .i64 (applyS (sbS s) 1 ((sbS s).ap + 1)).1.ro, .int .i64 (applyS (sbS s) 1 ((sbS s).ap + 1)).1.ep, .int .i64 (applyS (sbS s) 1 ((sbS s).ap + 1)).1.ap, .slice A' (applyS (sbS s) 1 ((sbS s).ap + 1)).1.li.length c', .int .i64 (applyS (sbS s) 1 ((sbS s).ap + 1)).1.so, .bool (applyS (sbS s) 1 ((sbS s).ap + 1)).1.al, .bool (applyS (sbS s) 1 ((sbS s).ap + 1)).1.co]) rfl rfl (by kernel_rfl) (by kernel_rfl) (by kernel_rfl) (fun _ _ _ h => h) (by rfl) ?_ hHeld ?_
      · intro W' hSw
        go_simp
      simp only [Act.put, List.setIfInBounds_toArray, List.set_cons_zero, List.set_cons_succ]
      refine takeD (i := 13) (v := .int .i64 (applyS (sbS s) 1 ((sbS s).ap + 1)).2) rfl rfl (by kernel_rfl) (by kernel_rfl) (by kernel_rfl) (fun _ _ _ h => h) (by rfl) ?_ hHeld ?_
      · intro W' hSw
        go_simp
      simp only [Act.put, List.setIfInBounds_toArray, List.set_cons_zero, List.set_cons_succ]
      refine wpAnyH_all (rs := [14]) (by kernel_rfl) (by simp) ?_
      intro j hj
      simp only [List.mem_cons, List.not_mem_nil, or_false] at hj
      subst hj
      have hgs := StX.lts hHeld
      refine opRan (v := .pointer (some ⟨(w5).heap.size, 0, none⟩)) (w' := (w5).alloc (.cells #[.int .i64 0, .int .i64 0, .int .i64 0, .int .i64 0, .slice none 0 0, .int .i64 0, .bool false, .bool false] 57)) rfl rfl (by rfl) ?_ (hHeld.step (below_new (Below.refl _ _) _)) ?_
      · go_simp
      have KX := Held.new hHeld.st.hs.bel [.int .i64 0, .int .i64 0, .int .i64 0, .int .i64 0, .slice none 0 0, .int .i64 0, .bool false, .bool false] 57
      have hHeld := hHeld.step (below_new (Below.refl _ _) (.cells #[.int .i64 0, .int .i64 0, .int .i64 0, .int .i64 0, .slice none 0 0, .int .i64 0, .bool false, .bool false] 57))
      simp only [Act.put, List.setIfInBounds_toArray, List.set_cons_zero, List.set_cons_succ]
      have hW56 := below_new (Below.refl w5.heap.size w5) (.cells #[.int .i64 0, .int .i64 0, .int .i64 0, .int .i64 0, .slice none 0 0, .int .i64 0, .bool false, .bool false] 57)
      generalize (w5).alloc (.cells #[.int .i64 0, .int .i64 0, .int .i64 0, .int .i64 0, .slice none 0 0, .int .i64 0, .bool false, .bool false] 57) = W6 at KX hHeld hW56 ⊢
      generalize (w5).heap.size = g5 at KX hgs ⊢
      have hTL := hTL.step (show Below w5.heap.size w5 W6 from hW56)
      refine wpAnyH_all (rs := [15]) (by kernel_rfl) (by simp) ?_
      intro j hj
      simp only [List.mem_cons, List.not_mem_nil, or_false] at hj
      subst hj
      have hP := StX.put8 hHeld KX hgs (applyS (sbS s) 1 ((sbS s).ap + 1)).1 A' c' hTL
      refine opStored (w' := ((((((((W6.setCell ⟨g5, 0, none⟩ (.int .i64 (applyS (sbS s) 1 ((sbS s).ap + 1)).1.nu)).setCell ⟨g5, 1, none⟩ (.int .i64 (applyS (sbS s) 1 ((sbS s).ap + 1)).1.ro)).setCell ⟨g5, 2, none⟩ (.int .i64 (applyS (sbS s) 1 ((sbS s).ap + 1)).1.ep)).setCell ⟨g5, 3, none⟩ (.int .i64 (applyS (sbS s) 1 ((sbS s).ap + 1)).1.ap)).setCell ⟨g5, 4, none⟩ (.slice A' (applyS (sbS s) 1 ((sbS s).ap + 1)).1.li.length c')).setCell ⟨g5, 5, none⟩ (.int .i64 (applyS (sbS s) 1 ((sbS s).ap + 1)).1.so)).setCell ⟨g5, 6, none⟩ (.bool (applyS (sbS s) 1 ((sbS s).ap + 1)).1.al)).setCell ⟨g5, 7, none⟩ (.bool (applyS (sbS s) 1 ((sbS s).ap + 1)).1.co))) rfl rfl (by rfl) ?_ hP.1 ?_
      · obtain ⟨⟨z0, z1, z2, z3, z4, z5, z6, z7⟩, z8⟩ := KX.c8
        go_simp
      have hHeld := hP.1
      
      refine takeD (i := 16) (v := .int .i64 (applyS (sbS s) 1 ((sbS s).ap + 1)).2) rfl rfl (by kernel_rfl) (by kernel_rfl) (by kernel_rfl) (fun _ _ _ h => h) (by rfl) ?_ hHeld ?_
      · intro W' hSw
        go_simp
      simp only [Act.put, List.setIfInBounds_toArray, List.set_cons_zero, List.set_cons_succ]
      refine wpAnyH_done (by kernel_rfl) ?_ _
      go_wp2_with fail
      go_meet
      exact ⟨g5, A', c', rfl, rfl, ⟨hP.2.1⟩, ⟨hP.1⟩, ⟨hP.2.2⟩⟩
    · have hgs := StX.lts hHeld
      refine opRan (v := .pointer (some ⟨(W.drew).heap.size, 0, none⟩)) (w' := (W.drew).alloc (.cells #[.int .i64 0, .int .i64 0, .int .i64 0, .int .i64 0, .slice none 0 0, .int .i64 0, .bool false, .bool false] 57)) rfl rfl (by rfl) ?_ (hHeld.step (below_new (Below.refl _ _) _)) ?_
      · go_simp
      have KX := Held.new hHeld.st.hs.bel [.int .i64 0, .int .i64 0, .int .i64 0, .int .i64 0, .slice none 0 0, .int .i64 0, .bool false, .bool false] 57
      have hHeld := hHeld.step (below_new (Below.refl _ _) (.cells #[.int .i64 0, .int .i64 0, .int .i64 0, .int .i64 0, .slice none 0 0, .int .i64 0, .bool false, .bool false] 57))
      simp only [Act.put, List.setIfInBounds_toArray, List.set_cons_zero, List.set_cons_succ]
      generalize (W.drew).alloc (.cells #[.int .i64 0, .int .i64 0, .int .i64 0, .int .i64 0, .slice none 0 0, .int .i64 0, .bool false, .bool false] 57) = W6 at KX hHeld ⊢
      generalize (W.drew).heap.size = g5 at KX hgs ⊢
      refine wpAnyH_all (rs := [10]) (by kernel_rfl) (by simp) ?_
      intro j hj
      simp only [List.mem_cons, List.not_mem_nil, or_false] at hj
      subst hj
      refine opCalledX (R := fun v' w' => ∃ A' c', v' = .tuple #[.agg #[.int .i64 (applyS (sbS s) 1 ((sbS s).ap + 1)).1.nu, .int .i64 (applyS (sbS s) 1 ((sbS s).ap + 1)).1.ro, .int .i64 (applyS (sbS s) 1 ((sbS s).ap + 1)).1.ep, .int .i64 (applyS (sbS s) 1 ((sbS s).ap + 1)).1.ap, .slice A' (applyS (sbS s) 1 ((sbS s).ap + 1)).1.li.length c', .int .i64 (applyS (sbS s) 1 ((sbS s).ap + 1)).1.so, .bool (applyS (sbS s) 1 ((sbS s).ap + 1)).1.al, .bool (applyS (sbS s) 1 ((sbS s).ap + 1)).1.co], .int .i64 (applyS (sbS s) 1 ((sbS s).ap + 1)).2] ∧ TL w' A' c' (applyS (sbS s) 1 ((sbS s).ap + 1)).1.li ∧ Below (W6).heap.size (W6) w') (f := 48) (args := #[.agg #[.int .i64 (sbS s).nu, .int .i64 (sbS s).ro, .int .i64 (sbS s).ep, .int .i64 (sbS s).ap, .slice A3 (sbS s).li.length c3, .int .i64 (sbS s).so, .bool (sbS s).al, .bool (sbS s).co], .int .i64 1, .int .i64 ((sbS s).ap + 1)]) rfl rfl (by rfl) ?_ ((role_Apply _ (sbS s) A3 c3 1 ((sbS s).ap + 1) hls (hHeld.ty.reads)).mono ?_) ?_
      · go_simp
      · rintro en w' ⟨A', c', rfl, hO, hB⟩; exact ⟨_, rfl, A', c', rfl, .inr (hO.mono (Nat.zero_le _)), hB⟩
      rintro vv w5 ⟨A', c', rfl, hTL, hB⟩
      have hHeld := hHeld.step hB
      have KX := KX.step hB
      refine ⟨hHeld, ?_⟩
      clear hB
      simp only [Act.put, List.setIfInBounds_toArray, List.set_cons_zero, List.set_cons_succ]
      refine takeD (i := 11) (v := .tuple #[.agg #[.int .i64 (applyS (sbS s) 1 ((sbS s).ap + 1)).1.nu, .int .i64 (applyS (sbS s) 1 ((sbS s).ap + 1)).1.ro, .int .i64 (applyS (sbS s) 1 ((sbS s).ap + 1)).1.ep, .int .i64 (applyS (sbS s) 1 ((sbS s).ap + 1)).1.ap, .slice A' (applyS (sbS s) 1 ((sbS s).ap + 1)).1.li.length c', .int .i64 (applyS (sbS s) 1 ((sbS s).ap + 1)).1.so, .bool (applyS (sbS s) 1 ((sbS s).ap + 1)).1.al, .bool (applyS (sbS s) 1 ((sbS s).ap + 1)).1.co], .int .i64 (applyS (sbS s) 1 ((sbS s).ap + 1)).2]) rfl rfl (by kernel_rfl) (by kernel_rfl) (by kernel_rfl) (fun _ _ _ h => h) (by rfl) ?_ hHeld ?_
      · intro W' hSw
        go_simp
      simp only [Act.put, List.setIfInBounds_toArray, List.set_cons_zero, List.set_cons_succ]
      refine takeD (i := 12) (v := .agg #[.int .i64 (applyS (sbS s) 1 ((sbS s).ap + 1)).1.nu, .int .i64 (applyS (sbS s) 1 ((sbS s).ap + 1)).1.ro, .int .i64 (applyS (sbS s) 1 ((sbS s).ap + 1)).1.ep, .int .i64 (applyS (sbS s) 1 ((sbS s).ap + 1)).1.ap, .slice A' (applyS (sbS s) 1 ((sbS s).ap + 1)).1.li.length c', .int .i64 (applyS (sbS s) 1 ((sbS s).ap + 1)).1.so, .bool (applyS (sbS s) 1 ((sbS s).ap + 1)).1.al, .bool (applyS (sbS s) 1 ((sbS s).ap + 1)).1.co]) rfl rfl (by kernel_rfl) (by kernel_rfl) (by kernel_rfl) (fun _ _ _ h => h) (by rfl) ?_ hHeld ?_
      · intro W' hSw
        go_simp
      simp only [Act.put, List.setIfInBounds_toArray, List.set_cons_zero, List.set_cons_succ]
      refine takeD (i := 13) (v := .int .i64 (applyS (sbS s) 1 ((sbS s).ap + 1)).2) rfl rfl (by kernel_rfl) (by kernel_rfl) (by kernel_rfl) (fun _ _ _ h => h) (by rfl) ?_ hHeld ?_
      · intro W' hSw
        go_simp
      simp only [Act.put, List.setIfInBounds_toArray, List.set_cons_zero, List.set_cons_succ]
      refine wpAnyH_all (rs := [15]) (by kernel_rfl) (by simp) ?_
      intro j hj
      simp only [List.mem_cons, List.not_mem_nil, or_false] at hj
      subst hj
      have hP := StX.put8 hHeld KX hgs (applyS (sbS s) 1 ((sbS s).ap + 1)).1 A' c' hTL
      refine opStored (w' := ((((((((w5.setCell ⟨g5, 0, none⟩ (.int .i64 (applyS (sbS s) 1 ((sbS s).ap + 1)).1.nu)).setCell ⟨g5, 1, none⟩ (.int .i64 (applyS (sbS s) 1 ((sbS s).ap + 1)).1.ro)).setCell ⟨g5, 2, none⟩ (.int .i64 (applyS (sbS s) 1 ((sbS s).ap + 1)).1.ep)).setCell ⟨g5, 3, none⟩ (.int .i64 (applyS (sbS s) 1 ((sbS s).ap + 1)).1.ap)).setCell ⟨g5, 4, none⟩ (.slice A' (applyS (sbS s) 1 ((sbS s).ap + 1)).1.li.length c')).setCell ⟨g5, 5, none⟩ (.int .i64 (applyS (sbS s) 1 ((sbS s).ap + 1)).1.so)).setCell ⟨g5, 6, none⟩ (.bool (applyS (sbS s) 1 ((sbS s).ap + 1)).1.al)).setCell ⟨g5, 7, none⟩ (.bool (applyS (sbS s) 1 ((sbS s).ap + 1)).1.co))) rfl rfl (by rfl) ?_ hP.1 ?_
      · obtain ⟨⟨z0, z1, z2, z3, z4, z5, z6, z7⟩, z8⟩ := KX.c8
        go_simp
      have hHeld := hP.1
      
      refine takeD (i := 16) (v := .int .i64 (applyS (sbS s) 1 ((sbS s).ap + 1)).2) rfl rfl (by kernel_rfl) (by kernel_rfl) (by kernel_rfl) (fun _ _ _ h => h) (by rfl) ?_ hHeld ?_
      · intro W' hSw
        go_simp
      simp only [Act.put, List.setIfInBounds_toArray, List.set_cons_zero, List.set_cons_succ]
      refine wpAnyH_done (by kernel_rfl) ?_ _
      go_wp2_with fail
      go_meet
      exact ⟨g5, A', c', rfl, rfl, ⟨hP.2.1⟩, ⟨hP.1⟩, ⟨hP.2.2⟩⟩
  case rest =>
    obtain ⟨g5, A', c', rfl, rfl, KG, HX2, HTL⟩ := hcut
    clear p0 p1 p2 p3 p4 p5 p6 p7 p8 p9 p10 p11 p12 pz x0 x1 e0 e1 e2 e3 e4 e5 e6 e7 f0 f1 f2 f3 f4 f5 f6 f7 HX hw
    generalize (applyS (sbS s) 1 ((sbS s).ap + 1)) = r at KG HTL hv ⊢
    rw [HRI.out, Bool.true_and] at hv
    have hv := hv.symm
    subst hv
    clear g1 g2 g3
    have p0 := HX2.out.st.hs.cell 0 _ rfl; have p1 := HX2.out.st.hs.cell 1 _ rfl; have p2 := HX2.out.st.hs.cell 2 _ rfl; have p3 := HX2.out.st.hs.cell 3 _ rfl; have p4 := HX2.out.st.hs.cell 4 _ rfl; have p5 := HX2.out.st.hs.cell 5 _ rfl; have p6 := HX2.out.st.hs.cell 6 _ rfl; have p7 := HX2.out.st.hs.cell 7 _ rfl; have p8 := HX2.out.st.hs.cell 8 _ rfl; have p9 := HX2.out.st.hs.cell 9 _ rfl; have p10 := HX2.out.st.hs.cell 10 _ rfl; have p11 := HX2.out.st.hs.cell 11 _ rfl; have p12 := HX2.out.st.hs.cell 12 _ rfl; have pz := HX2.out.st.hs.frozen
    obtain ⟨⟨q0, q1, q2, q3, q4, q5, q6, q7⟩, q8⟩ := KG.out.c8
    obtain ⟨y0, y1, y2, y3, y4, y5, y6, y7⟩ := HX2.out.cx
    have hlg := KG.out.lt
    have hls9 := HX2.out.st.hs.lt
    have hlb : b < wc.heap.size := World.block_lt_of_cell? _ _ y0
    go_wp2_with fail
    go_region
    have H9 := (stw_row HX2.out.st (saS s) r.1 A1 A' c1 c' HX2.out.tx HTL.out).step (below_drew (Below.refl _ _))
    clear p0 p1 p2 p3 p4 p5 p6 p7 p8 p9 p10 p11 p12 pz
    clear q0 q1 q2 q3 q4 q5 q6 q7 q8 y0 y1 y2 y3 y4 y5 y6 y7 hlg hls9 hlb
    generalize hW9 : ((wc.setCell ⟨w.heap.size, 8, none⟩ (.slice (some ⟨wc.heap.size, 0, none⟩) 2 2)).alloc (.cells #[.int .i64 (saS s).nu, .int .i64 (saS s).ro, .int .i64 (saS s).ep, .int .i64 (saS s).ap, .slice A1 (saS s).li.length c1, .int .i64 (saS s).so, .bool (saS s).al, .bool (saS s).co, .int .i64 r.1.nu, .int .i64 r.1.ro, .int .i64 r.1.ep, .int .i64 r.1.ap, .slice A' r.1.li.length c', .int .i64 r.1.so, .bool r.1.al, .bool r.1.co] 57)).drew = W9 at H9 ⊢
    clear hW9 KG HX2 HTL
    have H9 := Keep.mk H9
    have p0 := H9.out.hs.cell 0 _ rfl; have p1 := H9.out.hs.cell 1 _ rfl; have p2 := H9.out.hs.cell 2 _ rfl; have p3 := H9.out.hs.cell 3 _ rfl; have p4 := H9.out.hs.cell 4 _ rfl; have p5 := H9.out.hs.cell 5 _ rfl; have p6 := H9.out.hs.cell 6 _ rfl; have p7 := H9.out.hs.cell 7 _ rfl; have p8 := H9.out.hs.cell 8 _ rfl; have p9 := H9.out.hs.cell 9 _ rfl; have p10 := H9.out.hs.cell 10 _ rfl; have p11 := H9.out.hs.cell 11 _ rfl; have p12 := H9.out.hs.cell 12 _ rfl; have pz := H9.out.hs.frozen
    have hri := HRI.out
    rw [hri] at p12
    clear hri
    go_upto_region 16 with fail
    have HA := H9.out.put (s' := StS.mk s.p [saS s, r.1] s.cy s.old s.cl (r.2 == 0)) 12 (.bool (r.2 == 0)) rfl H9.out.tl H9.out.to_
    clear p0 p1 p2 p3 p4 p5 p6 p7 p8 p9 p10 p11 p12 pz
    generalize W9.setCell ⟨w.heap.size, 12, none⟩ (.bool (r.2 == 0)) = W10 at HA ⊢
    have HA := Keep.mk HA
    have p0 := HA.out.hs.cell 0 _ rfl; have p1 := HA.out.hs.cell 1 _ rfl; have p2 := HA.out.hs.cell 2 _ rfl; have p3 := HA.out.hs.cell 3 _ rfl; have p4 := HA.out.hs.cell 4 _ rfl; have p5 := HA.out.hs.cell 5 _ rfl; have p6 := HA.out.hs.cell 6 _ rfl; have p7 := HA.out.hs.cell 7 _ rfl; have p8 := HA.out.hs.cell 8 _ rfl; have p9 := HA.out.hs.cell 9 _ rfl; have p10 := HA.out.hs.cell 10 _ rfl; have p11 := HA.out.hs.cell 11 _ rfl; have p12 := HA.out.hs.cell 12 _ rfl; have pz := HA.out.hs.frozen
    go_wp2_with ((with_reducible refine wpList_store_held ?_ 51 (.tmp 4) (.tmp 121) ?_ w (w.heap.size + 2) [.int .i64 0, .int .i64 0, .int .i64 0, .int .i64 0, .int .i64 0, .int .i64 0, .bool false, .bool false, .slice none 0 0, .int .i64 0, .slice none 0 0, .bool false, .bool false] 51 HA.out.hr ?_ [.int .i64 (StS.mk s.p [saS s, r.1] s.cy s.old s.cl (r.2 == 0)).p.ki, .int .i64 (StS.mk s.p [saS s, r.1] s.cy s.old s.cl (r.2 == 0)).p.fr, .int .i64 (StS.mk s.p [saS s, r.1] s.cy s.old s.cl (r.2 == 0)).p.to_, .int .i64 (StS.mk s.p [saS s, r.1] s.cy s.old s.cl (r.2 == 0)).p.st, .int .i64 (StS.mk s.p [saS s, r.1] s.cy s.old s.cl (r.2 == 0)).p.ep, .int .i64 (StS.mk s.p [saS s, r.1] s.cy s.old s.cl (r.2 == 0)).p.cy, .bool (StS.mk s.p [saS s, r.1] s.cy s.old s.cl (r.2 == 0)).p.dn, .bool (StS.mk s.p [saS s, r.1] s.cy s.old s.cl (r.2 == 0)).p.fa, .slice (some ⟨wc.heap.size, 0, none⟩) (StS.mk s.p [saS s, r.1] s.cy s.old s.cl (r.2 == 0)).l.length 2, .int .i64 (StS.mk s.p [saS s, r.1] s.cy s.old s.cl (r.2 == 0)).cy, .slice A2 (StS.mk s.p [saS s, r.1] s.cy s.old s.cl (r.2 == 0)).old.length c2, .bool (StS.mk s.p [saS s, r.1] s.cy s.old s.cl (r.2 == 0)).cl, .bool (StS.mk s.p [saS s, r.1] s.cy s.old s.cl (r.2 == 0)).ri] ?_ ?_ ?_ ?_ ?_); rfl; rfl; rfl; rfl; rfl; exact st_size; exact st_one _ _ _ _ _; intro wE KE hg; have HE := Keep.mk (And.intro KE hg); clear KE hg)
    exact bodyPost_ret (results_row1 rfl _ _ (w.heap.size + 2) 51 _ _ rfl HE.out.1.blk Try.underlying51 rfl (by kernel_rfl)) rfl ⟨(some ⟨wc.heap.size, 0, none⟩), 2, A2, c2, rfl, HA.out.tl.other HA.out.hr (by decide) HE.out.2, HA.out.to_.other HA.out.hr (by decide) HE.out.2, HE.out.1.bel⟩
end Go.Proofs.Ytijhkgabonkmfaa
