/- Contracts: append of a lineage; the reference's Copy, Promote, Demote, Isolate. -/
import Derived.Test.YtijhkgabonkmfaaRefB
import Derived.Test.YtijhkgabonkmfaaRoleE
namespace Go.Proofs.Ytijhkgabonkmfaa
open Go.RowKit
set_option linter.unusedSimpArgs false
set_option linter.unusedVariables false
theorem SpansAt.news {w : World} {a : Addr} {c : Nat} {l : List Span} (h : SpansAt w (some a) c l) : ∀ j u, (spanCells l)[j]? = some u → w.cell? (a.add j) = some u := by
  intro j u hu
  have hj : j < l.length * 3 := by
    rw [← spanCells_length]
    exact (List.getElem?_eq_some_iff.1 hu).1
  obtain ⟨b, o, e, hc⟩ := h.2.2 (by omega)
  injection e with e
  subst e
  obtain ⟨c0, c1, c2⟩ := hc (j / 3) (by omega)
  obtain ⟨d0, d1, d2⟩ := spanCells_at l (j / 3) (by omega)
  have ea : (⟨b, o, none⟩ : Addr).add j = ⟨b, o + j, none⟩ := by unfold Addr.add; split <;> simp_all
  rw [ea]
  have h3 : j % 3 = 0 ∨ j % 3 = 1 ∨ j % 3 = 2 := by omega
  rcases h3 with h3 | h3 | h3
  · have : j = j / 3 * 3 := by omega
    rw [this] at hu ⊢
    rw [d0] at hu; injection hu with hu; subst hu; exact c0
  · have : j = j / 3 * 3 + 1 := by omega
    rw [this] at hu ⊢
    rw [d1] at hu; injection hu with hu; subst hu; exact c1
  · have : j = j / 3 * 3 + 2 := by omega
    rw [this] at hu ⊢
    rw [d2] at hu; injection hu with hu; subst hu; exact c2
set_option maxRecDepth 100000 in
theorem run_app_spans (W : World) (base : Nat) (ty : TypeId) (A1 : Option Addr) (c1 : Nat) (l1 : List Span) (HO : OwnSp W base A1 c1 l1) (A : Option Addr) (c : Nat) (l : List Span) (HR : SpansAt W A c l) (hlen : l1.length + l.length ≤ 5864062014634) (hbase : base ≤ W.heap.size) :
    ∃ A' c' w', (Builtin.append_ #[55, 55] ty #[.slice A1 l1.length c1, .slice A l.length c]).run Try.prog W = .ok (.slice A' (l1.length + l.length) c') w' ∧ OwnSp w' base A' c' (l1 ++ l) ∧ W.grownBy w' (Value.slice A1 l1.length c1).ownBlock := by
  obtain ⟨i0, hi, hzz⟩ := Option.map_eq_some_iff.1 span_info
  simp only [Prod.mk.injEq] at hzz
  obtain ⟨hz0, hz1, hz2⟩ := hzz
  rcases A with _ | a
  · have h0 : l = [] := by
      rcases Nat.eq_zero_or_pos l.length with h0 | h0
      · exact List.eq_nil_of_length_eq_zero h0
      · obtain ⟨b, o, e, _⟩ := HR.2.2 h0
        cases e
    subst h0
    refine ⟨A1, c1, W, ?_, by simpa using HO, World.grownBy.refl W _⟩
    rcases HO.1.2 with ⟨hv, hn⟩ | ⟨g, cap, cur, hv, _, _, hnc, _⟩
    · injection hv with hv1 hv2 hv3
      subst hv1 hv3
      simp [Builtin.append_, run_underlying Try.underlying55, sizeOf, typeInfo, hi, Builtin.lenOf, Builtin.firstCells, hn]
    · have : l1.length ≤ c1 := HO.2.2
      injection hv with hv1 hv2 hv3
      subst hv1
      simp [Builtin.append_, run_underlying Try.underlying55, sizeOf, typeInfo, hi, Builtin.lenOf, Builtin.firstCells, this, storeCells]
  · obtain ⟨v', w', hr, h2, h3, h4, h5⟩ := run_append_own_at (P := Try.prog) W base 55 ty 88 i0 _ 3 24 Try.underlying55 hi hz0 hz1 hz2 rfl (by decide) (.slice A1 l1.length c1) l1.length (spanCells l1) HO.1 a l.length c (spanCells l) (by rw [spanCells_length]) HR.news (spanCells_one l) (by simp only [maxLen]; omega) (by omega) hbase
    have hex : ∃ A' c', v' = .slice A' (l1.length + l.length) c' ∧ l1.length + l.length ≤ c' := by
      rcases h2.2 with ⟨hv, h0⟩ | ⟨g, cap, cur, hv, _, _, hle, _⟩
      · exact ⟨none, 0, by rw [hv, h0], by omega⟩
      · exact ⟨_, cap, hv, hle⟩
    obtain ⟨A', c', rfl, hle⟩ := hex
    refine ⟨A', c', w', hr, ⟨?_, by simpa using hlen, by simpa using hle⟩, h3⟩
    rw [spanCells_append]
    simpa using h2
section
variable {ops : Array Oper} {rest : List Oper} {o : Oper} {a : Act} {Q : Exit → Act → World → Prop}
theorem wpList_app_spans {W : World} (hgd : o.guard = none) (s x : Operand) (ho : o.op = .call { callee := .builtin .append, args := #[s, x], argTypes := #[55, 55] })
    (base : Nat) (A1 : Option Addr) (c1 n1 : Nat) (l1 : List Span) (hn1 : n1 = l1.length) (HO : OwnSp W base A1 c1 l1) (A : Option Addr) (c n : Nat) (l : List Span) (hn : n = l.length) (HR : SpansAt W A c l) (hs : a.eval s = .slice A1 n1 c1) (hx : a.eval x = .slice A n c) (hlen : l1.length + l.length ≤ 5864062014634) (hbase : base ≤ W.heap.size)
    (h : ∀ A' c' w', OwnSp w' base A' c' (l1 ++ l) → W.grownBy w' (Value.slice A1 n1 c1).ownBlock → wpList Try.prog ops Q rest (a.put o.dst (.slice A' (n1 + n) c')) w') :
    wpList Try.prog ops Q (o :: rest) a W := by
  subst hn1 hn
  refine wpList_plain hgd fun K hK => ?_
  obtain ⟨A', c', w', hr, h2, h3⟩ := run_app_spans W base o.type A1 c1 l1 HO A c l HR hlen hbase
  unfold Oper.wp execOp
  simp only [ho, resolve, invoke, builtin, Sem.run_bind, Sem.run_pure, Result.andThen_ok, List.map_toArray, List.map_cons, List.map_nil, hs, hx, hr]
  exact hK _ _ (h A' c' w' h2 h3)
end
theorem grown_none {w W w' : World} (hB : Below w.heap.size w W) {row : Option Nat} (h : W.grownBy w' row) (hr : ∀ k, row = some k → w.heap.size ≤ k) : Below w.heap.size w w' := hB.grown h hB.size hr
theorem OwnSp.ge {W : World} {base : Nat} {A : Option Addr} {c : Nat} {l : List Span} (h : OwnSp W base A c l) (n : Nat) : ∀ k, (Value.slice A n c).ownBlock = some k → base ≤ k := by
  intro k hk
  rcases h.1.2 with ⟨hv, _⟩ | ⟨b, cap, cur, hv, hb, _⟩
  · injection hv with hv; rw [hv] at hk; cases hk
  · injection hv with hv; rw [hv] at hk; simp [Value.ownBlock] at hk; omega
def CopyRes (base : Nat) (w : World) (s : Site) (e : Ending) (w' : World) : Prop := ∃ A c, e = .returned (.agg #[.int .i64 s.nu, .int .i64 s.ro, .int .i64 s.ep, .int .i64 s.ap, .slice A s.li.length c, .int .i64 s.so, .bool s.al, .bool s.co]) ∧ OwnSp w' base A c s.li ∧ Below w.heap.size w w'
set_option maxHeartbeats 2000000 in
theorem ref_Copy (w : World) (s : Site) (A : Option Addr) (c : Nat) (h : SpansAt w A c s.li) :
    Calls Try.prog 80 #[.agg #[.int .i64 s.nu, .int .i64 s.ro, .int .i64 s.ep, .int .i64 s.ap, .slice A s.li.length c, .int .i64 s.so, .bool s.al, .bool s.co]] w (CopyRes w.heap.size w s) := by
  have HC := Keep.mk h
  have hl := h.len
  clear h
  go_enter Try.func80, Try.ntmps80
  go_wp2_with (first
    | (at_builtin; refine wpList_app_spans rfl (.tmp 4) (.tmp 6) rfl w.heap.size none 0 0 [] rfl (OwnSp.nil _ _) A c s.li.length s.li rfl ((HC.out.alloc _).alloc _) rfl rfl (by simpa using hl) (by simp; omega) ?c1))
  case c1 =>
    intro A1 c1 w1 hown hgr
    have HO := Keep.mk (show OwnSp w1 w.heap.size A1 c1 s.li by simpa using hown)
    have hB : Below (((w.alloc (.cells #[.int .i64 s.nu, .int .i64 s.ro, .int .i64 s.ep, .int .i64 s.ap, .slice A s.li.length c, .int .i64 s.so, .bool s.al, .bool s.co] 57)).alloc (.cells #[.int .i64 0, .int .i64 0, .int .i64 0, .int .i64 0, .slice none 0 0, .int .i64 0, .bool false, .bool false] 57))).heap.size (((w.alloc (.cells #[.int .i64 s.nu, .int .i64 s.ro, .int .i64 s.ep, .int .i64 s.ap, .slice A s.li.length c, .int .i64 s.so, .bool s.al, .bool s.co] 57)).alloc (.cells #[.int .i64 0, .int .i64 0, .int .i64 0, .int .i64 0, .slice none 0 0, .int .i64 0, .bool false, .bool false] 57))) w1 := (Below.refl _ _).grown hgr (Nat.le_refl _) (by intro k hk; simp [Value.ownBlock] at hk)
    have K0 := ((Held.new (Below.refl w.heap.size w) [.int .i64 s.nu, .int .i64 s.ro, .int .i64 s.ep, .int .i64 s.ap, .slice A s.li.length c, .int .i64 s.so, .bool s.al, .bool s.co] 57).alloc (.cells #[.int .i64 0, .int .i64 0, .int .i64 0, .int .i64 0, .slice none 0 0, .int .i64 0, .bool false, .bool false] 57)).step hB
    have K1 := (Held.new1 w _ [.int .i64 0, .int .i64 0, .int .i64 0, .int .i64 0, .slice none 0 0, .int .i64 0, .bool false, .bool false] 57).step hB
    obtain ⟨⟨p0, p1, p2, p3, p4, p5, p6, p7⟩, p8⟩ := K0.c8
    obtain ⟨⟨q0, q1, q2, q3, q4, q5, q6, q7⟩, q8⟩ := K1.c8
    have KK := Keep.mk (And.intro K0 K1)
    clear hown hgr hB K0 K1
    go_wp2
    have S := site_stored (KK.out.2.setOther (j := 4) (Nat.le_refl _) (by omega) (.slice A1 s.li.length c1)) s A1 c1 (HO.out.setOther (j := 4) KK.out.1.blk (by decide) (.slice A1 s.li.length c1))
    exact bodyPost_ret (results_cell_row rfl _ _ (w.heap.size + 1) 57 _ (0, 0) _ rfl S.1.blk Try.underlying57 rfl (by kernel_rfl)) rfl ⟨A1, c1, rfl, S.2, S.1.bel⟩
set_option maxHeartbeats 1000000 in
theorem ref_Promote (w : World) (s : Site) (A : Option Addr) (c : Nat) (ep : Int) (h : SpansAt w A c s.li) :
    Calls Try.prog 62 #[.agg #[.int .i64 s.nu, .int .i64 s.ro, .int .i64 s.ep, .int .i64 s.ap, .slice A s.li.length c, .int .i64 s.so, .bool s.al, .bool s.co], .int .i64 ep] w (SiteRes w.heap.size w (promoteS s ep)) := by
  have HC := Keep.mk h
  have hl := h.len
  clear h
  by_cases h1 : checkS s = 0
  · have h1' : (checkS s != 0) = false := by simp [h1]
    rcases Bool.eq_false_or_eq_true s.al with hal | hal
    rotate_left
    · have hv : promoteS s ep = (zS, 12) := by simp [promoteS, h1, hal]
      rw [hv]
      have hal' : (!s.al) = true := by simp [hal]
      clear h1 hv hal
      go_enter Try.func62, Try.ntmps62
      go_wp2_with (first
      | (go_at_call 54; refine (ref_Check _ s _ _ ((HC.out.alloc _).alloc _)).mono ?_; rintro e w1 ⟨rfl, hB⟩; have K0 := ((Held.new (Below.refl w.heap.size w) [.int .i64 s.nu, .int .i64 s.ro, .int .i64 s.ep, .int .i64 s.ap, .slice A s.li.length c, .int .i64 s.so, .bool s.al, .bool s.co] 57).alloc (.cells #[.int .i64 0, .int .i64 0, .int .i64 0, .int .i64 0, .slice none 0 0, .int .i64 0, .bool false, .bool false] 57)).step hB; have K1 := (Held.new1 w _ [.int .i64 0, .int .i64 0, .int .i64 0, .int .i64 0, .slice none 0 0, .int .i64 0, .bool false, .bool false] 57).step hB; clear hB; obtain ⟨⟨p0, p1, p2, p3, p4, p5, p6, p7⟩, p8⟩ := K0.c8; obtain ⟨⟨q0, q1, q2, q3, q4, q5, q6, q7⟩, q8⟩ := K1.c8; have hlt0 := K0.lt; have hlt1 := K1.lt; have KK := Keep.mk (And.intro K0 K1); clear K0 K1)
      | (go_at_call 72; refine (ref_site _ _).mono ?_; rintro e w' ⟨rfl, rfl⟩)
      | (go_at_call 80; refine (ref_Copy _ s _ _ (HC.out.below KK.out.1.bel)).mono ?_; rintro e w2 ⟨A2, c2, rfl, hO, hB⟩; have HO := Keep.mk (hO.mono KK.out.1.bel.size); have K0 := KK.out.1.step hB; have K1 := KK.out.2.step hB; clear hO hB KK p0 p1 p2 p3 p4 p5 p6 p7 p8 q0 q1 q2 q3 q4 q5 q6 q7 q8; obtain ⟨⟨p0, p1, p2, p3, p4, p5, p6, p7⟩, p8⟩ := K0.c8; obtain ⟨⟨q0, q1, q2, q3, q4, q5, q6, q7⟩, q8⟩ := K1.c8; have hlt0 := K0.lt; have hlt1 := K1.lt; have KK := Keep.mk (And.intro K0 K1); clear K0 K1))
      exact bodyPost_ret (results_row_tmp rfl _ _ (w.heap.size + 1) 57 _ _ rfl (site_stored KK.out.2 zS none 0 (OwnSp.nil _ w.heap.size)).1.blk Try.underlying57 rfl (by kernel_rfl)) rfl ⟨none, 0, rfl, (site_stored KK.out.2 zS none 0 (OwnSp.nil _ w.heap.size)).2, (site_stored KK.out.2 zS none 0 (OwnSp.nil _ w.heap.size)).1.bel⟩
    · rcases okP_ways s with ⟨h2, h3, hk⟩ | ⟨h2, h3, h4, h5, hk⟩ | ⟨h2, h4, hk⟩ | ⟨h2, h4, h5, hk⟩ | ⟨h2, h4, h5, hk⟩
      case inr.inl | inr.inr.inr.inr =>
        have hv : promoteS s ep = (zS, 18) := by simp [promoteS, h1, hal, hk]
        rw [hv]
        have g4 : (s.ro != 2) = true := by simp only [bne, h4, Bool.not_false]
        have g5 : (s.ro != 3) = true := by simp only [bne, h5, Bool.not_false]
        have hal' : (!s.al) = false := by simp [hal]
        clear h1 hv hk hal
        go_enter Try.func62, Try.ntmps62
        go_wp2_with (first
      | (go_at_call 54; refine (ref_Check _ s _ _ ((HC.out.alloc _).alloc _)).mono ?_; rintro e w1 ⟨rfl, hB⟩; have K0 := ((Held.new (Below.refl w.heap.size w) [.int .i64 s.nu, .int .i64 s.ro, .int .i64 s.ep, .int .i64 s.ap, .slice A s.li.length c, .int .i64 s.so, .bool s.al, .bool s.co] 57).alloc (.cells #[.int .i64 0, .int .i64 0, .int .i64 0, .int .i64 0, .slice none 0 0, .int .i64 0, .bool false, .bool false] 57)).step hB; have K1 := (Held.new1 w _ [.int .i64 0, .int .i64 0, .int .i64 0, .int .i64 0, .slice none 0 0, .int .i64 0, .bool false, .bool false] 57).step hB; clear hB; obtain ⟨⟨p0, p1, p2, p3, p4, p5, p6, p7⟩, p8⟩ := K0.c8; obtain ⟨⟨q0, q1, q2, q3, q4, q5, q6, q7⟩, q8⟩ := K1.c8; have hlt0 := K0.lt; have hlt1 := K1.lt; have KK := Keep.mk (And.intro K0 K1); clear K0 K1)
      | (go_at_call 72; refine (ref_site _ _).mono ?_; rintro e w' ⟨rfl, rfl⟩)
      | (go_at_call 80; refine (ref_Copy _ s _ _ (HC.out.below KK.out.1.bel)).mono ?_; rintro e w2 ⟨A2, c2, rfl, hO, hB⟩; have HO := Keep.mk (hO.mono KK.out.1.bel.size); have K0 := KK.out.1.step hB; have K1 := KK.out.2.step hB; clear hO hB KK p0 p1 p2 p3 p4 p5 p6 p7 p8 q0 q1 q2 q3 q4 q5 q6 q7 q8; obtain ⟨⟨p0, p1, p2, p3, p4, p5, p6, p7⟩, p8⟩ := K0.c8; obtain ⟨⟨q0, q1, q2, q3, q4, q5, q6, q7⟩, q8⟩ := K1.c8; have hlt0 := K0.lt; have hlt1 := K1.lt; have KK := Keep.mk (And.intro K0 K1); clear K0 K1))
        exact bodyPost_ret (results_row_tmp rfl _ _ (w.heap.size + 1) 57 _ _ rfl (site_stored KK.out.2 zS none 0 (OwnSp.nil _ w.heap.size)).1.blk Try.underlying57 rfl (by kernel_rfl)) rfl ⟨none, 0, rfl, (site_stored KK.out.2 zS none 0 (OwnSp.nil _ w.heap.size)).2, (site_stored KK.out.2 zS none 0 (OwnSp.nil _ w.heap.size)).1.bel⟩
      all_goals
        by_cases h6 : s.ep < ep
        · by_cases h7 : ep ≤ 1073741824
          · have hv : promoteS s ep = ({ s with ro := 1, ep := ep, so := -1 }, 0) := by simp [promoteS, h1, hal, hk, h6, h7]
            rw [hv]
            have g6 : decide (ep ≤ s.ep) = false := by simp; omega
            have g7 : decide (1073741824 < ep) = false := by simp; omega
            have g4 : (s.ro != 2) = !(s.ro == 2) := rfl
            have g5 : (s.ro != 3) = !(s.ro == 3) := rfl
            have hal' : (!s.al) = false := by simp [hal]
            clear h1 hv hk h6 h7 hal
            go_enter Try.func62, Try.ntmps62
            go_wp2_with (first
      | (go_at_call 54; refine (ref_Check _ s _ _ ((HC.out.alloc _).alloc _)).mono ?_; rintro e w1 ⟨rfl, hB⟩; have K0 := ((Held.new (Below.refl w.heap.size w) [.int .i64 s.nu, .int .i64 s.ro, .int .i64 s.ep, .int .i64 s.ap, .slice A s.li.length c, .int .i64 s.so, .bool s.al, .bool s.co] 57).alloc (.cells #[.int .i64 0, .int .i64 0, .int .i64 0, .int .i64 0, .slice none 0 0, .int .i64 0, .bool false, .bool false] 57)).step hB; have K1 := (Held.new1 w _ [.int .i64 0, .int .i64 0, .int .i64 0, .int .i64 0, .slice none 0 0, .int .i64 0, .bool false, .bool false] 57).step hB; clear hB; obtain ⟨⟨p0, p1, p2, p3, p4, p5, p6, p7⟩, p8⟩ := K0.c8; obtain ⟨⟨q0, q1, q2, q3, q4, q5, q6, q7⟩, q8⟩ := K1.c8; have hlt0 := K0.lt; have hlt1 := K1.lt; have KK := Keep.mk (And.intro K0 K1); clear K0 K1)
      | (go_at_call 72; refine (ref_site _ _).mono ?_; rintro e w' ⟨rfl, rfl⟩)
      | (go_at_call 80; refine (ref_Copy _ s _ _ (HC.out.below KK.out.1.bel)).mono ?_; rintro e w2 ⟨A2, c2, rfl, hO, hB⟩; have HO := Keep.mk (hO.mono KK.out.1.bel.size); have K0 := KK.out.1.step hB; have K1 := KK.out.2.step hB; clear hO hB KK p0 p1 p2 p3 p4 p5 p6 p7 p8 q0 q1 q2 q3 q4 q5 q6 q7 q8; obtain ⟨⟨p0, p1, p2, p3, p4, p5, p6, p7⟩, p8⟩ := K0.c8; obtain ⟨⟨q0, q1, q2, q3, q4, q5, q6, q7⟩, q8⟩ := K1.c8; have hlt0 := K0.lt; have hlt1 := K1.lt; have KK := Keep.mk (And.intro K0 K1); clear K0 K1))
            exact bodyPost_ret (results_row_tmp rfl _ _ (w.heap.size + 1) 57 _ _ rfl ((site_stored KK.out.2 ({ s with ro := 1, ep := ep, so := -1 } : Site) A2 c2 HO.out).1.alloc _).blk Try.underlying57 rfl (by kernel_rfl)) rfl ⟨A2, c2, rfl, (site_stored KK.out.2 ({ s with ro := 1, ep := ep, so := -1 } : Site) A2 c2 HO.out).2.step (below_new (Below.refl _ _) _), ((site_stored KK.out.2 ({ s with ro := 1, ep := ep, so := -1 } : Site) A2 c2 HO.out).1.alloc _).bel⟩
          · have hv : promoteS s ep = (zS, 2) := by simp [promoteS, h1, hal, hk, h6, h7]
            rw [hv]
            have g6 : decide (ep ≤ s.ep) = false := by simp; omega
            have g7 : decide (1073741824 < ep) = true := by simp; omega
            have g4 : (s.ro != 2) = !(s.ro == 2) := rfl
            have g5 : (s.ro != 3) = !(s.ro == 3) := rfl
            have hal' : (!s.al) = false := by simp [hal]
            clear h1 hv hk h6 h7 hal
            go_enter Try.func62, Try.ntmps62
            go_wp2_with (first
      | (go_at_call 54; refine (ref_Check _ s _ _ ((HC.out.alloc _).alloc _)).mono ?_; rintro e w1 ⟨rfl, hB⟩; have K0 := ((Held.new (Below.refl w.heap.size w) [.int .i64 s.nu, .int .i64 s.ro, .int .i64 s.ep, .int .i64 s.ap, .slice A s.li.length c, .int .i64 s.so, .bool s.al, .bool s.co] 57).alloc (.cells #[.int .i64 0, .int .i64 0, .int .i64 0, .int .i64 0, .slice none 0 0, .int .i64 0, .bool false, .bool false] 57)).step hB; have K1 := (Held.new1 w _ [.int .i64 0, .int .i64 0, .int .i64 0, .int .i64 0, .slice none 0 0, .int .i64 0, .bool false, .bool false] 57).step hB; clear hB; obtain ⟨⟨p0, p1, p2, p3, p4, p5, p6, p7⟩, p8⟩ := K0.c8; obtain ⟨⟨q0, q1, q2, q3, q4, q5, q6, q7⟩, q8⟩ := K1.c8; have hlt0 := K0.lt; have hlt1 := K1.lt; have KK := Keep.mk (And.intro K0 K1); clear K0 K1)
      | (go_at_call 72; refine (ref_site _ _).mono ?_; rintro e w' ⟨rfl, rfl⟩)
      | (go_at_call 80; refine (ref_Copy _ s _ _ (HC.out.below KK.out.1.bel)).mono ?_; rintro e w2 ⟨A2, c2, rfl, hO, hB⟩; have HO := Keep.mk (hO.mono KK.out.1.bel.size); have K0 := KK.out.1.step hB; have K1 := KK.out.2.step hB; clear hO hB KK p0 p1 p2 p3 p4 p5 p6 p7 p8 q0 q1 q2 q3 q4 q5 q6 q7 q8; obtain ⟨⟨p0, p1, p2, p3, p4, p5, p6, p7⟩, p8⟩ := K0.c8; obtain ⟨⟨q0, q1, q2, q3, q4, q5, q6, q7⟩, q8⟩ := K1.c8; have hlt0 := K0.lt; have hlt1 := K1.lt; have KK := Keep.mk (And.intro K0 K1); clear K0 K1))
            exact bodyPost_ret (results_row_tmp rfl _ _ (w.heap.size + 1) 57 _ _ rfl (site_stored KK.out.2 zS none 0 (OwnSp.nil _ w.heap.size)).1.blk Try.underlying57 rfl (by kernel_rfl)) rfl ⟨none, 0, rfl, (site_stored KK.out.2 zS none 0 (OwnSp.nil _ w.heap.size)).2, (site_stored KK.out.2 zS none 0 (OwnSp.nil _ w.heap.size)).1.bel⟩
        · have hv : promoteS s ep = (zS, 13) := by simp [promoteS, h1, hal, hk, h6]
          rw [hv]
          have g6 : decide (ep ≤ s.ep) = true := by simp; omega
          have g4 : (s.ro != 2) = !(s.ro == 2) := rfl
          have g5 : (s.ro != 3) = !(s.ro == 3) := rfl
          have hal' : (!s.al) = false := by simp [hal]
          clear h1 hv hk h6 hal
          go_enter Try.func62, Try.ntmps62
          go_wp2_with (first
      | (go_at_call 54; refine (ref_Check _ s _ _ ((HC.out.alloc _).alloc _)).mono ?_; rintro e w1 ⟨rfl, hB⟩; have K0 := ((Held.new (Below.refl w.heap.size w) [.int .i64 s.nu, .int .i64 s.ro, .int .i64 s.ep, .int .i64 s.ap, .slice A s.li.length c, .int .i64 s.so, .bool s.al, .bool s.co] 57).alloc (.cells #[.int .i64 0, .int .i64 0, .int .i64 0, .int .i64 0, .slice none 0 0, .int .i64 0, .bool false, .bool false] 57)).step hB; have K1 := (Held.new1 w _ [.int .i64 0, .int .i64 0, .int .i64 0, .int .i64 0, .slice none 0 0, .int .i64 0, .bool false, .bool false] 57).step hB; clear hB; obtain ⟨⟨p0, p1, p2, p3, p4, p5, p6, p7⟩, p8⟩ := K0.c8; obtain ⟨⟨q0, q1, q2, q3, q4, q5, q6, q7⟩, q8⟩ := K1.c8; have hlt0 := K0.lt; have hlt1 := K1.lt; have KK := Keep.mk (And.intro K0 K1); clear K0 K1)
      | (go_at_call 72; refine (ref_site _ _).mono ?_; rintro e w' ⟨rfl, rfl⟩)
      | (go_at_call 80; refine (ref_Copy _ s _ _ (HC.out.below KK.out.1.bel)).mono ?_; rintro e w2 ⟨A2, c2, rfl, hO, hB⟩; have HO := Keep.mk (hO.mono KK.out.1.bel.size); have K0 := KK.out.1.step hB; have K1 := KK.out.2.step hB; clear hO hB KK p0 p1 p2 p3 p4 p5 p6 p7 p8 q0 q1 q2 q3 q4 q5 q6 q7 q8; obtain ⟨⟨p0, p1, p2, p3, p4, p5, p6, p7⟩, p8⟩ := K0.c8; obtain ⟨⟨q0, q1, q2, q3, q4, q5, q6, q7⟩, q8⟩ := K1.c8; have hlt0 := K0.lt; have hlt1 := K1.lt; have KK := Keep.mk (And.intro K0 K1); clear K0 K1))
          exact bodyPost_ret (results_row_tmp rfl _ _ (w.heap.size + 1) 57 _ _ rfl (site_stored KK.out.2 zS none 0 (OwnSp.nil _ w.heap.size)).1.blk Try.underlying57 rfl (by kernel_rfl)) rfl ⟨none, 0, rfl, (site_stored KK.out.2 zS none 0 (OwnSp.nil _ w.heap.size)).2, (site_stored KK.out.2 zS none 0 (OwnSp.nil _ w.heap.size)).1.bel⟩
  · have hv : promoteS s ep = (zS, checkS s) := by simp [promoteS, h1]
    rw [hv]
    have h1' : (checkS s != 0) = true := by simpa using h1
    clear h1 hv
    go_enter Try.func62, Try.ntmps62
    go_wp2_with (first
      | (go_at_call 54; refine (ref_Check _ s _ _ ((HC.out.alloc _).alloc _)).mono ?_; rintro e w1 ⟨rfl, hB⟩; have K0 := ((Held.new (Below.refl w.heap.size w) [.int .i64 s.nu, .int .i64 s.ro, .int .i64 s.ep, .int .i64 s.ap, .slice A s.li.length c, .int .i64 s.so, .bool s.al, .bool s.co] 57).alloc (.cells #[.int .i64 0, .int .i64 0, .int .i64 0, .int .i64 0, .slice none 0 0, .int .i64 0, .bool false, .bool false] 57)).step hB; have K1 := (Held.new1 w _ [.int .i64 0, .int .i64 0, .int .i64 0, .int .i64 0, .slice none 0 0, .int .i64 0, .bool false, .bool false] 57).step hB; clear hB; obtain ⟨⟨p0, p1, p2, p3, p4, p5, p6, p7⟩, p8⟩ := K0.c8; obtain ⟨⟨q0, q1, q2, q3, q4, q5, q6, q7⟩, q8⟩ := K1.c8; have hlt0 := K0.lt; have hlt1 := K1.lt; have KK := Keep.mk (And.intro K0 K1); clear K0 K1)
      | (go_at_call 72; refine (ref_site _ _).mono ?_; rintro e w' ⟨rfl, rfl⟩)
      | (go_at_call 80; refine (ref_Copy _ s _ _ (HC.out.below KK.out.1.bel)).mono ?_; rintro e w2 ⟨A2, c2, rfl, hO, hB⟩; have HO := Keep.mk (hO.mono KK.out.1.bel.size); have K0 := KK.out.1.step hB; have K1 := KK.out.2.step hB; clear hO hB KK p0 p1 p2 p3 p4 p5 p6 p7 p8 q0 q1 q2 q3 q4 q5 q6 q7 q8; obtain ⟨⟨p0, p1, p2, p3, p4, p5, p6, p7⟩, p8⟩ := K0.c8; obtain ⟨⟨q0, q1, q2, q3, q4, q5, q6, q7⟩, q8⟩ := K1.c8; have hlt0 := K0.lt; have hlt1 := K1.lt; have KK := Keep.mk (And.intro K0 K1); clear K0 K1))
    exact bodyPost_ret (results_row_tmp rfl _ _ (w.heap.size + 1) 57 _ _ rfl (site_stored KK.out.2 zS none 0 (OwnSp.nil _ w.heap.size)).1.blk Try.underlying57 rfl (by kernel_rfl)) rfl ⟨none, 0, rfl, (site_stored KK.out.2 zS none 0 (OwnSp.nil _ w.heap.size)).2, (site_stored KK.out.2 zS none 0 (OwnSp.nil _ w.heap.size)).1.bel⟩
end Go.Proofs.Ytijhkgabonkmfaa
