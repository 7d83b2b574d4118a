/- Contracts: slices.Clone of a lineage; a transition: begin, demand, become, end. -/
import Derived.Test.YtijhkgabonkmfaaRoleC
import Derived.Laws.Cover3
namespace Go.Proofs.Ytijhkgabonkmfaa
open Go.RowKit
set_option linter.unusedSimpArgs false
set_option linter.unusedVariables false
theorem eql_slice_nil {P : Program} (w : World) (t e : TypeId) (a : Option Addr) (l c : Nat) (h : P.underlying t = some (.slice e)) : (binOp .eql t (.slice a l c) (.slice none 0 0)).run P w = .ok (.bool a.isNone) w := by
  have hk : ∀ d : Nat, (Op.equalIn (d + 1) t (.slice a l c) (.slice none 0 0)).run P w = .ok a.isNone w := fun d => by
    cases a <;> simp [Op.equalIn, run_underlying h]
  simp only [binOp]
  simp [Op.equal, Op.maxDepth, hk]
theorem span_info : (Try.prog.info? 88).map (fun i => (i.zero, i.size, i.bytes)) = some (some (.agg #[.int .i64 0, .int .i64 0, .int .i64 0]), 3, 24) := by kernel_rfl
def Cloned (w : World) (l : List Span) (e : Ending) (w' : World) : Prop :=
  ∃ A c, e = .returned (.slice A l.length c) ∧ OwnSp w' w.heap.size A c l ∧ Below w.heap.size w w'
set_option maxHeartbeats 1000000 in
theorem clone_spans (w : World) (A : Option Addr) (c : Nat) (l : List Span) (h : SpansAt w A c l) :
    Calls Try.prog 51 #[.slice A l.length c] w (Cloned w l) := by
  have hq := fun (w : World) => eql_slice_nil (P := Try.prog) w 55 88 A l.length c Try.underlying55
  rcases A with _ | a
  · have hn : l = [] := by
      rcases Nat.eq_zero_or_pos l.length with h0 | h0
      · exact List.eq_nil_of_length_eq_zero h0
      · obtain ⟨b, o, e, _⟩ := h.2.2 h0
        cases e
    subst hn
    simp only [Option.isNone_none, List.length_nil] at hq
    clear h
    go_enter Try.func51, Try.ntmps51
    go_wp2
    go_ret
    exact ⟨none, 0, rfl, OwnSp.nil _ _, Below.refl _ _⟩
  · simp only [Option.isNone_some] at hq
    have hl := h.len
    have hnews : ∀ j u, (spanCells l)[j]? = some u → w.cell? (a.add j) = some u := by
      intro j u hu
      have hj : j < l.length * 3 := by
        rw [← spanCells_length]
        exact (List.getElem?_eq_some_iff.1 hu).1
      obtain ⟨b, o, e, hc⟩ := h.2.2 (by omega)
      injection e with e
      subst e
      obtain ⟨c0, c1, c2⟩ := hc (j / 3) (by omega)
      obtain ⟨d0, d1, d2⟩ := spanCells_at l (j / 3) (by omega)
      have ea : (⟨b, o, none⟩ : Addr).add j = ⟨b, o + j, none⟩ := by unfold Addr.add; split <;> simp_all
      rw [ea]
      have h3 : j % 3 = 0 ∨ j % 3 = 1 ∨ j % 3 = 2 := by omega
      rcases h3 with h3 | h3 | h3
      · have : j = j / 3 * 3 := by omega
        rw [this] at hu ⊢
        rw [d0] at hu; injection hu with hu; subst hu; exact c0
      · have : j = j / 3 * 3 + 1 := by omega
        rw [this] at hu ⊢
        rw [d1] at hu; injection hu with hu; subst hu; exact c1
      · have : j = j / 3 * 3 + 2 := by omega
        rw [this] at hu ⊢
        rw [d2] at hu; injection hu with hu; subst hu; exact c2
    have HN := Keep.mk hnews
    have HL := Keep.mk h.1
    clear hnews h
    obtain ⟨i0, hi, hzz⟩ := Option.map_eq_some_iff.1 span_info
    simp only [Prod.mk.injEq] at hzz
    have HI := Keep.mk hi
    have HZ := Keep.mk hzz
    clear hi hzz
    go_enter Try.func51, Try.ntmps51
    go_wp2_with (first | (at_builtin; refine wpList_append_own_at _ rfl (.tmp 5) (.tmp 6) 55 rfl w.heap.size 88 i0 _ 3 24 Try.underlying55 HI.out HZ.out.1 HZ.out.2.1 HZ.out.2.2 rfl (by decide) (.slice (some ⟨w.heap.size, 0, none⟩) 0 0) 0 [] rfl ?c1 a l.length c (spanCells l) rfl ?c2 ?c3 (spanCells_one l) ?c4 ?c5 ?c6 ?c7))
    case c1 => exact World.ownsRow_made (base := w.heap.size) w #[] 0 (Nat.le_refl _) (by decide) (by simp)
    case c2 => rw [spanCells_length]
    case c3 => exact fun j u hu => (((Below.refl w.heap.size w).alloc (Nat.le_refl _) (.cells #[] 88)).cell (p := a.add j) (World.block_lt_of_cell? w _ (HN.out j u hu))).trans (HN.out j u hu)
    case c4 => simp only [maxLen]; omega
    case c5 => omega
    case c6 => simp
    case c7 =>
      intro v' w1 hown hgr hnil hat
      have hex : ∃ A' c', v' = .slice A' l.length c' ∧ l.length ≤ c' := by
        rcases hown.2 with ⟨hv, h0⟩ | ⟨g, cap, cur, hv, _, _, hle, _⟩
        · exact ⟨none, 0, by rw [hv, h0], by omega⟩
        · exact ⟨_, cap, hv, hle⟩
      have HB := Keep.mk ((below_new (Below.refl w.heap.size w) (.cells #[] 88)).grown hgr (by simp) (by intro k hk; simp [Value.ownBlock] at hk; omega))
      clear hgr hnil hat
      obtain ⟨A', c', hv, hle⟩ := hex
      subst hv
      have HO := Keep.mk hown
      clear hown
      go_wp2
      go_ret
      exact ⟨A', c', rfl, ⟨HO.out, hl, hle⟩, HB.out⟩
/-- A transition under way, in block g: the site, the first error. -/
def Tr (w0 : World) (g : Nat) (s : Site) (e : Int) (W : World) : Prop :=
  ∃ A c, Held w0 g [.int .i64 s.nu, .int .i64 s.ro, .int .i64 s.ep, .int .i64 s.ap, .slice A s.li.length c, .int .i64 s.so, .bool s.al, .bool s.co, .int .i64 e] 108 W ∧ OwnSp W w0.heap.size A c s.li
def Begun (w : World) (s : Site) (e : Ending) (w' : World) : Prop := ∃ g, e = .returned (.pointer (some ⟨g, 0, none⟩)) ∧ Tr w g s (checkS s) w'
set_option maxHeartbeats 1000000 in
theorem role_begin (w : World) (s : Site) (A : Option Addr) (c : Nat) (h : SpansAt w A c s.li) :
    Calls Try.prog 68 #[.agg #[.int .i64 s.nu, .int .i64 s.ro, .int .i64 s.ep, .int .i64 s.ap, .slice A s.li.length c, .int .i64 s.so, .bool s.al, .bool s.co]] w (Begun w s) := by
  have HC := Keep.mk h
  clear h
  go_enter Try.func68, Try.ntmps68
  go_wp2_with fail
  refine (clone_spans _ _ _ _ (HC.out.alloc _)).mono ?_
  rintro e w1 ⟨A1, c1, rfl, hown, hb⟩
  have K1 : Held w w.heap.size [.int .i64 s.nu, .int .i64 s.ro, .int .i64 s.ep, .int .i64 s.ap, .slice A s.li.length c, .int .i64 s.so, .bool s.al, .bool s.co] 57 w1 := (Held.new (Below.refl w.heap.size w) _ _).step hb
  have HO := Keep.mk hown
  clear hown hb
  have ha4 := K1.cell 4 _ rfl
  have hz4 := K1.frozen 4
  go_wp2_with fail
  have K2 : Held w w.heap.size [.int .i64 s.nu, .int .i64 s.ro, .int .i64 s.ep, .int .i64 s.ap, .slice A1 s.li.length c1, .int .i64 s.so, .bool s.al, .bool s.co] 57 (w1.setCell ⟨w.heap.size, 4, none⟩ (.slice A1 s.li.length c1)) := K1.set 4 _
  have HO2 := Keep.mk (HO.out.setOther (j := 4) K1.blk (by decide) (.slice A1 s.li.length c1))
  clear HO K1 ha4 hz4
  generalize w1.setCell ⟨w.heap.size, 4, none⟩ (.slice A1 s.li.length c1) = W2 at K2 HO2 ⊢
  go_region_held3 (fun W => W.cell? ⟨w.heap.size, 0, none⟩ = some (.int .i64 s.nu) ∧ W.cell? ⟨w.heap.size, 1, none⟩ = some (.int .i64 s.ro) ∧ W.cell? ⟨w.heap.size, 2, none⟩ = some (.int .i64 s.ep) ∧ W.cell? ⟨w.heap.size, 3, none⟩ = some (.int .i64 s.ap) ∧ W.cell? ⟨w.heap.size, 4, none⟩ = some (.slice A1 s.li.length c1) ∧ W.cell? ⟨w.heap.size, 5, none⟩ = some (.int .i64 s.so) ∧ W.cell? ⟨w.heap.size, 6, none⟩ = some (.bool s.al) ∧ W.cell? ⟨w.heap.size, 7, none⟩ = some (.bool s.co) ∧ Held w w.heap.size [.int .i64 s.nu, .int .i64 s.ro, .int .i64 s.ep, .int .i64 s.ap, .slice A1 s.li.length c1, .int .i64 s.so, .bool s.al, .bool s.co] 57 W)
    ((first | exact ⟨K2.cell 0 _ rfl, K2.cell 1 _ rfl, K2.cell 2 _ rfl, K2.cell 3 _ rfl, K2.cell 4 _ rfl, K2.cell 5 _ rfl, K2.cell 6 _ rfl, K2.cell 7 _ rfl, K2.drew⟩ | exact ⟨(K2.drew.step ‹Below W2.drew.heap.size W2.drew _›).cell 0 _ rfl, (K2.drew.step ‹Below W2.drew.heap.size W2.drew _›).cell 1 _ rfl, (K2.drew.step ‹Below W2.drew.heap.size W2.drew _›).cell 2 _ rfl, (K2.drew.step ‹Below W2.drew.heap.size W2.drew _›).cell 3 _ rfl, (K2.drew.step ‹Below W2.drew.heap.size W2.drew _›).cell 4 _ rfl, (K2.drew.step ‹Below W2.drew.heap.size W2.drew _›).cell 5 _ rfl, (K2.drew.step ‹Below W2.drew.heap.size W2.drew _›).cell 6 _ rfl, (K2.drew.step ‹Below W2.drew.heap.size W2.drew _›).cell 7 _ rfl, K2.drew.step ‹Below W2.drew.heap.size W2.drew _›⟩ | exact ⟨((K2.drew.step ‹Below W2.drew.heap.size W2.drew _›).alloc _).cell 0 _ rfl, ((K2.drew.step ‹Below W2.drew.heap.size W2.drew _›).alloc _).cell 1 _ rfl, ((K2.drew.step ‹Below W2.drew.heap.size W2.drew _›).alloc _).cell 2 _ rfl, ((K2.drew.step ‹Below W2.drew.heap.size W2.drew _›).alloc _).cell 3 _ rfl, ((K2.drew.step ‹Below W2.drew.heap.size W2.drew _›).alloc _).cell 4 _ rfl, ((K2.drew.step ‹Below W2.drew.heap.size W2.drew _›).alloc _).cell 5 _ rfl, ((K2.drew.step ‹Below W2.drew.heap.size W2.drew _›).alloc _).cell 6 _ rfl, ((K2.drew.step ‹Below W2.drew.heap.size W2.drew _›).alloc _).cell 7 _ rfl, (K2.drew.step ‹Below W2.drew.heap.size W2.drew _›).alloc _⟩ | (trace_state; fail)))
    (first | (go_at_call 44; refine (role_Check _ s _ _ (HO2.out.step (below_drew (Below.refl _ _))).reads).mono ?_; rintro e w' ⟨rfl, hb⟩))
  have hb' := ‹Below W2.drew.heap.size W2.drew _›
  go_wp2
  go_ret
  exact ⟨_, rfl, A1, c1, Held.new (below_then (below_drew K2.bel) hb') [.int .i64 s.nu, .int .i64 s.ro, .int .i64 s.ep, .int .i64 s.ap, .slice A1 s.li.length c1, .int .i64 s.so, .bool s.al, .bool s.co, .int .i64 (checkS s)] _, (((HO2.out.step (below_drew (Below.refl _ _))).step hb').step (below_new (Below.refl _ _) _)).mono (by simp)⟩
/-- the first error -/
def dem (e : Int) (b : Bool) (x : Int) : Int := if b = false ∧ e = 0 then x else e
theorem Tr.bel {w0 W : World} {g : Nat} {s : Site} {e : Int} (h : Tr w0 g s e W) : Below w0.heap.size w0 W := by obtain ⟨A, c, K, _⟩ := h; exact K.bel
theorem Tr.step {w0 W W' : World} {g : Nat} {s : Site} {e : Int} (h : Tr w0 g s e W) (hb : Below W.heap.size W W') : Tr w0 g s e W' := by
  obtain ⟨A, c, K, HO⟩ := h
  exact ⟨A, c, K.step hb, HO.step hb⟩
set_option maxHeartbeats 1000000 in
theorem tr_demand (w0 W : World) (g : Nat) (s : Site) (e : Int) (b : Bool) (x : Int) (h : Tr w0 g s e W) :
    Calls Try.prog 69 #[.pointer (some ⟨g, 0, none⟩), .bool b, .int .i64 x] W fun en W' => en = .returned (.tuple #[]) ∧ Tr w0 g s (dem e b x) W' := by
  obtain ⟨A, c, K, HO⟩ := h
  have ha8 := K.cell 8 _ rfl
  have hz8 := K.frozen 8
  have HK := Keep.mk K
  have HO := Keep.mk HO
  clear K
  cases b
  · by_cases he : e = 0
    · subst he
      go_enter Try.func69, Try.ntmps69
      go_wp2
      go_end0
      exact ⟨rfl, A, c, HK.out.set 8 _, HO.out.setOther HK.out.blk (by decide) _⟩
    · have hd : dem e false x = e := by simp [dem, he]
      rw [hd]
      have he' : (e == 0) = false := by simpa using he
      clear he
      go_enter Try.func69, Try.ntmps69
      go_wp2
      go_end0
      exact ⟨rfl, A, c, HK.out, HO.out⟩
  · have hd : dem e true x = e := by simp [dem]
    rw [hd]
    go_enter Try.func69, Try.ntmps69
    go_wp2
    go_end0
    exact ⟨rfl, A, c, HK.out, HO.out⟩
set_option maxHeartbeats 1000000 in
theorem tr_become (w0 W : World) (g : Nat) (s : Site) (e : Int) (r p q : Int) (h : Tr w0 g s e W) :
    Calls Try.prog 82 #[.pointer (some ⟨g, 0, none⟩), .int .i64 r, .int .i64 p, .int .i64 q] W fun en W' => en = .returned (.tuple #[]) ∧ Tr w0 g { s with ro := r, ep := p, so := q } e W' := by
  obtain ⟨A, c, K, HO⟩ := h
  have ha1 := K.cell 1 _ rfl
  have hz1 := K.frozen 1
  have ha2 := K.cell 2 _ rfl
  have hz2 := K.frozen 2
  have ha5 := K.cell 5 _ rfl
  have hz5 := K.frozen 5
  have HK := Keep.mk K
  have HO := Keep.mk HO
  clear K
  go_enter Try.func82, Try.ntmps82
  go_wp2
  go_end0
  exact ⟨rfl, A, c, ((HK.out.set 1 _).set 2 _).set 5 _, ((HO.out.setOther HK.out.blk (by decide) _).setOther (HK.out.set 1 _).blk (by decide) _).setOther ((HK.out.set 1 _).set 2 _).blk (by decide) _⟩
/-- a site and an error are returned -/
def SiteRes (base : Nat) (w : World) (r : Site × Int) (e : Ending) (w' : World) : Prop :=
  ∃ A c, e = .returned (.tuple #[.agg #[.int .i64 r.1.nu, .int .i64 r.1.ro, .int .i64 r.1.ep, .int .i64 r.1.ap, .slice A r.1.li.length c, .int .i64 r.1.so, .bool r.1.al, .bool r.1.co], .int .i64 r.2]) ∧ OwnSp w' base A c r.1.li ∧ Below w.heap.size w w'
set_option maxHeartbeats 1000000 in
theorem tr_end (w0 W : World) (g : Nat) (s : Site) (e : Int) (r : Site × Int) (hr : r = (if e = 0 then s else zS, e)) (h : Tr w0 g s e W) :
    Calls Try.prog 71 #[.pointer (some ⟨g, 0, none⟩)] W (SiteRes w0.heap.size W r) := by
  subst hr
  obtain ⟨A, c, K, HO⟩ := h
  have ha0 := K.cell 0 _ rfl
  have ha1 := K.cell 1 _ rfl
  have ha2 := K.cell 2 _ rfl
  have ha3 := K.cell 3 _ rfl
  have ha4 := K.cell 4 _ rfl
  have ha5 := K.cell 5 _ rfl
  have ha6 := K.cell 6 _ rfl
  have ha7 := K.cell 7 _ rfl
  have ha8 := K.cell 8 _ rfl
  have hlt := K.lt
  have HO := Keep.mk HO
  by_cases he : e = 0
  · subst he
    clear K
    go_enter Try.func71, Try.ntmps71
    go_wp2
    exact bodyPost_ret (results_row_tmp rfl _ _ W.heap.size 57 _ _ rfl (heap_alloc_new W _) Try.underlying57 rfl (by kernel_rfl)) rfl ⟨A, c, rfl, HO.out.step (below_new (Below.refl _ _) _), below_new (Below.refl _ _) _⟩
  · have he' : (e != 0) = true := by simpa using he
    rw [if_neg he]
    have hK := Keep.mk K
    clear he K
    go_enter Try.func71, Try.ntmps71
    go_wp2
    go_region
    go_wp2
    exact bodyPost_ret (results_row_tmp rfl _ _ W.heap.size 57 _ _ rfl (heap_alloc_new W _) Try.underlying57 rfl (by kernel_rfl)) rfl ⟨none, 0, rfl, OwnSp.nil _ _, below_drew (below_new (Below.refl _ _) _)⟩
theorem Held.new1 (w : World) (o : Obj) (cs : List Value) (t : TypeId) : Held w (w.heap.size + 1) cs t ((w.alloc o).alloc (.cells cs.toArray t)) := by
  have h := Held.new (below_new (Below.refl w.heap.size w) o) cs t
  have e : (w.alloc o).heap.size = w.heap.size + 1 := by simp
  rwa [e] at h
/-- A site is stored into a block. -/
theorem site_stored {w W : World} {g : Nat} {v0 v1 v2 v3 v4 v5 v6 v7 : Value} (K : Held w g [v0, v1, v2, v3, v4, v5, v6, v7] 57 W) (r : Site) (A : Option Addr) (c : Nat) {base : Nat} (HO : OwnSp W base A c r.li) :
    Held w g [.int .i64 r.nu, .int .i64 r.ro, .int .i64 r.ep, .int .i64 r.ap, .slice A r.li.length c, .int .i64 r.so, .bool r.al, .bool r.co] 57 ((((((((W.setCell ⟨g, 0, none⟩ (.int .i64 r.nu)).setCell ⟨g, 1, none⟩ (.int .i64 r.ro)).setCell ⟨g, 2, none⟩ (.int .i64 r.ep)).setCell ⟨g, 3, none⟩ (.int .i64 r.ap)).setCell ⟨g, 4, none⟩ (.slice A r.li.length c)).setCell ⟨g, 5, none⟩ (.int .i64 r.so)).setCell ⟨g, 6, none⟩ (.bool r.al)).setCell ⟨g, 7, none⟩ (.bool r.co)) ∧
    OwnSp ((((((((W.setCell ⟨g, 0, none⟩ (.int .i64 r.nu)).setCell ⟨g, 1, none⟩ (.int .i64 r.ro)).setCell ⟨g, 2, none⟩ (.int .i64 r.ep)).setCell ⟨g, 3, none⟩ (.int .i64 r.ap)).setCell ⟨g, 4, none⟩ (.slice A r.li.length c)).setCell ⟨g, 5, none⟩ (.int .i64 r.so)).setCell ⟨g, 6, none⟩ (.bool r.al)).setCell ⟨g, 7, none⟩ (.bool r.co)) base A c r.li := by
  have K0 := K.set 0 (.int .i64 r.nu)
  have K1 := K0.set 1 (.int .i64 r.ro)
  have K2 := K1.set 2 (.int .i64 r.ep)
  have K3 := K2.set 3 (.int .i64 r.ap)
  have K4 := K3.set 4 (.slice A r.li.length c)
  have K5 := K4.set 5 (.int .i64 r.so)
  have K6 := K5.set 6 (.bool r.al)
  have K7 := K6.set 7 (.bool r.co)
  exact ⟨K7, (((((((HO.setOther K.blk (by decide) _).setOther K0.blk (by decide) _).setOther K1.blk (by decide) _).setOther K2.blk (by decide) _).setOther K3.blk (by decide) _).setOther K4.blk (by decide) _).setOther K5.blk (by decide) _).setOther K6.blk (by decide) _⟩
end Go.Proofs.Ytijhkgabonkmfaa
