/- Contract: switchover.Step: its ways out where the procedure, the sites or their numbers are not in order; the state behind both searches. -/
import Derived.Test.YtijhkgabonkmfaaSwN
namespace Go.Proofs.Ytijhkgabonkmfaa
open Go.RowKit
set_option linter.unusedSimpArgs false
set_option linter.unusedVariables false
set_option maxRecDepth 100000
def CheckedAt (w0 w : World) (l : List Site) (e : Ending) (w' : World) : Prop := ∃ A c m, e = .returned (.slice A l.length c) ∧ m.map (·.s) = l ∧ OwnAll (e0 w0) w' A c m ∧ OwnSi w' w.heap.size A c m ∧ Below w.heap.size w w'
theorem getD_set_at (m : List Sv) (k j : Nat) (x : Sv) (hk : k < m.length) : (m.set k x).getD j zSv = if j = k then x else m.getD j zSv := by
  by_cases h : j = k
  · subst h; simp [List.getD_eq_getElem?_getD, List.getElem?_set, hk]
  · rw [if_neg h]; simp [List.getD_eq_getElem?_getD, List.getElem?_set, Ne.symm h]
theorem own_next {wr w3 w' : World} {base b c2 k : Nat} {m : List Sv} {x : Site} {A3 : Option Addr} {c3 : Nat} (HA : ∀ j, j < k → OwnSp wr base (m.getD j zSv).A (m.getD j zSv).c (m.getD j zSv).s.li) (hB : Below wr.heap.size wr w3) (hb : base ≤ wr.heap.size) (h3 : OwnSp w3 wr.heap.size A3 c3 x.li) (hr : OwnSi w3 base (some ⟨b, 0, none⟩) c2 m) (hg : w3.grownBy w' (some b)) (hk : k < m.length) :
    ∀ j, j < k + 1 → OwnSp w' base ((m.set k ⟨x, A3, c3⟩).getD j zSv).A ((m.set k ⟨x, A3, c3⟩).getD j zSv).c ((m.set k ⟨x, A3, c3⟩).getD j zSv).s.li := by
  intro j hj
  have hgr : w3.grownBy w' (Value.slice (some ⟨b, 0, none⟩) m.length c2).ownBlock := hg
  rw [getD_set_at m k j _ hk]
  split
  · exact (h3.mono hb).row hr rfl hgr
  · exact ((HA j (by omega)).step hB).row hr rfl hgr
theorem own_all {w0 w wr : World} {A : Option Addr} {c n : Nat} {m : List Sv} (_h : m.length ≤ 1000000 ∧ m.length ≤ c) (hr : OwnSi wr w.heap.size A c m) (hn : m.length = n) (HA : ∀ j, j < n → OwnSp wr w.heap.size (m.getD j zSv).A (m.getD j zSv).c (m.getD j zSv).s.li) : OwnAll (e0 w0) wr A c m := by
  refine ⟨hr.mono (Nat.zero_le _), fun x hx => .inr ?_⟩
  obtain ⟨j, hj, rfl⟩ := List.getElem_of_mem hx
  have e : m.getD j zSv = m[j] := by simp [List.getD_eq_getElem?_getD, List.getElem?_eq_getElem hj]
  have := HA j (by omega)
  rw [e] at this
  exact this.mono (Nat.zero_le _)
set_option maxHeartbeats 2000000 in
/-- checked, with the sites that came in read in an earlier world -/
theorem sw_checked_at (w0 w : World) (hb0 : Below w0.heap.size w0 w) (A : Option Addr) (c B : Nat) (l : List Site) (he : (checkAllS l).2 = 0) (hl4 : l.length ≤ 4) (hB : ∀ x, x ∈ l → x.li.length ≤ B) (h : SitesAt B w0 A c l) :
    Calls Try.prog 32 #[.slice A l.length c] w (CheckedAt w0 w l) := by
  have HC := Keep.mk h
  have HE := Keep.mk he
  have HB0 := Keep.mk hB
  have HW := Keep.mk hb0
  clear h he hB hb0
  go_enter Try.func32, Try.ntmps32
  go_wp2_with (first
    | (go_at_call 25; (with_reducible refine (role_CheckAll w A c B l HB0.out (HC.out.below HW.out)).mono ?_); rw [HE.out]; rintro en w1 ⟨rfl, hB⟩; have HB1 := Keep.mk hB; clear hB)
    | (go_at_call 40; (with_reducible refine (sw_ok_ok _).mono ?_); rintro en w' ⟨rfl, hw⟩; subst w')
    | (go_at_call 50; (with_reducible refine (clone_sites w0 _ (below_then HW.out HB1.out) A c B l (by omega) HC.out).mono ?_); rintro en w2 ⟨A2, c2, m2, rfl, hm, hO, hs, hB⟩; have HB2 := Keep.mk (below_then HB1.out hB); have HM := Keep.mk hm; have HO := Keep.mk (show OwnAll w0 w2 A2 c2 m2 from ⟨hO.mono (Nat.le_trans HW.out.size HB1.out.size), fun x hx => .inl (hs x hx (HB0.out _ (by rw [← hm]; exact List.mem_map_of_mem hx)))⟩); have HP := Keep.mk (show OwnSi w2 w.heap.size A2 c2 m2 from hO.mono HB1.out.size); clear hm hO hs hB))
  go_loopg [18] l.length (fun g i wr => ∃ (k : Nat) (m : List Sv), g = l.length - k ∧ k ≤ l.length ∧ i = .int .i64 k ∧ Keep (m.map (·.s) = l) ∧ Keep (OwnAll w0 wr A2 c2 m) ∧ Keep (OwnSi wr w.heap.size A2 c2 m) ∧ Keep (Below w.heap.size w wr) ∧ Keep (∀ j, j < k → OwnSp wr w.heap.size (m.getD j zSv).A (m.getD j zSv).c (m.getD j zSv).s.li))
  case atStart => exact ⟨0, m2, by omega, by omega, rfl, HM, HO, HP, HB2, ⟨fun j hj => absurd hj (Nat.not_lt_zero _)⟩⟩
  case round =>
    obtain ⟨k, m, rfl, hk, rfl, HN, HQ, HR, H8, HA⟩ := hrel
    by_cases hk2 : k < l.length
    · have hml : m.length = l.length := by have := congrArg List.length HN.out; simpa using this
      obtain ⟨b, rfl, hb0, hb1, hfz, cs, hblk⟩ := HR.out.form (by omega)
      obtain ⟨b', o', A', c', hA, -, -, -, -, -, d4, -, -, -, hs⟩ := (HQ.out.reads (below_then HW.out H8.out) 5864062014634).at_ k (by simp; omega)
      injection hA with hA
      injection hA with q1 q2
      subst q1 q2
      rw [getD_map_s m k (by omega)] at d4 hs
      simp only [Nat.zero_add] at d4
      have hmem : m.getD k zSv ∈ m := by rw [List.getD_eq_getElem?_getD, List.getElem?_eq_getElem (by omega)]; exact List.getElem_mem _
      have HSP := Keep.mk (hs (HQ.out.few (below_then HW.out H8.out) _ (List.mem_map_of_mem hmem)))
      have hk3 : (k : Int) < (l.length : Int) := by omega
      have HMK := Keep.mk (show k < m.length by omega)
      have HSET := Keep.mk (show (m.map (·.s)).set k (m.getD k zSv).s = l by rw [HN.out, ← getD_map_s m k (by omega), HN.out]; exact set_getD_self l k)
      generalize hy : m.getD k zSv = y at d4 hmem HSP HSET
      have HY := Keep.mk hy
      clear hs hml hmem hy hblk
      go_wp2_with (go_at_call 51; (with_reducible refine (clone_spans _ A' c' y.s.li HSP.out).mono ?_); rintro en w3 ⟨A3, c3, rfl, hO3, hB3⟩; obtain ⟨hcl, hfz3⟩ := bcell hB3; have HO3 := Keep.mk hO3; have HB3 := Keep.mk hB3; clear hO3 hB3)
      have hq := HQ.out.step HB3.out
      have hset := hq.own.setLin k HMK.out A3 c3 y.s.li.length (by rw [HY.out])
      have hseb := (HR.out.step HB3.out).setLin k HMK.out A3 c3 y.s.li.length (by rw [HY.out])
      rw [HY.out] at hset hseb
      have hput := hq.put k HMK.out ⟨y.s, A3, c3⟩ hset.1 (.inr (HO3.out.mono (Nat.le_trans HW.out.size H8.out.size))) hset.2
      go_roundg (l.length - (k + 1))
      case measure => omega
      case rel => exact ⟨k + 1, m.set k ⟨y.s, A3, c3⟩, rfl, by omega, by go_num, ⟨by rw [List.map_set]; exact HSET.out⟩, ⟨hput⟩, ⟨hseb.1⟩, ⟨Below.of_grown (below_then H8.out HB3.out) hb0 hset.2⟩, ⟨own_next HA.out HB3.out H8.out.size HO3.out (HR.out.step HB3.out) hset.2 HMK.out⟩⟩
    · have : k = l.length := by omega
      subst this
      go_wp2
      go_ret
      exact ⟨A2, c2, m, rfl, HN.out, own_all HQ.out.own.2 HR.out (by have := congrArg List.length HN.out; simpa using this) HA.out, HR.out, H8.out⟩
theorem sw_find_at (w : World) (b c n B : Nat) (l : List Site) (num : Int) (i : Nat) (hn : n = l.length) (h : SitesAt B w (some ⟨b, 0, none⟩) c l) (hi : idxFrom 0 (fun x => x.nu == num) l = i) (hlt : i < n) :
    Calls Try.prog 33 #[.slice (some ⟨b, 0, none⟩) n c, .int .i64 num] w fun en w' => en = .returned (.pointer (some ⟨b, i * 8, none⟩)) ∧ Below w.heap.size w w' := by
  have := sw_find_ok w b 0 c n B l num i hn h hi hlt
  rwa [Nat.zero_add] at this
/-- the state of Step behind 'checked': the boxed procedure, the result cells, the row of sites -/
structure StB (w W : World) (b c : Nat) (p : Proc) (m : List Sv) : Prop where
  mv : Mv (e0 w) W w.heap.size b c p m
  kp : Held w w.heap.size [.int .i64 p.ki, .int .i64 p.fr, .int .i64 p.to_, .int .i64 p.st, .int .i64 p.ep, .int .i64 p.cy, .bool p.dn, .bool p.fa] 26 W
  kq : Held w (w.heap.size + 1) [.int .i64 0, .int .i64 0, .int .i64 0, .int .i64 0, .int .i64 0, .int .i64 0, .bool false, .bool false] 26 W
  km : Held w (w.heap.size + 2) [.slice (some ⟨b, 0, none⟩) m.length c] 22 W
  ke : Held w (w.heap.size + 3) [.int .i64 0] 27 W
  far : w.heap.size + 4 ≤ b
theorem StB.step {w W W' : World} {b c : Nat} {p : Proc} {m : List Sv} (h : StB w W b c p m) (hB : Below W.heap.size W W') : StB w W' b c p m := ⟨h.mv.step hB, h.kp.step hB, h.kq.step hB, h.km.step hB, h.ke.step hB, h.far⟩
theorem StB.drew {w W : World} {b c : Nat} {p : Proc} {m : List Sv} (h : StB w W b c p m) : StB w W.drew b c p m := h.step (below_drew (Below.refl _ _))
theorem StB.alloc {w W : World} {b c : Nat} {p : Proc} {m : List Sv} (h : StB w W b c p m) (o : Obj) : StB w (W.alloc o) b c p m := h.step (below_new (Below.refl _ _) o)
theorem StB.other {w W W' : World} {b c g : Nat} {p : Proc} {m : List Sv} {cs : List Value} {t : TypeId} (h : StB w W b c p m) (K : Held w g cs t W) (ht : t ≠ 88) (hg : w.heap.size + 4 ≤ g) (hb : b ≠ g) (hgr : W.grownBy W' (some g)) : StB w W' b c p m :=
  ⟨h.mv.other K.toE ht (by omega) hb hgr, h.kp.grown (by omega) K.ge hgr, h.kq.grown (by omega) K.ge hgr, h.km.grown (by omega) K.ge hgr, h.ke.grown (by omega) K.ge hgr, h.far⟩
end Go.Proofs.Ytijhkgabonkmfaa
