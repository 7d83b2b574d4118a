/- Contract: the reference's cut. -/
import Derived.Test.YtfkdcjkkmfhalaaRefF
import Derived.Deep.RegionHeldLaw
namespace Go.Proofs.Ytfkdcjkkmfhalaa
open Go.RowKit
set_option linter.unusedSimpArgs false
set_option linter.unusedVariables false
attribute [local go_sem] min2_mn min_two
theorem cutR_take (l : List Span) (n : Int) (k : Nat) (h : k < l.length) : cutR (l.take (k + 1)) n = if (l.getD k .z).fr ≤ n then cutR (l.take k) n ++ [⟨(l.getD k .z).ep, (l.getD k .z).fr, mnI (l.getD k .z).to_ n⟩] else cutR (l.take k) n := by
  have e : l.take (k + 1) = l.take k ++ [l.getD k .z] := by
    rw [List.take_succ_eq_append_getElem h]; congr 2; simp [List.getD_eq_getElem?_getD, List.getElem?_eq_getElem h]
  rw [e, mnI_min]
  unfold cutR
  rw [List.filter_append]
  by_cases hx : (l.getD k .z).fr ≤ n
  · rw [if_pos hx, List.filter_cons, if_pos (by rw [decide_eq_true_eq]; exact hx)]
    simp
  · rw [if_neg hx, List.filter_cons, if_neg (by rw [decide_eq_true_eq]; exact hx)]
    simp
theorem cutR_len (l : List Span) (n : Int) : (cutR l n).length ≤ l.length := by
  unfold cutR; rw [List.length_map]; exact List.length_filter_le ..
theorem step_app_spans {ops : Array Oper} {o : Oper} {a : Act} {K : Act → World → Prop} {Q : Exit → Act → World → Prop} {E : Prop} {W : World} (hgd : o.guard = none) (s x : Operand) (ho : o.op = .call { callee := .builtin .append, args := #[s, x], argTypes := #[22, 22] })
    (base : Nat) (A1 : Option Addr) (c1 n1 : Nat) (l1 : List Span) (hn1 : n1 = l1.length) (HO : OwnSp W base A1 c1 l1) (A : Option Addr) (c n : Nat) (l : List Span) (hn : n = l.length) (HR : SpansAt W A c l) (hs : a.eval s = .slice A1 n1 c1) (hx : a.eval x = .slice A n c) (hlen : l1.length + l.length ≤ 5864062014634) (hbase : base ≤ W.heap.size)
    (h : ∀ A' c' w', OwnSp w' base A' c' (l1 ++ l) → W.grownBy w' (Value.slice A1 n1 c1).ownBlock → K (a.put o.dst (.slice A' (n1 + n) c')) w') :
    if Region.wanted o (yielded ops a.tmps) = true then Oper.wp Try.prog o a W K Q else E := by
  have hw : Region.wanted o (yielded ops a.tmps) = true := by simp [Region.wanted, hgd]
  rw [if_pos hw]
  subst hn1 hn
  obtain ⟨A', c', w', hr, h2, h3⟩ := run_app_spans W base o.type A1 c1 l1 HO A c l HR hlen hbase
  unfold Oper.wp execOp
  simp only [ho, resolve, invoke, builtin, Sem.run_bind, Sem.run_pure, Result.andThen_ok, List.map_toArray, List.map_cons, List.map_nil, hs, hx, hr]
  exact h A' c' w' h2 h3
set_option maxHeartbeats 2000000 in
theorem ref_cut (w : World) (A : Option Addr) (c : Nat) (l : List Span) (n : Int) (hls : l.length ≤ 1000000) (h : SpansAt w A c l) :
    Calls Try.prog 53 #[.slice A l.length c, .int .i64 n] w (LinRes w.heap.size w (cutR l n)) := by
  have HC := Keep.mk h
  clear h
  go_enter Try.func53, Try.ntmps53
  go_wp2_with fail
  go_loopg [5, 6] l.length (fun g z i wr => ∃ (k m : Nat) (A' : Option Addr) (c' : Nat), g = l.length - k ∧ k ≤ l.length ∧ i = .int .i64 k ∧ z = .slice A' m c' ∧ Keep (m = (cutR (l.take k) n).length) ∧ Keep (OwnSp wr w.heap.size A' c' (cutR (l.take k) n)) ∧ Keep (Below w.heap.size w wr))
  case atStart => exact ⟨0, 0, none, 0, by omega, by omega, rfl, rfl, ⟨by simp [cutR]⟩, ⟨by simpa [cutR] using OwnSp.nil _ _⟩, ⟨Below.refl _ _⟩⟩
  case round =>
    obtain ⟨k, m, A', c', rfl, hk, rfl, rfl, HM, HO, H8⟩ := hrel
    by_cases hk2 : k < l.length
    · have hk3 : (k : Int) < (l.length : Int) := by omega
      obtain ⟨b, o, hA, hb, c0, c1, c2⟩ := HC.out.at_ k hk2
      subst hA
      have CW := Keep.mk (And.intro c0 (And.intro c1 c2))
      rw [← H8.out.cell (p := ⟨b, _, none⟩) hb] at c0 c1 c2
      have hx := cutR_take l n k hk2
      have hcl := Nat.le_trans (cutR_len (l.take k) n) (by rw [List.length_take]; omega : (l.take k).length ≤ l.length)
      generalize l.getD k Span.z = x at c0 c1 c2 hx CW
      generalize cutR (l.take k) n = q at *
      by_cases hq : x.fr ≤ n
      · rw [if_pos hq] at hx
        have HX := Keep.mk hx
        have hq' : decide (x.fr ≤ n) = true := by simp [hq]
        clear hx hq
        go_wp2_with fail
        have CC := Keep.mk (And.intro c0 (And.intro c1 c2))
        have hq2 : q.length + 1 ≤ 5864062014634 := by omega
        go_region_held_law (fun W => W.cell? ⟨b, o + k * 3, none⟩ = some (.int .i64 x.ep) ∧ W.cell? ⟨b, o + k * 3 + 1, none⟩ = some (.int .i64 x.fr) ∧ W.cell? ⟨b, o + k * 3 + 2, none⟩ = some (.int .i64 x.to_))
          ((first | exact CC.out | exact ⟨cell_alloc _ CC.out.1, cell_alloc _ CC.out.2.1, cell_alloc _ CC.out.2.2⟩ | exact ⟨(HG.out.cell (p := ⟨b, _, none⟩) hb).trans CW.out.1, (HG.out.cell (p := ⟨b, _, none⟩) hb).trans CW.out.2.1, (HG.out.cell (p := ⟨b, _, none⟩) hb).trans CW.out.2.2⟩ | (trace_state; fail)))
          (first | (refine step_app_spans rfl (.tmp 20) (.tmp 39) rfl w.heap.size A' c' m q HM.out (HO.out.step (below_new (below_drew (Below.refl _ _)) _)) (some ⟨wr.heap.size, 0, none⟩) 1 1 [⟨x.ep, x.fr, mnI x.to_ n⟩] rfl (one_span wr.drew x.ep x.fr (mnI x.to_ n)) rfl rfl hq2 (Nat.le_trans H8.out.size (by simp)) ?_; intro A2 c2' w3 hown hgr; have HO2 := Keep.mk hown; have HG := Keep.mk (grown_none (below_new (below_drew H8.out) _) hgr (fun k hk => OwnSp.ge HO.out _ k hk)); clear hown hgr))
        go_wp2
        go_roundg (l.length - (k + 1))
        case measure => omega
        case rel => exact ⟨k + 1, m + 1, A2, c2', rfl, by omega, by go_num, rfl, ⟨by rw [HX.out]; simp [HM.out]⟩, ⟨by rw [HX.out]; exact HO2.out⟩, HG⟩
      · rw [if_neg hq] at hx
        have HX := Keep.mk hx
        have hq' : decide (x.fr ≤ n) = false := by simp [hq]
        clear hx hq
        go_wp2_with fail
        go_roundg (l.length - (k + 1))
        case measure => omega
        case rel => exact ⟨k + 1, m, A', c', rfl, by omega, by go_num, rfl, ⟨by rw [HX.out]; exact HM.out⟩, ⟨by rw [HX.out]; exact HO.out⟩, H8⟩
    · have : k = l.length := by omega
      subst this
      have ht : l.take l.length = l := List.take_length
      rw [ht] at HM HO
      go_wp2
      go_ret
      exact lin_ret HM.out HO.out H8.out
end Go.Proofs.Ytfkdcjkkmfhalaa
