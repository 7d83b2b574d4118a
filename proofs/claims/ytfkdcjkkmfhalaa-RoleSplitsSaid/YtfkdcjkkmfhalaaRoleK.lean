/- Contracts: Synced's closure, slices.IndexFunc and slices.DeleteFunc at it. -/
import Derived.Test.YtfkdcjkkmfhalaaRoleI
namespace Go.Proofs.Ytfkdcjkkmfhalaa
open Go.RowKit
set_option linter.unusedSimpArgs false
set_option linter.unusedVariables false
theorem synced_del (w : World) (x : Span) (gn : Nat) (n : Int) (h : w.cell? ⟨gn, 0, none⟩ = some (.int .i64 n)) :
    Calls Try.prog 49 #[.agg #[.int .i64 x.ep, .int .i64 x.fr, .int .i64 x.to_], .pointer (some ⟨gn, 0, none⟩)] w fun e w' => e = .returned (.bool (decide (n < x.fr))) ∧ Below w.heap.size w w' := by
  have hlt : gn < w.heap.size := World.block_lt_of_cell? w _ h
  go_enter Try.func49, Try.ntmps49
  go_wp2
  go_ret
  exact ⟨rfl, below_new (Below.refl _ _) _⟩
/-- how many spans at the head begin at a number or before -/
def headN (l : List Span) (n : Int) : Nat := (l.takeWhile fun x => decide (x.fr ≤ n)).length
theorem headN_drop (l : List Span) (n : Int) (k : Nat) (h : k < l.length) : headN (l.drop k) n = if n < (l.getD k .z).fr then 0 else headN (l.drop (k + 1)) n + 1 := by
  rw [drop_getD h rfl]
  unfold headN
  rw [List.takeWhile_cons]
  by_cases hx : n < (l.getD k .z).fr
  · rw [if_pos hx, if_neg (by rw [decide_eq_true_eq]; omega)]; rfl
  · rw [if_neg hx, if_pos (by rw [decide_eq_true_eq]; omega)]; simp
theorem headN_le (l : List Span) (n : Int) : headN l n ≤ l.length := (List.takeWhile_sublist _).length_le
def idxR (l : List Span) (n : Int) : Int := if headN l n = l.length then -1 else (headN l n : Int)
set_option maxHeartbeats 1000000 in
theorem index_spans (w : World) (A : Option Addr) (c : Nat) (l : List Span) (gn : Nat) (n : Int) (h : SpansAt w A c l) (hn : w.cell? ⟨gn, 0, none⟩ = some (.int .i64 n)) :
    Calls Try.prog 64 #[.slice A l.length c, .func (Fn.func 49) #[] #[.pointer (some ⟨gn, 0, none⟩)]] w
      fun e w' => e = .returned (.int .i64 (idxR l n)) ∧ Below w.heap.size w w' := by
  have hl := h.len
  have HC := Keep.mk h
  have hlt : gn < w.heap.size := World.block_lt_of_cell? w _ hn
  clear h
  go_enter Try.func64, Try.ntmps64
  go_wp2_with fail
  go_loopg [8] l.length (fun g i wr => ∃ k : Nat, g = l.length - k ∧ k ≤ l.length ∧ i = .int .i64 k ∧ Keep (headN l n = k + headN (l.drop k) n) ∧ Keep (Below w.heap.size w wr))
  case atStart => exact ⟨0, by omega, by omega, rfl, ⟨by simp⟩, ⟨Below.refl _ _⟩⟩
  case round =>
    obtain ⟨k, rfl, hk, rfl, H3, H8⟩ := hrel
    by_cases hk2 : k < l.length
    · obtain ⟨b, o, hA, hb, c0, c1, c2⟩ := HC.out.at_ k hk2
      subst hA
      rw [← H8.out.cell (p := ⟨b, _, none⟩) hb] at c0 c1 c2
      have hx := headN_drop l n k hk2
      generalize l.getD k Span.z = x at c0 c1 c2 hx
      have HN := Keep.mk ((H8.out.cell (p := ⟨gn, 0, none⟩) hlt).trans hn)
      by_cases hq : n < x.fr
      · rw [if_pos hq] at hx
        have HX := Keep.mk hx
        have hq' : decide (n < x.fr) = true := by simp [hq]
        clear hx hq
        go_wp2_with (go_at_call 49; refine (synced_del _ x gn n HN.out).mono ?_; rintro e w' ⟨rfl, hb1⟩; have HB := Keep.mk (below_then H8.out hb1); clear hb1)
        go_ret
        refine ⟨ret_int ?_, HB.out⟩
        unfold idxR
        rw [H3.out, HX.out, if_neg (by omega)]
        simp
      · rw [if_neg hq] at hx
        have HX := Keep.mk hx
        have hq' : decide (n < x.fr) = false := by simp [hq]
        clear hx hq
        go_wp2_with (go_at_call 49; refine (synced_del _ x gn n HN.out).mono ?_; rintro e w' ⟨rfl, hb1⟩; have HB := Keep.mk (below_then H8.out hb1); clear hb1)
        go_roundg (l.length - (k + 1))
        case measure => omega
        case rel => exact ⟨k + 1, rfl, by omega, by go_num, ⟨by rw [H3.out, HX.out]; omega⟩, HB⟩
    · have : k = l.length := by omega
      subst this
      go_wp2
      go_ret
      refine ⟨ret_int ?_, H8.out⟩
      unfold idxR
      rw [H3.out, List.drop_length, if_pos (by simp [headN])]
theorem headN_take (l : List Span) (n : Int) : ∀ j, j < headN l n → (l.getD j .z).fr ≤ n := by
  induction l with
  | nil => intro j h; simp [headN] at h
  | cons x r ih =>
    intro j h
    unfold headN at h ih
    rw [List.takeWhile_cons] at h
    by_cases hx : x.fr ≤ n
    · rw [if_pos (by rw [decide_eq_true_eq]; exact hx)] at h
      rcases j with _ | j
      · simpa using hx
      · simpa using ih j (by simpa using h)
    · rw [if_neg (by rw [decide_eq_true_eq]; exact hx)] at h
      simp at h
theorem spanCells_take (l : List Span) : ∀ k, spanCells (l.take k) = (spanCells l).take (k * 3) := by
  induction l with
  | nil => intro k; simp [spanCells]
  | cons x r ih =>
    intro k
    rcases k with _ | k
    · simp [spanCells]
    · have := ih k
      rw [show (k + 1) * 3 = k * 3 + 3 from by omega]
      show Value.int .i64 x.ep :: Value.int .i64 x.fr :: Value.int .i64 x.to_ :: spanCells (r.take k) = Value.int .i64 x.ep :: Value.int .i64 x.fr :: Value.int .i64 x.to_ :: (spanCells r).take (k * 3)
      rw [this]
theorem zero_cells_one (n : Nat) : ∀ v ∈ (Builtin.zeroCells (Value.agg #[.int .i64 0, .int .i64 0, .int .i64 0]).cells n).toList, v.oneCell' = true := by
  intro v hv
  simp only [Builtin.zeroCells, Value.cells, Array.toList_map, List.mem_map] at hv
  obtain ⟨i, _, rfl⟩ := hv
  have h3 : i % 3 = 0 ∨ i % 3 = 1 ∨ i % 3 = 2 := by omega
  show (#[Value.int .i64 0, .int .i64 0, .int .i64 0][i % 3]!).oneCell' = true
  rcases h3 with h | h | h <;> rw [h] <;> rfl
theorem OwnSp.takeClear {W : World} {base b c : Nat} {l : List Span} (h : OwnSp W base (some ⟨b, 0, none⟩) c l) (k : Nat) (hk : k < l.length) :
    ∃ W', (storeCells ⟨b, k * 3, none⟩ (Builtin.zeroCells (Value.agg #[.int .i64 0, .int .i64 0, .int .i64 0]).cells (l.length - k)).toList 0).run Try.prog W = .ok () W' ∧ OwnSp W' base (some ⟨b, 0, none⟩) c (l.take k) ∧ W.grownBy W' (some b) := by
  rcases h.1.2 with ⟨_, h0⟩ | ⟨b', cap, cur, hv, hb, hbb, hle, hmax, hcs, htake⟩
  · omega
  · injection hv with hv hv2 hv3
    injection hv with hv
    injection hv with hv
    subst hv hv3
    have hz : (Builtin.zeroCells (Value.agg #[.int .i64 0, .int .i64 0, .int .i64 0]).cells (l.length - k)).toList.length = (l.length - k) * 3 := by
      rw [Array.length_toList, size_zeroCells]; rfl
    have hz2 : (Builtin.zeroCells (Value.agg #[.int .i64 0, .int .i64 0, .int .i64 0]).cells (l.length - k)).size = (l.length - k) * 3 := by
      rw [size_zeroCells]; rfl
    have hl3 : l.length * 3 ≤ cur.size := by rw [hcs]; exact Nat.mul_le_mul_right _ hle
    have hr := run_storeCells_at (P := Try.prog) b (k * 3) 61 (Builtin.zeroCells (Value.agg #[.int .i64 0, .int .i64 0, .int .i64 0]).cells (l.length - k)).toList 0 cur W hbb (by rw [hz]; omega) (zero_cells_one _)
    refine ⟨_, hr, ⟨⟨?_, .inr ⟨b, c, _, ?_, hb, setRow_heap W b cur _ _ _ hbb, ?_, hmax, ?_, ?_⟩⟩, ?_, ?_⟩, ⟨rfl, rfl, rfl, by simp, fun i _ hi => setRow_other W b i _ (fun e => hi (by rw [e]))⟩⟩
    · rw [spanCells_length]
    · rfl
    · rw [List.length_take]; omega
    · simp only [List.size_toArray, List.length_append, List.length_take, List.length_drop, Array.length_toList]
      rw [hz2]
      have e := Array.length_toList (xs := cur)
      omega
    · have hk' : (l.take k).length = k := by rw [List.length_take]; omega
      rw [hk', Nat.add_zero, List.append_assoc, List.take_left' (by rw [List.length_take, Array.length_toList]; omega), spanCells_take, ← htake, List.take_take, Nat.min_eq_left (by omega)]
    · rw [List.length_take]; have := h.2.1; omega
    · rw [List.length_take]; have := h.2.2; omega
section
variable {ops : Array Oper} {rest : List Oper} {o : Oper} {a : Act} {Q : Exit → Act → World → Prop}
theorem wpList_clear_spans {W : World} (hgd : o.guard = none) (x : Operand) (ho : o.op = .call { callee := .builtin .clear, args := #[x], argTypes := #[22] })
    (base b c k c' : Nat) (l : List Span) (HO : OwnSp W base (some ⟨b, 0, none⟩) c l) (hk : k < l.length) (hx : a.eval x = .slice (some ⟨b, k * 3, none⟩) (l.length - k) c')
    (h : ∀ W', OwnSp W' base (some ⟨b, 0, none⟩) c (l.take k) → W.grownBy W' (some b) → wpList Try.prog ops Q rest (a.put o.dst (.tuple #[])) W') :
    wpList Try.prog ops Q (o :: rest) a W := by
  refine wpList_plain hgd fun K hK => ?_
  obtain ⟨W', hr, h2, h3⟩ := HO.takeClear k hk
  have hzv : (zeroValue 61).run Try.prog W = .ok (.agg #[.int .i64 0, .int .i64 0, .int .i64 0]) W := by kernel_rfl
  have hm : ∃ m, l.length - k = m + 1 := ⟨l.length - k - 1, by omega⟩
  obtain ⟨m, hm⟩ := hm
  rw [hm] at hx hr
  unfold Oper.wp execOp
  simp only [ho, resolve, invoke, builtin, Sem.run_bind, Sem.run_pure, Result.andThen_ok, List.map_toArray, List.map_cons, List.map_nil, hx]
  simp [Builtin.clear_, run_underlying Try.underlying22, hzv, hr]
  exact hK _ _ (h W' h2 h3)
end
def Deleted (base : Nat) (w : World) (A : Option Addr) (n c : Nat) (l : List Span) (e : Ending) (w' : World) : Prop :=
  ∃ A' c', e = .returned (.slice A' l.length c') ∧ OwnSp w' base A' c' l ∧ w.grownBy w' (Value.slice A n c).ownBlock
theorem below_grown0 {w w' : World} (h : Below w.heap.size w w') (row : Option Nat) : w.grownBy w' row := ⟨h.os, h.tape, h.output, h.size, fun k hk _ => h.block k hk⟩
theorem grown_below {w W W' : World} (h : Below w.heap.size w W) {row : Option Nat} (g : W.grownBy W' row) : w.grownBy W' row :=
  ⟨g.os.trans h.os, g.tape.trans h.tape, g.output.trans h.output, Nat.le_trans h.size g.size, fun k hk hne => (g.block k (Nat.lt_of_lt_of_le hk h.size) hne).trans (h.block k hk)⟩
theorem cell_alloc {w : World} {a : Addr} {v : Value} (o : Obj) (h : w.cell? a = some v) : (w.alloc o).cell? a = some v := (((Below.refl w.heap.size w).alloc (Nat.le_refl _) o).cell (p := a) (World.block_lt_of_cell? w _ h)).trans h
set_option maxHeartbeats 1000000 in
theorem delete_spans (w : World) (base : Nat) (A : Option Addr) (c : Nat) (l : List Span) (gn : Nat) (n : Int) (h : OwnSp w base A c l) (hn : w.cell? ⟨gn, 0, none⟩ = some (.int .i64 n)) (hs : ∀ j, headN l n ≤ j → j < l.length → n < (l.getD j .z).fr) :
    Calls Try.prog 48 #[.slice A l.length c, .func (Fn.func 49) #[] #[.pointer (some ⟨gn, 0, none⟩)]] w (Deleted base w A l.length c (l.take (headN l n))) := by
  have hl := h.2.1
  have hlt : gn < w.heap.size := World.block_lt_of_cell? w _ hn
  have HO := Keep.mk h
  have HN := Keep.mk hn
  have HS := Keep.mk hs
  have hle := headN_le l n
  clear hs hn
  by_cases hall : headN l n = l.length
  · have hi : idxR l n = -1 := by unfold idxR; rw [if_pos hall]
    have ht : l.take (headN l n) = l := by rw [hall]; exact List.take_length
    rw [ht]
    clear h hall ht hle
    go_enter Try.func48, Try.ntmps48
    go_wp2_with (go_at_call 64; refine (index_spans _ _ _ _ gn n HO.out.reads HN.out).mono ?_; rintro e w1 ⟨rfl, hb⟩; have HB := Keep.mk hb; clear hb)
    go_ret
    exact ⟨A, c, rfl, HO.out.step HB.out, below_grown0 HB.out _⟩
  · obtain ⟨b, rfl, hba, hbl, hfz, hcells⟩ := h.form (by omega)
    have hi : idxR l n = (headN l n : Int) := by unfold idxR; rw [if_neg hall]
    have hcap := h.2.2
    have HC := Keep.mk hcells
    have hk : headN l n < l.length := by omega
    have htl : (l.take (headN l n)).length = headN l n := by rw [List.length_take]; omega
    generalize headN l n = k at *
    have HT := Keep.mk htl
    have hk1 : (k : Int) ≤ (l.length : Int) := by omega
    have hk2 : (0 : Int) ≤ (k : Int) := by omega
    have hk3 : (k : Int) ≤ (c : Int) := by omega
    have hk4 : ¬ c = k := by omega
    clear h hcells htl hall
    go_enter Try.func48, Try.ntmps48
    go_wp2_with (go_at_call 64; refine (index_spans _ _ _ _ gn n HO.out.reads HN.out).mono ?_; rintro e w1 ⟨rfl, hb⟩; have HB := Keep.mk hb; clear hb)
    go_loopg [5, 6] (l.length - (k + 1)) (fun g z i wr => ∃ j : Nat, g = l.length - j ∧ k < j ∧ j ≤ l.length ∧ z = .int .i64 k ∧ i = .int .i64 j ∧ Keep (Below w.heap.size w wr))
    case atStart => exact ⟨k + 1, by omega, by omega, by omega, rfl, by go_num, HB⟩
    case round =>
      obtain ⟨j, rfl, hkj, hj, rfl, rfl, H8⟩ := hrel
      by_cases hj2 : j < l.length
      · obtain ⟨c0, c1, c2⟩ := HC.out j hj2
        rw [← H8.out.cell (p := ⟨b, _, none⟩) hbl] at c0 c1 c2
        have hd := HS.out j (by omega) hj2
        have hj3 : (j : Int) < (l.length : Int) := by omega
        generalize l.getD j Span.z = x at c0 c1 c2 hd
        have HN2 := Keep.mk ((H8.out.cell (p := ⟨gn, 0, none⟩) hlt).trans HN.out)
        have hd' : decide (n < x.fr) = true := by simp [hd]
        clear hd
        go_wp2_with (go_at_call 49; refine (synced_del _ x gn n (cell_alloc _ HN2.out)).mono ?_; rintro e w2 ⟨rfl, hb⟩; have HB2 := Keep.mk (below_then (below_new H8.out _) hb); clear hb)
        go_roundg (l.length - (j + 1))
        case measure => omega
        case rel => exact ⟨j + 1, rfl, by omega, by omega, rfl, by go_num, HB2⟩
      · have hj3 : ¬ (j : Int) < (l.length : Int) := by omega
        have HOr := Keep.mk (HO.out.step H8.out)
        go_wp2_with (refine wpList_clear_spans rfl (.tmp 38) rfl base b c k _ l HOr.out hk rfl ?_; intro W' ho hg; have HOW := Keep.mk ho; have HG := Keep.mk hg; clear ho hg)
        go_ret
        refine ⟨some ⟨b, 0, none⟩, c, ?_, HOW.out, grown_below H8.out HG.out⟩
        simp [HT.out]
end Go.Proofs.Ytfkdcjkkmfhalaa
