/- Contracts: standbyref52.replace. -/
import Derived.Test.YtijhkgabonkmfaaRwA
import Derived.Test.YtijhkgabonkmfaaSwR
import Derived.Test.YtijhkgabonkmfaaSwB
namespace Go.Proofs.Ytijhkgabonkmfaa
open Go.RowKit
set_option linter.unusedSimpArgs false
set_option linter.unusedVariables false
/-- sites of a row of the call's own, or sites that came in: what a caller needs -/
def SitesRes (w : World) (A : Option Addr) (c : Nat) (l : List Site) (w' : World) : Prop := SitesAt 5864062014634 w' A c l ∧ (∀ x, x ∈ l → x.li.length ≤ 5864062014634) ∧ Below w.heap.size w w'
theorem OwnAll.sites {w W : World} {A : Option Addr} {c : Nat} {m : List Sv} {l : List Site} (h : OwnAll w W A c m) (hm : m.map (·.s) = l) (hB : Below w.heap.size w W) : SitesRes w A c l W := by subst hm; exact ⟨h.reads hB _, h.few hB, hB⟩
theorem map_set_s (m : List Sv) (i : Nat) (x : Sv) : (m.set i x).map (·.s) = (m.map (·.s)).set i x.s := by rw [List.map_set]
/-- a row of the call's own that lies at or above block n -/
def RowAt (w W : World) (n : Nat) (A : Option Addr) (c : Nat) (m : List Sv) : Prop := OwnAll w W A c m ∧ OwnSi W n A c m
theorem RowAt.step {w W W' : World} {n : Nat} {A : Option Addr} {c : Nat} {m : List Sv} (h : RowAt w W n A c m) (hb : Below W.heap.size W W') : RowAt w W' n A c m := ⟨h.1.step hb, h.2.step hb⟩
theorem RowAt.oth {w W W' : World} {n g : Nat} {A : Option Addr} {c : Nat} {m : List Sv} {cs : List Value} {t : TypeId} (h : RowAt w W n A c m) (K : Held w g cs t W) (ht : t ≠ 88) (hg : g < n) (hgr : W.grownBy W' (some g)) : RowAt w W' n A c m := by
  have hne : (Value.slice A m.length c).ownBlock ≠ some g := fun e => by have := (h.2.lt g e).1; omega
  exact ⟨⟨h.1.own.grown hne hgr, fun x hx => (h.1.lin x hx).grown K ht hgr⟩, h.2.grown hne hgr⟩
theorem grownSet (W : World) (b j : Nat) (v : Value) : W.grownBy (W.setCell ⟨b, j, none⟩ v) (some b) := ⟨rfl, rfl, rfl, by simp, fun k _ hk => Below.heap_setCell _ _ _ k (fun e => hk (by rw [e]))⟩
set_option maxHeartbeats 2000000 in
theorem ref52_replace (w0 w : World) (hb0 : Below w0.heap.size w0 w) (A : Option Addr) (c n B : Nat) (l : List Site) (i : Nat) (s : Site) (A' : Option Addr) (c' : Nat) (hn : n = l.length) (hl4 : l.length ≤ 4) (hi : i < l.length) (hB : ∀ x, x ∈ l → x.li.length ≤ B) (h : SitesAt B w0 A c l) (hs : Lin w0 w A' c' s.li) :
    Calls Try.prog 61 #[.slice A n c, .int .i64 i, .agg #[.int .i64 s.nu, .int .i64 s.ro, .int .i64 s.ep, .int .i64 s.ap, .slice A' s.li.length c', .int .i64 s.so, .bool s.al, .bool s.co]] w fun e w' => ∃ A2 c2 m, e = .returned (.slice A2 l.length c2) ∧ m.map (·.s) = l.set i s ∧ RowAt w0 w' w.heap.size A2 c2 m ∧ Below w.heap.size w w' := by
  subst hn
  obtain ⟨b0, o0, rfl, -⟩ := h.2.2 (by omega)
  obtain ⟨m, h1, h2', h3⟩ := h.values
  have h2 : ∀ j u, (svCells m)[j]? = some u → w.cell? ((⟨b0, o0, none⟩ : Addr).add j) = some u := fun j u hu => (hb0.cell (p := (⟨b0, o0, none⟩ : Addr).add j) (World.block_lt_of_cell? w0 _ (h2' j u hu))).trans (h2' j u hu)
  clear h2'
  have HW := Keep.mk hb0
  clear hb0
  have hml : l.length = m.length := by rw [← h1, List.length_map]
  have HM := Keep.mk (And.intro h1 (And.intro h2 (And.intro h3 hml)))
  have HBB := Keep.mk hB
  have HSP := Keep.mk hs
  have K0 := Keep.mk (Held.new (Below.refl w.heap.size w) [.int .i64 s.nu, .int .i64 s.ro, .int .i64 s.ep, .int .i64 s.ap, .slice A' s.li.length c', .int .i64 s.so, .bool s.al, .bool s.co] 57)
  have HLEN := Keep.mk (show ([] : List Sv).length + m.length ≤ 1000000 by simp; omega)
  have HII := Keep.mk (show i < m.length by omega)
  have hi2 : (i : Int) < (l.length : Int) := by omega
  clear h1 h2 h3 hml h hs hB
  have OB := Keep.mk (show OwnSi ((w.alloc (.cells #[.int .i64 s.nu, .int .i64 s.ro, .int .i64 s.ep, .int .i64 s.ap, .slice A' s.li.length c', .int .i64 s.so, .bool s.al, .bool s.co] 57)).alloc (.cells #[] 57)) (w.heap.size + 1) (some ⟨w.heap.size + 1, 0, none⟩) 0 [] from ⟨by rw [show svCells [] = [] from rfl]; simpa using World.ownsRow_made (base := (w.alloc (.cells #[.int .i64 s.nu, .int .i64 s.ro, .int .i64 s.ep, .int .i64 s.ap, .slice A' s.li.length c', .int .i64 s.so, .bool s.al, .bool s.co] 57)).heap.size) (w.alloc (.cells #[.int .i64 s.nu, .int .i64 s.ro, .int .i64 s.ep, .int .i64 s.ap, .slice A' s.li.length c', .int .i64 s.so, .bool s.al, .bool s.co] 57)) #[] 0 (Nat.le_refl _) (by decide) (by simp), by simp, by simp⟩)
  have HN := Keep.mk (show ∀ j u, (svCells m)[j]? = some u → ((w.alloc (.cells #[.int .i64 s.nu, .int .i64 s.ro, .int .i64 s.ep, .int .i64 s.ap, .slice A' s.li.length c', .int .i64 s.so, .bool s.al, .bool s.co] 57)).alloc (.cells #[] 57)).cell? ((⟨b0, o0, none⟩ : Addr).add j) = some u from fun j u hu => cell_newS _ (cell_newS _ (HM.out.2.1 j u hu)))
  have K1 := Keep.mk (K0.out.alloc (.cells #[] 57))
  have HSZ := Keep.mk (show w.heap.size + 1 ≤ ((w.alloc (.cells #[.int .i64 s.nu, .int .i64 s.ro, .int .i64 s.ep, .int .i64 s.ap, .slice A' s.li.length c', .int .i64 s.so, .bool s.al, .bool s.co] 57)).alloc (.cells #[] 57)).heap.size by simp)
  have HM0 := Keep.mk (show 0 < (([] : List Sv) ++ m).length by simp; have := HII.out; omega)
  clear K0
  go_enter Try.func61, Try.ntmps61
  go_upto_region 2 with (at_builtin; go_loud (with_reducible refine wpList_app_sites ?_ (.tmp 8) (.tmp 9) ?_ (w.heap.size + 1) _ 0 0 [] rfl OB.out _ c l.length m HM.out.2.2.2 HN.out ?_ ?_ HLEN.out ?_ ?_); rfl; rfl; rfl; rfl; go_loud (exact HSZ.out); intro A6 c6 w6 hown hgr; have HF := Keep.mk hown; have K6 := Keep.mk (K1.out.grown (g := w.heap.size + 1) (Nat.ne_of_lt (Nat.lt_succ_self _)) (Nat.le_succ _) hgr); clear hown hgr)
  obtain ⟨b, rfl, hb0, hb1, hfz, cs, hblk⟩ := HF.out.form HM0.out
  obtain ⟨⟨p0, p1, p2, p3, p4, p5, p6, p7⟩, p8⟩ := K6.out.c8
  have hne : b ≠ w.heap.size := by omega
  have hne2 : w.heap.size ≠ b := by omega
  clear hblk cs
  have HOA := Keep.mk (show OwnAll w0 w6 (some ⟨b, 0, none⟩) c6 m from ⟨HF.out.mono (Nat.le_trans HW.out.size (Nat.le_succ _)), fun x hx => .inl (HM.out.2.2.1 x hx (HBB.out _ (by rw [← HM.out.1]; exact List.mem_map_of_mem hx)))⟩)
  obtain ⟨A7, c7, r0, r1, r2, r3, r4, r5, r6, r7, -⟩ := (HOA.out.reads (below_then HW.out K6.out.bel) 5864062014634).atp i (by simpa using HII.out)
  simp only [Nat.zero_add] at r0 r1 r2 r3 r4 r5 r6 r7
  go_wp2_with fail
  have hset := HOA.out.own.setSite i HII.out s A' c'
  have hset2 := (show OwnSi w6 (w.heap.size + 1) (some ⟨b, 0, none⟩) c6 m from HF.out).setSite i HII.out s A' c'
  have hput := HOA.out.put i HII.out ⟨s, A', c'⟩ hset.1 (HSP.out.step K6.out.bel) hset.2
  go_ret
  exact ⟨_, _, _, rfl, by rw [map_set_s, HM.out.1], ⟨hput, hset2.1.mono (Nat.le_succ _)⟩, Below.of_grown K6.out.bel (Nat.le_trans (Nat.le_succ _) hb0) hset.2⟩
end Go.Proofs.Ytijhkgabonkmfaa
