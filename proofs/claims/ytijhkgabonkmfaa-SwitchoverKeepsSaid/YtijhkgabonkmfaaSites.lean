/- Slices of sites: what it means that one is read; the searches over one. -/
import Derived.Test.YtijhkgabonkmfaaKitB
import Derived.Test.YtijhkgabonkmfaaPlainB
namespace Go.Proofs.Ytijhkgabonkmfaa
open Go.RowKit
set_option linter.unusedSimpArgs false
set_option linter.unusedVariables false
/-- A site lies at an offset of a block; its lineage is read if it has B spans at most. -/
def SiteAt (B : Nat) (w : World) (b o : Nat) (x : Site) (A : Option Addr) (c : Nat) : Prop :=
  w.cell? ⟨b, o, none⟩ = some (.int .i64 x.nu) ∧ w.cell? ⟨b, o + 1, none⟩ = some (.int .i64 x.ro) ∧ w.cell? ⟨b, o + 2, none⟩ = some (.int .i64 x.ep) ∧ w.cell? ⟨b, o + 3, none⟩ = some (.int .i64 x.ap) ∧ w.cell? ⟨b, o + 4, none⟩ = some (.slice A x.li.length c) ∧ w.cell? ⟨b, o + 5, none⟩ = some (.int .i64 x.so) ∧ w.cell? ⟨b, o + 6, none⟩ = some (.bool x.al) ∧ w.cell? ⟨b, o + 7, none⟩ = some (.bool x.co) ∧ (x.li.length ≤ B → SpansAt w A c x.li)
/-- The slice at A, of capacity c, reads as the sites l. -/
def SitesAt (B : Nat) (w : World) (A : Option Addr) (c : Nat) (l : List Site) : Prop :=
  l.length ≤ c ∧ l.length ≤ 1000000000 ∧ (0 < l.length → ∃ b o, A = some ⟨b, o, none⟩ ∧ ∀ i, i < l.length → ∃ A' c', SiteAt B w b (o + i * 8) (l.getD i zS) A' c')
theorem SiteAt.lt {B : Nat} {w : World} {b o : Nat} {x : Site} {A : Option Addr} {c : Nat} (h : SiteAt B w b o x A c) : b < w.heap.size := World.block_lt_of_cell? w _ h.1
theorem SiteAt.below {B : Nat} {w w' : World} {b o : Nat} {x : Site} {A : Option Addr} {c : Nat} (h : SiteAt B w b o x A c) (hb : Below w.heap.size w w') : SiteAt B w' b o x A c := by
  have hlt := h.lt
  obtain ⟨c0, c1, c2, c3, c4, c5, c6, c7, hs⟩ := h
  exact ⟨(hb.cell (p := ⟨b, _, none⟩) hlt).trans c0, (hb.cell (p := ⟨b, _, none⟩) hlt).trans c1, (hb.cell (p := ⟨b, _, none⟩) hlt).trans c2, (hb.cell (p := ⟨b, _, none⟩) hlt).trans c3, (hb.cell (p := ⟨b, _, none⟩) hlt).trans c4, (hb.cell (p := ⟨b, _, none⟩) hlt).trans c5, (hb.cell (p := ⟨b, _, none⟩) hlt).trans c6, (hb.cell (p := ⟨b, _, none⟩) hlt).trans c7, fun h => (hs h).below hb⟩
theorem SitesAt.nil (B : Nat) (w : World) : SitesAt B w none 0 [] := ⟨by simp, by simp, by simp⟩
theorem SitesAt.below {B : Nat} {w w' : World} {A : Option Addr} {c : Nat} {l : List Site} (h : SitesAt B w A c l) (hb : Below w.heap.size w w') : SitesAt B w' A c l := by
  refine ⟨h.1, h.2.1, fun hn => ?_⟩
  obtain ⟨b, o, e, hc⟩ := h.2.2 hn
  exact ⟨b, o, e, fun i hi => let ⟨A', c', ha⟩ := hc i hi; ⟨A', c', ha.below hb⟩⟩
theorem SitesAt.alloc {B : Nat} {w : World} {A : Option Addr} {c : Nat} {l : List Site} (h : SitesAt B w A c l) (o : Obj) : SitesAt B (w.alloc o) A c l := h.below ((Below.refl _ _).alloc (Nat.le_refl _) o)
theorem SitesAt.at_ {B : Nat} {w : World} {A : Option Addr} {c : Nat} {l : List Site} (h : SitesAt B w A c l) (i : Nat) (hi : i < l.length) : ∃ b o A' c', A = some ⟨b, o, none⟩ ∧ b < w.heap.size ∧ SiteAt B w b (o + i * 8) (l.getD i zS) A' c' := by
  obtain ⟨b, o, e, hc⟩ := h.2.2 (by omega)
  obtain ⟨A', c', ha⟩ := hc i hi
  exact ⟨b, o, A', c', e, ha.lt, ha⟩
theorem getD_take {α : Type} (l : List α) (z : α) {i k : Nat} (h : i < k) : (l.take k).getD i z = l.getD i z := by
  simp only [List.getD_eq_getElem?_getD]
  rw [List.getElem?_take_of_lt h]
theorem SitesAt.take {B : Nat} {w : World} {A : Option Addr} {c : Nat} {l : List Site} (h : SitesAt B w A c l) (k : Nat) (hk : k ≤ l.length) : SitesAt B w A c (l.take k) := by
  have hlen : (l.take k).length = k := by rw [List.length_take]; omega
  refine ⟨by rw [hlen]; have := h.1; omega, by rw [hlen]; have := h.2.1; omega, fun hn => ?_⟩
  obtain ⟨b, o, e, hc⟩ := h.2.2 (by omega)
  refine ⟨b, o, e, fun i hi => ?_⟩
  rw [hlen] at hi
  rw [getD_take l zS hi]
  exact hc i (by omega)
theorem drop_getDS {l : List Site} {k : Nat} (h : k < l.length) {x : Site} (hx : l.getD k zS = x) : l.drop k = x :: l.drop (k + 1) := by
  rw [List.drop_eq_getElem_cons h]; congr 1; rw [← hx]; simp [List.getD_eq_getElem?_getD, List.getElem?_eq_getElem h]
theorem clos_num (w : World) (x : Site) (A : Option Addr) (c g : Nat) (n : Int) (h : w.cell? ⟨g, 0, none⟩ = some (.int .i64 n)) :
    Calls Try.prog 46 #[.agg #[.int .i64 x.nu, .int .i64 x.ro, .int .i64 x.ep, .int .i64 x.ap, .slice A x.li.length c, .int .i64 x.so, .bool x.al, .bool x.co], .pointer (some ⟨g, 0, none⟩)] w fun e w' => e = .returned (.bool (x.nu == n)) ∧ Below w.heap.size w w' := by
  have hlt : g < w.heap.size := World.block_lt_of_cell? w _ h
  go_enter Try.func46, Try.ntmps46
  go_wp2
  go_ret
  exact ⟨rfl, below_new (Below.refl _ _) _⟩
theorem clos_split (w : World) (x : Site) (A : Option Addr) (c g : Nat) (r n : Int) (h : w.cell? ⟨g, 1, none⟩ = some (.int .i64 r)) (h2 : w.cell? ⟨g, 2, none⟩ = some (.int .i64 n)) :
    Calls Try.prog 47 #[.agg #[.int .i64 x.nu, .int .i64 x.ro, .int .i64 x.ep, .int .i64 x.ap, .slice A x.li.length c, .int .i64 x.so, .bool x.al, .bool x.co], .pointer (some ⟨g, 0, none⟩)] w fun e w' => e = .returned (.bool (x.ro == r && x.ep == n)) ∧ Below w.heap.size w w' := by
  have hlt : g < w.heap.size := World.block_lt_of_cell? w _ h
  cases hr : x.ro == r
  · go_enter Try.func47, Try.ntmps47
    go_wp2
    go_ret
    exact ⟨rfl, below_new (Below.refl _ _) _⟩
  · go_enter Try.func47, Try.ntmps47
    go_wp2
    go_ret
    exact ⟨rfl, below_new (Below.refl _ _) _⟩
set_option maxHeartbeats 1000000 in
theorem index_num (w : World) (A : Option Addr) (c n B : Nat) (l : List Site) (hn : n = l.length) (h : SitesAt B w A c l) (g : Nat) (m : Int) (hm : w.cell? ⟨g, 0, none⟩ = some (.int .i64 m)) :
    Calls Try.prog 52 #[.slice A n c, .func (Fn.func 46) #[] #[.pointer (some ⟨g, 0, none⟩)]] w fun e w' => e = .returned (.int .i64 (idxFrom 0 (fun x => x.nu == m) l)) ∧ Below w.heap.size w w' := by
  subst hn
  have hl := h.2.1
  have HC := Keep.mk h
  clear h
  go_enter Try.func52, Try.ntmps52
  go_wp2_with fail
  go_loopg [8] l.length (fun g i wr => ∃ k : Nat, g = l.length - k ∧ k ≤ l.length ∧ i = .int .i64 k ∧ Keep (idxFrom 0 (fun x => x.nu == m) l = idxFrom k (fun x => x.nu == m) (l.drop k)) ∧ Keep (Below w.heap.size w wr))
  case atStart => exact ⟨0, by omega, by omega, rfl, ⟨rfl⟩, ⟨Below.refl _ _⟩⟩
  case round =>
    obtain ⟨k, rfl, hk, rfl, H3, H8⟩ := hrel
    by_cases hk2 : k < l.length
    · obtain ⟨b, o, A', c', hA, hb, c0, c1, c2, c3, c4, c5, c6, c7, -⟩ := (HC.out.below H8.out).at_ k hk2
      subst hA
      have hx := drop_getDS hk2 rfl
      generalize l.getD k zS = x at c0 c1 c2 c3 c4 c5 c6 c7 hx
      rw [hx] at H3
      clear hx
      have HN := Keep.mk ((H8.out.cell (p := ⟨g, 0, none⟩) (World.block_lt_of_cell? w _ hm)).trans hm)
      cases hq : (fun x => x.nu == m) x
      · have HX := Keep.mk (H3.out.trans (idxFrom_no _ k x _ hq))
        clear H3
        go_wp2_with (go_at_call 46; refine (clos_num _ x A' c' g m HN.out).mono ?_; rintro e w' ⟨rfl, hb1⟩; have HB := Keep.mk (below_then H8.out hb1); clear hb1)
        go_roundg (l.length - (k + 1))
        case measure => omega
        case rel => exact ⟨k + 1, rfl, by omega, by go_num, HX, HB⟩
      · have HX := Keep.mk (H3.out.trans (idxFrom_yes _ k x _ hq))
        clear H3
        go_wp2_with (go_at_call 46; refine (clos_num _ x A' c' g m HN.out).mono ?_; rintro e w' ⟨rfl, hb1⟩; have HB := Keep.mk (below_then H8.out hb1); clear hb1)
        go_ret
        exact ⟨ret_int HX.out.symm, HB.out⟩
    · have : k = l.length := by omega
      subst this
      go_wp2
      go_ret
      exact ⟨ret_int (by rw [H3.out, List.drop_length]; rfl), H8.out⟩
theorem contains_num (w : World) (A : Option Addr) (c n B : Nat) (l : List Site) (hn : n = l.length) (h : SitesAt B w A c l) (g : Nat) (m : Int) (hm : w.cell? ⟨g, 0, none⟩ = some (.int .i64 m)) :
    Calls Try.prog 45 #[.slice A n c, .func (Fn.func 46) #[] #[.pointer (some ⟨g, 0, none⟩)]] w fun e w' => e = .returned (.bool (l.any (fun x => x.nu == m))) ∧ Below w.heap.size w w' := by
  have HC := Keep.mk h
  have HNN := Keep.mk hn
  clear h hn
  have HV := Keep.mk (idxFrom_any (fun x => x.nu == m) l 0 (by omega))
  go_enter Try.func45, Try.ntmps45
  go_wp2_with (go_at_call 52; (with_reducible refine (index_num w A c n B l HNN.out HC.out g m hm).mono ?_); rintro e w' ⟨rfl, hB⟩; have HB := Keep.mk hB; clear hB)
  go_ret
  exact ⟨ret_bool HV.out, HB.out⟩
set_option maxHeartbeats 1000000 in
theorem index_split (w : World) (A : Option Addr) (c n B : Nat) (l : List Site) (hn : n = l.length) (h : SitesAt B w A c l) (g : Nat) (r m : Int) (hr : w.cell? ⟨g, 1, none⟩ = some (.int .i64 r)) (hm : w.cell? ⟨g, 2, none⟩ = some (.int .i64 m)) :
    Calls Try.prog 52 #[.slice A n c, .func (Fn.func 47) #[] #[.pointer (some ⟨g, 0, none⟩)]] w fun e w' => e = .returned (.int .i64 (idxFrom 0 (fun x => x.ro == r && x.ep == m) l)) ∧ Below w.heap.size w w' := by
  subst hn
  have hl := h.2.1
  have HC := Keep.mk h
  clear h
  go_enter Try.func52, Try.ntmps52
  go_wp2_with fail
  go_loopg [8] l.length (fun g i wr => ∃ k : Nat, g = l.length - k ∧ k ≤ l.length ∧ i = .int .i64 k ∧ Keep (idxFrom 0 (fun x => x.ro == r && x.ep == m) l = idxFrom k (fun x => x.ro == r && x.ep == m) (l.drop k)) ∧ Keep (Below w.heap.size w wr))
  case atStart => exact ⟨0, by omega, by omega, rfl, ⟨rfl⟩, ⟨Below.refl _ _⟩⟩
  case round =>
    obtain ⟨k, rfl, hk, rfl, H3, H8⟩ := hrel
    by_cases hk2 : k < l.length
    · obtain ⟨b, o, A', c', hA, hb, c0, c1, c2, c3, c4, c5, c6, c7, -⟩ := (HC.out.below H8.out).at_ k hk2
      subst hA
      have hx := drop_getDS hk2 rfl
      generalize l.getD k zS = x at c0 c1 c2 c3 c4 c5 c6 c7 hx
      rw [hx] at H3
      clear hx
      have HN := Keep.mk (And.intro ((H8.out.cell (p := ⟨g, 1, none⟩) (World.block_lt_of_cell? w _ hr)).trans hr) ((H8.out.cell (p := ⟨g, 2, none⟩) (World.block_lt_of_cell? w _ hm)).trans hm))
      cases hq : (fun x => x.ro == r && x.ep == m) x
      · have HX := Keep.mk (H3.out.trans (idxFrom_no _ k x _ hq))
        clear H3
        go_wp2_with (go_at_call 47; refine (clos_split _ x A' c' g r m HN.out.1 HN.out.2).mono ?_; rintro e w' ⟨rfl, hb1⟩; have HB := Keep.mk (below_then H8.out hb1); clear hb1)
        go_roundg (l.length - (k + 1))
        case measure => omega
        case rel => exact ⟨k + 1, rfl, by omega, by go_num, HX, HB⟩
      · have HX := Keep.mk (H3.out.trans (idxFrom_yes _ k x _ hq))
        clear H3
        go_wp2_with (go_at_call 47; refine (clos_split _ x A' c' g r m HN.out.1 HN.out.2).mono ?_; rintro e w' ⟨rfl, hb1⟩; have HB := Keep.mk (below_then H8.out hb1); clear hb1)
        go_ret
        exact ⟨ret_int HX.out.symm, HB.out⟩
    · have : k = l.length := by omega
      subst this
      go_wp2
      go_ret
      exact ⟨ret_int (by rw [H3.out, List.drop_length]; rfl), H8.out⟩
theorem contains_split (w : World) (A : Option Addr) (c n B : Nat) (l : List Site) (hn : n = l.length) (h : SitesAt B w A c l) (g : Nat) (r m : Int) (hr : w.cell? ⟨g, 1, none⟩ = some (.int .i64 r)) (hm : w.cell? ⟨g, 2, none⟩ = some (.int .i64 m)) :
    Calls Try.prog 45 #[.slice A n c, .func (Fn.func 47) #[] #[.pointer (some ⟨g, 0, none⟩)]] w fun e w' => e = .returned (.bool (l.any (fun x => x.ro == r && x.ep == m))) ∧ Below w.heap.size w w' := by
  have HC := Keep.mk h
  have HNN := Keep.mk hn
  clear h hn
  have HV := Keep.mk (idxFrom_any (fun x => x.ro == r && x.ep == m) l 0 (by omega))
  go_enter Try.func45, Try.ntmps45
  go_wp2_with (go_at_call 52; (with_reducible refine (index_split w A c n B l HNN.out HC.out g r m hr hm).mono ?_); rintro e w' ⟨rfl, hB⟩; have HB := Keep.mk hB; clear hB)
  go_ret
  exact ⟨ret_bool HV.out, HB.out⟩
end Go.Proofs.Ytijhkgabonkmfaa
