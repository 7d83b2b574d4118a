/- Slices of sites: what it means that one is read; the searches over one. -/
import Derived.Test.YtfkdcjkkmfhalaaKitB
import Derived.Test.YtfkdcjkkmfhalaaRoleN
namespace Go.Proofs.Ytfkdcjkkmfhalaa
open Go.RowKit
set_option linter.unusedSimpArgs false
set_option linter.unusedVariables false
/-- A site lies at an offset of a block; its lineage is read if it has B spans at most. -/
def SiteAt (B : Nat) (w : World) (b o : Nat) (x : Site) (A : Option Addr) (c : Nat) : Prop :=
  w.cell? ⟨b, o, none⟩ = some (.int .i64 x.nu) ∧ w.cell? ⟨b, o + 1, none⟩ = some (.int .i64 x.ro) ∧ w.cell? ⟨b, o + 2, none⟩ = some (.int .i64 x.ep) ∧ w.cell? ⟨b, o + 3, none⟩ = some (.int .i64 x.ap) ∧ w.cell? ⟨b, o + 4, none⟩ = some (.slice A x.li.length c) ∧ w.cell? ⟨b, o + 5, none⟩ = some (.int .i64 x.so) ∧ w.cell? ⟨b, o + 6, none⟩ = some (.bool x.al) ∧ w.cell? ⟨b, o + 7, none⟩ = some (.bool x.co) ∧ (x.li.length ≤ B → SpansAt w A c x.li)
/-- The slice at A, of capacity c, reads as the sites l. -/
def SitesAt (B : Nat) (w : World) (A : Option Addr) (c : Nat) (l : List Site) : Prop :=
  l.length ≤ c ∧ l.length ≤ 1000000000 ∧ (0 < l.length → ∃ b o, A = some ⟨b, o, none⟩ ∧ ∀ i, i < l.length → ∃ A' c', SiteAt B w b (o + i * 8) (l.getD i zS) A' c')
theorem SiteAt.lt {B : Nat} {w : World} {b o : Nat} {x : Site} {A : Option Addr} {c : Nat} (h : SiteAt B w b o x A c) : b < w.heap.size := World.block_lt_of_cell? w _ h.1
theorem SiteAt.below {B : Nat} {w w' : World} {b o : Nat} {x : Site} {A : Option Addr} {c : Nat} (h : SiteAt B w b o x A c) (hb : Below w.heap.size w w') : SiteAt B w' b o x A c := by
  have hlt := h.lt
  obtain ⟨c0, c1, c2, c3, c4, c5, c6, c7, hs⟩ := h
  exact ⟨(hb.cell (p := ⟨b, _, none⟩) hlt).trans c0, (hb.cell (p := ⟨b, _, none⟩) hlt).trans c1, (hb.cell (p := ⟨b, _, none⟩) hlt).trans c2, (hb.cell (p := ⟨b, _, none⟩) hlt).trans c3, (hb.cell (p := ⟨b, _, none⟩) hlt).trans c4, (hb.cell (p := ⟨b, _, none⟩) hlt).trans c5, (hb.cell (p := ⟨b, _, none⟩) hlt).trans c6, (hb.cell (p := ⟨b, _, none⟩) hlt).trans c7, fun h => (hs h).below hb⟩
theorem SitesAt.nil (B : Nat) (w : World) : SitesAt B w none 0 [] := ⟨by simp, by simp, by simp⟩
theorem SitesAt.below {B : Nat} {w w' : World} {A : Option Addr} {c : Nat} {l : List Site} (h : SitesAt B w A c l) (hb : Below w.heap.size w w') : SitesAt B w' A c l := by
  refine ⟨h.1, h.2.1, fun hn => ?_⟩
  obtain ⟨b, o, e, hc⟩ := h.2.2 hn
  exact ⟨b, o, e, fun i hi => let ⟨A', c', ha⟩ := hc i hi; ⟨A', c', ha.below hb⟩⟩
theorem SitesAt.alloc {B : Nat} {w : World} {A : Option Addr} {c : Nat} {l : List Site} (h : SitesAt B w A c l) (o : Obj) : SitesAt B (w.alloc o) A c l := h.below ((Below.refl _ _).alloc (Nat.le_refl _) o)
theorem SitesAt.at_ {B : Nat} {w : World} {A : Option Addr} {c : Nat} {l : List Site} (h : SitesAt B w A c l) (i : Nat) (hi : i < l.length) : ∃ b o A' c', A = some ⟨b, o, none⟩ ∧ b < w.heap.size ∧ SiteAt B w b (o + i * 8) (l.getD i zS) A' c' := by
  obtain ⟨b, o, e, hc⟩ := h.2.2 (by omega)
  obtain ⟨A', c', ha⟩ := hc i hi
  exact ⟨b, o, A', c', e, ha.lt, ha⟩
theorem getD_take {α : Type} (l : List α) (z : α) {i k : Nat} (h : i < k) : (l.take k).getD i z = l.getD i z := by
  simp only [List.getD_eq_getElem?_getD]
  rw [List.getElem?_take_of_lt h]
theorem SitesAt.take {B : Nat} {w : World} {A : Option Addr} {c : Nat} {l : List Site} (h : SitesAt B w A c l) (k : Nat) (hk : k ≤ l.length) : SitesAt B w A c (l.take k) := by
  have hlen : (l.take k).length = k := by rw [List.length_take]; omega
  refine ⟨by rw [hlen]; have := h.1; omega, by rw [hlen]; have := h.2.1; omega, fun hn => ?_⟩
  obtain ⟨b, o, e, hc⟩ := h.2.2 (by omega)
  refine ⟨b, o, e, fun i hi => ?_⟩
  rw [hlen] at hi
  rw [getD_take l zS hi]
  exact hc i (by omega)
theorem drop_getDS {l : List Site} {k : Nat} (h : k < l.length) {x : Site} (hx : l.getD k zS = x) : l.drop k = x :: l.drop (k + 1) := by
  rw [List.drop_eq_getElem_cons h]; congr 1; rw [← hx]; simp [List.getD_eq_getElem?_getD, List.getElem?_eq_getElem h]
/-- the first index, counted from k, at which p holds, or -1 -/
def idxFrom (k : Int) (p : Site → Bool) : List Site → Int
  | [] => -1
  | x :: r => if p x then k else idxFrom (k + 1) p r
theorem idxFrom_no (p : Site → Bool) (k : Nat) (x : Site) (r : List Site) (h : p x = false) : idxFrom k p (x :: r) = idxFrom ((k + 1 : Nat) : Int) p r := by
  rw [show ((k + 1 : Nat) : Int) = (k : Int) + 1 from by omega]
  conv => lhs; unfold idxFrom
  rw [if_neg (by simp [h])]
theorem idxFrom_yes (p : Site → Bool) (k : Nat) (x : Site) (r : List Site) (h : p x = true) : idxFrom k p (x :: r) = k := by
  unfold idxFrom; rw [if_pos h]
theorem idxFrom_any (p : Site → Bool) : ∀ (l : List Site) (k : Int), 0 ≤ k → decide (0 ≤ idxFrom k p l) = l.any p := by
  intro l
  induction l with
  | nil => intro k _; simp [idxFrom]
  | cons x r ih =>
    intro k hk
    unfold idxFrom
    cases hx : p x
    · rw [if_neg (by simp), ih (k + 1) (by omega)]; simp [hx]
    · rw [if_pos rfl]; simp [hx, hk]
theorem clos_few (w : World) (x : Site) (A : Option Addr) (c : Nat) :
    Calls Try.prog 31 #[.agg #[.int .i64 x.nu, .int .i64 x.ro, .int .i64 x.ep, .int .i64 x.ap, .slice A x.li.length c, .int .i64 x.so, .bool x.al, .bool x.co]] w fun e w' => e = .returned (.bool (!decide ((x.li.length : Int) ≤ 20))) ∧ Below w.heap.size w w' := by
  go_enter Try.func31, Try.ntmps31
  go_wp2_with (go_at_call 11; refine (law_few _ x A c).mono ?_; rintro e w1 ⟨rfl, hB⟩; have HB1 := Keep.mk (below_then (below_new (Below.refl w.heap.size w) (.cells #[.int .i64 x.nu, .int .i64 x.ro, .int .i64 x.ep, .int .i64 x.ap, .slice A x.li.length c, .int .i64 x.so, .bool x.al, .bool x.co] 24)) hB); clear hB)
  go_ret
  exact ⟨rfl, HB1.out⟩
theorem clos_num (w : World) (x : Site) (A : Option Addr) (c g : Nat) (n : Int) (h : w.cell? ⟨g, 0, none⟩ = some (.int .i64 n)) :
    Calls Try.prog 60 #[.agg #[.int .i64 x.nu, .int .i64 x.ro, .int .i64 x.ep, .int .i64 x.ap, .slice A x.li.length c, .int .i64 x.so, .bool x.al, .bool x.co], .pointer (some ⟨g, 0, none⟩)] w fun e w' => e = .returned (.bool (x.nu == n)) ∧ Below w.heap.size w w' := by
  have hlt : g < w.heap.size := World.block_lt_of_cell? w _ h
  go_enter Try.func60, Try.ntmps60
  go_wp2
  go_ret
  exact ⟨rfl, below_new (Below.refl _ _) _⟩
theorem clos_split (w : World) (x : Site) (A : Option Addr) (c g : Nat) (r n : Int) (h : w.cell? ⟨g, 1, none⟩ = some (.int .i64 r)) (h2 : w.cell? ⟨g, 2, none⟩ = some (.int .i64 n)) :
    Calls Try.prog 61 #[.agg #[.int .i64 x.nu, .int .i64 x.ro, .int .i64 x.ep, .int .i64 x.ap, .slice A x.li.length c, .int .i64 x.so, .bool x.al, .bool x.co], .pointer (some ⟨g, 0, none⟩)] w fun e w' => e = .returned (.bool (x.ro == r && x.ep == n)) ∧ Below w.heap.size w w' := by
  have hlt : g < w.heap.size := World.block_lt_of_cell? w _ h
  cases hr : x.ro == r
  · go_enter Try.func61, Try.ntmps61
    go_wp2
    go_ret
    exact ⟨rfl, below_new (Below.refl _ _) _⟩
  · go_enter Try.func61, Try.ntmps61
    go_wp2
    go_ret
    exact ⟨rfl, below_new (Below.refl _ _) _⟩
set_option maxHeartbeats 1000000 in
theorem index_few (w : World) (A : Option Addr) (c n B : Nat) (l : List Site) (hn : n = l.length) (h : SitesAt B w A c l)  :
    Calls Try.prog 56 #[.slice A n c, .func (Fn.func 31) #[] #[]] w fun e w' => e = .returned (.int .i64 (idxFrom 0 (fun x => !decide ((x.li.length : Int) ≤ 20)) l)) ∧ Below w.heap.size w w' := by
  subst hn
  have hl := h.2.1
  have HC := Keep.mk h
  clear h
  go_enter Try.func56, Try.ntmps56
  go_wp2_with fail
  go_loopg [8] l.length (fun g i wr => ∃ k : Nat, g = l.length - k ∧ k ≤ l.length ∧ i = .int .i64 k ∧ Keep (idxFrom 0 (fun x => !decide ((x.li.length : Int) ≤ 20)) l = idxFrom k (fun x => !decide ((x.li.length : Int) ≤ 20)) (l.drop k)) ∧ Keep (Below w.heap.size w wr))
  case atStart => exact ⟨0, by omega, by omega, rfl, ⟨rfl⟩, ⟨Below.refl _ _⟩⟩
  case round =>
    obtain ⟨k, rfl, hk, rfl, H3, H8⟩ := hrel
    by_cases hk2 : k < l.length
    · obtain ⟨b, o, A', c', hA, hb, c0, c1, c2, c3, c4, c5, c6, c7, -⟩ := (HC.out.below H8.out).at_ k hk2
      subst hA
      have hx := drop_getDS hk2 rfl
      generalize l.getD k zS = x at c0 c1 c2 c3 c4 c5 c6 c7 hx
      rw [hx] at H3
      clear hx
      have HN := Keep.mk True.intro
      cases hq : (fun x => !decide ((x.li.length : Int) ≤ 20)) x
      · have HX := Keep.mk (H3.out.trans (idxFrom_no _ k x _ hq))
        clear H3
        go_wp2_with (go_at_call 31; refine (clos_few _ x A' c').mono ?_; rintro e w' ⟨rfl, hb1⟩; have HB := Keep.mk (below_then H8.out hb1); clear hb1)
        go_roundg (l.length - (k + 1))
        case measure => omega
        case rel => exact ⟨k + 1, rfl, by omega, by go_num, HX, HB⟩
      · have HX := Keep.mk (H3.out.trans (idxFrom_yes _ k x _ hq))
        clear H3
        go_wp2_with (go_at_call 31; refine (clos_few _ x A' c').mono ?_; rintro e w' ⟨rfl, hb1⟩; have HB := Keep.mk (below_then H8.out hb1); clear hb1)
        go_ret
        exact ⟨ret_int HX.out.symm, HB.out⟩
    · have : k = l.length := by omega
      subst this
      go_wp2
      go_ret
      exact ⟨ret_int (by rw [H3.out, List.drop_length]; rfl), H8.out⟩
theorem contains_few (w : World) (A : Option Addr) (c n B : Nat) (l : List Site) (hn : n = l.length) (h : SitesAt B w A c l)  :
    Calls Try.prog 30 #[.slice A n c, .func (Fn.func 31) #[] #[]] w fun e w' => e = .returned (.bool (l.any (fun x => !decide ((x.li.length : Int) ≤ 20)))) ∧ Below w.heap.size w w' := by
  have HC := Keep.mk h
  have HNN := Keep.mk hn
  clear h hn
  have HV := Keep.mk (idxFrom_any (fun x => !decide ((x.li.length : Int) ≤ 20)) l 0 (by omega))
  go_enter Try.func30, Try.ntmps30
  go_wp2_with (go_at_call 56; (with_reducible refine (index_few w A c n B l HNN.out HC.out ).mono ?_); rintro e w' ⟨rfl, hB⟩; have HB := Keep.mk hB; clear hB)
  go_ret
  exact ⟨ret_bool HV.out, HB.out⟩
set_option maxHeartbeats 1000000 in
theorem index_num (w : World) (A : Option Addr) (c n B : Nat) (l : List Site) (hn : n = l.length) (h : SitesAt B w A c l) (g : Nat) (m : Int) (hm : w.cell? ⟨g, 0, none⟩ = some (.int .i64 m)) :
    Calls Try.prog 56 #[.slice A n c, .func (Fn.func 60) #[] #[.pointer (some ⟨g, 0, none⟩)]] w fun e w' => e = .returned (.int .i64 (idxFrom 0 (fun x => x.nu == m) l)) ∧ Below w.heap.size w w' := by
  subst hn
  have hl := h.2.1
  have HC := Keep.mk h
  clear h
  go_enter Try.func56, Try.ntmps56
  go_wp2_with fail
  go_loopg [8] l.length (fun g i wr => ∃ k : Nat, g = l.length - k ∧ k ≤ l.length ∧ i = .int .i64 k ∧ Keep (idxFrom 0 (fun x => x.nu == m) l = idxFrom k (fun x => x.nu == m) (l.drop k)) ∧ Keep (Below w.heap.size w wr))
  case atStart => exact ⟨0, by omega, by omega, rfl, ⟨rfl⟩, ⟨Below.refl _ _⟩⟩
  case round =>
    obtain ⟨k, rfl, hk, rfl, H3, H8⟩ := hrel
    by_cases hk2 : k < l.length
    · obtain ⟨b, o, A', c', hA, hb, c0, c1, c2, c3, c4, c5, c6, c7, -⟩ := (HC.out.below H8.out).at_ k hk2
      subst hA
      have hx := drop_getDS hk2 rfl
      generalize l.getD k zS = x at c0 c1 c2 c3 c4 c5 c6 c7 hx
      rw [hx] at H3
      clear hx
      have HN := Keep.mk ((H8.out.cell (p := ⟨g, 0, none⟩) (World.block_lt_of_cell? w _ hm)).trans hm)
      cases hq : (fun x => x.nu == m) x
      · have HX := Keep.mk (H3.out.trans (idxFrom_no _ k x _ hq))
        clear H3
        go_wp2_with (go_at_call 60; refine (clos_num _ x A' c' g m HN.out).mono ?_; rintro e w' ⟨rfl, hb1⟩; have HB := Keep.mk (below_then H8.out hb1); clear hb1)
        go_roundg (l.length - (k + 1))
        case measure => omega
        case rel => exact ⟨k + 1, rfl, by omega, by go_num, HX, HB⟩
      · have HX := Keep.mk (H3.out.trans (idxFrom_yes _ k x _ hq))
        clear H3
        go_wp2_with (go_at_call 60; refine (clos_num _ x A' c' g m HN.out).mono ?_; rintro e w' ⟨rfl, hb1⟩; have HB := Keep.mk (below_then H8.out hb1); clear hb1)
        go_ret
        exact ⟨ret_int HX.out.symm, HB.out⟩
    · have : k = l.length := by omega
      subst this
      go_wp2
      go_ret
      exact ⟨ret_int (by rw [H3.out, List.drop_length]; rfl), H8.out⟩
theorem contains_num (w : World) (A : Option Addr) (c n B : Nat) (l : List Site) (hn : n = l.length) (h : SitesAt B w A c l) (g : Nat) (m : Int) (hm : w.cell? ⟨g, 0, none⟩ = some (.int .i64 m)) :
    Calls Try.prog 30 #[.slice A n c, .func (Fn.func 60) #[] #[.pointer (some ⟨g, 0, none⟩)]] w fun e w' => e = .returned (.bool (l.any (fun x => x.nu == m))) ∧ Below w.heap.size w w' := by
  have HC := Keep.mk h
  have HNN := Keep.mk hn
  clear h hn
  have HV := Keep.mk (idxFrom_any (fun x => x.nu == m) l 0 (by omega))
  go_enter Try.func30, Try.ntmps30
  go_wp2_with (go_at_call 56; (with_reducible refine (index_num w A c n B l HNN.out HC.out g m hm).mono ?_); rintro e w' ⟨rfl, hB⟩; have HB := Keep.mk hB; clear hB)
  go_ret
  exact ⟨ret_bool HV.out, HB.out⟩
set_option maxHeartbeats 1000000 in
theorem index_split (w : World) (A : Option Addr) (c n B : Nat) (l : List Site) (hn : n = l.length) (h : SitesAt B w A c l) (g : Nat) (r m : Int) (hr : w.cell? ⟨g, 1, none⟩ = some (.int .i64 r)) (hm : w.cell? ⟨g, 2, none⟩ = some (.int .i64 m)) :
    Calls Try.prog 56 #[.slice A n c, .func (Fn.func 61) #[] #[.pointer (some ⟨g, 0, none⟩)]] w fun e w' => e = .returned (.int .i64 (idxFrom 0 (fun x => x.ro == r && x.ep == m) l)) ∧ Below w.heap.size w w' := by
  subst hn
  have hl := h.2.1
  have HC := Keep.mk h
  clear h
  go_enter Try.func56, Try.ntmps56
  go_wp2_with fail
  go_loopg [8] l.length (fun g i wr => ∃ k : Nat, g = l.length - k ∧ k ≤ l.length ∧ i = .int .i64 k ∧ Keep (idxFrom 0 (fun x => x.ro == r && x.ep == m) l = idxFrom k (fun x => x.ro == r && x.ep == m) (l.drop k)) ∧ Keep (Below w.heap.size w wr))
  case atStart => exact ⟨0, by omega, by omega, rfl, ⟨rfl⟩, ⟨Below.refl _ _⟩⟩
  case round =>
    obtain ⟨k, rfl, hk, rfl, H3, H8⟩ := hrel
    by_cases hk2 : k < l.length
    · obtain ⟨b, o, A', c', hA, hb, c0, c1, c2, c3, c4, c5, c6, c7, -⟩ := (HC.out.below H8.out).at_ k hk2
      subst hA
      have hx := drop_getDS hk2 rfl
      generalize l.getD k zS = x at c0 c1 c2 c3 c4 c5 c6 c7 hx
      rw [hx] at H3
      clear hx
      have HN := Keep.mk (And.intro ((H8.out.cell (p := ⟨g, 1, none⟩) (World.block_lt_of_cell? w _ hr)).trans hr) ((H8.out.cell (p := ⟨g, 2, none⟩) (World.block_lt_of_cell? w _ hm)).trans hm))
      cases hq : (fun x => x.ro == r && x.ep == m) x
      · have HX := Keep.mk (H3.out.trans (idxFrom_no _ k x _ hq))
        clear H3
        go_wp2_with (go_at_call 61; refine (clos_split _ x A' c' g r m HN.out.1 HN.out.2).mono ?_; rintro e w' ⟨rfl, hb1⟩; have HB := Keep.mk (below_then H8.out hb1); clear hb1)
        go_roundg (l.length - (k + 1))
        case measure => omega
        case rel => exact ⟨k + 1, rfl, by omega, by go_num, HX, HB⟩
      · have HX := Keep.mk (H3.out.trans (idxFrom_yes _ k x _ hq))
        clear H3
        go_wp2_with (go_at_call 61; refine (clos_split _ x A' c' g r m HN.out.1 HN.out.2).mono ?_; rintro e w' ⟨rfl, hb1⟩; have HB := Keep.mk (below_then H8.out hb1); clear hb1)
        go_ret
        exact ⟨ret_int HX.out.symm, HB.out⟩
    · have : k = l.length := by omega
      subst this
      go_wp2
      go_ret
      exact ⟨ret_int (by rw [H3.out, List.drop_length]; rfl), H8.out⟩
theorem contains_split (w : World) (A : Option Addr) (c n B : Nat) (l : List Site) (hn : n = l.length) (h : SitesAt B w A c l) (g : Nat) (r m : Int) (hr : w.cell? ⟨g, 1, none⟩ = some (.int .i64 r)) (hm : w.cell? ⟨g, 2, none⟩ = some (.int .i64 m)) :
    Calls Try.prog 30 #[.slice A n c, .func (Fn.func 61) #[] #[.pointer (some ⟨g, 0, none⟩)]] w fun e w' => e = .returned (.bool (l.any (fun x => x.ro == r && x.ep == m))) ∧ Below w.heap.size w w' := by
  have HC := Keep.mk h
  have HNN := Keep.mk hn
  clear h hn
  have HV := Keep.mk (idxFrom_any (fun x => x.ro == r && x.ep == m) l 0 (by omega))
  go_enter Try.func30, Try.ntmps30
  go_wp2_with (go_at_call 56; (with_reducible refine (index_split w A c n B l HNN.out HC.out g r m hr hm).mono ?_); rintro e w' ⟨rfl, hB⟩; have HB := Keep.mk hB; clear hB)
  go_ret
  exact ⟨ret_bool HV.out, HB.out⟩
end Go.Proofs.Ytfkdcjkkmfhalaa
