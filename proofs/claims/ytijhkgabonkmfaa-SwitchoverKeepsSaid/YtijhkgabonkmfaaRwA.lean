/- Contracts: standbyref52.Find, Few, Begin. -/
import Derived.Test.YtijhkgabonkmfaaSwD
import Derived.Test.YtijhkgabonkmfaaRefJ
namespace Go.Proofs.Ytijhkgabonkmfaa
open Go.RowKit
set_option linter.unusedSimpArgs false
set_option linter.unusedVariables false
set_option maxHeartbeats 1000000 in
theorem ref52_Find (w : World) (A : Option Addr) (c n B : Nat) (l : List Site) (num : Int) (hn : n = l.length) (h : SitesAt B w A c l) :
    Calls Try.prog 36 #[.slice A n c, .int .i64 num] w fun e w' => e = .returned (.int .i64 (findS l num)) ∧ Below w.heap.size w w' := by
  subst hn
  have hl := h.2.1
  have HC := Keep.mk h
  clear h
  generalize hr : findS l num = r
  have H0 := Keep.mk (show r = idxFrom ((0 : Nat) : Int) (fun x => x.nu == num) (l.drop 0) from hr.symm)
  clear hr
  go_enter Try.func36, Try.ntmps36
  go_wp2_with fail
  go_loopg [5] l.length (fun g i wr => ∃ k : Nat, g = l.length - k ∧ k ≤ l.length ∧ i = .int .i64 k ∧ Keep (r = idxFrom k (fun x => x.nu == num) (l.drop k)) ∧ Keep (Below w.heap.size w wr))
  case atStart => exact ⟨0, by omega, by omega, rfl, H0, ⟨Below.refl _ _⟩⟩
  case round =>
    obtain ⟨k, rfl, hk, rfl, H3, H8⟩ := hrel
    by_cases hk2 : k < l.length
    · obtain ⟨b, o, A', c', hA, hb, c0, -, -, -, -, -, -, -, -⟩ := (HC.out.below H8.out).at_ k hk2
      subst hA
      have hx := drop_getDS hk2 rfl
      have hk3 : (k : Int) < (l.length : Int) := by omega
      generalize l.getD k zS = x at c0 hx
      rw [hx] at H3
      clear hx
      cases hq : (x.nu == num)
      · have HX := Keep.mk (H3.out.trans (idxFrom_no _ k x _ hq))
        clear H3
        go_wp2_with fail
        go_roundg (l.length - (k + 1))
        case measure => omega
        case rel => exact ⟨k + 1, rfl, by omega, by go_num, HX, H8⟩
      · have HX := Keep.mk (H3.out.trans (idxFrom_yes _ k x _ hq))
        clear H3
        go_wp2_with fail
        go_ret
        exact ⟨ret_int HX.out.symm, H8.out⟩
    · have : k = l.length := by omega
      subst this
      have HX := Keep.mk (show r = -1 by rw [H3.out, List.drop_length]; rfl)
      clear H3
      go_wp2_with fail
      go_ret
      exact ⟨ret_int HX.out.symm, H8.out⟩
def smallS (l : List Site) : Bool := l.all fun x => decide (x.li.length ≤ 20)
theorem small_no {l : List Site} {k : Nat} (hk : k < l.length) (h : decide ((20 : Int) < ((l.getD k zS).li.length : Int)) = true) : smallS l = false := by
  unfold smallS
  rw [List.all_eq_false]
  refine ⟨l.getD k zS, ?_, by simp at h ⊢; omega⟩
  rw [List.getD_eq_getElem?_getD, List.getElem?_eq_getElem hk]; exact List.getElem_mem hk
theorem small_go {l : List Site} {k : Nat} (hk : k < l.length) (h : decide ((20 : Int) < ((l.getD k zS).li.length : Int)) = false) : smallS (l.drop k) = smallS (l.drop (k + 1)) := by
  rw [drop_consS l k hk]
  unfold smallS
  rw [List.all_cons]
  have : decide ((l.getD k zS).li.length ≤ 20) = true := by simp at h ⊢; omega
  rw [this, Bool.true_and]
set_option maxHeartbeats 1000000 in
/-- l: the first ten sites -/
theorem ref52_Few (w : World) (A : Option Addr) (c n B : Nat) (l : List Site) (hn : l.length = min n 10) (h : SitesAt B w A c l) :
    Calls Try.prog 11 #[.slice A n c] w fun e w' => e = .returned (.bool (smallS l && decide ((n : Int) ≤ 10))) ∧ Below w.heap.size w w' := by
  have HC := Keep.mk h
  have HN := Keep.mk hn
  have hl10 : l.length ≤ 10 := by omega
  clear h hn
  generalize hr : smallS l = r
  have HR := Keep.mk hr
  clear hr
  have H0 := Keep.mk (show r = smallS (l.drop 0) from HR.out.symm)
  go_enter Try.func11, Try.ntmps11
  go_wp2_with fail
  go_loopg [3] l.length (fun g i wr => ∃ k : Nat, g = l.length - k ∧ k ≤ l.length ∧ i = .int .i64 k ∧ Keep (r = smallS (l.drop k)) ∧ Keep (Below w.heap.size w wr))
  case atStart => exact ⟨0, by omega, by omega, rfl, H0, ⟨Below.refl _ _⟩⟩
  case round =>
    obtain ⟨k, rfl, hk, rfl, H3, H8⟩ := hrel
    by_cases hk2 : k < l.length
    · obtain ⟨b, o, A', c', hA, hb, -, -, -, -, c4, -, -, -, -⟩ := (HC.out.below H8.out).at_ k hk2
      subst hA
      have hk3 : (k : Int) < (n : Int) := by have := HN.out; omega
      have hk4 : decide ((k : Int) < (n : Int)) = true := by simpa using hk3
      have hk5 : decide ((k : Int) < 10) = true := by have := HN.out; simp; omega
      cases hq : decide ((20 : Int) < ((l.getD k zS).li.length : Int))
      · have HX := Keep.mk (H3.out.trans (small_go hk2 hq))
        clear H3
        generalize l.getD k zS = x at c4 hq
        go_wp2_with fail
        go_roundg (l.length - (k + 1))
        case measure => omega
        case rel => exact ⟨k + 1, rfl, by omega, by go_num, HX, H8⟩
      · have HX := Keep.mk (HR.out.symm.trans (small_no hk2 hq))
        clear H3
        generalize l.getD k zS = x at c4 hq
        go_wp2_with fail
        go_ret
        exact ⟨ret_bool (show false = (r && decide ((n : Int) ≤ 10)) by rw [HX.out, Bool.false_and]), H8.out⟩
    · have hkl : k = l.length := by omega
      have HX := Keep.mk (show r = true by rw [H3.out, hkl, List.drop_length]; rfl)
      clear H3
      by_cases h10 : k < n
      · have hk4 : decide ((k : Int) < (n : Int)) = true := by simpa using h10
        have hk5 : decide ((k : Int) < 10) = false := by have := HN.out; simp; omega
        have hk3 : (k : Int) < (n : Int) := by omega
        clear hk2 hkl h10
        go_wp2_with fail
        go_ret
        exact ⟨ret_bool (show decide ((n : Int) ≤ 10) = (r && decide ((n : Int) ≤ 10)) by rw [HX.out, Bool.true_and]), H8.out⟩
      · have hk4 : decide ((k : Int) < (n : Int)) = false := by simpa using h10
        have hk3 : ¬ (k : Int) < (n : Int) := by omega
        clear hk2 hkl h10
        go_wp2_with fail
        go_ret
        exact ⟨ret_bool (show decide ((n : Int) ≤ 10) = (r && decide ((n : Int) ≤ 10)) by rw [HX.out, Bool.true_and]), H8.out⟩
theorem begin_waysr (sa sb : Site) (fr to_ : Int) (r : Proc × Int) (hr : r = if fr = to_ then (zP, 1)
      else if (sa.ro == 1 && sb.ro == 2 && sb.so == fr) = false then (zP, 18)
      else if (sa.al && sb.al && sb.co) = false then (zP, 12)
      else (⟨1, fr, to_, 0, 0, sa.ap, false, false⟩, 0)) :
    ((fr == to_) = true ∧ r = (zP, 1)) ∨
    ((fr == to_) = false ∧ (sa.ro != 1) = true ∧ r = (zP, 18)) ∨
    ((fr == to_) = false ∧ (sa.ro != 1) = false ∧ (sb.ro != 2) = true ∧ r = (zP, 18)) ∨
    ((fr == to_) = false ∧ (sa.ro != 1) = false ∧ (sb.ro != 2) = false ∧ (sb.so != fr) = true ∧ r = (zP, 18)) ∨
    ((fr == to_) = false ∧ (sa.ro != 1) = false ∧ (sb.ro != 2) = false ∧ (sb.so != fr) = false ∧ sa.al = false ∧ r = (zP, 12)) ∨
    ((fr == to_) = false ∧ (sa.ro != 1) = false ∧ (sb.ro != 2) = false ∧ (sb.so != fr) = false ∧ sa.al = true ∧ sb.al = false ∧ r = (zP, 12)) ∨
    ((fr == to_) = false ∧ (sa.ro != 1) = false ∧ (sb.ro != 2) = false ∧ (sb.so != fr) = false ∧ sa.al = true ∧ sb.al = true ∧ sb.co = false ∧ r = (zP, 12)) ∨
    ((fr == to_) = false ∧ (sa.ro != 1) = false ∧ (sb.ro != 2) = false ∧ (sb.so != fr) = false ∧ sa.al = true ∧ sb.al = true ∧ sb.co = true ∧ r = (⟨1, fr, to_, 0, 0, sa.ap, false, false⟩, 0)) := by
  have h := begin_ways sa sb fr to_ r hr
  simp only [bne] at h ⊢
  revert h
  cases (fr == to_) <;> cases (sa.ro == 1) <;> cases (sb.ro == 2) <;> cases (sb.so == fr) <;> simp
def RBegRes (w : World) (r : Proc × Int) (en : Ending) (w' : World) : Prop := en = .returned (.tuple #[.agg #[.int .i64 r.1.ki, .int .i64 r.1.fr, .int .i64 r.1.to_, .int .i64 r.1.st, .int .i64 r.1.ep, .int .i64 r.1.cy, .bool r.1.dn, .bool r.1.fa], .int .i64 r.2]) ∧ Below w.heap.size w w'
theorem rbegin_out (w w1 : World) (tmps : Array Value) (h6 : tmps.getD 6 undef = .pointer (some ⟨w.heap.size, 0, none⟩)) (r : Proc) (e : Int) (h7 : tmps.getD 7 undef = .int .i64 e)
    (KP : Held w w.heap.size [.int .i64 r.ki, .int .i64 r.fr, .int .i64 r.to_, .int .i64 r.st, .int .i64 r.ep, .int .i64 r.cy, .bool r.dn, .bool r.fa] 26 w1) :
    bodyPost Try.prog Try.f14 (RBegRes w (r, e)) Exit.ret { tmps := tmps, defers := [] } w1 := by
  refine bodyPost_ret (results_row_tmp rfl tmps w1 w.heap.size 26 _ _ h6 KP.blk Try.underlying26 rfl (by kernel_rfl)) rfl ⟨?_, KP.bel⟩
  rw [h7]
set_option maxRecDepth 100000 in
set_option maxHeartbeats 2000000 in
theorem ref52_Begin (w : World) (A : Option Addr) (c B : Nat) (l : List Site) (fr to_ : Int) (hB : ∀ x, x ∈ l → x.li.length ≤ B) (h : SitesAt B w A c l) :
    Calls Try.prog 14 #[.slice A l.length c, .int .i64 fr, .int .i64 to_] w (RBegRes w (beginS l fr to_)) := by
  have KP0 := Keep.mk (Held.new (Below.refl w.heap.size w) [.int .i64 0, .int .i64 0, .int .i64 0, .int .i64 0, .int .i64 0, .int .i64 0, .bool false, .bool false] 26)
  have HC := Keep.mk h
  have HB0 := Keep.mk hB
  clear h hB
  by_cases h0 : (checkAllS l).2 = 0
  case neg =>
    have hv : beginS l fr to_ = (zP, (checkAllS l).2) := by unfold beginS; rw [if_pos h0]
    rw [hv]
    generalize hck : checkAllS l = ck at h0
    obtain ⟨ci, ce⟩ := ck
    have HE := Keep.mk hck
    simp only at h0 ⊢
    have h0' : (ce != 0) = true := by simpa using h0
    clear hck h0 hv
    go_enter Try.func14, Try.ntmps14
    go_wp2_with (first
      | (go_at_call 35; (with_reducible refine (ref_CheckAll _ _ c B l HB0.out (HC.out.alloc _)).mono ?_); rw [HE.out]; rintro en w1 ⟨rfl, hB⟩; have KP1 := Keep.mk (KP0.out.step hB); clear hB)
      | ((with_reducible refine wpList_store_proc ?_ (.tmp 6) (.tmp 19) ?_ w w.heap.size KP1.out ?_ zP ?_ ?_); rfl; rfl; rfl; rfl; intro w9 K9 hg; have K9 := Keep.mk K9; clear hg))
    exact rbegin_out w _ _ rfl zP ce rfl K9.out
  have HE := Keep.mk h0
  have hl4 := checkAll_len h0
  have hck : checkAllS l = ((checkAllS l).1, 0) := by rw [← h0]
  generalize (checkAllS l).1 = ci at hck
  have HE := Keep.mk hck
  clear hck h0
  have h0 : (checkAllS l).2 = 0 := by rw [HE.out]
  have h00 : ((0 : Int) != 0) = false := rfl
  rcases find_ways l fr with h1 | ⟨i, h1, hil, -⟩
  · rw [begin_1 h0 h1]
    have HI := Keep.mk h1
    clear h1 h0
    go_enter Try.func14, Try.ntmps14
    go_wp2_with (first
      | (go_at_call 35; (with_reducible refine (ref_CheckAll _ _ c B l HB0.out (HC.out.alloc _)).mono ?_); rw [HE.out]; rintro en w1 ⟨rfl, hB⟩; have KP1 := Keep.mk (KP0.out.step hB); clear hB)
      | (go_at_call 36; (with_reducible refine (ref52_Find _ _ c l.length B l fr rfl (HC.out.below KP1.out.bel)).mono ?_); rw [HI.out]; rintro en w2 ⟨rfl, hB⟩; have KP2 := Keep.mk (KP1.out.step hB); clear hB KP1)
      | (go_at_call 36; (with_reducible refine (ref52_Find _ _ c l.length B l to_ rfl (HC.out.below KP2.out.bel)).mono ?_); (try rw [HK.out]); rintro en w3 ⟨rfl, hB⟩; have KP1 := Keep.mk (KP2.out.step hB); (try (obtain ⟨-, a1, -, a3, -, -, a6, -⟩ := HSA.out.1.below KP1.out.bel)); (try (obtain ⟨-, b1, -, -, -, b5, b6, b7, -⟩ := HSA.out.2.below KP1.out.bel)); (try rw [g5] at a6); (try rw [g6] at b6); (try rw [g7] at b7); clear hB KP2)
      | ((with_reducible refine wpList_store_proc ?_ (.tmp 6) (.tmp 33) ?_ w w.heap.size KP1.out ?_ zP ?_ ?_); rfl; rfl; rfl; rfl; intro w9 K9 hg; have K9 := Keep.mk K9; clear hg))
    exact rbegin_out w _ _ rfl zP 7 rfl K9.out
  rcases find_ways l to_ with h2 | ⟨k, h2, hkl, -⟩
  · rw [begin_2 h0 h2]
    have HI := Keep.mk h1
    have HK := Keep.mk h2
    clear h1 h2 h0
    go_enter Try.func14, Try.ntmps14
    go_wp2_with (first
      | (go_at_call 35; (with_reducible refine (ref_CheckAll _ _ c B l HB0.out (HC.out.alloc _)).mono ?_); rw [HE.out]; rintro en w1 ⟨rfl, hB⟩; have KP1 := Keep.mk (KP0.out.step hB); clear hB)
      | (go_at_call 36; (with_reducible refine (ref52_Find _ _ c l.length B l fr rfl (HC.out.below KP1.out.bel)).mono ?_); rw [HI.out]; rintro en w2 ⟨rfl, hB⟩; have KP2 := Keep.mk (KP1.out.step hB); clear hB KP1)
      | (go_at_call 36; (with_reducible refine (ref52_Find _ _ c l.length B l to_ rfl (HC.out.below KP2.out.bel)).mono ?_); (try rw [HK.out]); rintro en w3 ⟨rfl, hB⟩; have KP1 := Keep.mk (KP2.out.step hB); (try (obtain ⟨-, a1, -, a3, -, -, a6, -⟩ := HSA.out.1.below KP1.out.bel)); (try (obtain ⟨-, b1, -, -, -, b5, b6, b7, -⟩ := HSA.out.2.below KP1.out.bel)); (try rw [g5] at a6); (try rw [g6] at b6); (try rw [g7] at b7); clear hB KP2)
      | ((with_reducible refine wpList_store_proc ?_ (.tmp 6) (.tmp 33) ?_ w w.heap.size KP1.out ?_ zP ?_ ?_); rfl; rfl; rfl; rfl; intro w9 K9 hg; have K9 := Keep.mk K9; clear hg))
    exact rbegin_out w _ _ rfl zP 7 rfl K9.out
  have h3 := begin_3 (fr := fr) (to_ := to_) h0 h1 h2
  have HI := Keep.mk h1
  have HK := Keep.mk h2
  obtain ⟨b, o, A1, c1, hA, hb, hsa⟩ := HC.out.at_ i hil
  subst hA
  obtain ⟨A2, c2, hsb⟩ := HC.out.atp k hkl
  generalize l.getD i zS = sa at h3 hsa
  generalize l.getD k zS = sb at h3 hsb
  have HSA := Keep.mk (And.intro hsa hsb)
  have hil' : (i : Int) < (l.length : Int) := by omega
  have hkl' : (k : Int) < (l.length : Int) := by omega
  clear h1 h2 hsa hsb h0
  rcases begin_waysr sa sb fr to_ _ h3 with ⟨g1, hr⟩ | ⟨g1, g2, hr⟩ | ⟨g1, g2, g3, hr⟩ | ⟨g1, g2, g3, g4, hr⟩ | ⟨g1, g2, g3, g4, g5, hr⟩ | ⟨g1, g2, g3, g4, g5, g6, hr⟩ | ⟨g1, g2, g3, g4, g5, g6, g7, hr⟩ | ⟨g1, g2, g3, g4, g5, g6, g7, hr⟩
  all_goals
    rw [hr]
    clear h3 hr
    go_enter Try.func14, Try.ntmps14
    go_wp2_with (first
      | (go_at_call 35; (with_reducible refine (ref_CheckAll _ _ c B l HB0.out (HC.out.alloc _)).mono ?_); rw [HE.out]; rintro en w1 ⟨rfl, hB⟩; have KP1 := Keep.mk (KP0.out.step hB); clear hB)
      | (go_at_call 36; (with_reducible refine (ref52_Find _ _ c l.length B l fr rfl (HC.out.below KP1.out.bel)).mono ?_); rw [HI.out]; rintro en w2 ⟨rfl, hB⟩; have KP2 := Keep.mk (KP1.out.step hB); clear hB KP1)
      | (go_at_call 36; (with_reducible refine (ref52_Find _ _ c l.length B l to_ rfl (HC.out.below KP2.out.bel)).mono ?_); (try rw [HK.out]); rintro en w3 ⟨rfl, hB⟩; have KP1 := Keep.mk (KP2.out.step hB); (try (obtain ⟨-, a1, -, a3, -, -, a6, -⟩ := HSA.out.1.below KP1.out.bel)); (try (obtain ⟨-, b1, -, -, -, b5, b6, b7, -⟩ := HSA.out.2.below KP1.out.bel)); (try rw [g5] at a6); (try rw [g6] at b6); (try rw [g7] at b7); clear hB KP2)
      | ((with_reducible refine wpList_store_proc ?_ (.tmp 6) (.tmp 37) ?_ w w.heap.size KP1.out ?_ zP ?_ ?_); rfl; rfl; rfl; rfl; intro w9 K9 hg; have K9 := Keep.mk K9; clear hg)
      | ((with_reducible refine wpList_store_proc ?_ (.tmp 6) (.tmp 61) ?_ w w.heap.size KP1.out ?_ zP ?_ ?_); rfl; rfl; rfl; rfl; intro w9 K9 hg; have K9 := Keep.mk K9; clear hg)
      | ((with_reducible refine wpList_store_proc ?_ (.tmp 6) (.tmp 84) ?_ w w.heap.size KP1.out ?_ zP ?_ ?_); rfl; rfl; rfl; rfl; intro w9 K9 hg; have K9 := Keep.mk K9; clear hg)
      | ((with_reducible refine wpList_store_proc ?_ (.tmp 6) (.tmp 92) ?_ w w.heap.size KP1.out ?_ ⟨1, fr, to_, 0, 0, sa.ap, false, false⟩ ?_ ?_); rfl; rfl; rfl; rfl; intro w9 K9 hg; have K9 := Keep.mk K9; clear hg))
    exact rbegin_out w _ _ rfl _ _ rfl K9.out
end Go.Proofs.Ytijhkgabonkmfaa
