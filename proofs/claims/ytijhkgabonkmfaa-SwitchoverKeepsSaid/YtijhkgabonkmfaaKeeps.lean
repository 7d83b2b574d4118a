/- SwitchoverKeeps: whatever the two numbers and the events, the law's function returns true and leaves its input as it was: a switchover that is done has kept all cycles. No condition. -/
import Derived.Test.YtijhkgabonkmfaaLwD
import Derived.Test.YtijhkgabonkmfaaLwE
import Derived.Test.YtijhkgabonkmfaaLwG
import Derived.Test.YtijhkgabonkmfaaKit
import Derived.Test.YtijhkgabonkmfaaRows
import Derived.ProofKit
import Derived.Deep.Slices
import Derived.Deep.Fields
import Derived.ChangeSame
import Derived.Lib.SmallJoins
import Derived.Test.YtijhkgabonkmfaaSites
import Derived.Test.YtijhkgabonkmfaaSwP
import Derived.Test.YtijhkgabonkmfaaLwB
import Derived.Test.YtijhkgabonkmfaaRwD
import Derived.Test.YtijhkgabonkmfaaChecked
import Derived.OpenShut
import Derived.ShutString
import Derived.ChangeOld
import Derived.Below
namespace Go.Proofs.Ytijhkgabonkmfaa
section
def siteA (n : Int) : Site := ⟨0, 1, 1, n, liS n, -1, true, true⟩
def siteB (n : Int) : Site := ⟨1, 2, 1, n, liS n, 0, true, true⟩
def siteD (n ep : Int) : Site := ⟨0, 2, ep, n, liS n, 1, true, true⟩
def siteP (n ep : Int) : Site := ⟨1, 1, ep, n, liS n, -1, true, true⟩
theorem pairS_eq (n m : Int) : pairS n m = [siteA n, siteB m] := rfl
theorem liS_pos {n : Int} (h : 0 < n) : liS n = [⟨1, 1, n⟩] := if_pos h
theorem liS_zero {n : Int} (h : ¬ 0 < n) : liS n = [] := if_neg h
theorem corr_liS {n : Int} (h : 0 ≤ n ∧ n ≤ 1073741824) : corr (liS n) 0 0 = true := by
  by_cases hp : 0 < n
  · rw [liS_pos hp]; simp [corr, inB]; omega
  · rw [liS_zero hp]; rfl
theorem last_liS {n : Int} (h : 0 ≤ n) : (lastS (liS n)).to_ = n ∧ (lastS (liS n)).ep ≤ 1 := by
  by_cases hp : 0 < n
  · rw [liS_pos hp]; simp [lastS]
  · rw [liS_zero hp]; simp [lastS, Span.z]; omega
theorem check_ok (nu ro ep n so : Int) (al co : Bool) (hnu : 0 ≤ nu ∧ nu ≤ 3) (hro : 0 ≤ ro ∧ ro ≤ 5) (hep : 1 ≤ ep ∧ ep ≤ 1073741824) (hn : 0 ≤ n ∧ n ≤ 1073741824) (hso : if recv ro = true then 0 ≤ so ∧ so ≤ 3 ∧ so ≠ nu else so = -1) : checkS ⟨nu, ro, ep, n, liS n, so, al, co⟩ = 0 := by
  have h1 := last_liS hn.1
  have h2 := corr_liS hn
  unfold checkS
  simp only [h2, if_true]
  rw [if_pos (by simp [inB]; omega), if_pos (by simp [inB]; omega), if_pos ⟨by simp [inB]; omega, by simp [inB]; omega, by omega⟩, if_neg (by omega), if_neg (by omega)]
  split
  · rename_i hr
    rw [if_pos hr] at hso
    rw [if_pos (by simp [otherS, inB]; omega)]
  · rename_i hr
    rw [if_neg hr] at hso
    rw [if_pos hso]
theorem checkA {n : Int} (h : 0 ≤ n ∧ n ≤ 1000000) : checkS (siteA n) = 0 := check_ok 0 1 1 n (-1) true true (by omega) (by omega) (by omega) (by omega) (by simp [recv])
theorem checkB {n : Int} (h : 0 ≤ n ∧ n ≤ 1000000) : checkS (siteB n) = 0 := check_ok 1 2 1 n 0 true true (by omega) (by omega) (by omega) (by omega) (by simp [recv])
theorem checkD {n ep : Int} (h : 0 ≤ n ∧ n ≤ 1000000) (he : 1 ≤ ep ∧ ep ≤ 1073741824) : checkS (siteD n ep) = 0 := check_ok 0 2 ep n 1 true true (by omega) (by omega) he (by omega) (by simp [recv])
theorem checkPr {n ep : Int} (h : 0 ≤ n ∧ n ≤ 1000000) (he : 1 ≤ ep ∧ ep ≤ 1073741824) : checkS (siteP n ep) = 0 := check_ok 1 1 ep n (-1) true true (by omega) (by omega) he (by omega) (by simp [recv])
theorem extend_liS {n : Int} (h : 0 ≤ n) : extendS (liS n) 1 n (n + 1) = liS (n + 1) := by
  rw [liS_pos (show 0 < n + 1 by omega)]
  by_cases hp : 0 < n
  · rw [liS_pos hp]; simp [extendS, lastS]
  · have : n = 0 := by omega
    subst this
    rw [liS_zero hp]; simp [extendS]
theorem applyA {n : Int} (h : 0 ≤ n ∧ n < 1000000) : applyS (siteA n) 1 (n + 1) = (siteA (n + 1), 0) := by
  unfold applyS
  rw [checkA (by omega), if_neg (by simp), if_neg (by simp [okA, siteA]), if_neg (by simp [okAE, siteA]), if_neg (by omega), if_neg (by simp [siteA]; omega)]
  simp only [siteA, extend_liS h.1]
theorem applyB {n : Int} (h : 0 ≤ n ∧ n < 1000000) : applyS (siteB n) 1 (n + 1) = (siteB (n + 1), 0) := by
  unfold applyS
  rw [checkB (by omega), if_neg (by simp), if_neg (by simp [okA, siteB]), if_neg (by simp [okAE, siteB]), if_neg (by omega), if_neg (by simp [siteB]; omega)]
  simp only [siteB, extend_liS h.1]
theorem demoteA {n ep : Int} (h : 0 ≤ n ∧ n ≤ 1000000) (he : 1 ≤ ep ∧ ep ≤ 1073741824) : demoteS (siteA n) ep 1 = (siteD n ep, 0) := by
  unfold demoteS
  rw [checkA h, if_neg (by simp), if_neg (by simp [siteA]), if_neg (by simp [siteA]; omega), if_neg (by omega), if_neg (by simp [okD, otherS, siteA, inB])]
  simp [siteA, siteD]
theorem promoteB {n ep : Int} (h : 0 ≤ n ∧ n ≤ 1000000) (he : 1 < ep ∧ ep ≤ 1073741824) : promoteS (siteB n) ep = (siteP n ep, 0) := by
  unfold promoteS
  rw [checkB h, if_neg (by simp), if_neg (by simp [siteB]), if_neg (by simp [okP, siteB]), if_neg (by simp [siteB]; omega), if_neg (by omega)]
  simp [siteB, siteP]
theorem same_liS {n m : Int} (hn : 0 ≤ n) (hm : 0 ≤ m) : sameL (liS n) (liS m) = (n == m) := by
  cases hs : sameL (liS n) (liS m)
  · symm
    rw [beq_eq_false_iff_ne]
    intro e
    subst e
    rw [(sameL_iff _ _).2 rfl] at hs
    exact absurd hs (by decide)
  · rw [sameL_iff] at hs
    have h1 := (last_liS hn).1
    rw [hs, (last_liS hm).1] at h1
    simp [h1]
theorem two_ok (x y : Site) (hx : checkS x = 0) (hy : checkS y = 0) (hnu : x.nu ≠ y.nu) (hro : ¬ (y.ro = 1 ∧ x.ro = 1)) : (checkAllS [x, y]).2 = 0 := by
  have h1 : caStep [] x = 0 := by simp [caStep, hx]
  have h2 : caStep [x] y = 0 := by
    unfold caStep
    rw [if_neg (by simp [hy]), if_neg (by simp [hnu]), if_neg ?_]
    intro h
    simp at h
    exact hro ⟨h.1, by rw [← h.1]; exact h.2.1⟩
  unfold checkAllS
  rw [if_neg (by simp)]
  unfold caGo
  rw [if_neg (by simp [h1])]
  unfold caGo
  rw [if_neg (by simp [h2])]
  rfl
theorem allPair {n m : Int} (hn : 0 ≤ n ∧ n ≤ 1000000) (hm : 0 ≤ m ∧ m ≤ 1000000) : (checkAllS (pairS n m)).2 = 0 := two_ok _ _ (checkA hn) (checkB hm) (by simp) (by simp)
theorem allDB {n m ep : Int} (hn : 0 ≤ n ∧ n ≤ 1000000) (hm : 0 ≤ m ∧ m ≤ 1000000) (he : 1 ≤ ep ∧ ep ≤ 1073741824) : (checkAllS [siteD n ep, siteB m]).2 = 0 := two_ok _ _ (checkD hn he) (checkB hm) (by simp [siteD, siteB]) (by simp [siteD, siteB])
theorem allDP {n ep : Int} (hn : 0 ≤ n ∧ n ≤ 1000000) (he : 1 ≤ ep ∧ ep ≤ 1073741824) : (checkAllS [siteD n ep, siteP n ep]).2 = 0 := two_ok _ _ (checkD hn he) (checkPr hn he) (by simp [siteD, siteP]) (by simp [siteD, siteP])
theorem find0 (x y : Site) (h : x.nu = 0) : findS [x, y] 0 = (0 : Nat) := by simp [findS, idxFrom, h]
theorem find1 (x y : Site) (hx : x.nu = 0) (h : y.nu = 1) : findS [x, y] 1 = (1 : Nat) := by simp [findS, idxFrom, hx, h]
/-- a step over two sites that are in order -/
theorem step_two {p : Proc} {x y : Site} {ok : Bool} {v : Int} (hp : checkP p = 0) (hfr : p.fr = 0) (hto : p.to_ = 1) (hall : (checkAllS [x, y]).2 = 0) (hx : x.nu = 0) (hy : y.nu = 1) :
    stepS p [x, y] ok v = if p.dn = true then (zP, [], 12) else if p.fa = true then (zP, [], 12) else if ok = false then ({ p with fa := decide (p.st ≤ 3) }, [x, y], 0)
      else if sucE p x y v ≠ 0 then (zP, [], sucE p x y v) else (sucP p v, sucL p [x, y] 0 1, 0) :=
  step_tail (i := 0) (k := 1) hp hall (by rw [hfr]; exact find0 x y hx) (by rw [hto]; exact find1 x y hx hy)
theorem abort_two {p : Proc} {l : List Site} (hp : checkP p = 0) (hall : (checkAllS l).2 = 0) : abortS p l = if p.dn = true then (zP, [], 12) else if p.fa = true then (zP, [], 12) else if decide (p.st ≤ 3) = false then (zP, [], 12) else ({ p with fa := true }, l, 0) := abort_tail hp hall
theorem proc_ok {st ep cy : Int} {dn fa : Bool} (hst : 0 ≤ st ∧ st ≤ 5) (he : 0 ≤ ep ∧ ep ≤ 1073741824) (hc : 0 ≤ cy ∧ cy ≤ 1073741824) (hd : dn = (st == 5)) (hf : fa = true → st ≤ 3) : checkP ⟨1, 0, 1, st, ep, cy, dn, fa⟩ = 0 := by
  subst hd
  unfold checkP
  rw [if_pos]
  cases fa
  · simp [inS, inT, inB]; omega
  · have := hf rfl
    simp [inS, inT, inB]; omega
/-- the ways in which a switchover between two sites can stand; N: the cycles that are closed; M: those that the secondary has -/
inductive Ph (s : StS) (N M : Int) : Prop where
  | before (st ep cy : Int) (fa : Bool) (hp : s.p = ⟨1, 0, 1, st, ep, cy, false, fa⟩) (hl : s.l = pairS N M) (hst : 0 ≤ st ∧ st ≤ 3) (hep : if st = 3 then 1 < ep ∧ ep ≤ 1073741824 else ep = 0) (hcy : 0 ≤ cy ∧ cy ≤ N)
  | demoted (ep : Int) (hp : s.p = ⟨1, 0, 1, 4, ep, N, false, false⟩) (hl : s.l = [siteD N ep, siteB N]) (hep : 1 < ep ∧ ep ≤ 1073741824) (hM : M = N) (ho : s.old = pairS N N)
  | done (ep : Int) (hp : s.p = ⟨1, 0, 1, 5, ep, N, true, false⟩) (hl : s.l = [siteD N ep, siteP N ep]) (hep : 1 < ep ∧ ep ≤ 1073741824) (hM : M = N) (ho : s.old = pairS N N)
/-- how a switchover between two sites stands -/
def Inv (s : StS) (N M : Int) : Prop := s.ri = true ∧ s.cy = N ∧ 0 ≤ M ∧ M ≤ N ∧ N ≤ 1000000 ∧ Ph s N M
theorem Inv.len {s : StS} {N M : Int} (h : Inv s N M) : s.l.length = 2 := by
  obtain ⟨-, -, -, -, -, h⟩ := h
  cases h with
  | before st ep cy fa hp hl => rw [hl]; rfl
  | demoted ep hp hl => rw [hl]; rfl
  | done ep hp hl => rw [hl]; rfl
end
section
theorem st8 {s : StS} {v : Int} (h : s.l.length = 2) : stateStep s 8 v = if ((saS s).ro == 1 && s.cl) = true then { s with l := [(applyS (saS s) 1 (s.cy + 1)).1, sbS s], cy := s.cy + 1, ri := s.ri && (applyS (saS s) 1 (s.cy + 1)).2 == 0 } else s := by
  unfold stateStep; rw [if_neg (not_not_intro h), if_pos rfl]
theorem st6 {s : StS} {v : Int} (h : s.l.length = 2) : stateStep s 6 v = if (decide ((sbS s).ap < s.cy) && (sbS s).ro == 2 && (saS s).ro == 1) = true then { s with l := [saS s, (applyS (sbS s) 1 ((sbS s).ap + 1)).1], ri := s.ri && (applyS (sbS s) 1 ((sbS s).ap + 1)).2 == 0 } else s := by
  unfold stateStep; rw [if_neg (not_not_intro h), if_neg (by decide), if_pos rfl]
theorem st7 {s : StS} {v : Int} (h : s.l.length = 2) : stateStep s 7 v = if (abortS s.p s.l).2.2 = 0 then { s with p := (abortS s.p s.l).1, l := (abortS s.p s.l).2.1 } else s := by
  unfold stateStep; rw [if_neg (not_not_intro h), if_neg (by decide), if_neg (by decide), if_pos rfl]
theorem stD {s : StS} {k v : Int} (h : s.l.length = 2) (h8 : k ≠ 8) (h6 : k ≠ 6) (h7 : k ≠ 7) (r : Proc × List Site × Int) (hr : stepS s.p s.l (k != 4) (if k = 5 then v else valueS s) = r) :
    stateStep s k v = if r.2.2 = 0 then { (if s.p.st = 3 then { s with old := s.l } else s) with p := r.1, l := r.2.1 } else (if s.p.st = 3 then { s with old := s.l } else s) := by
  unfold stateStep; rw [if_neg (not_not_intro h), if_neg h8, if_neg h6, if_neg h7]; simp only [hr]
theorem inv8 {s : StS} {N M : Int} (h : Inv s N M) (hN : N < 1000000) (v : Int) : Inv (stateStep s 8 v) N M ∨ (s.cl = true ∧ Inv (stateStep s 8 v) (N + 1) M) := by
  have hlen := h.len
  rw [st8 hlen]
  obtain ⟨hri, hcy, h0, h1, h2, hph⟩ := h
  cases hph with
  | before st ep cy fa hp hl hst hep hc =>
    have ha : saS s = siteA N := by unfold saS; rw [hl]; rfl
    have hb : sbS s = siteB M := by unfold sbS; rw [hl]; rfl
    rw [ha, hb, hcy, applyA (by omega)]
    cases hcl : s.cl
    · left
      rw [if_neg (by simp)]
      exact ⟨hri, hcy, h0, h1, h2, .before st ep cy fa hp hl hst hep hc⟩
    · right
      refine ⟨rfl, ?_⟩
      rw [if_pos (by simp [siteA])]
      exact ⟨by simp [hri], rfl, h0, by omega, by omega, .before st ep cy fa hp rfl hst hep (by omega)⟩
  | demoted ep hp hl hep hM ho =>
    left
    have ha : saS s = siteD N ep := by unfold saS; rw [hl]; rfl
    rw [if_neg (by rw [ha]; simp [siteD])]
    exact ⟨hri, hcy, h0, h1, h2, .demoted ep hp hl hep hM ho⟩
  | done ep hp hl hep hM ho =>
    left
    have ha : saS s = siteD N ep := by unfold saS; rw [hl]; rfl
    rw [if_neg (by rw [ha]; simp [siteD])]
    exact ⟨hri, hcy, h0, h1, h2, .done ep hp hl hep hM ho⟩
/-- the secondary applies a cycle: M grows by one where it lacks one -/
theorem inv6 {s : StS} {N M : Int} (h : Inv s N M) (v : Int) : Inv (stateStep s 6 v) N (if M < N then M + 1 else M) := by
  have hlen := h.len
  rw [st6 hlen]
  obtain ⟨hri, hcy, h0, h1, h2, hph⟩ := h
  cases hph with
  | before st ep cy fa hp hl hst hep hc =>
    have ha : saS s = siteA N := by unfold saS; rw [hl]; rfl
    have hb : sbS s = siteB M := by unfold sbS; rw [hl]; rfl
    rw [ha, hb, hcy]
    by_cases hlt : M < N
    · have hap : (siteB M).ap = M := rfl
      rw [hap, applyB (by omega), if_pos (by simp [siteA, siteB, hlt]), if_pos hlt]
      exact ⟨by simp [hri], rfl, by omega, by omega, h2, .before st ep cy fa hp rfl hst hep hc⟩
    · rw [if_neg (by simp [siteB, hlt]), if_neg hlt]
      exact ⟨hri, hcy, h0, h1, h2, .before st ep cy fa hp hl hst hep hc⟩
  | demoted ep hp hl hep hM ho =>
    subst hM
    have ha : saS s = siteD M ep := by unfold saS; rw [hl]; rfl
    rw [if_neg (by rw [ha]; simp [siteD]), if_neg (by omega)]
    exact ⟨hri, hcy, h0, h1, h2, .demoted ep hp hl hep rfl ho⟩
  | done ep hp hl hep hM ho =>
    subst hM
    have ha : saS s = siteD M ep := by unfold saS; rw [hl]; rfl
    rw [if_neg (by rw [ha]; simp [siteD]), if_neg (by omega)]
    exact ⟨hri, hcy, h0, h1, h2, .done ep hp hl hep rfl ho⟩
theorem inv7 {s : StS} {N M : Int} (h : Inv s N M) (v : Int) : Inv (stateStep s 7 v) N M := by
  have hlen := h.len
  rw [st7 hlen]
  obtain ⟨hri, hcy, h0, h1, h2, hph⟩ := h
  cases hph with
  | before st ep cy fa hp hl hst hep hc =>
    have hck : checkP s.p = 0 := by rw [hp]; exact proc_ok (by omega) (by split at hep <;> omega) (by omega) (by symm; simp; omega) (fun _ => hst.2)
    have hal : (checkAllS s.l).2 = 0 := by rw [hl]; exact allPair (by omega) (by omega)
    cases fa
    · have hab : abortS s.p s.l = (⟨1, 0, 1, st, ep, cy, false, true⟩, s.l, 0) := by rw [abort_two hck hal, hp]; simp [hst.2]
      rw [hab, if_pos rfl]
      exact ⟨hri, hcy, h0, h1, h2, .before st ep cy true rfl hl hst hep hc⟩
    · have hab : abortS s.p s.l = (zP, [], 12) := by rw [abort_two hck hal, hp]; simp
      rw [hab, if_neg (by simp)]
      exact ⟨hri, hcy, h0, h1, h2, .before st ep cy true hp hl hst hep hc⟩
  | demoted ep hp hl hep hM ho =>
    have hck : checkP s.p = 0 := by rw [hp]; exact proc_ok (by omega) (by omega) (by omega) rfl (fun h => by cases h)
    have hal : (checkAllS s.l).2 = 0 := by rw [hl]; exact allDB (by omega) (by omega) (by omega)
    have hab : abortS s.p s.l = (zP, [], 12) := by rw [abort_two hck hal, hp]; simp
    rw [hab, if_neg (by simp)]
    exact ⟨hri, hcy, h0, h1, h2, .demoted ep hp hl hep hM ho⟩
  | done ep hp hl hep hM ho =>
    have hck : checkP s.p = 0 := by rw [hp]; exact proc_ok (by omega) (by omega) (by omega) rfl (fun h => by cases h)
    have hal : (checkAllS s.l).2 = 0 := by rw [hl]; exact allDP (by omega) (by omega)
    have hab : abortS s.p s.l = (zP, [], 12) := by rw [abort_two hck hal, hp]; simp
    rw [hab, if_neg (by simp)]
    exact ⟨hri, hcy, h0, h1, h2, .done ep hp hl hep hM ho⟩
/-- a step of the procedure is reported -/
theorem invD {s : StS} {N M : Int} (h : Inv s N M) (k v : Int) (h8 : k ≠ 8) (h6 : k ≠ 6) (h7 : k ≠ 7) : Inv (stateStep s k v) N M := by
  have hlen := h.len
  obtain ⟨vv, hvv⟩ : ∃ x, (if k = 5 then v else valueS s) = x := ⟨_, rfl⟩
  obtain ⟨b, hb⟩ : ∃ x, (k != 4) = x := ⟨_, rfl⟩
  rw [stD hlen h8 h6 h7 _ rfl, hvv, hb]
  obtain ⟨hri, hcy, h0, h1, h2, hph⟩ := h
  cases hph with
  | before st ep cy fa hp hl hst hep hc =>
    have hst3 : (if s.p.st = 3 then { s with old := s.l } else s).ri = true ∧ (if s.p.st = 3 then { s with old := s.l } else s).cy = N ∧ (if s.p.st = 3 then { s with old := s.l } else s).p = s.p ∧ (if s.p.st = 3 then { s with old := s.l } else s).l = s.l ∧ (st = 3 → (if s.p.st = 3 then { s with old := s.l } else s).old = s.l) := by
      by_cases h3 : s.p.st = 3
      · rw [if_pos h3]; exact ⟨hri, hcy, rfl, rfl, fun _ => rfl⟩
      · rw [if_neg h3]; exact ⟨hri, hcy, rfl, rfl, fun e => absurd (by rw [hp]; exact e) h3⟩
    generalize (if s.p.st = 3 then { s with old := s.l } else s) = s1 at hst3 ⊢
    obtain ⟨g1, g2, g3, g4, g5⟩ := hst3
    have hck : checkP s.p = 0 := by rw [hp]; exact proc_ok (by omega) (by split at hep <;> omega) (by omega) (by symm; simp; omega) (fun _ => hst.2)
    have hal : (checkAllS s.l).2 = 0 := by rw [hl]; exact allPair (by omega) (by omega)
    have hs := step_two (x := siteA N) (y := siteB M) (ok := b) (v := vv) hck (by rw [hp]) (by rw [hp]) (by rw [hl] at hal; exact hal) rfl rfl
    rw [← pairS_eq, ← hl] at hs
    have same : Inv s1 N M := ⟨g1, g2, h0, h1, h2, .before st ep cy fa (g3.trans hp) (g4.trans hl) hst hep hc⟩
    have hdn : s.p.dn = false := by rw [hp]
    have hfa : s.p.fa = fa := by rw [hp]
    rw [hdn, hfa, if_neg (by simp)] at hs
    cases fa
    case true => rw [if_pos rfl] at hs; rw [hs, if_neg (by simp)]; exact same
    rw [if_neg (by simp)] at hs
    cases b
    case false =>
      rw [if_pos rfl] at hs
      rw [hs, if_pos rfl]
      refine ⟨g1, g2, h0, h1, h2, .before st ep cy true ?_ hl hst hep hc⟩
      simp [hp, hst.2]
    rw [if_neg (by simp)] at hs
    by_cases he : sucE s.p (siteA N) (siteB M) vv = 0
    case neg => rw [if_pos he] at hs; rw [hs, if_neg he]; exact same
    rw [if_neg (not_not_intro he)] at hs
    rw [hs, if_pos rfl]
    have hcase : st = 0 ∨ st = 1 ∨ st = 2 ∨ st = 3 := by omega
    rcases hcase with rfl | rfl | rfl | rfl
    · have hE : sucE s.p (siteA N) (siteB M) vv = quE (siteA N) vv := by rw [hp]; rfl
      rw [hE] at he
      have hv : vv = N := by
        unfold quE at he
        rw [if_neg (by simp [siteA])] at he
        by_cases hx : (vv == (siteA N).ap) = false
        · rw [if_pos hx] at he; exact absurd he (by decide)
        · simpa [siteA] using hx
      have hL : sucL s.p s.l 0 1 = s.l := by rw [hp]; rfl
      have hP : sucP s.p vv = ⟨1, 0, 1, 1, ep, N, false, false⟩ := by rw [hp, hv]; rfl
      refine ⟨g1, g2, h0, h1, h2, .before 1 ep N false hP (hL.trans hl) (by omega) (by simpa using hep) (by omega)⟩
    · have hL : sucL s.p s.l 0 1 = s.l := by rw [hp]; rfl
      have hP : sucP s.p vv = if decide (vv < cy) = true then ⟨1, 0, 1, 1, ep, cy, false, false⟩ else ⟨1, 0, 1, 2, ep, cy, false, false⟩ := by rw [hp]; rfl
      by_cases hlt : decide (vv < cy) = true
      · rw [if_pos hlt] at hP
        exact ⟨g1, g2, h0, h1, h2, .before 1 ep cy false hP (hL.trans hl) (by omega) (by simpa using hep) hc⟩
      · rw [if_neg hlt] at hP
        exact ⟨g1, g2, h0, h1, h2, .before 2 ep cy false hP (hL.trans hl) (by omega) (by simpa using hep) hc⟩
    · have hE : sucE s.p (siteA N) (siteB M) vv = grE (siteA N) (siteB M) vv := by rw [hp]; rfl
      rw [hE] at he
      have hL : sucL s.p s.l 0 1 = s.l := by rw [hp]; rfl
      have hP : sucP s.p vv = ⟨1, 0, 1, 3, vv, cy, false, false⟩ := by rw [hp]; rfl
      have hv : 1 < vv ∧ vv ≤ 1073741824 := by
        unfold grE at he
        by_cases h1 : decide (vv ≤ 1073741824) = false
        · rw [if_pos h1] at he; exact absurd he (by decide)
        rw [if_neg h1] at he
        by_cases h2 : decide ((siteA N).ep < vv) = false
        · rw [if_pos h2] at he; exact absurd he (by decide)
        exact ⟨of_decide_eq_true (p := (siteA N).ep < vv) (by revert h2; cases decide ((siteA N).ep < vv) <;> simp), by simpa using h1⟩
      exact ⟨g1, g2, h0, h1, h2, .before 3 vv cy false hP (hL.trans hl) (by omega) (by simpa using hv) hc⟩
    · have hE : sucE s.p (siteA N) (siteB M) vv = deE s.p (siteA N) (siteB M) := by rw [hp]; rfl
      rw [hE] at he
      have hep' : 1 < ep ∧ ep ≤ 1073741824 := by simpa using hep
      have hv : N = cy ∧ M = cy := by
        unfold deE at he
        by_cases h1 : ((siteA N).ap == s.p.cy) = false
        · rw [if_pos h1] at he; exact absurd he (by decide)
        rw [if_neg h1] at he
        by_cases h2 : ((siteB M).ap == s.p.cy) = false
        · rw [if_pos h2] at he; exact absurd he (by decide)
        simp [siteA, siteB, hp] at h1 h2
        exact ⟨h1, h2⟩
      obtain ⟨rfl, rfl⟩ := hv
      have hL : sucL s.p s.l 0 1 = [siteD M ep, siteB M] := by
        rw [hp, hl]
        show ([siteA M, siteB M] : List Site).set 0 (demoteS (siteA M) ep 1).1 = _
        rw [demoteA (by omega) (by omega)]; rfl
      have hP : sucP s.p vv = ⟨1, 0, 1, 4, ep, M, false, false⟩ := by rw [hp]; rfl
      exact ⟨g1, g2, h0, h1, h2, .demoted ep hP hL hep' rfl ((g5 rfl).trans hl)⟩
  | demoted ep hp hl hep hM ho =>
    have hst3 : (if s.p.st = 3 then { s with old := s.l } else s) = s := if_neg (by rw [hp]; simp)
    rw [hst3]
    have hck : checkP s.p = 0 := by rw [hp]; exact proc_ok (by omega) (by omega) (by omega) rfl (fun h => by cases h)
    have hal : (checkAllS [siteD N ep, siteB N]).2 = 0 := allDB (by omega) (by omega) (by omega)
    have hs := step_two (x := siteD N ep) (y := siteB N) (ok := b) (v := vv) hck (by rw [hp]) (by rw [hp]) hal rfl rfl
    rw [← hl] at hs
    have hdn : s.p.dn = false := by rw [hp]
    have hfa : s.p.fa = false := by rw [hp]
    rw [hdn, hfa, if_neg (by simp), if_neg (by simp)] at hs
    cases b
    case false =>
      rw [if_pos rfl] at hs
      rw [hs, if_pos rfl]
      exact ⟨hri, hcy, h0, h1, h2, .demoted ep (by simp [hp]) hl hep hM ho⟩
    rw [if_neg (by simp)] at hs
    have hE : sucE s.p (siteD N ep) (siteB N) vv = 0 := by
      rw [hp]
      show prE _ _ = 0
      unfold prE
      rw [if_neg (by simp [siteB]), promoteB (by omega) hep]
    rw [if_neg (not_not_intro hE)] at hs
    rw [hs, if_pos rfl]
    have hL : sucL s.p s.l 0 1 = [siteD N ep, siteP N ep] := by
      rw [hp, hl]
      show ([siteD N ep, siteB N] : List Site).set 1 (promoteS (siteB N) ep).1 = _
      rw [promoteB (by omega) hep]; rfl
    have hP : sucP s.p vv = ⟨1, 0, 1, 5, ep, N, true, false⟩ := by rw [hp]; rfl
    exact ⟨hri, hcy, h0, h1, h2, .done ep hP hL hep hM ho⟩
  | done ep hp hl hep hM ho =>
    have hst3 : (if s.p.st = 3 then { s with old := s.l } else s) = s := if_neg (by rw [hp]; simp)
    rw [hst3]
    have hck : checkP s.p = 0 := by rw [hp]; exact proc_ok (by omega) (by omega) (by omega) rfl (fun h => by cases h)
    have hal : (checkAllS [siteD N ep, siteP N ep]).2 = 0 := allDP (by omega) (by omega)
    have hs := step_two (x := siteD N ep) (y := siteP N ep) (ok := b) (v := vv) hck (by rw [hp]) (by rw [hp]) hal rfl rfl
    rw [← hl] at hs
    rw [if_pos (by rw [hp])] at hs
    rw [hs, if_neg (by simp)]
    exact ⟨hri, hcy, h0, h1, h2, .done ep hp hl hep hM ho⟩
end
section
open Go.RowKit
set_option linter.unusedSimpArgs false
set_option linter.unusedVariables false
set_option maxRecDepth 100000
theorem liS_len (n : Int) : (liS n).length ≤ 1 := by unfold liS; split <;> simp
theorem Inv.lens {s : StS} {N M : Int} (h : Inv s N M) : (saS s).li.length ≤ 1000000 ∧ (sbS s).li.length ≤ 1000000 ∧ 0 ≤ (sbS s).ap := by
  obtain ⟨-, -, h0, h1, -, h⟩ := h
  have hN := liS_len N
  have hM := liS_len M
  cases h with
  | before st ep cy fa hp hl => unfold saS sbS; rw [hl]; exact ⟨by show (liS N).length ≤ _; omega, by show (liS M).length ≤ _; omega, h0⟩
  | demoted ep hp hl => unfold saS sbS; rw [hl]; exact ⟨by show (liS N).length ≤ _; omega, by show (liS N).length ≤ _; omega, by show 0 ≤ N; omega⟩
  | done ep hp hl => unfold saS sbS; rw [hl]; exact ⟨by show (liS N).length ≤ _; omega, by show (liS N).length ≤ _; omega, by show 0 ≤ N; omega⟩
theorem law_step (w : World) (s : StS) (N M : Int) (h : Inv s N M) (A A2 : Option Addr) (c c2 : Nat) (k0 v : Int) (hl : TSites w A c s.l) (ho : TSites w A2 c2 s.old) :
    Calls Try.prog 29 #[.agg #[.int .i64 s.p.ki, .int .i64 s.p.fr, .int .i64 s.p.to_, .int .i64 s.p.st, .int .i64 s.p.ep, .int .i64 s.p.cy, .bool s.p.dn, .bool s.p.fa, .slice A s.l.length c, .int .i64 s.cy, .slice A2 s.old.length c2, .bool s.cl, .bool s.ri], .agg #[.int .u8 k0, .int .i64 v]] w (SStep w (stateStep s (k0.tmod 9) v)) := by
  have hlen := h.len
  obtain ⟨h1, h2, h3⟩ := h.lens
  have hcy : 0 ≤ s.cy ∧ s.cy ≤ 1000000 := by obtain ⟨_, a, b, c, d, _⟩ := h; omega
  by_cases h8 : k0.tmod 9 = 8
  · rw [h8]; exact law_step8 w s A A2 c c2 k0 v h8 hlen hcy h1 h.1 hl ho
  by_cases h6 : k0.tmod 9 = 6
  · rw [h6]; exact law_step6 w s A A2 c c2 k0 v h6 hlen hcy h3 h2 h.1 hl ho
  by_cases h7 : k0.tmod 9 = 7
  · rw [h7]; exact law_step7 w s A A2 c c2 k0 v h7 hlen hl ho
  exact law_stepD w s A A2 c c2 k0 _ v rfl (by simpa using h8) (by simpa using h6) (by simpa using h7) hlen hl ho
theorem inv_any {s : StS} {N M : Int} (h : Inv s N M) (hN : N < 1000000) (k v : Int) : ∃ N' M', Inv (stateStep s k v) N' M' ∧ N ≤ N' ∧ N' ≤ N + 1 := by
  by_cases h8 : k = 8
  · subst h8
    rcases inv8 h hN v with h | ⟨-, h⟩
    · exact ⟨N, M, h, by omega, by omega⟩
    · exact ⟨N + 1, M, h, by omega, by omega⟩
  by_cases h6 : k = 6
  · subst h6; exact ⟨N, _, inv6 h v, by omega, by omega⟩
  by_cases h7 : k = 7
  · subst h7; exact ⟨N, M, inv7 h v, by omega, by omega⟩
  exact ⟨N, M, invD h k v h8 h6 h7, by omega, by omega⟩
def runE (s : StS) : List (Int × Int) → StS
  | [] => s
  | e :: r => runE (stateStep s (e.1.tmod 9) e.2) r
theorem runE_snoc (s : StS) (l : List (Int × Int)) (e : Int × Int) : runE s (l ++ [e]) = stateStep (runE s l) (e.1.tmod 9) e.2 := by
  induction l generalizing s with
  | nil => rfl
  | cons x r ih => exact ih _
def startS (n m : Int) (cl : Bool) : StS := ⟨⟨1, 0, 1, 0, 0, n, false, false⟩, pairS n m, n, [], cl, true⟩
theorem begin_pair {n m : Int} (hm : 0 ≤ m ∧ m ≤ n) (hn : n ≤ 1000000) : beginS (pairS n m) 0 1 = (⟨1, 0, 1, 0, 0, n, false, false⟩, 0) := by
  have ha : (checkAllS (pairS n m)).2 = 0 := allPair (by omega) (by omega)
  have h1 : findS (pairS n m) 0 = (0 : Nat) := find0 (siteA n) (siteB m) rfl
  have h2 : findS (pairS n m) 1 = (1 : Nat) := find1 (siteA n) (siteB m) rfl rfl
  rw [begin_3 ha h1 h2]
  rfl
theorem inv_start {n m : Int} (cl : Bool) (hm : 0 ≤ m ∧ m ≤ n) (hn : n ≤ 1000000) : Inv (startS n m cl) n m :=
  ⟨rfl, rfl, hm.1, hm.2, hn, .before 0 0 n false rfl rfl (by omega) (by simp) (by omega)⟩
theorem inv_run {n m : Int} (cl : Bool) (hm : 0 ≤ m ∧ m ≤ n) (l : List (Int × Int)) (hn : n + l.length ≤ 1000000) : ∃ N M, Inv (runE (startS n m cl) l) N M ∧ n ≤ N ∧ N ≤ n + l.length := by
  have key : ∀ (l : List (Int × Int)) (s : StS) (N M : Int), Inv s N M → N + l.length ≤ 1000000 → ∃ N' M', Inv (runE s l) N' M' ∧ N ≤ N' ∧ N' ≤ N + l.length := by
    intro l
    induction l with
    | nil => intro s N M h _; exact ⟨N, M, h, by omega, by simp⟩
    | cons e r ih =>
      intro s N M h hN
      simp only [List.length_cons] at hN ⊢
      obtain ⟨N1, M1, h1, a, b⟩ := inv_any h (by omega) (e.1.tmod 9) e.2
      obtain ⟨N2, M2, h2, c, d⟩ := ih _ N1 M1 h1 (by omega)
      exact ⟨N2, M2, h2, by omega, by omega⟩
  exact key l _ n m (inv_start cl hm (by omega)) hn
def EventsAt (w : World) (A : Option Addr) (c : Nat) (l : List (Int × Int)) : Prop := l.length ≤ c ∧ l.length ≤ 1000000000 ∧ (0 < l.length → ∃ b o, A = some ⟨b, o, none⟩ ∧ ∀ i, i < l.length → w.cell? ⟨b, o + i * 2, none⟩ = some (.int .u8 (l.getD i (0, 0)).1) ∧ w.cell? ⟨b, o + i * 2 + 1, none⟩ = some (.int .i64 (l.getD i (0, 0)).2))
theorem EventsAt.at_ {w w' : World} {A : Option Addr} {c : Nat} {l : List (Int × Int)} (h : EventsAt w A c l) (hB : Below w.heap.size w w') (i : Nat) (hi : i < l.length) : ∃ b o, A = some ⟨b, o, none⟩ ∧ b < w'.heap.size ∧ w'.cell? ⟨b, o + i * 2, none⟩ = some (.int .u8 (l.getD i (0, 0)).1) ∧ w'.cell? ⟨b, o + i * 2 + 1, none⟩ = some (.int .i64 (l.getD i (0, 0)).2) := by
  obtain ⟨b, o, e, hc⟩ := h.2.2 (by omega)
  obtain ⟨h1, h2⟩ := hc i hi
  have hlt : b < w.heap.size := World.block_lt_of_cell? _ _ h1
  exact ⟨b, o, e, Nat.lt_of_lt_of_le hlt hB.size, (hB.cell (p := ⟨b, _, none⟩) hlt).trans h1, (hB.cell (p := ⟨b, _, none⟩) hlt).trans h2⟩
theorem run_begin (w : World) (A : Option Addr) (c : Nat) (n m : Int) (hb : beginS (pairS n m) 0 1 = (⟨1, 0, 1, 0, 0, n, false, false⟩, 0)) (h : TSites w A c (pairS n m)) : Calls Try.prog 13 #[.slice A 2 c, .int .i64 0, .int .i64 1] w fun en w' => en = .returned (.tuple #[.agg #[.int .i64 (Proc.mk 1 0 1 0 0 n false false).ki, .int .i64 (Proc.mk 1 0 1 0 0 n false false).fr, .int .i64 (Proc.mk 1 0 1 0 0 n false false).to_, .int .i64 (Proc.mk 1 0 1 0 0 n false false).st, .int .i64 (Proc.mk 1 0 1 0 0 n false false).ep, .int .i64 (Proc.mk 1 0 1 0 0 n false false).cy, .bool (Proc.mk 1 0 1 0 0 n false false).dn, .bool (Proc.mk 1 0 1 0 0 n false false).fa], .int .i64 0]) ∧ Below w.heap.size w w' :=
  (sw_Begin w A c _ _ 0 1 h.few (h.reads _)).mono (by rintro en w' h; unfold BegRes at h; rw [hb] at h; exact h)
theorem run_store {w W : World} {gp g : Nat} {ps : List Value} (hp : Held w gp ps 26 W) (hr : Held w w.heap.size [.int .i64 0, .int .i64 0, .int .i64 0, .int .i64 0, .int .i64 0, .int .i64 0, .bool false, .bool false, .slice none 0 0, .int .i64 0, .slice none 0 0, .bool false, .bool false] 51 W) (K : Held w g [.int .i64 0, .int .i64 0, .int .i64 0, .int .i64 0, .int .i64 0, .int .i64 0, .bool false, .bool false, .slice none 0 0, .int .i64 0, .slice none 0 0, .bool false, .bool false] 51 W) (h1 : gp < g) (h2 : w.heap.size < g) (s : StS) (A A2 : Option Addr) (c c2 : Nat) (hl : TSites W A c s.l) :
    Held w gp ps 26 (((((((((((((W.setCell ⟨g, 0, none⟩ (.int .i64 s.p.ki)).setCell ⟨g, 1, none⟩ (.int .i64 s.p.fr)).setCell ⟨g, 2, none⟩ (.int .i64 s.p.to_)).setCell ⟨g, 3, none⟩ (.int .i64 s.p.st)).setCell ⟨g, 4, none⟩ (.int .i64 s.p.ep)).setCell ⟨g, 5, none⟩ (.int .i64 s.p.cy)).setCell ⟨g, 6, none⟩ (.bool s.p.dn)).setCell ⟨g, 7, none⟩ (.bool s.p.fa)).setCell ⟨g, 8, none⟩ (.slice A s.l.length c)).setCell ⟨g, 9, none⟩ (.int .i64 s.cy)).setCell ⟨g, 10, none⟩ (.slice A2 s.old.length c2)).setCell ⟨g, 11, none⟩ (.bool s.cl)).setCell ⟨g, 12, none⟩ (.bool s.ri)) ∧ Held w w.heap.size [.int .i64 0, .int .i64 0, .int .i64 0, .int .i64 0, .int .i64 0, .int .i64 0, .bool false, .bool false, .slice none 0 0, .int .i64 0, .slice none 0 0, .bool false, .bool false] 51 (((((((((((((W.setCell ⟨g, 0, none⟩ (.int .i64 s.p.ki)).setCell ⟨g, 1, none⟩ (.int .i64 s.p.fr)).setCell ⟨g, 2, none⟩ (.int .i64 s.p.to_)).setCell ⟨g, 3, none⟩ (.int .i64 s.p.st)).setCell ⟨g, 4, none⟩ (.int .i64 s.p.ep)).setCell ⟨g, 5, none⟩ (.int .i64 s.p.cy)).setCell ⟨g, 6, none⟩ (.bool s.p.dn)).setCell ⟨g, 7, none⟩ (.bool s.p.fa)).setCell ⟨g, 8, none⟩ (.slice A s.l.length c)).setCell ⟨g, 9, none⟩ (.int .i64 s.cy)).setCell ⟨g, 10, none⟩ (.slice A2 s.old.length c2)).setCell ⟨g, 11, none⟩ (.bool s.cl)).setCell ⟨g, 12, none⟩ (.bool s.ri)) ∧ Held w g [.int .i64 s.p.ki, .int .i64 s.p.fr, .int .i64 s.p.to_, .int .i64 s.p.st, .int .i64 s.p.ep, .int .i64 s.p.cy, .bool s.p.dn, .bool s.p.fa, .slice A s.l.length c, .int .i64 s.cy, .slice A2 s.old.length c2, .bool s.cl, .bool s.ri] 51 (((((((((((((W.setCell ⟨g, 0, none⟩ (.int .i64 s.p.ki)).setCell ⟨g, 1, none⟩ (.int .i64 s.p.fr)).setCell ⟨g, 2, none⟩ (.int .i64 s.p.to_)).setCell ⟨g, 3, none⟩ (.int .i64 s.p.st)).setCell ⟨g, 4, none⟩ (.int .i64 s.p.ep)).setCell ⟨g, 5, none⟩ (.int .i64 s.p.cy)).setCell ⟨g, 6, none⟩ (.bool s.p.dn)).setCell ⟨g, 7, none⟩ (.bool s.p.fa)).setCell ⟨g, 8, none⟩ (.slice A s.l.length c)).setCell ⟨g, 9, none⟩ (.int .i64 s.cy)).setCell ⟨g, 10, none⟩ (.slice A2 s.old.length c2)).setCell ⟨g, 11, none⟩ (.bool s.cl)).setCell ⟨g, 12, none⟩ (.bool s.ri)) ∧ TSites (((((((((((((W.setCell ⟨g, 0, none⟩ (.int .i64 s.p.ki)).setCell ⟨g, 1, none⟩ (.int .i64 s.p.fr)).setCell ⟨g, 2, none⟩ (.int .i64 s.p.to_)).setCell ⟨g, 3, none⟩ (.int .i64 s.p.st)).setCell ⟨g, 4, none⟩ (.int .i64 s.p.ep)).setCell ⟨g, 5, none⟩ (.int .i64 s.p.cy)).setCell ⟨g, 6, none⟩ (.bool s.p.dn)).setCell ⟨g, 7, none⟩ (.bool s.p.fa)).setCell ⟨g, 8, none⟩ (.slice A s.l.length c)).setCell ⟨g, 9, none⟩ (.int .i64 s.cy)).setCell ⟨g, 10, none⟩ (.slice A2 s.old.length c2)).setCell ⟨g, 11, none⟩ (.bool s.cl)).setCell ⟨g, 12, none⟩ (.bool s.ri)) A c s.l := by
  have G : W.grownBy (((((((((((((W.setCell ⟨g, 0, none⟩ (.int .i64 s.p.ki)).setCell ⟨g, 1, none⟩ (.int .i64 s.p.fr)).setCell ⟨g, 2, none⟩ (.int .i64 s.p.to_)).setCell ⟨g, 3, none⟩ (.int .i64 s.p.st)).setCell ⟨g, 4, none⟩ (.int .i64 s.p.ep)).setCell ⟨g, 5, none⟩ (.int .i64 s.p.cy)).setCell ⟨g, 6, none⟩ (.bool s.p.dn)).setCell ⟨g, 7, none⟩ (.bool s.p.fa)).setCell ⟨g, 8, none⟩ (.slice A s.l.length c)).setCell ⟨g, 9, none⟩ (.int .i64 s.cy)).setCell ⟨g, 10, none⟩ (.slice A2 s.old.length c2)).setCell ⟨g, 11, none⟩ (.bool s.cl)).setCell ⟨g, 12, none⟩ (.bool s.ri)) (some g) := (grown_tr (grown_tr (grown_tr (grown_tr (grown_tr (grown_tr (grown_tr (grown_tr (grown_tr (grown_tr (grown_tr (grown_tr (grown_set _ g 0 _) (grown_set _ g 1 _)) (grown_set _ g 2 _)) (grown_set _ g 3 _)) (grown_set _ g 4 _)) (grown_set _ g 5 _)) (grown_set _ g 6 _)) (grown_set _ g 7 _)) (grown_set _ g 8 _)) (grown_set _ g 9 _)) (grown_set _ g 10 _)) (grown_set _ g 11 _)) (grown_set _ g 12 _))
  have KZ : Held w g [.int .i64 s.p.ki, .int .i64 s.p.fr, .int .i64 s.p.to_, .int .i64 s.p.st, .int .i64 s.p.ep, .int .i64 s.p.cy, .bool s.p.dn, .bool s.p.fa, .slice A s.l.length c, .int .i64 s.cy, .slice A2 s.old.length c2, .bool s.cl, .bool s.ri] 51 (((((((((((((W.setCell ⟨g, 0, none⟩ (.int .i64 s.p.ki)).setCell ⟨g, 1, none⟩ (.int .i64 s.p.fr)).setCell ⟨g, 2, none⟩ (.int .i64 s.p.to_)).setCell ⟨g, 3, none⟩ (.int .i64 s.p.st)).setCell ⟨g, 4, none⟩ (.int .i64 s.p.ep)).setCell ⟨g, 5, none⟩ (.int .i64 s.p.cy)).setCell ⟨g, 6, none⟩ (.bool s.p.dn)).setCell ⟨g, 7, none⟩ (.bool s.p.fa)).setCell ⟨g, 8, none⟩ (.slice A s.l.length c)).setCell ⟨g, 9, none⟩ (.int .i64 s.cy)).setCell ⟨g, 10, none⟩ (.slice A2 s.old.length c2)).setCell ⟨g, 11, none⟩ (.bool s.cl)).setCell ⟨g, 12, none⟩ (.bool s.ri)) := (((((((((((((K.set 0 (.int .i64 s.p.ki)).set 1 (.int .i64 s.p.fr)).set 2 (.int .i64 s.p.to_)).set 3 (.int .i64 s.p.st)).set 4 (.int .i64 s.p.ep)).set 5 (.int .i64 s.p.cy)).set 6 (.bool s.p.dn)).set 7 (.bool s.p.fa)).set 8 (.slice A s.l.length c)).set 9 (.int .i64 s.cy)).set 10 (.slice A2 s.old.length c2)).set 11 (.bool s.cl)).set 12 (.bool s.ri))
  generalize (((((((((((((W.setCell ⟨g, 0, none⟩ (.int .i64 s.p.ki)).setCell ⟨g, 1, none⟩ (.int .i64 s.p.fr)).setCell ⟨g, 2, none⟩ (.int .i64 s.p.to_)).setCell ⟨g, 3, none⟩ (.int .i64 s.p.st)).setCell ⟨g, 4, none⟩ (.int .i64 s.p.ep)).setCell ⟨g, 5, none⟩ (.int .i64 s.p.cy)).setCell ⟨g, 6, none⟩ (.bool s.p.dn)).setCell ⟨g, 7, none⟩ (.bool s.p.fa)).setCell ⟨g, 8, none⟩ (.slice A s.l.length c)).setCell ⟨g, 9, none⟩ (.int .i64 s.cy)).setCell ⟨g, 10, none⟩ (.slice A2 s.old.length c2)).setCell ⟨g, 11, none⟩ (.bool s.cl)).setCell ⟨g, 12, none⟩ (.bool s.ri)) = W9 at G KZ ⊢
  exact ⟨hp.grown (by omega) K.ge G, hr.grown (by omega) K.ge G, KZ, hl.other K (by decide) G⟩
attribute [local irreducible] wpStill
set_option maxHeartbeats 4000000 in
theorem law_run (w : World) (cy ap : Int) (A : Option Addr) (c : Nat) (l : List (Int × Int)) (cl : Bool) (n m : Int) (hcy : 0 ≤ cy ∧ cy ≤ 255) (hap : 0 ≤ ap ∧ ap ≤ 255) (hn : cy.tmod 6 = n) (hm : ap.tmod (n + 1) = m) (hl : l.length ≤ 1000) (h : EventsAt w A c l) :
    Calls Try.prog 24 #[.int .u8 cy, .int .u8 ap, .slice A l.length c, .bool cl] w (SStep w (runE (startS n m cl) l)) := by
  have hnb : 0 ≤ n ∧ n ≤ 5 := by subst hn; have := Int.tmod_lt_of_pos cy (show (0 : Int) < 6 by omega); have := Int.tmod_nonneg (6 : Int) hcy.1; omega
  have hmb : 0 ≤ m ∧ m ≤ n := by subst hm; have := Int.tmod_lt_of_pos ap (show 0 < n + 1 by omega); have := Int.tmod_nonneg (n + 1) hap.1; omega
  have HC := Keep.mk h
  have HBP := Keep.mk (begin_pair hmb (by omega))
  clear h
  go_enter Try.func24, Try.ntmps24
  go_upto_region 4 with (first
    | (go_at_call 28; (with_reducible refine (law_pair _ n m).mono ?_); rintro en w1 ⟨A1, c1, rfl, hT, hB⟩; have HT1 := Keep.mk hT; have HB1 := Keep.mk hB; clear hT hB)
    | (go_at_call 13; (with_reducible refine (run_begin _ A1 c1 n m HBP.out HT1.out).mono ?_); rintro en w2 ⟨rfl, hB⟩; have HB2 := Keep.mk (below_then HB1.out hB); clear hB))
  have K0 := Keep.mk ((Held.new (Below.refl w.heap.size w) [.int .i64 0, .int .i64 0, .int .i64 0, .int .i64 0, .int .i64 0, .int .i64 0, .bool false, .bool false, .slice none 0 0, .int .i64 0, .slice none 0 0, .bool false, .bool false] 51).step HB2.out)
  have KP := Keep.mk (Held.new K0.out.bel [.int .i64 (Proc.mk 1 0 1 0 0 n false false).ki, .int .i64 (Proc.mk 1 0 1 0 0 n false false).fr, .int .i64 (Proc.mk 1 0 1 0 0 n false false).to_, .int .i64 (Proc.mk 1 0 1 0 0 n false false).st, .int .i64 (Proc.mk 1 0 1 0 0 n false false).ep, .int .i64 (Proc.mk 1 0 1 0 0 n false false).cy, .bool (Proc.mk 1 0 1 0 0 n false false).dn, .bool (Proc.mk 1 0 1 0 0 n false false).fa] 26)
  have K1 := Keep.mk (K0.out.alloc (.cells #[.int .i64 (Proc.mk 1 0 1 0 0 n false false).ki, .int .i64 (Proc.mk 1 0 1 0 0 n false false).fr, .int .i64 (Proc.mk 1 0 1 0 0 n false false).to_, .int .i64 (Proc.mk 1 0 1 0 0 n false false).st, .int .i64 (Proc.mk 1 0 1 0 0 n false false).ep, .int .i64 (Proc.mk 1 0 1 0 0 n false false).cy, .bool (Proc.mk 1 0 1 0 0 n false false).dn, .bool (Proc.mk 1 0 1 0 0 n false false).fa] 26))
  clear K0 HT1 HB1 HB2
  simp only at KP K1
  generalize w2.alloc (.cells #[.int .i64 1, .int .i64 0, .int .i64 1, .int .i64 0, .int .i64 0, .int .i64 n, .bool false, .bool false] 26) = W0 at KP K1 ⊢
  generalize w2.heap.size = gp at KP ⊢
  go_cut [13] (fun s13 wx => ∃ gs A3 c3, s13 = .pointer (some ⟨gs, 0, none⟩) ∧ Keep (Held w w.heap.size [.int .i64 0, .int .i64 0, .int .i64 0, .int .i64 0, .int .i64 0, .int .i64 0, .bool false, .bool false, .slice none 0 0, .int .i64 0, .slice none 0 0, .bool false, .bool false] 51 wx) ∧ Keep (Held w gs [.int .i64 (startS n m cl).p.ki, .int .i64 (startS n m cl).p.fr, .int .i64 (startS n m cl).p.to_, .int .i64 (startS n m cl).p.st, .int .i64 (startS n m cl).p.ep, .int .i64 (startS n m cl).p.cy, .bool (startS n m cl).p.dn, .bool (startS n m cl).p.fa, .slice A3 (startS n m cl).l.length c3, .int .i64 (startS n m cl).cy, .slice none (startS n m cl).old.length 0, .bool (startS n m cl).cl, .bool (startS n m cl).ri] 51 wx) ∧ Keep (TSites wx A3 c3 (startS n m cl).l) ∧ w.heap.size < gs)
  case first =>
    refine wp_region_held_drew (S := fun W => Held w gp [.int .i64 (Proc.mk 1 0 1 0 0 n false false).ki, .int .i64 (Proc.mk 1 0 1 0 0 n false false).fr, .int .i64 (Proc.mk 1 0 1 0 0 n false false).to_, .int .i64 (Proc.mk 1 0 1 0 0 n false false).st, .int .i64 (Proc.mk 1 0 1 0 0 n false false).ep, .int .i64 (Proc.mk 1 0 1 0 0 n false false).cy, .bool (Proc.mk 1 0 1 0 0 n false false).dn, .bool (Proc.mk 1 0 1 0 0 n false false).fa] 26 W ∧ Held w w.heap.size [.int .i64 0, .int .i64 0, .int .i64 0, .int .i64 0, .int .i64 0, .int .i64 0, .bool false, .bool false, .slice none 0 0, .int .i64 0, .slice none 0 0, .bool false, .bool false] 51 W) (by kernel_rfl) ⟨KP.out.drew, K1.out.drew⟩ (fun hHeld => ?_)
    refine takeD (i := 0) (v := .agg #[.int .i64 (Proc.mk 1 0 1 0 0 n false false).ki, .int .i64 (Proc.mk 1 0 1 0 0 n false false).fr, .int .i64 (Proc.mk 1 0 1 0 0 n false false).to_, .int .i64 (Proc.mk 1 0 1 0 0 n false false).st, .int .i64 (Proc.mk 1 0 1 0 0 n false false).ep, .int .i64 (Proc.mk 1 0 1 0 0 n false false).cy, .bool (Proc.mk 1 0 1 0 0 n false false).dn, .bool (Proc.mk 1 0 1 0 0 n false false).fa]) rfl rfl (by kernel_rfl) (by kernel_rfl) (by kernel_rfl) (fun _ _ _ h => h) (by rfl) ?_ hHeld ?_
    · intro W' hSw
      obtain ⟨⟨t0, t1, t2, t3, t4, t5, t6, t7⟩, t8⟩ := hSw.1.c8
      go_simp
    simp only [Act.put, List.setIfInBounds_toArray, List.set_cons_zero, List.set_cons_succ]
    refine takeD (i := 1) (v := .int .i64 n) rfl rfl (by kernel_rfl) (by kernel_rfl) (by kernel_rfl) (fun _ _ _ h => h) (by rfl) ?_ hHeld ?_
    · intro W' hSw
      go_simp
    simp only [Act.put, List.setIfInBounds_toArray, List.set_cons_zero, List.set_cons_succ]
    refine takeD (i := 2) (v := .int .i64 m) rfl rfl (by kernel_rfl) (by kernel_rfl) (by kernel_rfl) (fun _ _ _ h => h) (by rfl) ?_ hHeld ?_
    · intro W' hSw
      go_simp
    simp only [Act.put, List.setIfInBounds_toArray, List.set_cons_zero, List.set_cons_succ]
    refine takeD (i := 4) (v := .int .i64 n) rfl rfl (by kernel_rfl) (by kernel_rfl) (by kernel_rfl) (fun _ _ _ h => h) (by rfl) ?_ hHeld ?_
    · intro W' hSw
      go_simp
    simp only [Act.put, List.setIfInBounds_toArray, List.set_cons_zero, List.set_cons_succ]
    refine takeD (i := 5) (v := .bool cl) rfl rfl (by kernel_rfl) (by kernel_rfl) (by kernel_rfl) (fun _ _ _ h => h) (by rfl) ?_ hHeld ?_
    · intro W' hSw
      go_simp
    simp only [Act.put, List.setIfInBounds_toArray, List.set_cons_zero, List.set_cons_succ]
    refine takeD (i := 6) (v := .int .i64 0) rfl rfl (by kernel_rfl) (by kernel_rfl) (by kernel_rfl) (fun _ _ _ h => h) (by rfl) ?_ hHeld ?_
    · intro W' hSw
      go_simp
    simp only [Act.put, List.setIfInBounds_toArray, List.set_cons_zero, List.set_cons_succ]
    refine takeD (i := 7) (v := .bool true) rfl rfl (by kernel_rfl) (by kernel_rfl) (by kernel_rfl) (fun _ _ _ h => h) (by rfl) ?_ hHeld ?_
    · intro W' hSw
      go_simp
    simp only [Act.put, List.setIfInBounds_toArray, List.set_cons_zero, List.set_cons_succ]
    refine wpAnyH_all (rs := [3, 9]) (by kernel_rfl) (by simp) ?_
    intro j hj
    simp only [List.mem_cons, List.not_mem_nil, or_false] at hj
    rcases hj with rfl | rfl
    · refine opCalledX (R := fun v w' => ∃ A c, v = .slice A 2 c ∧ TSites w' A c (pairS n m) ∧ Below (W0.drew).heap.size (W0.drew) w') (f := 28) (args := #[.int .i64 n, .int .i64 m]) rfl rfl (by rfl) ?_ ((law_pair _ n m).mono ?_) ?_
      · go_simp
      · rintro en w' ⟨A, c, rfl, hT, hB⟩; exact ⟨_, rfl, A, c, rfl, hT, hB⟩
      rintro vv w5 ⟨A3, c3, rfl, hT, hB⟩
      have hHeld := And.intro (hHeld.1.step hB) (hHeld.2.step hB)
      refine ⟨hHeld, ?_⟩
      simp only [Act.put, List.setIfInBounds_toArray, List.set_cons_zero, List.set_cons_succ]
      refine takeD (i := 8) (v := .agg #[.int .i64 (startS n m cl).p.ki, .int .i64 (startS n m cl).p.fr, .int .i64 (startS n m cl).p.to_, .int .i64 (startS n m cl).p.st, .int .i64 (startS n m cl).p.ep, .int .i64 (startS n m cl).p.cy, .bool (startS n m cl).p.dn, .bool (startS n m cl).p.fa, .slice A3 (startS n m cl).l.length c3, .int .i64 (startS n m cl).cy, .slice none (startS n m cl).old.length 0, .bool (startS n m cl).cl, .bool (startS n m cl).ri]) rfl rfl (by kernel_rfl) (by kernel_rfl) (by kernel_rfl) (fun _ _ _ h => h) (by rfl) ?_ hHeld ?_
      · intro W' hSw
        (try unfold startS)
        go_simp
        all_goals (first | rfl | done)
      simp only [Act.put, List.setIfInBounds_toArray, List.set_cons_zero, List.set_cons_succ]
      refine wpAnyH_all (rs := [9]) (by kernel_rfl) (by simp) ?_
      intro j hj
      simp only [List.mem_cons, List.not_mem_nil, or_false] at hj
      subst hj
      have hlt5 := hHeld.1.lt
      have hlt6 := hHeld.2.lt
      refine opRan (v := .pointer (some ⟨(w5).heap.size, 0, none⟩)) (w' := (w5).alloc (.cells #[.int .i64 0, .int .i64 0, .int .i64 0, .int .i64 0, .int .i64 0, .int .i64 0, .bool false, .bool false, .slice none 0 0, .int .i64 0, .slice none 0 0, .bool false, .bool false] 51)) rfl rfl (by rfl) ?_ ⟨hHeld.1.alloc _, hHeld.2.alloc _⟩ ?_
      · go_simp
      have KX := Held.new hHeld.1.bel [.int .i64 0, .int .i64 0, .int .i64 0, .int .i64 0, .int .i64 0, .int .i64 0, .bool false, .bool false, .slice none 0 0, .int .i64 0, .slice none 0 0, .bool false, .bool false] 51
      have hHeld := And.intro (hHeld.1.alloc (.cells #[.int .i64 0, .int .i64 0, .int .i64 0, .int .i64 0, .int .i64 0, .int .i64 0, .bool false, .bool false, .slice none 0 0, .int .i64 0, .slice none 0 0, .bool false, .bool false] 51)) (hHeld.2.alloc (.cells #[.int .i64 0, .int .i64 0, .int .i64 0, .int .i64 0, .int .i64 0, .int .i64 0, .bool false, .bool false, .slice none 0 0, .int .i64 0, .slice none 0 0, .bool false, .bool false] 51))
      simp only [Act.put, List.setIfInBounds_toArray, List.set_cons_zero, List.set_cons_succ]
      have hBW5 := below_new (Below.refl w5.heap.size w5) (.cells #[.int .i64 0, .int .i64 0, .int .i64 0, .int .i64 0, .int .i64 0, .int .i64 0, .bool false, .bool false, .slice none 0 0, .int .i64 0, .slice none 0 0, .bool false, .bool false] 51)
      generalize (w5).alloc (.cells #[.int .i64 0, .int .i64 0, .int .i64 0, .int .i64 0, .int .i64 0, .int .i64 0, .bool false, .bool false, .slice none 0 0, .int .i64 0, .slice none 0 0, .bool false, .bool false] 51) = W6 at KX hHeld hBW5 ⊢
      generalize (w5).heap.size = gs at KX hlt5 hlt6 ⊢
      have hT := hT.step (show Below w5.heap.size w5 W6 from hBW5)
      refine wpAnyH_all (rs := [10]) (by kernel_rfl) (by simp) ?_
      intro j hj
      simp only [List.mem_cons, List.not_mem_nil, or_false] at hj
      subst hj
      have hP := run_store hHeld.1 hHeld.2 KX (by omega) (by omega) (startS n m cl) A3 none c3 0 hT
      refine opStored (w' := (((((((((((((W6.setCell ⟨gs, 0, none⟩ (.int .i64 (startS n m cl).p.ki)).setCell ⟨gs, 1, none⟩ (.int .i64 (startS n m cl).p.fr)).setCell ⟨gs, 2, none⟩ (.int .i64 (startS n m cl).p.to_)).setCell ⟨gs, 3, none⟩ (.int .i64 (startS n m cl).p.st)).setCell ⟨gs, 4, none⟩ (.int .i64 (startS n m cl).p.ep)).setCell ⟨gs, 5, none⟩ (.int .i64 (startS n m cl).p.cy)).setCell ⟨gs, 6, none⟩ (.bool (startS n m cl).p.dn)).setCell ⟨gs, 7, none⟩ (.bool (startS n m cl).p.fa)).setCell ⟨gs, 8, none⟩ (.slice A3 (startS n m cl).l.length c3)).setCell ⟨gs, 9, none⟩ (.int .i64 (startS n m cl).cy)).setCell ⟨gs, 10, none⟩ (.slice none (startS n m cl).old.length 0)).setCell ⟨gs, 11, none⟩ (.bool (startS n m cl).cl)).setCell ⟨gs, 12, none⟩ (.bool (startS n m cl).ri))) rfl rfl (by rfl) ?_ ⟨hP.1, hP.2.1⟩ ?_
      · have z0 := KX.cell 0 _ rfl; have z1 := KX.cell 1 _ rfl; have z2 := KX.cell 2 _ rfl; have z3 := KX.cell 3 _ rfl; have z4 := KX.cell 4 _ rfl; have z5 := KX.cell 5 _ rfl; have z6 := KX.cell 6 _ rfl; have z7 := KX.cell 7 _ rfl; have z8 := KX.cell 8 _ rfl; have z9 := KX.cell 9 _ rfl; have z10 := KX.cell 10 _ rfl; have z11 := KX.cell 11 _ rfl; have z12 := KX.cell 12 _ rfl; have zz := KX.frozen
        go_simp
      refine wpAnyH_done (by kernel_rfl) ?_ _
      go_wp2_with fail
      go_meet
      exact ⟨gs, A3, c3, rfl, ⟨hP.2.1⟩, ⟨hP.2.2.1⟩, ⟨hP.2.2.2⟩, by omega⟩
    · have hlt5 := hHeld.1.lt
      have hlt6 := hHeld.2.lt
      refine opRan (v := .pointer (some ⟨(W0.drew).heap.size, 0, none⟩)) (w' := (W0.drew).alloc (.cells #[.int .i64 0, .int .i64 0, .int .i64 0, .int .i64 0, .int .i64 0, .int .i64 0, .bool false, .bool false, .slice none 0 0, .int .i64 0, .slice none 0 0, .bool false, .bool false] 51)) rfl rfl (by rfl) ?_ ⟨hHeld.1.alloc _, hHeld.2.alloc _⟩ ?_
      · go_simp
      have KX := Held.new hHeld.1.bel [.int .i64 0, .int .i64 0, .int .i64 0, .int .i64 0, .int .i64 0, .int .i64 0, .bool false, .bool false, .slice none 0 0, .int .i64 0, .slice none 0 0, .bool false, .bool false] 51
      have hHeld := And.intro (hHeld.1.alloc (.cells #[.int .i64 0, .int .i64 0, .int .i64 0, .int .i64 0, .int .i64 0, .int .i64 0, .bool false, .bool false, .slice none 0 0, .int .i64 0, .slice none 0 0, .bool false, .bool false] 51)) (hHeld.2.alloc (.cells #[.int .i64 0, .int .i64 0, .int .i64 0, .int .i64 0, .int .i64 0, .int .i64 0, .bool false, .bool false, .slice none 0 0, .int .i64 0, .slice none 0 0, .bool false, .bool false] 51))
      simp only [Act.put, List.setIfInBounds_toArray, List.set_cons_zero, List.set_cons_succ]
      generalize (W0.drew).alloc (.cells #[.int .i64 0, .int .i64 0, .int .i64 0, .int .i64 0, .int .i64 0, .int .i64 0, .bool false, .bool false, .slice none 0 0, .int .i64 0, .slice none 0 0, .bool false, .bool false] 51) = W6 at KX hHeld ⊢
      generalize (W0.drew).heap.size = gs at KX hlt5 hlt6 ⊢
      refine wpAnyH_all (rs := [3]) (by kernel_rfl) (by simp) ?_
      intro j hj
      simp only [List.mem_cons, List.not_mem_nil, or_false] at hj
      subst hj
      refine opCalledX (R := fun v w' => ∃ A c, v = .slice A 2 c ∧ TSites w' A c (pairS n m) ∧ Below (W6).heap.size (W6) w') (f := 28) (args := #[.int .i64 n, .int .i64 m]) rfl rfl (by rfl) ?_ ((law_pair _ n m).mono ?_) ?_
      · go_simp
      · rintro en w' ⟨A, c, rfl, hT, hB⟩; exact ⟨_, rfl, A, c, rfl, hT, hB⟩
      rintro vv w5 ⟨A3, c3, rfl, hT, hB⟩
      have hHeld := And.intro (hHeld.1.step hB) (hHeld.2.step hB)
      have KX := KX.step hB
      refine ⟨hHeld, ?_⟩
      simp only [Act.put, List.setIfInBounds_toArray, List.set_cons_zero, List.set_cons_succ]
      refine takeD (i := 8) (v := .agg #[.int .i64 (startS n m cl).p.ki, .int .i64 (startS n m cl).p.fr, .int .i64 (startS n m cl).p.to_, .int .i64 (startS n m cl).p.st, .int .i64 (startS n m cl).p.ep, .int .i64 (startS n m cl).p.cy, .bool (startS n m cl).p.dn, .bool (startS n m cl).p.fa, .slice A3 (startS n m cl).l.length c3, .int .i64 (startS n m cl).cy, .slice none (startS n m cl).old.length 0, .bool (startS n m cl).cl, .bool (startS n m cl).ri]) rfl rfl (by kernel_rfl) (by kernel_rfl) (by kernel_rfl) (fun _ _ _ h => h) (by rfl) ?_ hHeld ?_
      · intro W' hSw
        (try unfold startS)
        go_simp
        all_goals (first | rfl | done)
      simp only [Act.put, List.setIfInBounds_toArray, List.set_cons_zero, List.set_cons_succ]
      refine wpAnyH_all (rs := [10]) (by kernel_rfl) (by simp) ?_
      intro j hj
      simp only [List.mem_cons, List.not_mem_nil, or_false] at hj
      subst hj
      have hP := run_store hHeld.1 hHeld.2 KX (by omega) (by omega) (startS n m cl) A3 none c3 0 hT
      refine opStored (w' := (((((((((((((w5.setCell ⟨gs, 0, none⟩ (.int .i64 (startS n m cl).p.ki)).setCell ⟨gs, 1, none⟩ (.int .i64 (startS n m cl).p.fr)).setCell ⟨gs, 2, none⟩ (.int .i64 (startS n m cl).p.to_)).setCell ⟨gs, 3, none⟩ (.int .i64 (startS n m cl).p.st)).setCell ⟨gs, 4, none⟩ (.int .i64 (startS n m cl).p.ep)).setCell ⟨gs, 5, none⟩ (.int .i64 (startS n m cl).p.cy)).setCell ⟨gs, 6, none⟩ (.bool (startS n m cl).p.dn)).setCell ⟨gs, 7, none⟩ (.bool (startS n m cl).p.fa)).setCell ⟨gs, 8, none⟩ (.slice A3 (startS n m cl).l.length c3)).setCell ⟨gs, 9, none⟩ (.int .i64 (startS n m cl).cy)).setCell ⟨gs, 10, none⟩ (.slice none (startS n m cl).old.length 0)).setCell ⟨gs, 11, none⟩ (.bool (startS n m cl).cl)).setCell ⟨gs, 12, none⟩ (.bool (startS n m cl).ri))) rfl rfl (by rfl) ?_ ⟨hP.1, hP.2.1⟩ ?_
      · have z0 := KX.cell 0 _ rfl; have z1 := KX.cell 1 _ rfl; have z2 := KX.cell 2 _ rfl; have z3 := KX.cell 3 _ rfl; have z4 := KX.cell 4 _ rfl; have z5 := KX.cell 5 _ rfl; have z6 := KX.cell 6 _ rfl; have z7 := KX.cell 7 _ rfl; have z8 := KX.cell 8 _ rfl; have z9 := KX.cell 9 _ rfl; have z10 := KX.cell 10 _ rfl; have z11 := KX.cell 11 _ rfl; have z12 := KX.cell 12 _ rfl; have zz := KX.frozen
        go_simp
      refine wpAnyH_done (by kernel_rfl) ?_ _
      go_wp2_with fail
      go_meet
      exact ⟨gs, A3, c3, rfl, ⟨hP.2.1⟩, ⟨hP.2.2.1⟩, ⟨hP.2.2.2⟩, by omega⟩
  case rest =>
    obtain ⟨gs, A3, c3, rfl, KR, KS, HTS, hgs⟩ := hcut
    have hll := HC.out.2.1
    go_wp2_with fail
    go_loopg [14] l.length (fun g i wr => ∃ (k : Nat) (A4 A5 : Option Addr) (c4 c5 : Nat), g = l.length - k ∧ k ≤ l.length ∧ i = .int .i64 k ∧ Keep (Held w gs [.int .i64 (runE (startS n m cl) (l.take k)).p.ki, .int .i64 (runE (startS n m cl) (l.take k)).p.fr, .int .i64 (runE (startS n m cl) (l.take k)).p.to_, .int .i64 (runE (startS n m cl) (l.take k)).p.st, .int .i64 (runE (startS n m cl) (l.take k)).p.ep, .int .i64 (runE (startS n m cl) (l.take k)).p.cy, .bool (runE (startS n m cl) (l.take k)).p.dn, .bool (runE (startS n m cl) (l.take k)).p.fa, .slice A4 (runE (startS n m cl) (l.take k)).l.length c4, .int .i64 (runE (startS n m cl) (l.take k)).cy, .slice A5 (runE (startS n m cl) (l.take k)).old.length c5, .bool (runE (startS n m cl) (l.take k)).cl, .bool (runE (startS n m cl) (l.take k)).ri] 51 wr) ∧ Keep (Held w w.heap.size [.int .i64 0, .int .i64 0, .int .i64 0, .int .i64 0, .int .i64 0, .int .i64 0, .bool false, .bool false, .slice none 0 0, .int .i64 0, .slice none 0 0, .bool false, .bool false] 51 wr) ∧ Keep (TSites wr A4 c4 (runE (startS n m cl) (l.take k)).l) ∧ Keep (TSites wr A5 c5 (runE (startS n m cl) (l.take k)).old))
    case atStart => exact ⟨0, A3, none, c3, 0, by omega, by omega, rfl, KS, KR, HTS, ⟨⟨[], rfl, OwnSi.nil _ _, fun _ h => by cases h⟩⟩⟩
    case round =>
      obtain ⟨k, A4, A5, c4, c5, rfl, hk, rfl, KS, KR, HT, HO⟩ := hrel
      have hlk : n + ((l.take k).length : Int) ≤ 1000000 := by rw [List.length_take]; omega
      obtain ⟨N, M, hI, -, -⟩ := inv_run cl hmb (l.take k) hlk
      have hri := hI.1
      have HI := Keep.mk hI
      clear hI
      obtain ⟨s, hs⟩ : ∃ s, runE (startS n m cl) (l.take k) = s := ⟨_, rfl⟩
      rw [hs] at KS HT HO hri HI
      have HSS := Keep.mk hs
      clear hs
      have p0 := KS.out.cell 0 _ rfl; have p1 := KS.out.cell 1 _ rfl; have p2 := KS.out.cell 2 _ rfl; have p3 := KS.out.cell 3 _ rfl; have p4 := KS.out.cell 4 _ rfl; have p5 := KS.out.cell 5 _ rfl; have p6 := KS.out.cell 6 _ rfl; have p7 := KS.out.cell 7 _ rfl; have p8 := KS.out.cell 8 _ rfl; have p9 := KS.out.cell 9 _ rfl; have p10 := KS.out.cell 10 _ rfl; have p11 := KS.out.cell 11 _ rfl; have p12 := KS.out.cell 12 _ rfl; have pz := KS.out.frozen
      rw [hri] at p12
      by_cases hk2 : k < l.length
      · obtain ⟨b, o, hA, hb, e0, e1⟩ := HC.out.at_ KS.out.bel k hk2
        subst hA
        have hk3 : (k : Int) < (l.length : Int) := by omega
        have hx : runE (startS n m cl) (l.take (k + 1)) = stateStep s ((l.getD k (0, 0)).1.tmod 9) (l.getD k (0, 0)).2 := by
          rw [List.take_succ_eq_append_getElem hk2, runE_snoc, HSS.out]
          simp [List.getD_eq_getElem?_getD, List.getElem?_eq_getElem hk2]
        have HX := Keep.mk hx
        clear hx hri
        generalize l.getD k (0, 0) = ev at e0 e1 HX
        obtain ⟨s', hs'⟩ : ∃ x, stateStep s (ev.1.tmod 9) ev.2 = x := ⟨_, rfl⟩
        rw [hs'] at HX
        have HST := Keep.mk (show ∀ W, TSites W A4 c4 s.l → TSites W A5 c5 s.old → Calls Try.prog 29 #[.agg #[.int .i64 s.p.ki, .int .i64 s.p.fr, .int .i64 s.p.to_, .int .i64 s.p.st, .int .i64 s.p.ep, .int .i64 s.p.cy, .bool s.p.dn, .bool s.p.fa, .slice A4 s.l.length c4, .int .i64 s.cy, .slice A5 s.old.length c5, .bool s.cl, .bool s.ri], .agg #[.int .u8 ev.1, .int .i64 ev.2]] W (SStep W s') from fun W a b => hs' ▸ law_step W s N M HI.out A4 A5 c4 c5 ev.1 ev.2 a b)
        clear hs'
        go_wp2_with fail
        clear p12
        have p12 := KS.out.cell 12 _ rfl
        refine wp_region_still_tail 5 (by kernel_rfl) (by kernel_rfl) ?_
        simp only [List.take_succ_cons, List.take_zero, List.drop_succ_cons, List.drop_zero]
        repeat (first | (refine ws_skip (by rfl) ?_; simp only [Act.put, List.setIfInBounds_toArray, List.set_cons_succ, List.set_cons_zero]) | (refine ws_ran (by rfl) ?_; apply Exists.intro; refine ⟨?_, ?_⟩; ((go_simp; rfl)); simp only [Act.put, List.setIfInBounds_toArray, List.set_cons_succ, List.set_cons_zero]))
        refine wpStill_nil ?_
        change wpList _ _ _ _ _ (World.drew _)
        clear p0 p1 p2 p3 p4 p5 p6 p7 p8 p9 p10 p11 p12 pz
        go_wp2_with (first
          | (go_at_call 29; (with_reducible refine (HST.out _ (HT.out.step (below_drew (Below.refl _ _))) (HO.out.step (below_drew (Below.refl _ _)))).mono ?_); rintro en w7 ⟨A6, c6, A7, c7, rfl, hl, ho, hB⟩; have KS7 := Keep.mk (KS.out.drew.step hB); have KR7 := Keep.mk (KR.out.drew.step hB); have HT7 := Keep.mk hl; have HO7 := Keep.mk ho; clear hl ho hB)
          | ((with_reducible refine wpList_store_held ?_ 51 (.tmp 13) (.tmp 54) ?_ w gs [.int .i64 s.p.ki, .int .i64 s.p.fr, .int .i64 s.p.to_, .int .i64 s.p.st, .int .i64 s.p.ep, .int .i64 s.p.cy, .bool s.p.dn, .bool s.p.fa, .slice A4 s.l.length c4, .int .i64 s.cy, .slice A5 s.old.length c5, .bool s.cl, .bool s.ri] 51 KS7.out ?_ [.int .i64 s'.p.ki, .int .i64 s'.p.fr, .int .i64 s'.p.to_, .int .i64 s'.p.st, .int .i64 s'.p.ep, .int .i64 s'.p.cy, .bool s'.p.dn, .bool s'.p.fa, .slice A6 s'.l.length c6, .int .i64 s'.cy, .slice A7 s'.old.length c7, .bool s'.cl, .bool s'.ri] ?_ ?_ ?_ ?_ ?_); rfl; rfl; rfl; rfl; rfl; exact st_size; exact st_one _ _ _ _ _; intro w8 K8 hg; have KR8 := Keep.mk (KR7.out.grown (Nat.ne_of_lt hgs) KS7.out.ge hg); have HT8 := Keep.mk (HT7.out.other KS7.out (by decide) hg); have HO8 := Keep.mk (HO7.out.other KS7.out (by decide) hg); have KS8 := Keep.mk K8; clear hg K8))
        go_roundg (l.length - (k + 1))
        case measure => omega
        case rel =>
          rw [← HX.out] at KS8 HT8 HO8
          exact ⟨k + 1, A6, A7, c6, c7, rfl, by omega, by go_num, KS8, KR8, HT8, HO8⟩
      · have hkl : k = l.length := by omega
        have hk3 : decide ((k : Int) < (l.length : Int)) = false := by simp; omega
        have hk4 : ¬ (k : Int) < (l.length : Int) := by omega
        have hfin : runE (startS n m cl) l = s := by rw [← HSS.out, hkl, List.take_length]
        have HF := Keep.mk hfin
        clear hkl hk2 hfin hri
        go_upto_region 9 with fail
        clear p12
        have p12 := KS.out.cell 12 _ rfl
        go_wp2_with ((with_reducible refine wpList_store_held ?_ 51 (.tmp 8) (.tmp 55) ?_ w w.heap.size [.int .i64 0, .int .i64 0, .int .i64 0, .int .i64 0, .int .i64 0, .int .i64 0, .bool false, .bool false, .slice none 0 0, .int .i64 0, .slice none 0 0, .bool false, .bool false] 51 KR.out ?_ [.int .i64 s.p.ki, .int .i64 s.p.fr, .int .i64 s.p.to_, .int .i64 s.p.st, .int .i64 s.p.ep, .int .i64 s.p.cy, .bool s.p.dn, .bool s.p.fa, .slice A4 s.l.length c4, .int .i64 s.cy, .slice A5 s.old.length c5, .bool s.cl, .bool s.ri] ?_ ?_ ?_ ?_ ?_); rfl; rfl; rfl; rfl; rfl; exact st_size; exact st_one _ _ _ _ _; intro wE KE hg; have HE := Keep.mk (And.intro KE hg); clear KE hg)
        have hR : SStep w (runE (startS n m cl) l) (.returned (.agg #[.int .i64 s.p.ki, .int .i64 s.p.fr, .int .i64 s.p.to_, .int .i64 s.p.st, .int .i64 s.p.ep, .int .i64 s.p.cy, .bool s.p.dn, .bool s.p.fa, .slice A4 s.l.length c4, .int .i64 s.cy, .slice A5 s.old.length c5, .bool s.cl, .bool s.ri])) wE := by
          rw [HF.out]
          exact ⟨A4, c4, A5, c5, rfl, HT.out.other KR.out (by decide) HE.out.2, HO.out.other KR.out (by decide) HE.out.2, HE.out.1.bel⟩
        exact bodyPost_ret (results_row1 rfl _ _ w.heap.size 51 _ _ rfl HE.out.1.blk Try.underlying51 rfl (by kernel_rfl)) rfl hR
end
section
open Go.ChangeShapes Go.WideShapes Go.ChangeAt Go.RowKit Go.Deep Go.Joins
set_option linter.unusedVariables false
set_option maxRecDepth 100000
section
variable {H : Type} {enc : TypeId × Value → H} {P : Program} {w : World} {base : Nat} {spare : Nat → Bool} {held : Bool}
theorem open_slice_fields {t e : TypeId} {fs : Array Field} {fuel : Nat} {cs : List Value} {x : DataW H × List MemPlace} (ht : P.underlying t = some (.slice e)) (he : P.underlying e = some (.struct fs))
    (hone : oneCellFields P fs = true) (hC : P.cellsOf e = fs.size) (h : DataW.trod enc P w base spare held fuel t cs = some x) :
    (cs = [.slice none 0 0] ∧ x = (.nil, [])) ∨
    ∃ (a : Addr) (len cap m : Nat) (D : Nat → DataW H) (Pl : Nat → List MemPlace), cs = [.slice (some a) len cap] ∧ base ≤ a.block ∧ len ≤ cap ∧ cap ≤ maxLen ∧ m = (if spare a.block then cap else len) ∧
      x = (.slice ((List.range len).map D) ((List.range (m - len)).map fun j => D (len + j)), MemPlace.row a (m * fs.size) ++ (List.range m).flatMap Pl) ∧
      ∀ i, i < m → ∃ (ys : List (DataW H × List MemPlace)) (n : Nat), D i = .agg (ys.map (·.1)) ∧ Pl i = ys.flatMap (·.2) ∧ ys.length = fs.size ∧
        ∀ (j : Nat) (f : Field), fs[j]? = some f → ∃ (v : Value) (y : DataW H × List MemPlace), w.cell? (a.add (i * fs.size + j)) = some v ∧ ys[j]? = some y ∧ DataW.trod enc P w base spare held n f.type [v] = some y := by
  rcases open_slice ht h with h0 | ⟨a, len, cap, m, n, D, Pl, hcs, hb, hl, hm, hmm, hx, hi⟩
  · exact .inl h0
  · refine .inr ⟨a, len, cap, m, D, Pl, hcs, hb, hl, hm, hmm, by rw [hC] at hx; exact hx, fun i him => ?_⟩
    obtain ⟨cs', hc, ht'⟩ := hi i him
    rw [hC] at hc
    obtain ⟨ys, n', hn', hy, hlen, hyl, hf⟩ := DataW.trod_struct he ht'
    obtain ⟨_, hcl, hat⟩ := World.cells?_some hc
    simp only [Prod.mk.injEq] at hy
    refine ⟨ys, n', hy.1, hy.2, hyl, fun j f hj => ?_⟩
    obtain ⟨ho, hk⟩ := hone_of hone j f hj
    have hjl : j < fs.size := (Array.getElem?_eq_some_iff.1 hj).1
    have hcell := hat j hjl
    have hv : cs'[j]? = some (cs'[j]'(by omega)) := List.getElem?_eq_getElem (by omega)
    have h1 := hf j f hj
    rw [ho, hk] at h1
    have hone' : (cs'.drop j).take 1 = [cs'[j]'(by omega)] := by
      rw [List.drop_eq_getElem_cons (by omega)]
      rfl
    rw [hone'] at h1
    have hys : ys[j]? = some (ys[j]'(by omega)) := List.getElem?_eq_getElem (by omega)
    refine ⟨_, _, ?_, hys, h1.trans hys⟩
    rw [← Go.Deep.add_add, hcell, hv]
theorem open_agg8 {r : Reach} {b0 : Nat} {t : TypeId} {f0 f1 f2 f3 f4 f5 f6 f7 : Field} {v : Value} {d : DataW H} {p : List MemPlace} (hs : P.underlying t = some (.struct #[f0, f1, f2, f3, f4, f5, f6, f7])) (hone : oneCellFields P #[f0, f1, f2, f3, f4, f5, f6, f7] = true) (hC : P.cellsOf t = 8)
    (hv : Value.okWide P w r b0 t v) (h : DataW.Trod enc P w base spare held t v d p) :
    ∃ (v0 v1 v2 v3 v4 v5 v6 v7 : Value) (y0 y1 y2 y3 y4 y5 y6 y7 : DataW H × List MemPlace) (n : Nat), v = .agg #[v0, v1, v2, v3, v4, v5, v6, v7] ∧
      DataW.trod enc P w base spare held n f0.type [v0] = some y0 ∧ DataW.trod enc P w base spare held n f1.type [v1] = some y1 ∧ DataW.trod enc P w base spare held n f2.type [v2] = some y2 ∧ DataW.trod enc P w base spare held n f3.type [v3] = some y3 ∧ DataW.trod enc P w base spare held n f4.type [v4] = some y4 ∧ DataW.trod enc P w base spare held n f5.type [v5] = some y5 ∧ DataW.trod enc P w base spare held n f6.type [v6] = some y6 ∧ DataW.trod enc P w base spare held n f7.type [v7] = some y7 := by
  obtain ⟨cs, rfl, hsz⟩ := okWide_struct hs hv
  obtain ⟨l⟩ := cs
  match l, hsz.trans hC with
  | [c0, c1, c2, c3, c4, c5, c6, c7], _ =>
    obtain ⟨fuel, hf⟩ := h
    obtain ⟨xs, n, _, hx, _, hlen, hg⟩ := DataW.trod_struct hs hf
    obtain ⟨o0, k0⟩ := hone_of hone 0 f0 rfl
    obtain ⟨o1, k1⟩ := hone_of hone 1 f1 rfl
    obtain ⟨o2, k2⟩ := hone_of hone 2 f2 rfl
    obtain ⟨o3, k3⟩ := hone_of hone 3 f3 rfl
    obtain ⟨o4, k4⟩ := hone_of hone 4 f4 rfl
    obtain ⟨o5, k5⟩ := hone_of hone 5 f5 rfl
    obtain ⟨o6, k6⟩ := hone_of hone 6 f6 rfl
    obtain ⟨o7, k7⟩ := hone_of hone 7 f7 rfl
    match xs, hlen with
    | [y0, y1, y2, y3, y4, y5, y6, y7], _ =>
      exact ⟨c0, c1, c2, c3, c4, c5, c6, c7, y0, y1, y2, y3, y4, y5, y6, y7, n, rfl, by simpa [Value.cells, o0, k0] using hg 0 f0 rfl, by simpa [Value.cells, o1, k1] using hg 1 f1 rfl, by simpa [Value.cells, o2, k2] using hg 2 f2 rfl, by simpa [Value.cells, o3, k3] using hg 3 f3 rfl, by simpa [Value.cells, o4, k4] using hg 4 f4 rfl, by simpa [Value.cells, o5, k5] using hg 5 f5 rfl, by simpa [Value.cells, o6, k6] using hg 6 f6 rfl, by simpa [Value.cells, o7, k7] using hg 7 f7 rfl⟩
end
theorem list_of {Q : Nat → Span → Prop} (n : Nat) (h : ∀ i, i < n → ∃ x, Q i x) : ∃ l : List Span, l.length = n ∧ ∀ i, i < n → Q i (l.getD i .z) := by
  induction n with
  | zero => exact ⟨[], rfl, fun i hi => by omega⟩
  | succ n ih =>
    obtain ⟨l, hl, hq⟩ := ih fun i hi => h i (by omega)
    obtain ⟨x, hx⟩ := h n (by omega)
    refine ⟨l ++ [x], by simp [hl], fun i hi => ?_⟩
    by_cases e : i < n
    · have := hq i e
      rwa [show (l ++ [x]).getD i .z = l.getD i .z by simp [List.getD_eq_getElem?_getD, List.getElem?_append_left (by omega : i < l.length)]]
    · have : i = n := by omega
      subst this
      subst hl
      simpa [List.getD_eq_getElem?_getD] using hx
theorem trod_int_cell {H : Type} {enc : TypeId × Value → H} {P : Program} {w : World} {base : Nat} {spare : Nat → Bool} {held : Bool} {n : Nat} {t : TypeId} {v : Value} {y : DataW H × List MemPlace} (ht : P.underlying t = some (.int .i64)) (h : DataW.trod enc P w base spare held n t [v] = some y) : ∃ x, v = .int .i64 x := by
  obtain ⟨x, e, _⟩ := DataW.trod_int ht h
  exact ⟨x, by simpa using e⟩
theorem trod_bool_cell {H : Type} {enc : TypeId × Value → H} {P : Program} {w : World} {base : Nat} {spare : Nat → Bool} {held : Bool} {n : Nat} {t : TypeId} {v : Value} {y : DataW H × List MemPlace} (ht : P.underlying t = some .bool) (h : DataW.trod enc P w base spare held n t [v] = some y) : ∃ x, v = .bool x := by
  obtain ⟨x, e, _⟩ := DataW.trod_bool ht h
  exact ⟨x, by simpa using e⟩
theorem open_lineage {H : Type} {enc : TypeId × Value → H} {w : World} {base : Nat} {held : Bool} {n : Nat} {v : Value} {y : DataW H × List MemPlace} (h : DataW.trod enc Try.prog w base (fun _ => true) held n 55 [v] = some y) :
    ∃ (A : Option Addr) (c : Nat) (l : List Span), v = .slice A l.length c ∧ (l.length ≤ 20 → SpansAt w A c l) := by
  rcases open_slice_fields Try.underlying55 Try.underlying88 (by kernel_rfl) (by kernel_rfl) h with ⟨hcs, _⟩ | ⟨a, len, cap, m, D, Pl, hcs, _, hl, _, hm, _, hi⟩
  · obtain rfl : v = .slice none 0 0 := by simpa using hcs
    exact ⟨none, 0, [], rfl, fun _ => SpansAt.nil w⟩
  · obtain rfl : v = .slice (some a) len cap := by simpa using hcs
    simp only [if_true] at hm
    have hex : ∀ i, i < len → ∃ x : Span, w.cell? (a.add (i * 3 + 0)) = some (.int .i64 x.ep) ∧ w.cell? (a.add (i * 3 + 1)) = some (.int .i64 x.fr) ∧ w.cell? (a.add (i * 3 + 2)) = some (.int .i64 x.to_) := by
      intro i hil
      obtain ⟨ys, k, _, _, _, hf⟩ := hi i (by omega)
      obtain ⟨v0, y0, h0, _, t0⟩ := hf 0 _ rfl
      obtain ⟨v1, y1, h1, _, t1⟩ := hf 1 _ rfl
      obtain ⟨v2, y2, h2, _, t2⟩ := hf 2 _ rfl
      obtain ⟨x0, rfl⟩ := trod_int_cell Try.underlying3 t0
      obtain ⟨x1, rfl⟩ := trod_int_cell Try.underlying3 t1
      obtain ⟨x2, rfl⟩ := trod_int_cell Try.underlying3 t2
      exact ⟨⟨x0, x1, x2⟩, h0, h1, h2⟩
    obtain ⟨l, hll, hq⟩ := list_of len hex
    subst hll
    refine ⟨some a, cap, l, rfl, fun h20 => ⟨hl, by omega, fun hp => ?_⟩⟩
    obtain ⟨b, o, sp⟩ := a
    have hs : sp = none := by
      have := (hq 0 hp).1
      simpa [Addr.add] using World.cell?_spot this
    subst hs
    have ea : ∀ j, (⟨b, o, none⟩ : Addr).add j = ⟨b, o + j, none⟩ := fun j => by unfold Addr.add; split <;> simp_all
    refine ⟨b, o, rfl, fun i hil => ?_⟩
    have := hq i hil
    simp only [ea, Nat.add_zero, ← Nat.add_assoc] at this
    exact this
theorem open_site {H : Type} {enc : TypeId × Value → H} {w : World} {r : Reach} {b0 base : Nat} {held : Bool} {v : Value} {d : DataW H} {p : List MemPlace} (hv : Value.okWide Try.prog w r b0 57 v) (h : DataW.Trod enc Try.prog w base (fun _ => true) held 57 v d p) :
    ∃ (s : Site) (A : Option Addr) (c : Nat), v = .agg #[.int .i64 s.nu, .int .i64 s.ro, .int .i64 s.ep, .int .i64 s.ap, .slice A s.li.length c, .int .i64 s.so, .bool s.al, .bool s.co] ∧ (s.li.length ≤ 20 → SpansAt w A c s.li) := by
  obtain ⟨v0, v1, v2, v3, v4, v5, v6, v7, y0, y1, y2, y3, y4, y5, y6, y7, n, rfl, h0, h1, h2, h3, h4, h5, h6, h7⟩ := open_agg8 Try.underlying57 (by kernel_rfl) (by kernel_rfl) hv h
  obtain ⟨x0, rfl⟩ := trod_int_cell Try.underlying3 h0
  obtain ⟨x1, rfl⟩ := trod_int_cell Try.underlying3 h1
  obtain ⟨x2, rfl⟩ := trod_int_cell Try.underlying3 h2
  obtain ⟨x3, rfl⟩ := trod_int_cell Try.underlying3 h3
  obtain ⟨A, c, l, rfl, hl⟩ := open_lineage h4
  obtain ⟨x5, rfl⟩ := trod_int_cell Try.underlying3 h5
  obtain ⟨x6, rfl⟩ := trod_bool_cell Try.underlying4 h6
  obtain ⟨x7, rfl⟩ := trod_bool_cell Try.underlying4 h7
  exact ⟨⟨x0, x1, x2, x3, l, x5, x6, x7⟩, A, c, rfl, hl⟩
end
section
open Go.ChangeShapes Go.WideShapes Go.ChangeAt Go.RowKit Go.Deep Go.Joins
set_option linter.unusedVariables false
set_option linter.unusedSimpArgs false
set_option maxRecDepth 100000
theorem list_of' {α : Type} {z : α} {Q : Nat → α → Prop} (n : Nat) (h : ∀ i, i < n → ∃ x, Q i x) : ∃ l : List α, l.length = n ∧ ∀ i, i < n → Q i (l.getD i z) := by
  induction n with
  | zero => exact ⟨[], rfl, fun i hi => by omega⟩
  | succ n ih =>
    obtain ⟨l, hl, hq⟩ := ih fun i hi => h i (by omega)
    obtain ⟨x, hx⟩ := h n (by omega)
    refine ⟨l ++ [x], by simp [hl], fun i hi => ?_⟩
    by_cases e : i < n
    · have := hq i e
      rwa [show (l ++ [x]).getD i z = l.getD i z by simp [List.getD_eq_getElem?_getD, List.getElem?_append_left (by omega : i < l.length)]]
    · have : i = n := by omega
      subst this
      subst hl
      simpa [List.getD_eq_getElem?_getD] using hx
theorem addr_add0 (b o j : Nat) : (⟨b, o, none⟩ : Addr).add j = ⟨b, o + j, none⟩ := by unfold Addr.add; split <;> simp_all
theorem open_sites10 {H : Type} {enc : TypeId × Value → H} {w : World} {r : Reach} {b0 base : Nat} {held : Bool} {v : Value} {d : DataW H} {p : List MemPlace} (hv : Value.okWide Try.prog w r b0 22 v) (h : DataW.Trod enc Try.prog w base (fun _ => true) held 22 v d p) :
    ∃ (A : Option Addr) (c : Nat) (l : List Site), v = .slice A l.length c ∧ (l.length ≤ 1000000 → SitesAt 20 w A c l) ∧ SitesAt 20 w A c (l.take 10) := by
  obtain ⟨a0, len0, cap0, rfl⟩ := okWide_slice Try.underlying22 hv
  obtain ⟨fuel, hf0⟩ := h
  have hf : DataW.trod enc Try.prog w base (fun _ => true) held fuel 22 [.slice a0 len0 cap0] = some (d, p) := by simpa [Value.cells] using hf0
  rcases open_slice_fields Try.underlying22 Try.underlying57 (by kernel_rfl) (by kernel_rfl) hf with ⟨hcs, _⟩ | ⟨a, len, cap, m, D, Pl, hcs, _, hl, _, hm, _, hi⟩
  · have hv : Value.slice a0 len0 cap0 = .slice none 0 0 := by simpa using hcs
    exact ⟨none, 0, [], hv, fun _ => SitesAt.nil 20 w, SitesAt.nil 20 w⟩
  · have hv : Value.slice a0 len0 cap0 = .slice (some a) len cap := by simpa using hcs
    simp only [if_true] at hm
    have hex : ∀ i, i < len → ∃ x : Site, ∃ (A' : Option Addr) (c' : Nat), w.cell? (a.add (i * 8 + 0)) = some (.int .i64 x.nu) ∧ w.cell? (a.add (i * 8 + 1)) = some (.int .i64 x.ro) ∧ w.cell? (a.add (i * 8 + 2)) = some (.int .i64 x.ep) ∧ w.cell? (a.add (i * 8 + 3)) = some (.int .i64 x.ap) ∧ w.cell? (a.add (i * 8 + 4)) = some (.slice A' x.li.length c') ∧
        w.cell? (a.add (i * 8 + 5)) = some (.int .i64 x.so) ∧ w.cell? (a.add (i * 8 + 6)) = some (.bool x.al) ∧ w.cell? (a.add (i * 8 + 7)) = some (.bool x.co) ∧ (x.li.length ≤ 20 → SpansAt w A' c' x.li) := by
      intro i hil
      obtain ⟨ys, k, _, _, _, hf⟩ := hi i (by omega)
      obtain ⟨v0, y0, h0, _, t0⟩ := hf 0 _ rfl
      obtain ⟨v1, y1, h1, _, t1⟩ := hf 1 _ rfl
      obtain ⟨v2, y2, h2, _, t2⟩ := hf 2 _ rfl
      obtain ⟨v3, y3, h3, _, t3⟩ := hf 3 _ rfl
      obtain ⟨v4, y4, h4, _, t4⟩ := hf 4 _ rfl
      obtain ⟨v5, y5, h5, _, t5⟩ := hf 5 _ rfl
      obtain ⟨v6, y6, h6, _, t6⟩ := hf 6 _ rfl
      obtain ⟨v7, y7, h7, _, t7⟩ := hf 7 _ rfl
      obtain ⟨x0, rfl⟩ := trod_int_cell Try.underlying3 t0
      obtain ⟨x1, rfl⟩ := trod_int_cell Try.underlying3 t1
      obtain ⟨x2, rfl⟩ := trod_int_cell Try.underlying3 t2
      obtain ⟨x3, rfl⟩ := trod_int_cell Try.underlying3 t3
      obtain ⟨A', c', l', rfl, hl'⟩ := open_lineage t4
      obtain ⟨x5, rfl⟩ := trod_int_cell Try.underlying3 t5
      obtain ⟨x6, rfl⟩ := trod_bool_cell Try.underlying4 t6
      obtain ⟨x7, rfl⟩ := trod_bool_cell Try.underlying4 t7
      exact ⟨⟨x0, x1, x2, x3, l', x5, x6, x7⟩, A', c', h0, h1, h2, h3, h4, h5, h6, h7, hl'⟩
    obtain ⟨l, hll, hq⟩ := list_of' (z := zS) len hex
    subst hll
    have key : ∀ L : List Site, L.length ≤ l.length → L.length ≤ 1000000 → (∀ i, i < L.length → L.getD i zS = l.getD i zS) → SitesAt 20 w (some a) cap L := by
      intro L hL h20 hg
      refine ⟨by omega, by omega, fun hp => ?_⟩
      obtain ⟨b, o, sp⟩ := a
      have hs : sp = none := by
        obtain ⟨_, _, this, _⟩ := hq 0 (by omega)
        simpa [Addr.add] using World.cell?_spot this
      subst hs
      refine ⟨b, o, rfl, fun i hil => ?_⟩
      obtain ⟨A', c', this⟩ := hq i (by omega)
      simp only [addr_add0, Nat.add_zero, ← Nat.add_assoc] at this
      rw [hg i hil]
      exact ⟨A', c', this⟩
    refine ⟨some a, cap, l, hv, fun h20 => key l (Nat.le_refl _) h20 (fun _ _ => rfl), key (l.take 10) (by simp; omega) (by simp; omega) (fun i hi => ?_)⟩
    have : i < 10 := by simp at hi; omega
    simp [List.getD_eq_getElem?_getD, List.getElem?_take, this]
theorem open_proc {H : Type} {enc : TypeId × Value → H} {w : World} {r : Reach} {b0 base : Nat} {held : Bool} {v : Value} {d : DataW H} {p : List MemPlace} (hv : Value.okWide Try.prog w r b0 26 v) (h : DataW.Trod enc Try.prog w base (fun _ => true) held 26 v d p) :
    ∃ q : Proc, v = .agg #[.int .i64 q.ki, .int .i64 q.fr, .int .i64 q.to_, .int .i64 q.st, .int .i64 q.ep, .int .i64 q.cy, .bool q.dn, .bool q.fa] := by
  obtain ⟨v0, v1, v2, v3, v4, v5, v6, v7, y0, y1, y2, y3, y4, y5, y6, y7, n, rfl, h0, h1, h2, h3, h4, h5, h6, h7⟩ := open_agg8 Try.underlying26 (by kernel_rfl) (by kernel_rfl) hv h
  obtain ⟨x0, rfl⟩ := trod_int_cell Try.underlying3 h0
  obtain ⟨x1, rfl⟩ := trod_int_cell Try.underlying3 h1
  obtain ⟨x2, rfl⟩ := trod_int_cell Try.underlying3 h2
  obtain ⟨x3, rfl⟩ := trod_int_cell Try.underlying3 h3
  obtain ⟨x4, rfl⟩ := trod_int_cell Try.underlying3 h4
  obtain ⟨x5, rfl⟩ := trod_int_cell Try.underlying3 h5
  obtain ⟨x6, rfl⟩ := trod_bool_cell Try.underlying4 h6
  obtain ⟨x7, rfl⟩ := trod_bool_cell Try.underlying4 h7
  exact ⟨⟨x0, x1, x2, x3, x4, x5, x6, x7⟩, rfl⟩
theorem open_agg2 {H : Type} {enc : TypeId × Value → H} {P : Program} {w : World} {base : Nat} {spare : Nat → Bool} {held : Bool} {r : Reach} {b0 : Nat} {t : TypeId} {f0 f1 : Field} {v : Value} {d : DataW H} {p : List MemPlace} (hs : P.underlying t = some (.struct #[f0, f1])) (hone : oneCellFields P #[f0, f1] = true) (hC : P.cellsOf t = 2)
    (hv : Value.okWide P w r b0 t v) (h : DataW.Trod enc P w base spare held t v d p) :
    ∃ (v0 v1 : Value) (y0 y1 : DataW H × List MemPlace) (n : Nat), v = .agg #[v0, v1] ∧
      DataW.trod enc P w base spare held n f0.type [v0] = some y0 ∧ DataW.trod enc P w base spare held n f1.type [v1] = some y1 := by
  obtain ⟨cs, rfl, hsz⟩ := okWide_struct hs hv
  obtain ⟨l⟩ := cs
  match l, hsz.trans hC with
  | [c0, c1], _ =>
    obtain ⟨fuel, hf⟩ := h
    obtain ⟨xs, n, _, hx, _, hlen, hg⟩ := DataW.trod_struct hs hf
    obtain ⟨o0, k0⟩ := hone_of hone 0 f0 rfl
    obtain ⟨o1, k1⟩ := hone_of hone 1 f1 rfl
    match xs, hlen with
    | [y0, y1], _ => exact ⟨c0, c1, y0, y1, n, rfl, by simpa [Value.cells, o0, k0] using hg 0 f0 rfl, by simpa [Value.cells, o1, k1] using hg 1 f1 rfl⟩
theorem open_report {H : Type} {enc : TypeId × Value → H} {w : World} {r : Reach} {b0 base : Nat} {held : Bool} {v : Value} {d : DataW H} {p : List MemPlace} (hv : Value.okWide Try.prog w r b0 39 v) (h : DataW.Trod enc Try.prog w base (fun _ => true) held 39 v d p) :
    ∃ (ok : Bool) (x : Int), v = .agg #[.bool ok, .int .i64 x] := by
  obtain ⟨v0, v1, y0, y1, n, rfl, h0, h1⟩ := open_agg2 Try.underlying39 (by kernel_rfl) (by kernel_rfl) hv h
  obtain ⟨x0, rfl⟩ := trod_bool_cell Try.underlying4 h0
  obtain ⟨x1, rfl⟩ := trod_int_cell Try.underlying3 h1
  exact ⟨x0, x1, rfl⟩
end
section
open Go.ChangeShapes Go.WideShapes Go.ChangeAt Go.RowKit Go.Deep Go.Joins
set_option linter.unusedVariables false
set_option linter.unusedSimpArgs false
set_option maxRecDepth 100000
theorem trod_u8_cell {H : Type} {enc : TypeId × Value → H} {P : Program} {w : World} {base : Nat} {spare : Nat → Bool} {held : Bool} {n : Nat} {t : TypeId} {v : Value} {y : DataW H × List MemPlace} (ht : P.underlying t = some (.int .u8)) (h : DataW.trod enc P w base spare held n t [v] = some y) : ∃ x, v = .int .u8 x := by
  obtain ⟨x, e, _⟩ := DataW.trod_int ht h
  exact ⟨x, by simpa using e⟩
theorem u8_range {a : Int} (h : (Lit.int .u8 a).wf = true) : 0 ≤ a ∧ a ≤ 255 := by
  simp [Lit.wf, show IntKind.u8.min = 0 from rfl, show IntKind.u8.max = 255 from rfl] at h
  omega
theorem open_events {H : Type} {enc : TypeId × Value → H} {w : World} {r : Reach} {b0 base : Nat} {held : Bool} {v : Value} {d : DataW H} {p : List MemPlace} (hv : Value.okWide Try.prog w r b0 49 v) (h : DataW.Trod enc Try.prog w base (fun _ => true) held 49 v d p) :
    ∃ (A : Option Addr) (c : Nat) (l : List (Int × Int)), v = .slice A l.length c ∧ (l.length ≤ 1000000 → EventsAt w A c l) := by
  obtain ⟨a0, len0, cap0, rfl⟩ := okWide_slice Try.underlying49 hv
  obtain ⟨fuel, hf0⟩ := h
  have hf : DataW.trod enc Try.prog w base (fun _ => true) held fuel 49 [.slice a0 len0 cap0] = some (d, p) := by simpa [Value.cells] using hf0
  rcases open_slice_fields Try.underlying49 Try.underlying64 (by kernel_rfl) (by kernel_rfl) hf with ⟨hcs, _⟩ | ⟨a, len, cap, m, D, Pl, hcs, _, hl, _, hm, _, hi⟩
  · have hv : Value.slice a0 len0 cap0 = .slice none 0 0 := by simpa using hcs
    exact ⟨none, 0, [], hv, fun _ => ⟨by simp, by simp, by simp⟩⟩
  · have hv : Value.slice a0 len0 cap0 = .slice (some a) len cap := by simpa using hcs
    simp only [if_true] at hm
    have hex : ∀ i, i < len → ∃ x : Int × Int, w.cell? (a.add (i * 2 + 0)) = some (.int .u8 x.1) ∧ w.cell? (a.add (i * 2 + 1)) = some (.int .i64 x.2) := by
      intro i hil
      obtain ⟨ys, k, _, _, _, hf⟩ := hi i (by omega)
      obtain ⟨v0, y0, h0, _, t0⟩ := hf 0 _ rfl
      obtain ⟨v1, y1, h1, _, t1⟩ := hf 1 _ rfl
      obtain ⟨x0, rfl⟩ := trod_u8_cell Try.underlying5 t0
      obtain ⟨x1, rfl⟩ := trod_int_cell Try.underlying3 t1
      exact ⟨(x0, x1), h0, h1⟩
    obtain ⟨l, hll, hq⟩ := list_of' (z := ((0, 0) : Int × Int)) len hex
    subst hll
    refine ⟨some a, cap, l, hv, fun h20 => ⟨hl, by omega, fun hp => ?_⟩⟩
    obtain ⟨b, o, sp⟩ := a
    have hs : sp = none := by
      have := (hq 0 hp).1
      simpa [Addr.add] using World.cell?_spot this
    subst hs
    refine ⟨b, o, rfl, fun i hil => ?_⟩
    have := hq i hil
    simp only [addr_add0, Nat.add_zero, ← Nat.add_assoc] at this
    exact this
end
section
open Go.RowKit
set_option linter.unusedSimpArgs false
set_option linter.unusedVariables false
set_option maxRecDepth 100000
def procEq (x y : Proc) : Bool := x.ki == y.ki && (x.fr == y.fr && (x.to_ == y.to_ && (x.st == y.st && (x.ep == y.ep && (x.cy == y.cy && (x.dn == y.dn && (x.fa == y.fa && true)))))))
theorem procEq_self (x : Proc) : procEq x x = true := by simp [procEq]
theorem eqIn_proc (d : Nat) (w : World) (x y : Proc) : (Op.equalIn (d + 2) 26 (.agg #[.int .i64 x.ki, .int .i64 x.fr, .int .i64 x.to_, .int .i64 x.st, .int .i64 x.ep, .int .i64 x.cy, .bool x.dn, .bool x.fa]) (.agg #[.int .i64 y.ki, .int .i64 y.fr, .int .i64 y.to_, .int .i64 y.st, .int .i64 y.ep, .int .i64 y.cy, .bool y.dn, .bool y.fa])).run Try.prog w = .ok (procEq x y) w := by
  refine eqIn_of Try.underlying26 (by kernel_rfl) ?_
  refine eqf_cons (by rfl) (by go_simp; rfl) (by go_simp; rfl) (by go_simp) ?_
  refine eqf_cons (by rfl) (by go_simp; rfl) (by go_simp; rfl) (by go_simp) ?_
  refine eqf_cons (by rfl) (by go_simp; rfl) (by go_simp; rfl) (by go_simp) ?_
  refine eqf_cons (by rfl) (by go_simp; rfl) (by go_simp; rfl) (by go_simp) ?_
  refine eqf_cons (by rfl) (by go_simp; rfl) (by go_simp; rfl) (by go_simp) ?_
  refine eqf_cons (by rfl) (by go_simp; rfl) (by go_simp; rfl) (by go_simp) ?_
  refine eqf_cons (by rfl) (by go_simp; rfl) (by go_simp; rfl) (by go_simp) ?_
  refine eqf_cons (by rfl) (by go_simp; rfl) (by go_simp; rfl) (by go_simp) eqf_nil
theorem eql_proc (w : World) (x : Proc) : (binOp .eql 26 (.agg #[.int .i64 x.ki, .int .i64 x.fr, .int .i64 x.to_, .int .i64 x.st, .int .i64 x.ep, .int .i64 x.cy, .bool x.dn, .bool x.fa]) (.agg #[.int .i64 x.ki, .int .i64 x.fr, .int .i64 x.to_, .int .i64 x.st, .int .i64 x.ep, .int .i64 x.cy, .bool x.dn, .bool x.fa])).run Try.prog w = .ok (.bool true) w := by
  have h := eqIn_proc 9998 w x x
  rw [procEq_self] at h
  simp only [binOp]
  simp [Op.equal, Op.maxDepth, h]
theorem SitesAt.widen {B B' : Nat} {w : World} {A : Option Addr} {c : Nat} {l : List Site} (h : SitesAt B w A c l) (hB : ∀ x, x ∈ l → x.li.length ≤ B) : SitesAt B' w A c l := by
  refine ⟨h.1, h.2.1, fun hp => ?_⟩
  obtain ⟨b, o, e, hs⟩ := h.2.2 hp
  refine ⟨b, o, e, fun i hi => ?_⟩
  obtain ⟨A', c', x0, x1, x2, x3, x4, x5, x6, x7, x8⟩ := hs i hi
  exact ⟨A', c', x0, x1, x2, x3, x4, x5, x6, x7, fun _ => x8 (hB _ (by rw [List.getD_eq_getElem?_getD, List.getElem?_eq_getElem hi]; exact List.getElem_mem hi))⟩
theorem few_yes {l : List Site} (h : (smallS (l.take 10) && decide ((l.length : Int) ≤ 10)) = true) : l.length ≤ 10 ∧ ∀ x, x ∈ l → x.li.length ≤ 20 := by
  simp only [Bool.and_eq_true, decide_eq_true_eq] at h
  have h2 : l.length ≤ 10 := by omega
  have h1 := h.1
  rw [List.take_of_length_le h2] at h1
  refine ⟨h2, fun x hx => ?_⟩
  have := List.all_eq_true.1 h1 x hx
  simpa using this
def AwRes (w : World) (e : Ending) (w' : World) : Prop := e = .returned (.bool true) ∧ Below w.heap.size w w'
def PC (w : World) (p : Proc) (W : World) : Prop := Held w w.heap.size [.int .i64 p.ki, .int .i64 p.fr, .int .i64 p.to_, .int .i64 p.st, .int .i64 p.ep, .int .i64 p.cy, .bool p.dn, .bool p.fa] 26 W
theorem pc_awake {w : World} {p : Proc} (W : World) (h : PC w p W) : Calls Try.prog 12 #[] W fun e w' => e = .returned (.bool true) ∧ PC w p w' := (law_awake W).mono fun _ _ x => ⟨x.1, Held.step h x.2⟩
theorem pc_check {w : World} {p : Proc} {ck : Int} (hc : checkP p = ck) (W : World) (h : PC w p W) : Calls Try.prog 17 #[.agg #[.int .i64 p.ki, .int .i64 p.fr, .int .i64 p.to_, .int .i64 p.st, .int .i64 p.ep, .int .i64 p.cy, .bool p.dn, .bool p.fa]] W fun e w' => e = .returned (.int .i64 ck) ∧ PC w p w' := (sw_Check W p).mono fun _ _ x => ⟨hc ▸ x.1, Held.step h x.2⟩
theorem pc_rcheck {w : World} {p : Proc} {ck : Int} (hc : checkP p = ck) (W : World) (h : PC w p W) : Calls Try.prog 18 #[.agg #[.int .i64 p.ki, .int .i64 p.fr, .int .i64 p.to_, .int .i64 p.st, .int .i64 p.ep, .int .i64 p.cy, .bool p.dn, .bool p.fa]] W fun e w' => e = .returned (.int .i64 ck) ∧ PC w p w' := (ref52_Check W p).mono fun _ _ x => ⟨hc ▸ x.1, Held.step h x.2⟩
theorem take_ten {l : List Site} : (l.take 10).length = min l.length 10 := by rw [List.length_take]; omega
set_option maxHeartbeats 2000000 in
theorem law_SwitchoverNeeds (w : World) (p : Proc) : Calls Try.prog 4 #[.agg #[.int .i64 p.ki, .int .i64 p.fr, .int .i64 p.to_, .int .i64 p.st, .int .i64 p.ep, .int .i64 p.cy, .bool p.dn, .bool p.fa]] w (AwRes w) := by
  have hN := fun w => sw_Need w p
  have hR := fun w => ref52_Need w p
  obtain ⟨nb, hnb⟩ : ∃ x, (needP p).1 = x := ⟨_, rfl⟩
  obtain ⟨ni, hni⟩ : ∃ x, (needP p).2 = x := ⟨_, rfl⟩
  obtain ⟨ck, hck⟩ : ∃ x, checkP p = x := ⟨_, rfl⟩
  rw [hnb, hni] at hN hR
  have HCK := Keep.mk hck
  clear hnb hni hck
  have KP0 := Keep.mk (Held.new (Below.refl w.heap.size w) [.int .i64 p.ki, .int .i64 p.fr, .int .i64 p.to_, .int .i64 p.st, .int .i64 p.ep, .int .i64 p.cy, .bool p.dn, .bool p.fa] 26)
  go_enter Try.func4, Try.ntmps4
  go_wp2_with (first
    | (go_at_call 15; (with_reducible refine (hN _).mono ?_); rintro e w1 ⟨rfl, hB⟩; have KP1 := Keep.mk (KP0.out.step hB); obtain ⟨⟨p0, p1, p2, p3, p4, p5, p6, p7⟩, p8⟩ := KP1.out.c8; clear hB)
    | (go_at_call 16; (with_reducible refine (hR _).mono ?_); rintro e w2 ⟨rfl, hB⟩; have KP2 := Keep.mk (KP1.out.step hB); clear hB p0 p1 p2 p3 p4 p5 p6 p7 p8))
  refine wp_region_class (PC w p) (by kernel_rfl) (by kernel_rfl) (Held.drew KP2.out) ?_
  repeat (first
    | (refine wq_skip (by rfl) ?_; simp only [Act.put, List.setIfInBounds_toArray, List.set_cons_succ, List.set_cons_zero])
    | (refine wq_ran (by rfl) ?_; apply Exists.intro; refine ⟨fun W hW => ?_, ?_⟩; ((((try (have e1 := hW; unfold PC at e1; obtain ⟨⟨p0, p1, p2, p3, p4, p5, p6, p7⟩, p8⟩ := e1.c8))); go_simp; rfl)); simp only [Act.put, List.setIfInBounds_toArray, List.set_cons_succ, List.set_cons_zero])
    | (refine wq_called (by rfl) ?_; apply Exists.intro; apply Exists.intro; apply Exists.intro; refine ⟨fun W hW => ?_, fun W hW => ?_, ?_⟩; ((go_simp; first | rfl | exact ⟨rfl, rfl⟩)); (first | with_reducible exact pc_awake W hW | with_reducible exact pc_check HCK.out W hW | with_reducible exact pc_rcheck HCK.out W hW); simp only [Act.put, List.setIfInBounds_toArray, List.set_cons_succ, List.set_cons_zero]))
  refine wpQuiet_nil ?_
  intro W hW
  go_wp2
  go_ret
  exact ⟨rfl, Held.bel hW⟩
set_option maxHeartbeats 2000000 in
theorem law_SwitchoverBegins (w : World) (A : Option Addr) (c : Nat) (l : List Site) (fr to_ : Int) (h : (l.length ≤ 1000000 → SitesAt 20 w A c l) ∧ SitesAt 20 w A c (l.take 10)) :
    Calls Try.prog 3 #[.slice A l.length c, .int .i64 fr, .int .i64 to_] w (AwRes w) := by
  have HE := eql_proc
  have HT := Keep.mk h.2
  cases hf : (smallS (l.take 10) && decide ((l.length : Int) ≤ 10))
  · have HF := Keep.mk hf
    clear h hf
    go_enter Try.func3, Try.ntmps3
    go_wp2_with (first
      | (go_at_call 11; (with_reducible refine (ref52_Few _ A c l.length 20 (l.take 10) take_ten HT.out).mono ?_); rw [HF.out]; rintro e w1 ⟨rfl, hB⟩; have HB1 := Keep.mk hB; clear hB)
      | (go_at_call 12; (with_reducible refine (law_awake _).mono ?_); rintro e w2 ⟨rfl, hB⟩; have HB2 := Keep.mk (below_then HB1.out hB); clear hB))
    go_ret
    exact ⟨rfl, HB2.out⟩
  · obtain ⟨h10, hB⟩ := few_yes hf
    have HF := Keep.mk hf
    have HC := Keep.mk (h.1 (by omega))
    have HB0 := Keep.mk hB
    clear h hf h10 hB
    obtain ⟨r, hr⟩ : ∃ x, beginS l fr to_ = x := ⟨_, rfl⟩
    obtain ⟨q, e⟩ := r
    have HR := Keep.mk hr
    clear hr
    go_enter Try.func3, Try.ntmps3
    go_wp2_with (first
      | (go_at_call 11; (with_reducible refine (ref52_Few _ A c l.length 20 (l.take 10) take_ten HT.out).mono ?_); rw [HF.out]; rintro e w1 ⟨rfl, hB⟩; have HB1 := Keep.mk hB; clear hB)
      | (go_at_call 13; (with_reducible refine (sw_Begin _ A c 20 l fr to_ HB0.out (HC.out.below HB1.out)).mono ?_); rw [HR.out]; rintro en w2 ⟨rfl, hB⟩; have HB2 := Keep.mk (below_then HB1.out hB); have KA := Keep.mk (Held.new HB2.out [.int .i64 q.ki, .int .i64 q.fr, .int .i64 q.to_, .int .i64 q.st, .int .i64 q.ep, .int .i64 q.cy, .bool q.dn, .bool q.fa] 26); clear hB)
      | (go_at_call 14; (with_reducible refine (ref52_Begin _ A c 20 l fr to_ HB0.out (HC.out.below KA.out.bel)).mono ?_); rw [HR.out]; rintro en w3 ⟨rfl, hB⟩; have KB := Keep.mk ((KA.out.step hB).alloc (.cells #[.int .i64 q.ki, .int .i64 q.fr, .int .i64 q.to_, .int .i64 q.st, .int .i64 q.ep, .int .i64 q.cy, .bool q.dn, .bool q.fa] 26)); have KC := Keep.mk (Held.new (KA.out.step hB).bel [.int .i64 q.ki, .int .i64 q.fr, .int .i64 q.to_, .int .i64 q.st, .int .i64 q.ep, .int .i64 q.cy, .bool q.dn, .bool q.fa] 26); clear hB)
      | (go_at_call 12; (with_reducible refine (law_awake _).mono ?_); rintro en w4 ⟨rfl, hB⟩; have KD := KB.out.step hB; have KE := KC.out.step hB; obtain ⟨⟨p0, p1, p2, p3, p4, p5, p6, p7⟩, p8⟩ := KD.c8; obtain ⟨⟨q0, q1, q2, q3, q4, q5, q6, q7⟩, q8⟩ := KE.c8; have HBD := Keep.mk KD.bel; clear hB KD KE))
    go_ret
    exact ⟨rfl, HBD.out⟩
set_option maxHeartbeats 2000000 in
theorem law_SwitchoverSteps (w : World) (p : Proc) (A : Option Addr) (c : Nat) (l : List Site) (ok : Bool) (v : Int) (h : (l.length ≤ 1000000 → SitesAt 20 w A c l) ∧ SitesAt 20 w A c (l.take 10)) :
    Calls Try.prog 5 #[.agg #[.int .i64 p.ki, .int .i64 p.fr, .int .i64 p.to_, .int .i64 p.st, .int .i64 p.ep, .int .i64 p.cy, .bool p.dn, .bool p.fa], .slice A l.length c, .agg #[.bool ok, .int .i64 v]] w (AwRes w) := by
  have HE := eql_proc
  have HT := Keep.mk h.2
  have K0 := Keep.mk ((Held.new (Below.refl w.heap.size w) [.int .i64 p.ki, .int .i64 p.fr, .int .i64 p.to_, .int .i64 p.st, .int .i64 p.ep, .int .i64 p.cy, .bool p.dn, .bool p.fa] 26).alloc (.cells #[.bool ok, .int .i64 v] 39))
  have J0 := Keep.mk (Held.newN (n := w.heap.size + 1) (below_new (Below.refl w.heap.size w) (.cells #[.int .i64 p.ki, .int .i64 p.fr, .int .i64 p.to_, .int .i64 p.st, .int .i64 p.ep, .int .i64 p.cy, .bool p.dn, .bool p.fa] 26)) [.bool ok, .int .i64 v] 39 (by simp))
  cases hf : (smallS (l.take 10) && decide ((l.length : Int) ≤ 10))
  · have HF := Keep.mk hf
    clear h hf
    go_enter Try.func5, Try.ntmps5
    go_wp2_with (first
      | (go_at_call 11; (with_reducible refine (ref52_Few _ A c l.length 20 (l.take 10) take_ten (HT.out.below K0.out.bel)).mono ?_); rw [HF.out]; rintro e w1 ⟨rfl, hB⟩; have HB1 := Keep.mk (below_then K0.out.bel hB); clear hB)
      | (go_at_call 12; (with_reducible refine (law_awake _).mono ?_); rintro e w2 ⟨rfl, hB⟩; have HB2 := Keep.mk (below_then HB1.out hB); clear hB))
    go_ret
    exact ⟨rfl, HB2.out⟩
  · obtain ⟨h10, hB⟩ := few_yes hf
    have HF := Keep.mk hf
    have HC := Keep.mk (h.1 (by omega))
    have HB0 := Keep.mk hB
    have HC5 := Keep.mk (HC.out.widen (B' := 5864062014634) hB)
    have HB5 := Keep.mk (show ∀ x, x ∈ l → x.li.length ≤ 5864062014634 from fun x hx => Nat.le_trans (hB x hx) (by omega))
    clear h hf h10 hB
    obtain ⟨r, hr⟩ : ∃ x, stepS p l ok v = x := ⟨_, rfl⟩
    obtain ⟨q, l2, e⟩ := r
    have HR := Keep.mk hr
    clear hr
    go_enter Try.func5, Try.ntmps5
    go_wp2_with (first
      | (go_at_call 11; (with_reducible refine (ref52_Few _ A c l.length 20 (l.take 10) take_ten (HT.out.below K0.out.bel)).mono ?_); rw [HF.out]; rintro e w1 ⟨rfl, hB⟩; have K1 := Keep.mk (K0.out.step hB); have J1 := Keep.mk (J0.out.step hB); have j0 := J1.out.cell 0 _ rfl; have j1 := J1.out.cell 1 _ rfl; obtain ⟨⟨p0, p1, p2, p3, p4, p5, p6, p7⟩, p8⟩ := K1.out.c8; clear hB)
      | (go_at_call 19; (with_reducible refine (sw_Step _ p A c 20 l ok v HB0.out (HC.out.below K1.out.bel)).mono ?_); rw [HR.out]; rintro en w2 ⟨A2, c2, m2, rfl, hm, hO, hB⟩; go_loud (have HT2 : TSites w2 A2 c2 l2 := hO.typed hm); go_loud (have hml : m2.length = l2.length := by (have hm2 : m2.map (·.s) = l2 := hm); rw [← hm2, List.length_map]); go_loud (rw [hml]); clear hml hm; have K2 := Keep.mk ((K1.out.step hB).alloc (.cells #[.int .i64 q.ki, .int .i64 q.fr, .int .i64 q.to_, .int .i64 q.st, .int .i64 q.ep, .int .i64 q.cy, .bool q.dn, .bool q.fa] 26)); have J2 := Keep.mk ((J1.out.step hB).alloc (.cells #[.int .i64 q.ki, .int .i64 q.fr, .int .i64 q.to_, .int .i64 q.st, .int .i64 q.ep, .int .i64 q.cy, .bool q.dn, .bool q.fa] 26)); have j0 := J2.out.cell 0 _ rfl; have j1 := J2.out.cell 1 _ rfl; have KA := Keep.mk (Held.new (K1.out.step hB).bel [.int .i64 q.ki, .int .i64 q.fr, .int .i64 q.to_, .int .i64 q.st, .int .i64 q.ep, .int .i64 q.cy, .bool q.dn, .bool q.fa] 26); have HS2 := Keep.mk (HT2.step (below_new (Below.refl _ _) (.cells #[.int .i64 q.ki, .int .i64 q.fr, .int .i64 q.to_, .int .i64 q.st, .int .i64 q.ep, .int .i64 q.cy, .bool q.dn, .bool q.fa] 26))); clear hB hO HT2 p0 p1 p2 p3 p4 p5 p6 p7 p8; obtain ⟨⟨p0, p1, p2, p3, p4, p5, p6, p7⟩, p8⟩ := K2.out.c8)
      | (go_at_call 20; (with_reducible refine (ref52_Step _ p A c l ok v HB5.out (HC5.out.below K2.out.bel)).mono ?_); rw [HR.out]; rintro en w3 ⟨A3, c3, rfl, hS, hF, hB⟩; have KB := Keep.mk ((KA.out.step hB).alloc (.cells #[.int .i64 q.ki, .int .i64 q.fr, .int .i64 q.to_, .int .i64 q.st, .int .i64 q.ep, .int .i64 q.cy, .bool q.dn, .bool q.fa] 26)); have KC := Keep.mk (Held.new (KA.out.step hB).bel [.int .i64 q.ki, .int .i64 q.fr, .int .i64 q.to_, .int .i64 q.st, .int .i64 q.ep, .int .i64 q.cy, .bool q.dn, .bool q.fa] 26); have HS3 := Keep.mk ((HS2.out.step hB).step (below_new (Below.refl _ _) (.cells #[.int .i64 q.ki, .int .i64 q.fr, .int .i64 q.to_, .int .i64 q.st, .int .i64 q.ep, .int .i64 q.cy, .bool q.dn, .bool q.fa] 26))); have HS4 := Keep.mk (And.intro (hS.below (below_new (Below.refl _ _) (.cells #[.int .i64 q.ki, .int .i64 q.fr, .int .i64 q.to_, .int .i64 q.st, .int .i64 q.ep, .int .i64 q.cy, .bool q.dn, .bool q.fa] 26))) hF); clear hB hS hF p0 p1 p2 p3 p4 p5 p6 p7 p8)
      | (go_at_call 12; (with_reducible refine (law_awake _).mono ?_); rintro en w4 ⟨rfl, hB⟩; have KD := KB.out.step hB; have KE := KC.out.step hB; obtain ⟨⟨p0, p1, p2, p3, p4, p5, p6, p7⟩, p8⟩ := KD.c8; obtain ⟨⟨q0, q1, q2, q3, q4, q5, q6, q7⟩, q8⟩ := KE.c8; have HBD := Keep.mk KD.bel; have HS5 := Keep.mk (HS3.out.step hB); have HS6 := Keep.mk (HS4.out.1.below hB); clear hB KD KE)
      | (go_at_call 21; (with_reducible refine (ref_SameAll _ A2 A3 c2 c3 l2 HS4.out.2 (HS5.out.reads _) HS6.out).mono ?_); rintro en w5 ⟨rfl, hB⟩; have HBE := Keep.mk (below_then HBD.out hB); clear hB))
    go_ret
    exact ⟨rfl, HBE.out⟩
set_option maxHeartbeats 2000000 in
theorem law_SwitchoverAborts (w : World) (p : Proc) (A : Option Addr) (c : Nat) (l : List Site) (h : (l.length ≤ 1000000 → SitesAt 20 w A c l) ∧ SitesAt 20 w A c (l.take 10)) :
    Calls Try.prog 6 #[.agg #[.int .i64 p.ki, .int .i64 p.fr, .int .i64 p.to_, .int .i64 p.st, .int .i64 p.ep, .int .i64 p.cy, .bool p.dn, .bool p.fa], .slice A l.length c] w (AwRes w) := by
  have HE := eql_proc
  have HT := Keep.mk h.2
  have K0 := Keep.mk (Held.new (Below.refl w.heap.size w) [.int .i64 p.ki, .int .i64 p.fr, .int .i64 p.to_, .int .i64 p.st, .int .i64 p.ep, .int .i64 p.cy, .bool p.dn, .bool p.fa] 26)
  cases hf : (smallS (l.take 10) && decide ((l.length : Int) ≤ 10))
  · have HF := Keep.mk hf
    clear h hf
    go_enter Try.func6, Try.ntmps6
    go_wp2_with (first
      | (go_at_call 11; (with_reducible refine (ref52_Few _ A c l.length 20 (l.take 10) take_ten (HT.out.below K0.out.bel)).mono ?_); rw [HF.out]; rintro e w1 ⟨rfl, hB⟩; have HB1 := Keep.mk (below_then K0.out.bel hB); clear hB)
      | (go_at_call 12; (with_reducible refine (law_awake _).mono ?_); rintro e w2 ⟨rfl, hB⟩; have HB2 := Keep.mk (below_then HB1.out hB); clear hB))
    go_ret
    exact ⟨rfl, HB2.out⟩
  · obtain ⟨h10, hB⟩ := few_yes hf
    have HF := Keep.mk hf
    have HC := Keep.mk (h.1 (by omega))
    have HB0 := Keep.mk hB
    have HC5 := Keep.mk (HC.out.widen (B' := 5864062014634) hB)
    have HB5 := Keep.mk (show ∀ x, x ∈ l → x.li.length ≤ 5864062014634 from fun x hx => Nat.le_trans (hB x hx) (by omega))
    clear h hf h10 hB
    obtain ⟨r, hr⟩ : ∃ x, abortS p l = x := ⟨_, rfl⟩
    obtain ⟨q, l2, e⟩ := r
    have HR := Keep.mk hr
    clear hr
    go_enter Try.func6, Try.ntmps6
    go_wp2_with (first
      | (go_at_call 11; (with_reducible refine (ref52_Few _ A c l.length 20 (l.take 10) take_ten (HT.out.below K0.out.bel)).mono ?_); rw [HF.out]; rintro e w1 ⟨rfl, hB⟩; have K1 := Keep.mk (K0.out.step hB); obtain ⟨⟨p0, p1, p2, p3, p4, p5, p6, p7⟩, p8⟩ := K1.out.c8; clear hB)
      | (go_at_call 22; (with_reducible refine (sw_Abort _ p A c 20 l HB0.out (HC.out.below K1.out.bel)).mono ?_); rw [HR.out]; rintro en w2 ⟨A2, c2, m2, rfl, hm, hO, hB⟩; go_loud (have HT2 : TSites w2 A2 c2 l2 := hO.typed hm); go_loud (have hml : m2.length = l2.length := by (have hm2 : m2.map (·.s) = l2 := hm); rw [← hm2, List.length_map]); go_loud (rw [hml]); clear hml hm; have K2 := Keep.mk ((K1.out.step hB).alloc (.cells #[.int .i64 q.ki, .int .i64 q.fr, .int .i64 q.to_, .int .i64 q.st, .int .i64 q.ep, .int .i64 q.cy, .bool q.dn, .bool q.fa] 26)); have KA := Keep.mk (Held.new (K1.out.step hB).bel [.int .i64 q.ki, .int .i64 q.fr, .int .i64 q.to_, .int .i64 q.st, .int .i64 q.ep, .int .i64 q.cy, .bool q.dn, .bool q.fa] 26); have HS2 := Keep.mk (HT2.step (below_new (Below.refl _ _) (.cells #[.int .i64 q.ki, .int .i64 q.fr, .int .i64 q.to_, .int .i64 q.st, .int .i64 q.ep, .int .i64 q.cy, .bool q.dn, .bool q.fa] 26))); clear hB hO HT2 p0 p1 p2 p3 p4 p5 p6 p7 p8; obtain ⟨⟨p0, p1, p2, p3, p4, p5, p6, p7⟩, p8⟩ := K2.out.c8)
      | (go_at_call 23; (with_reducible refine (ref52_Abort _ p A c l HB5.out (HC5.out.below K2.out.bel)).mono ?_); rw [HR.out]; rintro en w3 ⟨A3, c3, rfl, hS, hF, hB⟩; have KB := Keep.mk ((KA.out.step hB).alloc (.cells #[.int .i64 q.ki, .int .i64 q.fr, .int .i64 q.to_, .int .i64 q.st, .int .i64 q.ep, .int .i64 q.cy, .bool q.dn, .bool q.fa] 26)); have KC := Keep.mk (Held.new (KA.out.step hB).bel [.int .i64 q.ki, .int .i64 q.fr, .int .i64 q.to_, .int .i64 q.st, .int .i64 q.ep, .int .i64 q.cy, .bool q.dn, .bool q.fa] 26); have HS3 := Keep.mk ((HS2.out.step hB).step (below_new (Below.refl _ _) (.cells #[.int .i64 q.ki, .int .i64 q.fr, .int .i64 q.to_, .int .i64 q.st, .int .i64 q.ep, .int .i64 q.cy, .bool q.dn, .bool q.fa] 26))); have HS4 := Keep.mk (And.intro (hS.below (below_new (Below.refl _ _) (.cells #[.int .i64 q.ki, .int .i64 q.fr, .int .i64 q.to_, .int .i64 q.st, .int .i64 q.ep, .int .i64 q.cy, .bool q.dn, .bool q.fa] 26))) hF); clear hB hS hF p0 p1 p2 p3 p4 p5 p6 p7 p8)
      | (go_at_call 12; (with_reducible refine (law_awake _).mono ?_); rintro en w4 ⟨rfl, hB⟩; have KD := KB.out.step hB; have KE := KC.out.step hB; obtain ⟨⟨p0, p1, p2, p3, p4, p5, p6, p7⟩, p8⟩ := KD.c8; obtain ⟨⟨q0, q1, q2, q3, q4, q5, q6, q7⟩, q8⟩ := KE.c8; have HBD := Keep.mk KD.bel; have HS5 := Keep.mk (HS3.out.step hB); have HS6 := Keep.mk (HS4.out.1.below hB); clear hB KD KE)
      | (go_at_call 21; (with_reducible refine (ref_SameAll _ A2 A3 c2 c3 l2 HS4.out.2 (HS5.out.reads _) HS6.out).mono ?_); rintro en w5 ⟨rfl, hB⟩; have HBE := Keep.mk (below_then HBD.out hB); clear hB))
    go_ret
    exact ⟨rfl, HBE.out⟩
end
section
open Go.RowKit
set_option linter.unusedSimpArgs false
set_option linter.unusedVariables false
set_option maxRecDepth 100000
/-- what is known of a run -/
theorem run_known (w : World) (cy ap : Int) (A : Option Addr) (c : Nat) (l : List (Int × Int)) (cl : Bool) (hcy : 0 ≤ cy ∧ cy ≤ 255) (hap : 0 ≤ ap ∧ ap ≤ 255) (hl : l.length ≤ 1000) (h : EventsAt w A c l) :
    ∃ (r : StS) (N M : Int), Inv r N M ∧ r.cl = r.cl ∧ Calls Try.prog 24 #[.int .u8 cy, .int .u8 ap, .slice A l.length c, .bool cl] w (SStep w r) := by
  have hnb : 0 ≤ cy.tmod 6 ∧ cy.tmod 6 ≤ 5 := by have := Int.tmod_lt_of_pos cy (show (0 : Int) < 6 by omega); have := Int.tmod_nonneg (6 : Int) hcy.1; omega
  have hmb : 0 ≤ ap.tmod (cy.tmod 6 + 1) ∧ ap.tmod (cy.tmod 6 + 1) ≤ cy.tmod 6 := by have := Int.tmod_lt_of_pos ap (show 0 < cy.tmod 6 + 1 by omega); have := Int.tmod_nonneg (cy.tmod 6 + 1) hap.1; omega
  obtain ⟨N, M, hI, -, -⟩ := inv_run cl hmb l (by omega)
  exact ⟨_, N, M, hI, rfl, law_run w cy ap A c l cl _ _ hcy hap rfl rfl hl h⟩
theorem EventsAt.below {w w' : World} {A : Option Addr} {c : Nat} {l : List (Int × Int)} (h : EventsAt w A c l) (hB : Below w.heap.size w w') : EventsAt w' A c l := by
  refine ⟨h.1, h.2.1, fun hp => ?_⟩
  obtain ⟨b, o, e, hc⟩ := h.2.2 hp
  refine ⟨b, o, e, fun i hi => ?_⟩
  have hlt : b < w.heap.size := World.block_lt_of_cell? _ _ (hc i hi).1
  exact ⟨(hB.cell (p := ⟨b, _, none⟩) hlt).trans (hc i hi).1, (hB.cell (p := ⟨b, _, none⟩) hlt).trans (hc i hi).2⟩
theorem EventsAt.take {w : World} {A : Option Addr} {c : Nat} {l : List (Int × Int)} (h : EventsAt w A c l) (n : Nat) : EventsAt w A c (l.take n) := by
  refine ⟨by have := h.1; simp; omega, by have := h.2.1; simp; omega, fun hp => ?_⟩
  obtain ⟨b, o, e, hs⟩ := h.2.2 (by simp at hp; omega)
  refine ⟨b, o, e, fun i hi => ?_⟩
  have hi' : i < l.length ∧ i < n := by simp at hi; omega
  have : (l.take n).getD i (0, 0) = l.getD i (0, 0) := by simp [List.getD_eq_getElem?_getD, List.getElem?_take, hi'.2]
  rw [this]
  exact hs i hi'.1
/-- what the last statement of SwitchoverKeeps reads -/
structure KK (w : World) (gk : Nat) (ep M : Int) (rcl : Bool) (b b' : Nat) (c1 c2 : Nat) (D1 D3 E1 E3 : Option Addr) (d1 d3 e1 e3 : Nat) (W : World) : Prop where
  hs : Held w gk [.int .i64 (StS.mk (Proc.mk 1 0 1 5 ep M true false) [siteD M ep, siteP M ep] M (pairS M M) rcl true).p.ki, .int .i64 (StS.mk (Proc.mk 1 0 1 5 ep M true false) [siteD M ep, siteP M ep] M (pairS M M) rcl true).p.fr, .int .i64 (StS.mk (Proc.mk 1 0 1 5 ep M true false) [siteD M ep, siteP M ep] M (pairS M M) rcl true).p.to_, .int .i64 (StS.mk (Proc.mk 1 0 1 5 ep M true false) [siteD M ep, siteP M ep] M (pairS M M) rcl true).p.st, .int .i64 (StS.mk (Proc.mk 1 0 1 5 ep M true false) [siteD M ep, siteP M ep] M (pairS M M) rcl true).p.ep, .int .i64 (StS.mk (Proc.mk 1 0 1 5 ep M true false) [siteD M ep, siteP M ep] M (pairS M M) rcl true).p.cy, .bool (StS.mk (Proc.mk 1 0 1 5 ep M true false) [siteD M ep, siteP M ep] M (pairS M M) rcl true).p.dn, .bool (StS.mk (Proc.mk 1 0 1 5 ep M true false) [siteD M ep, siteP M ep] M (pairS M M) rcl true).p.fa, .slice (some ⟨b, 0, none⟩) (StS.mk (Proc.mk 1 0 1 5 ep M true false) [siteD M ep, siteP M ep] M (pairS M M) rcl true).l.length c1, .int .i64 (StS.mk (Proc.mk 1 0 1 5 ep M true false) [siteD M ep, siteP M ep] M (pairS M M) rcl true).cy, .slice (some ⟨b', 0, none⟩) (StS.mk (Proc.mk 1 0 1 5 ep M true false) [siteD M ep, siteP M ep] M (pairS M M) rcl true).old.length c2, .bool (StS.mk (Proc.mk 1 0 1 5 ep M true false) [siteD M ep, siteP M ep] M (pairS M M) rcl true).cl, .bool (StS.mk (Proc.mk 1 0 1 5 ep M true false) [siteD M ep, siteP M ep] M (pairS M M) rcl true).ri] 51 W
  cx : W.cell? ⟨b, 0, none⟩ = some (.int .i64 (Site.mk 0 2 ep M (liS M) 1 true true).nu) ∧ W.cell? ⟨b, 1, none⟩ = some (.int .i64 (Site.mk 0 2 ep M (liS M) 1 true true).ro) ∧ W.cell? ⟨b, 2, none⟩ = some (.int .i64 (Site.mk 0 2 ep M (liS M) 1 true true).ep) ∧ W.cell? ⟨b, 3, none⟩ = some (.int .i64 (Site.mk 0 2 ep M (liS M) 1 true true).ap) ∧ W.cell? ⟨b, 4, none⟩ = some (.slice D1 (Site.mk 0 2 ep M (liS M) 1 true true).li.length d1) ∧ W.cell? ⟨b, 5, none⟩ = some (.int .i64 (Site.mk 0 2 ep M (liS M) 1 true true).so) ∧ W.cell? ⟨b, 6, none⟩ = some (.bool (Site.mk 0 2 ep M (liS M) 1 true true).al) ∧ W.cell? ⟨b, 7, none⟩ = some (.bool (Site.mk 0 2 ep M (liS M) 1 true true).co)
  cy : W.cell? ⟨b, 8, none⟩ = some (.int .i64 (Site.mk 1 1 ep M (liS M) (-1) true true).nu) ∧ W.cell? ⟨b, 9, none⟩ = some (.int .i64 (Site.mk 1 1 ep M (liS M) (-1) true true).ro) ∧ W.cell? ⟨b, 10, none⟩ = some (.int .i64 (Site.mk 1 1 ep M (liS M) (-1) true true).ep) ∧ W.cell? ⟨b, 11, none⟩ = some (.int .i64 (Site.mk 1 1 ep M (liS M) (-1) true true).ap) ∧ W.cell? ⟨b, 12, none⟩ = some (.slice D3 (Site.mk 1 1 ep M (liS M) (-1) true true).li.length d3) ∧ W.cell? ⟨b, 13, none⟩ = some (.int .i64 (Site.mk 1 1 ep M (liS M) (-1) true true).so) ∧ W.cell? ⟨b, 14, none⟩ = some (.bool (Site.mk 1 1 ep M (liS M) (-1) true true).al) ∧ W.cell? ⟨b, 15, none⟩ = some (.bool (Site.mk 1 1 ep M (liS M) (-1) true true).co)
  ox : W.cell? ⟨b', 0, none⟩ = some (.int .i64 (Site.mk 0 1 1 M (liS M) (-1) true true).nu) ∧ W.cell? ⟨b', 1, none⟩ = some (.int .i64 (Site.mk 0 1 1 M (liS M) (-1) true true).ro) ∧ W.cell? ⟨b', 2, none⟩ = some (.int .i64 (Site.mk 0 1 1 M (liS M) (-1) true true).ep) ∧ W.cell? ⟨b', 3, none⟩ = some (.int .i64 (Site.mk 0 1 1 M (liS M) (-1) true true).ap) ∧ W.cell? ⟨b', 4, none⟩ = some (.slice E1 (Site.mk 0 1 1 M (liS M) (-1) true true).li.length e1) ∧ W.cell? ⟨b', 5, none⟩ = some (.int .i64 (Site.mk 0 1 1 M (liS M) (-1) true true).so) ∧ W.cell? ⟨b', 6, none⟩ = some (.bool (Site.mk 0 1 1 M (liS M) (-1) true true).al) ∧ W.cell? ⟨b', 7, none⟩ = some (.bool (Site.mk 0 1 1 M (liS M) (-1) true true).co)
  ty : TL W D3 d3 (liS M)
  tx : TL W E1 e1 (liS M)
theorem KK.step {w W W' : World} {gk : Nat} {ep M : Int} {rcl : Bool} {b b' : Nat} {c1 c2 : Nat} {D1 D3 E1 E3 : Option Addr} {d1 d3 e1 e3 : Nat} (h : KK w gk ep M rcl b b' c1 c2 D1 D3 E1 E3 d1 d3 e1 e3 W) (hB : Below W.heap.size W W') : KK w gk ep M rcl b b' c1 c2 D1 D3 E1 E3 d1 d3 e1 e3 W' := by
  obtain ⟨x0, x1, x2, x3, x4, x5, x6, x7⟩ := h.cx
  obtain ⟨y0, y1, y2, y3, y4, y5, y6, y7⟩ := h.cy
  obtain ⟨z0, z1, z2, z3, z4, z5, z6, z7⟩ := h.ox
  have k : ∀ g j v, W.cell? ⟨g, j, none⟩ = some v → W'.cell? ⟨g, j, none⟩ = some v := fun g j v hv => (hB.cell (p := ⟨g, j, none⟩) (World.block_lt_of_cell? _ _ hv)).trans hv
  exact ⟨h.hs.step hB, ⟨k _ _ _ x0, k _ _ _ x1, k _ _ _ x2, k _ _ _ x3, k _ _ _ x4, k _ _ _ x5, k _ _ _ x6, k _ _ _ x7⟩, ⟨k _ _ _ y0, k _ _ _ y1, k _ _ _ y2, k _ _ _ y3, k _ _ _ y4, k _ _ _ y5, k _ _ _ y6, k _ _ _ y7⟩, ⟨k _ _ _ z0, k _ _ _ z1, k _ _ _ z2, k _ _ _ z3, k _ _ _ z4, k _ _ _ z5, k _ _ _ z6, k _ _ _ z7⟩, h.ty.step hB, h.tx.step hB⟩
theorem kk_awake {w : World} {gk : Nat} {ep M : Int} {rcl : Bool} {b b' : Nat} {c1 c2 : Nat} {D1 D3 E1 E3 : Option Addr} {d1 d3 e1 e3 : Nat} (W : World) (h : KK w gk ep M rcl b b' c1 c2 D1 D3 E1 E3 d1 d3 e1 e3 W) : Calls Try.prog 12 #[] W fun e w' => e = .returned (.bool true) ∧ KK w gk ep M rcl b b' c1 c2 D1 D3 E1 E3 d1 d3 e1 e3 w' := (law_awake W).mono fun _ _ x => ⟨x.1, h.step x.2⟩
theorem kk_same {w : World} {gk : Nat} {ep M : Int} {rcl : Bool} {b b' : Nat} {c1 c2 : Nat} {D1 D3 E1 E3 : Option Addr} {d1 d3 e1 e3 : Nat} (W : World) (h : KK w gk ep M rcl b b' c1 c2 D1 D3 E1 E3 d1 d3 e1 e3 W) : Calls Try.prog 26 #[.slice D3 (liS M).length d3, .slice E1 (liS M).length e1] W fun e w' => e = .returned (.bool true) ∧ KK w gk ep M rcl b b' c1 c2 D1 D3 E1 E3 d1 d3 e1 e3 w' :=
  (ref_SameLineage W D3 E1 d3 e1 (liS M) (liS M) h.ty.reads h.tx.reads).mono fun _ _ x => ⟨(sameL_iff (liS M) (liS M)).2 rfl ▸ x.1, h.step x.2⟩
set_option maxHeartbeats 4000000 in
theorem law_SwitchoverKeeps (w : World) (cy ap : Int) (A : Option Addr) (c : Nat) (l : List (Int × Int)) (hcy : 0 ≤ cy ∧ cy ≤ 255) (hap : 0 ≤ ap ∧ ap ≤ 255) (h : l.length ≤ 1000000 → EventsAt w A c l) :
    Calls Try.prog 8 #[.int .u8 cy, .int .u8 ap, .slice A l.length c] w (AwRes w) := by
  by_cases hl : l.length ≤ 40
  case neg =>
    have h40 : decide (40 < (l.length : Int)) = true := by simp; omega
    clear h hl
    go_enter Try.func8, Try.ntmps8
    go_wp2_with (first | (go_at_call 12; (with_reducible refine (law_awake _).mono ?_); rintro e w2 ⟨rfl, hB⟩; have HB2 := Keep.mk hB; clear hB))
    go_ret
    exact ⟨rfl, HB2.out⟩
  have h40 : decide (40 < (l.length : Int)) = false := by simp; omega
  have HC := Keep.mk (h (by omega))
  have HL := Keep.mk hl
  clear h hl
  obtain ⟨r, N, M, hI, -, hrun⟩ := run_known w cy ap A c l true hcy hap (by have := HL.out; omega) HC.out
  have HR := Keep.mk hrun
  clear hrun hcy hap
  obtain ⟨p, rl, rcy, old, rcl, ri⟩ := r
  obtain ⟨hri, hrc, h0, h1, h2, hph⟩ := hI
  simp only at hri hrc
  subst hri hrc
  cases hph with
  | before st ep cy' fa hp hl hst hep hcy =>
    simp only at hp hl
    subst hp hl
    clear hst hep hcy h0 h1 h2
    go_enter Try.func8, Try.ntmps8
    go_wp2_with (first
      | (go_at_call 24; (with_reducible refine HR.out.mono ?_); rintro en w1 ⟨A1, c1, A2, c2, rfl, hT, hO, hB⟩; have KS := Keep.mk (Held.new hB [.int .i64 (StS.mk (Proc.mk 1 0 1 st ep cy' false fa) (pairS rcy M) rcy old rcl true).p.ki, .int .i64 (StS.mk (Proc.mk 1 0 1 st ep cy' false fa) (pairS rcy M) rcy old rcl true).p.fr, .int .i64 (StS.mk (Proc.mk 1 0 1 st ep cy' false fa) (pairS rcy M) rcy old rcl true).p.to_, .int .i64 (StS.mk (Proc.mk 1 0 1 st ep cy' false fa) (pairS rcy M) rcy old rcl true).p.st, .int .i64 (StS.mk (Proc.mk 1 0 1 st ep cy' false fa) (pairS rcy M) rcy old rcl true).p.ep, .int .i64 (StS.mk (Proc.mk 1 0 1 st ep cy' false fa) (pairS rcy M) rcy old rcl true).p.cy, .bool (StS.mk (Proc.mk 1 0 1 st ep cy' false fa) (pairS rcy M) rcy old rcl true).p.dn, .bool (StS.mk (Proc.mk 1 0 1 st ep cy' false fa) (pairS rcy M) rcy old rcl true).p.fa, .slice A1 (StS.mk (Proc.mk 1 0 1 st ep cy' false fa) (pairS rcy M) rcy old rcl true).l.length c1, .int .i64 (StS.mk (Proc.mk 1 0 1 st ep cy' false fa) (pairS rcy M) rcy old rcl true).cy, .slice A2 (StS.mk (Proc.mk 1 0 1 st ep cy' false fa) (pairS rcy M) rcy old rcl true).old.length c2, .bool (StS.mk (Proc.mk 1 0 1 st ep cy' false fa) (pairS rcy M) rcy old rcl true).cl, .bool (StS.mk (Proc.mk 1 0 1 st ep cy' false fa) (pairS rcy M) rcy old rcl true).ri] 51); clear hT hO hB)
      | (go_at_call 12; (with_reducible refine (law_awake _).mono ?_); rintro en w2 ⟨rfl, hB⟩; have K2 := Keep.mk (KS.out.step hB); have p0 := K2.out.cell 0 _ rfl; have p1 := K2.out.cell 1 _ rfl; have p2 := K2.out.cell 2 _ rfl; have p3 := K2.out.cell 3 _ rfl; have p4 := K2.out.cell 4 _ rfl; have p5 := K2.out.cell 5 _ rfl; have p6 := K2.out.cell 6 _ rfl; have p7 := K2.out.cell 7 _ rfl; have p8 := K2.out.cell 8 _ rfl; have p9 := K2.out.cell 9 _ rfl; have p10 := K2.out.cell 10 _ rfl; have p11 := K2.out.cell 11 _ rfl; have p12 := K2.out.cell 12 _ rfl; have pz := K2.out.frozen; clear hB))
    go_ret
    exact ⟨rfl, K2.out.bel⟩
  | demoted ep hp hl hep hM ho =>
    simp only at hp hl ho
    subst hp hl ho hM
    clear hep h0 h1 h2
    go_enter Try.func8, Try.ntmps8
    go_wp2_with (first
      | (go_at_call 24; (with_reducible refine HR.out.mono ?_); rintro en w1 ⟨A1, c1, A2, c2, rfl, hT, hO, hB⟩; have KS := Keep.mk (Held.new hB [.int .i64 (StS.mk (Proc.mk 1 0 1 4 ep M false false) [siteD M ep, siteB M] M (pairS M M) rcl true).p.ki, .int .i64 (StS.mk (Proc.mk 1 0 1 4 ep M false false) [siteD M ep, siteB M] M (pairS M M) rcl true).p.fr, .int .i64 (StS.mk (Proc.mk 1 0 1 4 ep M false false) [siteD M ep, siteB M] M (pairS M M) rcl true).p.to_, .int .i64 (StS.mk (Proc.mk 1 0 1 4 ep M false false) [siteD M ep, siteB M] M (pairS M M) rcl true).p.st, .int .i64 (StS.mk (Proc.mk 1 0 1 4 ep M false false) [siteD M ep, siteB M] M (pairS M M) rcl true).p.ep, .int .i64 (StS.mk (Proc.mk 1 0 1 4 ep M false false) [siteD M ep, siteB M] M (pairS M M) rcl true).p.cy, .bool (StS.mk (Proc.mk 1 0 1 4 ep M false false) [siteD M ep, siteB M] M (pairS M M) rcl true).p.dn, .bool (StS.mk (Proc.mk 1 0 1 4 ep M false false) [siteD M ep, siteB M] M (pairS M M) rcl true).p.fa, .slice A1 (StS.mk (Proc.mk 1 0 1 4 ep M false false) [siteD M ep, siteB M] M (pairS M M) rcl true).l.length c1, .int .i64 (StS.mk (Proc.mk 1 0 1 4 ep M false false) [siteD M ep, siteB M] M (pairS M M) rcl true).cy, .slice A2 (StS.mk (Proc.mk 1 0 1 4 ep M false false) [siteD M ep, siteB M] M (pairS M M) rcl true).old.length c2, .bool (StS.mk (Proc.mk 1 0 1 4 ep M false false) [siteD M ep, siteB M] M (pairS M M) rcl true).cl, .bool (StS.mk (Proc.mk 1 0 1 4 ep M false false) [siteD M ep, siteB M] M (pairS M M) rcl true).ri] 51); clear hT hO hB)
      | (go_at_call 12; (with_reducible refine (law_awake _).mono ?_); rintro en w2 ⟨rfl, hB⟩; have K2 := Keep.mk (KS.out.step hB); have p0 := K2.out.cell 0 _ rfl; have p1 := K2.out.cell 1 _ rfl; have p2 := K2.out.cell 2 _ rfl; have p3 := K2.out.cell 3 _ rfl; have p4 := K2.out.cell 4 _ rfl; have p5 := K2.out.cell 5 _ rfl; have p6 := K2.out.cell 6 _ rfl; have p7 := K2.out.cell 7 _ rfl; have p8 := K2.out.cell 8 _ rfl; have p9 := K2.out.cell 9 _ rfl; have p10 := K2.out.cell 10 _ rfl; have p11 := K2.out.cell 11 _ rfl; have p12 := K2.out.cell 12 _ rfl; have pz := K2.out.frozen; clear hB))
    go_ret
    exact ⟨rfl, K2.out.bel⟩
  | done ep hp hl hep hM ho =>
    simp only at hp hl ho
    subst hp hl ho hM
    clear hep h0 h1 h2
    go_enter Try.func8, Try.ntmps8
    go_upto_region 8 with (first
      | (go_at_call 24; (with_reducible refine HR.out.mono ?_); rintro en w1 ⟨A1, c1, A2, c2, rfl, hT, hO, hB⟩; have KS := Keep.mk (Held.new hB [.int .i64 (StS.mk (Proc.mk 1 0 1 5 ep M true false) [siteD M ep, siteP M ep] M (pairS M M) rcl true).p.ki, .int .i64 (StS.mk (Proc.mk 1 0 1 5 ep M true false) [siteD M ep, siteP M ep] M (pairS M M) rcl true).p.fr, .int .i64 (StS.mk (Proc.mk 1 0 1 5 ep M true false) [siteD M ep, siteP M ep] M (pairS M M) rcl true).p.to_, .int .i64 (StS.mk (Proc.mk 1 0 1 5 ep M true false) [siteD M ep, siteP M ep] M (pairS M M) rcl true).p.st, .int .i64 (StS.mk (Proc.mk 1 0 1 5 ep M true false) [siteD M ep, siteP M ep] M (pairS M M) rcl true).p.ep, .int .i64 (StS.mk (Proc.mk 1 0 1 5 ep M true false) [siteD M ep, siteP M ep] M (pairS M M) rcl true).p.cy, .bool (StS.mk (Proc.mk 1 0 1 5 ep M true false) [siteD M ep, siteP M ep] M (pairS M M) rcl true).p.dn, .bool (StS.mk (Proc.mk 1 0 1 5 ep M true false) [siteD M ep, siteP M ep] M (pairS M M) rcl true).p.fa, .slice A1 (StS.mk (Proc.mk 1 0 1 5 ep M true false) [siteD M ep, siteP M ep] M (pairS M M) rcl true).l.length c1, .int .i64 (StS.mk (Proc.mk 1 0 1 5 ep M true false) [siteD M ep, siteP M ep] M (pairS M M) rcl true).cy, .slice A2 (StS.mk (Proc.mk 1 0 1 5 ep M true false) [siteD M ep, siteP M ep] M (pairS M M) rcl true).old.length c2, .bool (StS.mk (Proc.mk 1 0 1 5 ep M true false) [siteD M ep, siteP M ep] M (pairS M M) rcl true).cl, .bool (StS.mk (Proc.mk 1 0 1 5 ep M true false) [siteD M ep, siteP M ep] M (pairS M M) rcl true).ri] 51); have HT := Keep.mk (And.intro hT hO); clear hT hO hB))
    obtain ⟨b, D1, d1, D3, d3, hA, x, y, tx, ty⟩ := (HT.out.1.step (below_new (Below.refl _ _) (.cells #[.int .i64 (StS.mk (Proc.mk 1 0 1 5 ep M true false) [siteD M ep, siteP M ep] M (pairS M M) rcl true).p.ki, .int .i64 (StS.mk (Proc.mk 1 0 1 5 ep M true false) [siteD M ep, siteP M ep] M (pairS M M) rcl true).p.fr, .int .i64 (StS.mk (Proc.mk 1 0 1 5 ep M true false) [siteD M ep, siteP M ep] M (pairS M M) rcl true).p.to_, .int .i64 (StS.mk (Proc.mk 1 0 1 5 ep M true false) [siteD M ep, siteP M ep] M (pairS M M) rcl true).p.st, .int .i64 (StS.mk (Proc.mk 1 0 1 5 ep M true false) [siteD M ep, siteP M ep] M (pairS M M) rcl true).p.ep, .int .i64 (StS.mk (Proc.mk 1 0 1 5 ep M true false) [siteD M ep, siteP M ep] M (pairS M M) rcl true).p.cy, .bool (StS.mk (Proc.mk 1 0 1 5 ep M true false) [siteD M ep, siteP M ep] M (pairS M M) rcl true).p.dn, .bool (StS.mk (Proc.mk 1 0 1 5 ep M true false) [siteD M ep, siteP M ep] M (pairS M M) rcl true).p.fa, .slice A1 (StS.mk (Proc.mk 1 0 1 5 ep M true false) [siteD M ep, siteP M ep] M (pairS M M) rcl true).l.length c1, .int .i64 (StS.mk (Proc.mk 1 0 1 5 ep M true false) [siteD M ep, siteP M ep] M (pairS M M) rcl true).cy, .slice A2 (StS.mk (Proc.mk 1 0 1 5 ep M true false) [siteD M ep, siteP M ep] M (pairS M M) rcl true).old.length c2, .bool (StS.mk (Proc.mk 1 0 1 5 ep M true false) [siteD M ep, siteP M ep] M (pairS M M) rcl true).cl, .bool (StS.mk (Proc.mk 1 0 1 5 ep M true false) [siteD M ep, siteP M ep] M (pairS M M) rcl true).ri] 51))).two rfl
    obtain ⟨b', E1, e1, E3, e3, hA', x', y', tx', ty'⟩ := (HT.out.2.step (below_new (Below.refl _ _) (.cells #[.int .i64 (StS.mk (Proc.mk 1 0 1 5 ep M true false) [siteD M ep, siteP M ep] M (pairS M M) rcl true).p.ki, .int .i64 (StS.mk (Proc.mk 1 0 1 5 ep M true false) [siteD M ep, siteP M ep] M (pairS M M) rcl true).p.fr, .int .i64 (StS.mk (Proc.mk 1 0 1 5 ep M true false) [siteD M ep, siteP M ep] M (pairS M M) rcl true).p.to_, .int .i64 (StS.mk (Proc.mk 1 0 1 5 ep M true false) [siteD M ep, siteP M ep] M (pairS M M) rcl true).p.st, .int .i64 (StS.mk (Proc.mk 1 0 1 5 ep M true false) [siteD M ep, siteP M ep] M (pairS M M) rcl true).p.ep, .int .i64 (StS.mk (Proc.mk 1 0 1 5 ep M true false) [siteD M ep, siteP M ep] M (pairS M M) rcl true).p.cy, .bool (StS.mk (Proc.mk 1 0 1 5 ep M true false) [siteD M ep, siteP M ep] M (pairS M M) rcl true).p.dn, .bool (StS.mk (Proc.mk 1 0 1 5 ep M true false) [siteD M ep, siteP M ep] M (pairS M M) rcl true).p.fa, .slice A1 (StS.mk (Proc.mk 1 0 1 5 ep M true false) [siteD M ep, siteP M ep] M (pairS M M) rcl true).l.length c1, .int .i64 (StS.mk (Proc.mk 1 0 1 5 ep M true false) [siteD M ep, siteP M ep] M (pairS M M) rcl true).cy, .slice A2 (StS.mk (Proc.mk 1 0 1 5 ep M true false) [siteD M ep, siteP M ep] M (pairS M M) rcl true).old.length c2, .bool (StS.mk (Proc.mk 1 0 1 5 ep M true false) [siteD M ep, siteP M ep] M (pairS M M) rcl true).cl, .bool (StS.mk (Proc.mk 1 0 1 5 ep M true false) [siteD M ep, siteP M ep] M (pairS M M) rcl true).ri] 51))).two rfl
    subst hA hA'
    have HK := Keep.mk (show KK w w1.heap.size ep M rcl b b' c1 c2 D1 D3 E1 E3 d1 d3 e1 e3 _ from ⟨KS.out, x, y, x', ty, tx'⟩)
    clear x y x' y' tx ty tx' ty' HT KS
    simp only [List.append_eq, List.cons_append, List.nil_append]
    refine wp_region_class (KK w w1.heap.size ep M rcl b b' c1 c2 D1 D3 E1 E3 d1 d3 e1 e3) (by kernel_rfl) (by kernel_rfl) (KK.step HK.out (below_drew (Below.refl _ _))) ?_
    repeat (first
      | (refine wq_skip (by rfl) ?_; simp only [Act.put, List.setIfInBounds_toArray, List.set_cons_succ, List.set_cons_zero])
      | (refine wq_ran (by rfl) ?_; apply Exists.intro; refine ⟨fun W hW => ?_, ?_⟩; ((((have e1' := hW.hs; have p0 := e1'.cell 0 _ rfl; have p1 := e1'.cell 1 _ rfl; have p2 := e1'.cell 2 _ rfl; have p3 := e1'.cell 3 _ rfl; have p4 := e1'.cell 4 _ rfl; have p5 := e1'.cell 5 _ rfl; have p6 := e1'.cell 6 _ rfl; have p7 := e1'.cell 7 _ rfl; have p8 := e1'.cell 8 _ rfl; have p9 := e1'.cell 9 _ rfl; have p10 := e1'.cell 10 _ rfl; have p11 := e1'.cell 11 _ rfl; have p12 := e1'.cell 12 _ rfl; obtain ⟨x0, x1, x2, x3, x4, x5, x6, x7⟩ := hW.cx; obtain ⟨y0, y1, y2, y3, y4, y5, y6, y7⟩ := hW.cy; obtain ⟨z0, z1, z2, z3, z4, z5, z6, z7⟩ := hW.ox; (try simp only at x1 x2 x3 x4 x5 y1 y2 y3 y4 y5 z3 z4))); go_simp; rfl)); simp only [Act.put, List.setIfInBounds_toArray, List.set_cons_succ, List.set_cons_zero])
      | (refine wq_called (by rfl) ?_; apply Exists.intro; apply Exists.intro; apply Exists.intro; refine ⟨fun W hW => ?_, fun W hW => ?_, ?_⟩; ((go_simp; first | rfl | exact ⟨rfl, rfl⟩)); (first | with_reducible exact kk_awake W hW | with_reducible exact kk_same W hW | exact kk_same W hW); simp only [Act.put, List.setIfInBounds_toArray, List.set_cons_succ, List.set_cons_zero]))
    refine wpQuiet_nil ?_
    intro W hW
    go_wp2
    go_ret
    exact ⟨rfl, hW.hs.bel⟩
end
section
open Go.ChangeShapes Go.WideShapes Go.ChangeAt Go.RowKit
set_option linter.unusedVariables false
theorem switchoverKeeps_own : ownKnob Try.prog.godebug = none := by kernel_rfl
theorem switchoverKeeps_laidOut : laidOutB Try.prog = true := by kernel_rfl
set_option maxRecDepth 100000 in
theorem switchoverKeeps_lifted (os : Os) (started : os.Started) (H : Type) (enc : TypeId × Value → H) :
    ReturnsInHanded {} Try.checked os 8 .any (Rows.switchoverKeepsSpec.pre6 enc Try.prog Try.f8 Rows.switchoverKeepsRow.domain false) (Rows.switchoverKeepsSpec.post enc Try.prog Try.f8 false true false false) := by
  refine returnsInHanded_of_change (C := Try.checked) switchoverKeeps_own started (by kernel_rfl) Try.func8
    (ChangeSpec.witness6 (enc := enc) (C := Try.checked) false ⟨#[], #[.int .u8 0, .int .u8 0, .slice none 0 0], []⟩ 8 (by kernel_rfl) (by kernel_rfl) (by kernel_rfl) (by kernel_rfl)) ?_
  intro W base args ds gs before hval0 hW hcnd _
  have hval : ∀ (j : Nat) t v, Try.f8.params[j]? = some t → args[j]? = some v → Value.okWide Try.prog W .any base t v := hval0
  have hW' := hW
  obtain ⟨p, q, hA0, hV, rfl, hfz, hnd⟩ := hW
  have hA : DataW.TrodAll enc Try.prog W 0 (fun _ => true) true Try.f8.params.toList args.toList ds p := hA0
  rw [Try.params8] at hA hval
  obtain ⟨v0, vs0, d0, ds0, p0, q0, hargs, rfl, rfl, h0, r0⟩ := trodAll_cons hA
  obtain ⟨v1, vs1, d1, ds1, p1, q1, rfl, rfl, rfl, h1, r1⟩ := trodAll_cons r0
  obtain ⟨v2, vs2, d2, ds2, p2, q2, rfl, rfl, rfl, h2, r2⟩ := trodAll_cons r1
  obtain ⟨rfl, rfl, rfl⟩ := trodAll_nil r2
  obtain rfl : args = #[v0, v1, v2] := by cases args; simp_all
  obtain ⟨rfl, rfl⟩ := trodVars_none hV
  obtain ⟨a0, rfl, rfl, rfl, w0⟩ := open_int Try.underlying5 (hval 0 5 v0 rfl rfl) h0
  obtain ⟨a1, rfl, rfl, rfl, w1⟩ := open_int Try.underlying5 (hval 1 5 v1 rfl rfl) h1
  have k2 := h2
  have lt2 : ∀ x ∈ p2, x.block < W.heap.size := by obtain ⟨m, hm⟩ := k2; exact DataW.trod_lt m _ _ _ hm
  obtain ⟨A2, c2, l2, hv2, hl2⟩ := open_events (hval 2 49 v2 rfl rfl) h2
  subst hv2
  clear hA0 hval0
  refine (law_SwitchoverKeeps W a0 a1 A2 c2 l2 (u8_range w0) (u8_range w1) hl2).mono fun e W' ⟨he, bel⟩ => ?_
  subst he
  exact ⟨_, rfl, _, _, _, [], _, [], hW', trodAll_mk1 (shut_bool Try.underlying4 _), (trodAll_cons_mk (shut_int Try.underlying5 w0) (trodAll_cons_mk (shut_int Try.underlying5 w1) (trodAll_cons_mk (Below.trod switchoverKeeps_laidOut (by kernel_rfl) (of_decide_eq_true (by kernel_rfl)) k2 bel lt2) trodAll_mk0))), rfl, bel.frame _, fun h => by cases h⟩
/-- SwitchoverKeeps: whatever the input, the call returns true, and the input reads as it did. No condition. -/
theorem switchoverKeeps_holds : Rows.SwitchoverKeepsSaid :=
  OpenClaim.holds_of_wide 8 Try.f8 rfl rfl rfl rfl rfl rfl rfl ⟨rfl, rfl, rfl, rfl, rfl⟩ rfl rfl rfl rfl rfl (by kernel_rfl) Try.func8 (by kernel_rfl)
    (of_decide_eq_true (by kernel_rfl)) (by unfold Func.isWrapper; first | (rw [if_pos (by decide +kernel)]; kernel_rfl) | (rw [if_neg (by decide +kernel)]; exact ⟨rfl, rfl⟩))
    (fun os started H enc _ => switchoverKeeps_lifted os started H enc)
#print axioms switchoverKeeps_holds
end
end Go.Proofs.Ytijhkgabonkmfaa
