/- Contract: role.Synced. -/
import Derived.Test.YtfkdcjkkmfhalaaRoleJ
import Derived.Test.YtfkdcjkkmfhalaaRoleK
import Derived.RegionTactic
import Derived.StillTailTactics
import Derived.ChangeAlike
namespace Go.Proofs.Ytfkdcjkkmfhalaa
open Go.RowKit
set_option linter.unusedSimpArgs false
set_option linter.unusedVariables false
def mnI (x y : Int) : Int := if y < x then y else x
theorem min2_mn (k k' : IntKind) (x y : Int) : Builtin.min2 (.int k x) (.int k' y) = pure (.int k (mnI x y)) := min2_int k k' x y
theorem mnI_min (x y : Int) : mnI x y = min x y := by unfold mnI; rw [Int.min_def]; split <;> split <;> omega
attribute [local go_sem] min2_mn min_two
theorem corr_fr : ∀ (l : List Span) (pe pt : Int), corr l pe pt = true → ∀ j, j < l.length → pt < (l.getD j .z).fr := by
  intro l
  induction l with
  | nil => intro _ _ _ j h; simp at h
  | cons x r ih =>
    intro pe pt hc j hj
    simp only [corr, Bool.and_eq_true, decide_eq_true_eq] at hc
    rcases j with _ | j
    · simp; omega
    · have := ih x.ep x.to_ hc.2 j (by simpa using hj)
      simp at this ⊢; omega
theorem corr_sorted : ∀ (l : List Span) (pe pt n : Int), corr l pe pt = true → ∀ j, headN l n ≤ j → j < l.length → n < (l.getD j .z).fr := by
  intro l
  induction l with
  | nil => intro _ _ _ _ j _ h; simp at h
  | cons x r ih =>
    intro pe pt n hc j hh hj
    have hc' := hc
    simp only [corr, Bool.and_eq_true, decide_eq_true_eq] at hc
    unfold headN at hh
    rw [List.takeWhile_cons] at hh
    by_cases hx : x.fr ≤ n
    · rw [if_pos (by rw [decide_eq_true_eq]; exact hx)] at hh
      rcases j with _ | j
      · simp at hh
      · have := ih x.ep x.to_ n hc.2 j (by unfold headN; simpa using hh) (by simpa using hj)
        simpa using this
    · rcases j with _ | j
      · simp; omega
      · have := corr_fr r x.ep x.to_ hc.2 j (by simpa using hj)
        simp at this ⊢; omega
def Tr4 (W : World) (g : Nat) (n : Nat) : Prop := ∃ A c, W.cell? ⟨g, 4, none⟩ = some (.slice A n c)
def syK (s : Site) (n : Int) : Int := dem (dem (checkS s) (s.ro == 4) 18) (inB n 1 1073741824) 2
theorem checkS_corr {s : Site} (h : checkS s = 0) : corr s.li 0 0 = true := by
  unfold checkS at h
  split at h
  · split at h
    · split at h
      · split at h
        · assumption
        · exact absurd h (by decide)
      · exact absurd h (by decide)
    · exact absurd h (by decide)
  · exact absurd h (by decide)
/-- what the program's text leaves in the lineage -/
def cutLast (l : List Span) (n : Int) : List Span := if 0 < l.length then l.set (l.length - 1) { l.getD (l.length - 1) .z with to_ := mnI (l.getD (l.length - 1) .z).to_ n } else l
def syLi (s : Site) (n : Int) (m : List Span) : List Span := if (lastS (cutLast m n)).to_ < n then extendS (cutLast m n) s.ep (lastS (cutLast m n)).to_ n else cutLast m n
def syVal (s : Site) (n : Int) (m : List Span) : Site × Int := (if syK s n = 0 then { s with ro := 2, ap := n, li := syLi s n m } else zS, syK s n)
theorem syK_zero {s : Site} {n : Int} (h : (syK s n != 0) = false) : checkS s = 0 ∧ 1 ≤ n ∧ n ≤ 1073741824 := by
  have h' : syK s n = 0 := by simpa using h
  have h1 := dem_zero h' (by decide)
  refine ⟨dem_zero h1 (by decide), ?_⟩
  unfold syK at h'
  rw [h1] at h'
  cases hb : inB n 1 1073741824
  · rw [hb] at h'; exact absurd h' (by decide)
  · simpa [inB] using hb
theorem corr_all : ∀ (l : List Span) (pe pt : Int), 0 ≤ pt → corr l pe pt = true → ∀ j, j < l.length → 0 < (l.getD j .z).to_ ∧ (l.getD j .z).to_ ≤ 1073741824 := by
  intro l
  induction l with
  | nil => intro _ _ _ _ j h; simp at h
  | cons x r ih =>
    intro pe pt hp hc j hj
    simp only [corr, Bool.and_eq_true, decide_eq_true_eq] at hc
    rcases j with _ | j
    · simp; omega
    · have := ih x.ep x.to_ (by omega) hc.2 j (by simpa using hj)
      simpa using this
theorem lastS_set (m : List Span) (x : Span) (h : 0 < m.length) : lastS (m.set (m.length - 1) x) = x := by
  unfold lastS
  rw [List.length_set, List.getD_eq_getElem?_getD, List.getElem?_set, if_pos rfl, if_pos (by omega)]
  rfl
theorem last_bounds (s : Site) (n : Int) (hc : checkS s = 0) (h1 : 1 ≤ n) (h2 : n ≤ 1073741824) : 0 ≤ (lastS (cutLast (s.li.take (headN s.li n)) n)).to_ ∧ (lastS (cutLast (s.li.take (headN s.li n)) n)).to_ ≤ 1073741824 := by
  have hco := corr_all s.li 0 0 (by omega) (checkS_corr hc)
  have hle := headN_le s.li n
  unfold cutLast
  split
  · rename_i h
    rw [lastS_set _ _ h]
    have hl : (s.li.take (headN s.li n)).length = headN s.li n := by rw [List.length_take]; omega
    have hj : (s.li.take (headN s.li n)).length - 1 < s.li.length := by omega
    have := hco _ hj
    have e : (s.li.take (headN s.li n)).getD ((s.li.take (headN s.li n)).length - 1) .z = s.li.getD ((s.li.take (headN s.li n)).length - 1) .z := by
      simp only [List.getD_eq_getElem?_getD]
      rw [List.getElem?_take_of_lt (by omega)]
    simp only
    rw [e]
    unfold mnI
    split <;> omega
  · rename_i h
    have : s.li.take (headN s.li n) = [] := List.eq_nil_of_length_eq_zero (by omega)
    rw [this]; simp [lastS, Span.z]
theorem sy_no {s : Site} {n : Int} {m : List Span} (hv : syVal s n m = (if syK s n = 0 then { s with ro := 2, ap := n, li := syLi s n m } else zS, syK s n)) (h : (syK s n != 0) = true) : syVal s n m = (if syK s n = 0 then s else zS, syK s n) := by
  have : syK s n ≠ 0 := by simpa using h
  rw [hv, if_neg this, if_neg this]
theorem Held.new2 (w : World) (o o' : Obj) (cs : List Value) (t : TypeId) : Held w (w.heap.size + 2) cs t (((w.alloc o).alloc o').alloc (.cells cs.toArray t)) := by
  have h := Held.new (below_new (below_new (Below.refl w.heap.size w) o) o') cs t
  have e : ((w.alloc o).alloc o').heap.size = w.heap.size + 2 := by simp
  rwa [e] at h
theorem sy_yes (s : Site) (n : Int) (m : List Span) (hlt : (lastS (cutLast m n)).to_ < n) : syVal s n m = (if syK s n = 0 then { s with ro := 2, ap := n, li := extendS (cutLast m n) s.ep (lastS (cutLast m n)).to_ n } else zS, syK s n) := by unfold syVal syLi; rw [if_pos hlt]
theorem sy_not (s : Site) (n : Int) (m : List Span) (hlt : ¬ (lastS (cutLast m n)).to_ < n) : syVal s n m = (if syK s n = 0 then { s with ro := 2, ap := n, li := cutLast m n } else zS, syK s n) := by unfold syVal syLi; rw [if_neg hlt]
theorem Tr.drew {w0 W : World} {g : Nat} {s : Site} {e : Int} (h : Tr w0 g s e W) : Tr w0 g s e W.drew := h.step (below_drew (Below.refl _ _))
theorem Tr.setRoAp {w0 W : World} {g : Nat} {s : Site} {e : Int} (h : Tr w0 g s e W) (r n : Int) : Tr w0 g { s with ro := r, ap := n } e ((W.setCell ⟨g, 1, none⟩ (.int .i64 r)).setCell ⟨g, 3, none⟩ (.int .i64 n)) := by
  obtain ⟨A, c, K, HO⟩ := h
  exact ⟨A, c, (K.set 1 _).set 3 _, (HO.setOther K.blk (by decide) _).setOther (K.set 1 _).blk (by decide) _⟩
set_option maxHeartbeats 2000000 in
theorem role_Synced (w : World) (s : Site) (A : Option Addr) (c : Nat) (n : Int) (hls : s.li.length ≤ 1000000) (h : SpansAt w A c s.li) :
    Calls Try.prog 18 #[.agg #[.int .i64 s.nu, .int .i64 s.ro, .int .i64 s.ep, .int .i64 s.ap, .slice A s.li.length c, .int .i64 s.so, .bool s.al, .bool s.co], .int .i64 n] w (SiteRes w.heap.size w (syVal s n (s.li.take (headN s.li n)))) := by
  have HC := Keep.mk h
  have hl := h.len
  clear h
  have hmf : ∀ (fn : Fn) (first cap : Array Value) (w : World), (Instr.makeFunc fn first cap).run Try.prog w = .ok (.func fn first cap) w := fun _ _ _ _ => rfl
  have HV := Keep.mk (show syVal s n (s.li.take (headN s.li n)) = (if syK s n = 0 then { s with ro := 2, ap := n, li := syLi s n (s.li.take (headN s.li n)) } else zS, syK s n) from rfl)
  go_enter Try.func18, Try.ntmps18
  go_wp2_with (first
    | (go_at_call 39; refine (role_begin _ s _ _ (((HC.out.alloc _).alloc _).alloc _)).mono ?_; rintro e w1 ⟨g, rfl, T⟩; obtain ⟨hcl, hfz⟩ := bcell T.bel)
    | (go_at_call 47; refine (role_in _ _ _ _).mono ?_; rintro e w' ⟨rfl, rfl⟩)
    | (go_at_call 40; refine (tr_demand _ _ _ _ _ _ _ (by assumption)).mono ?_; rintro e w2 ⟨rfl, T⟩; obtain ⟨hcl, hfz⟩ := bcell T.bel; obtain ⟨t8, t1, t2, t3, tf⟩ := T.c9; have TT := T; obtain ⟨A1, c1, K1, HO1⟩ := TT; have t4 := K1.cell 4 _ rfl; have KO := Keep.mk (And.intro K1 HO1); clear K1 HO1))
  · refine (tr_end _ _ _ _ _ _ (sy_no HV.out (by assumption)) (by assumption)).mono ?_
    rintro e w3 ⟨A3, c3, rfl, hsp, hb⟩
    have HS := Keep.mk hsp
    have HB := Keep.mk (below_then T.bel hb)
    obtain ⟨hcl, hfz⟩ := bcell HB.out
    clear hsp hb
    go_wp2
    have S := site_stored (((Held.new2 w _ _ [.int .i64 0, .int .i64 0, .int .i64 0, .int .i64 0, .slice none 0 0, .int .i64 0, .bool false, .bool false] 24)).step HB.out) (syVal s n (s.li.take (headN s.li n))).1 A3 c3 HS.out
    exact bodyPost_ret (results_row_tmp rfl _ _ (w.heap.size + 2) 24 _ _ rfl S.1.blk Try.underlying24 rfl (by kernel_rfl)) rfl ⟨A3, c3, rfl, S.2.mono (by simp; omega), S.1.bel⟩
  · have HZ := Keep.mk (syK_zero (by assumption : (syK s n != 0) = false))
    have hb := last_bounds s n HZ.out.1 HZ.out.2.1 HZ.out.2.2
    have hgn : w2.cell? ⟨w.heap.size + 1, 0, none⟩ = some (.int .i64 n) := by rw [hcl _ _ (by simp)]; go_simp
    have hsz := KO.out.1.bel.size
    refine (delete_spans _ _ _ _ s.li (w.heap.size + 1) n KO.out.2 hgn (corr_sorted s.li 0 0 n (checkS_corr HZ.out.1))).mono ?_
    have hml : (s.li.take (headN s.li n)).length ≤ 1000000 := by rw [List.length_take]; omega
    generalize s.li.take (headN s.li n) = m at *
    rintro e w3 ⟨A3, c3, rfl, hO3, hg3⟩
    have K3 := tr_grown KO.out.1 hg3 (KO.out.2.nb KO.out.1.blk (by decide) _)
    clear hg3 KO hgn t8 t1 t2 t3 t4 tf hcl hfz
    have u4 := K3.cell 4 _ rfl
    have uf := K3.frozen
    have KO := Keep.mk (And.intro K3 hO3)
    clear K3 hO3
    by_cases hm : m.length = 0
    · obtain rfl : m = [] := List.eq_nil_of_length_eq_zero hm
      have hcn : cutLast [] n = [] := rfl
      have hz0 : (lastS []).to_ = 0 := rfl
      have hlt : (lastS (cutLast [] n)).to_ < n := by rw [hcn, hz0]; have := HZ.out.2.1; omega
      have HFIN' := sy_yes s n [] hlt
      rw [hcn] at HFIN' hlt
      have HFIN := Keep.mk HFIN'
      have hlt' : decide ((lastS []).to_ < n) = true := by simp [hlt]
      have K5 : Held _ g [.int .i64 s.nu, .int .i64 s.ro, .int .i64 s.ep, .int .i64 s.ap, .slice A3 0 c3, .int .i64 s.so, .bool s.al, .bool s.co, .int .i64 _] 71 (w3.setCell ⟨g, 4, none⟩ (.slice A3 0 c3)) := KO.out.1.set 4 _
      have O5 : OwnSp (w3.setCell ⟨g, 4, none⟩ (.slice A3 0 c3)) _ A3 c3 [] := KO.out.2.setOther (j := 4) KO.out.1.blk (by decide) (.slice A3 0 c3)
      have T6 := tr_mk K5 O5 rfl
      have RH := role_head _ _ _ _ O5.reads
      simp only [List.length_nil] at RH u4
      have v4 := K5.cell 4 _ rfl
      have vf := K5.frozen
      have hbd : 0 ≤ (lastS []).to_ ∧ (lastS []).to_ ≤ 1073741824 := by rw [hz0]; omega
      have PP := Keep.mk (And.intro T6 (And.intro RH hbd))
      clear hb hz0 hlt HFIN' hcn hm hml K5 O5 T6 RH hbd KO
      go_wp2_with fail
      obtain ⟨T6, RH, hbd⟩ := PP.out
      clear PP v4 vf u4 uf
      generalize w3.setCell ⟨g, 4, none⟩ (.slice A3 0 c3) = W6 at *
      generalize lastS [] = z0 at *
      refine RH.mono ?_
      rintro e w7 ⟨rfl, hB7⟩
      have T7 := (T6.step hB7).step (below_new (Below.refl w7.heap.size w7) (.cells #[.int .i64 z0.ep, .int .i64 z0.fr, .int .i64 z0.to_] 61))
      obtain ⟨hcl, hfz⟩ := bcell T7.bel
      have T7K := Keep.mk T7
      have HBD := Keep.mk hbd
      clear T6 T7 RH hB7 hbd
      go_wp2_with fail
      refine (tr_extend _ _ _ { s with li := [] } _ _ _ _ HBD.out.1 HBD.out.2 (by simp) T7K.out).mono ?_
      rintro e w8 ⟨rfl, T9⟩
      obtain ⟨t8, t1, t2, t3, tf⟩ := T9.c9
      obtain ⟨hcl, hfz⟩ := bcell T9.bel
      have T9K := Keep.mk T9
      clear T9
      go_wp2_with fail
      go_region
      have TA := Keep.mk (T9K.out.setRoAp 2 n).drew
      go_wp2_with fail
      refine (tr_end _ _ _ _ _ (syVal s n []) HFIN.out TA.out).mono ?_
      rintro e w3 ⟨A3, c3, rfl, hsp, hb⟩
      have HS := Keep.mk hsp
      have HB := Keep.mk (below_then TA.out.bel hb)
      obtain ⟨hcl, hfz⟩ := bcell HB.out
      clear hsp hb TA
      go_wp2
      have S := site_stored (((Held.new2 w _ _ [.int .i64 0, .int .i64 0, .int .i64 0, .int .i64 0, .slice none 0 0, .int .i64 0, .bool false, .bool false] 24)).step HB.out) (syVal s n []).1 A3 c3 HS.out
      exact bodyPost_ret (results_row_tmp rfl _ _ (w.heap.size + 2) 24 _ _ rfl S.1.blk Try.underlying24 rfl (by kernel_rfl)) rfl ⟨A3, c3, rfl, S.2.mono (by simp; omega), S.1.bel⟩
    · have hm1 : 0 < m.length := by omega
      obtain ⟨b3, rfl, hba, hbl, hfz, hcells⟩ := KO.out.2.form hm1
      obtain ⟨d0, d1, d2⟩ := hcells (m.length - 1) (by omega)
      have hp := wrap_pred (n := m.length) hm1 (by omega)
      have hp2 : ((m.length - 1 : Nat) : Int) < (m.length : Int) := by omega
      have hne := KO.out.2.ne KO.out.1.blk (by decide)
      have hw1 : w3.cell? ⟨w.heap.size + 1, 0, none⟩ = some (.int .i64 n) := by rw [KO.out.1.bel.cell (p := ⟨w.heap.size + 1, 0, none⟩) (by simp)]; go_simp
      have K5 : Held _ g [.int .i64 s.nu, .int .i64 s.ro, .int .i64 s.ep, .int .i64 s.ap, .slice (some ⟨b3, 0, none⟩) m.length c3, .int .i64 s.so, .bool s.al, .bool s.co, .int .i64 _] 71 (w3.setCell ⟨g, 4, none⟩ (.slice (some ⟨b3, 0, none⟩) m.length c3)) := KO.out.1.set 4 _
      have O5 := KO.out.2.setOther (j := 4) KO.out.1.blk (by decide) (.slice (some ⟨b3, 0, none⟩) m.length c3)
      clear hcells
      go_wp2_with fail
      have v4 := K5.cell 4 _ rfl
      have vf := K5.frozen
      obtain ⟨b3', e3, _, hbl5, hfz5, hcells5⟩ := O5.form hm1
      injection e3 with e3
      injection e3 with e3
      subst e3
      obtain ⟨e0, e1, e2⟩ := hcells5 (m.length - 1) (by omega)
      have hw5 : (w3.setCell ⟨g, 4, none⟩ (.slice (some ⟨b3, 0, none⟩) m.length c3)).cell? ⟨w.heap.size + 1, 0, none⟩ = some (.int .i64 n) := by rw [K5.bel.cell (p := ⟨w.heap.size + 1, 0, none⟩) (by simp)]; go_simp
      have KO5 := Keep.mk (And.intro K5 O5)
      have HCL := Keep.mk hcells5
      clear hcells5 K5 O5 hw1 u4 uf d0 d1 d2 KO hfz
      generalize w3.setCell ⟨g, 4, none⟩ (.slice (some ⟨b3, 0, none⟩) m.length c3) = W5 at *
      have hcut : cutLast m n = m.set (m.length - 1) { m.getD (m.length - 1) .z with to_ := mnI (m.getD (m.length - 1) .z).to_ n } := by unfold cutLast; rw [if_pos hm1]
      have hx := KO5.out.2.setTo (m.length - 1) (by omega) (mnI (m.getD (m.length - 1) .z).to_ n)
      rw [← hcut] at hx
      have hlen : (cutLast m n).length = m.length := by rw [hcut, List.length_set]
      have hlast : lastS (cutLast m n) = { m.getD (m.length - 1) .z with to_ := mnI (m.getD (m.length - 1) .z).to_ n } := by rw [hcut, lastS_set _ _ hm1]
      have K6 := (KO5.out.1.setOther (j := (m.length - 1) * 3 + 2) hba hne (.int .i64 (mnI (m.getD (m.length - 1) .z).to_ n))).drew
      have O6 := hx.1.step (below_drew (Below.refl _ _))
      have T6 := tr_mk K6 O6 hlen.symm
      have k4 := K6.cell 4 _ rfl
      have kf := K6.frozen
      have kn : (World.drew (W5.setCell ⟨b3, (m.length - 1) * 3 + 2, none⟩ (.int .i64 (mnI (m.getD (m.length - 1) .z).to_ n)))).cell? ⟨w.heap.size + 1, 0, none⟩ = some (.int .i64 n) := by rw [K6.bel.cell (p := ⟨w.heap.size + 1, 0, none⟩) (by simp)]; go_simp
      have RH := role_head _ _ _ _ O6.reads
      rw [hlen] at RH
      have PP := Keep.mk (And.intro T6 (And.intro RH (And.intro k4 (And.intro kf kn))))
      clear hcut hx hlast K6 O6 T6 k4 kf kn RH HCL KO5
      generalize m.getD (m.length - 1) .z = x at *
      have PP2 := Keep.mk hlen
      have HBD := Keep.mk hb
      clear hlen hb
      go_still_tail 21, (by kernel_rfl)
      change wpList _ _ _ _ _ W5.drew
      go_wp2_with fail
      obtain ⟨T6, RH, k4, kf, kn⟩ := PP.out
      clear PP
      generalize World.drew (W5.setCell ⟨b3, (m.length - 1) * 3 + 2, none⟩ (.int .i64 (mnI x.to_ n))) = W6 at *
      refine RH.mono ?_
      rintro e w7 ⟨rfl, hB7⟩
      have T7 := (T6.step hB7).step (below_new (Below.refl w7.heap.size w7) (.cells #[.int .i64 (lastS (cutLast m n)).ep, .int .i64 (lastS (cutLast m n)).fr, .int .i64 (lastS (cutLast m n)).to_] 61))
      obtain ⟨hcl, hfz⟩ := bcell T7.bel
      have T7K := Keep.mk T7
      clear T6 T7 RH k4 kf kn hB7
      by_cases hlt : (lastS (cutLast m n)).to_ < n
      · have hlt' : decide ((lastS (cutLast m n)).to_ < n) = true := by simp [hlt]
        have HFIN := Keep.mk (sy_yes s n m hlt)
        clear hlt
        go_wp2_with fail
        all_goals
          refine (tr_extend _ _ _ { s with li := cutLast m n } _ _ _ _ HBD.out.1 HBD.out.2 (by show (cutLast m n).length ≤ 1000000; rw [PP2.out]; exact hml) T7K.out).mono ?_
          rintro e w8 ⟨rfl, T9⟩
          obtain ⟨t8, t1, t2, t3, tf⟩ := T9.c9
          obtain ⟨hcl, hfz⟩ := bcell T9.bel
          have T9K := Keep.mk T9
          clear T9
          go_wp2_with fail
          go_region
          have TA := Keep.mk (T9K.out.setRoAp 2 n).drew
          go_wp2_with fail
          refine (tr_end _ _ _ _ _ (syVal s n m) HFIN.out TA.out).mono ?_
          rintro e w3 ⟨A3, c3, rfl, hsp, hb⟩
          have HS := Keep.mk hsp
          have HB := Keep.mk (below_then TA.out.bel hb)
          obtain ⟨hcl, hfz⟩ := bcell HB.out
          clear hsp hb TA
          go_wp2
          have S := site_stored (((Held.new2 w _ _ [.int .i64 0, .int .i64 0, .int .i64 0, .int .i64 0, .slice none 0 0, .int .i64 0, .bool false, .bool false] 24)).step HB.out) (syVal s n m).1 A3 c3 HS.out
          exact bodyPost_ret (results_row_tmp rfl _ _ (w.heap.size + 2) 24 _ _ rfl S.1.blk Try.underlying24 rfl (by kernel_rfl)) rfl ⟨A3, c3, rfl, S.2.mono (by simp; omega), S.1.bel⟩
      · have hlt' : decide ((lastS (cutLast m n)).to_ < n) = false := by simp [hlt]
        have HFIN := Keep.mk (sy_not s n m hlt)
        clear hlt
        obtain ⟨t8, t1, t2, t3, tf⟩ := T7K.out.c9
        have T9 := T7K.out
        obtain ⟨t8, t1, t2, t3, tf⟩ := T9.c9
        obtain ⟨hcl, hfz⟩ := bcell T9.bel
        have T9K := Keep.mk T9
        clear T9
        go_wp2_with fail
        go_region
        have TA := Keep.mk (T9K.out.setRoAp 2 n).drew
        go_wp2_with fail
        refine (tr_end _ _ _ _ _ (syVal s n m) HFIN.out TA.out).mono ?_
        rintro e w3 ⟨A3, c3, rfl, hsp, hb⟩
        have HS := Keep.mk hsp
        have HB := Keep.mk (below_then TA.out.bel hb)
        obtain ⟨hcl, hfz⟩ := bcell HB.out
        clear hsp hb TA
        go_wp2
        have S := site_stored (((Held.new2 w _ _ [.int .i64 0, .int .i64 0, .int .i64 0, .int .i64 0, .slice none 0 0, .int .i64 0, .bool false, .bool false] 24)).step HB.out) (syVal s n m).1 A3 c3 HS.out
        exact bodyPost_ret (results_row_tmp rfl _ _ (w.heap.size + 2) 24 _ _ rfl S.1.blk Try.underlying24 rfl (by kernel_rfl)) rfl ⟨A3, c3, rfl, S.2.mono (by simp; omega), S.1.bel⟩
end Go.Proofs.Ytfkdcjkkmfhalaa
