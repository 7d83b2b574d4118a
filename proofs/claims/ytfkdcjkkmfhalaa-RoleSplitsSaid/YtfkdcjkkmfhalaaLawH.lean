/- The walk of RoleSplits: it returns true at every input, and what was there is as it was. -/
import Derived.Test.YtfkdcjkkmfhalaaSitesB
import Derived.Test.YtfkdcjkkmfhalaaRoleO
import Derived.Test.YtfkdcjkkmfhalaaPlainC
namespace Go.Proofs.Ytfkdcjkkmfhalaa
open Go.RowKit
set_option linter.unusedSimpArgs false
set_option linter.unusedVariables false
theorem any_take_succ (l : List Sv) (j : Nat) (h : j < l.length) (f : Site → Bool) : ((l.take (j + 1)).map (·.s)).any f = (((l.take j).map (·.s)).any f || f (l.getD j zSv).s) := by
  have e : l.take (j + 1) = l.take j ++ [l.getD j zSv] := by
    rw [List.take_succ_eq_append_getElem h]; congr 2; simp [List.getD_eq_getElem?_getD, List.getElem?_eq_getElem h]
  rw [e]; simp
theorem getD_map_s (l : List Sv) (j : Nat) (h : j < l.length) : (l.map (·.s)).getD j zS = (l.getD j zSv).s := by
  simp [List.getD_eq_getElem?_getD, List.getElem?_eq_getElem h]
/-- what is known of the sites so far -/
def Good (l : List Sv) : Prop := ∀ i, i < l.length → checkS (l.getD i zSv).s = 0 ∧ (l.getD i zSv).s.nu = i
theorem Good.snoc {l : List Sv} {x : Sv} (h : Good l) (h0 : checkS x.s = 0) (hn : x.s.nu = l.length) : Good (l ++ [x]) := by
  intro i hi
  by_cases e : i < l.length
  · have : (l ++ [x]).getD i zSv = l.getD i zSv := by simp [List.getD_eq_getElem?_getD, List.getElem?_append_left e]
    rw [this]; exact h i e
  · have e' : i = l.length := by simp at hi; omega
    subst e'
    have : (l ++ [x]).getD l.length zSv = x := by simp [List.getD_eq_getElem?_getD]
    rw [this]; exact ⟨h0, hn⟩
theorem checkAll_n (w : World) (A : Option Addr) (c n B : Nat) (l : List Site) (hn : n = l.length) (e : Int) (he : (checkAllS l).2 = e) (hB : ∀ x, x ∈ l → x.li.length ≤ B) (h : SitesAt B w A c l) :
    Calls Try.prog 34 #[.slice A n c] w fun en w' => en = .returned (.tuple #[.int .i64 (checkAllS l).1, .int .i64 e]) ∧ Below w.heap.size w w' := by
  subst hn he; exact role_CheckAll w A c B l hB h
theorem OwnAll.few {w W : World} {A : Option Addr} {c : Nat} {m : List Sv} (h : OwnAll w W A c m) (hB : Below w.heap.size w W) : ∀ x, x ∈ m.map (·.s) → x.li.length ≤ 5864062014634 := by
  intro x hx
  obtain ⟨y, hy, rfl⟩ := List.mem_map.1 hx
  exact ((h.lin y hy).reads hB).len
theorem Good.split {m : List Sv} (h : Good m) (h4 : m.length ≤ 4) : (checkAllS (m.map (·.s))).2 = if splGo [] (m.map (·.s)) = true then 19 else 0 :=
  checkAll_split _ (by simpa using h4) fun i hi => by rw [getD_map_s m i (by simpa using hi)]; exact h i (by simpa using hi)
theorem pair_ways (S t : Site) : ((S.ro == 1) = false ∧ pairS S t = false) ∨ ((S.ro == 1) = true ∧ (t.ro == 1) = false ∧ pairS S t = false) ∨ ((S.ro == 1) = true ∧ (t.ro == 1) = true ∧ pairS S t = (S.ep == t.ep)) := by
  unfold pairS
  cases (S.ro == 1) <;> cases (t.ro == 1) <;> simp
set_option maxRecDepth 100000 in
set_option maxHeartbeats 8000000 in
theorem law_RoleSplits (w : World) (A : Option Addr) (c : Nat) (l : List (List StepS)) (h : l.length ≤ 4 → StepssAt w A c l) :
    Calls Try.prog 10 #[.slice A l.length c] w fun e w' => e = .returned (.bool true) ∧ Below w.heap.size w w' := by
  by_cases h1 : l.length ≤ 4
  · have HC := Keep.mk (h (by omega))
    have h2 : decide (4 < (l.length : Int)) = false := by simp; omega
    clear h
    cases hany : l.any longS
    · have HA := Keep.mk hany
      have HL := Keep.mk (show ∀ i, i < l.length → (l.getD i []).length ≤ 20 by
        intro i hi
        have hm : l.getD i [] ∈ l := by rw [List.getD_eq_getElem?_getD, List.getElem?_eq_getElem hi]; exact List.getElem_mem hi
        have := List.any_eq_false.1 hany _ hm
        generalize l.getD i [] = x at *
        simp [longS] at this; omega)
      clear hany
      go_enter Try.func10, Try.ntmps10
      go_wp2_with (first
        | (go_at_call 36; (with_reducible refine (contains_long _ A c l HC.out).mono ?_); rw [HA.out]; rintro e w' ⟨rfl, hw⟩; subst w'))
      go_loopg [3, 4, 24] l.length (fun g z sp i wr => ∃ (k : Nat) (m : List Sv) (A3 : Option Addr) (c3 : Nat), g = l.length - k ∧ k ≤ l.length ∧ i = .int .i64 k ∧ z = .slice A3 k c3 ∧ sp = .bool (splGo [] (m.map (·.s))) ∧ Keep (k = m.length ∧ Good m) ∧ Keep (OwnAll w wr A3 c3 m) ∧ Keep (Below w.heap.size w wr))
      case atStart => exact ⟨0, [], none, 0, by omega, by omega, rfl, rfl, rfl, ⟨rfl, fun i hi => by simp at hi⟩, ⟨OwnAll.nil _ _⟩, ⟨Below.refl _ _⟩⟩
      case round =>
        obtain ⟨k, m, A3, c3, rfl, hk, rfl, rfl, rfl, HG, HO, H8⟩ := hrel
        obtain ⟨wo, rfl⟩ : ∃ wo : World, wo = wr := ⟨_, rfl⟩
        by_cases hk2 : k < l.length
        · obtain ⟨b, o, A', c', hA, hb, c0, hs⟩ := (HC.out.below H8.out).at_ k hk2
          subst hA
          have hx20 := HL.out k hk2
          have HX := Keep.mk (hs (by omega))
          clear hs
          generalize l.getD k [] = x at c0 hx20 HX
          have HS0 := Keep.mk (start_ok k (by omega))
          have HLT := Keep.mk HO.out.own.lt
          go_wp2_with fail
          go_loopg [33] x.length (fun g i wr => ∃ (j : Nat) (S : Site) (A4 : Option Addr) (c4 : Nat), g = x.length - j ∧ j ≤ x.length ∧ i = .int .i64 j ∧ S.li.length ≤ j ∧ Keep (checkS S = 0 ∧ S.nu = k) ∧ Keep (Held w wo.heap.size [.int .i64 S.nu, .int .i64 S.ro, .int .i64 S.ep, .int .i64 S.ap, .slice A4 S.li.length c4, .int .i64 S.so, .bool S.al, .bool S.co] 24 wr ∧ Lin w wr A4 c4 S.li ∧ OwnAll w wr A3 c3 m ∧ Below wo.heap.size wo wr))
          case atStart => exact ⟨0, startS k, none, 0, by omega, by omega, rfl, by simp [startS], ⟨HS0.out, rfl⟩, ⟨Held.new H8.out [.int .i64 (startS k).nu, .int .i64 (startS k).ro, .int .i64 (startS k).ep, .int .i64 (startS k).ap, .slice none (startS k).li.length 0, .int .i64 (startS k).so, .bool (startS k).al, .bool (startS k).co] _, .inl (SpansAt.nil _), HO.out.step (below_new (Below.refl _ _) _), below_new (Below.refl _ _) _⟩⟩
          case round =>
            obtain ⟨j, S, A4, c4, rfl, hj, rfl, hlk, HS, HK⟩ := hrel
            obtain ⟨wi, rfl⟩ : ∃ wi : World, wi = wr := ⟨_, rfl⟩
            by_cases hj2 : j < x.length
            · obtain ⟨b', o', hA, hb', d0, d1, d2, d3⟩ := (HX.out.below HK.out.2.2.2).at_ j hj2
              subst hA
              generalize x.getD j StepS.z = y at d0 d1 d2 d3
              have hd := run_done y HS.out.1
              have hls : S.li.length ≤ 1000000 := by omega
              have RC := Keep.mk (fun W h => law_run W S A4 c4 y hls h)
              generalize runS S y = r at hd RC
              obtain ⟨N, bb⟩ := r
              have D1 := Keep.mk (show checkS N = 0 ∧ N.nu = k from ⟨hd.1, hd.2.1.trans HS.out.2⟩)
              have hlen : N.li.length ≤ j + 1 := by have := hd.2.2.2.2.1; simp only at this; omega
              clear hd hls
              obtain ⟨⟨p0, p1, p2, p3, p4, p5, p6, p7⟩, p8⟩ := HK.out.1.c8
              have hlw := HK.out.1.lt
              go_wp2_with (first
                | (go_at_call 28; (with_reducible refine (RC.out _ ((HK.out.2.1.reads HK.out.1.bel).alloc _)).mono ?_); rintro e w1 ⟨A2, c2, rfl, hc2, hB⟩; have hb1 := below_then (below_new (Below.refl wi.heap.size wi) (.cells #[.int .i64 y.ki, .int .i64 y.ep, .int .i64 y.so, .int .i64 y.nu] 42)) hB; have L2 := run_lin HK.out.2.1 (below_new (Below.refl wi.heap.size wi) (.cells #[.int .i64 y.ki, .int .i64 y.ep, .int .i64 y.so, .int .i64 y.nu] 42)) (Nat.le_trans HK.out.1.bel.size (by simp)) hB hc2; have K7 := HK.out.1.step hb1; have KA := HK.out.2.2.1.step hb1; have KW := below_then HK.out.2.2.2 hb1; clear p0 p1 p2 p3 p4 p5 p6 p7 p8 hlw; obtain ⟨⟨p0, p1, p2, p3, p4, p5, p6, p7⟩, p8⟩ := K7.c8; have hlw := K7.lt; have H1 := Keep.mk (And.intro K7 (And.intro L2 (And.intro KA KW))); clear hc2 hB hb1 K7 L2 KA KW)
                | ((with_reducible refine wpList_store_site ?_ (.tmp 7) (.tmp 41) ?_ w (wo.heap.size) H1.out.1 ?_ N A2 c2 ?_ ?_); rfl; rfl; rfl; rfl; intro w4 K7 hg; have L2 := H1.out.2.1.grown H1.out.1 (by decide) hg; have KA := H1.out.2.2.1.grown H1.out.1 (by decide) (fun q hq => (HLT.out q hq).2) hg; have KW := Below.of_grown H1.out.2.2.2 (Nat.le_refl _) hg; have H4 := Keep.mk (And.intro K7 (And.intro L2 (And.intro KA KW))); clear K7 L2 KA KW hg H1 p0 p1 p2 p3 p4 p5 p6 p7 p8 hlw))
              go_roundg (x.length - (j + 1))
              case measure => omega
              case rel => exact ⟨j + 1, N, A2, c2, rfl, by omega, by go_num, hlen, D1, H4⟩
            · have : j = x.length := by omega
              subst this
              clear c0 hj hj2
              generalize hsp0 : splGo [] (m.map (·.s)) = sp0
              have HSP := Keep.mk hsp0
              clear hsp0
              have hlen20 : S.li.length ≤ 20 := by omega
              go_wp2_with fail
              go_loopg [4, 46] k (fun g sp i wr => ∃ (j2 : Nat) (sb : Bool), g = k - j2 ∧ j2 ≤ k ∧ i = .int .i64 j2 ∧ sp = .bool sb ∧ Keep (sb = (sp0 || ((m.take j2).map (·.s)).any (pairS S))) ∧ Keep (Held w wo.heap.size [.int .i64 S.nu, .int .i64 S.ro, .int .i64 S.ep, .int .i64 S.ap, .slice A4 S.li.length c4, .int .i64 S.so, .bool S.al, .bool S.co] 24 wr ∧ Lin w wr A4 c4 S.li ∧ OwnAll w wr A3 c3 m))
              case atStart => exact ⟨0, sp0, by omega, by omega, rfl, rfl, ⟨by simp⟩, ⟨HK.out.1, HK.out.2.1, HK.out.2.2.1⟩⟩
              case round =>
                obtain ⟨j2, sb, rfl, hj2, rfl, rfl, HSB, HL2⟩ := hrel
                obtain ⟨w3, rfl⟩ : ∃ w3 : World, w3 = wr := ⟨_, rfl⟩
                by_cases hj3 : j2 < k
                · have hkm := HG.out.1
                  obtain ⟨b3, o3, A5, c5, hA, hb3, e0, e1, e2, e3, e4, e5, e6, e7, -⟩ := (HL2.out.2.2.reads HL2.out.1.bel 0).at_ j2 (by simp; omega)
                  subst hA
                  rw [getD_map_s m j2 (by omega)] at e0 e1 e2 e3 e4 e5 e6 e7
                  have HT := Keep.mk (any_take_succ m j2 (by omega) (pairS S))
                  generalize (m.getD j2 zSv).s = t at e0 e1 e2 e3 e4 e5 e6 e7 HT
                  have hjk : (j2 : Int) < (k : Int) := by omega
                  have hbel := below_new (Below.refl w3.heap.size w3) (.cells #[.int .i64 t.nu, .int .i64 t.ro, .int .i64 t.ep, .int .i64 t.ap, .slice A5 t.li.length c5, .int .i64 t.so, .bool t.al, .bool t.co] 24)
                  have HN := Keep.mk (show (Held w wo.heap.size [.int .i64 S.nu, .int .i64 S.ro, .int .i64 S.ep, .int .i64 S.ap, .slice A4 S.li.length c4, .int .i64 S.so, .bool S.al, .bool S.co] 24 _ ∧ Lin w _ A4 c4 S.li ∧ OwnAll w _ _ c3 m) from ⟨HL2.out.1.step hbel, HL2.out.2.1.step hbel, HL2.out.2.2.step hbel⟩)
                  obtain ⟨⟨p0, p1, p2, p3, p4, p5, p6, p7⟩, p8⟩ := HL2.out.1.c8
                  have hlw := HL2.out.1.lt
                  clear hkm hbel
                  cases sb
                  · rcases pair_ways S t with ⟨q1, q3⟩ | ⟨q1, q2, q3⟩ | ⟨q1, q2, q3⟩
                    all_goals
                      have HQ := Keep.mk q3
                      clear q3
                      go_wp2_with fail
                      go_roundg (k - (j2 + 1))
                      case measure => omega
                      case rel => exact ⟨j2 + 1, _, rfl, by omega, by go_num, rfl, ⟨by rw [HT.out, ← Bool.or_assoc, ← HSB.out, HQ.out]; simp⟩, HN⟩
                  · go_wp2_with fail
                    go_roundg (k - (j2 + 1))
                    case measure => omega
                    case rel => exact ⟨j2 + 1, true, rfl, by omega, by go_num, rfl, ⟨by rw [HT.out, ← Bool.or_assoc, ← HSB.out]; simp⟩, HN⟩
                · have : j2 = k := by omega
                  subst this
                  have HSPN := Keep.mk (show sb = splGo [] ((m ++ [(⟨S, A4, c4⟩ : Sv)]).map (·.s)) by
                    rw [HSB.out, List.map_append, List.map_cons, List.map_nil, splGo_snoc, HSP.out, List.nil_append, List.take_of_length_le (by have := HG.out.1; omega)])
                  have HGN := Keep.mk (show j2 + 1 = (m ++ [(⟨S, A4, c4⟩ : Sv)]).length ∧ Good (m ++ [(⟨S, A4, c4⟩ : Sv)]) from ⟨by have := HG.out.1; simp; omega, HG.out.2.snoc HS.out.1 (by have := HS.out.2; have := HG.out.1; simp only; omega)⟩)
                  have hbel := below_new (Below.refl w3.heap.size w3) (.cells #[.int .i64 S.nu, .int .i64 S.ro, .int .i64 S.ep, .int .i64 S.ap, .slice A4 S.li.length c4, .int .i64 S.so, .bool S.al, .bool S.co] 24)
                  have KN := Keep.mk (Held.new HL2.out.1.bel [.int .i64 S.nu, .int .i64 S.ro, .int .i64 S.ep, .int .i64 S.ap, .slice A4 S.li.length c4, .int .i64 S.so, .bool S.al, .bool S.co] 24)
                  have HN := Keep.mk (show (Lin w _ A4 c4 S.li ∧ OwnAll w _ _ c3 m ∧ Below w.heap.size w _) from ⟨HL2.out.2.1.step hbel, HL2.out.2.2.step hbel, below_then HL2.out.1.bel hbel⟩)
                  have hm4 : m.length + [(⟨S, A4, c4⟩ : Sv)].length ≤ 1000000 := by have := HG.out.1; simp; omega
                  have hsz := KN.out.bel.size
                  obtain ⟨⟨p0, p1, p2, p3, p4, p5, p6, p7⟩, p8⟩ := HL2.out.1.c8
                  have hlw := HL2.out.1.lt
                  clear hbel
                  go_wp2_with (at_builtin; (with_reducible refine wpList_app_sites ?_ (.tmp 69) (.tmp 71) ?_ w.heap.size A3 c3 j2 m HG.out.1 HN.out.2.1.own ⟨w3.heap.size, 0, none⟩ 1 1 [⟨S, A4, c4⟩] ?_ (news_one (x := ⟨S, A4, c4⟩) KN.out) ?_ ?_ hm4 hsz ?_); rfl; rfl; rfl; rfl; rfl; intro A6 c6 w6 hown hgr; have HF := Keep.mk (HN.out.2.1.snoc (x := ⟨S, A4, c4⟩) HN.out.1 HG.out.1 hown hgr); have HBF := Keep.mk (HN.out.2.1.below HN.out.2.2 HG.out.1 hgr); clear hown hgr hm4 hsz p0 p1 p2 p3 p4 p5 p6 p7 p8 hlw)
                  go_roundg (l.length - (j2 + 1))
                  case measure => omega
                  case rel => exact ⟨j2 + 1, m ++ [(⟨S, A4, c4⟩ : Sv)], A6, c6, rfl, by omega, by go_num, rfl, congrArg Value.bool HSPN.out, HGN, HF, HBF⟩
        · have : k = l.length := by omega
          subst this
          have h4 : m.length ≤ 4 := by have := HG.out.1; omega
          have hce := HG.out.2.split h4
          have HKM := Keep.mk (show l.length = (m.map (·.s)).length by rw [List.length_map]; exact HG.out.1)
          cases hsp : splGo [] (m.map (·.s))
          all_goals
            rw [hsp] at hce
            simp only [Bool.false_eq_true, if_false, if_true] at hce
            have HCE := Keep.mk hce
            clear hce hsp h4
            go_wp2_with (first
              | (go_at_call 34; (with_reducible refine (checkAll_n _ A3 c3 l.length _ (m.map (·.s)) HKM.out _ HCE.out (HO.out.few H8.out) (HO.out.reads H8.out _)).mono ?_); rintro e w3 ⟨rfl, hB⟩; have HB3 := Keep.mk (below_then H8.out hB); clear hB)
              | (go_at_call 12; (with_reducible refine (law_awake _).mono ?_); rintro e w9 ⟨rfl, hB⟩; have HB9 := Keep.mk (below_then HB3.out hB); clear hB))
            go_ret
            exact ⟨rfl, HB9.out⟩
    · have HA := Keep.mk hany
      clear hany
      go_enter Try.func10, Try.ntmps10
      go_wp2_with (first
        | (go_at_call 36; (with_reducible refine (contains_long _ A c l HC.out).mono ?_); rw [HA.out]; rintro e w' ⟨rfl, hw⟩; subst w')
        | (go_at_call 12; (with_reducible refine (law_awake _).mono ?_); rintro e w9 ⟨rfl, hB⟩; have HB9 := Keep.mk hB; clear hB))
      go_ret
      exact ⟨rfl, HB9.out⟩
  · have h2 : decide (4 < (l.length : Int)) = true := by simp; omega
    clear h h1
    go_enter Try.func10, Try.ntmps10
    go_wp2_with (go_at_call 12; refine (law_awake _).mono ?_; rintro e w9 ⟨rfl, hB⟩; have HB9 := Keep.mk hB; clear hB)
    go_ret
    exact ⟨rfl, HB9.out⟩
end Go.Proofs.Ytfkdcjkkmfhalaa
