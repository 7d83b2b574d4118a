/- Contract: switchover.Need. -/
import Derived.Test.YtijhkgabonkmfaaSwE
namespace Go.Proofs.Ytijhkgabonkmfaa
open Go.RowKit
set_option linter.unusedSimpArgs false
set_option linter.unusedVariables false
theorem words_size : (Try.prog.info? 73).map (·.size) = some 6 := by kernel_rfl
theorem ints_size : (Try.prog.info? 74).map (·.size) = some 6 := by kernel_rfl
theorem words_one : (#[.string ⟨#[113, 117, 105, 101, 115, 99, 101]⟩, .string ⟨#[100, 114, 97, 105, 110]⟩, .string ⟨#[103, 114, 97, 110, 116]⟩, .string ⟨#[100, 101, 109, 111, 116, 101]⟩, .string ⟨#[112, 114, 111, 109, 111, 116, 101]⟩, .string ⟨#[100, 111, 110, 101]⟩] : Array Value).all (·.oneCell') = true := Array.all_eq_true_iff_forall_mem.2 (fun v hv => by simp only [List.mem_toArray, List.mem_cons, List.not_mem_nil, or_false] at hv; rcases hv with rfl | rfl | rfl | rfl | rfl | rfl <;> rfl)
theorem ints_one (fr to_ : Int) : (#[.int .i64 fr, .int .i64 to_, .int .i64 to_, .int .i64 fr, .int .i64 to_, .int .i64 (-1)] : Array Value).all (·.oneCell') = true := Array.all_eq_true_iff_forall_mem.2 (fun v hv => by simp only [List.mem_toArray, List.mem_cons, List.not_mem_nil, or_false] at hv; rcases hv with rfl | rfl | rfl | rfl | rfl | rfl <;> rfl)
set_option maxHeartbeats 2000000 in
theorem sw_Need (w : World) (p : Proc) : Calls Try.prog 15 #[.agg #[.int .i64 p.ki, .int .i64 p.fr, .int .i64 p.to_, .int .i64 p.st, .int .i64 p.ep, .int .i64 p.cy, .bool p.dn, .bool p.fa]] w fun e w' => e = .returned (.tuple #[.string (needP p).1, .int .i64 (needP p).2]) ∧ Below w.heap.size w w' := by
  obtain ⟨ki, fr, to_, st, ep, cy, dn, fa⟩ := p
  have K0 := Keep.mk (Held.new (Below.refl w.heap.size w) [.int .i64 (Proc.mk ki fr to_ st ep cy dn fa).ki, .int .i64 (Proc.mk ki fr to_ st ep cy dn fa).fr, .int .i64 (Proc.mk ki fr to_ st ep cy dn fa).to_, .int .i64 (Proc.mk ki fr to_ st ep cy dn fa).st, .int .i64 (Proc.mk ki fr to_ st ep cy dn fa).ep, .int .i64 (Proc.mk ki fr to_ st ep cy dn fa).cy, .bool (Proc.mk ki fr to_ st ep cy dn fa).dn, .bool (Proc.mk ki fr to_ st ep cy dn fa).fa] 26)
  have HCK := fun w => sw_Check w ⟨ki, fr, to_, st, ep, cy, dn, fa⟩
  have HW := need_ways ⟨ki, fr, to_, st, ep, cy, dn, fa⟩
  generalize checkP ⟨ki, fr, to_, st, ep, cy, dn, fa⟩ = ck at HCK HW
  simp only at K0 HCK HW ⊢
  rcases HW with ⟨g1, hr⟩ | ⟨g1, g2, hr⟩ | ⟨g1, g2, g3, hr⟩ | ⟨g1, g2, g3, hr⟩ | ⟨g1, g2, g3, hr⟩ | ⟨g1, g2, g3, hr⟩ | ⟨g1, g2, g3, hr⟩ | ⟨g1, g2, g3, hr⟩
  all_goals
    rw [hr]
    clear hr
    (try subst g2)
    (try subst g3)
    have g1' : (ck != 0) = !(ck == 0) := rfl
    rw [g1] at g1'
    simp only [Bool.not_true, Bool.not_false] at g1'
    obtain ⟨⟨p0, p1, p2, p3, p4, p5, p6, p7⟩, p8⟩ := K0.out.c8
    go_enter Try.func15, Try.ntmps15
    go_wp2_with (first
      | (go_at_call 17; (with_reducible refine (HCK _).mono ?_); rintro e w1 ⟨rfl, hB⟩; have K1 := K0.out.step hB; have KB := Keep.mk K1.bel; clear p0 p1 p2 p3 p4 p5 p6 p7 p8; obtain ⟨⟨p0, p1, p2, p3, p4, p5, p6, p7⟩, p8⟩ := K1.c8; have KP := Keep.mk K1; clear hB K1 K0)
      | ((with_reducible refine wpList_store_held ?_ 73 (.tmp 4) (.tmp 13) ?_ w w1.heap.size [.string ⟨#[]⟩, .string ⟨#[]⟩, .string ⟨#[]⟩, .string ⟨#[]⟩, .string ⟨#[]⟩, .string ⟨#[]⟩] _ (Held.new KP.out.bel [.string ⟨#[]⟩, .string ⟨#[]⟩, .string ⟨#[]⟩, .string ⟨#[]⟩, .string ⟨#[]⟩, .string ⟨#[]⟩] 73) ?_ [.string ⟨#[113, 117, 105, 101, 115, 99, 101]⟩, .string ⟨#[100, 114, 97, 105, 110]⟩, .string ⟨#[103, 114, 97, 110, 116]⟩, .string ⟨#[100, 101, 109, 111, 116, 101]⟩, .string ⟨#[112, 114, 111, 109, 111, 116, 101]⟩, .string ⟨#[100, 111, 110, 101]⟩] ?_ ?_ ?_ ?_ ?_); rfl; rfl; rfl; rfl; rfl; exact words_size; exact words_one; intro w2 K2 hg; have KP2 := (KP.out.alloc (.cells #[.string ⟨#[]⟩, .string ⟨#[]⟩, .string ⟨#[]⟩, .string ⟨#[]⟩, .string ⟨#[]⟩, .string ⟨#[]⟩] 73)).grown (by have := KP.out.lt; omega) K2.ge hg; clear p0 p1 p2 p3 p4 p5 p6 p7 p8; obtain ⟨⟨p0, p1, p2, p3, p4, p5, p6, p7⟩, p8⟩ := KP2.c8; have KK := Keep.mk (And.intro KP2 K2); clear KP2 K2 hg KP)
      | ((with_reducible refine wpList_store_held ?_ 74 (.tmp 5) (.tmp 24) ?_ w w2.heap.size [.int .i64 0, .int .i64 0, .int .i64 0, .int .i64 0, .int .i64 0, .int .i64 0] _ (Held.new KK.out.1.bel [.int .i64 0, .int .i64 0, .int .i64 0, .int .i64 0, .int .i64 0, .int .i64 0] 74) ?_ [.int .i64 fr, .int .i64 to_, .int .i64 to_, .int .i64 fr, .int .i64 to_, .int .i64 (-1)] ?_ ?_ ?_ ?_ ?_); rfl; rfl; rfl; rfl; rfl; exact ints_size; exact ints_one fr to_; intro w3 K3 hg; have KP2 := (KK.out.1.alloc (.cells #[.int .i64 0, .int .i64 0, .int .i64 0, .int .i64 0, .int .i64 0, .int .i64 0] 74)).grown (by have := KK.out.1.lt; omega) K3.ge hg; have KW2 := (KK.out.2.alloc (.cells #[.int .i64 0, .int .i64 0, .int .i64 0, .int .i64 0, .int .i64 0, .int .i64 0] 74)).grown (by have := KK.out.2.lt; omega) K3.ge hg; clear p0 p1 p2 p3 p4 p5 p6 p7 p8; obtain ⟨⟨p0, p1, p2, p3, p4, p5, p6, p7⟩, p8⟩ := KP2.c8; have a0 := KW2.cell 0 _ rfl; have a1 := KW2.cell 1 _ rfl; have a2 := KW2.cell 2 _ rfl; have a3 := KW2.cell 3 _ rfl; have a4 := KW2.cell 4 _ rfl; have a5 := KW2.cell 5 _ rfl; have b0 := K3.cell 0 _ rfl; have b1 := K3.cell 1 _ rfl; have b2 := K3.cell 2 _ rfl; have b3 := K3.cell 3 _ rfl; have b4 := K3.cell 4 _ rfl; have b5 := K3.cell 5 _ rfl; have KB := Keep.mk K3.bel; clear KP2 KW2 K3 hg KK))
    repeat (go_quiet (fail); try go_wp2)
    go_ret2
    first
      | exact ⟨rfl, KB.out⟩
      | exact ⟨rfl, (by repeat' (first | exact KB.out | (apply below_new) | (refine below_drewN ?_ _) | (refine below_drew ?_) | (refine below_set ?_ (by first | exact Nat.le_refl _ | omega | (simp; done) | (simp; omega)) _)))⟩
end Go.Proofs.Ytijhkgabonkmfaa
