/-
  The walk of the law RsChecks.
-/
import Derived.Test.YtikgipohjoiagaaSl
import Derived.Test.YtikgipohjoiagaaAp
namespace Go.Proofs.Ytikgipohjoiagaa
open Go.RowKit GfM

theorem sv_one (T : List ByteArray) : ∀ u ∈ sv T, u.oneCell' = true := by
  intro u hu
  simp [sv] at hu
  obtain ⟨_, _, rfl⟩ := hu
  rfl
theorem cuts_small (T : List ByteArray) (n : Nat) (even : Bool) : (cuts T n even (min T.length 12)).length ≤ 12 := by rw [cuts_length]; omega

/-! ### RsChecks -/
set_option maxHeartbeats 1000000 in
theorem rsChecks_walk (w : World) (v : Value) (T : List ByteArray) (hv : Reads w v (sv T)) (fit : Bool) :
    Calls Try.prog 4 #[v, .bool fit] w fun e w' => e = .returned (.bool true) ∧ Below w.heap.size w w' := by
  have hcut := cut_any w v T hv 100 (by decide) 100 rfl fit
  have hC12 := cuts_small T 100 fit
  generalize cuts T 100 fit (min T.length 12) = C at *
  have HCUT := Lib.hid hcut; clear hcut hv
  have hr : ∀ W u, Reads W u (sv C) → Calls Try.prog 13 #[u] W fun e w' => e = .returned (.tuple #[.string (bs (enP C)), .string (bs (enQ C)), .int .i64 (enE C)]) ∧ Below W.heap.size W w' := fun W u h => rencode_any W u C h
  have HR := Lib.hid hr; clear hr
  have hL : ((sv C).length + (sv [bs (enP C), bs (enQ C)]).length) * 16 ≤ 140737488355328 := by rw [sv_length, sv_length]; simp; omega
  have hone := Lib.hid (sv_one [bs (enP C), bs (enQ C)])
  have HL := Lib.hid hL; clear hL
  have hlit : ∀ W : World, Reads (W.alloc (.cells #[.string (bs (enP C)), .string (bs (enQ C))] 9)) (.slice (some ⟨W.heap.size, 0, none⟩) 2 2) (sv [bs (enP C), bs (enQ C)]) := fun W => lit_reads W [bs (enP C), bs (enQ C)] 2 rfl (by decide)
  have HLIT := Lib.hid hlit; clear hlit
  by_cases hfe : fit = true ∧ enE C = 0
  · obtain ⟨rfl, he⟩ := hfe
    rw [he] at HR
    obtain ⟨D, hD⟩ : ∃ D, D = C ++ [bs (enP C), bs (enQ C)] := ⟨_, rfl⟩
    have hsD : sv C ++ sv [bs (enP C), bs (enQ C)] = sv D := by rw [hD, sv_append]
    have HSD := Lib.hid hsD; clear hsD
    generalize bs (enP C) = P at *
    generalize bs (enQ C) = Q at *
    clear he hD
    go_enter Try.func4, Try.ntmps4
    go_wp2_with fail
    refine (HCUT.out).mono ?_
    rintro e w1 ⟨l, rfl, hO, hB1⟩
    go_wp2_with fail
    refine (HR.out _ _ hO.reads).mono ?_
    rintro e w2 ⟨rfl, hb2⟩
    have hO2 := hO.below hb2
    have hB2 := below_then hB1 hB1.size hb2
    have HO := Lib.hid (hO2.alloc (.cells #[.string P, .string Q] 9))
    have HB := Lib.hid (hB2.alloc hB2.size (.cells #[.string P, .string Q] 9))
    have HBS := Lib.hid HB.out.size
    clear hO2 hO
    go_wp2_with (first
      | (at_builtin; refine append_many w.heap.size rfl (.tmp 23) (.tmp 26) 22 9 (.string ⟨#[]⟩) 16 rfl Try.underlying22 info9 rfl (by decide) _ _ _ _ rfl rfl (HLIT.out _) hone.out HO.out HB.out HBS.out HL.out ?_; intro v1 w3 hO3 hB3 _ _)
      | (go_at_call 14; refine (wakes04 _).mono ?_; rintro e w4 ⟨rfl, hb4⟩
         rw [HSD.out] at hO3
         have hR4 := hO3.reads.below hb4
         have hB4 := below_then hB3 hB3.size hb4)
      | (go_at_call 15; refine (check_any _ _ D hR4).mono ?_; rintro e w5 ⟨rfl, hb5⟩
         have hR5 := hR4.below hb5
         have hB5 := below_then hB4 hB4.size hb5)
      | (go_at_call 16; refine (rcheck_any _ _ D hR5).mono ?_; rintro e w6 ⟨rfl, hb6⟩
         have hB6 := below_then hB5 hB5.size hb6))
    go_ret
    exact ⟨by simp, hB6⟩
  · have hk : ∀ W u, Reads W u (sv C) → Calls Try.prog 15 #[u] W fun e w' => e = .returned (.bool (ckB C)) ∧ Below W.heap.size W w' := fun W u h => check_any W u C h
    have hrk : ∀ W u, Reads W u (sv C) → Calls Try.prog 16 #[u] W fun e w' => e = .returned (.bool (ckB C)) ∧ Below W.heap.size W w' := fun W u h => rcheck_any W u C h
    have HK := Lib.hid hk; clear hk
    have HRK := Lib.hid hrk; clear hrk
    have hcase : (fit = true ∧ (enE C == 0) = false) ∨ fit = false := by
      cases fit
      · exact .inr rfl
      · exact .inl ⟨rfl, by rw [beq_eq_false_iff_ne]; exact fun h => hfe ⟨rfl, h⟩⟩
    clear hfe
    generalize bs (enP C) = P at *
    generalize bs (enQ C) = Q at *
    generalize enE C = E at *
    generalize ckB C = K at *
    rcases hcase with ⟨rfl, he⟩ | rfl
    all_goals
      go_enter Try.func4, Try.ntmps4
      go_wp2_with fail
      refine (HCUT.out).mono ?_
      rintro e w1 ⟨l, rfl, hO, hB1⟩
      go_wp2_with fail
      have hR1 := hO.reads
      refine (HR.out _ _ hR1).mono ?_
      rintro e w2 ⟨rfl, hb2⟩
      have hR2 := hR1.below hb2
      have hB2 := below_then hB1 hB1.size hb2
      go_wp2_with fail
      refine (wakes04 _).mono ?_
      rintro e w4 ⟨rfl, hb4⟩
      have hR4 := hR2.below hb4
      have hB4 := below_then hB2 hB2.size hb4
      go_wp2_with fail
      refine (HK.out _ _ hR4).mono ?_
      rintro e w5 ⟨rfl, hb5⟩
      have hR5 := hR4.below hb5
      have hB5 := below_then hB4 hB4.size hb5
      go_wp2_with fail
      refine (HRK.out _ _ hR5).mono ?_
      rintro e w6 ⟨rfl, hb6⟩
      have hB6 := below_then hB5 hB5.size hb6
      go_wp2
      go_ret
      exact ⟨by simp, hB6⟩
end Go.Proofs.Ytikgipohjoiagaa
