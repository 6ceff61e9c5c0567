/-
  The walks of the laws GfAdds, GfPowers, GfInverts.
-/
import Derived.Test.YtfdmakihobhhnaaWa
namespace Go.Proofs.Ytfdmakihobhhnaa
open Go.RowKit GfM

set_option maxRecDepth 100000 in
set_option maxHeartbeats 400000 in
theorem gfAdds_walk (a b : UInt8) (w : World) :
    Calls Try.prog 3 #[.int .u8 (a.toNat : Int), .int .u8 (b.toNat : Int)] w fun e w' => e = .returned (.bool true) ∧ Below w.heap.size w w' := by
  have h1 := fun W => add_any a b W
  have h2 := fun W => radd_any _ _ a b rfl rfl W
  generalize a ^^^ b = c at *
  have H1 := Lib.hid h1
  have H2 := Lib.hid h2
  clear h1 h2
  go_enter Try.func3, Try.ntmps3
  go_wp2_with (first
    | (go_at_call 11; refine (wakes_any _).mono ?_; rintro e w' ⟨rfl, rfl⟩)
    | (go_at_call 12; refine (H1.out _).mono ?_; rintro e w' ⟨rfl, rfl⟩)
    | (go_at_call 13; refine (H2.out _).mono ?_; rintro e w1 ⟨rfl, hb1⟩)
    | (go_at_call 14; refine (mul_any _ _ a b rfl rfl _).mono ?_; rintro e w' ⟨rfl, rfl⟩)
    | (go_at_call 15; refine (rmul_any _ _ a b rfl rfl _).mono ?_; rintro e w2 ⟨rfl, hb2⟩))
  go_ret
  exact ⟨rfl, below_then hb1 hb1.size hb2⟩

set_option maxRecDepth 100000 in
set_option maxHeartbeats 400000 in
theorem gfPowers_walk (a : UInt8) (n : Int) (_ : (Lit.int .i64 n).wf = true) (w : World) :
    Calls Try.prog 4 #[.int .u8 (a.toNat : Int), .int .i64 n] w fun e w' => e = .returned (.bool true) ∧ Below w.heap.size w w' := by
  have h1 := fun n W => pow_any _ n a rfl W
  have h2 := fun n W => rpow_any _ n a rfl W
  generalize hF : pwI a = F at *
  clear hF
  have H1 := Lib.hid h1
  have H2 := Lib.hid h2
  clear h1 h2
  go_enter Try.func4, Try.ntmps4
  go_wp2_with fail
  refine (wakes_any _).mono ?_
  rintro e w' ⟨rfl, rfl⟩
  go_wp2_with fail
  refine (H1.out _ _).mono ?_
  rintro e w' ⟨rfl, rfl⟩
  go_wp2_with fail
  refine (H2.out _ _).mono ?_
  rintro e w1 ⟨rfl, hb1⟩
  go_wp2_with fail
  refine (H1.out _ _).mono ?_
  rintro e w' ⟨rfl, rfl⟩
  go_wp2_with fail
  refine (H2.out _ _).mono ?_
  rintro e w2 ⟨rfl, hb2⟩
  go_wp2
  go_ret
  exact ⟨rfl, below_then hb1 hb1.size hb2⟩

set_option maxRecDepth 100000 in
set_option maxHeartbeats 400000 in
theorem gfInverts_walk (a : UInt8) (w : World) :
    Calls Try.prog 5 #[.int .u8 (a.toNat : Int)] w fun e w' => e = .returned (.bool true) ∧ Below w.heap.size w w' := by
  have h1 := fun W => inv_any _ a rfl W
  have h2 := fun W => rinv_any _ a rfl W
  have h0 := fun W => inv_any 0 0 rfl W
  rw [inv_zero, if_pos rfl] at h0
  generalize inv a = c at *
  by_cases ha : a = 0
  · have ha' : (((a.toNat : Nat) : Int) == 0) = true := by rw [ha]; rfl
    rw [if_pos ha] at h1
    have H1 := Lib.hid h1
    have H2 := Lib.hid h2
    have H0 := Lib.hid h0
    clear h1 h2 h0 ha
    go_enter Try.func5, Try.ntmps5
    go_wp2_with fail
    refine (H1.out _).mono ?_
    rintro e w' ⟨rfl, rfl⟩
    go_wp2_with fail
    refine (H0.out _).mono ?_
    rintro e w' ⟨rfl, rfl⟩
    go_wp2_with fail
    refine (wakes_any _).mono ?_
    rintro e w' ⟨rfl, rfl⟩
    go_wp2_with fail
    refine (H2.out _).mono ?_
    rintro e w1 ⟨rfl, hb1⟩
    go_wp2
    go_ret
    exact ⟨rfl, hb1⟩
  · have ha' := ne_zero_beq ha
    rw [if_neg ha] at h1
    have H1 := Lib.hid h1
    have H2 := Lib.hid h2
    have H0 := Lib.hid h0
    clear h1 h2 h0 ha
    go_enter Try.func5, Try.ntmps5
    go_wp2_with fail
    refine (H1.out _).mono ?_
    rintro e w' ⟨rfl, rfl⟩
    go_wp2_with fail
    refine (H0.out _).mono ?_
    rintro e w' ⟨rfl, rfl⟩
    go_wp2_with fail
    refine (wakes_any _).mono ?_
    rintro e w' ⟨rfl, rfl⟩
    go_wp2_with fail
    refine (H2.out _).mono ?_
    rintro e w1 ⟨rfl, hb1⟩
    go_wp2
    go_ret
    exact ⟨rfl, hb1⟩
end Go.Proofs.Ytfdmakihobhhnaa
