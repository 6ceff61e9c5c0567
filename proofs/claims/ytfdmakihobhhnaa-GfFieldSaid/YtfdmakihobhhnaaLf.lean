/-
  The walk of the law GfField.
-/
import Derived.Test.YtfdmakihobhhnaaWa
namespace Go.Proofs.Ytfdmakihobhhnaa
open Go.RowKit GfM

set_option maxRecDepth 100000 in
set_option maxHeartbeats 8000000 in
theorem gfField_walk (a b c : UInt8) (w : World) :
    Calls Try.prog 6 #[.int .u8 (a.toNat : Int), .int .u8 (b.toNat : Int), .int .u8 (c.toNat : Int)] w fun e w' => e = .returned (.bool true) ∧ w = w' := by
  have hiv := fun W => inv_any _ a rfl W
  have hbc := fun W => mul_any _ _ b c rfl rfl W
  have hap := fun W => mul_any _ _ a (mul b c) rfl rfl W
  have hab := fun W => mul_any _ _ a b rfl rfl W
  have hrc := fun W => mul_any _ _ (mul a b) c rfl rfl W
  have hba := fun W => mul_any _ _ b a rfl rfl W
  have sbc := fun W => add_any b c W
  have has := fun W => mul_any _ _ a (b ^^^ c) rfl rfl W
  have hac := fun W => mul_any _ _ a c rfl rfl W
  have srv := fun W => add_any (mul a b) (mul a c) W
  have ha1 := fun W => mul_any _ 1 a 1 rfl rfl W
  have saa := fun W => add_any a a W
  have hai := fun W => mul_any _ _ a (inv a) rfl rfl W
  have hz := mul_eq_zero a b
  rw [mul_assoc] at hrc
  rw [mul_comm b a] at hba
  rw [mul_add] at has
  rw [mul_one] at ha1
  rw [UInt8.xor_self] at saa
  have hmi : a ≠ 0 → mul a (inv a) = 1 := mul_inv
  generalize mul a (mul b c) = q at *
  generalize mul b c = p at *
  generalize mul a b = r at *
  generalize mul a c = v at *
  generalize r ^^^ v = t at *
  generalize b ^^^ c = s at *
  generalize inv a = i at *
  have Hbc := Lib.hid hbc; clear hbc
  have Hap := Lib.hid hap; clear hap
  have Hab := Lib.hid hab; clear hab
  have Hrc := Lib.hid hrc; clear hrc
  have Hba := Lib.hid hba; clear hba
  have Sbc := Lib.hid sbc; clear sbc
  have Has := Lib.hid has; clear has
  have Hac := Lib.hid hac; clear hac
  have Srv := Lib.hid srv; clear srv
  have Ha1 := Lib.hid ha1; clear ha1
  have Saa := Lib.hid saa; clear saa
  by_cases ha : a = 0
  · have ea : (((a.toNat : Nat) : Int) == 0) = true := by rw [ha]; rfl
    have er : (((r.toNat : Nat) : Int) == 0) = true := by rw [hz.2 (.inl ha)]; rfl
    rw [if_pos ha] at hiv
    have Iv := Lib.hid hiv
    clear hiv hz hmi hai ha
    go_enter Try.func6, Try.ntmps6
    go_wp2_with fail
    refine (Iv.out _).mono ?_
    rintro e w' ⟨rfl, rfl⟩
    go_wp2_with fail
    refine (wakes_any _).mono ?_
    rintro e w' ⟨rfl, rfl⟩
    go_wp2_with fail
    refine (Hbc.out _).mono ?_
    rintro e w' ⟨rfl, rfl⟩
    go_wp2_with fail
    refine (Hap.out _).mono ?_
    rintro e w' ⟨rfl, rfl⟩
    go_wp2_with fail
    refine (Hab.out _).mono ?_
    rintro e w' ⟨rfl, rfl⟩
    go_wp2_with fail
    refine (Hrc.out _).mono ?_
    rintro e w' ⟨rfl, rfl⟩
    go_wp2_with fail
    refine (Hab.out _).mono ?_
    rintro e w' ⟨rfl, rfl⟩
    go_wp2_with fail
    refine (Hba.out _).mono ?_
    rintro e w' ⟨rfl, rfl⟩
    go_wp2_with fail
    refine (Sbc.out _).mono ?_
    rintro e w' ⟨rfl, rfl⟩
    go_wp2_with fail
    refine (Has.out _).mono ?_
    rintro e w' ⟨rfl, rfl⟩
    go_wp2_with fail
    refine (Hab.out _).mono ?_
    rintro e w' ⟨rfl, rfl⟩
    go_wp2_with fail
    refine (Hac.out _).mono ?_
    rintro e w' ⟨rfl, rfl⟩
    go_wp2_with fail
    refine (Srv.out _).mono ?_
    rintro e w' ⟨rfl, rfl⟩
    go_wp2_with fail
    refine (Ha1.out _).mono ?_
    rintro e w' ⟨rfl, rfl⟩
    go_wp2_with fail
    refine (Saa.out _).mono ?_
    rintro e w' ⟨rfl, rfl⟩
    go_wp2_with fail
    refine (Hab.out _).mono ?_
    rintro e w' ⟨rfl, rfl⟩
    go_wp2
    all_goals (go_ret; exact ⟨rfl, rfl⟩)
  have ea := ne_zero_beq ha
  rw [hmi ha] at hai
  have Hai := Lib.hid hai
  rw [if_neg ha] at hiv
  have Iv := Lib.hid hiv
  clear hiv hmi hai
  by_cases hb : b = 0
  · have eb : (((b.toNat : Nat) : Int) == 0) = true := by rw [hb]; rfl
    have er : (((r.toNat : Nat) : Int) == 0) = true := by rw [hz.2 (.inr hb)]; rfl
    clear hz ha hb
    go_enter Try.func6, Try.ntmps6
    go_wp2_with fail
    refine (Iv.out _).mono ?_
    rintro e w' ⟨rfl, rfl⟩
    go_wp2_with fail
    refine (wakes_any _).mono ?_
    rintro e w' ⟨rfl, rfl⟩
    go_wp2_with fail
    refine (Hbc.out _).mono ?_
    rintro e w' ⟨rfl, rfl⟩
    go_wp2_with fail
    refine (Hap.out _).mono ?_
    rintro e w' ⟨rfl, rfl⟩
    go_wp2_with fail
    refine (Hab.out _).mono ?_
    rintro e w' ⟨rfl, rfl⟩
    go_wp2_with fail
    refine (Hrc.out _).mono ?_
    rintro e w' ⟨rfl, rfl⟩
    go_wp2_with fail
    refine (Hab.out _).mono ?_
    rintro e w' ⟨rfl, rfl⟩
    go_wp2_with fail
    refine (Hba.out _).mono ?_
    rintro e w' ⟨rfl, rfl⟩
    go_wp2_with fail
    refine (Sbc.out _).mono ?_
    rintro e w' ⟨rfl, rfl⟩
    go_wp2_with fail
    refine (Has.out _).mono ?_
    rintro e w' ⟨rfl, rfl⟩
    go_wp2_with fail
    refine (Hab.out _).mono ?_
    rintro e w' ⟨rfl, rfl⟩
    go_wp2_with fail
    refine (Hac.out _).mono ?_
    rintro e w' ⟨rfl, rfl⟩
    go_wp2_with fail
    refine (Srv.out _).mono ?_
    rintro e w' ⟨rfl, rfl⟩
    go_wp2_with fail
    refine (Ha1.out _).mono ?_
    rintro e w' ⟨rfl, rfl⟩
    go_wp2_with fail
    refine (Saa.out _).mono ?_
    rintro e w' ⟨rfl, rfl⟩
    go_wp2_with fail
    refine (Hab.out _).mono ?_
    rintro e w' ⟨rfl, rfl⟩
    go_wp2_with fail
    refine (Hai.out _).mono ?_
    rintro e w' ⟨rfl, rfl⟩
    go_wp2
    all_goals (go_ret; exact ⟨rfl, rfl⟩)
  · have eb := ne_zero_beq hb
    have er : (((r.toNat : Nat) : Int) == 0) = false := ne_zero_beq (fun h => by rcases hz.1 h with h | h <;> contradiction)
    clear hz ha hb
    go_enter Try.func6, Try.ntmps6
    go_wp2_with fail
    refine (Iv.out _).mono ?_
    rintro e w' ⟨rfl, rfl⟩
    go_wp2_with fail
    refine (wakes_any _).mono ?_
    rintro e w' ⟨rfl, rfl⟩
    go_wp2_with fail
    refine (Hbc.out _).mono ?_
    rintro e w' ⟨rfl, rfl⟩
    go_wp2_with fail
    refine (Hap.out _).mono ?_
    rintro e w' ⟨rfl, rfl⟩
    go_wp2_with fail
    refine (Hab.out _).mono ?_
    rintro e w' ⟨rfl, rfl⟩
    go_wp2_with fail
    refine (Hrc.out _).mono ?_
    rintro e w' ⟨rfl, rfl⟩
    go_wp2_with fail
    refine (Hab.out _).mono ?_
    rintro e w' ⟨rfl, rfl⟩
    go_wp2_with fail
    refine (Hba.out _).mono ?_
    rintro e w' ⟨rfl, rfl⟩
    go_wp2_with fail
    refine (Sbc.out _).mono ?_
    rintro e w' ⟨rfl, rfl⟩
    go_wp2_with fail
    refine (Has.out _).mono ?_
    rintro e w' ⟨rfl, rfl⟩
    go_wp2_with fail
    refine (Hab.out _).mono ?_
    rintro e w' ⟨rfl, rfl⟩
    go_wp2_with fail
    refine (Hac.out _).mono ?_
    rintro e w' ⟨rfl, rfl⟩
    go_wp2_with fail
    refine (Srv.out _).mono ?_
    rintro e w' ⟨rfl, rfl⟩
    go_wp2_with fail
    refine (Ha1.out _).mono ?_
    rintro e w' ⟨rfl, rfl⟩
    go_wp2_with fail
    refine (Saa.out _).mono ?_
    rintro e w' ⟨rfl, rfl⟩
    go_wp2_with fail
    refine (Hab.out _).mono ?_
    rintro e w' ⟨rfl, rfl⟩
    go_wp2_with fail
    refine (Hai.out _).mono ?_
    rintro e w' ⟨rfl, rfl⟩
    go_wp2
    all_goals (go_ret; exact ⟨rfl, rfl⟩)
theorem gfField_below (a b c : UInt8) (w : World) :
    Calls Try.prog 6 #[.int .u8 (a.toNat : Int), .int .u8 (b.toNat : Int), .int .u8 (c.toNat : Int)] w fun e w' => e = .returned (.bool true) ∧ Below w.heap.size w w' :=
  (gfField_walk a b c w).mono fun _ _ h => ⟨h.1, h.2 ▸ Below.refl _ _⟩
end Go.Proofs.Ytfdmakihobhhnaa
