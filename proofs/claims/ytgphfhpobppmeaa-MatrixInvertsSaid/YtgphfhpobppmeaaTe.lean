/-
  The walks of the document's Determinant and Invert.
-/
import Derived.Test.YtgphfhpobppmeaaTd
namespace Go.Proofs.Ytgphfhpobppmeaa
open Go.RowKit GfM

/-- the determinant's first i terms. -/
def dS (n : Nat) (A : Mat) (i : Nat) : UInt8 := sx i fun c => mul (A 0 c) (det n (wo A 0 c))
theorem dS_succ (n : Nat) (A : Mat) (i : Nat) : dS n A (i + 1) = dS n A i ^^^ mul (A 0 i) (det n (wo A 0 i)) := rfl
theorem dS_skip (n : Nat) (A : Mat) (i : Nat) (h : A 0 i = 0) : dS n A (i + 1) = dS n A i := by rw [dS_succ, h, zero_mul, UInt8.xor_zero]
theorem u8_ne {x : UInt8} (h : x ≠ 0) : (((x.toNat : Nat) : Int) != 0) = true := by
  rw [bne_iff_ne]
  intro e
  exact h (UInt8.toNat_inj.1 (by have : x.toNat = 0 := by omega
                                 rw [this]; rfl))
set_option maxRecDepth 100000 in
set_option maxHeartbeats 1000000 in
theorem rdet_any (n : Nat) : ∀ (w : World) (v : Value) (M : List (List UInt8)), RMat w v M → Shp M n n → n ≤ 16 →
    Calls Try.prog 32 #[v] w fun e w' => e = .returned (.int .u8 ((det n (en M)).toNat : Int)) ∧ Below w.heap.size w w' := by
  induction n with
  | zero =>
    intro w v M hv hS hn
    obtain ⟨A, c, rfl, hc1, hc2, _⟩ := hv.shape
    have hl : M.length = 0 := hS.1
    rw [hl] at hc1 ⊢
    have HD : Hid (det 0 (en M) = 1) := Lib.hid rfl
    clear hl hv hS
    generalize det 0 (en M) = d at *
    go_enter Try.func32, Try.ntmps32
    go_wp2
    go_ret
    exact ⟨by rw [HD.out]; rfl, Below.refl _ _⟩
  | succ n ih =>
    intro w v M hv hS hn
    have IH := Lib.hid ih; clear ih
    obtain ⟨b, o, cp, rfl, hcp, hbw⟩ := hv.at_ (by rw [hS.1]; omega)
    have hML : M.length = n + 1 := hS.1
    have HS := Lib.hid hS; clear hS
    have HML := Lib.hid hML
    rw [hML] at hcp ⊢
    have hv' : RMat w (.slice (some ⟨b, o, none⟩) (n + 1) cp) M := by rw [← hML]; exact hv
    have HV := Lib.hid hv'; clear hv hv' hML
    have HDS : Hid (det (n + 1) (en M) = dS n (en M) (n + 1)) := Lib.hid rfl
    have HD0 : Hid (dS n (en M) 0 = 0) := Lib.hid rfl
    generalize det (n + 1) (en M) = D at *
    have hne : ((n : Int) + 1 == 0) = false := by rw [beq_eq_false_iff_ne]; omega
    go_enter Try.func32, Try.ntmps32
    go_wp2
    go_loopw [3, 4, 5, 6] (fun s3 s4 _ _ wr => ∃ i : Nat, i ≤ n + 1 ∧ s4 = .int .i64 i ∧ s3 = .int .u8 ((dS n (en M) i).toNat : Int) ∧ Below w.heap.size w wr) (fun _ s4 _ _ _ => n + 1 - (intOf s4).toNat)
    case atStart => exact ⟨0, by omega, rfl, by rw [HD0.out]; rfl, Below.refl _ _⟩
    case round =>
      obtain ⟨i, hi, rfl, rfl, hB⟩ := hrel
      by_cases hlt : i < n + 1
      · have hin : (i : Int) < (n : Int) + 1 := by omega
        have hrm := HV.out.below hB
        obtain ⟨b1, o1, c1, hx1, hx2, hx3⟩ := RMat.el hrm 0 i (by rw [HML.out]; omega) (by rw [HS.out.2 0 (by omega)]; exact hlt)
        rw [HS.out.2 0 (by omega)] at hx1 hx2
        rw [Nat.add_zero] at hx1
        by_cases hz : en M 0 i = 0
        · have hsk := dS_skip n (en M) i hz
          have HSK := Lib.hid hsk; clear hsk
          rw [hz] at hx3
          clear hz hrm
          generalize dS n (en M) i = S at *
          go_wp2
          go_roundw
          case rel => exact ⟨i + 1, by omega, by go_num, by rw [HSK.out], hB⟩
          case measure => simp [intOf]; omega
        · have hnz := u8_ne hz
          have hsu := dS_succ n (en M) i
          have hwt := without_any wr _ M hrm (n + 1) HS.out (by omega) hn 0 i 0 rfl
          have HWT := Lib.hid hwt; clear hwt
          have hdt := wL_det M n 0 i (by omega) (by omega)
          have hws := wL_shp M n 0 i (by omega) (by omega)
          have HWS := Lib.hid hws; clear hws
          rw [← hdt] at hsu
          have HSU := Lib.hid hsu; clear hsu hdt hz
          have hih := fun W v' (h : RMat W v' (wL M (n + 1) 0 i (n + 1))) => IH.out W v' _ h HWS.out (by omega)
          generalize wL M (n + 1) 0 i (n + 1) = L at *
          have HIH := Lib.hid hih; clear hih
          generalize det n (en L) = d at *
          generalize dS n (en M) i = S at *
          have hx4 := fun W (h : Below w.heap.size w W) => RMat.el (HV.out.below h) 0 i (by rw [HML.out]; omega) (by rw [HS.out.2 0 (by omega)]; exact hlt)
          have HX4 := Lib.hid hx4; clear hx4
          generalize en M 0 i = x at *
          have hmul : ∀ W, Calls Try.prog 35 #[.int .u8 (x.toNat : Int), .int .u8 (d.toNat : Int)] W fun e w' => e = .returned (.int .u8 ((mul x d).toNat : Int)) ∧ Below W.heap.size W w' := fun W => rmul_any _ _ x d rfl rfl W
          have HM := Lib.hid hmul; clear hmul
          generalize mul x d = y at *
          have hadd : ∀ W, Calls Try.prog 41 #[.int .u8 (S.toNat : Int), .int .u8 (y.toNat : Int)] W fun e w' => e = .returned (.int .u8 ((S ^^^ y).toNat : Int)) ∧ Below W.heap.size W w' := fun W => radd_any _ _ S y rfl rfl W
          have HA := Lib.hid hadd; clear hadd
          generalize S ^^^ y = S2 at *
          clear hrm
          go_wp2_with fail
          refine (HWT.out).mono ?_
          rintro e w1 ⟨vl, rfl, hL, hb⟩
          have hB1 := below_then hB hB.size hb
          have HL := Lib.hid hL
          clear hx1 hx2 hx3 hL hb
          go_wp2_with fail
          refine (HIH.out _ _ HL.out).mono ?_
          rintro e w2 ⟨rfl, hb⟩
          have hB2 := below_then hB1 hB1.size hb
          obtain ⟨b2, o2, c2, hy1, hy2, hy3⟩ := HX4.out _ hB2
          rw [HS.out.2 0 (by omega)] at hy1 hy2
          rw [Nat.add_zero] at hy1
          clear hb hB1
          go_wp2_with fail
          refine (HM.out _).mono ?_
          rintro e w3 ⟨rfl, hb⟩
          have hB3 := below_then hB2 hB2.size hb
          clear hb hB2 hy1 hy2 hy3
          go_wp2_with fail
          refine (HA.out _).mono ?_
          rintro e w4 ⟨rfl, hb⟩
          have hB4 := below_then hB3 hB3.size hb
          go_wp2
          go_roundw
          case rel => exact ⟨i + 1, by omega, by go_num, by rw [HSU.out], hB4⟩
          case measure => simp [intOf]; omega
      · obtain rfl : i = n + 1 := by omega
        rw [← HDS.out]
        go_wp2
        go_ret
        exact ⟨rfl, hB⟩
end Go.Proofs.Ytgphfhpobppmeaa
