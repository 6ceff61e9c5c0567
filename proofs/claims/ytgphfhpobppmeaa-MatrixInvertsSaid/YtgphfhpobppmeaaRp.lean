/-
  The walk of the law MatrixMakes.
-/
import Derived.Test.YtgphfhpobppmeaaRn
namespace Go.Proofs.Ytgphfhpobppmeaa
open Go.RowKit GfM
theorem same_self (w : World) (va vb : Value) (A : List (List UInt8)) (hA : RMat w va A) (hB : RMat w vb A) :
    Calls Try.prog 15 #[va, vb] w fun e w' => e = .returned (.bool true) ∧ Below w.heap.size w w' :=
  (same_any w va vb A A hA hB).mono fun e w' h => ⟨by rw [h.1]; simp, h.2⟩
set_option maxRecDepth 100000 in
set_option maxHeartbeats 1000000 in
theorem matrixMakes_walk (w : World) (v : Value) (m : List (List UInt8)) (hv : RMat w v m) (n : Int) (_ : (Lit.int .i64 n).wf = true) (k : Int) (_ : (Lit.int .i64 k).wf = true) :
    Calls Try.prog 7 #[v, .int .i64 n, .int .i64 k] w fun e w' => e = .returned (.bool true) ∧ Below w.heap.size w w' := by
  have h1 := fun W => identity_any n W
  have h2 := fun W => rident_any n W
  have h3 := fun W => vandermonde_any n k W
  have h4 := fun W => rvander_any n k W
  have h5 := fun W (h : Below w.heap.size w W) => good_any W v m (hv.below h)
  have h6 := fun W (h : Below w.heap.size w W) => rgood_any W v m (hv.below h)
  generalize (idOut n).2 = e1 at *
  generalize (idOut n).1 = X1 at *
  generalize (vdOut n k).2 = e2 at *
  generalize (vdOut n k).1 = X2 at *
  generalize goodM m = g at *
  have H1 := Lib.hid h1; clear h1
  have H2 := Lib.hid h2; clear h2
  have H3 := Lib.hid h3; clear h3
  have H4 := Lib.hid h4; clear h4
  have H5 := Lib.hid h5; clear h5
  have H6 := Lib.hid h6; clear h6 hv
  go_enter Try.func7, Try.ntmps7
  go_wp2_with fail
  refine (H1.out _).mono ?_
  rintro e w1 ⟨va, rfl, hRa, hB1⟩
  go_wp2_with fail
  refine (H2.out _).mono ?_
  rintro e w2 ⟨vb, rfl, hRb, hb2⟩
  have hB2 := below_then hB1 hB1.size hb2
  have hRa2 := hRa.below hb2
  go_wp2_with fail
  refine (H3.out _).mono ?_
  rintro e w3 ⟨vc, rfl, hRc, hb3⟩
  have hB3 := below_then hB2 hB2.size hb3
  have hRa3 := hRa2.below hb3
  have hRb3 := hRb.below hb3
  go_wp2_with fail
  refine (H4.out _).mono ?_
  rintro e w4 ⟨vd, rfl, hRd, hb4⟩
  have hB4 := below_then hB3 hB3.size hb4
  have hRa4 := hRa3.below hb4
  have hRb4 := hRb3.below hb4
  have hRc4 := hRc.below hb4
  go_wp2_with fail
  refine (wakes03 _).mono ?_
  rintro e w5 ⟨rfl, hb5⟩
  have hB5 := below_then hB4 hB4.size hb5
  have hRa5 := hRa4.below hb5
  have hRb5 := hRb4.below hb5
  have hRc5 := hRc4.below hb5
  have hRd5 := hRd.below hb5
  go_wp2_with fail
  refine (H5.out _ hB5).mono ?_
  rintro e w6 ⟨rfl, hb6⟩
  have hB6 := below_then hB5 hB5.size hb6
  go_wp2_with fail
  refine (H6.out _ hB6).mono ?_
  rintro e w7 ⟨rfl, hb7⟩
  have hB7 := below_then hB6 hB6.size hb7
  have hs1 := same_self w7 va vb X1 ((hRa5.below hb6).below hb7) ((hRb5.below hb6).below hb7)
  have HS1 := Lib.hid hs1; clear hs1
  go_wp2_with fail
  refine (HS1.out).mono ?_
  rintro e w8 ⟨rfl, hb8⟩
  have hB8 := below_then hB7 hB7.size hb8
  have hs2 := same_self w8 vc vd X2 (((hRc5.below hb6).below hb7).below hb8) (((hRd5.below hb6).below hb7).below hb8)
  have HS2 := Lib.hid hs2; clear hs2
  go_wp2_with fail
  refine (HS2.out).mono ?_
  rintro e w9 ⟨rfl, hb9⟩
  have hB9 := below_then hB8 hB8.size hb9
  go_wp2
  go_ret
  exact ⟨by simp, hB9⟩
end Go.Proofs.Ytgphfhpobppmeaa
