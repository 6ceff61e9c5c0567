/-
  The walks of cofferdamlaw04.wakes and of the laws RsEncodes, RsChecks.
-/
import Derived.Test.YtikgipohjoiagaaSk
namespace Go.Proofs.Ytikgipohjoiagaa
open Go.RowKit GfM

theorem cut_any (w : World) (v : Value) (T : List ByteArray) (hv : Reads w v (sv T)) (n : Nat) (hn : n ≤ 1000) (x : Int) (hx : x = n) (even : Bool) :
    Calls Try.prog 11 #[v, .int .i64 x, .bool even] w fun e w' => ∃ v', e = .returned v' ∧ Own w' w.heap.size 9 v' (sv (cuts T n even (min T.length 12))) ∧ Below w.heap.size w w' := by
  cases even
  · exact cutF w v T hv n hn x hx
  · exact cutE w v T hv n hn x hx

/-! ### what the document fixes -/
theorem lit_reads (W : World) (T : List ByteArray) (k : Nat) (hk : T.length = k) (hm : k ≤ 1000) : Reads (W.alloc (.cells (sv T).toArray 9)) (.slice (some ⟨W.heap.size, 0, none⟩) k k) (sv T) := by
  have h := Own.lit_ W W.heap.size 9 (sv T).toArray (Nat.le_refl _) (by simp [sv_length, maxLen]; omega)
  have e : (sv T).toArray.size = k := by simp [sv_length, hk]
  rw [e] at h
  exact h.reads
def w2T : List ByteArray := [⟨#[1]⟩, ⟨#[1]⟩]
def w4T : List ByteArray := [⟨#[1]⟩, ⟨#[1]⟩, ⟨#[0]⟩, ⟨#[3]⟩]
theorem w2_ok : enE w2T = 0 := enE_of (by decide) (by decide) (fun j hj => by
  have : j = 0 ∨ j = 1 := by simp [w2T] at hj; omega
  rcases this with rfl | rfl <;> rfl) (by decide)
theorem w2_P : bs (enP w2T) = ⟨#[0]⟩ := by
  unfold enP; rw [if_pos w2_ok]
  have : pp w2T (nn w2T) w2T.length = [0] := by decide
  rw [this]; rfl
theorem w2_Q : bs (enQ w2T) = ⟨#[3]⟩ := by
  unfold enQ; rw [if_pos w2_ok]
  have : qq w2T (nn w2T) w2T.length = [3] := by decide
  rw [this]; rfl
theorem w4_ok : ckB w4T = true := by
  have e : w4T.take (w4T.length - 2) = w2T := rfl
  unfold ckB
  rw [decide_eq_true_iff, e, w2_ok, w2_P, w2_Q]
  exact ⟨by decide, rfl, rfl, rfl⟩
set_option maxHeartbeats 400000 in
theorem wakes04 (w : World) : Calls Try.prog 14 #[] w fun e w' => e = .returned (.bool true) ∧ Below w.heap.size w w' := by
  have h1 : Calls Try.prog 12 #[.slice (some ⟨w.heap.size, 0, none⟩) 2 2] (w.alloc (.cells #[.string ⟨#[1]⟩, .string ⟨#[1]⟩] 9)) fun e w' => e = .returned (.tuple #[.string ⟨#[0]⟩, .string ⟨#[3]⟩, .int .i64 0]) ∧ Below (w.alloc (.cells #[.string ⟨#[1]⟩, .string ⟨#[1]⟩] 9)).heap.size (w.alloc (.cells #[.string ⟨#[1]⟩, .string ⟨#[1]⟩] 9)) w' := by
    have h := encode_any _ _ w2T (lit_reads w w2T 2 rfl (by decide))
    rw [w2_ok, w2_P, w2_Q] at h
    exact h
  have h2 : ∀ W : World, Calls Try.prog 15 #[.slice (some ⟨W.heap.size, 0, none⟩) 4 4] (W.alloc (.cells #[.string ⟨#[1]⟩, .string ⟨#[1]⟩, .string ⟨#[0]⟩, .string ⟨#[3]⟩] 9)) fun e w' => e = .returned (.bool true) ∧ Below (W.alloc (.cells #[.string ⟨#[1]⟩, .string ⟨#[1]⟩, .string ⟨#[0]⟩, .string ⟨#[3]⟩] 9)).heap.size (W.alloc (.cells #[.string ⟨#[1]⟩, .string ⟨#[1]⟩, .string ⟨#[0]⟩, .string ⟨#[3]⟩] 9)) w' := by
    intro W
    have h := check_any _ _ w4T (lit_reads W w4T 4 rfl (by decide))
    rw [w4_ok] at h
    exact h
  have H1 := Lib.hid h1; clear h1
  have H2 := Lib.hid h2; clear h2
  go_enter Try.func14, Try.ntmps14
  go_wp2_with fail
  refine (H1.out).mono ?_
  rintro e w1 ⟨rfl, hb1⟩
  have hB1 : Below w.heap.size w w1 := below_then ((Below.refl _ _).alloc (Nat.le_refl _) _) (by simp) hb1
  go_wp2_with fail
  refine (H2.out _).mono ?_
  rintro e w2 ⟨rfl, hb2⟩
  have hB2 : Below w.heap.size w w2 := below_then (hB1.alloc hB1.size _) (Nat.le_trans hB1.size (by simp)) hb2
  go_wp2
  go_ret
  exact ⟨rfl, hB2⟩

/-! ### RsEncodes -/
set_option maxHeartbeats 1000000 in
theorem rsEncodes_walk (w : World) (v : Value) (T : List ByteArray) (hv : Reads w v (sv T)) (even : Bool) :
    Calls Try.prog 3 #[v, .bool even] w fun e w' => e = .returned (.bool true) ∧ Below w.heap.size w w' := by
  have hcut := cut_any w v T hv 200 (by decide) 200 rfl even
  generalize cuts T 200 even (min T.length 12) = C at *
  have HCUT := Lib.hid hcut; clear hcut hv
  have he : ∀ W u, Reads W u (sv C) → Calls Try.prog 12 #[u] W fun e w' => e = .returned (.tuple #[.string (bs (enP C)), .string (bs (enQ C)), .int .i64 (enE C)]) ∧ Below W.heap.size W w' := fun W u h => encode_any W u C h
  have hr : ∀ W u, Reads W u (sv C) → Calls Try.prog 13 #[u] W fun e w' => e = .returned (.tuple #[.string (bs (enP C)), .string (bs (enQ C)), .int .i64 (enE C)]) ∧ Below W.heap.size W w' := fun W u h => rencode_any W u C h
  have HE := Lib.hid he; clear he
  have HR := Lib.hid hr; clear hr
  generalize bs (enP C) = P at *
  generalize bs (enQ C) = Q at *
  generalize enE C = E at *
  go_enter Try.func3, Try.ntmps3
  go_wp2_with fail
  refine (HCUT.out).mono ?_
  rintro e w1 ⟨l, rfl, hO, hB1⟩
  have hR1 := hO.reads
  go_wp2_with fail
  refine (HE.out _ _ hR1).mono ?_
  rintro e w2 ⟨rfl, hb2⟩
  have hR2 := hR1.below hb2
  have hB2 := below_then hB1 hB1.size hb2
  go_wp2_with fail
  refine (HR.out _ _ hR2).mono ?_
  rintro e w3 ⟨rfl, hb3⟩
  have hB3 := below_then hB2 hB2.size hb3
  go_wp2_with fail
  refine (wakes04 _).mono ?_
  rintro e w4 ⟨rfl, hb4⟩
  have hB4 := below_then hB3 hB3.size hb4
  go_wp2
  go_ret
  exact ⟨rfl, hB4⟩
end Go.Proofs.Ytikgipohjoiagaa
