/-
  The walk of the document's Encode: two rows of the call's own, side by side.
-/
import Derived.Test.YtikgipohjoiagaaSe
namespace Go.Proofs.Ytikgipohjoiagaa
open Go.RowKit GfM

/-! ### two rows that are not one -/
def Sep (a b : Value) : Prop := ∀ k, a.ownBlock = some k → b.ownBlock ≠ some k
theorem Sep.symm {a b : Value} (h : Sep a b) : Sep b a := fun k hb ha => h k ha hb
theorem Sep.ne {a b : Value} (h : Sep a b) : a.ownBlock = none ∨ a.ownBlock ≠ b.ownBlock := by
  cases ha : a.ownBlock with
  | none => exact .inl rfl
  | some k => exact .inr fun e => h k ha e.symm
theorem Sep.nil_ (b : Value) : Sep (.slice none 0 0) b := fun k h => by cases h
theorem Sep.grow {W : World} {base : Nat} {e : TypeId} {a a1 b : Value} {xs : List Value} (h : Sep a b) (hb : Own W base e b xs) (hat : a1.ownBlock = a.ownBlock ∨ ∃ g, a1.ownBlock = some g ∧ W.heap.size ≤ g) : Sep a1 b := by
  intro k h1 h2
  rcases hat with hat | ⟨g, hat, hg⟩
  · exact h k (by rw [← hat]; exact h1) h2
  · rw [hat] at h1
    injection h1 with h1
    have := (hb.lt k h2).2
    omega

set_option maxRecDepth 100000 in
set_option maxHeartbeats 1000000 in
theorem rencode_any (w : World) (v : Value) (T : List ByteArray) (hv : Reads w v (sv T)) :
    Calls Try.prog 13 #[v] w fun e w' => e = .returned (.tuple #[.string (bs (enP T)), .string (bs (enQ T)), .int .i64 (enE T)]) ∧ Below w.heap.size w w' := by
  have hv0 := hv
  obtain ⟨A, c, rfl, hc1, hc2, hcell⟩ := hv.texts
  clear hv
  by_cases hn : T.length < 1 ∨ 8 < T.length
  · have e1 : enE T = 2 := by unfold enE; rw [if_pos hn]
    have e2 : enP T = [] := by unfold enP; rw [if_neg (by rw [e1]; decide)]
    have e3 : enQ T = [] := by unfold enQ; rw [if_neg (by rw [e1]; decide)]
    rw [e1, e2, e3]
    clear e1 e2 e3 hcell hv0
    by_cases h1 : T.length < 1
    · generalize T.length = n at *
      go_enter Try.func13, Try.ntmps13
      go_wp2
      go_ret3
      exact ⟨rfl, Below.refl _ _⟩
    · have h2 : 8 < T.length := by omega
      clear hn
      generalize T.length = n at *
      go_enter Try.func13, Try.ntmps13
      go_wp2
      go_ret3
      exact ⟨rfl, Below.refl _ _⟩
  · by_cases hs : shE T = 0
    · have e1 : enE T = 0 := by unfold enE; rw [if_neg hn]; exact hs
      obtain ⟨hn1, hn8, hsz, hle⟩ := enE_ok e1
      have e2 : enP T = pbs T (nn T) := by unfold enP; rw [if_pos e1, pp_pbs T _ hsz]
      have e3 : enQ T = qbs T (nn T) := by unfold enQ; rw [if_pos e1, qq_qbs T _ hsz]
      obtain ⟨b, off, rfl, hc⟩ := hcell (by omega)
      have hc0 := hc 0 (by omega)
      rw [Nat.add_zero] at hc0
      have hbl : b < w.heap.size := World.block_lt_of_cell? w _ hc0
      have hnn : (tl T 0).size = nn T := rfl
      have hshape := rshape_any w _ T hv0
      rw [hs] at hshape
      have HSH := Lib.hid hshape; clear hshape hs
      rw [e1, e2, e3]
      have hpar : ∀ (W : World), Below w.heap.size w W → ∀ k, k < nn T → Calls Try.prog 28 #[.slice (some ⟨b, off, none⟩) T.length c, .int .i64 k] W fun e w' => e = .returned (.tuple #[.int .u8 ((pb T k T.length).toNat : Int), .int .u8 ((qb T k T.length).toNat : Int)]) ∧ Below W.heap.size W w' :=
        fun W hW k hk => parity_any W _ T (hv0.below hW) (by omega) k (fun i hi => by rw [hsz i hi]; exact hk)
      have HPAR := Lib.hid hpar; clear hpar
      clear e1 e2 e3 hcell hv0 hsz hc hn
      have hP0 : bv (pbs T 0) = [] := rfl
      have hQ0 : bv (qbs T 0) = [] := rfl
      have HP0 := Lib.hid hP0; clear hP0
      have HQ0 := Lib.hid hQ0; clear hQ0
      generalize tl T 0 = s0 at *
      have HPS := Lib.hid (pbs_succ T)
      have HQS := Lib.hid (qbs_succ T)
      generalize T.length = n at *
      go_enter Try.func13, Try.ntmps13
      go_wp2_with fail
      refine (HSH.out).mono ?_
      rintro e w0 ⟨rfl, hB0⟩
      have hk0 := (hB0.cell hbl).trans hc0
      go_wp2
      clear hk0
      go_loopw [6, 7, 8, 9, 10] (fun s6 s7 s8 _ _ wr => ∃ i : Nat, i ≤ s0.size ∧ s8 = .int .i64 i ∧ Own wr w.heap.size 5 s6 (bv (pbs T i)) ∧ Own wr w.heap.size 5 s7 (bv (qbs T i)) ∧ Sep s6 s7 ∧ Below w.heap.size w wr) (fun _ _ s8 _ _ _ => s0.size - (intOf s8).toNat)
      case atStart => exact ⟨0, by omega, rfl, by rw [HP0.out]; exact Own.nil_ _ _ _, by rw [HQ0.out]; exact Own.nil_ _ _ _, Sep.nil_ _, hB0⟩
      case round =>
        obtain ⟨i, hi, rfl, hOP, hOQ, hsep, hB⟩ := hrel
        have hk := (hB.cell hbl).trans hc0
        by_cases hlt : i < s0.size
        · have hcall := fun W hW => HPAR.out W hW i (by rw [← hnn]; exact hlt)
          have hL : ((bv (pbs T i)).length + 1) * 1 ≤ 140737488355328 := by rw [bv_length, pbs_length]; omega
          have hL2 : ((bv (qbs T i)).length + 1) * 1 ≤ 140737488355328 := by rw [bv_length, qbs_length]; omega
          have hP1 : bv (pbs T (i + 1)) = bv (pbs T i) ++ [.int .u8 ((pb T i n).toNat : Int)] := by rw [HPS.out i, bv_append]; rfl
          have hQ1 : bv (qbs T (i + 1)) = bv (qbs T i) ++ [.int .u8 ((qb T i n).toNat : Int)] := by rw [HQS.out i, bv_append]; rfl
          have HL := Lib.hid hL; clear hL
          have HL2 := Lib.hid hL2; clear hL2
          have HP1 := Lib.hid hP1; clear hP1
          have HQ1 := Lib.hid hQ1; clear hQ1
          generalize pb T i n = x at *
          generalize qb T i n = y at *
          have HCALL := Lib.hid hcall; clear hcall
          go_wp2_with fail
          refine (HCALL.out _ hB).mono ?_
          rintro e w1 ⟨rfl, hb1⟩
          have hB1 := below_then hB hB.size hb1
          have hOP1 := hOP.below hb1
          have hOQ1 := hOQ.below hb1
          clear hk
          go_wp2_with (first
            | (at_builtin; refine append_one w.heap.size rfl (.tmp 38) (.tmp 40) 33 5 (.int .u8 0) 1 rfl Try.underlying33 info5 rfl (by decide) _ _ (.int .u8 (x.toNat : Int)) rfl rfl rfl hOP1 hB1 hB1.size HL.out ?_; intro v1 w2 hO2 hB2 hg2 hat2
               have hOQ2 := hOQ1.keep hg2 hsep.symm.ne
               have hsep2 := hsep.grow hOQ1 hat2)
            | (at_builtin; refine append_one w.heap.size rfl (.tmp 42) (.tmp 44) 33 5 (.int .u8 0) 1 rfl Try.underlying33 info5 rfl (by decide) _ _ (.int .u8 (y.toNat : Int)) rfl rfl rfl hOQ2 hB2 hB2.size HL2.out ?_; intro v2 w3 hO3 hB3 hg3 hat3
               have hOP3 := hO2.keep hg3 hsep2.ne
               have hsep3 := (hsep2.symm.grow hO2 hat3).symm))
          go_roundw
          case rel => exact ⟨i + 1, by omega, by go_num, by rw [HP1.out]; exact hOP3, by rw [HQ1.out]; exact hO3, hsep3, hB3⟩
          case measure => simp [intOf]; omega
        · obtain rfl : i = s0.size := by omega
          have hcv := reads_string (P := Try.prog) (src := 33) (dst := 9) Try.underlying33 Try.underlying5 Try.underlying9 hOP.drew.reads
          have hcw := reads_string (P := Try.prog) (src := 33) (dst := 9) Try.underlying33 Try.underlying5 Try.underlying9 hOQ.drew.reads
          generalize hP : pbs T s0.size = P at *
          generalize hQ : qbs T s0.size = Q at *
          have HP := Lib.hid hP; clear hP
          have HQ := Lib.hid hQ; clear hQ
          go_wp2
          go_region
          go_wp2
          go_ret3
          exact ⟨by rw [← hnn, HP.out, HQ.out]; rfl, hB.drew⟩
    · have e1 : enE T = shE T := by unfold enE; rw [if_neg hn]
      have e2 : enP T = [] := by unfold enP; rw [if_neg (by rw [e1]; exact hs)]
      have e3 : enQ T = [] := by unfold enQ; rw [if_neg (by rw [e1]; exact hs)]
      rw [e1, e2, e3]
      have hshape := rshape_any w _ T hv0
      have hb : (shE T != 0) = true := by rw [bne_iff_ne]; exact hs
      have HSH := Lib.hid hshape; clear hshape hs hv0 e1 e2 e3 hcell
      generalize shE T = x at *
      generalize T.length = n at *
      go_enter Try.func13, Try.ntmps13
      go_wp2_with fail
      refine (HSH.out).mono ?_
      rintro e w0 ⟨rfl, hB0⟩
      go_wp2
      go_ret3
      exact ⟨rfl, hB0⟩
end Go.Proofs.Ytikgipohjoiagaa
