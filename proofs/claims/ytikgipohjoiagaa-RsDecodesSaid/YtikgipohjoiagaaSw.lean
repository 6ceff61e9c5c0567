/-
  The walk of words.Xor.
-/
import Derived.Test.YtikgipohjoiagaaWc
namespace Go.Proofs.Ytikgipohjoiagaa
open Go.RowKit GfM

/-! ### the plain part -/
theorem xorL_length (a b : List UInt8) : (xorL a b).length = min a.length b.length := by simp [xorL]
/-- the first i places summed, noughts behind. -/
def xord (a b : List UInt8) (n i : Nat) : List UInt8 := xorL (a.take i) (b.take i) ++ List.replicate (n - i) 0
theorem xord_length (a b : List UInt8) (n i : Nat) (hi : i ≤ n) (ha : n ≤ a.length) (hb : n ≤ b.length) : (xord a b n i).length = n := by
  simp [xord, xorL]; omega
theorem xord_zero (a b : List UInt8) (n : Nat) : xord a b n 0 = List.replicate n 0 := by simp [xord, xorL]
theorem xord_all (a b : List UInt8) (n : Nat) (hn : n = min a.length b.length) : xord a b n n = xorL a b := by
  unfold xord
  rw [Nat.sub_self, List.replicate_zero, List.append_nil]
  exact xorL_all a b n (by omega) (by omega) (by omega)
theorem xord_succ (a b : List UInt8) (n i : Nat) (hi : i < n) (ha : n ≤ a.length) (hb : n ≤ b.length) : (xord a b n i).set i (a.getD i 0 ^^^ b.getD i 0) = xord a b n (i + 1) := by
  have hl : (xorL (a.take i) (b.take i)).length = i := by simp [xorL]; omega
  unfold xord
  rw [List.set_append_right _ _ (by omega), hl, Nat.sub_self, xorL_take a b i (by omega) (by omega), List.append_assoc]
  congr 1
  rw [show n - i = (n - (i + 1)) + 1 by omega, List.replicate_succ, List.set_cons_zero]
  rfl

/-! ### words.Xor -/
theorem mk_bytes (m : Nat) (hm : m ≤ 140737488355328) : ∀ W : World, (Instr.makeSlice 33 (.int .i64 (m : Int)) (.int .i64 (m : Int))).run Try.prog W = .ok (.slice (some ⟨W.heap.size, 0, none⟩) m m) (W.alloc (.cells (madeCells #[.int .u8 0] m) 5)) := by
  intro W
  exact run_make_row' 33 5 (.int .u8 0) 1 Try.underlying33 info5 rfl .i64 .i64 m (by omega) (by omega) W

set_option maxRecDepth 100000 in
set_option maxHeartbeats 400000 in
theorem xor_le (s t : ByteArray) (a b : List UInt8) (hs : a = s.data.toList) (ht : b = t.data.toList) (hle : s.size ≤ t.size) (hls : s.size ≤ 140737488351232) (w : World) :
    Calls Try.prog 24 #[.string s, .string t] w fun e w' => e = .returned (.string (bs (xorL a b))) ∧ Below w.heap.size w w' := by
  have hxs : ∀ i, ∀ h : i < s.size, ((s[i]'h).toNat : Int) = ((a.getD i 0).toNat : Int) := by subst hs; exact byte_at s
  have hxt : ∀ i, ∀ h : i < t.size, ((t[i]'h).toNat : Int) = ((b.getD i 0).toNat : Int) := by subst ht; exact byte_at t
  have hla : a.length = s.size := by subst hs; exact size_toList s
  have hlb : b.length = t.size := by subst ht; exact size_toList t
  have hmk := Bytes.made_zero w s.size hls
  have HS := Lib.hid hxs; clear hxs
  have HT := Lib.hid hxt; clear hxt
  have HLA := Lib.hid hla; clear hla
  have HLB := Lib.hid hlb; clear hlb
  have HMK := Lib.hid hmk; clear hmk
  have hm1 := mk_bytes s.size (by omega)
  clear hs ht
  go_enter Try.func24, Try.ntmps24
  go_wp2
  clear hm1
  go_loopw [6, 15] (fun _ s15 wr => ∃ i : Nat, i ≤ s.size ∧ s15 = .int .i64 i ∧ Bytes wr w.heap.size (xord a b s.size i) s.size ∧ Below w.heap.size w wr) (fun _ s15 _ => s.size - (intOf s15).toNat)
  case atStart => exact ⟨0, by omega, rfl, by rw [xord_zero]; exact HMK.out, ((Below.refl _ _).alloc (Nat.le_refl _) _)⟩
  case round =>
    obtain ⟨i, hi, rfl, hB, hbw⟩ := hrel
    by_cases hlt : i < s.size
    · have hxa := HS.out i
      have hxb := HT.out i
      have hfr := hB.frozen i (by omega)
      have hlen := xord_length a b s.size i (by omega) (by have := HLA.out; omega) (by have := HLB.out; omega)
      have hcell := hB.cell i (by rw [hlen]; exact hlt)
      have hst := hB.set_ i (a.getD i 0 ^^^ b.getD i 0)
      rw [xord_succ a b s.size i hlt (by have := HLA.out; omega) (by have := HLB.out; omega)] at hst
      have hbx := bits_xor_u8 (a.getD i 0) (b.getD i 0)
      generalize (xord a b s.size i).getD i 0 = u0 at *
      generalize a.getD i 0 = x at *
      generalize b.getD i 0 = y at *
      generalize x ^^^ y = z at *
      have HST := Lib.hid hst; clear hst
      have HL := Lib.hid hlen; clear hlen
      go_wp2
      go_region
      go_wp2
      go_roundw
      case rel => exact ⟨i + 1, by omega, by go_num, HST.out.drew, (hbw.setCell (by simp) _).drew⟩
      case measure => simp [intOf]; omega
    · obtain rfl : i = s.size := by omega
      have hr := hB.reads
      rw [xord_all a b s.size (by have := HLA.out; have := HLB.out; omega)] at hr
      have hln : (xorL a b).length = s.size := by rw [xorL_length]; have := HLA.out; have := HLB.out; omega
      rw [hln] at hr
      have hcv := reads_string (P := Try.prog) (src := 33) (dst := 9) Try.underlying33 Try.underlying5 Try.underlying9 hr
      generalize hr2 : xorL a b = r at *
      have HR := Lib.hid hr2; clear hr2
      have HLN := Lib.hid hln; clear hln
      go_wp2
      go_ret
      exact ⟨by rw [HR.out]; rfl, hbw⟩

set_option maxRecDepth 100000 in
set_option maxHeartbeats 400000 in
theorem xor_ge (s t : ByteArray) (a b : List UInt8) (hs : a = s.data.toList) (ht : b = t.data.toList) (hle : t.size < s.size) (hls : t.size ≤ 140737488351232) (w : World) :
    Calls Try.prog 24 #[.string s, .string t] w fun e w' => e = .returned (.string (bs (xorL a b))) ∧ Below w.heap.size w w' := by
  have hxs : ∀ i, ∀ h : i < s.size, ((s[i]'h).toNat : Int) = ((a.getD i 0).toNat : Int) := by subst hs; exact byte_at s
  have hxt : ∀ i, ∀ h : i < t.size, ((t[i]'h).toNat : Int) = ((b.getD i 0).toNat : Int) := by subst ht; exact byte_at t
  have hla : a.length = s.size := by subst hs; exact size_toList s
  have hlb : b.length = t.size := by subst ht; exact size_toList t
  have hmk := Bytes.made_zero w t.size hls
  have HS := Lib.hid hxs; clear hxs
  have HT := Lib.hid hxt; clear hxt
  have HLA := Lib.hid hla; clear hla
  have HLB := Lib.hid hlb; clear hlb
  have HMK := Lib.hid hmk; clear hmk
  have hm1 := mk_bytes t.size (by omega)
  clear hs ht
  go_enter Try.func24, Try.ntmps24
  go_wp2
  clear hm1
  go_loopw [6, 15] (fun _ s15 wr => ∃ i : Nat, i ≤ t.size ∧ s15 = .int .i64 i ∧ Bytes wr w.heap.size (xord a b t.size i) t.size ∧ Below w.heap.size w wr) (fun _ s15 _ => t.size - (intOf s15).toNat)
  case atStart => exact ⟨0, by omega, rfl, by rw [xord_zero]; exact HMK.out, ((Below.refl _ _).alloc (Nat.le_refl _) _)⟩
  case round =>
    obtain ⟨i, hi, rfl, hB, hbw⟩ := hrel
    by_cases hlt : i < t.size
    · have hxa := HS.out i
      have hxb := HT.out i
      have hfr := hB.frozen i (by omega)
      have hlen := xord_length a b t.size i (by omega) (by have := HLA.out; omega) (by have := HLB.out; omega)
      have hcell := hB.cell i (by rw [hlen]; exact hlt)
      have hst := hB.set_ i (a.getD i 0 ^^^ b.getD i 0)
      rw [xord_succ a b t.size i hlt (by have := HLA.out; omega) (by have := HLB.out; omega)] at hst
      have hbx := bits_xor_u8 (a.getD i 0) (b.getD i 0)
      generalize (xord a b t.size i).getD i 0 = u0 at *
      generalize a.getD i 0 = x at *
      generalize b.getD i 0 = y at *
      generalize x ^^^ y = z at *
      have HST := Lib.hid hst; clear hst
      have HL := Lib.hid hlen; clear hlen
      go_wp2
      go_region
      go_wp2
      go_roundw
      case rel => exact ⟨i + 1, by omega, by go_num, HST.out.drew, (hbw.setCell (by simp) _).drew⟩
      case measure => simp [intOf]; omega
    · obtain rfl : i = t.size := by omega
      have hr := hB.reads
      rw [xord_all a b t.size (by have := HLA.out; have := HLB.out; omega)] at hr
      have hln : (xorL a b).length = t.size := by rw [xorL_length]; have := HLA.out; have := HLB.out; omega
      rw [hln] at hr
      have hcv := reads_string (P := Try.prog) (src := 33) (dst := 9) Try.underlying33 Try.underlying5 Try.underlying9 hr
      generalize hr2 : xorL a b = r at *
      have HR := Lib.hid hr2; clear hr2
      have HLN := Lib.hid hln; clear hln
      go_wp2
      go_ret
      exact ⟨by rw [HR.out]; rfl, hbw⟩
theorem xor_ba (s t : ByteArray) (a b : List UInt8) (hs : a = s.data.toList) (ht : b = t.data.toList) (hls : min s.size t.size ≤ 140737488351232) (w : World) :
    Calls Try.prog 24 #[.string s, .string t] w fun e w' => e = .returned (.string (bs (xorL a b))) ∧ Below w.heap.size w w' := by
  by_cases h : s.size ≤ t.size
  · exact xor_le s t a b hs ht h (by omega) w
  · exact xor_ge s t a b hs ht (by omega) (by omega) w
end Go.Proofs.Ytikgipohjoiagaa
