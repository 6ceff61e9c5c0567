/-
  slices.Clone at bytes.
-/
import Derived.Test.YtgphfhpobppmeaaWv
import Derived.Test.YtgphfhpobppmeaaAp
import Derived.Laws.IdiomCopy
import Derived.Lib.AppendStr
import Derived.ArgAppend
import Derived.RowKit3
import Derived.WideLaws
import Derived.Lib.SliceRun
namespace Go.Proofs.Ytgphfhpobppmeaa
open Go.RowKit GfM

set_option maxHeartbeats 400000 in
/-- slices.Clone of bytes that aren't nil. -/
theorem clone_any (w : World) (l : List UInt8) (A : Option Addr) (c : Nat) (hv : Reads w (.slice A l.length c) (bv l)) (h0 : 0 < l.length) (hl : l.length ≤ 140737488351232) :
    Calls Try.prog 26 #[.slice A l.length c] w fun e w' => ∃ v, e = .returned v ∧ Own w' w.heap.size 5 v (bv l) ∧ Below w.heap.size w w' := by
  obtain ⟨A', c', he, hc1, hc2, hcell⟩ := hv.shape
  injection he with h1 h2 h3
  subst h1 h3
  obtain ⟨b, off, rfl, _⟩ := hcell h0
  clear hcell
  have heq := fun W : World => Lib.run_eql_slice_nil (P := Try.prog) W 37 5 (some ⟨b, off, none⟩) l.length c 0 0 Try.underlying37
  simp only [Option.isNone_some] at heq
  have HV := Lib.hid hv
  have hone := Lib.hid (bv_one l)
  have hbl : (0 + l.length) * 1 ≤ 140737488355328 := by omega
  have HBL := Lib.hid hbl
  clear hv hbl
  obtain ⟨n, hn⟩ : ∃ n, l.length = n := ⟨_, rfl⟩
  have HN := Lib.hid hn
  have HV2 : Hid (Reads w (.slice (some ⟨b, off, none⟩) n c) (bv l)) := Lib.hid (by rw [← hn]; exact HV.out)
  rw [hn] at h0 hl heq hc1 ⊢
  clear HV hn
  have hO := Own.lit_ w w.heap.size 5 #[] (Nat.le_refl _) (by simp)
  have HO := Lib.hid hO; clear hO
  go_enter Try.func26, Try.ntmps26
  go_wp2_with (at_builtin; refine append_many w.heap.size rfl (.tmp 5) (.tmp 6) 37 5 (.int .u8 0) 1 rfl Try.underlying37 info5 rfl (by decide) _ [] _ (bv l) rfl rfl (HV2.out.alloc _) hone.out HO.out ((Below.refl _ _).alloc (Nat.le_refl _) _) (by simp) (by rw [bv_length, HN.out]; have := HBL.out; rw [HN.out] at this; exact this) ?_; intro v1 w1 hO1 hB1 _ _)
  go_ret
  exact ⟨_, rfl, hO1, hB1⟩
end Go.Proofs.Ytgphfhpobppmeaa
