/-
  Small words for the rows of the laws: what an argument that came in is.
-/
import Derived.ProofKit
import Derived.OpenShut
import Derived.ShutString
namespace Go.Proofs.Ytgphfhpobppmeaa
theorem u8_of_wf {a : Int} (h : (Lit.int .u8 a).wf = true) : ∃ u : UInt8, a = (u.toNat : Int) := by
  have hb := bounds_u8 h
  refine ⟨UInt8.ofNat a.toNat, ?_⟩
  rw [UInt8.toNat_ofNat', Nat.mod_eq_of_lt (by simp; omega)]
  omega
end Go.Proofs.Ytgphfhpobppmeaa
