/-
  The walk of the law RsUpdates.
-/
import Derived.Test.YtikgipohjoiagaaSm
import Derived.Test.YtikgipohjoiagaaSu
namespace Go.Proofs.Ytikgipohjoiagaa
open Go.RowKit GfM

theorem four_of {T : List ByteArray} (h : T.length = 4) : ∃ a b c d, T = [a, b, c, d] := by
  match T, h with
  | [a, b, c, d], _ => exact ⟨a, b, c, d, rfl⟩
set_option maxRecDepth 100000 in
set_option maxHeartbeats 1000000 in
theorem rsUpdates_walk (w : World) (T : List ByteArray) (hT : T.length = 4) (i : Int) (_ : (Lit.int .i64 i).wf = true) (even : Bool) :
    Calls Try.prog 6 #[.agg (sv T).toArray, .int .i64 i, .bool even] w fun e w' => e = .returned (.bool true) ∧ Below w.heap.size w w' := by
  obtain ⟨a, b, c, d, rfl⟩ := four_of hT
  have hcut := fun W v hv => cut_any W v [a, b, c, d] hv 200 (by decide) 200 rfl even
  have hC4 : (cuts [a, b, c, d] 200 even (min [a, b, c, d].length 12)).length = 4 := cuts_length _ _ _ _
  generalize cuts [a, b, c, d] 200 even (min [a, b, c, d].length 12) = C at *
  have e1 : (sv [a, b, c, d]).toArray = #[.string a, .string b, .string c, .string d] := rfl
  rw [e1]
  have hrd : Reads (w.alloc (.cells #[.string a, .string b, .string c, .string d] 35)) (.slice (some ⟨w.heap.size, 0, none⟩) 4 4) (sv [a, b, c, d]) := by
    refine ⟨some ⟨w.heap.size, 0, none⟩, 4, rfl, by simp [sv], by omega, fun _ => ⟨_, 0, rfl, fun j hj => ?_⟩⟩
    rw [Nat.zero_add, (Blk.new w 35 #[.string a, .string b, .string c, .string d]).cell j]
    simp [sv]
  obtain ⟨p, q, o, n, rfl⟩ := four_of hC4
  have hup := fun W => update_any W p q i o n
  have hru := fun W => rupdate_any W p q i o n
  have HCUT := Lib.hid (hcut _ _ hrd)
  generalize bs (upP p q i o n) = P at *
  generalize bs (upQ p q i o n) = Q at *
  generalize upE p q i o n = E at *
  have HUP := Lib.hid hup; clear hup
  have HRU := Lib.hid hru; clear hru
  clear hT e1 hrd hcut hC4
  go_enter Try.func6, Try.ntmps6
  go_wp2_with fail
  refine (HCUT.out).mono ?_
  rintro e w1 ⟨l, rfl, hO, hb1⟩
  have hB1 : Below w.heap.size w w1 := below_then ((Below.refl _ _).alloc (Nat.le_refl _) _) (by simp) hb1
  obtain ⟨g, cap, rfl, hg1, hg2, hcap⟩ := hO.form (by simp [sv])
  have f0 : w1.cell? ⟨g, 0, none⟩ = some (.string p) := hO.cell 0 (by simp [sv])
  have f1 : w1.cell? ⟨g, 1, none⟩ = some (.string q) := hO.cell 1 (by simp [sv])
  have f2 : w1.cell? ⟨g, 2, none⟩ = some (.string o) := hO.cell 2 (by simp [sv])
  have f3 : w1.cell? ⟨g, 3, none⟩ = some (.string n) := hO.cell 3 (by simp [sv])
  have hlen : (sv [p, q, o, n]).length = 4 := rfl
  rw [hlen]
  clear hO hlen hcap
  go_wp2
  go_region_held3 (fun w' => w'.cell? ⟨g, 0, none⟩ = some (.string p) ∧ w'.cell? ⟨g, 1, none⟩ = some (.string q) ∧ w'.cell? ⟨g, 2, none⟩ = some (.string o) ∧ w'.cell? ⟨g, 3, none⟩ = some (.string n)) (first | assumption | go_keep | exact ⟨t0, t1, t2, t3⟩)
    (first | (go_at_call 17; refine (HUP.out _).mono ?_; rintro e w3 ⟨rfl, hb3⟩; have t0 := (hb3.cell (p := ⟨g, 0, none⟩) hg2).trans f0; have t1 := (hb3.cell (p := ⟨g, 1, none⟩) hg2).trans f1; have t2 := (hb3.cell (p := ⟨g, 2, none⟩) hg2).trans f2; have t3 := (hb3.cell (p := ⟨g, 3, none⟩) hg2).trans f3))
  have hB3 := below_then hB1.drew hB1.size hb3
  have f0' := (hb3.cell (p := ⟨g, 0, none⟩) hg2).trans f0
  have f1' := (hb3.cell (p := ⟨g, 1, none⟩) hg2).trans f1
  have f2' := (hb3.cell (p := ⟨g, 2, none⟩) hg2).trans f2
  have f3' := (hb3.cell (p := ⟨g, 3, none⟩) hg2).trans f3
  have hg3 : g < w3.heap.size := World.block_lt_of_cell? w3 _ f0'
  clear f0 f1 f2 f3 hg2
  go_wp2
  go_region_held3 (fun w' => w'.cell? ⟨g, 0, none⟩ = some (.string p) ∧ w'.cell? ⟨g, 1, none⟩ = some (.string q) ∧ w'.cell? ⟨g, 2, none⟩ = some (.string o) ∧ w'.cell? ⟨g, 3, none⟩ = some (.string n)) (first | assumption | go_keep | exact ⟨t0, t1, t2, t3⟩)
    (first | (go_at_call 18; refine (HRU.out _).mono ?_; rintro e w4 ⟨rfl, hb4⟩; have t0 := (hb4.cell (p := ⟨g, 0, none⟩) hg3).trans f0'; have t1 := (hb4.cell (p := ⟨g, 1, none⟩) hg3).trans f1'; have t2 := (hb4.cell (p := ⟨g, 2, none⟩) hg3).trans f2'; have t3 := (hb4.cell (p := ⟨g, 3, none⟩) hg3).trans f3'))
  have hB4 := below_then hB3.drew hB3.size hb4
  clear f0' f1' f2' f3' hg3
  go_wp2_with fail
  refine (wakes04 _).mono ?_
  rintro e w5 ⟨rfl, hb5⟩
  have hB5 := below_then hB4 hB4.size hb5
  go_wp2
  go_ret
  exact ⟨rfl, hB5⟩
end Go.Proofs.Ytikgipohjoiagaa
