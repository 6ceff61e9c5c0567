/-
  The walk of the law RsDecodes; an argument that is truth values.
-/
import Derived.Test.YtikgipohjoiagaaRd
import Derived.Test.YtikgipohjoiagaaDq
import Derived.Test.YtikgipohjoiagaaLr
import Derived.Deep.Grids
namespace Go.Proofs.Ytikgipohjoiagaa
open Go.RowKit GfM Go.ChangeShapes Go.WideShapes

theorem open_boolsA {H : Type} {enc : TypeId × Value → H} {P : Program} {w : World} {base : Nat} {held : Bool} {r : Reach} {b0 : Nat} {t e : TypeId} {v : Value} {d : DataW H} {ps : List MemPlace}
    (ht : P.underlying t = some (.slice e)) (he : P.underlying e = some .bool) (hc : P.cellsOf e = 1) (hval : Value.okWide P w r b0 t v) (h : DataW.Trod enc P w base (fun _ => true) held t v d ps) :
    ∃ B : List Bool, Reads w v (tv B) := by
  obtain ⟨a0, len0, cap0, rfl⟩ := okWide_slice ht hval
  obtain ⟨fuel, hf⟩ := h
  rcases Go.Deep.open_bools ht he hc hf with ⟨hcs, hx⟩ | ⟨a, len', cap', Z, hcs, _, hl, hm, hx, hcell⟩
  · simp only [Value.cells, Array.toList] at hcs
    have e0 : (Value.slice a0 len0 cap0) = .slice none 0 0 := by simpa [Value.cells] using hcs
    rw [e0]
    exact ⟨[], none, 0, rfl, by simp [tv], by omega, fun h => absurd h (by simp [tv])⟩
  · have e0 : (Value.slice a0 len0 cap0) = .slice (some a) len' cap' := by simpa [Value.cells] using hcs
    rw [e0]
    have hlz : ((List.range len').map Z).length = len' := by simp
    refine ⟨(List.range len').map Z, some a, cap', by rw [tv_length, hlz], by rw [tv_length, hlz]; exact hl, by simpa [maxLen] using hm, fun hp => ?_⟩
    rw [tv_length, hlz] at hp
    have h0 := hcell 0 (by omega)
    have ea : a.add 0 = a := by simp [Addr.add]
    rw [ea] at h0
    have hs := spot_none h0
    refine ⟨a.block, a.off, by rw [← hs], fun j hj => ?_⟩
    rw [tv_length, hlz] at hj
    have hj' := hcell j (by omega)
    rw [hs, add_plain] at hj'
    rw [hj', tv_at _ _ (by rw [hlz]; exact hj)]
    congr 2
    rw [List.getD_eq_getElem?_getD, List.getElem?_map, List.getElem?_range hj]; rfl

set_option maxHeartbeats 1000000 in
theorem rsDecodes_walk (w : World) (v : Value) (T : List ByteArray) (hv : Reads w v (sv T)) (vb : Value) (B : List Bool) (hb : Reads w vb (tv B)) (even : Bool) :
    Calls Try.prog 8 #[v, vb, .bool even] w fun e w' => e = .returned (.bool true) ∧ Below w.heap.size w w' := by
  have hcut := cut_any w v T hv 100 (by decide) 100 rfl even
  generalize cuts T 100 even (min T.length 12) = C at *
  have HCUT := Lib.hid hcut; clear hcut hv
  have hd : ∀ W u x, Reads W u (sv C) → Reads W x (tv B) → Calls Try.prog 19 #[u, x] W fun e w' => ∃ v T e0, e = .returned (.tuple #[v, .int .i64 e0]) ∧ Reads w' v (sv T) ∧ DecR C B T e0 ∧ Below W.heap.size W w' := fun W u x h1 h2 => decode_any W u x C B h1 h2
  have hr : ∀ W u x, Reads W u (sv C) → Reads W x (tv B) → Calls Try.prog 20 #[u, x] W fun e w' => ∃ v T e0, e = .returned (.tuple #[v, .int .i64 e0]) ∧ Reads w' v (sv T) ∧ RefR C B T e0 ∧ Below W.heap.size W w' := fun W u x h1 h2 => rdecode_any W u x C B h1 h2
  have HD := Lib.hid hd; clear hd
  have HR := Lib.hid hr; clear hr
  have HBB := Lib.hid hb; clear hb
  go_enter Try.func8, Try.ntmps8
  go_wp2_with fail
  refine (HCUT.out).mono ?_
  rintro e w1 ⟨l, rfl, hO, hB1⟩
  have hR1 := Lib.hid hO.reads
  have hb1 := Lib.hid (HBB.out.below hB1)
  clear hO
  go_wp2_with fail
  refine (HD.out _ _ _ hR1.out hb1.out).mono ?_
  rintro e w2 ⟨v2, T2, e2, rfl, h2, hd2, hb⟩
  have hR2 := Lib.hid (hR1.out.below hb)
  have hb2 := Lib.hid (hb1.out.below hb)
  have hB2 := below_then hB1 hB1.size hb
  have HD2 := Lib.hid hd2
  have H2 := Lib.hid h2
  clear hb h2 hd2
  go_wp2_with fail
  refine (HR.out _ _ _ hR2.out hb2.out).mono ?_
  rintro e w3 ⟨v3, T3, e3, rfl, h3, hr3, hb⟩
  have hB3 := below_then hB2 hB2.size hb
  have H22 := Lib.hid (H2.out.below hb)
  obtain ⟨rfl, rfl⟩ := dec_same HD2.out hr3
  have H3 := Lib.hid h3
  clear hb h3 hr3 HD2
  go_wp2_with fail
  refine (wakes04 _).mono ?_
  rintro e w4 ⟨rfl, hb⟩
  have hB4 := below_then hB3 hB3.size hb
  have H24 := Lib.hid (H22.out.below hb)
  have H34 := Lib.hid (H3.out.below hb)
  clear hb
  go_wp2_with fail
  refine (equal_same _ _ _ _ H24.out H34.out).mono ?_
  rintro e w5 ⟨rfl, hb⟩
  have hB5 := below_then hB4 hB4.size hb
  go_wp2
  go_ret
  exact ⟨rfl, hB5⟩
end Go.Proofs.Ytikgipohjoiagaa
