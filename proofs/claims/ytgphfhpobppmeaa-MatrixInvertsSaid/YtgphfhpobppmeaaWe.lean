/-
  The walks of matrix.empty, Identity, Vandermonde.
-/
import Derived.Test.YtgphfhpobppmeaaWq
namespace Go.Proofs.Ytgphfhpobppmeaa
open Go.RowKit GfM

theorem infoB : (Try.prog.info? 37).map (fun i => (i.zero, i.size, i.bytes)) = some (some (.slice none 0 0), 1, 24) := by kernel_rfl
theorem make_bytes (m : Nat) (hm : m ≤ 140737488355328) : ∀ W : World, (Instr.makeSlice 37 (.int .i64 (m : Int)) (.int .i64 (m : Int))).run Try.prog W = .ok (.slice (some ⟨W.heap.size, 0, none⟩) m m) (W.alloc (.cells (madeCells #[.int .u8 0] m) 5)) := by
  intro W
  exact run_make_row' 37 5 (.int .u8 0) 1 Try.underlying37 info5 rfl .i64 .i64 m (by omega) (by omega) W
theorem make_rows (m : Nat) (hm : m ≤ 1000) : ∀ W : World, (Instr.makeSlice 24 (.int .i64 (m : Int)) (.int .i64 (m : Int))).run Try.prog W = .ok (.slice (some ⟨W.heap.size, 0, none⟩) m m) (W.alloc (.cells (madeCells #[.slice none 0 0] m) 37)) := by
  intro W
  exact run_make_row' 24 37 (.slice none 0 0) 24 Try.underlying24 infoB rfl .i64 .i64 m (by omega) (by omega) W
theorem OM.made (W : World) (n : Nat) (row : Nat → List UInt8) : OM (W.alloc (.cells (madeCells #[.slice none 0 0] n) 37)) W.heap.size W.heap.size n 0 row := by
  refine ⟨Nat.le_refl _, Nat.zero_le _, fun _ => 0, fun _ => 0, ?_, fun r hr => absurd hr (by omega), fun r s hr => absurd hr (by omega)⟩
  have e : madeCells #[Value.slice none 0 0] n = outer n 0 row (fun _ => 0) (fun _ => 0) := by
    apply Array.ext_getElem?
    intro s
    by_cases hs : s < n
    · rw [outer_at _ _ _ _ _ _ hs, if_neg (by omega)]
      simp [madeCells, hs, Nat.mod_one]
    · rw [Array.getElem?_eq_none (by rw [size_madeCells]; omega), Array.getElem?_eq_none (by rw [outer_size]; omega)]
  rw [e]
  exact Blk.new W _ _

set_option maxRecDepth 100000 in
set_option maxHeartbeats 400000 in
theorem empty_any (n k : Nat) (hn : n ≤ 16) (hk : k ≤ 16) (w : World) :
    Calls Try.prog 37 #[.int .i64 n, .int .i64 k] w fun e w' => e = .returned (.slice (some ⟨w.heap.size, 0, none⟩) n n) ∧ OM w' w.heap.size w.heap.size n n (fun _ => List.replicate k 0) ∧ Below w.heap.size w w' := by
  have hm1 := make_bytes k (by omega)
  have hm2 := make_rows n (by omega)
  go_enter Try.func37, Try.ntmps37
  go_wp2
  clear hm2
  go_loopw [6, 11] (fun _ s11 wr => ∃ i : Nat, i ≤ n ∧ s11 = .int .i64 i ∧ OM wr w.heap.size w.heap.size n i (fun _ => List.replicate k 0) ∧ Below w.heap.size w wr) (fun _ s11 _ => n - (intOf s11).toNat)
  case atStart => exact ⟨0, by omega, rfl, OM.made w n _, (Below.refl _ _).alloc (Nat.le_refl _) _⟩
  case round =>
    obtain ⟨i, hi, rfl, hM, hB⟩ := hrel
    by_cases hlt : i < n
    · have hc := hM.nil_at i hlt (Nat.le_refl _)
      have hf := hM.frozen i
      have hG := hM.lt
      go_wp2
      go_roundw
      case rel =>
        refine ⟨i + 1, by omega, by go_num, ?_, (hB.setCell (Nat.le_refl _) _).alloc (by simpa using hB.size) _⟩
        have := hM.put ((Below.refl _ _).alloc (Nat.le_refl _) (.cells (madeCells #[.int .u8 0] k) 5)) (Nat.le_refl i) hlt (Bytes.made_zero wr k (by omega)) (Nat.le_refl _)
        rw [Nat.max_eq_right (by omega), List.length_replicate, World.setCell_alloc_past _ _ _ _ hG] at this
        refine this.congr fun r _ => ?_
        unfold upd; split <;> rfl
      case measure => simp [intOf]; omega
    · obtain rfl : i = n := by omega
      go_wp2
      go_ret
      exact ⟨rfl, hM, hB⟩

/-! ### Identity -/
/-- the identity's rows. -/
def idM (n : Nat) : List (List UInt8) := (List.range n).map (unitRow n)
theorem idM_row (n r : Nat) (h : r < n) : (idM n).getD r [] = unitRow n r := by
  unfold idM
  rw [List.getD_eq_getElem?_getD, List.getElem?_map, List.getElem?_range h]; rfl
theorem idM_length (n : Nat) : (idM n).length = n := by simp [idM]
/-- the rows behind i rounds. -/
def idRow (n i r : Nat) : List UInt8 := if r < i then unitRow n r else List.replicate n 0
theorem idRow_length (n i r : Nat) : (idRow n i r).length = n := by unfold idRow; split <;> simp [unitRow]
theorem idRow_step (n i : Nat) (r : Nat) : upd (idRow n i) i ((idRow n i i).set i 1) r = idRow n (i + 1) r := by
  unfold upd
  by_cases h : r = i
  · subst h
    rw [if_pos rfl]
    unfold idRow
    rw [if_neg (Nat.lt_irrefl r), if_pos (Nat.lt_succ_self r)]; rfl
  · rw [if_neg h]
    unfold idRow
    by_cases h1 : r < i
    · rw [if_pos h1, if_pos (by omega)]
    · rw [if_neg h1, if_neg (by omega)]
/-- what Identity tells. -/
def idOut (n : Int) : List (List UInt8) × Int := if 1 ≤ n ∧ n ≤ 16 then (idM n.toNat, 0) else ([], 2)
theorem RMat.nil_ (w : World) : RMat w (.slice none 0 0) [] := ⟨[], rfl, ⟨none, 0, rfl, Nat.le_refl _, by omega, fun h => absurd h (by simp)⟩, fun r hr => absurd hr (by simp)⟩
set_option maxRecDepth 100000 in
set_option maxHeartbeats 400000 in
theorem identity_any (n : Int) (w : World) :
    Calls Try.prog 21 #[.int .i64 n] w fun e w' => ∃ v, e = .returned (.tuple #[v, .int .i64 (idOut n).2]) ∧ RMat w' v (idOut n).1 ∧ Below w.heap.size w w' := by
  by_cases h : 1 ≤ n ∧ n ≤ 16
  · have e : idOut n = (idM n.toNat, 0) := if_pos h
    rw [e]
    obtain ⟨k, rfl⟩ : ∃ k : Nat, n = k := ⟨n.toNat, by omega⟩
    rw [Int.toNat_natCast]
    obtain ⟨h1, h2⟩ := h
    have hk : k ≤ 16 := by omega
    clear e
    go_enter Try.func21, Try.ntmps21
    go_wp2_with fail
    refine (may_yes _ h1 h2 _).mono ?_
    rintro e w' ⟨rfl, rfl⟩
    go_wp2_with fail
    refine (empty_any k k hk hk _).mono ?_
    rintro e w1 ⟨rfl, hM1, hB1⟩
    go_wp2_with fail
    obtain ⟨G, hG⟩ : ∃ G, w.heap.size = G := ⟨_, rfl⟩
    rw [hG] at hM1 ⊢
    have HG := Lib.hid hG; clear hG
    go_loopw [5, 13] (fun _ s13 wr => ∃ i : Nat, i ≤ k ∧ s13 = .int .i64 i ∧ OM wr G G k k (idRow k i) ∧ Below w.heap.size w wr) (fun _ s13 _ => k - (intOf s13).toNat)
    case atStart =>
      refine ⟨0, by omega, rfl, hM1.congr fun r _ => ?_, hB1⟩
      unfold idRow; rw [if_neg (by omega)]
    case round =>
      clear hM1 hB1
      obtain ⟨i, hi, rfl, hM, hB⟩ := hrel
      by_cases hlt : i < k
      · obtain ⟨g, c, hc1, hc2, hf, hg, hgl, hlc, _, hst⟩ := hM.elem i i hlt (by rw [idRow_length]; exact hlt)
        rw [idRow_length] at hc1 hlc
        have hst1 := (hst 1).congr fun r _ => idRow_step k i r
        have HS := Lib.hid hst1; clear hst1 hst
        go_wp2
        go_roundw
        case rel => exact ⟨i + 1, by omega, by go_num, HS.out, hB.setCell (by have := HG.out; simp; omega) _⟩
        case measure => simp [intOf]; omega
      · obtain rfl : i = k := by omega
        go_wp2
        go_ret2
        refine ⟨_, rfl, hM.reads (by omega) _ (idM_length i) (fun r hr => ?_), hB⟩
        rw [idM_row _ _ hr]
        unfold idRow; rw [if_pos hr]
  · have e : idOut n = ([], 2) := if_neg h
    rw [e]
    have h3 : n < 1 ∨ 16 < n := by omega
    clear e h
    go_enter Try.func21, Try.ntmps21
    go_wp2_with fail
    refine (may_no _ h3 _).mono ?_
    rintro e w' ⟨rfl, rfl⟩
    go_wp2
    go_ret2
    exact ⟨_, rfl, RMat.nil_ _, Below.refl _ _⟩

/-! ### Vandermonde -/
/-- the powers' rows. -/
def vdM (n k : Nat) : List (List UInt8) := (List.range n).map fun r => (List.range k).map fun c => ex (r * c)
theorem vdM_row (n k r : Nat) (h : r < n) : (vdM n k).getD r [] = (List.range k).map fun c => ex (r * c) := by
  unfold vdM
  rw [List.getD_eq_getElem?_getD, List.getElem?_map, List.getElem?_range h]; rfl
theorem vdM_length (n k : Nat) : (vdM n k).length = n := by simp [vdM]
/-- row r, its first c elements done. -/
def vdPart (k r c : Nat) : List UInt8 := ((List.range k).map fun j => if j < c then ex (r * j) else 0)
theorem vdPart_length (k r c : Nat) : (vdPart k r c).length = k := by simp [vdPart]
theorem vdPart_set (k r c : Nat) (h : c < k) : (vdPart k r c).set c (ex (r * c)) = vdPart k r (c + 1) := by
  unfold vdPart
  apply List.ext_getElem
  · simp
  · intro j h1 h2
    simp at h1 h2
    rw [List.getElem_set]
    simp only [List.getElem_map, List.getElem_range]
    by_cases e : c = j
    · subst e; rw [if_pos rfl, if_pos (by omega)]
    · rw [if_neg e]
      by_cases hj : j < c
      · rw [if_pos hj, if_pos (by omega)]
      · rw [if_neg hj, if_neg (by omega)]
theorem vdPart_all (k r : Nat) : vdPart k r k = (List.range k).map fun c => ex (r * c) := by
  unfold vdPart
  apply List.map_congr_left
  intro c hc
  rw [if_pos (by simpa using hc)]
/-- the rows, i of them done, c elements of the next. -/
def vdRow (k i c r : Nat) : List UInt8 := if r < i then vdPart k r k else if r = i then vdPart k r c else List.replicate k 0
theorem vdRow_length (k i c r : Nat) : (vdRow k i c r).length = k := by
  unfold vdRow
  split
  · exact vdPart_length _ _ _
  · split
    · exact vdPart_length _ _ _
    · simp
def vdOut (n k : Int) : List (List UInt8) × Int := if (1 ≤ n ∧ n ≤ 16) ∧ 1 ≤ k ∧ k ≤ 16 then (vdM n.toNat k.toNat, 0) else ([], 2)
theorem vdRow_set (k i c r : Nat) (hc : c < k) : upd (vdRow k i c) i ((vdRow k i c i).set c (ex (i * c))) r = vdRow k i (c + 1) r := by
  have e : vdRow k i c i = vdPart k i c := by unfold vdRow; rw [if_neg (Nat.lt_irrefl i), if_pos rfl]
  rw [e, vdPart_set k i c hc]
  unfold upd vdRow
  by_cases h : r = i
  · subst h; rw [if_pos rfl, if_neg (Nat.lt_irrefl r), if_pos rfl]
  · rw [if_neg h, if_neg h, if_neg h]
theorem vdRow_next (k i r : Nat) : vdRow k i k r = vdRow k (i + 1) 0 r := by
  unfold vdRow
  by_cases h : r < i
  · rw [if_pos h, if_pos (by omega)]
  · rw [if_neg h]
    by_cases e : r = i
    · subst e; rw [if_pos rfl, if_pos (by omega)]
    · rw [if_neg e, if_neg (by omega)]
      by_cases e2 : r = i + 1
      · rw [if_pos e2]
        unfold vdPart
        apply List.ext_getElem
        · simp
        · intro j h1 h2; simp
      · rw [if_neg e2]
theorem pwI_ex (j : Nat) : pwI 2 ((j : Nat) : Int) = ex j := by
  unfold pwI
  by_cases h : j = 0
  · subst h; rfl
  · rw [if_neg (by omega), if_neg (by decide), pw_two, ← ex_mod j]
    congr 1
set_option maxRecDepth 100000 in
set_option maxHeartbeats 1000000 in
theorem vandermonde_any (n k : Int) (w : World) :
    Calls Try.prog 16 #[.int .i64 n, .int .i64 k] w fun e w' => ∃ v, e = .returned (.tuple #[v, .int .i64 (vdOut n k).2]) ∧ RMat w' v (vdOut n k).1 ∧ Below w.heap.size w w' := by
  by_cases hn : 1 ≤ n ∧ n ≤ 16
  · by_cases hk : 1 ≤ k ∧ k ≤ 16
    · have e : vdOut n k = (vdM n.toNat k.toNat, 0) := if_pos ⟨hn, hk⟩
      rw [e]
      obtain ⟨n, rfl⟩ : ∃ j : Nat, n = j := ⟨n.toNat, by omega⟩
      obtain ⟨k, rfl⟩ : ∃ j : Nat, k = j := ⟨k.toNat, by omega⟩
      rw [Int.toNat_natCast, Int.toNat_natCast]
      obtain ⟨h1, h2⟩ := hn
      obtain ⟨h3, h4⟩ := hk
      have hn16 : n ≤ 16 := by omega
      have hk16 : k ≤ 16 := by omega
      clear e
      go_enter Try.func16, Try.ntmps16
      go_wp2_with fail
      refine (may_yes _ h1 h2 _).mono ?_
      rintro e w' ⟨rfl, rfl⟩
      go_wp2_with fail
      refine (may_yes _ h3 h4 _).mono ?_
      rintro e w' ⟨rfl, rfl⟩
      go_wp2_with fail
      refine (empty_any n k hn16 hk16 _).mono ?_
      rintro e w1 ⟨rfl, hM1, hB1⟩
      go_wp2_with fail
      obtain ⟨G, hG⟩ : ∃ G, w.heap.size = G := ⟨_, rfl⟩
      rw [hG] at hM1 ⊢
      have HG := Lib.hid hG; clear hG
      go_loopw [7, 8, 21, 25] (fun _ _ s21 _ wr => ∃ i : Nat, i ≤ n ∧ s21 = .int .i64 i ∧ OM wr G G n n (vdRow k i 0) ∧ Below w.heap.size w wr) (fun _ _ s21 _ _ => n - (intOf s21).toNat)
      case atStart =>
        refine ⟨0, by omega, rfl, hM1.congr fun r _ => ?_, hB1⟩
        unfold vdRow
        rw [if_neg (by omega)]
        split
        · unfold vdPart
          apply List.ext_getElem
          · simp
          · intro j h1 h2; simp
        · rfl
      case round =>
        clear hM1 hB1
        obtain ⟨i, hi, rfl, hM, hB⟩ := hrel
        by_cases hlt : i < n
        · obtain ⟨wo, rfl⟩ : ∃ wo : World, wo = wr := ⟨_, rfl⟩
          go_wp2
          go_loopw [8, 25] (fun _ s25 wi => ∃ c : Nat, c ≤ k ∧ s25 = .int .i64 c ∧ OM wi G G n n (vdRow k i c) ∧ Below w.heap.size w wi) (fun _ s25 _ => k - (intOf s25).toNat)
          case atStart => exact ⟨0, by omega, rfl, hM, hB⟩
          case round =>
            clear hM hB
            obtain ⟨c, hc, rfl, hM, hB⟩ := hrel
            by_cases hlc : c < k
            · obtain ⟨g, kk, hc1, hc2, hf, hg, hgl, hlc2, _, hst⟩ := hM.elem i c hlt (by rw [vdRow_length]; exact hlc)
              rw [vdRow_length] at hc1 hlc2
              have hst1 := (hst (ex (i * c))).congr fun r _ => vdRow_set k i c r hlc
              have HS := Lib.hid hst1; clear hst1 hst
              have hp := fun W => pow_any 2 ((i * c : Nat) : Int) 2 rfl W
              rw [pwI_ex] at hp
              have hb16 : i * c ≤ 16 * 16 := Nat.mul_le_mul (by omega) (by omega)
              have hw : wrap64 ((i : Int) * (c : Int)) = ((i * c : Nat) : Int) := by
                have e : ((i : Int) * (c : Int)) = ((i * c : Nat) : Int) := by simp
                rw [e]; unfold wrap64; omega
              have hw2 : IntKind.i64.wrap ((i : Int) * (c : Int)) = ((i * c : Nat) : Int) := by
                have e : ((i : Int) * (c : Int)) = ((i * c : Nat) : Int) := by simp
                rw [e, IntKind.wrap_i64]; omega
              generalize (vdRow k i c i).getD c 0 = old at *
              generalize ex (i * c) = x at *
              generalize i * c = ic at *
              have HP := Lib.hid hp; clear hp hb16
              go_wp2
              go_region_with (go_at_call 38; refine (HP.out _).mono ?_; rintro e w' ⟨rfl, rfl⟩)
              all_goals
                go_wp2
                go_roundw
                case rel => exact ⟨c + 1, by omega, by go_num, HS.out.drew, (hB.setCell (by have := HG.out; simp; omega) _).drew⟩
                case measure => simp [intOf]; omega
            · obtain rfl : c = k := by omega
              go_wp2
              go_roundw
              case rel => exact ⟨i + 1, by omega, by go_num, hM.congr fun r _ => vdRow_next c i r, hB⟩
              case measure => simp [intOf]; omega
        · obtain rfl : i = n := by omega
          go_wp2
          go_ret2
          refine ⟨_, rfl, hM.reads (by omega) _ (vdM_length i k) (fun r hr => ?_), hB⟩
          rw [vdM_row _ _ _ hr]
          unfold vdRow; rw [if_pos hr, vdPart_all]
    · have e : vdOut n k = ([], 2) := if_neg (by rintro ⟨_, h⟩; exact hk h)
      rw [e]
      have h3 : k < 1 ∨ 16 < k := by omega
      obtain ⟨h1, h2⟩ := hn
      clear e hk
      go_enter Try.func16, Try.ntmps16
      go_wp2_with fail
      refine (may_yes _ h1 h2 _).mono ?_
      rintro e w' ⟨rfl, rfl⟩
      go_wp2_with fail
      refine (may_no _ h3 _).mono ?_
      rintro e w' ⟨rfl, rfl⟩
      go_wp2
      go_ret2
      exact ⟨_, rfl, RMat.nil_ _, Below.refl _ _⟩
  · have e : vdOut n k = ([], 2) := if_neg (by rintro ⟨h, _⟩; exact hn h)
    rw [e]
    have h3 : n < 1 ∨ 16 < n := by omega
    clear e hn
    go_enter Try.func16, Try.ntmps16
    go_wp2_with fail
    refine (may_no _ h3 _).mono ?_
    rintro e w' ⟨rfl, rfl⟩
    go_wp2
    go_ret2
    exact ⟨_, rfl, RMat.nil_ _, Below.refl _ _⟩
end Go.Proofs.Ytgphfhpobppmeaa
