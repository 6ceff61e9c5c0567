/-
  law04.equal; what Decode answers at a stripe; how many places lack.
-/
import Derived.Test.YtikgipohjoiagaaDp
import Derived.Test.YtikgipohjoiagaaSo
namespace Go.Proofs.Ytikgipohjoiagaa
open Go.RowKit GfM

set_option maxRecDepth 100000 in
set_option maxHeartbeats 1000000 in
theorem equal_same (w : World) (va vb : Value) (T : List ByteArray) (ha : Reads w va (sv T)) (hb : Reads w vb (sv T)) :
    Calls Try.prog 21 #[va, vb] w fun e w' => e = .returned (.bool true) ∧ Below w.heap.size w w' := by
  obtain ⟨A1, c1, rfl, _, hd1, hcell1⟩ := ha.texts
  obtain ⟨A2, c2, rfl, _, hd2, hcell2⟩ := hb.texts
  have H1 := Lib.hid hcell1; clear hcell1 ha
  have H2 := Lib.hid hcell2; clear hcell2 hb
  have hl : T.length ≤ 9223372036854775807 := by omega
  generalize T.length = n at *
  go_enter Try.func21, Try.ntmps21
  go_wp2
  go_loopw [5, 13] (fun _ s13 wr => ∃ i : Nat, i ≤ n ∧ s13 = .int .i64 i ∧ Below w.heap.size w wr) (fun _ s13 _ => n - (intOf s13).toNat)
  case atStart => exact ⟨0, by omega, rfl, Below.refl _ _⟩
  case round =>
    obtain ⟨i, hi, rfl, hB⟩ := hrel
    by_cases hlt : i < n
    · obtain ⟨b1, o1, rfl, f1⟩ := H1.out (by omega)
      obtain ⟨b2, o2, rfl, f2⟩ := H2.out (by omega)
      have g1 := (hB.cell (World.block_lt_of_cell? w _ (f1 i hlt))).trans (f1 i hlt)
      have g2 := (hB.cell (World.block_lt_of_cell? w _ (f2 i hlt))).trans (f2 i hlt)
      have hin : (i : Int) < (n : Int) := by omega
      clear f1 f2
      generalize tl T i = s at *
      go_wp2
      go_region
      all_goals
        go_wp2
        go_roundw
        case rel => exact ⟨i + 1, by omega, by go_num, hB.drew⟩
        case measure => simp [intOf]; omega
    · obtain rfl : i = n := by omega
      go_wp2
      go_ret
      exact ⟨rfl, hB⟩

/-! ### a stripe -/
theorem dec_lost {C : List ByteArray} {B : List Bool} {T : List ByteArray} {e : Int} (h : DecR C B T e) (h1 : 3 ≤ C.length) (h2 : C.length ≤ 10) (h3 : B.length = C.length) (h4 : (pk B C.length).length < C.length - 2) : T = [] ∧ e = 24 := by
  cases h with
  | arg h => exact absurd ⟨h1, h2, h3⟩ h
  | lost => exact ⟨rfl, rfl⟩
  | shape _ _ _ h => omega
  | done k h0 _ _ _ h => omega
theorem evn_of {L : List ByteArray} {m : Nat} (h : ∀ s ∈ L, s.size = m) (hm : m ≤ 65536) : shE L = 0 := by
  by_cases h0 : 0 < L.length
  · have e0 := h _ (tl_mem L 0 h0)
    exact shE_zero (fun i hi => by rw [h _ (tl_mem L i hi), e0]) (by omega)
  · have : L = [] := List.eq_nil_of_length_eq_zero (by omega)
    subst this
    exact shE_zero (fun i hi => absurd hi (by simp)) (by decide)
/-- with enough chunks there that fit D, all chunks of D are told. -/
theorem dec_fit {C D : List ByteArray} {B : List Bool} {T : List ByteArray} {e : Int} {k : Nat} (h : DecR C B T e) (hk1 : 1 ≤ k) (hk8 : k ≤ 8) (hC : C.length = k + 2) (hB : B.length = k + 2) (hD : D.length = k) (hE : enE D = 0)
    (hp : k ≤ (pk B (k + 2)).length) (hfit : ∀ s, s < k + 2 → B.getD s false = true → tl C s = tl (D ++ [bs (enP D), bs (enQ D)]) s) : T = D ++ [bs (enP D), bs (enQ D)] ∧ e = 0 := by
  obtain ⟨_, _, hs, hN⟩ := enE_ok hE
  have hg := gen_all hE
  rw [hD] at hg
  have hsz : ∀ r, r < k + 2 → (tl (D ++ [bs (enP D), bs (enQ D)]) r).size = nn D := fun r hr => by
    rw [← hg]; exact apL_sz hs r (by rw [genM_length]; exact hr)
  have hsh : shE ((pk B C.length).map (tl C)) = 0 := by
    refine evn_of (m := nn D) (fun s hs' => ?_) hN
    obtain ⟨r, hr, rfl⟩ := List.mem_map.1 hs'
    rw [hC] at hr
    obtain ⟨h1, h2⟩ := pk_lt B (k + 2) r hr
    rw [hfit r h1 h2, hsz r h1]
  cases h with
  | arg h => exact absurd ⟨by omega, by omega, by omega⟩ h
  | lost _ _ _ h => rw [hC] at h; omega
  | shape _ _ _ _ h => exact absurd hsh h
  | done k' h0 _ _ _ _ _ X e1 hR =>
    obtain rfl : k' = k := by omega
    refine ⟨dec_of hk1 hk8 hp hD hE (fun s hs' => ?_) hR, rfl⟩
    obtain ⟨h1, h2⟩ := pk_lt B (k' + 2) s (List.mem_of_mem_take hs')
    rw [hfit s h1 h2, hg]

/-! ### how many lack -/
theorem set_false (B : List Bool) (r i : Nat) : (B.set r false).getD i false = if i = r then false else B.getD i false := by
  rw [List.getD_eq_getElem?_getD, List.getElem?_set, List.getD_eq_getElem?_getD]
  by_cases e : i = r
  · subst e
    rw [if_pos rfl, if_pos rfl]
    split <;> rfl
  · rw [if_neg (Ne.symm e), if_neg e]
theorem pk_set_no {B : List Bool} {r : Nat} (h : B.getD r false = false) (n : Nat) : (pk (B.set r false) n).length = (pk B n).length := by
  induction n with
  | zero => rfl
  | succ n ih =>
    have hs := set_false B r n
    by_cases e : n = r
    · subst e
      rw [if_pos rfl] at hs
      rw [pk_no hs, pk_no h, ih]
    · rw [if_neg e] at hs
      by_cases hb : B.getD n false = true
      · rw [pk_yes (hs.trans hb), pk_yes hb, List.length_append, List.length_append, ih]
      · have hb' : B.getD n false = false := by simpa using hb
        rw [pk_no (hs.trans hb'), pk_no hb', ih]
theorem pk_set_yes {B : List Bool} {r : Nat} (h : B.getD r false = true) (n : Nat) (hn : r < n) : (pk (B.set r false) n).length + 1 = (pk B n).length := by
  have low : ∀ n, n ≤ r → (pk (B.set r false) n).length = (pk B n).length := by
    intro n
    induction n with
    | zero => intro _; rfl
    | succ n ih =>
      intro hn
      have hs := set_false B r n
      rw [if_neg (by omega)] at hs
      by_cases hb : B.getD n false = true
      · rw [pk_yes (hs.trans hb), pk_yes hb, List.length_append, List.length_append, ih (by omega)]
      · have hb' : B.getD n false = false := by simpa using hb
        rw [pk_no (hs.trans hb'), pk_no hb', ih (by omega)]
  induction n with
  | zero => omega
  | succ n ih =>
    have hs := set_false B r n
    by_cases e : n = r
    · subst e
      rw [if_pos rfl] at hs
      rw [pk_no hs, pk_yes h, List.length_append, low n (Nat.le_refl _)]; rfl
    · rw [if_neg e] at hs
      have := ih (by omega)
      by_cases hb : B.getD n false = true
      · rw [pk_yes (hs.trans hb), pk_yes hb, List.length_append, List.length_append, List.length_singleton]; omega
      · have hb' : B.getD n false = false := by simpa using hb
        rw [pk_no (hs.trans hb'), pk_no hb']; omega
theorem pk_full (n i : Nat) (h : i ≤ n) : (pk (List.replicate n true) i).length = i := by
  induction i with
  | zero => rfl
  | succ i ih =>
    have hb : (List.replicate n true).getD i false = true := by rw [List.getD_eq_getElem?_getD, List.getElem?_replicate, if_pos (by omega)]; rfl
    rw [pk_yes hb, List.length_append, ih (by omega)]; rfl
theorem tv_set (B : List Bool) (r : Nat) (b : Bool) : (tv B).set r (.bool b) = tv (B.set r b) := by simp [tv, List.map_set]
/-! ### truth values that are made -/
theorem info4 : (Try.prog.info? 4).map (fun i => (i.zero, i.size, i.bytes)) = some (some (.bool false), 1, 1) := by kernel_rfl
theorem make_bools (m : Nat) (hm : m ≤ 1000) : ∀ W : World, (Instr.makeSlice 40 (.int .i64 (m : Int)) (.int .i64 (m : Int))).run Try.prog W = .ok (.slice (some ⟨W.heap.size, 0, none⟩) m m) (W.alloc (.cells (madeCells #[.bool false] m) 4)) := by
  intro W
  exact run_make_row' 40 4 (.bool false) 1 Try.underlying40 info4 rfl .i64 .i64 m (by omega) (by omega) W
theorem Own.made_bools (W : World) (base n : Nat) (hb : base ≤ W.heap.size) (hn : n ≤ 1000) : Own (W.alloc (.cells (madeCells #[.bool false] n) 4)) base 4 (.slice (some ⟨W.heap.size, 0, none⟩) n n) (tv (List.replicate n false)) := by
  have h := Own.lit_ W base 4 (madeCells #[.bool false] n) hb (by simp [size_madeCells, maxLen]; omega)
  have e1 : (madeCells #[Value.bool false] n).size = n := by simp [size_madeCells]
  have e2 : (madeCells #[Value.bool false] n).toList = tv (List.replicate n false) := by rw [toList_madeCells_one]; simp only [tv, List.map_replicate]
  rwa [e1, e2] at h
/-- the first i of n are true. -/
def upto (n i : Nat) : List Bool := List.replicate i true ++ List.replicate (n - i) false
theorem upto_zero (n : Nat) : upto n 0 = List.replicate n false := by simp [upto]
theorem upto_all (n : Nat) : upto n n = List.replicate n true := by simp [upto]
theorem upto_len (n i : Nat) (h : i ≤ n) : (upto n i).length = n := by simp [upto]; omega
theorem upto_set (n i : Nat) (h : i < n) : (upto n i).set i true = upto n (i + 1) := by
  unfold upto
  rw [List.set_append_right _ _ (by simp), List.length_replicate, Nat.sub_self]
  obtain ⟨m, hm⟩ : ∃ m, n - i = m + 1 := ⟨n - i - 1, by omega⟩
  rw [hm, show n - (i + 1) = m by omega, List.replicate_succ, List.set_cons_zero, List.replicate_succ', List.append_assoc]; rfl
end Go.Proofs.Ytikgipohjoiagaa
