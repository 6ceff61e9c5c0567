/-
  The walks of the library's IndexFunc and ContainsFunc at texts, and of matrix.Apply's closure; what Apply answers, plain.
-/
import Derived.Test.YtikgipohjoiagaaWo
import Derived.Test.YtikgipohjoiagaaSx
namespace Go.Proofs.Ytikgipohjoiagaa
open Go.RowKit GfM

set_option maxRecDepth 100000 in
set_option maxHeartbeats 400000 in
theorem index_apply (w : World) (v : Value) (xs : List Value) (hv : Reads w v xs) (a : Addr) (p : Nat → Bool)
    (hF : ∀ r, r < xs.length → Calls Try.prog 47 #[xs.getD r undef, .pointer (some a)] w fun e w' => e = .returned (.bool (p r)) ∧ w = w') :
    Calls Try.prog 56 #[v, .func (.func 47) #[] #[.pointer (some a)]] w fun e w' => e = .returned (.int .i64 (firstI xs.length p 0)) ∧ w = w' := by
  obtain ⟨A, c, rfl, hc1, hc2, hcell⟩ := hv
  have HC := Lib.hid hcell; clear hcell
  have HF := Lib.hid hF; clear hF
  obtain ⟨n, hn⟩ : ∃ n, xs.length = n := ⟨_, rfl⟩
  rw [hn] at hc1 ⊢
  have HN := Lib.hid hn; clear hn
  go_enter Try.func56, Try.ntmps56
  go_wp2
  go_loop [5, 8] (fun _ s8 => ∃ i : Nat, i ≤ n ∧ s8 = .int .i64 i ∧ firstI (n - i) p i = firstI n p 0) (fun _ s8 => n - (intOf s8).toNat)
  case atStart => exact ⟨0, by omega, rfl, by simp⟩
  case round =>
    obtain ⟨i, hi, rfl, hg⟩ := hrel
    have HG := Lib.hid hg; clear hg
    by_cases hlt : i < n
    · have hil : i < xs.length := by rw [HN.out]; exact hlt
      obtain ⟨b, off, rfl, hcell⟩ := HC.out (by omega)
      have hx := hcell i hil
      rw [List.getElem?_eq_getElem hil] at hx
      have hf := HF.out i hil
      rw [List.getD_eq_getElem?_getD, List.getElem?_eq_getElem hil] at hf
      simp only [Option.getD_some] at hf
      generalize xs[i] = x at *
      have HX := Lib.hid hf; clear hf hcell
      by_cases hp : p i = true
      · have hh := firstI_hit n i p hlt hp
        have HH := Lib.hid hh; clear hh
        rw [hp] at HX
        clear hp
        go_wp2_with fail
        refine (HX.out).mono ?_
        rintro e w' ⟨rfl, rfl⟩
        go_wp2
        go_ret
        exact ⟨by rw [← HG.out, HH.out]; rfl, rfl⟩
      · have hp' : p i = false := by simpa using hp
        have hh := firstI_step n i p hlt hp'
        have HH := Lib.hid hh; clear hh
        rw [hp'] at HX
        clear hp hp'
        go_wp2_with fail
        refine (HX.out).mono ?_
        rintro e w' ⟨rfl, rfl⟩
        go_wp2
        go_round
        case rel => exact ⟨i + 1, by omega, by go_num, by rw [← HH.out]; exact HG.out⟩
        case measure => simp [intOf]; omega
    · obtain rfl : i = n := by omega
      go_wp2
      go_ret
      refine ⟨?_, rfl⟩
      rw [← HG.out, Nat.sub_self]
      rfl
set_option maxRecDepth 100000 in
set_option maxHeartbeats 400000 in
theorem contains_apply (w : World) (v : Value) (xs : List Value) (hv : Reads w v xs) (a : Addr) (p : Nat → Bool)
    (hF : ∀ r, r < xs.length → Calls Try.prog 47 #[xs.getD r undef, .pointer (some a)] w fun e w' => e = .returned (.bool (p r)) ∧ w = w') :
    Calls Try.prog 46 #[v, .func (.func 47) #[] #[.pointer (some a)]] w fun e w' => e = .returned (.bool (decide (0 ≤ firstI xs.length p 0))) ∧ w = w' := by
  have hc := index_apply w v xs hv a p hF
  generalize firstI xs.length p 0 = z at *
  have HC := Lib.hid hc; clear hc hF hv
  go_enter Try.func46, Try.ntmps46
  go_wp2_with fail
  refine (HC.out).mono ?_
  rintro e w' ⟨rfl, rfl⟩
  go_wp2
  all_goals (go_ret; exact ⟨rfl, rfl⟩)

/-! ### plain -/
/-- row r of a matrix times texts, the first i of them. -/
def apRow (A : List (List UInt8)) (T : List ByteArray) (n r : Nat) : Nat → List UInt8
  | 0 => List.replicate n 0
  | i + 1 => xorL (apRow A T n r i) ((tb T i).map (mul (en A r i)))
theorem apRow_length (A : List (List UInt8)) (T : List ByteArray) (n r i : Nat) (h : ∀ j, j < i → (tl T j).size = n) : (apRow A T n r i).length = n := by
  induction i with
  | zero => simp [apRow]
  | succ i ih => rw [apRow, xorL_length, ih (fun j hj => h j (by omega)), List.length_map, tb_length, h i (by omega), Nat.min_self]
theorem apRow_at (A : List (List UInt8)) (T : List ByteArray) (n r i k : Nat) (h : ∀ j, j < i → (tl T j).size = n) (hk : k < n) : (apRow A T n r i).getD k 0 = sx i (fun c => mul (en A r c) ((tb T c).getD k 0)) := by
  induction i with
  | zero => simp [apRow, sx, hk]
  | succ i ih =>
    have h' : ∀ j, j < i → (tl T j).size = n := fun j hj => h j (by omega)
    have hl : k < (tb T i).length := by rw [tb_length, h i (by omega)]; exact hk
    rw [apRow, sx, xorL_at _ _ _ (by rw [apRow_length A T n r i h']; exact hk) (by rw [List.length_map]; exact hl), ih h', getD_map _ _ _ hl]
open Classical in
/-- the error of Apply. -/
noncomputable def apE (A : List (List UInt8)) (T : List ByteArray) : Int :=
  if goodM A = false then 4 else if T.length ≠ (A.getD 0 []).length ∨ ¬ Evn T then 7 else if 65536 < (tl T 0).size then 5 else 0
/-- the texts of Apply. -/
def apL (A : List (List UInt8)) (T : List ByteArray) : List ByteArray := (List.range A.length).map fun r => bs (apRow A T (nn T) r T.length)
open Classical in
noncomputable def apT (A : List (List UInt8)) (T : List ByteArray) : List ByteArray := if apE A T = 0 then apL A T else []
theorem apE_ok {A : List (List UInt8)} {T : List ByteArray} (h : apE A T = 0) : goodM A = true ∧ T.length = (A.getD 0 []).length ∧ (∀ j, j < T.length → (tl T j).size = nn T) ∧ nn T ≤ 65536 := by
  unfold apE at h
  by_cases h1 : goodM A = false
  · rw [if_pos h1] at h; cases h
  · rw [if_neg h1] at h
    by_cases h2 : T.length ≠ (A.getD 0 []).length ∨ ¬ Evn T
    · rw [if_pos h2] at h; cases h
    · rw [if_neg h2] at h
      by_cases h3 : 65536 < (tl T 0).size
      · rw [if_pos h3] at h; cases h
      · have h4 : T.length = (A.getD 0 []).length := Classical.byContradiction fun e => h2 (.inl e)
        have h5 : Evn T := Classical.byContradiction fun e => h2 (.inr e)
        exact ⟨by simpa using h1, h4, h5, by unfold nn; omega⟩
theorem apE_of {A : List (List UInt8)} {T : List ByteArray} (h1 : goodM A = true) (h2 : T.length = (A.getD 0 []).length) (h3 : ∀ j, j < T.length → (tl T j).size = nn T) (h4 : nn T ≤ 65536) : apE A T = 0 := by
  unfold apE
  rw [if_neg (by rw [h1]; decide), if_neg (by rintro (h | h); exact h h2; exact h h3), if_neg (by unfold nn at h4; omega)]
theorem apL_length (A : List (List UInt8)) (T : List ByteArray) : (apL A T).length = A.length := by simp [apL]
theorem apL_at (A : List (List UInt8)) (T : List ByteArray) (r : Nat) (h : r < A.length) : tl (apL A T) r = bs (apRow A T (nn T) r T.length) := by
  unfold tl apL
  rw [List.getD_eq_getElem?_getD, List.getElem?_map, List.getElem?_range h]; rfl

/-- texts that are read. -/
theorem Reads.texts2 {w : World} {v : Value} {T : List ByteArray} (h : Reads w v (sv T)) :
    ∃ A c, v = .slice A T.length c ∧ T.length ≤ c ∧ c ≤ 9223372036854775807 ∧ (0 < T.length → ∃ b off, A = some ⟨b, off, none⟩ ∧ ∀ j, j < T.length → w.cell? ⟨b, off + j, none⟩ = some (.string (tl T j))) := by
  obtain ⟨A, c, rfl, h1, h2, h3⟩ := h
  rw [sv_length] at *
  refine ⟨A, c, rfl, h1, h2, fun hp => ?_⟩
  obtain ⟨b, off, rfl, hc⟩ := h3 hp
  exact ⟨b, off, rfl, fun j hj => by rw [hc j hj, sv_at T j hj]⟩

/-! ### the closure -/
theorem applyc_any (w : World) (T : List ByteArray) (v : Value) (a : Addr) (hv : Reads w v (sv T)) (ha : w.cell? a = some v) (hT : 0 < T.length) (s : ByteArray) :
    Calls Try.prog 47 #[.string s, .pointer (some a)] w fun e w' => e = .returned (.bool (decide (s.size ≠ (tl T 0).size))) ∧ w = w' := by
  obtain ⟨A, c, rfl, hc1, hc2, h3⟩ := hv
  rw [sv_length] at *
  obtain ⟨b, off, rfl, hc⟩ := h3 hT
  have hc0 := hc 0 hT
  rw [sv_at T 0 hT, Nat.add_zero] at hc0
  clear hc h3
  generalize tl T 0 = s0 at *
  generalize T.length = n at *
  by_cases h : s.size = s0.size
  · have hb : (((s.size : Nat) : Int) != ((s0.size : Nat) : Int)) = false := by rw [h]; simp
    have e : decide (s.size ≠ s0.size) = false := decide_eq_false (fun x => x h)
    rw [e]
    clear e
    go_enter Try.func47, Try.ntmps47
    go_wp2
    go_ret
    exact ⟨rfl, rfl⟩
  · have hb : (((s.size : Nat) : Int) != ((s0.size : Nat) : Int)) = true := by rw [bne_iff_ne]; omega
    have e : decide (s.size ≠ s0.size) = true := decide_eq_true h
    rw [e]
    clear e
    go_enter Try.func47, Try.ntmps47
    go_wp2
    go_ret
    exact ⟨rfl, rfl⟩
/-- is there a text of another length? -/
theorem odd_any (w : World) (T : List ByteArray) (v : Value) (a : Addr) (hv : Reads w v (sv T)) (ha : w.cell? a = some v) (hT : 0 < T.length) :
    (Evn T → Calls Try.prog 46 #[v, .func (.func 47) #[] #[.pointer (some a)]] w fun e w' => e = .returned (.bool false) ∧ w = w') ∧
    (¬ Evn T → Calls Try.prog 46 #[v, .func (.func 47) #[] #[.pointer (some a)]] w fun e w' => e = .returned (.bool true) ∧ w = w') := by
  have hc := contains_apply w v (sv T) hv a (fun r => decide ((tl T r).size ≠ (tl T 0).size)) (fun r hr => by
    rw [sv_length] at hr
    have e : (sv T).getD r undef = .string (tl T r) := by rw [List.getD_eq_getElem?_getD, sv_at T r hr]; rfl
    rw [e]
    exact applyc_any w T v a hv ha hT (tl T r))
  have hs := firstI_spec (sv T).length (fun r => decide ((tl T r).size ≠ (tl T 0).size)) 0
  rw [Nat.zero_add] at hs
  constructor
  · intro he
    refine hc.mono fun e w' h => ⟨?_, h.2⟩
    rw [h.1]
    rcases hs with ⟨e1, _⟩ | ⟨j, _, h2, _, h4⟩
    · rw [e1]; rfl
    · rw [sv_length] at h2
      exact absurd (he j h2) (of_decide_eq_true h4)
  · intro he
    refine hc.mono fun e w' h => ⟨?_, h.2⟩
    rw [h.1]
    rcases hs with ⟨_, e2⟩ | ⟨j, _, _, h3, _⟩
    · exfalso
      apply he
      intro i hi
      have := e2 i (by omega) (by rw [sv_length]; exact hi)
      simpa using this
    · rw [h3]
      congr 2
end Go.Proofs.Ytikgipohjoiagaa
