/-
  The walks of the tables of logarithms and powers (gf.New, Log, Exp, Mul, Div; ref02.Log; law02.tables).
-/
import Derived.Test.YtfdmakihobhhnaaWa
namespace Go.Proofs.Ytfdmakihobhhnaa
open Go.RowKit GfM

/-! ### the plain part: what the tables hold behind i rounds -/
def tabZero : Array Value := (List.replicate 256 (Value.int .i64 0) ++ List.replicate 510 (Value.int .u8 0)).toArray
def logAt (i j : Nat) : Int := if j ≠ 0 ∧ lo (UInt8.ofNat j) < i then (lo (UInt8.ofNat j) : Int) else 0
def expAt (i j : Nat) : UInt8 := if j % 255 < i then ex j else 0
def tabF (i j : Nat) : Value := if j < 256 then .int .i64 (logAt i j) else .int .u8 ((expAt i (j - 256)).toNat : Int)
set_option maxRecDepth 100000 in
theorem tabZero_at (j : Nat) (h : j < 766) : tabZero[j]? = some (tabF 0 j) := by
  unfold tabZero tabF logAt expAt
  rw [List.getElem?_toArray]
  by_cases hj : j < 256
  · rw [List.getElem?_append_left (by simpa using hj), if_pos hj, List.getElem?_replicate, if_pos hj]
    simp
  · rw [List.getElem?_append_right (by simp; omega), if_neg hj, List.getElem?_replicate, if_pos (by simp; omega)]
    simp
theorem byte_back (x : UInt8) : UInt8.ofNat x.toNat = x := UInt8.ofNat_toNat
set_option maxRecDepth 100000 in
/-- one round: three stores. -/
theorem tabF_step (i : Nat) (hi : i < 255) (j : Nat) (hj : j < 766) :
    (if j = (ex i).toNat then Value.int .i64 (i : Int) else if j = i + 511 then .int .u8 ((ex i).toNat : Int) else if j = i + 256 then .int .u8 ((ex i).toNat : Int) else tabF i j) = tabF (i + 1) j := by
  have hx := (ex i).toNat_lt
  have hx0 : (ex i).toNat ≠ 0 := toNat_ne (ex_ne i)
  by_cases h : j < 256
  · rw [if_neg (show ¬ j = i + 511 by omega), if_neg (show ¬ j = i + 256 by omega)]
    unfold tabF
    rw [if_pos h, if_pos h]
    unfold logAt
    by_cases e : j = (ex i).toNat
    · subst e
      rw [if_pos rfl, byte_back, lo_ex hi, if_pos ⟨hx0, by omega⟩]
    · rw [if_neg e]
      congr 1
      by_cases h0 : j ≠ 0
      · have hne : lo (UInt8.ofNat j) ≠ i := by
          intro hl
          apply e
          have hjn : UInt8.ofNat j ≠ 0 := by
            intro hz
            have := congrArg UInt8.toNat hz
            rw [byte_of j h] at this
            exact h0 this
          rw [← hl, ex_lo hjn, byte_of j h]
        by_cases hlt : lo (UInt8.ofNat j) < i
        · rw [if_pos ⟨h0, hlt⟩, if_pos ⟨h0, by omega⟩]
        · rw [if_neg (by rintro ⟨_, h2⟩; exact hlt h2), if_neg (by rintro ⟨_, h2⟩; omega)]
      · rw [if_neg (by rintro ⟨h2, _⟩; exact h0 h2), if_neg (by rintro ⟨h2, _⟩; exact h0 h2)]
  · rw [if_neg (show ¬ j = (ex i).toNat by omega)]
    have hF : ∀ k, tabF k j = .int .u8 ((expAt k (j - 256)).toNat : Int) := fun k => by unfold tabF; rw [if_neg h]
    rw [hF, hF]
    unfold expAt
    by_cases h1 : j = i + 511
    · subst h1
      rw [if_pos rfl, show i + 511 - 256 = i + 255 by omega, if_pos (by omega), ← ex_mod (i + 255), show (i + 255) % 255 = i by omega]
    · rw [if_neg h1]
      by_cases h2 : j = i + 256
      · subst h2
        rw [if_pos rfl, show i + 256 - 256 = i by omega, if_pos (by omega)]
      · rw [if_neg h2]
        congr 3
        by_cases hlt : (j - 256) % 255 < i
        · rw [if_pos hlt, if_pos (by omega)]
        · rw [if_neg hlt, if_neg (by omega)]
theorem tabF_log (a : UInt8) (h : a ≠ 0) : tabF 255 a.toNat = .int .i64 (lo a : Int) := by
  unfold tabF logAt
  rw [if_pos a.toNat_lt, byte_back, if_pos ⟨toNat_ne h, lo_lt h⟩]
set_option maxRecDepth 100000 in
theorem tabF_exp (k : Nat) (h : k < 510) : tabF 255 (k + 256) = .int .u8 ((ex k).toNat : Int) := by
  unfold tabF expAt
  rw [if_neg (by omega), show k + 256 - 256 = k by omega, if_pos (Nat.mod_lt _ (by decide))]

/-- g is the tables' block. -/
def IsTable (w : World) (g : Nat) : Prop := w.rowIs g 57 766 (tabF 255)
theorem zero_table : ∀ W, (zeroValue 57).run Try.prog W = .ok (.agg tabZero) W := fun W => by kernel_rfl

set_option maxRecDepth 100000 in
set_option maxHeartbeats 1000000 in
theorem new_any (w : World) : Calls Try.prog 29 #[] w fun e w' => e = .returned (.pointer (some ⟨w.heap.size, 0, none⟩)) ∧ IsTable w' w.heap.size ∧ Below w.heap.size w w' := by
  have hz := zero_table
  go_enter Try.func29, Try.ntmps29
  go_wp2
  clear hz
  go_loopw [2, 3, 6] (fun s2 _ s6 wr => ∃ i : Nat, i ≤ 255 ∧ s6 = .int .i64 i ∧ s2 = .int .u8 ((ex i).toNat : Int) ∧ wr.rowIs w.heap.size 57 766 (tabF i) ∧ Below w.heap.size w wr) (fun _ _ s6 _ => 255 - (intOf s6).toNat)
  case atStart =>
    refine ⟨0, by omega, rfl, rfl, ?_, (Below.refl _ _).alloc (Nat.le_refl _) _⟩
    have hs : tabZero.size = 766 := by unfold tabZero; simp
    have := World.rowIs_alloc w tabZero 57 (tabF 0) (fun j hj => tabZero_at j (by omega))
    rwa [hs] at this
  case round =>
    obtain ⟨i, hi, rfl, rfl, hR, hB⟩ := hrel
    by_cases hlt : i < 255
    · have hfr := hR.frozen
      have hxl : (ex i).toNat < 256 := (ex i).toNat_lt
      have hc1 := hR.cell (i := 256 + i) (by omega)
      have hc2 := hR.cell (i := 256 + (i + 255)) (by omega)
      have b1 : (i : Int) < 510 := by omega
      have b2 : (i : Int) + 255 < 510 := by omega
      have b3 : 0 ≤ (i : Int) + 255 := by omega
      have b4 : ((i : Int) + 255).toNat = i + 255 := by omega
      have hc3 := hR.cell (i := (ex i).toNat) (by omega)
      have hnext : mul (ex i) 2 = ex (i + 1) := by rw [← ex_add]; rfl
      have hcall := fun W => mul_any _ 2 (ex i) 2 rfl rfl W
      rw [hnext] at hcall
      have hst := tabF_step i hlt
      generalize hy : ex (i + 1) = y at *
      generalize ex i = x at *
      have HY := Lib.hid hy; clear hy
      have HST := Lib.hid hst; clear hst
      have HC := Lib.hid hcall; clear hcall hnext
      generalize tabF i (256 + i) = c1 at *
      generalize tabF i (256 + (i + 255)) = c2 at *
      generalize tabF i x.toNat = c3 at *
      go_wp2
      go_region
      have hx1 : ¬ x.toNat = 256 + i := by omega
      have hx2 : ¬ x.toNat = 256 + (i + 255) := by omega
      go_wp2_with (go_at_call 14; refine (HC.out _).mono ?_; rintro e w' ⟨rfl, rfl⟩)
      go_roundw
      case rel =>
        refine ⟨i + 1, by omega, by go_num, by rw [HY.out], ?_, ?_⟩
        · refine ((((hR.set _ _).set _ _).set _ _).drew).congr fun j hj => ?_
          rw [← HST.out j hj]
          show (if j = x.toNat then _ else if j = 256 + (i + 255) then _ else if j = 256 + i then _ else _) = _
          rw [show 256 + (i + 255) = i + 511 by omega, show 256 + i = i + 256 by omega]
        · exact ((((hB.setCell (by simp) _).setCell (by simp) _).setCell (by simp) _)).drew
      case measure => simp [intOf]; omega
    · obtain rfl : i = 255 := by omega
      go_wp2
      go_ret
      exact ⟨rfl, hR, hB⟩

/-! ### the methods -/
/-- a logarithm; 0 of 0. -/
def loI (a : UInt8) : Int := if a = 0 then 0 else (lo a : Int)
theorem loI_zero : loI 0 = 0 := rfl
theorem loI_ne {a : UInt8} (h : a ≠ 0) : loI a = (lo a : Int) := if_neg h
/-- the error of 0. -/
def zE (a : UInt8) : Int := if a = 0 then 6 else 0
theorem zE_zero : zE 0 = 6 := rfl
theorem zE_ne {a : UInt8} (h : a ≠ 0) : zE a = 0 := if_neg h
section
variable {w : World} {g : Nat}
set_option maxRecDepth 100000 in
set_option maxHeartbeats 400000 in
theorem log_any (hT : IsTable w g) (x : Int) (a : UInt8) (hx : x = (a.toNat : Int)) :
    Calls Try.prog 24 #[.pointer (some ⟨g, 0, none⟩), .int .u8 x] w fun e w' => e = .returned (.tuple #[.int .i64 (loI a), .int .i64 (zE a)]) ∧ w = w' := by
  subst hx
  by_cases ha : a = 0
  · subst ha
    rw [loI_zero, zE_zero]
    go_enter Try.func24, Try.ntmps24
    go_wp2
    go_ret2
    exact ⟨rfl, rfl⟩
  · rw [loI_ne ha, zE_ne ha]
    have ha' := ne_zero_beq ha
    have hc := World.rowIs.cell hT (i := a.toNat) (by have := a.toNat_lt; omega)
    rw [tabF_log a ha] at hc
    have hal := a.toNat_lt
    generalize (lo a : Int) = v at *
    clear ha
    go_enter Try.func24, Try.ntmps24
    go_wp2
    go_ret2
    exact ⟨rfl, rfl⟩
/-- the generator to a power, whatever the exponent. -/
def exI (n : Int) : UInt8 := ex (n % 255).toNat
theorem exI_pw (n : Int) : exI n = pwI 2 n := by
  unfold exI pwI
  by_cases h : n = 0
  · subst h; rfl
  · rw [if_neg h, if_neg (by decide), pw_two]
set_option maxRecDepth 100000 in
set_option maxHeartbeats 400000 in
theorem exp_any (hT : IsTable w g) (n : Int) :
    Calls Try.prog 23 #[.pointer (some ⟨g, 0, none⟩), .int .i64 n] w fun e w' => e = .returned (.int .u8 ((exI n).toNat : Int)) ∧ w = w' := by
  have ht := tmod_255 n
  obtain ⟨k, hk⟩ : ∃ k : Nat, n % 255 = k := ⟨(n % 255).toNat, by omega⟩
  have hkl : k < 255 := by omega
  have hc := World.rowIs.cell hT (i := 256 + k) (by omega)
  rw [Nat.add_comm 256 k, tabF_exp k (by omega), Nat.add_comm k 256] at hc
  unfold exI
  rw [hk] at ht ⊢
  simp only [Int.toNat_natCast]
  generalize ex k = v at *
  clear hk
  have b1 : (k : Int) < 510 := by omega
  go_enter Try.func23, Try.ntmps23
  go_wp2
  go_ret
  exact ⟨rfl, rfl⟩
theorem IsTable.below {w w' : World} {g : Nat} (h : IsTable w g) (hb : Below w.heap.size w w') : IsTable w' g := World.rowIs.of_block h (hb.block g (World.rowIs.lt h))
set_option maxRecDepth 100000 in
set_option maxHeartbeats 1000000 in
theorem tmul_any (hT : IsTable w g) (x y : Int) (a b : UInt8) (hx : x = (a.toNat : Int)) (hy : y = (b.toNat : Int)) :
    Calls Try.prog 27 #[.pointer (some ⟨g, 0, none⟩), .int .u8 x, .int .u8 y] w fun e w' => e = .returned (.int .u8 ((mul a b).toNat : Int)) ∧ Below w.heap.size w w' := by
  subst hx hy
  by_cases ha : a = 0
  · subst ha
    rw [zero_mul]
    go_enter Try.func27, Try.ntmps27
    go_wp2
    go_ret
    exact ⟨rfl, Below.refl _ _⟩
  have ea := ne_zero_beq ha
  by_cases hb : b = 0
  · subst hb
    rw [mul_zero]
    clear ha
    go_enter Try.func27, Try.ntmps27
    go_wp2
    go_ret
    exact ⟨rfl, Below.refl _ _⟩
  have eb := ne_zero_beq hb
  have hla := lo_lt ha
  have hlb := lo_lt hb
  have hc1 := World.rowIs.cell hT (i := a.toNat) (by have := a.toNat_lt; omega)
  rw [tabF_log a ha] at hc1
  have hc2 := World.rowIs.cell hT (i := b.toNat) (by have := b.toNat_lt; omega)
  rw [tabF_log b hb] at hc2
  have hc3 := World.rowIs.cell hT (i := 256 + (lo a + lo b)) (by omega)
  rw [Nat.add_comm 256, tabF_exp _ (by omega), Nat.add_comm _ 256, ← ex_add, ex_lo ha, ex_lo hb] at hc3
  have b1 := a.toNat_lt
  have b2 := b.toNat_lt
  have b5 : ((a.toNat : Nat) : Int) < 256 := by omega
  have b6 : ((b.toNat : Nat) : Int) < 256 := by omega
  generalize mul a b = v at *
  generalize lo a = l at *
  generalize lo b = m at *
  have b3 : (l : Int) + (m : Int) < 510 := by omega
  have b4 : 0 ≤ (l : Int) + (m : Int) := by omega
  clear ha hb
  go_enter Try.func27, Try.ntmps27
  go_wp2
  go_quiet (fail)
  go_wp2
  go_ret
  exact ⟨rfl, below_drewN (Below.refl _ _) _⟩
set_option maxRecDepth 100000 in
set_option maxHeartbeats 1000000 in
theorem tdiv_any (hT : IsTable w g) (x y : Int) (a b : UInt8) (hx : x = (a.toNat : Int)) (hy : y = (b.toNat : Int)) :
    Calls Try.prog 26 #[.pointer (some ⟨g, 0, none⟩), .int .u8 x, .int .u8 y] w fun e w' => e = .returned (.tuple #[.int .u8 ((mul a (inv b)).toNat : Int), .int .i64 (zE b)]) ∧ Below w.heap.size w w' := by
  subst hx hy
  by_cases hb : b = 0
  · subst hb
    rw [inv_zero, mul_zero, zE_zero]
    go_enter Try.func26, Try.ntmps26
    go_wp2
    go_ret2
    exact ⟨rfl, Below.refl _ _⟩
  have eb := ne_zero_beq hb
  rw [zE_ne hb]
  by_cases ha : a = 0
  · subst ha
    rw [zero_mul]
    clear hb
    go_enter Try.func26, Try.ntmps26
    go_wp2
    go_ret2
    exact ⟨rfl, Below.refl _ _⟩
  have ea := ne_zero_beq ha
  have hla := lo_lt ha
  have hlb := lo_lt hb
  have hc1 := World.rowIs.cell hT (i := a.toNat) (by have := a.toNat_lt; omega)
  rw [tabF_log a ha] at hc1
  have hc2 := World.rowIs.cell hT (i := b.toNat) (by have := b.toNat_lt; omega)
  rw [tabF_log b hb] at hc2
  have hc3 := World.rowIs.cell hT (i := 256 + (lo a + 255 - lo b)) (by omega)
  have hm : ex (lo a + 255 - lo b) = mul a (inv b) := by
    unfold inv
    rw [if_neg hb]
    conv => rhs; lhs; rw [← ex_lo ha]
    rw [ex_add]; congr 1; omega
  rw [Nat.add_comm 256, tabF_exp _ (by omega), Nat.add_comm _ 256, hm] at hc3
  have b1 := a.toNat_lt
  have b2 := b.toNat_lt
  have b5 : ((a.toNat : Nat) : Int) < 256 := by omega
  have b6 : ((b.toNat : Nat) : Int) < 256 := by omega
  clear hm
  generalize mul a (inv b) = v at *
  generalize lo a = l at *
  generalize lo b = m at *
  have b3 : (l : Int) + 255 - (m : Int) < 510 := by omega
  have b4 : 0 ≤ (l : Int) + 255 - (m : Int) := by omega
  have b7 : ((l : Int) + 255 - (m : Int)).toNat = l + 255 - m := by omega
  clear ha hb
  go_enter Try.func26, Try.ntmps26
  go_wp2
  go_quiet (fail)
  go_wp2
  go_ret2
  exact ⟨rfl, below_drewN (Below.refl _ _) _⟩
end

/-! ### the document's logarithm -/
set_option maxRecDepth 100000 in
set_option maxHeartbeats 400000 in
theorem rlog_any (x : Int) (a : UInt8) (hx : x = (a.toNat : Int)) (w : World) :
    Calls Try.prog 25 #[.int .u8 x] w fun e w' => e = .returned (.tuple #[.int .i64 (loI a), .int .i64 (zE a)]) ∧ Below w.heap.size w w' := by
  subst hx
  go_enter Try.func25, Try.ntmps25
  go_wp2
  go_loopw [4, 5] (fun s4 s5 wr => ∃ i : Nat, i ≤ 255 ∧ s5 = .int .i64 i ∧ s4 = .int .u8 ((ex i).toNat : Int) ∧ (∀ c, c < i → ¬ ex c = a) ∧ Below w.heap.size w wr) (fun _ s5 _ => 255 - (intOf s5).toNat)
  case atStart => exact ⟨0, by omega, rfl, rfl, fun c hc => absurd hc (by omega), Below.refl _ _⟩
  case round =>
    obtain ⟨i, hi, rfl, rfl, hno, hB⟩ := hrel
    have HNO := Lib.hid hno; clear hno
    by_cases hlt : i < 255
    · have hnext : mul (ex i) 2 = ex (i + 1) := by rw [← ex_add]; rfl
      by_cases he : ex i = a
      · have hl : lo a = i := by rw [← he]; exact lo_ex hlt
        have hne : a ≠ 0 := by rw [← he]; exact ex_ne i
        have e1 : ((((ex i).toNat : Nat) : Int) == ((a.toNat : Nat) : Int)) = true := by rw [he]; simp
        clear hnext
        have HL := Lib.hid hl; clear hl
        have HN := Lib.hid hne; clear hne he
        generalize ex i = y at *
        go_wp2
        go_ret2
        refine ⟨?_, hB⟩
        rw [loI_ne HN.out, zE_ne HN.out, HL.out]
        rfl
      · have e1 : ((((ex i).toNat : Nat) : Int) == ((a.toNat : Nat) : Int)) = false := by
          rw [beq_eq_false_iff_ne]
          intro h
          apply he
          apply UInt8.toNat_inj.1
          omega
        have hcall := fun W => rmul_any _ 2 (ex i) 2 rfl rfl W
        rw [hnext] at hcall
        have HE := Lib.hid he; clear he
        have HC := Lib.hid hcall; clear hcall hnext
        generalize hy : ex (i + 1) = y at *
        have HY := Lib.hid hy; clear hy
        generalize hx : ex i = x at *
        have HX := Lib.hid hx; clear hx
        go_wp2_with (go_at_call 15; refine (HC.out _).mono ?_; rintro e w1 ⟨rfl, hb1⟩)
        go_roundw
        case rel =>
          refine ⟨i + 1, by omega, by go_num, by rw [HY.out], fun c hc => ?_, below_then hB hB.size hb1⟩
          by_cases h : c < i
          · exact HNO.out c h
          · obtain rfl : c = i := by omega
            rw [HX.out]; exact HE.out
        case measure => simp [intOf]; omega
    · have ha : a = 0 := by
        apply Classical.byContradiction
        intro ha
        exact HNO.out (lo a) (by have := lo_lt ha; omega) (ex_lo ha)
      subst ha
      generalize ex i = y at *
      go_wp2
      go_ret2
      exact ⟨rfl, hB⟩

/-! ### the law's own -/
set_option maxRecDepth 100000 in
set_option maxHeartbeats 1000000 in
theorem tables_any (w : World) : Calls Try.prog 22 #[] w fun e w' => ∃ g, e = .returned (.tuple #[.pointer (some ⟨g, 0, none⟩), .bool true]) ∧ w.heap.size ≤ g ∧ IsTable w' g ∧ Below w.heap.size w w' := by
  go_enter Try.func22, Try.ntmps22
  go_wp2_with fail
  refine (new_any _).mono ?_
  rintro e w1 ⟨rfl, hT, hB⟩
  go_wp2_with fail
  have h1 := log_any hT 29 29 rfl
  have e1 : loI 29 = 8 := by decide +kernel
  have e2 : zE 29 = 0 := by decide +kernel
  rw [e1, e2] at h1
  refine h1.mono ?_
  rintro e w' ⟨rfl, rfl⟩
  go_wp2_with fail
  have h2 := exp_any hT 8
  have e3 : (((exI 8).toNat : Nat) : Int) = 29 := by decide +kernel
  rw [e3] at h2
  refine h2.mono ?_
  rintro e w' ⟨rfl, rfl⟩
  go_wp2_with fail
  refine (wakes_any _).mono ?_
  rintro e w' ⟨rfl, rfl⟩
  go_wp2
  go_ret2
  exact ⟨_, rfl, Nat.le_refl _, hT, hB⟩
end Go.Proofs.Ytfdmakihobhhnaa
