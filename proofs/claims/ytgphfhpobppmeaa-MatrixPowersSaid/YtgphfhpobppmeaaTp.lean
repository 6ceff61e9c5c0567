/-
  The walk of the law MatrixPowers.
-/
import Derived.Test.YtgphfhpobppmeaaTk
import Derived.Test.YtgphfhpobppmeaaMv
namespace Go.Proofs.Ytgphfhpobppmeaa
open Go.RowKit GfM

/-- the columns picked among the first c, at most N of them. -/
def pkC (bit : Nat → Bool) (N : Nat) : Nat → List Nat
  | 0 => []
  | c + 1 => if bit c = true ∧ (pkC bit N c).length < N then pkC bit N c ++ [c] else pkC bit N c
theorem pkC_lt (bit : Nat → Bool) (N c : Nat) : ∀ x ∈ pkC bit N c, x < c := by
  induction c with
  | zero => intro x hx; simp [pkC] at hx
  | succ c ih =>
    intro x hx
    rw [pkC] at hx
    split at hx
    · rw [List.mem_append] at hx
      rcases hx with h | h
      · have := ih x h; omega
      · have : x = c := by simpa using h
        omega
    · have := ih x hx; omega
theorem pkC_nodup (bit : Nat → Bool) (N c : Nat) : (pkC bit N c).Nodup := by
  induction c with
  | zero => simp [pkC]
  | succ c ih =>
    rw [pkC]
    split
    · rw [List.nodup_append]
      refine ⟨ih, by simp, fun a ha b hb => ?_⟩
      have h1 := pkC_lt bit N c a ha
      have h2 : b = c := by simpa using hb
      omega
    · exact ih
theorem pkC_len (bit : Nat → Bool) (N c : Nat) : (pkC bit N c).length ≤ N := by
  induction c with
  | zero => simp [pkC]
  | succ c ih =>
    rw [pkC]
    split
    · rename_i h; rw [List.length_append]; simp; omega
    · exact ih
theorem tri' (x : Int) : (∃ a : Nat, x = (a : Int) ∧ 0 < (a : Int)) ∨ x = 0 ∨ x < 0 := by
  rcases Int.lt_trichotomy x 0 with h | h | h
  · exact .inr (.inr h)
  · exact .inr (.inl h)
  · exact .inl ⟨x.toNat, by omega, by omega⟩

set_option maxRecDepth 100000 in
set_option maxHeartbeats 2000000 in
theorem matrixPowers_walk (n0 : Int) (_ : (Lit.int .i64 n0).wf = true) (pick : Int) (_ : (Lit.int .u16 pick).wf = true) (w : World) :
    Calls Try.prog 4 #[.int .i64 n0, .int .u16 pick] w fun e w' => e = .returned (.bool true) ∧ Below w.heap.size w w' := by
  obtain ⟨N, hN⟩ : ∃ N : Nat, 1 + n0.toNat % 16 = N := ⟨_, rfl⟩
  have hN1 : 1 ≤ N := by omega
  have hN16 : N ≤ 16 := by omega
  have hv := fun W => vandermonde_any (N : Int) 16 W
  have ev : vdOut (N : Int) 16 = (vdM N 16, 0) := by unfold vdOut; rw [if_pos (by omega)]; rfl
  rw [ev] at hv
  have HV := Lib.hid hv; clear hv ev
  go_enter Try.func4, Try.ntmps4
  go_upto_region 1 with fail
  go_cut [0] (fun s0 wx => s0 = .int .i64 N ∧ w = wx)
  case first =>
    rcases tri' n0 with ⟨a, rfl, ha⟩ | rfl | ha
    · have hm : ((a : Int)).tmod 16 = ((a % 16 : Nat) : Int) := by rw [Int.tmod_eq_emod_of_nonneg (by omega)]; omega
      rw [Int.toNat_natCast] at hN
      have hs : (1 : Int) + ((a % 16 : Nat) : Int) = (N : Int) := by omega
      have hw : wrap64 ((1 : Int) + ((a % 16 : Nat) : Int)) = (N : Int) := by rw [hs]; unfold wrap64; omega
      have ha2 : ¬ ((a : Int) ≤ 0) := by omega
      clear hN
      generalize a % 16 = q at *
      go_wp2_with fail
      go_meet
      exact ⟨by rw [← hs], rfl⟩
    · obtain rfl : N = 1 := by rw [← hN]; rfl
      go_wp2_with fail
      go_meet
      exact ⟨rfl, rfl⟩
    · obtain rfl : N = 1 := by
        have : n0.toNat = 0 := by omega
        rw [← hN, this]
      go_wp2_with fail
      go_meet
      exact ⟨rfl, rfl⟩
  case rest =>
    obtain ⟨rfl, rfl⟩ := hcut
    clear hN
    go_wp2_with fail
    refine (HV.out _).mono ?_
    rintro e w1 ⟨vv, rfl, hRv, hB1⟩
    go_wp2_with fail
    refine (wakes03 _).mono ?_
    rintro e w2 ⟨rfl, hb2⟩
    have hB2 := below_then hB1 hB1.size hb2
    have hRv2 := hRv.below hb2
    obtain ⟨bv0, ov, cv, rfl, hcv, hbv⟩ := hRv2.at_ (by rw [vdM_length]; omega)
    rw [vdM_length] at hRv2 hcv ⊢
    have hel : ∀ r c, r < N → c < 16 → ∃ b1 o1 z1, w2.cell? ⟨bv0, ov + r, none⟩ = some (.slice (some ⟨b1, o1, none⟩) 16 z1) ∧ w2.cell? ⟨b1, o1 + c, none⟩ = some (.int .u8 ((ex (r * c)).toNat : Int)) := by
      intro r c hr hc
      have hrow := vdM_row N 16 r hr
      have hlr : ((vdM N 16).getD r []).length = 16 := by rw [hrow]; simp
      obtain ⟨b1, o1, z1, f1, f2, f3⟩ := hRv2.el r c (by rw [vdM_length]; exact hr) (by rw [hlr]; exact hc)
      rw [hlr] at f1
      have he : en (vdM N 16) r c = ex (r * c) := by unfold en; rw [hrow, List.getD_eq_getElem?_getD, List.getElem?_map, List.getElem?_range hc]; rfl
      rw [he] at f3
      exact ⟨b1, o1, z1, f1, f3⟩
    have HEL := Lib.hid hel; clear hel
    clear hRv hb2 hB1 hRv2
    have hl0 := Lib.hid (ORows.lit0 w2 w2.heap.size (Nat.le_refl _))
    have hB2' := Lib.hid hB2
    obtain ⟨bit, hbit⟩ : ∃ bit : Nat → Bool, ∀ c, (bits .and .u16 (pick / 2 ^ c) 1 == 1) = bit c := ⟨_, fun c => rfl⟩
    have HBIT := Lib.hid hbit; clear hbit
    have hpw : ∀ c x, x ∈ pkC bit N c → x < c := pkC_lt bit N
    have hps0 : ∀ c, pkC bit N (c + 1) = if bit c = true ∧ (pkC bit N c).length < N then pkC bit N c ++ [c] else pkC bit N c := fun c => rfl
    have HPS := Lib.hid hps0; clear hps0
    have HPL := Lib.hid (pkC_len bit N)
    have HLAW := Lib.hid (fun X e (h : InvR (pkM N (pkC bit N 16)) X e) (hl : (pkC bit N 16).length = N) => powers_law h hN1 hN16 hl (pkC_lt bit N 16) (pkC_nodup bit N 16))
    have HPM := Lib.hid (pkM_shp N (pkC bit N 16))
    have HPR := Lib.hid (pkM_row N (pkC bit N 16))
    clear hpw
    go_wp2
    go_loopw [7, 8, 9, 10, 36] (fun s7 _ _ _ s36 wr => ∃ r : Nat, r ≤ N ∧ s36 = .int .i64 r ∧ Hid (ORows wr w2.heap.size s7 ((pkM N (pkC bit N 16)).take r)) ∧ Below w2.heap.size w2 wr) (fun _ _ _ _ s36 _ => N - (intOf s36).toNat)
    case atStart => exact ⟨0, by omega, rfl, Lib.hid (by rw [List.take_zero]; exact hl0.out), (Below.refl _ _).alloc (Nat.le_refl _) _⟩
    case round =>
      clear hl0 hB2
      obtain ⟨r, hr, rfl, HO, hB⟩ := hrel
      by_cases hlt : r < N
      · obtain ⟨wo, rfl⟩ : ∃ wo : World, wo = wr := ⟨_, rfl⟩
        have HTK := Lib.hid (take_rows (pkM N (pkC bit N 16)) r (by rw [HPM.out.1]; exact hlt))
        go_wp2
        go_loopw [9, 10, 39] (fun s9 _ s39 wk => ∃ c : Nat, c ≤ 16 ∧ s39 = .int .i64 c ∧ Hid (Own wk wo.heap.size 5 s9 (bv ((pkC bit N c).map fun c => ex (r * c)))) ∧ Below wo.heap.size wo wk) (fun _ _ s39 _ => 16 - (intOf s39).toNat)
        case atStart => exact ⟨0, by omega, rfl, Lib.hid (Own.nil_ _ _ _), Below.refl _ _⟩
        case round =>
          obtain ⟨c, hc, rfl, HR, hBi⟩ := hrel
          by_cases hlc : c < 16
          · have hbc := HBIT.out c
            have hps := HPS.out c
            have hpl := HPL.out c
            have hBk := below_then hB hB.size hBi
            obtain ⟨b1, o1, z1, f1, f2⟩ := HEL.out r c hlt hlc
            have F1 := (hBk.cell (World.block_lt_of_cell? _ _ f1)).trans f1
            have F2 := (hBk.cell (World.block_lt_of_cell? _ _ f2)).trans f2
            clear f1 f2
            have hO := HR.out
            obtain ⟨Ay, cy, rfl⟩ := hO.shape
            have hbl : (bv ((pkC bit N c).map fun c => ex (r * c))).length = (pkC bit N c).length := by rw [bv_length, List.length_map]
            rw [hbl] at hO HR ⊢
            have hrN : (r : Int) < (N : Int) := by omega
            have hc0 : (0 : Int) ≤ (c : Int) := by omega
            have hc1 : (c : Int) ≤ 16 := by omega
            by_cases hb : bit c = true
            · by_cases hll : (pkC bit N c).length < N
              · have hL : ((bv ((pkC bit N c).map fun c => ex (r * c))).length + 1) * 1 ≤ 140737488355328 := by rw [hbl]; omega
                have HL := Lib.hid hL; clear hL
                rw [if_pos ⟨hb, hll⟩] at hps
                rw [hb] at hbc
                have hmap : bv ((pkC bit N (c + 1)).map fun c => ex (r * c)) = bv ((pkC bit N c).map fun c => ex (r * c)) ++ [.int .u8 ((ex (r * c)).toNat : Int)] := by rw [hps, List.map_append, bv_append]; rfl
                have HMAP := Lib.hid hmap; clear hmap hps
                have hdl : decide (((pkC bit N c).length : Int) < (N : Int)) = true := decide_eq_true (by omega)
                have HO9 := Lib.hid hO; clear hO
                clear hbl
                generalize ex (r * c) = x at *
                generalize (pkC bit N c).length = L at *
                go_wp2_with (at_builtin; refine append_one wo.heap.size rfl (.tmp 53) (.tmp 61) 37 5 (.int .u8 0) 1 rfl Try.underlying37 info5 rfl (by decide) _ _ (.int .u8 (x.toNat : Int)) rfl rfl rfl HO9.out hBi hBi.size HL.out ?_; intro v1 w7 hO7 hB7 _ _)
                go_roundw
                case rel => exact ⟨c + 1, by omega, by go_num, Lib.hid (by rw [HMAP.out]; exact hO7), hB7⟩
                case measure => simp [intOf]; omega
              · rw [if_neg (fun h => hll h.2)] at hps
                rw [hb] at hbc
                have hdl : decide (((pkC bit N c).length : Int) < (N : Int)) = false := decide_eq_false (by omega)
                have HPSc := Lib.hid hps; clear hps
                have HO9 := Lib.hid hO; clear hO
                clear hbl hpl
                generalize (pkC bit N c).length = L at *
                go_wp2
                go_roundw
                case rel => exact ⟨c + 1, by omega, by go_num, Lib.hid (by rw [HPSc.out]; exact HO9.out), hBi⟩
                case measure => simp [intOf]; omega
            · rw [if_neg (fun h => hb h.1)] at hps
              have hb' : bit c = false := by simpa using hb
              rw [hb'] at hbc
              have HPSc := Lib.hid hps; clear hps
              have HO9 := Lib.hid hO; clear hO
              clear hbl hpl hb hb'
              generalize (pkC bit N c).length = L at *
              go_wp2
              go_roundw
              case rel => exact ⟨c + 1, by omega, by go_num, Lib.hid (by rw [HPSc.out]; exact HO9.out), hBi⟩
              case measure => simp [intOf]; omega
          · obtain rfl : c = 16 := by omega
            obtain ⟨vs, v1, v2, v3⟩ := HO.out
            have hy := HR.out
            rw [← HPR.out r hlt] at hy
            obtain ⟨Ay, cy, rfl⟩ := hy.shape
            have hBk := below_then hB hB.size hBi
            have hL : (vs.length + 1) * 24 ≤ 140737488355328 := by rw [v1, List.length_take, HPM.out.1]; omega
            have HL := Lib.hid hL; clear hL
            have HY := Lib.hid hy; clear hy
            have H1 := Lib.hid v1; clear v1
            have H2 := Lib.hid v2; clear v2
            have H3 := Lib.hid v3; clear v3
            have HV2 := Lib.hid (H2.out.below hBi)
            go_wp2_with (at_builtin; refine append_one w2.heap.size rfl (.tmp 64) (.tmp 66) 24 37 (.slice none 0 0) 24 rfl Try.underlying24 infoB rfl (by decide) _ vs (.slice Ay _ cy) rfl rfl rfl HV2.out hBk hBk.size HL.out ?_; intro v4 w8 hO8 hB8 hg8 _
                         have hOR := ORows.push_row H1.out H2.out H3.out hBi hB.size HY.out hg8 hO8
                         rw [← HTK.out] at hOR)
            go_roundw
            case rel => exact ⟨r + 1, by omega, by go_num, Lib.hid hOR, hB8⟩
            case measure => simp [intOf]; omega
      · obtain rfl : r = N := by omega
        have hR := HO.out.reads
        rw [List.take_of_length_le (by rw [HPM.out.1]; exact Nat.le_refl _)] at hR
        have hPl := HPM.out.1
        have hP0 := HPM.out.2 0 (by omega)
        obtain ⟨bm, om, cm, rfl, hcm, hbm⟩ := hR.at_ (by rw [hPl]; omega)
        obtain ⟨A0, c0, h00, _, _⟩ := hR.rowAt 0 (by rw [hPl]; omega)
        rw [hP0, Nat.add_zero] at h00
        rw [hPl] at hR hcm ⊢
        have hiv := invert_any _ _ _ hR
        have hLn := HPL.out 16
        have HIV := Lib.hid hiv; clear hiv
        have hr0 : (0 : Int) < (r : Int) := by omega
        clear hPl hP0 HO hR HEL
        by_cases hfull : (pkC bit r 16).length = r
        · have hlaw := fun X e h => HLAW.out X e h hfull
          have HLW := Lib.hid hlaw; clear hlaw HLAW
          rw [hfull] at h00
          clear hfull hLn
          go_wp2_with fail
          refine (HIV.out).mono ?_
          rintro e w5 ⟨vx, X, e0, rfl, _, hInv, hb5⟩
          obtain rfl := HLW.out X e0 hInv
          go_wp2
          go_ret
          exact ⟨rfl, below_then (below_then hB2'.out hB2'.out.size hB) (Nat.le_trans hB2'.out.size hB.size) hb5⟩
        · have hls : (pkC bit r 16).length < r := by omega
          clear HLAW hfull
          generalize (pkC bit r 16).length = L at *
          go_wp2
          go_ret
          exact ⟨rfl, below_then hB2'.out hB2'.out.size hB⟩
end Go.Proofs.Ytgphfhpobppmeaa
