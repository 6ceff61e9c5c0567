/-
  The walk of the law RsThree.
-/
import Derived.Test.YtikgipohjoiagaaLe
namespace Go.Proofs.Ytikgipohjoiagaa
open Go.RowKit GfM

theorem three_of {X : List Int} (h : X.length = 3) : ∃ a b c, X = [a, b, c] := by
  match X, h with
  | [a, b, c], _ => exact ⟨a, b, c, rfl⟩
/-- a stripe's answer: told, or lost. -/
theorem three_plain {C : List ByteArray} {m k : Nat} (hk1 : 1 ≤ k) (hk8 : k ≤ 8) (hC : C.length = k) (hs : Siz C m) (hm : m ≤ 60) {B : List Bool} (hB : B.length = k + 2) {T : List ByteArray} {e : Int}
    (h : DecR (C ++ [bs (enP C), bs (enQ C)]) B T e) : ((pk B (k + 2)).length < k → T = [] ∧ e = 24) ∧ (k ≤ (pk B (k + 2)).length → T = C ++ [bs (enP C), bs (enQ C)] ∧ e = 0) := by
  have hl : (C ++ [bs (enP C), bs (enQ C)]).length = k + 2 := by rw [List.length_append, hC]; rfl
  constructor
  · intro h4
    exact dec_lost h (by omega) (by omega) (by omega) (by rw [hl]; omega)
  · intro h4
    exact dec_fit h hk1 hk8 hl hB hC (hs.enE (by omega) (by omega) (by omega)) h4 fun s _ _ => rfl

set_option maxRecDepth 100000 in
set_option maxHeartbeats 2000000 in
theorem rsThree_walk (w : World) (v : Value) (T : List ByteArray) (hv : Reads w v (sv T)) (X : List Int) (hX : X.length = 3) :
    Calls Try.prog 10 #[v, .agg (X.map (Value.int .i64)).toArray] w fun e w' => e = .returned (.bool true) ∧ Below w.heap.size w w' := by
  obtain ⟨x0, x1, x2, rfl⟩ := three_of hX
  have hC12 := cuts_small T 60 true
  have hsz := cuts_siz T 60 (min T.length 12)
  have hm60 := cut1_size T 60 0
  have hcut := cut_any (w.alloc (.cells #[.int .i64 x0, .int .i64 x1, .int .i64 x2] 47)) v T (hv.alloc _) 60 (by decide) 60 rfl true
  generalize cuts T 60 true (min T.length 12) = C at *
  generalize (cut1 T 60 0).size = m at *
  have eX : (([x0, x1, x2] : List Int).map (Value.int .i64)).toArray = #[.int .i64 x0, .int .i64 x1, .int .i64 x2] := rfl
  rw [eX]
  have hbx := Blk.new w 47 #[.int .i64 x0, .int .i64 x1, .int .i64 x2]
  have HCUT := Lib.hid hcut; clear hcut hv eX hX
  have hB0 : Below w.heap.size w (w.alloc (.cells #[.int .i64 x0, .int .i64 x1, .int .i64 x2] 47)) := ((Below.refl _ _).alloc (Nat.le_refl _) _)
  by_cases h1 : C.length = 0
  · obtain rfl : C = [] := List.eq_nil_of_length_eq_zero h1
    clear h1 hsz hC12
    go_enter Try.func10, Try.ntmps10
    go_wp2_with fail
    refine (HCUT.out).mono ?_
    rintro e w1 ⟨l, rfl, hO, hb1⟩
    have hB1 := below_then hB0 hB0.size hb1
    obtain ⟨A, c, rfl⟩ := hO.shape
    simp only [sv, List.map_nil, List.length_nil]
    go_wp2_with fail
    refine (wakes04 _).mono ?_
    rintro e w2 ⟨rfl, hb2⟩
    have hB2 := below_then hB1 hB1.size hb2
    go_wp2
    go_ret
    exact ⟨rfl, hB2⟩
  by_cases h8 : 8 < C.length
  · have hk : (sv C).length = C.length := sv_length C
    clear hsz
    go_enter Try.func10, Try.ntmps10
    go_wp2_with fail
    refine (HCUT.out).mono ?_
    rintro e w1 ⟨l, rfl, hO, hb1⟩
    have hB1 := below_then hB0 hB0.size hb1
    obtain ⟨A, c, rfl⟩ := hO.shape
    rw [hk]
    clear hO hk
    generalize C.length = k at *
    go_wp2_with fail
    refine (wakes04 _).mono ?_
    rintro e w2 ⟨rfl, hb2⟩
    have hB2 := below_then hB1 hB1.size hb2
    go_wp2
    go_ret
    exact ⟨rfl, hB2⟩
  have henc := fun W u h => encode_any W u C h
  rw [hsz.enE (by omega) (by omega) (by omega)] at henc
  have hL1 : (([] : List Value).length + (sv C).length) * 16 ≤ 140737488355328 := by rw [sv_length]; simp; omega
  have hL2 : (([] ++ sv C : List Value).length + (sv [bs (enP C), bs (enQ C)]).length) * 16 ≤ 140737488355328 := by rw [List.nil_append, sv_length, sv_length]; simp; omega
  have hone1 := Lib.hid (sv_one C)
  have hone2 := Lib.hid (sv_one [bs (enP C), bs (enQ C)])
  have hlit : ∀ W : World, Reads (W.alloc (.cells #[.string (bs (enP C)), .string (bs (enQ C))] 9)) (.slice (some ⟨W.heap.size, 0, none⟩) 2 2) (sv [bs (enP C), bs (enQ C)]) := fun W => lit_reads W [bs (enP C), bs (enQ C)] 2 rfl (by decide)
  have hk : (sv C).length = C.length := sv_length C
  have hD : [] ++ sv C ++ sv [bs (enP C), bs (enQ C)] = sv (C ++ [bs (enP C), bs (enQ C)]) := by rw [List.nil_append, sv_append]
  obtain ⟨k, hkC⟩ : ∃ k, C.length = k := ⟨_, rfl⟩
  have hplain := fun B hB T e h => three_plain (C := C) (m := m) (k := k) (by omega) (by omega) hkC hsz (by omega) (B := B) hB (T := T) (e := e) h
  have HPL := Lib.hid hplain; clear hplain
  have HENC := Lib.hid henc; clear henc
  have HL1 := Lib.hid hL1; clear hL1
  have HL2 := Lib.hid hL2; clear hL2
  have HLIT := Lib.hid hlit; clear hlit
  have HD := Lib.hid hD; clear hD
  have HSZ := Lib.hid hsz; clear hsz
  have HK := Lib.hid hk; clear hk
  obtain ⟨P, hP⟩ : ∃ P, bs (enP C) = P := ⟨_, rfl⟩
  obtain ⟨Q, hQ⟩ : ∃ Q, bs (enQ C) = Q := ⟨_, rfl⟩
  rw [hP, hQ] at HENC hone2 HLIT HD HL2 HPL
  have HP := Lib.hid hP; clear hP
  have HQ := Lib.hid hQ; clear hQ
  go_enter Try.func10, Try.ntmps10
  go_wp2_with fail
  refine (HCUT.out).mono ?_
  rintro e w1 ⟨l, rfl, hO, hb1⟩
  have hB1 := below_then hB0 hB0.size hb1
  have hx1 := hbx.below hb1 (by simp)
  obtain ⟨g, cap, rfl, hg1, hg2, hcap⟩ := hO.form (by have := HK.out; omega)
  have hR := Lib.hid hO.reads
  rw [HK.out] at hR ⊢
  clear hO hcap hbx
  rw [hkC] at h1 h8 hR hC12 ⊢
  have HKC := Lib.hid hkC; clear hkC
  have hb1' : ((k : Int) == 0) = false := by rw [beq_eq_false_iff_ne]; omega
  have hb2' : decide (8 < (k : Int)) = false := by simp; omega
  go_wp2_with fail
  refine (HENC.out _ _ hR.out).mono ?_
  rintro e w2 ⟨rfl, hb2⟩
  have hB2 := below_then hB1 hB1.size hb2
  have hx2 := Lib.hid (hx1.below hb2 hx1.lt)
  have hR2 := Lib.hid (hR.out.below hb2)
  have hN2 := Lib.hid (Own.nil_ w2 w.heap.size 9)
  clear hx1
  go_upto_region 6 with (first
    | (at_builtin; refine append_many w.heap.size rfl (.const (.slice none 0 0)) (.tmp 35) 22 9 (.string ⟨#[]⟩) 16 rfl Try.underlying22 info9 rfl (by decide) _ _ _ _ rfl rfl hR2.out hone1.out hN2.out hB2 hB2.size HL1.out ?_; intro v3 w3 hO3 hB3 hg3 _
       have hO3' := Lib.hid (hO3.alloc (.cells #[.string P, .string Q] 9))
       have hB3' := Lib.hid (hB3.alloc hB3.size (.cells #[.string P, .string Q] 9))
       have hx3 := Lib.hid ((hx2.out.grown hg3 (hx2.out.own_no hN2.out (by decide))).alloc (.cells #[.string P, .string Q] 9))
       have hS3' := Lib.hid hB3'.out.size
       clear hO3)
    | (at_builtin; refine append_many w.heap.size rfl (.tmp 36) (.tmp 39) 22 9 (.string ⟨#[]⟩) 16 rfl Try.underlying22 info9 rfl (by decide) _ _ _ _ rfl rfl (HLIT.out _) hone2.out hO3'.out hB3'.out hS3'.out HL2.out ?_; intro v4 w4 hO4 hB4 hg4 _
       rw [HD.out] at hO4
       have hx4 := Lib.hid (hx3.out.grown hg4 (hx3.out.own_no hO3'.out (by decide)))))
  clear hR hR2 hN2 HENC HL1 HL2 HLIT hone1 hone2 HCUT hb1' hb2' hb1 hb2 hB1 hB2 hO3' hB3' hS3' hB3 hx2 hx3
  have hDl : (sv (C ++ [P, Q])).length = k + 2 := by rw [sv_length, List.length_append, HKC.out]; rfl
  obtain ⟨gd, cd, rfl, hgd1, hgd2, hcd⟩ := hO4.form (by omega)
  obtain ⟨n, hn⟩ : ∃ n, n = k + 2 := ⟨_, rfl⟩
  rw [hDl, ← hn] at hO4 ⊢
  have hn10 : n ≤ 10 := by omega
  have hn3 : 3 ≤ n := by omega
  have HN := Lib.hid hn; clear hn
  clear hcd
  have hmk := make_bools n (by omega) w4
  have hOt := Own.made_bools w4 w.heap.size n hB4.size (by omega)
  have hOd := hO4.alloc (.cells (madeCells #[.bool false] n) 4)
  have hB5 := hB4.alloc hB4.size (.cells (madeCells #[.bool false] n) 4)
  have hx5 := hx4.out.alloc (.cells (madeCells #[.bool false] n) 4)
  have hGw : w.heap.size ≤ w4.heap.size := hB4.size
  have hGx : w.heap.size ≠ w4.heap.size := Nat.ne_of_lt hx4.out.lt
  have hGd : gd ≠ w4.heap.size := Nat.ne_of_lt hgd2
  rw [← upto_zero] at hOt
  obtain ⟨w5, hw5⟩ : ∃ w5, w4.alloc (.cells (madeCells #[.bool false] n) 4) = w5 := ⟨_, rfl⟩
  obtain ⟨G, hG⟩ : ∃ G, w4.heap.size = G := ⟨_, rfl⟩
  rw [hw5, hG] at hmk
  rw [hw5] at hOt hOd hB5 hx5
  rw [hG] at hOt hGw hGx hGd
  have HOT := Lib.hid hOt; clear hOt
  have HOD := Lib.hid hOd; clear hOd
  have HX := Lib.hid hx5; clear hx5
  have hBs := Lib.hid hB5; clear hB5
  clear hO4 hx4 hB4 hG
  go_wp2
  clear hmk hw5
  go_loopw [11, 46] (fun _ s46 wr => ∃ i : Nat, i ≤ n ∧ s46 = .int .i64 i ∧ Hid (Own wr w.heap.size 4 (.slice (some ⟨G, 0, none⟩) n n) (tv (upto n i))) ∧ Hid (Own wr w.heap.size 9 (.slice (some ⟨gd, 0, none⟩) n cd) (sv (C ++ [P, Q]))) ∧
      Hid (Blk wr w.heap.size 47 #[.int .i64 x0, .int .i64 x1, .int .i64 x2]) ∧ Hid (Below w.heap.size w wr)) (fun _ s46 _ => n - (intOf s46).toNat)
  case atStart => exact ⟨0, by omega, rfl, HOT, HOD, HX, hBs⟩
  case round =>
    clear HOT HOD HX hBs
    obtain ⟨i, hi, rfl, HOT, HOD, HX, HB⟩ := hrel
    by_cases hlt : i < n
    · have hlen : (tv (upto n i)).length = n := by rw [tv_length, upto_len _ _ hi]
      have hOt := HOT.out
      have hOt' : Own wr w.heap.size 4 (.slice (some ⟨G, 0, none⟩) (tv (upto n i)).length n) (tv (upto n i)) := by rw [hlen]; exact hOt
      have hcl := hOt'.cell i (by rw [hlen]; exact hlt)
      rw [tv_at _ i (by rw [upto_len _ _ hi]; exact hlt)] at hcl
      have hfz := hOt'.frozen i
      have hst := hOt'.set_ i (.bool true)
      rw [tv_set, upto_set _ _ hlt, hlen] at hst
      have HOT2 := Lib.hid hst
      have HOD2 := Lib.hid (HOD.out.far (p := ⟨G, i, none⟩) (by show some gd ≠ some G; simpa using hGd) (.bool true))
      have HX2 := Lib.hid (HX.out.far (p := ⟨G, i, none⟩) hGx (.bool true))
      have HB2 := Lib.hid (HB.out.setCell (p := ⟨G, i, none⟩) hGw (.bool true))
      have hin : (i : Int) < (n : Int) := by omega
      clear hst hOt hOt' hlen HOT HOD HX HB
      generalize (upto n i).getD i false = old at *
      go_wp2
      go_roundw
      case rel => exact ⟨i + 1, by omega, by go_num, HOT2, HOD2, HX2, HB2⟩
      case measure => simp [intOf]; omega
    · obtain rfl : n = i := by omega
      have hOt := HOT.out
      rw [upto_all] at hOt
      have HOT1 := Lib.hid hOt
      clear hOt HOT
      have hpf : (pk (List.replicate n true) n).length = n := pk_full n n (Nat.le_refl _)
      have HPF := Lib.hid hpf; clear hpf
      have hxc0 := HX.out.cell 0
      have hxc1 := HX.out.cell 1
      have hxc2 := HX.out.cell 2
      go_wp2
      clear hxc0 hxc1 hxc2
      go_loopw [12, 14, 15, 54] (fun s12 _ _ s54 wr => ∃ (j L : Nat) (B : List Bool), j ≤ 3 ∧ s54 = .int .i64 j ∧ s12 = .int .i64 L ∧ L ≤ j ∧ Hid (L + (pk B n).length = n) ∧ Hid (B.length = n) ∧ Hid (Own wr w.heap.size 4 (.slice (some ⟨G, 0, none⟩) n n) (tv B)) ∧
          Hid (Own wr w.heap.size 9 (.slice (some ⟨gd, 0, none⟩) n cd) (sv (C ++ [P, Q]))) ∧ Hid (Below w.heap.size w wr)) (fun _ _ _ s54 _ => 3 - (intOf s54).toNat)
      case atStart => exact ⟨0, 0, _, by omega, rfl, rfl, by omega, Lib.hid (by rw [HPF.out]; omega), Lib.hid (by simp), HOT1, HOD, HB⟩
      case round =>
        clear HOT1 HOD HX HB HPF
        obtain ⟨j, L, B, hj, rfl, rfl, hL, HLL, HBL, HOT, HOD, HB⟩ := hrel
        by_cases hlt : j < 3
        · obtain ⟨xj, hxj⟩ : ∃ xj, xj = [x0, x1, x2].getD j 0 := ⟨_, rfl⟩
          have hix : ∀ W : World, (Instr.index 47 (.agg #[.int .i64 x0, .int .i64 x1, .int .i64 x2]) (.int .i64 j)).run Try.prog W = .ok (.int .i64 xj) W := by
            have hc : j = 0 ∨ j = 1 ∨ j = 2 := by omega
            rcases hc with rfl | rfl | rfl
            · obtain rfl : xj = x0 := hxj
              exact fun W => by kernel_rfl
            · obtain rfl : xj = x1 := hxj
              exact fun W => by kernel_rfl
            · obtain rfl : xj = x2 := hxj
              exact fun W => by kernel_rfl
          clear hxj
          go_upto_region 16 with fail
          clear hix
          obtain ⟨r, hr⟩ : ∃ r, xj.toNat % n = r := ⟨_, rfl⟩
          have hrl : r < n := by rw [← hr]; exact Nat.mod_lt _ (by omega)
          go_cut [15] (fun s15 wx => s15 = .int .i64 r ∧ wr = wx)
          case first =>
            rcases tri xj with ⟨a, rfl, ha⟩ | rfl | ha
            · have hrm := tmod_nat a n
              rw [Int.toNat_natCast] at hr
              rw [hr] at hrm
              have ha2 : ¬ ((a : Int) ≤ 0) := by omega
              have hn0 : ¬ ((n : Int) = 0) := by omega
              clear hr
              go_wp2_with fail
              go_meet
              exact ⟨rfl, rfl⟩
            · obtain rfl : r = 0 := by rw [← hr]; simp
              clear hr
              have hn0 : ¬ ((n : Int) = 0) := by omega
              go_wp2_with fail
              go_meet
              exact ⟨rfl, rfl⟩
            · obtain rfl : r = 0 := by
                have : xj.toNat = 0 := by omega
                rw [← hr, this]; simp
              clear hr
              have hn0 : ¬ ((n : Int) = 0) := by omega
              go_wp2_with fail
              go_meet
              exact ⟨rfl, rfl⟩
          case rest =>
            obtain ⟨rfl, rfl⟩ := hcut
            have hlen : (tv B).length = n := by rw [tv_length]; exact HBL.out
            have hOt' : Own wr w.heap.size 4 (.slice (some ⟨G, 0, none⟩) (tv B).length n) (tv B) := by rw [hlen]; exact HOT.out
            have hcl := hOt'.cell r (by rw [hlen]; exact hrl)
            rw [tv_at _ r (by rw [HBL.out]; exact hrl)] at hcl
            have hfz := hOt'.frozen r
            have hst := hOt'.set_ r (.bool false)
            rw [tv_set, hlen] at hst
            have HOT2 := Lib.hid hst
            have HOD2 := Lib.hid (HOD.out.far (p := ⟨G, r, none⟩) (by show some gd ≠ some G; simpa using hGd) (.bool false))
            have HB2 := Lib.hid (HB.out.setCell (p := ⟨G, r, none⟩) hGw (.bool false))
            have HBL2 : Hid ((B.set r false).length = n) := Lib.hid (by rw [List.length_set]; exact HBL.out)
            have hin : (r : Int) < (n : Int) := by omega
            clear hst hOt' hlen HOT HOD HB hr
            by_cases hbr : B.getD r false = true
            · have hpk := pk_set_yes hbr n hrl
              have HLL2 : Hid (L + 1 + (pk (B.set r false) n).length = n) := Lib.hid (by have := HLL.out; omega)
              rw [hbr] at hcl
              clear hpk HLL hbr
              go_wp2
              go_roundw
              case rel => exact ⟨j + 1, L + 1, _, by omega, by go_num, by go_num, by omega, HLL2, HBL2, HOT2, HOD2, HB2⟩
              case measure => simp [intOf]; omega
            · have hbf : B.getD r false = false := by simpa using hbr
              have hpk := pk_set_no hbf n
              have HLL2 : Hid (L + (pk (B.set r false) n).length = n) := Lib.hid (by rw [hpk]; exact HLL.out)
              rw [hbf] at hcl
              clear hpk HLL hbr hbf
              go_wp2
              go_roundw
              case rel => exact ⟨j + 1, L, _, by omega, by go_num, rfl, by omega, HLL2, HBL2, HOT2, HOD2, HB2⟩
              case measure => simp [intOf]; omega
        · obtain rfl : j = 3 := by omega
          have hdec := decode_any wr _ _ (C ++ [P, Q]) B HOD.out.reads HOT.out.reads
          have hpl := HPL.out B (by rw [HBL.out, HN.out])
          have HDEC := Lib.hid hdec; clear hdec
          have HPB := Lib.hid hpl; clear hpl HPL
          go_wp2_with fail
          refine (HDEC.out).mono ?_
          rintro e w6 ⟨vo, T', e0, rfl, hRo, hDR, hb6⟩
          have hB6 := below_then HB.out HB.out.size hb6
          have hRD := HOD.out.reads.below hb6
          obtain ⟨p1, p2⟩ := HPB.out T' e0 hDR
          rw [← HN.out] at p1 p2
          have q1 : L < 3 → T' = C ++ [P, Q] ∧ e0 = 0 := fun h => p2 (by have := HLL.out; have := HN.out; omega)
          have q2 : L = 3 → T' = [] ∧ e0 = 24 := fun h => p1 (by have := HLL.out; have := HN.out; omega)
          have hDn : (C ++ [P, Q]).length = n := by rw [← sv_length, hDl, HN.out]
          clear HDEC HPB hDR HOT HOD HB HBL HN HLL p1 p2 hDl HD
          generalize C ++ [P, Q] = D at *
          by_cases hL3 : L < 3
          · obtain ⟨rfl, rfl⟩ := q1 hL3
            obtain ⟨Ao, co, rfl, _⟩ := hRo.texts
            rw [hDn] at hRo ⊢
            have hLi : (L : Int) < 3 := by omega
            have hL2 : ¬ (2 < (L : Int)) := by omega
            clear q1 q2
            have HRO := Lib.hid hRo; clear hRo
            have HRD := Lib.hid hRD; clear hRD
            go_wp2_with fail
            refine (wakes04 _).mono ?_
            rintro e w7 ⟨rfl, hb7⟩
            have hB7 := below_then hB6 hB6.size hb7
            have hR7 := HRO.out.below hb7
            have hD7 := HRD.out.below hb7
            have heq := equal_same w7 _ _ _ hR7 hD7
            have HEQ := Lib.hid heq; clear heq hR7 hD7
            go_wp2_with fail
            refine (HEQ.out).mono ?_
            rintro e w8 ⟨rfl, hb8⟩
            have hB8 := below_then hB7 hB7.size hb8
            go_wp2
            go_ret
            exact ⟨rfl, hB8⟩
          · obtain rfl : L = 3 := by omega
            obtain ⟨rfl, rfl⟩ := q2 rfl
            obtain ⟨Ao, co, rfl, _⟩ := hRo.texts
            clear q1 q2 hRo hRD
            go_wp2_with fail
            refine (wakes04 _).mono ?_
            rintro e w7 ⟨rfl, hb7⟩
            have hB7 := below_then hB6 hB6.size hb7
            go_wp2
            go_ret
            exact ⟨rfl, hB7⟩
end Go.Proofs.Ytikgipohjoiagaa
