/-
  The walk of the law RsAnyTwo.
-/
import Derived.Test.YtikgipohjoiagaaTh
namespace Go.Proofs.Ytikgipohjoiagaa
open Go.RowKit GfM

/-- which are there, when those at i and j are lost: the first x are told. -/
def mask (n i j x : Nat) : List Bool := (List.range n).map fun y => decide (y < x) && (decide (y ≠ i) && decide (y ≠ j))
theorem mask_len (n i j x : Nat) : (mask n i j x).length = n := by simp [mask]
theorem mask_at (n i j x y : Nat) (h : y < n) : (mask n i j x).getD y false = (decide (y < x) && (decide (y ≠ i) && decide (y ≠ j))) := by
  unfold mask
  rw [List.getD_eq_getElem?_getD, List.getElem?_map, List.getElem?_range h]; rfl
theorem mask_zero (n i j : Nat) : mask n i j 0 = List.replicate n false := by
  unfold mask
  apply List.ext_getElem (by simp)
  intro k h1 h2
  simp
theorem mask_set (n i j x : Nat) (h : x < n) (b : Bool) (hb : b = (decide (x ≠ i) && decide (x ≠ j))) : (mask n i j x).set x b = mask n i j (x + 1) := by
  apply List.ext_getElem (by simp [mask])
  intro k h1 h2
  rw [List.getElem_set]
  have hk : k < n := by simpa [mask] using h2
  by_cases e : x = k
  · subst e
    rw [if_pos rfl, hb]
    simp [mask]
  · rw [if_neg e]
    have : decide (k < x) = decide (k < x + 1) := by
      rw [Bool.eq_iff_iff, decide_eq_true_iff, decide_eq_true_iff]; omega
    simp only [mask, List.getElem_map, List.getElem_range, this]
theorem pk_ge (B : List Bool) (i j n : Nat) (h : ∀ s, s < n → s ≠ i → s ≠ j → B.getD s false = true) (m : Nat) : m ≤ n → m ≤ (pk B m).length + (if i < m then 1 else 0) + (if j < m then 1 else 0) := by
  induction m with
  | zero => intro _; omega
  | succ m ih =>
    intro hm
    have h0 := ih (by omega)
    by_cases hb : B.getD m false = true
    · rw [pk_yes hb, List.length_append, List.length_singleton]
      split at h0 <;> split at h0 <;> split <;> split <;> omega
    · rw [pk_no (by simpa using hb)]
      have hij : m = i ∨ m = j := by
        apply Classical.byContradiction
        intro hn
        exact hb (h m (by omega) (fun e => hn (.inl e)) (fun e => hn (.inr e)))
      split at h0 <;> split at h0 <;> split <;> split <;> omega
theorem mask_pk (n i j : Nat) : n ≤ (pk (mask n i j n) n).length + 2 := by
  have := pk_ge (mask n i j n) i j n (fun s hs h1 h2 => by rw [mask_at n i j n s hs]; simp [hs, h1, h2]) n (Nat.le_refl _)
  split at this <;> split at this <;> omega
theorem two_plain {C : List ByteArray} {m k : Nat} (hk1 : 1 ≤ k) (hk8 : k ≤ 8) (hC : C.length = k) (hs : Siz C m) (hm : m ≤ 60) (i j : Nat) (hi : i < k + 2) (hj : j < k + 2) (s : ByteArray) {T : List ByteArray} {e : Int}
    (h : DecR (((C ++ [bs (enP C), bs (enQ C)]).set i s).set j s) (mask (k + 2) i j (k + 2)) T e) : T = C ++ [bs (enP C), bs (enQ C)] ∧ e = 0 := by
  have hl : (C ++ [bs (enP C), bs (enQ C)]).length = k + 2 := by rw [List.length_append, hC]; rfl
  refine dec_fit h hk1 hk8 (by rw [List.length_set, List.length_set, hl]) (mask_len _ _ _ _) hC (hs.enE (by omega) (by omega) (by omega)) (by have := mask_pk (k + 2) i j; omega) fun x hx hb => ?_
  rw [mask_at _ _ _ _ x hx] at hb
  simp only [Bool.and_eq_true, decide_eq_true_eq] at hb
  rw [tl_set _ _ _ _ (by rw [List.length_set, hl]; exact hj), if_neg hb.2.2, tl_set _ _ _ _ (by rw [hl]; exact hi), if_neg hb.2.1]

set_option maxRecDepth 100000 in
set_option maxHeartbeats 2000000 in
theorem rsAnyTwo_walk (w : World) (v : Value) (T : List ByteArray) (hv : Reads w v (sv T)) (ns : ByteArray) :
    Calls Try.prog 9 #[v, .string ns] w fun e w' => e = .returned (.bool true) ∧ Below w.heap.size w w' := by
  have hC12 := cuts_small T 60 true
  have hsz := cuts_siz T 60 (min T.length 12)
  have hm60 := cut1_size T 60 0
  have hcut := cut_any w v T hv 60 (by decide) 60 rfl true
  generalize cuts T 60 true (min T.length 12) = C at *
  generalize (cut1 T 60 0).size = m at *
  have HCUT := Lib.hid hcut; clear hcut hv
  have hB0 : Below w.heap.size w w := Below.refl _ _
  by_cases h1 : C.length = 0
  · obtain rfl : C = [] := List.eq_nil_of_length_eq_zero h1
    clear h1 hsz hC12
    go_enter Try.func9, Try.ntmps9
    go_wp2_with fail
    refine (HCUT.out).mono ?_
    rintro e w1 ⟨l, rfl, hO, hb1⟩
    have hB1 := below_then hB0 hB0.size hb1
    obtain ⟨A, c, rfl⟩ := hO.shape
    simp only [sv, List.map_nil, List.length_nil]
    go_wp2_with fail
    refine (wakes04 _).mono ?_
    rintro e w2 ⟨rfl, hb2⟩
    have hB2 := below_then hB1 hB1.size hb2
    go_wp2
    go_ret
    exact ⟨rfl, hB2⟩
  by_cases h8 : 8 < C.length
  · have hk : (sv C).length = C.length := sv_length C
    clear hsz
    go_enter Try.func9, Try.ntmps9
    go_wp2_with fail
    refine (HCUT.out).mono ?_
    rintro e w1 ⟨l, rfl, hO, hb1⟩
    have hB1 := below_then hB0 hB0.size hb1
    obtain ⟨A, c, rfl⟩ := hO.shape
    rw [hk]
    clear hO hk
    generalize C.length = k at *
    go_wp2_with fail
    refine (wakes04 _).mono ?_
    rintro e w2 ⟨rfl, hb2⟩
    have hB2 := below_then hB1 hB1.size hb2
    go_wp2
    go_ret
    exact ⟨rfl, hB2⟩
  have henc := fun W u h => encode_any W u C h
  rw [hsz.enE (by omega) (by omega) (by omega)] at henc
  have hL1 : (([] : List Value).length + (sv C).length) * 16 ≤ 140737488355328 := by rw [sv_length]; simp; omega
  have hL2 : (([] ++ sv C : List Value).length + (sv [bs (enP C), bs (enQ C)]).length) * 16 ≤ 140737488355328 := by rw [List.nil_append, sv_length, sv_length]; simp; omega
  have hone1 := Lib.hid (sv_one C)
  have hone2 := Lib.hid (sv_one [bs (enP C), bs (enQ C)])
  have hlit : ∀ W : World, Reads (W.alloc (.cells #[.string (bs (enP C)), .string (bs (enQ C))] 9)) (.slice (some ⟨W.heap.size, 0, none⟩) 2 2) (sv [bs (enP C), bs (enQ C)]) := fun W => lit_reads W [bs (enP C), bs (enQ C)] 2 rfl (by decide)
  have hk : (sv C).length = C.length := sv_length C
  have hD : [] ++ sv C ++ sv [bs (enP C), bs (enQ C)] = sv (C ++ [bs (enP C), bs (enQ C)]) := by rw [List.nil_append, sv_append]
  obtain ⟨k, hkC⟩ : ∃ k, C.length = k := ⟨_, rfl⟩
  have hplain := fun i j hi hj s T e h => two_plain (C := C) (m := m) (k := k) (by omega) (by omega) hkC hsz (by omega) i j hi hj s (T := T) (e := e) h
  have hck : ckB (C ++ [bs (enP C), bs (enQ C)]) = true := by rw [ck_self (hsz.enE (by omega) (by omega) (by omega))]; simp
  have HCK := Lib.hid hck; clear hck
  have HPL := Lib.hid hplain; clear hplain
  have HENC := Lib.hid henc; clear henc
  have HL1 := Lib.hid hL1; clear hL1
  have HL2 := Lib.hid hL2; clear hL2
  have HLIT := Lib.hid hlit; clear hlit
  have HD := Lib.hid hD; clear hD
  have HSZ := Lib.hid hsz; clear hsz
  have HK := Lib.hid hk; clear hk
  obtain ⟨P, hP⟩ : ∃ P, bs (enP C) = P := ⟨_, rfl⟩
  obtain ⟨Q, hQ⟩ : ∃ Q, bs (enQ C) = Q := ⟨_, rfl⟩
  rw [hP, hQ] at HENC hone2 HLIT HD HL2 HPL HCK
  have HP := Lib.hid hP; clear hP
  have HQ := Lib.hid hQ; clear hQ
  go_enter Try.func9, Try.ntmps9
  go_wp2_with fail
  refine (HCUT.out).mono ?_
  rintro e w1 ⟨l, rfl, hO, hb1⟩
  have hB1 := below_then hB0 hB0.size hb1
  obtain ⟨g, cap, rfl, hg1, hg2, hcap⟩ := hO.form (by have := HK.out; omega)
  have hR := Lib.hid hO.reads
  rw [HK.out] at hR ⊢
  clear hO hcap
  rw [hkC] at h1 h8 hR hC12 ⊢
  have HKC := Lib.hid hkC; clear hkC
  have hb1' : ((k : Int) == 0) = false := by rw [beq_eq_false_iff_ne]; omega
  have hb2' : decide (8 < (k : Int)) = false := by simp; omega
  go_wp2_with fail
  refine (HENC.out _ _ hR.out).mono ?_
  rintro e w2 ⟨rfl, hb2⟩
  have hB2 := below_then hB1 hB1.size hb2
  have hR2 := Lib.hid (hR.out.below hb2)
  have hN2 := Lib.hid (Own.nil_ w2 w.heap.size 9)
  go_upto_region 6 with (first
    | (at_builtin; refine append_many w.heap.size rfl (.const (.slice none 0 0)) (.tmp 34) 22 9 (.string ⟨#[]⟩) 16 rfl Try.underlying22 info9 rfl (by decide) _ _ _ _ rfl rfl hR2.out hone1.out hN2.out hB2 hB2.size HL1.out ?_; intro v3 w3 hO3 hB3 hg3 _
       have hO3' := Lib.hid (hO3.alloc (.cells #[.string P, .string Q] 9))
       have hB3' := Lib.hid (hB3.alloc hB3.size (.cells #[.string P, .string Q] 9))
       have hS3' := Lib.hid hB3'.out.size
       clear hO3)
    | (at_builtin; refine append_many w.heap.size rfl (.tmp 35) (.tmp 38) 22 9 (.string ⟨#[]⟩) 16 rfl Try.underlying22 info9 rfl (by decide) _ _ _ _ rfl rfl (HLIT.out _) hone2.out hO3'.out hB3'.out hS3'.out HL2.out ?_; intro v4 w4 hO4 hB4 hg4 _
       rw [HD.out] at hO4))
  clear hR hR2 hN2 HENC HL1 HL2 HLIT hone1 hone2 HCUT hb1' hb2' hb1 hb2 hB1 hB2 hO3' hB3' hS3' hB3
  have hDl : (sv (C ++ [P, Q])).length = k + 2 := by rw [sv_length, List.length_append, HKC.out]; rfl
  obtain ⟨gd, cd, rfl, hgd1, hgd2, hcd⟩ := hO4.form (by omega)
  obtain ⟨n, hn⟩ : ∃ n, n = k + 2 := ⟨_, rfl⟩
  rw [hDl, ← hn] at hO4 ⊢
  have hn10 : n ≤ 10 := by omega
  have hn3 : 3 ≤ n := by omega
  have HN := Lib.hid hn; clear hn
  clear hcd
  have hDn : (C ++ [P, Q]).length = n := by rw [← sv_length, hDl, HN.out]
  have hone := Lib.hid (sv_one (C ++ [P, Q]))
  rw [← HN.out] at HPL
  have hRd := Lib.hid hO4.reads
  clear HD hDl HSZ HKC HP HQ HN HK
  generalize C ++ [P, Q] = D at *
  have HDN := Lib.hid hDn; clear hDn
  have hLD : (([] : List Value).length + (sv D).length) * 16 ≤ 140737488355328 := by rw [sv_length, HDN.out]; simp; omega
  have HLD := Lib.hid hLD; clear hLD
  have HOD := Lib.hid hO4; clear hO4
  go_wp2_with fail
  refine (wakes04 _).mono ?_
  rintro e w5 ⟨rfl, hb5⟩
  have hB5 := below_then hB4 hB4.size hb5
  have HO5 := Lib.hid (HOD.out.below hb5)
  have hck := check_any w5 _ _ (hRd.out.below hb5)
  rw [HCK.out] at hck
  have HC5 := Lib.hid hck; clear hck HCK HOD hRd
  go_wp2_with fail
  refine (HC5.out).mono ?_
  rintro e w6 ⟨rfl, hb6⟩
  have hB6 := Lib.hid (below_then hB5 hB5.size hb6)
  have HO6 := Lib.hid (HO5.out.below hb6)
  clear HO5 HC5 hB5 hb5 hb6 hB4
  go_wp2
  go_loopw [10, 11, 12, 13, 14, 15, 16, 53, 58] (fun _ _ _ _ _ _ _ s53 _ wr => ∃ i : Nat, i ≤ n ∧ s53 = .int .i64 i ∧ Hid (Own wr w.heap.size 9 (.slice (some ⟨gd, 0, none⟩) n cd) (sv D)) ∧ Hid (Below w.heap.size w wr)) (fun _ _ _ _ _ _ _ s53 _ _ => n - (intOf s53).toNat)
  case atStart => exact ⟨0, by omega, rfl, HO6, hB6⟩
  case round =>
    clear HO6 hB6
    obtain ⟨i, hi, rfl, HO, HB⟩ := hrel
    by_cases hlt : i < n
    · go_wp2
      go_loopw [11, 12, 13, 14, 15, 16, 58] (fun _ _ _ _ _ _ s58 wr => ∃ j : Nat, j ≤ i + 1 ∧ s58 = .int .i64 j ∧ Hid (Own wr w.heap.size 9 (.slice (some ⟨gd, 0, none⟩) n cd) (sv D)) ∧ Hid (Below w.heap.size w wr)) (fun _ _ _ _ _ _ s58 _ => i + 1 - (intOf s58).toNat)
      case atStart => exact ⟨0, by omega, rfl, HO, HB⟩
      case round =>
        clear HO HB
        obtain ⟨j, hj, rfl, HO, HB⟩ := hrel
        obtain ⟨wo, rfl⟩ : ∃ wo : World, wo = wr := ⟨_, rfl⟩
        by_cases hjl : j < i + 1
        · have hji : j ≤ i := by omega
          have HRO := Lib.hid HO.out.reads
          have HN0 := Lib.hid (Own.nil_ wo wo.heap.size 9)
          have HB0 := Lib.hid (Below.refl wo.heap.size wo)
          go_upto_region 15 with (at_builtin; refine append_many wo.heap.size rfl (.const (.slice none 0 0)) (.tmp 61) 22 9 (.string ⟨#[]⟩) 16 rfl Try.underlying22 info9 rfl (by decide) _ _ _ _ rfl rfl HRO.out hone.out HN0.out HB0.out (Nat.le_refl _) HLD.out ?_; intro v1 w1 hO1 hB1 hg1 _)
          rw [List.nil_append] at hO1
          obtain ⟨gl, cl, rfl, hgl1, hgl2, _⟩ := hO1.form (by rw [sv_length, HDN.out]; omega)
          rw [sv_length, HDN.out] at hO1 ⊢
          have hmk := make_bools n (by omega) w1
          have hOt := Own.made_bools w1 wo.heap.size n hB1.size (by omega)
          have hO2 := hO1.alloc (.cells (madeCells #[.bool false] n) 4)
          have hB2 := hB1.alloc hB1.size (.cells (madeCells #[.bool false] n) 4)
          have hGw : wo.heap.size ≤ w1.heap.size := hB1.size
          have hGd : gl ≠ w1.heap.size := Nat.ne_of_lt hgl2
          rw [← mask_zero n i j] at hOt
          obtain ⟨w2, hw2⟩ : ∃ w2, w1.alloc (.cells (madeCells #[.bool false] n) 4) = w2 := ⟨_, rfl⟩
          obtain ⟨G, hG⟩ : ∃ G, w1.heap.size = G := ⟨_, rfl⟩
          rw [hw2, hG] at hmk
          rw [hw2] at hOt hO2 hB2
          rw [hG] at hOt hGw hGd
          have HOT := Lib.hid hOt; clear hOt
          have HO2 := Lib.hid hO2; clear hO2
          have HB2 := Lib.hid hB2; clear hB2
          clear hO1 hB1 hG HRO HN0 HB0 hg1 hgl2
          go_wp2
          clear hmk hw2
          go_loopw [14, 68] (fun _ s68 wr => ∃ x : Nat, x ≤ n ∧ s68 = .int .i64 x ∧ Hid (Own wr wo.heap.size 4 (.slice (some ⟨G, 0, none⟩) n n) (tv (mask n i j x))) ∧ Hid (Own wr wo.heap.size 9 (.slice (some ⟨gl, 0, none⟩) n cl) (sv D)) ∧ Hid (Below wo.heap.size wo wr)) (fun _ s68 _ => n - (intOf s68).toNat)
          case atStart => exact ⟨0, by omega, rfl, HOT, HO2, HB2⟩
          case round =>
            clear HOT HO2 HB2
            obtain ⟨x, hx, rfl, HOT, HO2, HB2⟩ := hrel
            by_cases hxl : x < n
            · have hlen : (tv (mask n i j x)).length = n := by rw [tv_length, mask_len]
              have hOt' : Own wr wo.heap.size 4 (.slice (some ⟨G, 0, none⟩) (tv (mask n i j x)).length n) (tv (mask n i j x)) := by rw [hlen]; exact HOT.out
              have hcl := hOt'.cell x (by rw [hlen]; exact hxl)
              rw [tv_at _ x (by rw [mask_len]; exact hxl)] at hcl
              have hfz := hOt'.frozen x
              have hin : (x : Int) < (n : Int) := by omega
              generalize (mask n i j x).getD x false = old at *
              by_cases e1 : x = i
              · have hst := hOt'.set_ x (.bool false)
                rw [tv_set, hlen, mask_set n i j x hxl false (by simp [e1])] at hst
                have HOT3 := Lib.hid hst
                have HO3 := Lib.hid (HO2.out.far (p := ⟨G, x, none⟩) (by show some gl ≠ some G; simpa using hGd) (.bool false))
                have HB3 := Lib.hid (HB2.out.setCell (p := ⟨G, x, none⟩) hGw (.bool false))
                have hn1 : ((x : Int) != (i : Int)) = false := bne_nat_same e1
                clear hst hOt' hlen HOT HO2 HB2 e1
                go_wp2
                go_roundw
                case rel => exact ⟨x + 1, by omega, by go_num, HOT3, HO3, HB3⟩
                case measure => simp [intOf]; omega
              · have hn1 : ((x : Int) != (i : Int)) = true := bne_nat e1
                by_cases e2 : x = j
                · have hst := hOt'.set_ x (.bool false)
                  rw [tv_set, hlen, mask_set n i j x hxl false (by simp [e2])] at hst
                  have HOT3 := Lib.hid hst
                  have HO3 := Lib.hid (HO2.out.far (p := ⟨G, x, none⟩) (by show some gl ≠ some G; simpa using hGd) (.bool false))
                  have HB3 := Lib.hid (HB2.out.setCell (p := ⟨G, x, none⟩) hGw (.bool false))
                  have hn2 : ((x : Int) != (j : Int)) = false := bne_nat_same e2
                  clear hst hOt' hlen HOT HO2 HB2 e1 e2
                  go_wp2
                  go_roundw
                  case rel => exact ⟨x + 1, by omega, by go_num, HOT3, HO3, HB3⟩
                  case measure => simp [intOf]; omega
                · have hst := hOt'.set_ x (.bool true)
                  rw [tv_set, hlen, mask_set n i j x hxl true (by simp [e1, e2])] at hst
                  have HOT3 := Lib.hid hst
                  have HO3 := Lib.hid (HO2.out.far (p := ⟨G, x, none⟩) (by show some gl ≠ some G; simpa using hGd) (.bool true))
                  have HB3 := Lib.hid (HB2.out.setCell (p := ⟨G, x, none⟩) hGw (.bool true))
                  have hn2 : ((x : Int) != (j : Int)) = true := bne_nat e2
                  clear hst hOt' hlen HOT HO2 HB2 e1 e2
                  go_wp2
                  go_roundw
                  case rel => exact ⟨x + 1, by omega, by go_num, HOT3, HO3, HB3⟩
                  case measure => simp [intOf]; omega
            · obtain rfl : n = x := by omega
              have hlD : (sv D).length = n := by rw [sv_length, HDN.out]
              have hO' : Own wr wo.heap.size 9 (.slice (some ⟨gl, 0, none⟩) (sv D).length cl) (sv D) := by rw [hlD]; exact HO2.out
              have c1 := hO'.cell i (by rw [hlD]; exact hlt)
              rw [sv_at D i (by rw [HDN.out]; exact hlt)] at c1
              have f1 := hO'.frozen i
              have hO3 := hO'.set_ i (.string ns)
              rw [sv_set] at hO3
              have hlD2 : (sv (D.set i ns)).length = n := by rw [sv_length, List.length_set, HDN.out]
              have hO3' : Own (wr.setCell ⟨gl, i, none⟩ (.string ns)) wo.heap.size 9 (.slice (some ⟨gl, 0, none⟩) (sv (D.set i ns)).length cl) (sv (D.set i ns)) := by rw [hlD2, ← hlD]; exact hO3
              have c2 := hO3'.cell j (by rw [hlD2]; omega)
              rw [sv_at _ j (by rw [List.length_set, HDN.out]; omega)] at c2
              have f2 := hO3'.frozen j
              have hO4 := hO3'.set_ j (.string ns)
              rw [sv_set] at hO4
              have hT4 := (HOT.out.far (p := ⟨gl, i, none⟩) (by show some G ≠ some gl; simpa using Ne.symm hGd) (.string ns)).far (p := ⟨gl, j, none⟩) (by show some G ≠ some gl; simpa using Ne.symm hGd) (.string ns)
              have hB4 := (HB2.out.setCell (p := ⟨gl, i, none⟩) hgl1 (.string ns)).setCell (p := ⟨gl, j, none⟩) hgl1 (.string ns)
              have hR4 := hO4.reads
              rw [hlD2] at hR4
              have hii : (i : Int) < (n : Int) := by omega
              have hjj : (j : Int) < (n : Int) := by omega
              have hdec := decode_any _ _ _ _ _ hR4 hT4.reads
              have HDEC := Lib.hid hdec; clear hdec
              have HB4 := Lib.hid hB4; clear hB4
              have HPL2 := Lib.hid (HPL.out i j hlt (by omega) ns)
              clear hO' hO3 hO3' hO4 hT4 hR4 hlD hlD2 HOT HO2 HB2
              generalize tl D i = o1 at *
              generalize tl (D.set i ns) j = o2 at *
              go_wp2_with fail
              refine (HDEC.out).mono ?_
              rintro e w6 ⟨vo, T', e0, rfl, hRo, hDR, hb6⟩
              obtain ⟨rfl, rfl⟩ := HPL2.out T' e0 hDR
              have hB6 := below_then HB4.out HB4.out.size hb6
              have hRD := HO.out.reads.below hB6
              obtain ⟨Ao, co, rfl, _⟩ := hRo.texts
              rw [HDN.out] at hRo ⊢
              have heq := equal_same w6 _ _ _ hRo hRD
              have HEQ := Lib.hid heq; clear heq hRo hRD hDR HDEC HPL2
              go_wp2_with fail
              refine (HEQ.out).mono ?_
              rintro e w7 ⟨rfl, hb7⟩
              have hB7 := below_then hB6 hB6.size hb7
              have HO9 := Lib.hid (HO.out.below hB7)
              have HB9 := Lib.hid (below_then HB.out HB.out.size hB7)
              clear HEQ HO HB
              go_wp2
              go_roundw
              case rel => exact ⟨j + 1, by omega, by go_num, HO9, HB9⟩
              case measure => simp [intOf]; omega
        · obtain rfl : i + 1 = j := by omega
          go_wp2
          go_roundw
          case rel => exact ⟨i + 1, by omega, by go_num, HO, HB⟩
          case measure => simp [intOf]; omega
    · obtain rfl : n = i := by omega
      go_wp2
      go_ret
      exact ⟨rfl, HB.out⟩
end Go.Proofs.Ytikgipohjoiagaa
