/-
  The walk of the law RsOne.
-/
import Derived.Test.YtikgipohjoiagaaSm
import Derived.Test.YtikgipohjoiagaaSd
namespace Go.Proofs.Ytikgipohjoiagaa
open Go.RowKit GfM

theorem cuts_siz (T : List ByteArray) (n k : Nat) : Siz (cuts T n true k) (cut1 T n 0).size := by
  intro j hj
  rw [cuts_length] at hj
  exact cuts_even_size T n k j hj
/-- where one byte is another, P is: or nothing is. -/
theorem tl_at_end (C : List ByteArray) (P Q : ByteArray) : tl (C ++ [P, Q]) C.length = P ∧ tl (C ++ [P, Q]) (C.length + 1) = Q := by
  constructor
  · rw [tl_append, if_neg (by omega), Nat.sub_self]; rfl
  · rw [tl_append, if_neg (by omega), show C.length + 1 - C.length = 1 by omega]; rfl
theorem take_end (C : List ByteArray) (P Q : ByteArray) : (C ++ [P, Q]).take C.length = C := by simp
theorem set_lt (C : List ByteArray) (P Q s : ByteArray) (r : Nat) (h : r < C.length) : (C ++ [P, Q]).set r s = C.set r s ++ [P, Q] := List.set_append_left _ _ h
theorem set_own (l : List UInt8) (z : Nat) : l.set z (l.getD z 0) = l := by
  apply List.ext_getElem?
  intro k
  rw [List.getElem?_set]
  by_cases e : z = k
  · subst e
    rw [if_pos rfl]
    by_cases h : z < l.length
    · rw [if_pos h, List.getD_eq_getElem?_getD, List.getElem?_eq_getElem h]; rfl
    · rw [if_neg h, List.getElem?_eq_none (by omega)]
  · rw [if_neg e]
theorem set_getD (l : List UInt8) (z : Nat) (v : UInt8) (h : z < l.length) : (l.set z v).getD z 0 = v := by
  rw [List.getD_eq_getElem?_getD, List.getElem?_set_self h]; rfl
theorem set_tl (C : List ByteArray) (r : Nat) (h : r < C.length) : C.set r (tl C r) = C := by
  apply List.ext_getElem?
  intro k
  rw [List.getElem?_set]
  by_cases e : r = k
  · subst e
    rw [if_pos rfl, if_pos h, tl_at C _ h]
  · rw [if_neg e]
/-- a stripe fits. -/
theorem ck_self {C : List ByteArray} (he : enE C = 0) (P Q : ByteArray) : ckB (C ++ [P, Q]) = decide (bs (enP C) = P ∧ bs (enQ C) = Q) := by
  obtain ⟨h1, _, _, _⟩ := enE_ok he
  have hl : (C ++ [P, Q]).length - 2 = C.length := by simp
  obtain ⟨e1, e2⟩ := tl_at_end C P Q
  unfold ckB
  rw [hl, take_end, e1, e2, he]
  congr 1
  simp
  omega
/-- one byte changed by 'by': they fit just where 'by' is 0. -/
theorem ck_one {C : List ByteArray} {m : Nat} (h : Siz C m) (h1 : 1 ≤ C.length) (h2 : C.length ≤ 8) (h3 : m ≤ 65536) (r : Nat) (hr : r < C.length + 2) (z : Nat) (hz : z < m) (b : UInt8) (l : List UInt8)
    (hl : l = (tl (C ++ [bs (enP C), bs (enQ C)]) r).data.toList) (s : ByteArray) (hs : s = bs (l.set z (l.getD z 0 ^^^ b))) : ckB ((C ++ [bs (enP C), bs (enQ C)]).set r s) = (b == 0) := by
  have heC := h.enE h1 h2 h3
  have hpl : (enP C).length = m := by rw [h.enP h1 h2 h3]; exact pp_length _ _ _ h
  have hql : (enQ C).length = m := by rw [h.enQ h1 h2 h3]; exact qq_length _ _ _ h
  have key : ∀ x : UInt8, (x ^^^ b = x) ↔ b = 0 := by
    intro x
    constructor
    · intro e
      have : x ^^^ (x ^^^ b) = x ^^^ x := by rw [e]
      rwa [← UInt8.xor_assoc, UInt8.xor_self, UInt8.zero_xor] at this
    · rintro rfl; exact UInt8.xor_zero
  have hset : ∀ w : List UInt8, z < w.length → (bs w = bs (w.set z (w.getD z 0 ^^^ b)) ↔ b = 0) := by
    intro w hw
    rw [bs_inj]
    constructor
    · intro e
      have h0 := congrArg (fun v : List UInt8 => v.getD z 0) e
      simp only [List.getD_eq_getElem?_getD, List.getElem?_set_self hw, Option.getD_some] at h0
      exact (key _).1 h0.symm
    · rintro rfl
      rw [UInt8.xor_zero, set_own]
  have hb : ∀ p : Prop, [Decidable p] → (p ↔ b = 0) → decide p = (b == 0) := by
    intro p _ hp
    rw [Bool.eq_iff_iff, decide_eq_true_iff, beq_iff_eq, hp]
  by_cases hrc : r < C.length
  · have htr : tl (C ++ [bs (enP C), bs (enQ C)]) r = tl C r := by rw [tl_append, if_pos hrc]
    rw [htr] at hl
    have hls : l.length = m := by rw [hl, size_toList]; exact h r hrc
    have hss : s.size = m := by rw [hs, bs_size, List.length_set, hls]
    have h' := h.set_ r s hss
    have hC' : (C.set r s).length = C.length := List.length_set
    have heC' := h'.enE (by rw [hC']; exact h1) (by rw [hC']; exact h2) h3
    rw [set_lt _ _ _ _ _ hrc, ck_self heC']
    apply hb
    rw [bs_inj, bs_inj, h'.enP (by rw [hC']; exact h1) (by rw [hC']; exact h2) h3, h'.enQ (by rw [hC']; exact h1) (by rw [hC']; exact h2) h3, hC', h.enP h1 h2 h3, h.enQ h1 h2 h3]
    constructor
    · rintro ⟨e, _⟩
      have h0 := congrArg (fun v : List UInt8 => v.getD z 0) e
      rw [pp_at _ _ _ _ (fun j hj => h' j (by rw [hC']; exact hj)) hz, pp_at _ _ _ _ h hz, pb_set C r z s hrc, if_pos hrc] at h0
      have hx : (tb C r).getD z 0 ^^^ s.data.toList.getD z 0 = b := by
        rw [hs, bs_toList]
        have : (tb C r) = l := hl.symm
        rw [this, set_getD _ _ _ (by omega), ← UInt8.xor_assoc, UInt8.xor_self, UInt8.zero_xor]
      rw [hx] at h0
      exact (key _).1 h0
    · rintro rfl
      have hss' : s = tl C r := by
        rw [hs, UInt8.xor_zero]
        rw [set_own, hl, bs_data]
      rw [hss', set_tl C r hrc]
      exact ⟨rfl, rfl⟩
  · have hr2 : r = C.length ∨ r = C.length + 1 := by omega
    obtain ⟨t1, t2⟩ := tl_at_end C (bs (enP C)) (bs (enQ C))
    rcases hr2 with rfl | rfl
    · rw [t1, bs_toList] at hl
      have e : (C ++ [bs (enP C), bs (enQ C)]).set C.length s = C ++ [s, bs (enQ C)] := by
        rw [List.set_append_right _ _ (by omega), Nat.sub_self]; rfl
      rw [e, ck_self heC]
      apply hb
      rw [hs, hl]
      constructor
      · rintro ⟨e, _⟩; exact (hset _ (by omega)).1 e
      · intro e; exact ⟨(hset _ (by omega)).2 e, rfl⟩
    · rw [t2, bs_toList] at hl
      have e : (C ++ [bs (enP C), bs (enQ C)]).set (C.length + 1) s = C ++ [bs (enP C), s] := by
        rw [List.set_append_right _ _ (by omega), show C.length + 1 - C.length = 1 by omega]; rfl
      rw [e, ck_self heC]
      apply hb
      rw [hs, hl]
      constructor
      · rintro ⟨_, e⟩; exact (hset _ (by omega)).1 e
      · intro e; exact ⟨rfl, (hset _ (by omega)).2 e⟩

/-! ### the walk -/
theorem tmod_nat (a n : Nat) : ((a : Int)).tmod (n : Int) = ((a % n : Nat) : Int) := by
  rw [Int.tmod_eq_emod_of_nonneg (by omega)]; omega
theorem u8_zero (b : UInt8) : (((b.toNat : Nat) : Int) == 0) = (b == 0) := by
  rw [Bool.eq_iff_iff, beq_iff_eq, beq_iff_eq]
  constructor
  · intro h
    apply UInt8.toNat_inj.1
    have : b.toNat = 0 := by omega
    rw [this]; rfl
  · rintro rfl; rfl
theorem tri (x : Int) : (∃ a : Nat, x = (a : Int) ∧ 0 < (a : Int)) ∨ x = 0 ∨ x < 0 := by
  rcases Int.lt_trichotomy x 0 with h | h | h
  · exact .inr (.inr h)
  · exact .inr (.inl h)
  · exact .inl ⟨x.toNat, by omega, by omega⟩
theorem two_of {X : List Int} (h : X.length = 2) : ∃ a b, X = [a, b] := by
  match X, h with
  | [a, b], _ => exact ⟨a, b, rfl⟩
set_option maxRecDepth 100000 in
set_option maxHeartbeats 2000000 in
theorem rsOne_walk (w : World) (v : Value) (T : List ByteArray) (hv : Reads w v (sv T)) (X : List Int) (hX : X.length = 2) (b : UInt8) :
    Calls Try.prog 5 #[v, .agg (X.map (Value.int .i64)).toArray, .int .u8 (b.toNat : Int)] w fun e w' => e = .returned (.bool true) ∧ Below w.heap.size w w' := by
  obtain ⟨at0, pl0, rfl⟩ := two_of hX
  have hC12 := cuts_small T 60 true
  have hsz := cuts_siz T 60 (min T.length 12)
  have hm60 := cut1_size T 60 0
  have hcut := cut_any (w.alloc (.cells #[.int .i64 at0, .int .i64 pl0] 32)).drew v T (hv.alloc _).drew 60 (by decide) 60 rfl true
  generalize cuts T 60 true (min T.length 12) = C at *
  generalize (cut1 T 60 0).size = m at *
  have eX : (([at0, pl0] : List Int).map (Value.int .i64)).toArray = #[.int .i64 at0, .int .i64 pl0] := rfl
  rw [eX]
  have hbx := Blk.new w 32 #[.int .i64 at0, .int .i64 pl0]
  have c0 := hbx.cell 0
  have c1 := hbx.cell 1
  have HCUT := Lib.hid hcut; clear hcut hv eX hX hbx
  have hB0 : Below w.heap.size w (w.alloc (.cells #[.int .i64 at0, .int .i64 pl0] 32)).drew := ((Below.refl _ _).alloc (Nat.le_refl _) _).drew
  by_cases h1 : C.length = 0
  · obtain rfl : C = [] := List.eq_nil_of_length_eq_zero h1
    clear h1 hsz hC12
    go_enter Try.func5, Try.ntmps5
    go_wp2
    go_region
    go_wp2_with fail
    refine (HCUT.out).mono ?_
    rintro e w1 ⟨l, rfl, hO, hb1⟩
    have hB1 := below_then hB0 hB0.size hb1
    obtain ⟨A, c, rfl⟩ := hO.shape
    simp only [sv, List.map_nil, List.length_nil]
    go_wp2_with fail
    refine (wakes04 _).mono ?_
    rintro e w2 ⟨rfl, hb2⟩
    have hB2 := below_then hB1 hB1.size hb2
    go_wp2
    go_ret
    exact ⟨rfl, hB2⟩
  by_cases h8 : 8 < C.length
  · have hk : (sv C).length = C.length := sv_length C
    clear hsz
    go_enter Try.func5, Try.ntmps5
    go_wp2
    go_region
    go_wp2_with fail
    refine (HCUT.out).mono ?_
    rintro e w1 ⟨l, rfl, hO, hb1⟩
    have hB1 := below_then hB0 hB0.size hb1
    obtain ⟨A, c, rfl⟩ := hO.shape
    rw [hk]
    clear hO hk
    generalize C.length = k at *
    go_wp2_with fail
    refine (wakes04 _).mono ?_
    rintro e w2 ⟨rfl, hb2⟩
    have hB2 := below_then hB1 hB1.size hb2
    go_wp2
    go_ret
    exact ⟨rfl, hB2⟩
  have hs0 : (tl C 0).size = m := hsz 0 (by omega)
  by_cases hm : m = 0
  · have hk : (sv C).length = C.length := sv_length C
    go_enter Try.func5, Try.ntmps5
    go_wp2
    go_region
    go_wp2_with fail
    refine (HCUT.out).mono ?_
    rintro e w1 ⟨l, rfl, hO, hb1⟩
    have hB1 := below_then hB0 hB0.size hb1
    obtain ⟨g, cap, rfl, hg1, hg2, hcap⟩ := hO.form (by omega)
    have f0 := hO.cell 0 (by omega)
    rw [sv_at C 0 (by omega)] at f0
    rw [hk]
    clear hO hk hsz
    have hz : (((tl C 0).size : Nat) : Int) = 0 := by omega
    generalize tl C 0 = s0 at *
    generalize C.length = k at *
    go_wp2_with fail
    refine (wakes04 _).mono ?_
    rintro e w2 ⟨rfl, hb2⟩
    have hB2 := below_then hB1 hB1.size hb2
    go_wp2
    go_ret
    exact ⟨rfl, hB2⟩
  have henc := fun W u h => encode_any W u C h
  rw [hsz.enE (by omega) (by omega) (by omega)] at henc
  have hpl : (enP C).length = m := by rw [hsz.enP (by omega) (by omega) (by omega)]; exact pp_length _ _ _ hsz
  have hql : (enQ C).length = m := by rw [hsz.enQ (by omega) (by omega) (by omega)]; exact qq_length _ _ _ hsz
  have hL1 : (([] : List Value).length + (sv C).length) * 16 ≤ 140737488355328 := by rw [sv_length]; simp; omega
  have hL2 : (([] ++ sv C : List Value).length + (sv [bs (enP C), bs (enQ C)]).length) * 16 ≤ 140737488355328 := by rw [List.nil_append, sv_length, sv_length]; simp; omega
  have hone1 := Lib.hid (sv_one C)
  have hone2 := Lib.hid (sv_one [bs (enP C), bs (enQ C)])
  have hlit : ∀ W : World, Reads (W.alloc (.cells #[.string (bs (enP C)), .string (bs (enQ C))] 9)) (.slice (some ⟨W.heap.size, 0, none⟩) 2 2) (sv [bs (enP C), bs (enQ C)]) := fun W => lit_reads W [bs (enP C), bs (enQ C)] 2 rfl (by decide)
  have hk : (sv C).length = C.length := sv_length C
  have hD : [] ++ sv C ++ sv [bs (enP C), bs (enQ C)] = sv (C ++ [bs (enP C), bs (enQ C)]) := by rw [List.nil_append, sv_append]
  have HENC := Lib.hid henc; clear henc
  have HL1 := Lib.hid hL1; clear hL1
  have HL2 := Lib.hid hL2; clear hL2
  have HLIT := Lib.hid hlit; clear hlit
  have HD := Lib.hid hD; clear hD
  have HPL := Lib.hid hpl; clear hpl
  have HQL := Lib.hid hql; clear hql
  have HSZ := Lib.hid hsz; clear hsz
  have HK := Lib.hid hk; clear hk
  obtain ⟨P, hP⟩ : ∃ P, bs (enP C) = P := ⟨_, rfl⟩
  obtain ⟨Q, hQ⟩ : ∃ Q, bs (enQ C) = Q := ⟨_, rfl⟩
  rw [hP, hQ] at HENC hone2 HLIT HD HL2
  have HP := Lib.hid hP; clear hP
  have HQ := Lib.hid hQ; clear hQ
  go_enter Try.func5, Try.ntmps5
  go_wp2
  go_region
  go_wp2_with fail
  refine (HCUT.out).mono ?_
  rintro e w1 ⟨l, rfl, hO, hb1⟩
  have hB1 := below_then hB0 hB0.size hb1
  obtain ⟨g, cap, rfl, hg1, hg2, hcap⟩ := hO.form (by have := HK.out; omega)
  have f0 := hO.cell 0 (by have := HK.out; omega)
  rw [sv_at C 0 (by omega)] at f0
  have hR := Lib.hid hO.reads
  rw [HK.out] at hR ⊢
  clear hO c0 c1 hcap
  have hz : ¬ ((((tl C 0).size : Nat) : Int) = 0) := by omega
  generalize tl C 0 = s0 at *
  obtain ⟨k, hkC⟩ : ∃ k, C.length = k := ⟨_, rfl⟩
  rw [hkC] at h1 h8 hR hC12 ⊢
  have HKC := Lib.hid hkC; clear hkC
  have hb1' : ((k : Int) == 0) = false := by rw [beq_eq_false_iff_ne]; omega
  have hb2' : decide (8 < (k : Int)) = false := by simp; omega
  have hb3' : ((m : Int) == 0) = false := by rw [beq_eq_false_iff_ne]; omega
  go_wp2_with fail
  refine (HENC.out _ _ hR.out).mono ?_
  rintro e w2 ⟨rfl, hb2⟩
  have hB2 := below_then hB1 hB1.size hb2
  have hR2 := Lib.hid (hR.out.below hb2)
  have hN2 := Lib.hid (Own.nil_ w2 w.heap.size 9)
  go_upto_region 7 with (first
    | (at_builtin; refine append_many w.heap.size rfl (.const (.slice none 0 0)) (.tmp 43) 22 9 (.string ⟨#[]⟩) 16 rfl Try.underlying22 info9 rfl (by decide) _ _ _ _ rfl rfl hR2.out hone1.out hN2.out hB2 hB2.size HL1.out ?_; intro v3 w3 hO3 hB3 _ _
       have hO3' := Lib.hid (hO3.alloc (.cells #[.string P, .string Q] 9))
       have hB3' := Lib.hid (hB3.alloc hB3.size (.cells #[.string P, .string Q] 9))
       have hS3' := Lib.hid hB3'.out.size
       clear hO3)
    | (at_builtin; refine append_many w.heap.size rfl (.tmp 44) (.tmp 47) 22 9 (.string ⟨#[]⟩) 16 rfl Try.underlying22 info9 rfl (by decide) _ _ _ _ rfl rfl (HLIT.out _) hone2.out hO3'.out hB3'.out hS3'.out HL2.out ?_; intro v4 w4 hO4 hB4 _ _
       rw [HD.out] at hO4))
  clear hR hR2 hN2 HENC HL1 HL2 HLIT hone1 hone2 HCUT hb1' hb2' hb3' f0 hb1 hb2 hB1 hB2 hO3' hB3' hS3' hB3
  have hDl : (sv (C ++ [P, Q])).length = k + 2 := by rw [sv_length, List.length_append, HKC.out]; rfl
  obtain ⟨gd, cd, rfl, hgd1, hgd2, hcd⟩ := hO4.form (by omega)
  obtain ⟨r, hr⟩ : ∃ r, at0.toNat % (k + 2) = r := ⟨_, rfl⟩
  obtain ⟨z, hz1⟩ : ∃ z, pl0.toNat % m = z := ⟨_, rfl⟩
  have hrl : r < k + 2 := by rw [← hr]; exact Nat.mod_lt _ (by omega)
  have hzl : z < m := by rw [← hz1]; exact Nat.mod_lt _ (by omega)
  have fr := hO4.cell r (by omega)
  have hrD : r < (C ++ [P, Q]).length := by rw [List.length_append, HKC.out]; exact hrl
  rw [sv_at _ r hrD] at fr
  have hck := ck_one HSZ.out (by rw [HKC.out]; omega) (by rw [HKC.out]; omega) (by omega) r (by rw [HKC.out]; exact hrl) z hzl b (tl (C ++ [P, Q]) r).data.toList (by rw [HP.out, HQ.out]) _ rfl
  rw [HP.out, HQ.out] at hck
  have hls : (tl (C ++ [P, Q]) r).data.toList.length = m := by
    rw [size_toList, tl_append]
    by_cases h : r < C.length
    · rw [if_pos h]; exact HSZ.out r h
    · rw [if_neg h]
      have : r - C.length = 0 ∨ r - C.length = 1 := by have := HKC.out; omega
      rcases this with e | e
      · rw [e]
        show P.size = m
        rw [← HP.out, bs_size]; exact HPL.out
      · rw [e]
        show Q.size = m
        rw [← HQ.out, bs_size]; exact HQL.out
  clear hrD
  rw [hDl] at hO4 ⊢
  have HDL0 := hDl
  clear hDl hcd
  generalize C ++ [P, Q] = D at *
  obtain ⟨s, hs⟩ : ∃ s, tl D r = s := ⟨_, rfl⟩
  rw [hs] at fr hck hls
  have hss : s.size = m := by rw [← hls]; exact (size_toList s).symm
  have kc := Lib.run_convert_string_bytes (P := Try.prog) w4 9 33 5 s Try.underlying9 Try.underlying33 Try.underlying5
  have hB0b := Bytes.made w4 s s.data.toList rfl (by omega)
  have hbw0 := Lib.bytesWorld_below w4 5 s
  generalize Lib.bytesWorld w4 5 s = w5 at *
  generalize grownCap w4 s.size 0 5 = cb at *
  have hO5 := hO4.below hbw0
  have hB5 := below_then hB4 hB4.size hbw0
  have hcb := hB0b.1
  have hcb2 := hB0b.2.1
  have HCK := Lib.hid hck; clear hck
  have HDL := Lib.hid HDL0; clear HDL0
  have HLS := Lib.hid hls; clear hls
  have HHS := Lib.hid hs; clear hs
  go_cut [14] (fun s14 wx => s14 = .slice (some ⟨w4.heap.size, 0, none⟩) m cb ∧ w5 = wx)
  case first =>
    rcases tri at0 with ⟨a, rfl, ha⟩ | rfl | ha
    · have hrm := tmod_nat a (k + 2)
      rw [Int.toNat_natCast] at hr
      rw [hr] at hrm
      have hrm2 : ((a : Int)).tmod ((k : Int) + 2) = (r : Int) := hrm
      have ha2 : ¬ ((a : Int) ≤ 0) := by omega
      clear hr
      go_wp2_with fail
      go_meet
      exact ⟨rfl, rfl⟩
    · obtain rfl : r = 0 := by rw [← hr]; simp
      clear hr
      go_wp2_with fail
      go_meet
      exact ⟨rfl, rfl⟩
    · obtain rfl : r = 0 := by
        have : at0.toNat = 0 := by omega
        rw [← hr, this]; simp
      clear hr
      go_wp2_with fail
      go_meet
      exact ⟨rfl, rfl⟩
  case rest =>
    obtain ⟨rfl, rfl⟩ := hcut
    clear kc fr
    have hm' : ((m : Int) == 0) = false := by rw [beq_eq_false_iff_ne]; omega
    have hbz := hB0b.cell z (by rw [HLS.out]; exact hzl)
    have hfz := hB0b.frozen z (Nat.lt_of_lt_of_le hzl (by rw [← HLS.out]; exact hcb))
    have hst := hB0b.set_ z (s.data.toList.getD z 0 ^^^ b)
    have hbx := bits_xor_u8 (s.data.toList.getD z 0) b
    have hgne : w4.heap.size ≠ gd := by omega
    obtain ⟨L2, hL2⟩ : ∃ L2, s.data.toList.set z (s.data.toList.getD z 0 ^^^ b) = L2 := ⟨_, rfl⟩
    rw [hL2] at hst HCK
    have hl2 : L2.length = m := by rw [← hL2, List.length_set]; exact HLS.out
    have HL2 := Lib.hid hL2; clear hL2
    generalize s.data.toList.getD z 0 = x at *
    generalize hy : x ^^^ b = y at *
    clear hy
    obtain ⟨w6, hw6⟩ : ∃ w6, w5.setCell ⟨w4.heap.size, z, none⟩ (.int .u8 (y.toNat : Int)) = w6 := ⟨_, rfl⟩
    have hO6 := hO5.far (p := ⟨w4.heap.size, z, none⟩) (by show some gd ≠ some w4.heap.size; simpa using Ne.symm hgne) (.int .u8 (y.toNat : Int))
    have hB6 := hB5.setCell (p := ⟨w4.heap.size, z, none⟩) (by show w.heap.size ≤ w4.heap.size; exact hB4.size) (.int .u8 (y.toNat : Int))
    rw [hw6] at hst hO6 hB6
    have HST := Lib.hid hst; clear hst
    go_upto_region 10 with fail
    go_cut [] (fun wx' => w6 = wx')
    case first =>
      rcases tri pl0 with ⟨a, rfl, ha⟩ | rfl | ha
      · have hrm := tmod_nat a m
        rw [Int.toNat_natCast] at hz1
        rw [hz1] at hrm
        have ha2 : ¬ ((a : Int) ≤ 0) := by omega
        clear hz1
        go_wp2_with fail
        go_meet
        exact rfl
      · obtain rfl : z = 0 := by rw [← hz1]; simp
        clear hz1
        go_wp2_with fail
        go_meet
        exact rfl
      · obtain rfl : z = 0 := by
          have : pl0.toNat = 0 := by omega
          rw [← hz1, this]; simp
        clear hz1
        go_wp2_with fail
        go_meet
        exact rfl
    case rest =>
      obtain rfl := hcut
      clear hw6 hbz hfz hbx hB0b hO5 hB5 hbw0 hB4 hO4 hgd1 hgd2
      have hr2 := HST.out.drew.reads
      rw [hl2] at hr2
      have hcv := reads_string (P := Try.prog) (src := 33) (dst := 9) Try.underlying33 Try.underlying5 Try.underlying9 hr2
      have hO6' : Own w6 w.heap.size 9 (.slice (some ⟨gd, 0, none⟩) (sv D).length cd) (sv D) := by rw [HDL.out]; exact hO6
      have fr := hO6'.cell r (by rw [HDL.out]; exact hrl)
      have hrD : r < D.length := by have := HDL.out; rw [sv_length] at this; omega
      rw [sv_at _ r hrD] at fr
      have fz := hO6'.frozen r
      have hO7 := hO6'.set_ r (.string (bs L2))
      rw [HDL.out, sv_set] at hO7
      have hB7 := hB6.setCell (p := ⟨gd, r, none⟩) (hO6'.lt gd rfl).1 (.string (bs L2))
      generalize hs2 : bs L2 = s2 at *
      clear hs2 hr2 hO6 hO6'
      generalize D.set r s2 = D2 at *
      generalize tl D r = oldr at *
      have HO7 := Lib.hid hO7; clear hO7
      have HB7 := Lib.hid hB7; clear hB7 hB6
      go_upto_region 11 with fail
      go_cut [] (fun wx' => Own wx' w.heap.size 9 (.slice (some ⟨gd, 0, none⟩) (k + 2) cd) (sv D2) ∧ Below w.heap.size w wx')
      case first =>
        rcases tri at0 with ⟨a, rfl, ha⟩ | rfl | ha
        · have hrm := tmod_nat a (k + 2)
          rw [Int.toNat_natCast] at hr
          rw [hr] at hrm
          have hrm2 : ((a : Int)).tmod ((k : Int) + 2) = (r : Int) := hrm
          have ha2 : ¬ ((a : Int) ≤ 0) := by omega
          clear hr
          go_region
          go_wp2_with fail
          go_meet
          exact ⟨HO7.out.drew, HB7.out.drew⟩
        · obtain rfl : r = 0 := by rw [← hr]; simp
          clear hr
          go_region
          go_wp2_with fail
          go_meet
          exact ⟨HO7.out.drew, HB7.out.drew⟩
        · obtain rfl : r = 0 := by
            have : at0.toNat = 0 := by omega
            rw [← hr, this]; simp
          clear hr
          go_region
          go_wp2_with fail
          go_meet
          exact ⟨HO7.out.drew, HB7.out.drew⟩
      case rest =>
        obtain ⟨hO8, hB8⟩ := hcut
        have hR8 := hO8.reads
        clear HO7 HB7 hcv fr fz hO8
        go_wp2_with fail
        refine (wakes04 _).mono ?_
        rintro e w9 ⟨rfl, hb9⟩
        have hR9 := hR8.below hb9
        have hB9 := below_then hB8 hB8.size hb9
        have hck2 := check_any _ _ _ hR9
        rw [HCK.out, ← u8_zero] at hck2
        have HC2 := Lib.hid hck2; clear hck2
        go_wp2_with fail
        refine (HC2.out).mono ?_
        rintro e w10 ⟨rfl, hb10⟩
        have hB10 := below_then hB9 hB9.size hb10
        go_wp2
        go_ret
        exact ⟨by simp, hB10⟩
end Go.Proofs.Ytikgipohjoiagaa
