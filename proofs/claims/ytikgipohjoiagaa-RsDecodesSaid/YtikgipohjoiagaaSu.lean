/-
  The walks of rs.Update and of the document's Update.
-/
import Derived.Test.YtikgipohjoiagaaSf
namespace Go.Proofs.Ytikgipohjoiagaa
open Go.RowKit GfM

/-! ### the plain part -/
noncomputable def upE (p q : ByteArray) (i : Int) (o n : ByteArray) : Int := if i < 0 ∨ 8 ≤ i then 2 else shE [p, q, o, n]
/-- the change of P, of Q. -/
def dl (o n : ByteArray) : List UInt8 := xorL o.data.toList n.data.toList
open Classical in
noncomputable def upP (p q : ByteArray) (i : Int) (o n : ByteArray) : List UInt8 := if upE p q i o n = 0 then xorL p.data.toList (dl o n) else []
open Classical in
noncomputable def upQ (p q : ByteArray) (i : Int) (o n : ByteArray) : List UInt8 := if upE p q i o n = 0 then xorL q.data.toList ((dl o n).map (mul (pwI 2 i))) else []
theorem upE_ok {p q : ByteArray} {i : Int} {o n : ByteArray} (h : upE p q i o n = 0) : (0 ≤ i ∧ i < 8) ∧ shE [p, q, o, n] = 0 ∧ q.size = p.size ∧ o.size = p.size ∧ n.size = p.size ∧ p.size ≤ 65536 := by
  unfold upE at h
  by_cases h1 : i < 0 ∨ 8 ≤ i
  · rw [if_pos h1] at h; cases h
  · rw [if_neg h1] at h
    obtain ⟨h2, h3⟩ := shE_ok h
    exact ⟨by omega, h, h2 1 (by simp), h2 2 (by simp), h2 3 (by simp), h3 (by simp)⟩
/-- the bytes of P, of Q, the first k places. -/
def ups (p o n : ByteArray) (k : Nat) : List UInt8 := (List.range k).map fun j => p.data.toList.getD j 0 ^^^ (o.data.toList.getD j 0 ^^^ n.data.toList.getD j 0)
def uqs (a : UInt8) (q o n : ByteArray) (k : Nat) : List UInt8 := (List.range k).map fun j => q.data.toList.getD j 0 ^^^ mul a (o.data.toList.getD j 0 ^^^ n.data.toList.getD j 0)
theorem ups_length (p o n : ByteArray) (k : Nat) : (ups p o n k).length = k := by simp [ups]
theorem uqs_length (a : UInt8) (p o n : ByteArray) (k : Nat) : (uqs a p o n k).length = k := by simp [uqs]
theorem ups_succ (p o n : ByteArray) (k : Nat) : ups p o n (k + 1) = ups p o n k ++ [p.data.toList.getD k 0 ^^^ (o.data.toList.getD k 0 ^^^ n.data.toList.getD k 0)] := by simp [ups, List.range_succ]
theorem uqs_succ (a : UInt8) (q o n : ByteArray) (k : Nat) : uqs a q o n (k + 1) = uqs a q o n k ++ [q.data.toList.getD k 0 ^^^ mul a (o.data.toList.getD k 0 ^^^ n.data.toList.getD k 0)] := by simp [uqs, List.range_succ]
theorem dl_length {o n : ByteArray} {m : Nat} (ho : o.size = m) (hn : n.size = m) : (dl o n).length = m := by
  unfold dl; rw [xorL_length, size_toList, size_toList, ho, hn, Nat.min_self]
theorem ups_eq {p o n : ByteArray} (ho : o.size = p.size) (hn : n.size = p.size) : ups p o n p.size = xorL p.data.toList (dl o n) := by
  have hd := dl_length ho hn
  refine list_ext0 (n := p.size) (ups_length _ _ _ _) (by rw [xorL_length, hd, size_toList, Nat.min_self]) fun k hk => ?_
  rw [xorL_at _ _ _ (by rw [size_toList]; exact hk) (by rw [hd]; exact hk)]
  unfold dl
  rw [xorL_at _ _ _ (by rw [size_toList, ho]; exact hk) (by rw [size_toList, hn]; exact hk)]
  unfold ups
  rw [List.getD_eq_getElem?_getD, List.getElem?_map, List.getElem?_range hk]
  rfl
theorem uqs_eq {a : UInt8} {p q o n : ByteArray} (hq : q.size = p.size) (ho : o.size = p.size) (hn : n.size = p.size) : uqs a q o n p.size = xorL q.data.toList ((dl o n).map (mul a)) := by
  have hd := dl_length ho hn
  refine list_ext0 (n := p.size) (uqs_length _ _ _ _ _) (by rw [xorL_length, List.length_map, hd, size_toList, hq, Nat.min_self]) fun k hk => ?_
  rw [xorL_at _ _ _ (by rw [size_toList, hq]; exact hk) (by rw [List.length_map, hd]; exact hk), getD_map _ _ _ (by rw [hd]; exact hk)]
  unfold dl
  rw [xorL_at _ _ _ (by rw [size_toList, ho]; exact hk) (by rw [size_toList, hn]; exact hk)]
  unfold uqs
  rw [List.getD_eq_getElem?_getD, List.getElem?_map, List.getElem?_range hk]
  rfl
theorem four_reads (W : World) (p q o n : ByteArray) : Reads (W.alloc (.cells #[.string p, .string q, .string o, .string n] 9)) (.slice (some ⟨W.heap.size, 0, none⟩) 4 4) (sv [p, q, o, n]) := by
  have h := Own.lit_ W W.heap.size 9 #[.string p, .string q, .string o, .string n] (Nat.le_refl _) (by simp [maxLen])
  exact h.reads

/-! ### the walks -/
set_option maxRecDepth 100000 in
set_option maxHeartbeats 1000000 in
theorem update_any (w : World) (p q : ByteArray) (i : Int) (o n : ByteArray) :
    Calls Try.prog 17 #[.string p, .string q, .int .i64 i, .string o, .string n] w fun e w' => e = .returned (.tuple #[.string (bs (upP p q i o n)), .string (bs (upQ p q i o n)), .int .i64 (upE p q i o n)]) ∧ Below w.heap.size w w' := by
  by_cases hi : i < 0 ∨ 8 ≤ i
  · have e1 : upE p q i o n = 2 := by unfold upE; rw [if_pos hi]
    have e2 : upP p q i o n = [] := by unfold upP; rw [if_neg (by rw [e1]; decide)]
    have e3 : upQ p q i o n = [] := by unfold upQ; rw [if_neg (by rw [e1]; decide)]
    rw [e1, e2, e3]
    clear e1 e2 e3
    rcases hi with hi | hi
    · go_enter Try.func17, Try.ntmps17
      go_wp2
      go_ret3
      exact ⟨rfl, Below.refl _ _⟩
    · have hi2 : ¬ i < 0 := by omega
      go_enter Try.func17, Try.ntmps17
      go_wp2
      go_ret3
      exact ⟨rfl, Below.refl _ _⟩
  · have hsh := shape_any _ _ _ (four_reads w p q o n)
    have hi2 : ¬ i < 0 := by omega
    have hi3 : ¬ 8 ≤ i := by omega
    have e0 : upE p q i o n = shE [p, q, o, n] := by unfold upE; rw [if_neg hi]
    by_cases hs : upE p q i o n = 0
    · obtain ⟨_, h1, hq, ho, hn, hle⟩ := upE_ok hs
      have e2 : upP p q i o n = xorL p.data.toList (dl o n) := by unfold upP; rw [if_pos hs]
      have e3 : upQ p q i o n = xorL q.data.toList ((dl o n).map (mul (pwI 2 i))) := by unfold upQ; rw [if_pos hs]
      have hd := dl_length ho hn
      have h2 : ∀ W, Calls Try.prog 24 #[.string o, .string n] W fun e w' => e = .returned (.string (bs (dl o n))) ∧ Below W.heap.size W w' := fun W => xor_ba _ _ _ _ rfl rfl (by omega) W
      have h3 : ∀ W, Calls Try.prog 24 #[.string p, .string (bs (dl o n))] W fun e w' => e = .returned (.string (bs (upP p q i o n))) ∧ Below W.heap.size W w' := by
        rw [e2]; exact fun W => xor_ba _ _ _ _ rfl (bs_toList _).symm (by omega) W
      have h4 : ∀ W, Calls Try.prog 26 #[.int .u8 2, .int .i64 i] W fun e w' => e = .returned (.int .u8 ((pwI 2 i).toNat : Int)) ∧ W = w' := fun W => pow_any 2 i 2 rfl W
      have h5 : ∀ W, Calls Try.prog 25 #[.int .u8 ((pwI 2 i).toNat : Int), .string (bs (dl o n))] W fun e w' => e = .returned (.string (bs ((dl o n).map (mul (pwI 2 i))))) ∧ Below W.heap.size W w' := fun W => scale_ba _ (pwI 2 i) rfl _ _ (bs_toList _).symm (by rw [bs_size, hd]; omega) W
      have h6 : ∀ W, Calls Try.prog 24 #[.string q, .string (bs ((dl o n).map (mul (pwI 2 i))))] W fun e w' => e = .returned (.string (bs (upQ p q i o n))) ∧ Below W.heap.size W w' := by
        rw [e3]; exact fun W => xor_ba _ _ _ _ rfl (bs_toList _).symm (by rw [bs_size, List.length_map]; omega) W
      rw [hs]
      rw [h1] at hsh
      clear e0 e2 e3 hs h1 hq ho hn hle hd
      generalize bs (upP p q i o n) = P at *
      generalize bs (upQ p q i o n) = Q at *
      generalize bs ((dl o n).map (mul (pwI 2 i))) = M at *
      generalize bs (dl o n) = D at *
      generalize pwI 2 i = a at *
      have HSH := Lib.hid hsh; clear hsh
      have H2 := Lib.hid h2; clear h2
      have H3 := Lib.hid h3; clear h3
      have H4 := Lib.hid h4; clear h4
      have H5 := Lib.hid h5; clear h5
      have H6 := Lib.hid h6; clear h6
      go_enter Try.func17, Try.ntmps17
      go_wp2_with fail
      refine (HSH.out).mono ?_
      rintro e w' ⟨rfl, rfl⟩
      go_wp2_with fail
      refine (H2.out _).mono ?_
      rintro e w1 ⟨rfl, hb1⟩
      have hB1 : Below w.heap.size w w1 := below_then ((Below.refl _ _).alloc (Nat.le_refl _) _) (by simp) hb1
      go_wp2_with fail
      refine (H3.out _).mono ?_
      rintro e w2 ⟨rfl, hb2⟩
      have hB2 := below_then hB1 hB1.size hb2
      go_wp2_with fail
      refine (H4.out _).mono ?_
      rintro e w' ⟨rfl, rfl⟩
      go_wp2_with fail
      refine (H5.out _).mono ?_
      rintro e w3 ⟨rfl, hb3⟩
      have hB3 := below_then hB2 hB2.size hb3
      go_wp2_with fail
      refine (H6.out _).mono ?_
      rintro e w4 ⟨rfl, hb4⟩
      have hB4 := below_then hB3 hB3.size hb4
      go_wp2
      go_ret3
      exact ⟨rfl, hB4⟩
    · have e2 : upP p q i o n = [] := by unfold upP; rw [if_neg hs]
      have e3 : upQ p q i o n = [] := by unfold upQ; rw [if_neg hs]
      rw [e2, e3, e0]
      rw [e0] at hs
      have hb : (shE [p, q, o, n] != 0) = true := by rw [bne_iff_ne]; exact hs
      have HSH := Lib.hid hsh; clear hsh hs e0 e2 e3
      generalize shE [p, q, o, n] = x at *
      go_enter Try.func17, Try.ntmps17
      go_wp2_with fail
      refine (HSH.out).mono ?_
      rintro e w' ⟨rfl, rfl⟩
      go_wp2
      go_ret3
      exact ⟨rfl, (Below.refl _ _).alloc (Nat.le_refl _) _⟩

/-! ### the document's -/
set_option maxRecDepth 100000 in
set_option maxHeartbeats 1000000 in
theorem rupdate_any (w : World) (p q : ByteArray) (i : Int) (o n : ByteArray) :
    Calls Try.prog 18 #[.string p, .string q, .int .i64 i, .string o, .string n] w fun e w' => e = .returned (.tuple #[.string (bs (upP p q i o n)), .string (bs (upQ p q i o n)), .int .i64 (upE p q i o n)]) ∧ Below w.heap.size w w' := by
  by_cases hi : i < 0 ∨ 8 ≤ i
  · have e1 : upE p q i o n = 2 := by unfold upE; rw [if_pos hi]
    have e2 : upP p q i o n = [] := by unfold upP; rw [if_neg (by rw [e1]; decide)]
    have e3 : upQ p q i o n = [] := by unfold upQ; rw [if_neg (by rw [e1]; decide)]
    rw [e1, e2, e3]
    clear e1 e2 e3
    rcases hi with hi | hi
    · go_enter Try.func18, Try.ntmps18
      go_wp2
      go_ret3
      exact ⟨rfl, Below.refl _ _⟩
    · have hi2 : ¬ i < 0 := by omega
      go_enter Try.func18, Try.ntmps18
      go_wp2
      go_ret3
      exact ⟨rfl, Below.refl _ _⟩
  · have hsh := rshape_any _ _ _ (four_reads w p q o n)
    have hi2 : ¬ i < 0 := by omega
    have hi3 : ¬ 8 ≤ i := by omega
    have e0 : upE p q i o n = shE [p, q, o, n] := by unfold upE; rw [if_neg hi]
    by_cases hs : upE p q i o n = 0
    · obtain ⟨_, h1, hq, ho, hn, hle⟩ := upE_ok hs
      have e2 : upP p q i o n = ups p o n p.size := by unfold upP; rw [if_pos hs, ups_eq ho hn]
      have e3 : upQ p q i o n = uqs (pwI 2 i) q o n p.size := by unfold upQ; rw [if_pos hs, uqs_eq hq ho hn]
      have h4 : ∀ W, Calls Try.prog 29 #[.int .u8 2, .int .i64 i] W fun e w' => e = .returned (.int .u8 ((pwI 2 i).toNat : Int)) ∧ Below W.heap.size W w' := fun W => rpow_any 2 i 2 rfl W
      rw [hs, e2, e3]
      rw [h1] at hsh
      clear e0 e2 e3 hs h1
      have hP0 : bv (ups p o n 0) = [] := rfl
      have hQ0 : bv (uqs (pwI 2 i) q o n 0) = [] := rfl
      have HP0 := Lib.hid hP0; clear hP0
      have HQ0 := Lib.hid hQ0; clear hQ0
      generalize pwI 2 i = a at *
      have HPS := Lib.hid (ups_succ p o n)
      have HQS := Lib.hid (uqs_succ a q o n)
      have HSH := Lib.hid hsh; clear hsh
      have H4 := Lib.hid h4; clear h4
      have HBP := Lib.hid (byte_at p)
      have HBQ := Lib.hid (byte_at q)
      have HBO := Lib.hid (byte_at o)
      have HBN := Lib.hid (byte_at n)
      go_enter Try.func18, Try.ntmps18
      go_wp2_with fail
      refine (HSH.out).mono ?_
      rintro e w1 ⟨rfl, hb1⟩
      have hB1 : Below w.heap.size w w1 := below_then ((Below.refl _ _).alloc (Nat.le_refl _) _) (by simp) hb1
      go_wp2_with fail
      refine (H4.out _).mono ?_
      rintro e w2 ⟨rfl, hb2⟩
      have hB2 := below_then hB1 hB1.size hb2
      go_wp2
      go_loopw [15, 16, 17, 18, 19, 20, 21] (fun s15 s16 s17 _ _ _ _ wr => ∃ k : Nat, k ≤ p.size ∧ s17 = .int .i64 k ∧ Own wr w.heap.size 5 s15 (bv (ups p o n k)) ∧ Own wr w.heap.size 5 s16 (bv (uqs a q o n k)) ∧ Sep s15 s16 ∧ Below w.heap.size w wr) (fun _ _ s17 _ _ _ _ _ => p.size - (intOf s17).toNat)
      case atStart => exact ⟨0, by omega, rfl, by rw [HP0.out]; exact Own.nil_ _ _ _, by rw [HQ0.out]; exact Own.nil_ _ _ _, Sep.nil_ _, hB2⟩
      case round =>
        obtain ⟨k, hk, rfl, hOP, hOQ, hsep, hB⟩ := hrel
        by_cases hlt : k < p.size
        · have hbp := HBP.out k
          have hbq := HBQ.out k
          have hbo := HBO.out k
          have hbn := HBN.out k
          have hL : ((bv (ups p o n k)).length + 1) * 1 ≤ 140737488355328 := by rw [bv_length, ups_length]; omega
          have hL2 : ((bv (uqs a q o n k)).length + 1) * 1 ≤ 140737488355328 := by rw [bv_length, uqs_length]; omega
          have hP1 := HPS.out k
          have hQ1 := HQS.out k
          generalize p.data.toList.getD k 0 = xp at *
          generalize q.data.toList.getD k 0 = xq at *
          generalize o.data.toList.getD k 0 = xo at *
          generalize n.data.toList.getD k 0 = xn at *
          have hc1 : ∀ W, Calls Try.prog 30 #[.int .u8 (xo.toNat : Int), .int .u8 (xn.toNat : Int)] W fun e w' => e = .returned (.int .u8 ((xo ^^^ xn).toNat : Int)) ∧ Below W.heap.size W w' := fun W => radd_any _ _ xo xn rfl rfl W
          generalize xo ^^^ xn = d at *
          have hc2 : ∀ W, Calls Try.prog 31 #[.int .u8 (a.toNat : Int), .int .u8 (d.toNat : Int)] W fun e w' => e = .returned (.int .u8 ((mul a d).toNat : Int)) ∧ Below W.heap.size W w' := fun W => rmul_any _ _ a d rfl rfl W
          generalize mul a d = x at *
          have hc3 : ∀ W, Calls Try.prog 30 #[.int .u8 (xp.toNat : Int), .int .u8 (d.toNat : Int)] W fun e w' => e = .returned (.int .u8 ((xp ^^^ d).toNat : Int)) ∧ Below W.heap.size W w' := fun W => radd_any _ _ xp d rfl rfl W
          have hc4 : ∀ W, Calls Try.prog 30 #[.int .u8 (xq.toNat : Int), .int .u8 (x.toNat : Int)] W fun e w' => e = .returned (.int .u8 ((xq ^^^ x).toNat : Int)) ∧ Below W.heap.size W w' := fun W => radd_any _ _ xq x rfl rfl W
          generalize xp ^^^ d = y at *
          generalize xq ^^^ x = z at *
          have hP2 : bv (ups p o n (k + 1)) = bv (ups p o n k) ++ [.int .u8 (y.toNat : Int)] := by rw [hP1, bv_append]; rfl
          have hQ2 : bv (uqs a q o n (k + 1)) = bv (uqs a q o n k) ++ [.int .u8 (z.toNat : Int)] := by rw [hQ1, bv_append]; rfl
          have HP2 := Lib.hid hP2; clear hP2 hP1
          have HQ2 := Lib.hid hQ2; clear hQ2 hQ1
          have HL := Lib.hid hL; clear hL
          have HL2 := Lib.hid hL2; clear hL2
          have HC1 := Lib.hid hc1; clear hc1
          have HC2 := Lib.hid hc2; clear hc2
          have HC3 := Lib.hid hc3; clear hc3
          have HC4 := Lib.hid hc4; clear hc4
          go_wp2
          go_region_with (go_at_call 30; refine (HC1.out _).mono ?_; rintro e w3 ⟨rfl, hb3⟩)
          all_goals
            have hB3 := below_then hB.drew hB.size hb3
            have hOP3 := hOP.drew.below hb3
            have hOQ3 := hOQ.drew.below hb3
            go_wp2_with fail
            refine (HC2.out _).mono ?_
            rintro e w4 ⟨rfl, hb4⟩
            have hB4 := below_then hB3 hB3.size hb4
            have hOP4 := hOP3.below hb4
            have hOQ4 := hOQ3.below hb4
            go_wp2_with fail
            refine (HC3.out _).mono ?_
            rintro e w5 ⟨rfl, hb5⟩
            have hB5 := below_then hB4 hB4.size hb5
            have hOP5 := hOP4.below hb5
            have hOQ5 := hOQ4.below hb5
            go_wp2_with fail
            refine (HC4.out _).mono ?_
            rintro e w6 ⟨rfl, hb6⟩
            have hB6 := below_then hB5 hB5.size hb6
            have hOP6 := hOP5.below hb6
            have hOQ6 := hOQ5.below hb6
            go_wp2_with (first
              | (at_builtin; refine append_one w.heap.size rfl (.tmp 65) (.tmp 67) 33 5 (.int .u8 0) 1 rfl Try.underlying33 info5 rfl (by decide) _ _ (.int .u8 (y.toNat : Int)) rfl rfl rfl hOP6 hB6 hB6.size HL.out ?_; intro v1 w7 hO7 hB7 hg7 hat7
                 have hOQ7 := hOQ6.keep hg7 hsep.symm.ne
                 have hsep7 := hsep.grow hOQ6 hat7)
              | (at_builtin; refine append_one w.heap.size rfl (.tmp 69) (.tmp 71) 33 5 (.int .u8 0) 1 rfl Try.underlying33 info5 rfl (by decide) _ _ (.int .u8 (z.toNat : Int)) rfl rfl rfl hOQ7 hB7 hB7.size HL2.out ?_; intro v2 w8 hO8 hB8 hg8 hat8
                 have hOP8 := hO7.keep hg8 hsep7.ne
                 have hsep8 := (hsep7.symm.grow hO7 hat8).symm))
            go_roundw
            case rel => exact ⟨k + 1, by omega, by go_num, by rw [HP2.out]; exact hOP8, by rw [HQ2.out]; exact hO8, hsep8, hB8⟩
            case measure => simp [intOf]; omega
        · obtain rfl : k = p.size := by omega
          have hcv := reads_string (P := Try.prog) (src := 33) (dst := 9) Try.underlying33 Try.underlying5 Try.underlying9 hOP.drew.reads
          have hcw := reads_string (P := Try.prog) (src := 33) (dst := 9) Try.underlying33 Try.underlying5 Try.underlying9 hOQ.drew.reads
          generalize hP : ups p o n p.size = P at *
          generalize hQ : uqs a q o n p.size = Q at *
          have HP := Lib.hid hP; clear hP
          have HQ := Lib.hid hQ; clear hQ
          go_wp2
          go_region
          go_wp2
          go_ret3
          exact ⟨by rw [HP.out, HQ.out]; rfl, hB.drew⟩
    · have e2 : upP p q i o n = [] := by unfold upP; rw [if_neg hs]
      have e3 : upQ p q i o n = [] := by unfold upQ; rw [if_neg hs]
      rw [e2, e3, e0]
      rw [e0] at hs
      have hb : (shE [p, q, o, n] != 0) = true := by rw [bne_iff_ne]; exact hs
      have HSH := Lib.hid hsh; clear hsh hs e0 e2 e3
      generalize shE [p, q, o, n] = x at *
      go_enter Try.func18, Try.ntmps18
      go_wp2_with fail
      refine (HSH.out).mono ?_
      rintro e w1 ⟨rfl, hb1⟩
      have hB1 : Below w.heap.size w w1 := below_then ((Below.refl _ _).alloc (Nat.le_refl _) _) (by simp) hb1
      go_wp2
      go_ret3
      exact ⟨rfl, hB1⟩
end Go.Proofs.Ytikgipohjoiagaa
