/-
  The walk of the law RsDelta.
-/
import Derived.Test.YtikgipohjoiagaaSo
namespace Go.Proofs.Ytikgipohjoiagaa
open Go.RowKit GfM

/-- the text that stands there then. -/
def nowT (T : List ByteArray) (m i : Nat) : ByteArray := (cut1 T 60 i ++ bs (List.replicate 60 0)).extract 0 m
theorem nowT_size (T : List ByteArray) (m i : Nat) (h : m ≤ 60) : (nowT T m i).size = m := by
  unfold nowT
  rw [ByteArray.size_extract, ByteArray.size_append, bs_size, List.length_replicate]
  omega
theorem conv60 (W : World) : (convert 33 9 (.slice (some ⟨W.heap.size, 0, none⟩) 60 60)).run Try.prog (W.alloc (.cells (madeCells #[.int .u8 0] 60) 5)).drew = .ok (.string (bs (List.replicate 60 0))) (W.alloc (.cells (madeCells #[.int .u8 0] 60) 5)).drew := by
  have hr := (Bytes.made_zero W 60 (by omega)).reads
  rw [List.length_replicate] at hr
  exact reads_string (P := Try.prog) (src := 33) (dst := 9) Try.underlying33 Try.underlying5 Try.underlying9 hr.drew
theorem mk60 : ∀ W : World, (Instr.makeSlice 33 (.int .i64 60) (.int .i64 60)).run Try.prog W = .ok (.slice (some ⟨W.heap.size, 0, none⟩) 60 60) (W.alloc (.cells (madeCells #[.int .u8 0] 60) 5)) := mk_bytes 60 (by omega)

set_option maxRecDepth 100000 in
set_option maxHeartbeats 2000000 in
theorem rsDelta_walk (w : World) (v : Value) (T : List ByteArray) (hv : Reads w v (sv T)) (v2 : Value) (T2 : List ByteArray) (hv2 : Reads w v2 (sv T2)) :
    Calls Try.prog 7 #[v, v2] w fun e w' => e = .returned (.bool true) ∧ Below w.heap.size w w' := by
  have hC12 := cuts_small T 60 true
  have hsz := cuts_siz T 60 (min T.length 12)
  have hm60 := cut1_size T 60 0
  have hcut := cut_any w v T hv 60 (by decide) 60 rfl true
  generalize cuts T 60 true (min T.length 12) = C at *
  generalize (cut1 T 60 0).size = m at *
  have HCUT := Lib.hid hcut; clear hcut hv
  by_cases h1 : C.length = 0
  · obtain rfl : C = [] := List.eq_nil_of_length_eq_zero h1
    clear h1 hsz hC12 hv2
    go_enter Try.func7, Try.ntmps7
    go_wp2_with fail
    refine (HCUT.out).mono ?_
    rintro e w1 ⟨l, rfl, hO, hB1⟩
    obtain ⟨A, c, rfl⟩ := hO.shape
    simp only [sv, List.map_nil, List.length_nil]
    go_wp2_with fail
    refine (wakes04 _).mono ?_
    rintro e w2 ⟨rfl, hb2⟩
    have hB2 := below_then hB1 hB1.size hb2
    go_wp2
    go_ret
    exact ⟨rfl, hB2⟩
  by_cases h8 : 8 < C.length
  · have hk : (sv C).length = C.length := sv_length C
    clear hsz hv2
    go_enter Try.func7, Try.ntmps7
    go_wp2_with fail
    refine (HCUT.out).mono ?_
    rintro e w1 ⟨l, rfl, hO, hB1⟩
    obtain ⟨A, c, rfl⟩ := hO.shape
    rw [hk]
    clear hO hk
    generalize C.length = k at *
    go_wp2_with fail
    refine (wakes04 _).mono ?_
    rintro e w2 ⟨rfl, hb2⟩
    have hB2 := below_then hB1 hB1.size hb2
    go_wp2
    go_ret
    exact ⟨rfl, hB2⟩
  obtain ⟨k, hkC⟩ : ∃ k, C.length = k := ⟨_, rfl⟩
  have henc : ∀ (C' : List ByteArray), C'.length = k → Siz C' m → ∀ W u, Reads W u (sv C') → Calls Try.prog 12 #[u] W fun e w' => e = .returned (.tuple #[.string (bs (enP C')), .string (bs (enQ C')), .int .i64 0]) ∧ Below W.heap.size W w' := by
    intro C' hl hs W u h
    have := encode_any W u C' h
    rwa [hs.enE (by omega) (by omega) (by omega)] at this
  have hupd : ∀ (C' : List ByteArray), C'.length = k → Siz C' m → ∀ i, i < k → ∀ s : ByteArray, s.size = m → ∀ W, Calls Try.prog 17 #[.string (bs (enP C')), .string (bs (enQ C')), .int .i64 i, .string (tl C' i), .string s] W fun e w' => e = .returned (.tuple #[.string (bs (enP (C'.set i s))), .string (bs (enQ (C'.set i s))), .int .i64 0]) ∧ Below W.heap.size W w' := by
    intro C' hl hs i hi s hss W
    have := update_any W (bs (enP C')) (bs (enQ C')) i (tl C' i) s
    obtain ⟨e1, e2, e3⟩ := up_set hs (by omega) (by omega) (by omega) i (by omega) s hss
    rwa [e1, e2, e3] at this
  have HENC := Lib.hid henc; clear henc
  have HUPD := Lib.hid hupd; clear hupd
  have hb1' : ((k : Int) == 0) = false := by rw [beq_eq_false_iff_ne]; omega
  have hb2' : decide (8 < (k : Int)) = false := by simp; omega
  have hk0 : 0 < k := by omega
  have hk8 : k ≤ 8 := by omega
  have HSZ := Lib.hid hsz; clear hsz
  clear h1 h8 hC12
  obtain ⟨A2, c2, rfl, hd1, hd2, hcell2⟩ := hv2.texts
  clear hv2
  by_cases h0 : 0 < T2.length
  · by_cases h30 : T2.length ≤ 30
    · have HKC := Lib.hid hkC; clear hkC
      obtain ⟨b2, off2, rfl, hc2⟩ := hcell2 (by omega)
      clear hcell2
      have hbl : b2 < w.heap.size := World.block_lt_of_cell? w _ (hc2 0 h0)
      have HC2 := Lib.hid hc2; clear hc2
      generalize T2.length = n2 at *
      go_enter Try.func7, Try.ntmps7
      go_wp2_with fail
      refine (HCUT.out).mono ?_
      rintro e w1 ⟨l, rfl, hO, hB1⟩
      obtain ⟨g, cap, rfl, hg1, hg2, hcap⟩ := hO.form (by rw [sv_length, HKC.out]; exact hk0)
      have hlk : (sv C).length = k := by rw [sv_length, HKC.out]
      rw [hlk] at hO hcap ⊢
      have hR := hO.reads
      clear hlk hcap
      go_wp2_with fail
      refine (HENC.out C HKC.out HSZ.out _ _ hR).mono ?_
      rintro e w2 ⟨rfl, hb2⟩
      have hB2 := below_then hB1 hB1.size hb2
      have hO2 := Lib.hid (hO.below hb2)
      clear hR hO
      have hP0 : bs (enP C) = bs (enP C) := rfl
      generalize hP : bs (enP C) = P
      generalize hQ : bs (enQ C) = Q
      have HP := Lib.hid hP; clear hP
      have HQ := Lib.hid hQ; clear hQ hP0
      go_wp2
      go_loopw [6, 7, 9, 10, 11, 12, 13, 40] (fun s6 s7 _ _ _ _ _ s40 wr => ∃ (i : Nat) (C' : List ByteArray), i ≤ n2 ∧ s40 = .int .i64 i ∧ Hid (C'.length = k) ∧ Hid (Siz C' m) ∧ s6 = .string (bs (enP C')) ∧ s7 = .string (bs (enQ C')) ∧ Hid (Own wr w.heap.size 9 (.slice (some ⟨g, 0, none⟩) k cap) (sv C')) ∧ Below w.heap.size w wr) (fun _ _ _ _ _ _ _ s40 _ => n2 - (intOf s40).toNat)
      case atStart => exact ⟨0, C, by omega, rfl, HKC, HSZ, by rw [HP.out], by rw [HQ.out], hO2, hB2⟩
      case round =>
        obtain ⟨i, C', hi, rfl, HCL, HCS, rfl, rfl, HO, hB⟩ := hrel
        clear hO2 HP HQ hb2 hB2 hB1 HCUT
        have hO' : Own wr w.heap.size 9 (.slice (some ⟨g, 0, none⟩) (sv C').length cap) (sv C') := by rw [sv_length, HCL.out]; exact HO.out
        by_cases hlt : i < n2
        · obtain ⟨p0, hp0⟩ : ∃ p0, i % k = p0 := ⟨_, rfl⟩
          have hp0k : p0 < k := by rw [← hp0]; exact Nat.mod_lt _ hk0
          have hmod := tmod_nat i k
          rw [hp0] at hmod
          clear hp0
          have f0 := hO'.cell 0 (by rw [sv_length, HCL.out]; exact hk0)
          rw [sv_at _ 0 (by rw [HCL.out]; exact hk0)] at f0
          have hgl : g < wr.heap.size := World.block_lt_of_cell? wr _ f0
          have hs0 : (tl C' 0).size = m := HCS.out 0 (by rw [HCL.out]; exact hk0)
          have hci := (hB.cell hbl).trans (HC2.out i (by omega))
          have hny : nowT T2 m i = (cut1 T2 60 i ++ bs (List.replicate 60 0)).extract 0 m := rfl
          have hnys := nowT_size T2 m i hm60
          obtain ⟨y, hy⟩ : ∃ y, nowT T2 m i = y := ⟨_, rfl⟩
          rw [hy] at hny hnys
          clear hy
          have hz8 : (bs (List.replicate 60 0)).size = 60 := rfl
          have hcv := conv60 wr
          have hm1 := mk60
          obtain ⟨W1, e1, HO1, HB1⟩ : ∃ W1, (wr.alloc (.cells (madeCells #[.int .u8 0] 60) 5)).drew = W1 ∧ Hid (Own W1 w.heap.size 9 (.slice (some ⟨g, 0, none⟩) (sv C').length cap) (sv C')) ∧ Hid (Below w.heap.size w W1) := ⟨_, rfl, Lib.hid ((hO'.alloc _).drew), Lib.hid ((hB.alloc hB.size _).drew)⟩
          have HE1 := Lib.hid e1; clear e1
          have hcall := HUPD.out C' HCL.out HCS.out p0 hp0k y hnys
          have HCALL := Lib.hid hcall; clear hcall
          clear hO'
          generalize bs (enP C') = P at *
          generalize bs (enQ C') = Q at *
          generalize hl0 : tl C' 0 = l0 at *
          clear hl0
          generalize bs (List.replicate 60 0) = z8 at *
          go_upto_region 8 with fail
          go_cut [11] (fun s11 wx => s11 = .string y ∧ W1 = wx)
          case first =>
            by_cases hsn : (tl T2 i).size ≤ 60
            · have h1 : cut1 T2 60 i = tl T2 i := by unfold cut1; rw [if_pos hsn]
              rw [h1] at hny
              generalize tl T2 i = s at *
              have hnl : ¬ ((60 : Int) < (s.size : Int)) := by omega
              have hnb : ¬ (9223372036854775807 < s.size + 60) := by omega
              have hfull : s.extract 0 s.size = s := ByteArray.extract_zero_size
              have has : (s ++ z8).size = s.size + z8.size := ByteArray.size_append
              clear h1
              subst hny
              generalize hyy : (s ++ z8).extract 0 m = y at *
              go_region
              go_wp2_with fail
              go_meet
              exact ⟨rfl, HE1.out.symm⟩
            · have h1 : cut1 T2 60 i = (tl T2 i).extract 0 60 := by unfold cut1; rw [if_neg hsn]
              rw [h1] at hny
              generalize tl T2 i = s at *
              have hnl : (60 : Int) < (s.size : Int) := by omega
              have hnb : (60 : Int) ≤ (s.size : Int) := by omega
              have hsz1 : (s.extract 0 60).size = 60 := by rw [ByteArray.size_extract]; omega
              generalize hs1 : s.extract 0 60 = s1 at *
              have has : (s1 ++ z8).size = s1.size + z8.size := ByteArray.size_append
              clear h1
              subst hny
              generalize hyy : (s1 ++ z8).extract 0 m = y at *
              go_region
              go_wp2_with fail
              go_meet
              exact ⟨rfl, HE1.out.symm⟩
          case rest =>
            obtain ⟨rfl, rfl⟩ := hcut
            clear HE1 hcv hm1 hny f0 hci hz8
            have fp := HO1.out.cell p0 (by rw [sv_length, HCL.out]; exact hp0k)
            rw [sv_at _ p0 (by rw [HCL.out]; exact hp0k)] at fp
            have hcl2 : (C'.set p0 y).length = k := by rw [List.length_set]; exact HCL.out
            have hcs2 := HCS.out.set_ p0 y hnys
            obtain ⟨C2, hC2⟩ : ∃ C2, C'.set p0 y = C2 := ⟨_, rfl⟩
            have hsv2 := sv_set C' p0 y
            rw [hC2] at hcl2 hcs2 HCALL hsv2
            have HCL2 := Lib.hid hcl2; clear hcl2
            have HCS2 := Lib.hid hcs2; clear hcs2
            have HSV2 := Lib.hid hsv2; clear hsv2 hC2
            obtain ⟨P2, hP2⟩ : ∃ P2, bs (enP C2) = P2 := ⟨_, rfl⟩
            obtain ⟨Q2, hQ2⟩ : ∃ Q2, bs (enQ C2) = Q2 := ⟨_, rfl⟩
            rw [hP2, hQ2] at HCALL
            have HP2 := Lib.hid hP2; clear hP2
            have HQ2 := Lib.hid hQ2; clear hQ2
            generalize tl C' p0 = o at *
            go_wp2_with fail
            refine (HCALL.out _).mono ?_
            rintro e w5 ⟨rfl, hb5⟩
            have hO5 := HO1.out.below hb5
            have hB5 := below_then HB1.out HB1.out.size hb5
            have fp5 := hO5.cell p0 (by rw [sv_length, HCL.out]; exact hp0k)
            rw [sv_at _ p0 (by rw [HCL.out]; exact hp0k)] at fp5
            have ff5 := hO5.frozen p0
            have hO6 := hO5.set_ p0 (.string y)
            rw [HSV2.out, sv_length, HCL.out] at hO6
            have hB6 := hB5.setCell (p := ⟨g, p0, none⟩) (hO5.lt g rfl).1 (.string y)
            have HO6 := Lib.hid hO6; clear hO6 hO5
            generalize tl C' p0 = o5 at *
            go_wp2
            go_roundw
            case rel => exact ⟨i + 1, C2, by omega, by go_num, HCL2, HCS2, by rw [HP2.out], by rw [HQ2.out], HO6, hB6⟩
            case measure => simp [intOf]; omega
        · obtain rfl : i = n2 := by omega
          have hR := HO.out.reads
          have hcall := HENC.out C' HCL.out HCS.out _ _ hR
          have HCALL := Lib.hid hcall; clear hcall hR hO'
          generalize bs (enP C') = P at *
          generalize bs (enQ C') = Q at *
          go_wp2_with fail
          refine (HCALL.out).mono ?_
          rintro e w5 ⟨rfl, hb5⟩
          have hB5 := below_then hB hB.size hb5
          go_wp2_with fail
          refine (wakes04 _).mono ?_
          rintro e w6 ⟨rfl, hb6⟩
          have hB6 := below_then hB5 hB5.size hb6
          go_wp2
          go_ret
          exact ⟨by simp, hB6⟩
    · have HKC := Lib.hid hkC; clear hkC
      obtain ⟨b2, off2, rfl, hc2⟩ := hcell2 (by omega)
      clear hcell2
      have hbl : b2 < w.heap.size := World.block_lt_of_cell? w _ (hc2 0 h0)
      have HC2 := Lib.hid hc2; clear hc2
      generalize T2.length = n2 at *
      have hn30 : ¬ ((n2 : Int) ≤ 30) := by omega
      have h30c : (30 : Nat) ≤ c2 := by omega
      go_enter Try.func7, Try.ntmps7
      go_wp2_with fail
      refine (HCUT.out).mono ?_
      rintro e w1 ⟨l, rfl, hO, hB1⟩
      obtain ⟨g, cap, rfl, hg1, hg2, hcap⟩ := hO.form (by rw [sv_length, HKC.out]; exact hk0)
      have hlk : (sv C).length = k := by rw [sv_length, HKC.out]
      rw [hlk] at hO hcap ⊢
      have hR := hO.reads
      clear hlk hcap
      go_wp2_with fail
      refine (HENC.out C HKC.out HSZ.out _ _ hR).mono ?_
      rintro e w2 ⟨rfl, hb2⟩
      have hB2 := below_then hB1 hB1.size hb2
      have hO2 := Lib.hid (hO.below hb2)
      clear hR hO
      have hP0 : bs (enP C) = bs (enP C) := rfl
      generalize hP : bs (enP C) = P
      generalize hQ : bs (enQ C) = Q
      have HP := Lib.hid hP; clear hP
      have HQ := Lib.hid hQ; clear hQ hP0
      go_wp2
      go_loopw [6, 7, 9, 10, 11, 12, 13, 40] (fun s6 s7 _ _ _ _ _ s40 wr => ∃ (i : Nat) (C' : List ByteArray), i ≤ 30 ∧ s40 = .int .i64 i ∧ Hid (C'.length = k) ∧ Hid (Siz C' m) ∧ s6 = .string (bs (enP C')) ∧ s7 = .string (bs (enQ C')) ∧ Hid (Own wr w.heap.size 9 (.slice (some ⟨g, 0, none⟩) k cap) (sv C')) ∧ Below w.heap.size w wr) (fun _ _ _ _ _ _ _ s40 _ => 30 - (intOf s40).toNat)
      case atStart => exact ⟨0, C, by omega, rfl, HKC, HSZ, by rw [HP.out], by rw [HQ.out], hO2, hB2⟩
      case round =>
        obtain ⟨i, C', hi, rfl, HCL, HCS, rfl, rfl, HO, hB⟩ := hrel
        clear hO2 HP HQ hb2 hB2 hB1 HCUT
        have hO' : Own wr w.heap.size 9 (.slice (some ⟨g, 0, none⟩) (sv C').length cap) (sv C') := by rw [sv_length, HCL.out]; exact HO.out
        by_cases hlt : i < 30
        · obtain ⟨p0, hp0⟩ : ∃ p0, i % k = p0 := ⟨_, rfl⟩
          have hp0k : p0 < k := by rw [← hp0]; exact Nat.mod_lt _ hk0
          have hmod := tmod_nat i k
          rw [hp0] at hmod
          clear hp0
          have f0 := hO'.cell 0 (by rw [sv_length, HCL.out]; exact hk0)
          rw [sv_at _ 0 (by rw [HCL.out]; exact hk0)] at f0
          have hgl : g < wr.heap.size := World.block_lt_of_cell? wr _ f0
          have hs0 : (tl C' 0).size = m := HCS.out 0 (by rw [HCL.out]; exact hk0)
          have hci := (hB.cell hbl).trans (HC2.out i (by omega))
          have hny : nowT T2 m i = (cut1 T2 60 i ++ bs (List.replicate 60 0)).extract 0 m := rfl
          have hnys := nowT_size T2 m i hm60
          obtain ⟨y, hy⟩ : ∃ y, nowT T2 m i = y := ⟨_, rfl⟩
          rw [hy] at hny hnys
          clear hy
          have hz8 : (bs (List.replicate 60 0)).size = 60 := rfl
          have hcv := conv60 wr
          have hm1 := mk60
          obtain ⟨W1, e1, HO1, HB1⟩ : ∃ W1, (wr.alloc (.cells (madeCells #[.int .u8 0] 60) 5)).drew = W1 ∧ Hid (Own W1 w.heap.size 9 (.slice (some ⟨g, 0, none⟩) (sv C').length cap) (sv C')) ∧ Hid (Below w.heap.size w W1) := ⟨_, rfl, Lib.hid ((hO'.alloc _).drew), Lib.hid ((hB.alloc hB.size _).drew)⟩
          have HE1 := Lib.hid e1; clear e1
          have hcall := HUPD.out C' HCL.out HCS.out p0 hp0k y hnys
          have HCALL := Lib.hid hcall; clear hcall
          clear hO'
          generalize bs (enP C') = P at *
          generalize bs (enQ C') = Q at *
          generalize hl0 : tl C' 0 = l0 at *
          clear hl0
          generalize bs (List.replicate 60 0) = z8 at *
          go_upto_region 8 with fail
          go_cut [11] (fun s11 wx => s11 = .string y ∧ W1 = wx)
          case first =>
            by_cases hsn : (tl T2 i).size ≤ 60
            · have h1 : cut1 T2 60 i = tl T2 i := by unfold cut1; rw [if_pos hsn]
              rw [h1] at hny
              generalize tl T2 i = s at *
              have hnl : ¬ ((60 : Int) < (s.size : Int)) := by omega
              have hnb : ¬ (9223372036854775807 < s.size + 60) := by omega
              have hfull : s.extract 0 s.size = s := ByteArray.extract_zero_size
              have has : (s ++ z8).size = s.size + z8.size := ByteArray.size_append
              clear h1
              subst hny
              generalize hyy : (s ++ z8).extract 0 m = y at *
              go_region
              go_wp2_with fail
              go_meet
              exact ⟨rfl, HE1.out.symm⟩
            · have h1 : cut1 T2 60 i = (tl T2 i).extract 0 60 := by unfold cut1; rw [if_neg hsn]
              rw [h1] at hny
              generalize tl T2 i = s at *
              have hnl : (60 : Int) < (s.size : Int) := by omega
              have hnb : (60 : Int) ≤ (s.size : Int) := by omega
              have hsz1 : (s.extract 0 60).size = 60 := by rw [ByteArray.size_extract]; omega
              generalize hs1 : s.extract 0 60 = s1 at *
              have has : (s1 ++ z8).size = s1.size + z8.size := ByteArray.size_append
              clear h1
              subst hny
              generalize hyy : (s1 ++ z8).extract 0 m = y at *
              go_region
              go_wp2_with fail
              go_meet
              exact ⟨rfl, HE1.out.symm⟩
          case rest =>
            obtain ⟨rfl, rfl⟩ := hcut
            clear HE1 hcv hm1 hny f0 hci hz8
            have fp := HO1.out.cell p0 (by rw [sv_length, HCL.out]; exact hp0k)
            rw [sv_at _ p0 (by rw [HCL.out]; exact hp0k)] at fp
            have hcl2 : (C'.set p0 y).length = k := by rw [List.length_set]; exact HCL.out
            have hcs2 := HCS.out.set_ p0 y hnys
            obtain ⟨C2, hC2⟩ : ∃ C2, C'.set p0 y = C2 := ⟨_, rfl⟩
            have hsv2 := sv_set C' p0 y
            rw [hC2] at hcl2 hcs2 HCALL hsv2
            have HCL2 := Lib.hid hcl2; clear hcl2
            have HCS2 := Lib.hid hcs2; clear hcs2
            have HSV2 := Lib.hid hsv2; clear hsv2 hC2
            obtain ⟨P2, hP2⟩ : ∃ P2, bs (enP C2) = P2 := ⟨_, rfl⟩
            obtain ⟨Q2, hQ2⟩ : ∃ Q2, bs (enQ C2) = Q2 := ⟨_, rfl⟩
            rw [hP2, hQ2] at HCALL
            have HP2 := Lib.hid hP2; clear hP2
            have HQ2 := Lib.hid hQ2; clear hQ2
            generalize tl C' p0 = o at *
            go_wp2_with fail
            refine (HCALL.out _).mono ?_
            rintro e w5 ⟨rfl, hb5⟩
            have hO5 := HO1.out.below hb5
            have hB5 := below_then HB1.out HB1.out.size hb5
            have fp5 := hO5.cell p0 (by rw [sv_length, HCL.out]; exact hp0k)
            rw [sv_at _ p0 (by rw [HCL.out]; exact hp0k)] at fp5
            have ff5 := hO5.frozen p0
            have hO6 := hO5.set_ p0 (.string y)
            rw [HSV2.out, sv_length, HCL.out] at hO6
            have hB6 := hB5.setCell (p := ⟨g, p0, none⟩) (hO5.lt g rfl).1 (.string y)
            have HO6 := Lib.hid hO6; clear hO6 hO5
            generalize tl C' p0 = o5 at *
            go_wp2
            go_roundw
            case rel => exact ⟨i + 1, C2, by omega, by go_num, HCL2, HCS2, by rw [HP2.out], by rw [HQ2.out], HO6, hB6⟩
            case measure => simp [intOf]; omega
        · obtain rfl : i = 30 := by omega
          have hR := HO.out.reads
          have hcall := HENC.out C' HCL.out HCS.out _ _ hR
          have HCALL := Lib.hid hcall; clear hcall hR hO'
          generalize bs (enP C') = P at *
          generalize bs (enQ C') = Q at *
          go_wp2_with fail
          refine (HCALL.out).mono ?_
          rintro e w5 ⟨rfl, hb5⟩
          have hB5 := below_then hB hB.size hb5
          go_wp2_with fail
          refine (wakes04 _).mono ?_
          rintro e w6 ⟨rfl, hb6⟩
          have hB6 := below_then hB5 hB5.size hb6
          go_wp2
          go_ret
          exact ⟨by simp, hB6⟩
  · have HKC := Lib.hid hkC; clear hkC
    have hz2 : T2.length = 0 := by omega
    rw [hz2] at hd1 ⊢
    clear hcell2 hz2 h0
    go_enter Try.func7, Try.ntmps7
    go_wp2_with fail
    refine (HCUT.out).mono ?_
    rintro e w1 ⟨l, rfl, hO, hB1⟩
    obtain ⟨g, cap, rfl, hg1, hg2, hcap⟩ := hO.form (by rw [sv_length, HKC.out]; exact hk0)
    have hlk : (sv C).length = k := by rw [sv_length, HKC.out]
    rw [hlk] at hO hcap ⊢
    have hR := hO.reads
    clear hlk hcap
    go_wp2_with fail
    refine (HENC.out C HKC.out HSZ.out _ _ hR).mono ?_
    rintro e w2 ⟨rfl, hb2⟩
    have hB2 := below_then hB1 hB1.size hb2
    have hO2 := Lib.hid (hO.below hb2)
    clear hR hO
    have hP0 : bs (enP C) = bs (enP C) := rfl
    generalize hP : bs (enP C) = P
    generalize hQ : bs (enQ C) = Q
    have HP := Lib.hid hP; clear hP
    have HQ := Lib.hid hQ; clear hQ hP0
    go_wp2
    go_loopw [6, 7, 9, 10, 11, 12, 13, 40] (fun s6 s7 _ _ _ _ _ s40 wr => ∃ (i : Nat) (C' : List ByteArray), i ≤ 0 ∧ s40 = .int .i64 i ∧ Hid (C'.length = k) ∧ Hid (Siz C' m) ∧ s6 = .string (bs (enP C')) ∧ s7 = .string (bs (enQ C')) ∧ Hid (Own wr w.heap.size 9 (.slice (some ⟨g, 0, none⟩) k cap) (sv C')) ∧ Below w.heap.size w wr) (fun _ _ _ _ _ _ _ s40 _ => 0 - (intOf s40).toNat)
    case atStart => exact ⟨0, C, by omega, rfl, HKC, HSZ, by rw [HP.out], by rw [HQ.out], hO2, hB2⟩
    case round =>
      obtain ⟨i, C', hi, rfl, HCL, HCS, rfl, rfl, HO, hB⟩ := hrel
      clear hO2 HP HQ hb2 hB2 hB1 HCUT
      have hO' : Own wr w.heap.size 9 (.slice (some ⟨g, 0, none⟩) (sv C').length cap) (sv C') := by rw [sv_length, HCL.out]; exact HO.out
      obtain rfl : i = 0 := by omega
      have hR := HO.out.reads
      have hcall := HENC.out C' HCL.out HCS.out _ _ hR
      have HCALL := Lib.hid hcall; clear hcall hR hO'
      generalize bs (enP C') = P at *
      generalize bs (enQ C') = Q at *
      go_wp2_with fail
      refine (HCALL.out).mono ?_
      rintro e w5 ⟨rfl, hb5⟩
      have hB5 := below_then hB hB.size hb5
      go_wp2_with fail
      refine (wakes04 _).mono ?_
      rintro e w6 ⟨rfl, hb6⟩
      have hB6 := below_then hB5 hB5.size hb6
      go_wp2
      go_ret
      exact ⟨by simp, hB6⟩
end Go.Proofs.Ytikgipohjoiagaa
