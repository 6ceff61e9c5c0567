/-
  The walk of the document's Invert; the walk of the law MatrixInverts.
-/
import Derived.Test.YtgphfhpobppmeaaTe
import Derived.Test.YtgphfhpobppmeaaTg
import Derived.Test.YtgphfhpobppmeaaRp
namespace Go.Proofs.Ytgphfhpobppmeaa
open Go.RowKit GfM

theorem adM_row (A : List (List UInt8)) (r : Nat) (hr : r < A.length) : (adM A).getD r [] = (List.range A.length).map fun c => mul (inv (det A.length (en A))) (det (A.length - 1) (wo (en A) c r)) := by
  unfold adM
  rw [List.getD_eq_getElem?_getD, List.getElem?_map, List.getElem?_range hr]; rfl
theorem adM_len (A : List (List UInt8)) : (adM A).length = A.length := by simp [adM]
theorem u8_zeroB {x : UInt8} (h : x = 0) : (((x.toNat : Nat) : Int) == 0) = true := by rw [h]; rfl
theorem u8_noB {x : UInt8} (h : x ≠ 0) : (((x.toNat : Nat) : Int) == 0) = false := by
  have := u8_ne h
  rw [bne_iff_ne] at this
  rw [beq_eq_false_iff_ne]; exact this
set_option maxRecDepth 100000 in
set_option maxHeartbeats 1000000 in
theorem rinvert_any (w : World) (v : Value) (A : List (List UInt8)) (hv : RMat w v A) :
    Calls Try.prog 13 #[v] w fun e w' => ∃ v', e = .returned (.tuple #[v', .int .i64 (adOut A).2]) ∧ RMat w' v' (adOut A).1 ∧ Below w.heap.size w w' := by
  have hgd := rgood_any w v A hv
  by_cases hg : goodM A = false
  · have e : adOut A = ([], 4) := by unfold adOut; rw [if_pos hg]
    rw [e]
    rw [hg] at hgd
    have HG := Lib.hid hgd; clear hgd hg e hv
    go_enter Try.func13, Try.ntmps13
    go_wp2_with fail
    refine (HG.out).mono ?_
    rintro e w1 ⟨rfl, hB1⟩
    go_wp2
    go_ret2
    exact ⟨_, rfl, RMat.nil_ _, hB1⟩
  · have hg' : goodM A = true := by simpa using hg
    obtain ⟨n1, n2, n3, n4, n5⟩ := (good_iff A).1 hg'
    rw [hg'] at hgd
    have HG := Lib.hid hgd; clear hgd
    obtain ⟨b, o, cp, rfl, hcp, hbw⟩ := hv.at_ (by omega)
    obtain ⟨Ar, cr, hr0, hrc, _⟩ := hv.rowAt 0 (by omega)
    rw [Nat.add_zero] at hr0
    by_cases hs : A.length ≠ (A.getD 0 []).length
    · have e : adOut A = ([], 7) := by unfold adOut; rw [if_neg hg, if_pos hs]
      rw [e]
      have hne := bneN hs
      have hpos : (0 : Nat) < A.length := by omega
      clear e hg hg' hs n5 hv
      generalize A.length = n at *
      generalize (A.getD 0 []).length = m at *
      go_enter Try.func13, Try.ntmps13
      go_wp2_with fail
      refine (HG.out).mono ?_
      rintro e w1 ⟨rfl, hB1⟩
      have hr1 := (hB1.cell hbw).trans hr0
      go_wp2
      go_ret2
      exact ⟨_, rfl, RMat.nil_ _, hB1⟩
    · have hs' : A.length = (A.getD 0 []).length := by simpa using hs
      have hS : Shp A A.length A.length := ⟨rfl, fun r hr => by rw [n5.2 r hr]; exact hs'.symm⟩
      have hne := bneN_same hs'
      have HV := Lib.hid hv
      have hdet := fun W (h : Below w.heap.size w W) => rdet_any A.length W _ A (hv.below h) hS n2
      have HDET := Lib.hid hdet; clear hdet
      rw [← hs'] at hr0 hne
      by_cases hd : det A.length (en A) = 0
      · have e : adOut A = ([], 6) := by unfold adOut; rw [if_neg hg, if_neg hs, if_pos hd]
        rw [e]
        rw [hd] at HDET
        clear e hg hg' hs hs' n5 hv hd hS
        generalize A.length = n at *
        go_enter Try.func13, Try.ntmps13
        go_wp2_with fail
        refine (HG.out).mono ?_
        rintro e w1 ⟨rfl, hB1⟩
        have hr1 := (hB1.cell hbw).trans hr0
        go_wp2_with fail
        refine (HDET.out _ hB1).mono ?_
        rintro e w2 ⟨rfl, hb2⟩
        have hB2 := below_then hB1 hB1.size hb2
        go_wp2
        go_ret2
        exact ⟨_, rfl, RMat.nil_ _, hB2⟩
      · have e : adOut A = (adM A, 0) := by unfold adOut; rw [if_neg hg, if_neg hs, if_neg hd]
        rw [e]
        obtain ⟨m, hm⟩ : ∃ m, A.length = m + 1 := ⟨A.length - 1, by omega⟩
        have hdz := u8_noB hd
        have HROW := Lib.hid (adM_row A)
        have HTK := Lib.hid (take_rows (adM A))
        have HLN := Lib.hid (adM_len A)
        have hwt := fun W (h : Below w.heap.size w W) r c => without_any W _ A (hv.below h) (m + 1) (by rw [← hm]; exact hS) (by omega) (by omega) c r c rfl
        have hdt := fun r c (hr : r ≤ m) (hc : c ≤ m) => wL_det A m c r hc hr
        have hws := fun r c (hr : r ≤ m) (hc : c ≤ m) => wL_shp A m c r hc hr
        have hdd := fun W u c r (hc : c ≤ m) (hr : r ≤ m) (h : RMat W u (wL A (m + 1) c r (m + 1))) => rdet_any m W u _ h (hws r c hr hc) (by omega)
        have hdd2 : ∀ W u c r, c ≤ m → r ≤ m → RMat W u (wL A (m + 1) c r (m + 1)) → Calls Try.prog 32 #[u] W fun e w' => e = .returned (.int .u8 ((det m (wo (en A) c r)).toNat : Int)) ∧ Below W.heap.size W w' := fun W u c r hc hr h => by
          have := hdd W u c r hc hr h
          rw [hdt r c hr hc] at this
          exact this
        have HWT := Lib.hid hwt; clear hwt
        have HDD := Lib.hid hdd2; clear hdd2 hdd hws hdt
        have e1 : A.length - 1 = m := by omega
        rw [e1] at HROW
        have hm15 : m ≤ 15 := by omega
        rw [hm] at HG HWT HROW HDET hr0 hne hcp hdz ⊢
        rw [hm] at HLN
        clear e hg hg' hs hs' n5 hv hd hS e1 hm hrc n3 n4
        generalize det (m + 1) (en A) = d at *
        have hinv : ∀ W, Calls Try.prog 33 #[.int .u8 (d.toNat : Int)] W fun e w' => e = .returned (.int .u8 ((inv d).toNat : Int)) ∧ Below W.heap.size W w' := fun W => rinv_any _ d rfl W
        have HINV := Lib.hid hinv; clear hinv
        generalize inv d = di at *
        go_enter Try.func13, Try.ntmps13
        go_wp2_with fail
        refine (HG.out).mono ?_
        rintro e w1 ⟨rfl, hB1⟩
        have hr1 := (hB1.cell hbw).trans hr0
        go_wp2_with fail
        refine (HDET.out _ hB1).mono ?_
        rintro e w2 ⟨rfl, hb2⟩
        have hB2 := below_then hB1 hB1.size hb2
        clear hr1 hr0
        go_wp2_with fail
        refine (HINV.out _).mono ?_
        rintro e w3 ⟨rfl, hb3⟩
        have hB3 := below_then hB2 hB2.size hb3
        clear hb2 hb3 hB2 hB1
        go_wp2
        go_loopw [7, 8, 9, 10, 11, 12] (fun s7 s8 _ _ _ _ wr => ∃ i : Nat, i ≤ m + 1 ∧ s8 = .int .i64 i ∧ Hid (ORows wr w.heap.size s7 ((adM A).take i)) ∧ Below w.heap.size w wr) (fun _ s8 _ _ _ _ _ => m + 1 - (intOf s8).toNat)
        case atStart => exact ⟨0, by omega, rfl, Lib.hid (by rw [List.take_zero]; exact ORows.nil_ _ _), hB3⟩
        case round =>
          clear hB3
          obtain ⟨i, hi, rfl, HO, hB⟩ := hrel
          by_cases hlt : i < m + 1
          · obtain ⟨wq, rfl⟩ : ∃ wq : World, wq = wr := ⟨_, rfl⟩
            have hin : (i : Int) < (m : Int) + 1 := by omega
            have hrow := HROW.out i hlt
            have HRW := Lib.hid hrow; clear hrow
            have HTK2 := Lib.hid (HTK.out i (by rw [HLN.out]; exact hlt))
            go_wp2
            go_loopw [9, 10, 11, 12] (fun s9 s10 _ _ wk => ∃ j : Nat, j ≤ m + 1 ∧ s10 = .int .i64 j ∧ Hid (Own wk wq.heap.size 5 s9 (bv (((List.range (m + 1)).map fun c => mul di (det m (wo (en A) c i))).take j))) ∧ Below wq.heap.size wq wk) (fun _ s10 _ _ _ => m + 1 - (intOf s10).toNat)
            case atStart => exact ⟨0, by omega, rfl, Lib.hid (Own.nil_ _ _ _), Below.refl _ _⟩
            case round =>
              obtain ⟨j, hj, rfl, HR, hBi⟩ := hrel
              by_cases hlj : j < m + 1
              · have hjn : (j : Int) < (m : Int) + 1 := by omega
                have hbk := below_then hB hB.size hBi
                have hw1 := HWT.out _ hbk i j
                have HW1 := Lib.hid hw1; clear hw1
                have hd1 := fun W u h => HDD.out W u j i (by omega) (by omega) h
                have HD1 := Lib.hid hd1; clear hd1
                have HT := Lib.hid (take_map_range (fun c => mul di (det m (wo (en A) c i))) (m + 1) j hlj)
                have hL : ((bv (((List.range (m + 1)).map fun c => mul di (det m (wo (en A) c i))).take j)).length + 1) * 1 ≤ 140737488355328 := by rw [bv_length, List.length_take]; simp; omega
                have HL := Lib.hid hL; clear hL
                obtain ⟨y, hy⟩ : ∃ y, det m (wo (en A) j i) = y := ⟨_, rfl⟩
                have hone : bv [mul di (det m (wo (en A) j i))] = [.int .u8 ((mul di y).toNat : Int)] := by rw [hy]; rfl
                have HONE := Lib.hid hone; clear hone
                rw [hy] at HD1
                clear hy
                have hmul : ∀ W, Calls Try.prog 35 #[.int .u8 (di.toNat : Int), .int .u8 (y.toNat : Int)] W fun e w' => e = .returned (.int .u8 ((mul di y).toNat : Int)) ∧ Below W.heap.size W w' := fun W => rmul_any _ _ di y rfl rfl W
                have HM := Lib.hid hmul; clear hmul
                generalize mul di y = x at *
                go_wp2_with fail
                refine (HW1.out).mono ?_
                rintro e w5 ⟨vl, rfl, hL5, hb⟩
                have hB5 := below_then hBi hBi.size hb
                have HL5 := Lib.hid hL5
                have HR5 := Lib.hid (HR.out.below hb)
                clear hL5 hb HR
                go_wp2_with fail
                refine (HD1.out _ _ HL5.out).mono ?_
                rintro e w6 ⟨rfl, hb⟩
                have hB6 := below_then hB5 hB5.size hb
                have HR6 := Lib.hid (HR5.out.below hb)
                clear hb HR5 HL5 hB5
                go_wp2_with fail
                refine (HM.out _).mono ?_
                rintro e w7 ⟨rfl, hb⟩
                have hB7 := below_then hB6 hB6.size hb
                have HR7 := Lib.hid (HR6.out.below hb)
                clear hb HR6 hB6
                go_wp2_with (at_builtin; refine append_one wq.heap.size rfl (.tmp 50) (.tmp 52) 37 5 (.int .u8 0) 1 rfl Try.underlying37 info5 rfl (by decide) _ _ (.int .u8 (x.toNat : Int)) rfl rfl rfl HR7.out hB7 hB7.size HL.out ?_; intro v1 w8 hO2 hB8 _ _)
                go_roundw
                case rel => exact ⟨j + 1, by omega, by go_num, Lib.hid (by rw [HT.out, bv_append, HONE.out]; exact hO2), hB8⟩
                case measure => simp [intOf]; omega
              · obtain rfl : j = m + 1 := by omega
                obtain ⟨vs, v1, v2, v3⟩ := HO.out
                have hy := HR.out
                rw [List.take_of_length_le (by simp), ← HRW.out] at hy
                obtain ⟨Ay, cy, rfl⟩ := hy.shape
                have hL : (vs.length + 1) * 24 ≤ 140737488355328 := by rw [v1, List.length_take, HLN.out]; omega
                have HL := Lib.hid hL; clear hL
                have HY := Lib.hid hy; clear hy
                have H1 := Lib.hid v1; clear v1
                have H2 := Lib.hid v2; clear v2
                have H3 := Lib.hid v3; clear v3
                have HV2 := Lib.hid (H2.out.below hBi)
                have hBk := below_then hB hB.size hBi
                go_wp2_with (at_builtin; refine append_one w.heap.size rfl (.tmp 54) (.tmp 56) 22 37 (.slice none 0 0) 24 rfl Try.underlying22 infoB rfl (by decide) _ vs (.slice Ay _ cy) rfl rfl rfl HV2.out hBk hBk.size HL.out ?_; intro v4 w9 hO4 hB4 hg4 _
                             have hOR := ORows.push_row H1.out H2.out H3.out hBi hB.size HY.out hg4 hO4
                             rw [← HTK2.out] at hOR)
                go_roundw
                case rel => exact ⟨i + 1, by omega, by go_num, Lib.hid hOR, hB4⟩
                case measure => simp [intOf]; omega
          · obtain rfl : i = m + 1 := by omega
            have hr := HO.out.reads
            rw [List.take_of_length_le (by rw [HLN.out]; omega)] at hr
            go_wp2
            go_ret2
            exact ⟨_, rfl, hr, hB⟩

/-! ### the law -/
set_option maxRecDepth 100000 in
set_option maxHeartbeats 1000000 in
theorem matrixInverts_go (w : World) (v : Value) (sq : Bool) (hfew : Calls Try.prog 10 #[v, .int .i64 4, .bool sq] w fun e w' => ∃ v' M, e = .returned v' ∧ RMat w' v' M ∧ M.length ≤ 4 ∧ (∀ r, r < M.length → (M.getD r []).length ≤ 4) ∧ Below w.heap.size w w') :
    Calls Try.prog 3 #[v, .bool sq] w fun e w' => e = .returned (.bool true) ∧ Below w.heap.size w w' := by
  have HFEW := Lib.hid hfew; clear hfew
  go_enter Try.func3, Try.ntmps3
  go_wp2_with fail
  refine (HFEW.out).mono ?_
  rintro e w1 ⟨vm, M, rfl, hRm, hl4, hr4, hB1⟩
  have hcp := copied_any w1 vm M hRm (by omega) (fun r hr => by have := hr4 r hr; omega)
  have HCP := Lib.hid hcp; clear hcp
  have HRm := Lib.hid hRm
  clear hRm hr4
  go_wp2_with fail
  refine (HCP.out).mono ?_
  rintro e w2 ⟨vc, rfl, hRc, hb⟩
  have hB2 := below_then hB1 hB1.size hb
  have HRm2 := Lib.hid (HRm.out.below hb)
  have HIV := Lib.hid (invert_any w2 vc M hRc)
  clear hb hRc HRm HCP
  go_wp2_with fail
  refine (HIV.out).mono ?_
  rintro e w3 ⟨va, X, e0, rfl, hRa, hInv, hb⟩
  have hB3 := below_then hB2 hB2.size hb
  have HRm3 := Lib.hid (HRm2.out.below hb)
  obtain ⟨hX, he0⟩ := ad_same hInv
  have HRI := Lib.hid (rinvert_any w3 vm M HRm3.out)
  rw [← hX, ← he0] at HRI
  have HRA := Lib.hid hRa
  clear hb hRa hInv hX he0 HRm2 HIV
  go_wp2_with fail
  refine (HRI.out).mono ?_
  rintro e w4 ⟨vb, rfl, hRb, hb⟩
  have hB4 := below_then hB3 hB3.size hb
  have HRA4 := Lib.hid (HRA.out.below hb)
  have HRB4 := Lib.hid hRb
  clear hb hRb HRI HRA
  go_wp2_with fail
  refine (wakes03 _).mono ?_
  rintro e w5 ⟨rfl, hb⟩
  have hB5 := below_then hB4 hB4.size hb
  have HSM := Lib.hid (same_self w5 va vb X (HRA4.out.below hb) (HRB4.out.below hb))
  clear hb
  go_wp2_with fail
  refine (HSM.out).mono ?_
  rintro e w6 ⟨rfl, hb⟩
  have hB6 := below_then hB5 hB5.size hb
  go_wp2
  go_ret
  exact ⟨rfl, hB6⟩
theorem matrixInverts_walk (w : World) (v : Value) (x : List (List UInt8)) (hv : RMat w v x) (sq : Bool) :
    Calls Try.prog 3 #[v, .bool sq] w fun e w' => e = .returned (.bool true) ∧ Below w.heap.size w w' := by
  refine matrixInverts_go w v sq ?_
  cases sq
  · exact fewr_any w v x hv 4 (by decide) (by decide) 4 rfl
  · refine (few_any w v x hv 4 (by decide) (by decide) 4 rfl).mono ?_
    rintro e w1 ⟨v', M, he, hR, hS, hB⟩
    have h4 : min x.length 4 ≤ 4 := Nat.min_le_right _ _
    exact ⟨v', M, he, hR, by rw [hS.1]; exact h4, fun r hr => by rw [hS.2 r (by rw [← hS.1]; exact hr)]; exact h4, hB⟩
end Go.Proofs.Ytgphfhpobppmeaa
