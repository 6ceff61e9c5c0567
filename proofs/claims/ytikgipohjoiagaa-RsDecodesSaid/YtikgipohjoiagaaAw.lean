/-
  The walk of matrix.Apply.
-/
import Derived.Test.YtikgipohjoiagaaAc
import Derived.Test.YtikgipohjoiagaaVa
import Derived.Test.YtikgipohjoiagaaWe
import Derived.Deep.RegionHeld3
namespace Go.Proofs.Ytikgipohjoiagaa
open Go.RowKit GfM

theorem info9' : (Try.prog.info? 9).map (fun i => (i.zero, i.size, i.bytes)) = some (some (.string ⟨#[]⟩), 1, 16) := by kernel_rfl
theorem make_texts (m : Nat) (hm : m ≤ 1000) : ∀ W : World, (Instr.makeSlice 22 (.int .i64 (m : Int)) (.int .i64 (m : Int))).run Try.prog W = .ok (.slice (some ⟨W.heap.size, 0, none⟩) m m) (W.alloc (.cells (madeCells #[.string ⟨#[]⟩] m) 9)) := by
  intro W
  exact run_make_row' 22 9 (.string ⟨#[]⟩) 16 Try.underlying22 info9' rfl .i64 .i64 m (by omega) (by omega) W
theorem Own.made_texts (W : World) (base n : Nat) (hb : base ≤ W.heap.size) (hn : n ≤ 1000) : Own (W.alloc (.cells (madeCells #[.string ⟨#[]⟩] n) 9)) base 9 (.slice (some ⟨W.heap.size, 0, none⟩) n n) (sv (List.replicate n ByteArray.empty)) := by
  have h := Own.lit_ W base 9 (madeCells #[.string ⟨#[]⟩] n) hb (by simp [size_madeCells, maxLen]; omega)
  have e1 : (madeCells #[Value.string ⟨#[]⟩] n).size = n := by simp [size_madeCells]
  have e2 : (madeCells #[Value.string ⟨#[]⟩] n).toList = sv (List.replicate n ByteArray.empty) := by rw [toList_madeCells_one]; simp only [sv, List.map_replicate]; rfl
  rwa [e1, e2] at h
/-- the texts that are made, r of them done. -/
def outT (A : List (List UInt8)) (T : List ByteArray) (r : Nat) : List ByteArray := (List.range A.length).map fun s => if s < r then bs (apRow A T (nn T) s T.length) else ByteArray.empty
theorem outT_length (A : List (List UInt8)) (T : List ByteArray) (r : Nat) : (outT A T r).length = A.length := by simp [outT]
theorem outT_zero (A : List (List UInt8)) (T : List ByteArray) : outT A T 0 = List.replicate A.length ByteArray.empty := by
  unfold outT
  apply List.ext_getElem (by simp)
  intro i h1 h2
  simp
theorem outT_all (A : List (List UInt8)) (T : List ByteArray) : outT A T A.length = apL A T := by
  unfold outT apL
  apply List.map_congr_left
  intro s hs
  rw [if_pos (by simpa using hs)]
theorem outT_next (A : List (List UInt8)) (T : List ByteArray) (r : Nat) (hr : r < A.length) : (outT A T r).set r (bs (apRow A T (nn T) r T.length)) = outT A T (r + 1) := by
  unfold outT
  apply List.ext_getElem?
  intro i
  rw [List.getElem?_set]
  by_cases e : r = i
  · subst e
    rw [if_pos rfl, if_pos (by simpa using hr), List.getElem?_map, List.getElem?_range hr]
    simp
  · rw [if_neg e, List.getElem?_map, List.getElem?_map]
    by_cases hi : i < A.length
    · rw [List.getElem?_range hi]
      simp only [Option.map_some]
      congr 1
      by_cases h2 : i < r
      · rw [if_pos h2, if_pos (by omega)]
      · rw [if_neg h2, if_neg (by omega)]
    · rw [List.getElem?_eq_none (by simpa using hi)]; rfl
theorem convN (W : World) (n : Nat) (hn : n ≤ 70000) : (convert 33 9 (.slice (some ⟨W.heap.size, 0, none⟩) n n)).run Try.prog (W.alloc (.cells (madeCells #[.int .u8 0] n) 5)) = .ok (.string (bs (List.replicate n 0))) (W.alloc (.cells (madeCells #[.int .u8 0] n) 5)) := by
  have hr := (Bytes.made_zero W n (by omega)).reads
  rw [List.length_replicate] at hr
  exact reads_string (P := Try.prog) (src := 33) (dst := 9) Try.underlying33 Try.underlying5 Try.underlying9 hr
theorem mkB0 (m : Nat) (hm : m ≤ 140737488355328) : ∀ W : World, (Instr.makeSlice 33 (.int .i64 (m : Int)) (.int .i64 (m : Int))).run Try.prog W = .ok (.slice (some ⟨W.heap.size, 0, none⟩) m m) (W.alloc (.cells (madeCells #[.int .u8 0] m) 5)) := make_bytes m hm
theorem set_set (C : List ByteArray) (r : Nat) (x y : ByteArray) : (C.set r x).set r y = C.set r y := by simp

set_option maxRecDepth 100000 in
set_option maxHeartbeats 4000000 in
theorem apply_any (w : World) (va : Value) (A : List (List UInt8)) (hA : RMat w va A) (vl : Value) (T : List ByteArray) (hT : Reads w vl (sv T)) :
    Calls Try.prog 34 #[va, vl] w fun e w' => ∃ v, e = .returned (.tuple #[v, .int .i64 (apE A T)]) ∧ Reads w' v (sv (apT A T)) ∧ Below w.heap.size w w' := by
  have hT0 := hT
  obtain ⟨A1, c1, rfl, hd1, hd2, hcellT⟩ := hT.texts2
  have hbx := Blk.new w 22 #[Value.slice A1 T.length c1]
  have hB0 : Below w.heap.size w (w.alloc (.cells #[.slice A1 T.length c1] 22)) := (Below.refl _ _).alloc (Nat.le_refl _) _
  obtain ⟨W0, hW0⟩ : ∃ W0, w.alloc (.cells #[.slice A1 T.length c1] 22) = W0 := ⟨_, rfl⟩
  rw [hW0] at hbx hB0
  have hg := good_any W0 va A (hA.below hB0)
  have hnil : ∀ W : World, Reads W (.slice none 0 0) (sv []) := fun W => ⟨none, 0, rfl, by simp [sv], by omega, fun h => absurd h (by simp [sv])⟩
  by_cases gA : goodM A = true
  · obtain ⟨a1, a2, a3, a4, aS⟩ := (good_iff A).1 gA
    obtain ⟨ba, oa, ca, rfl, hca, hba⟩ := hA.at_ (by omega)
    obtain ⟨A0, c0, hc0, _, _⟩ := hA.rowAt 0 (by omega)
    rw [Nat.add_zero] at hc0
    rw [gA] at hg
    have HG := Lib.hid hg; clear hg
    have HNIL := Lib.hid hnil; clear hnil
    have hp := hbx.lt
    by_cases hl : T.length = (A.getD 0 []).length
    · obtain ⟨b2, o2, rfl, hcT⟩ := hcellT (by omega)
      have hcT0 := hcT 0 (by omega)
      rw [Nat.add_zero] at hcT0
      rw [← hl] at hc0
      have hodd := fun W (hW : Below w.heap.size w W) (hx : W.cell? ⟨w.heap.size, 0, none⟩ = some (.slice (some ⟨b2, o2, none⟩) T.length c1)) => odd_any W T (.slice (some ⟨b2, o2, none⟩) T.length c1) ⟨w.heap.size, 0, none⟩ (hT0.below hW) hx (by omega)
      by_cases hev : Evn T
      · have hcf := fun W hW hx => (hodd W hW hx).1 hev
        have HCF := Lib.hid hcf; clear hcf hodd
        by_cases hlong : 65536 < (tl T 0).size
        · have e0 : apE A T = 5 := by unfold apE; rw [if_neg (by rw [gA]; decide), if_neg (by rintro (h | h); exact h hl; exact h hev), if_pos hlong]
          have e1 : apT A T = [] := by unfold apT; rw [if_neg (by rw [e0]; decide)]
          rw [e0, e1]
          have hk1 : 0 < T.length := by omega
          clear e0 e1 hcT hcellT hA hT hT0 aS hev hl a3 a4
          generalize tl T 0 = s0 at *
          generalize A.length = n at *
          generalize T.length = k at *
          have hn0 : (0 : Int) < (n : Int) := by omega
          have hn1 : 0 < n := by omega
          go_enter Try.func34, Try.ntmps34
          go_wp2_with fail
          refine (HG.out).mono ?_
          rintro e w1 ⟨rfl, hb1⟩
          have hB1 := below_then hB0 hB0.size hb1
          have hk0 := (hB1.cell (World.block_lt_of_cell? w _ hc0)).trans hc0
          have hbx1 := hbx.below hb1 hp
          have hxc := hbx1.cell 0
          have hkT := (hB1.cell (World.block_lt_of_cell? w _ hcT0)).trans hcT0
          go_upto_region 3 with fail
          go_cut [14] (fun s14 wx => s14 = .bool false ∧ Below w.heap.size w wx ∧ Blk wx w.heap.size 22 #[.slice (some ⟨b2, o2, none⟩) k c1])
          case first =>
            go_region_held3 (fun w' => w'.cell? ⟨w.heap.size, 0, none⟩ = some (.slice (some ⟨b2, o2, none⟩) k c1) ∧ w'.cell? ⟨ba, oa, none⟩ = some (.slice A0 k c0)) (first | assumption | go_keep | exact ⟨hxc, hk0⟩) (first | (go_at_call 46; refine (HCF.out _ hB1.drew hxc).mono ?_; rintro e w' ⟨rfl, rfl⟩))
            all_goals
              go_wp2_with fail
              go_meet
              exact ⟨rfl, hB1.drew, hbx1.drew⟩
          case rest =>
            clear hxc hbx1 hB1 hkT
            obtain ⟨rfl, hB1, hbx1⟩ := hcut
            have hxc := hbx1.cell 0
            have hkT := (hB1.cell (World.block_lt_of_cell? w _ hcT0)).trans hcT0
            go_wp2
            go_ret2
            exact ⟨_, rfl, HNIL.out _, hB1⟩
        · have hE0 : apE A T = 0 := apE_of gA hl hev (by unfold nn; omega)
          have e1 : apT A T = apL A T := by unfold apT; rw [if_pos hE0]
          rw [hE0, e1]
          have hk1 : 0 < T.length := by omega
          have hN : ∀ j, j < T.length → (tl T j).size = nn T := hev
          have hN6 : nn T ≤ 65536 := by unfold nn; omega
          have hn00 : (tl T 0).size = nn T := rfl
          have hsc : ∀ r c, r < A.length → c < T.length → (∀ W, Calls Try.prog 25 #[.int .u8 ((en A r c).toNat : Int), .string (tl T c)] W fun e w' => e = .returned (.string (bs ((tb T c).map (mul (en A r c))))) ∧ Below W.heap.size W w') ∧
              (∀ W, Calls Try.prog 24 #[.string (bs (apRow A T (nn T) r c)), .string (bs ((tb T c).map (mul (en A r c))))] W fun e w' => e = .returned (.string (bs (apRow A T (nn T) r (c + 1)))) ∧ Below W.heap.size W w') := by
            intro r c hr hc
            have h1 := hN c hc
            refine ⟨fun W => scale_ba _ _ rfl _ _ rfl (by rw [h1]; omega) W, fun W => xor_ba _ _ _ _ (bs_toList _).symm (bs_toList _).symm (by rw [bs_size, bs_size, List.length_map, tb_length, h1]; omega) W⟩
          have hel : ∀ r c, r < A.length → c < T.length → ∃ b1 o1 z1, w.cell? ⟨ba, oa + r, none⟩ = some (.slice (some ⟨b1, o1, none⟩) T.length z1) ∧ w.cell? ⟨b1, o1 + c, none⟩ = some (.int .u8 ((en A r c).toNat : Int)) := by
            intro r c hr hc
            have hlr : (A.getD r []).length = T.length := by rw [aS.2 r hr, hl]
            obtain ⟨b1, o1, z1, f1, f2, f3⟩ := hA.el r c hr (by rw [hlr]; exact hc)
            rw [hlr] at f1
            exact ⟨b1, o1, z1, f1, f3⟩
          have hap0 : ∀ r, bs (apRow A T (nn T) r 0) = bs (List.replicate (nn T) 0) := fun r => rfl
          have HSC := Lib.hid hsc; clear hsc
          have HEL := Lib.hid hel; clear hel
          have HAP0 := Lib.hid hap0; clear hap0
          have HCT := Lib.hid hcT
          have hO0 := outT_zero A T
          have hOA := outT_all A T
          have hON := outT_next A T
          have hOL := outT_length A T
          clear hE0 e1 hcT hcellT hA hT hT0 aS hev hl a3 a4 hlong
          have hmkn := convN
          generalize hs0 : tl T 0 = s0 at *
          generalize nn T = N at *
          obtain ⟨n, hnA⟩ : ∃ n, A.length = n := ⟨_, rfl⟩
          obtain ⟨k, hkT'⟩ : ∃ k, T.length = k := ⟨_, rfl⟩
          rw [hnA] at hO0 hOA hON HSC HEL hca HG a1 a2 ⊢
          simp only [hnA] at hOL
          rw [hkT'] at hc0 HSC HEL HCT HCF hd1 hW0 hbx hN hk1 hON ⊢
          have hm1 := make_texts n (by omega)
          have hm2 := mkB0 N (by omega)
          have hcv := fun W => convN W N (by omega)
          have HO0 := Lib.hid hO0; clear hO0
          have HOA := Lib.hid hOA; clear hOA
          have HON := Lib.hid hON; clear hON
          have HOL := Lib.hid hOL; clear hOL
          have HNA := Lib.hid hnA; clear hnA
          have HKT := Lib.hid hkT'; clear hkT' hs0 hN hmkn
          have hn0 : (0 : Int) < (n : Int) := by omega
          have hn1 : 0 < n := by omega
          have hn65 : ¬ (65536 < (s0.size : Int)) := by omega
          go_enter Try.func34, Try.ntmps34
          go_wp2_with fail
          refine (HG.out).mono ?_
          rintro e w1 ⟨rfl, hb1⟩
          have hB1 := below_then hB0 hB0.size hb1
          have hk0 := (hB1.cell (World.block_lt_of_cell? w _ hc0)).trans hc0
          have hbx1 := hbx.below hb1 hp
          have hxc := hbx1.cell 0
          have hkT := (hB1.cell (World.block_lt_of_cell? w _ hcT0)).trans hcT0
          go_upto_region 3 with fail
          go_cut [14] (fun s14 wx => s14 = .bool false ∧ Below w.heap.size w wx ∧ Blk wx w.heap.size 22 #[.slice (some ⟨b2, o2, none⟩) k c1])
          case first =>
            go_region_held3 (fun w' => w'.cell? ⟨w.heap.size, 0, none⟩ = some (.slice (some ⟨b2, o2, none⟩) k c1) ∧ w'.cell? ⟨ba, oa, none⟩ = some (.slice A0 k c0)) (first | assumption | go_keep | exact ⟨hxc, hk0⟩) (first | (go_at_call 46; refine (HCF.out _ hB1.drew hxc).mono ?_; rintro e w' ⟨rfl, rfl⟩))
            all_goals
              go_wp2_with fail
              go_meet
              exact ⟨rfl, hB1.drew, hbx1.drew⟩
          case rest =>
            clear hxc hbx1 hB1 hkT hk0 hb1
            obtain ⟨rfl, hB1, hbx1⟩ := hcut
            have hxc := hbx1.cell 0
            have hkT := (hB1.cell (World.block_lt_of_cell? w _ hcT0)).trans hcT0
            have hOt := Own.made_texts wc w.heap.size n hB1.size (by omega)
            have hB2 := hB1.alloc hB1.size (.cells (madeCells #[.string ⟨#[]⟩] n) 9)
            have hbx2 := hbx1.alloc (.cells (madeCells #[.string ⟨#[]⟩] n) 9)
            have hpG : w.heap.size ≠ wc.heap.size := Nat.ne_of_lt hbx1.lt
            rw [← HO0.out] at hOt
            obtain ⟨G, hG⟩ : ∃ G, wc.heap.size = G := ⟨_, rfl⟩
            have hGw : w.heap.size ≤ G := by rw [← hG]; exact hB1.size
            rw [hG] at hOt hpG
            go_wp2
            clear hm1 hxc hkT hB1 hbx1 hG
            go_loopw [7, 8, 9, 38, 52] (fun _ _ _ s38 _ wr => ∃ r : Nat, r ≤ n ∧ s38 = .int .i64 r ∧ Own wr w.heap.size 9 (.slice (some ⟨G, 0, none⟩) n n) (sv (outT A T r)) ∧ Blk wr w.heap.size 22 #[.slice (some ⟨b2, o2, none⟩) k c1] ∧ Below w.heap.size w wr) (fun _ _ _ s38 _ _ => n - (intOf s38).toNat)
            case atStart => exact ⟨0, by omega, rfl, hOt, hbx2, hB2⟩
            case round =>
              clear hOt hbx2 hB2
              obtain ⟨r, hr, rfl, hO, hbx, hB⟩ := hrel
              by_cases hlt : r < n
              · have hxc := hbx.cell 0
                have hkT := (hB.cell (World.block_lt_of_cell? w _ hcT0)).trans hcT0
                have hlen : (sv (outT A T r)).length = n := by rw [sv_length, HOL.out]
                have hO' : Own wr w.heap.size 9 (.slice (some ⟨G, 0, none⟩) (sv (outT A T r)).length n) (sv (outT A T r)) := by rw [hlen]; exact hO
                have hc9 := hO'.cell r (by rw [hlen]; exact hlt)
                rw [sv_at _ r (by rw [HOL.out]; exact hlt)] at hc9
                have hf9 := hO'.frozen r
                have hGl : G < wr.heap.size := (hO'.lt G rfl).2
                have hcvr := hcv wr
                obtain ⟨z0, hz0⟩ : ∃ z0, bs (List.replicate N 0) = z0 := ⟨_, rfl⟩
                rw [hz0] at hcvr
                have hO2 := (hO'.set_ r (.string z0)).alloc (.cells (madeCells #[.int .u8 0] N) 5)
                rw [sv_set, hlen] at hO2
                have hbx2 := (hbx.far (p := ⟨G, r, none⟩) hpG (.string z0)).alloc (.cells (madeCells #[.int .u8 0] N) 5)
                have hB2a := hB.setCell (p := ⟨G, r, none⟩) hGw (.string z0)
                have hB2 := hB2a.alloc hB2a.size (.cells (madeCells #[.int .u8 0] N) 5)
                have hxc2 : ((wr.setCell ⟨G, r, none⟩ (.string z0)).alloc (.cells (madeCells #[.int .u8 0] N) 5)).cell? ⟨w.heap.size, 0, none⟩ = some (.slice (some ⟨b2, o2, none⟩) k c1) := hbx2.cell 0
                clear hB2a hcv
                have HZ0 := Lib.hid hz0; clear hz0
                have HO2 := Lib.hid hO2
                have HX2 := Lib.hid hbx2
                have HB2 := Lib.hid hB2
                clear hO hO' hO2 hbx2 hB2 hlen
                generalize tl (outT A T r) r = old0 at *
                go_wp2
                clear hcvr hc9 hf9 hxc2
                go_loopw [8, 9, 52] (fun _ _ s52 wk => ∃ c : Nat, c ≤ k ∧ s52 = .int .i64 c ∧ Hid (Own wk w.heap.size 9 (.slice (some ⟨G, 0, none⟩) n n) (sv ((outT A T r).set r (bs (apRow A T N r c))))) ∧ Hid (Blk wk w.heap.size 22 #[.slice (some ⟨b2, o2, none⟩) k c1]) ∧ Hid (Below w.heap.size w wk)) (fun _ _ s52 _ => k - (intOf s52).toNat)
                case atStart => exact ⟨0, by omega, rfl, by rw [HAP0.out r, HZ0.out]; exact HO2, HX2, HB2⟩
                case round =>
                  clear HO2 HX2 HB2 hxc hkT hbx hB hGl HZ0
                  obtain ⟨c, hc, rfl, HO, HX, HB⟩ := hrel
                  have hB := HB.out
                  have hxc := HX.out.cell 0
                  by_cases hlc : c < k
                  · have hct := HCT.out c hlc
                    have hcl := (hB.cell (World.block_lt_of_cell? w _ hct)).trans hct
                    obtain ⟨b1, o1, z1, f1, f2⟩ := HEL.out r c hlt hlc
                    obtain ⟨q1, q2⟩ := HSC.out r c hlt hlc
                    have hlen : (sv ((outT A T r).set r (bs (apRow A T N r c)))).length = n := by rw [sv_length, List.length_set, HOL.out]
                    have hKc : ∀ W, Own W w.heap.size 9 (.slice (some ⟨G, 0, none⟩) n n) (sv ((outT A T r).set r (bs (apRow A T N r c)))) → W.cell? ⟨G, r, none⟩ = some (.string (bs (apRow A T N r c))) ∧ W.frozen? ⟨G, r, none⟩ = false ∧
                        Own (W.setCell ⟨G, r, none⟩ (.string (bs (apRow A T N r (c + 1))))) w.heap.size 9 (.slice (some ⟨G, 0, none⟩) n n) (sv ((outT A T r).set r (bs (apRow A T N r (c + 1))))) := by
                      intro W h
                      have h' : Own W w.heap.size 9 (.slice (some ⟨G, 0, none⟩) (sv ((outT A T r).set r (bs (apRow A T N r c)))).length n) (sv ((outT A T r).set r (bs (apRow A T N r c)))) := by rw [hlen]; exact h
                      refine ⟨?_, h'.frozen r, ?_⟩
                      · rw [h'.cell r (by rw [hlen]; exact hlt), sv_at _ r (by rw [List.length_set, HOL.out]; exact hlt), tl_set _ _ _ _ (by rw [HOL.out]; exact hlt), if_pos rfl]
                      · have := h'.set_ r (.string (bs (apRow A T N r (c + 1))))
                        rw [sv_set, hlen, set_set] at this
                        exact this
                    have HKC := Lib.hid hKc; clear hKc hlen
                    have HF1 := Lib.hid f1
                    have HF2 := Lib.hid f2
                    have HQ1 := Lib.hid q1
                    have HQ2 := Lib.hid q2
                    clear hct f1 f2 q1 q2
                    generalize hs1 : tl T c = s1 at *
                    clear hs1
                    have hra : (r : Int) < (n : Int) := by omega
                    have hrc : (c : Int) < (k : Int) := by omega
                    go_upto_region 15 with fail
                    refine region_apply (by kernel_rfl) _ ?hQ _ _ rfl G n r ba oa n ca b1 o1 k z1 c ((en A r c).toNat : Int) s1 (bs (apRow A T N r c)) (bs ((tb T c).map (mul (en A r c)))) (bs (apRow A T N r (c + 1))) hra hra hrc rfl rfl rfl rfl rfl
                        (fun W => Own W w.heap.size 9 (.slice (some ⟨G, 0, none⟩) n n) (sv ((outT A T r).set r (bs (apRow A T N r c)))) ∧ Blk W w.heap.size 22 #[.slice (some ⟨b2, o2, none⟩) k c1] ∧ Below w.heap.size w W) ?k0 ?kS ?kc ?kf ?ks ?sc ?xr ?f1 ?f2
                    case hQ =>
                      intro c0 a0 d0 v0 x0 h
                      simp only [Exit.then, Exit.inBlock] at h ⊢
                      first
                        | exact h
                        | (simp +zetaDelta only [Exit.then, Exit.inBlock, bodyPost] at h ⊢; exact h)
                        | (simp +zetaDelta [Exit.then, Exit.inBlock, bodyPost] at h)
                    case k0 => exact ⟨HO.out.drew, HX.out.drew, hB.drew⟩
                    case kS => exact fun W h => ⟨(h.2.2.cell (World.block_lt_of_cell? w _ HF1.out)).trans HF1.out, (h.2.2.cell (World.block_lt_of_cell? w _ HF2.out)).trans HF2.out⟩
                    case kc => exact fun W h => (HKC.out W h.1).1
                    case kf => exact fun W h => (HKC.out W h.1).2.1
                    case ks => exact fun W h => ⟨((h.2.2.setCell (p := ⟨G, r, none⟩) hGw _).cell (World.block_lt_of_cell? w _ HF1.out)).trans HF1.out, ((h.2.2.setCell (p := ⟨G, r, none⟩) hGw _).cell (World.block_lt_of_cell? w _ HF2.out)).trans HF2.out⟩
                    case sc => exact fun W h => (HQ1.out W).mono fun e w' q => ⟨q.1, h.1.below q.2, h.2.1.below q.2 h.2.1.lt, below_then h.2.2 h.2.2.size q.2⟩
                    case xr => exact fun W h => (HQ2.out W).mono fun e w' q => ⟨q.1, h.1.below q.2, h.2.1.below q.2 h.2.1.lt, below_then h.2.2 h.2.2.size q.2⟩
                    case f1 =>
                      intro _ _ _ _ _ _ _ _ _ _ _ _ _ _ _ _ _ w' h
                      simp only [frA1, Act.put, List.setIfInBounds_toArray, List.set_cons_zero, List.set_cons_succ]
                      have HOa := Lib.hid (HKC.out w' h.1).2.2
                      have HOb := Lib.hid (h.2.1.far (p := ⟨G, r, none⟩) hpG (.string (bs (apRow A T N r (c + 1)))))
                      have HOc := Lib.hid (h.2.2.setCell (p := ⟨G, r, none⟩) hGw (.string (bs (apRow A T N r (c + 1)))))
                      clear h
                      go_wp2
                      go_roundw
                      case rel => exact ⟨c + 1, by omega, by go_num, HOa, HOb, HOc⟩
                      case measure => simp [intOf]; omega
                    case f2 =>
                      intro _ _ _ _ _ _ _ _ _ _ _ _ _ _ _ _ _ w' h
                      simp only [frA2, Act.put, List.setIfInBounds_toArray, List.set_cons_zero, List.set_cons_succ]
                      have HOa := Lib.hid (HKC.out w' h.1).2.2
                      have HOb := Lib.hid (h.2.1.far (p := ⟨G, r, none⟩) hpG (.string (bs (apRow A T N r (c + 1)))))
                      have HOc := Lib.hid (h.2.2.setCell (p := ⟨G, r, none⟩) hGw (.string (bs (apRow A T N r (c + 1)))))
                      clear h
                      go_wp2
                      go_roundw
                      case rel => exact ⟨c + 1, by omega, by go_num, HOa, HOb, HOc⟩
                      case measure => simp [intOf]; omega
                  · obtain rfl : c = k := by omega
                    have hO9 := HO.out
                    rw [HON.out r (by rw [HNA.out] at *; exact hlt)] at hO9
                    have HO9 := Lib.hid hO9; clear hO9
                    go_wp2
                    go_roundw
                    case rel => exact ⟨r + 1, by omega, by go_num, HO9.out, HX.out, hB⟩
                    case measure => simp [intOf]; omega
              · obtain rfl : r = n := by omega
                have hR := hO.reads
                rw [HOA.out] at hR
                go_wp2
                go_ret2
                exact ⟨_, rfl, hR, hB⟩
      · have e0 : apE A T = 7 := by unfold apE; rw [if_neg (by rw [gA]; decide), if_pos (.inr hev)]
        have e1 : apT A T = [] := by unfold apT; rw [if_neg (by rw [e0]; decide)]
        rw [e0, e1]
        have hcf := fun W hW hx => (hodd W hW hx).2 hev
        have HCF := Lib.hid hcf; clear hcf hodd
        clear e0 e1 hcT hcellT hA hT hT0 aS hev hl a3 a4
        generalize tl T 0 = s0 at *
        generalize A.length = n at *
        generalize T.length = k at *
        have hn0 : (0 : Int) < (n : Int) := by omega
        have hn1 : 0 < n := by omega
        go_enter Try.func34, Try.ntmps34
        go_wp2_with fail
        refine (HG.out).mono ?_
        rintro e w1 ⟨rfl, hb1⟩
        have hB1 := below_then hB0 hB0.size hb1
        have hk0 := (hB1.cell (World.block_lt_of_cell? w _ hc0)).trans hc0
        have hbx1 := hbx.below hb1 hp
        have hxc := hbx1.cell 0
        go_wp2
        go_region_held3 (fun w' => w'.cell? ⟨w.heap.size, 0, none⟩ = some (.slice (some ⟨b2, o2, none⟩) k c1) ∧ w'.cell? ⟨ba, oa, none⟩ = some (.slice A0 k c0)) (first | assumption | go_keep | exact ⟨hxc, hk0⟩) (first | (go_at_call 46; refine (HCF.out _ hB1.drew hxc).mono ?_; rintro e w' ⟨rfl, rfl⟩))
        all_goals
          go_wp2
          go_ret2
          exact ⟨_, rfl, HNIL.out _, hB1.drew⟩
    · have e0 : apE A T = 7 := by unfold apE; rw [if_neg (by rw [gA]; decide), if_pos (.inl hl)]
      have e1 : apT A T = [] := by unfold apT; rw [if_neg (by rw [e0]; decide)]
      rw [e0, e1]
      have hb : (((T.length : Nat) : Int) != (((A.getD 0 []).length : Nat) : Int)) = true := by rw [bne_iff_ne]; omega
      clear e0 e1 hcellT hA hT hT0 aS hl
      generalize (A.getD 0 []).length = q at *
      generalize A.length = n at *
      generalize T.length = k at *
      go_enter Try.func34, Try.ntmps34
      go_wp2_with fail
      refine (HG.out).mono ?_
      rintro e w1 ⟨rfl, hb1⟩
      have hB1 := below_then hB0 hB0.size hb1
      have hk0 := (hB1.cell (World.block_lt_of_cell? w _ hc0)).trans hc0
      have hbx1 := (hbx.below hb1 hp).cell 0
      go_wp2
      go_region
      go_wp2
      go_ret2
      exact ⟨_, rfl, HNIL.out _, hB1.drew⟩
  · have e0 : apE A T = 4 := by unfold apE; rw [if_pos (by simpa using gA)]
    have e1 : apT A T = [] := by unfold apT; rw [if_neg (by rw [e0]; decide)]
    rw [e0, e1]
    have gA' : goodM A = false := by simpa using gA
    rw [gA'] at hg
    have HG := Lib.hid hg; clear hg gA gA' e0 e1 hcellT hT hT0
    generalize T.length = k at *
    have HNIL := Lib.hid hnil; clear hnil
    go_enter Try.func34, Try.ntmps34
    go_wp2_with fail
    refine (HG.out).mono ?_
    rintro e w1 ⟨rfl, hb1⟩
    go_wp2
    go_ret2
    exact ⟨_, rfl, HNIL.out _, below_then hB0 hB0.size hb1⟩
end Go.Proofs.Ytikgipohjoiagaa
