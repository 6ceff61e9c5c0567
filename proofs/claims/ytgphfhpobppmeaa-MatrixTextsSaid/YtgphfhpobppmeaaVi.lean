/-
  The walk of matrix.Invert.
-/
import Derived.Test.YtgphfhpobppmeaaWz
import Derived.Test.YtgphfhpobppmeaaVr
namespace Go.Proofs.Ytgphfhpobppmeaa
open Go.RowKit GfM

theorem clr_step (m : List (List UInt8)) (r c : Nat) (hr : r < m.length) (q : Nat) : clr (fun q => m.getD q []) r c c q = (clearStep m c r).getD q [] := by
  unfold clr clearStep
  by_cases e : r = c
  · rw [if_pos e, if_pos e]
  · rw [if_neg e, if_neg e]
    unfold addM
    rw [getD_set _ _ _ _ hr]
    unfold upd
    by_cases h : q = r
    · rw [if_pos h, if_pos h]; rfl
    · rw [if_neg h, if_neg h]
set_option maxRecDepth 100000 in
set_option maxHeartbeats 4000000 in
theorem invert_any (w : World) (va : Value) (A : List (List UInt8)) (hA : RMat w va A) :
    Calls Try.prog 11 #[va] w fun e w' => ∃ v X e0, e = .returned (.tuple #[v, .int .i64 e0]) ∧ RMat w' v X ∧ InvR A X e0 ∧ Below w.heap.size w w' := by
  have hgA := good_any w va A hA
  by_cases gA : goodM A = true
  · obtain ⟨a1, a2, a3, a4, aS⟩ := (good_iff A).1 gA
    obtain ⟨ba, oa, ca, rfl, hca, hba⟩ := hA.at_ (by omega)
    by_cases hsq : A.length = (A.getD 0 []).length
    · have hfin : ∀ X e, InvOut A A.length X e → InvR A X e := fun X e h => .done gA hsq h
      have hdI : (((A.length : Nat) : Int) != (((A.getD 0 []).length : Nat) : Int)) = false := by rw [← hsq]; simp
      rw [gA] at hgA
      have HGA := Lib.hid hgA; clear hgA
      have hS : Shp A A.length A.length := ⟨rfl, fun r hr => by rw [aS.2 r hr, ← hsq]⟩
      have ha0 := fun W (h : Below w.heap.size w W) => (hA.below h).rowAt 0 (by omega)
      clear gA aS a3 a4 hsq
      have hAA := aug_shp hS
      obtain ⟨n, hn⟩ : ∃ n, A.length = n := ⟨_, rfl⟩
      rw [hn] at a1 a2 hca HGA hA hfin hdI hS hAA ⊢
      generalize (A.getD 0 []).length = q at *
      have hm1 := make_rows n (by omega)
      have HN := Lib.hid hn; clear hn
      have HF := Lib.hid hfin; clear hfin
      have HS := Lib.hid hS; clear hS
      have HAA := Lib.hid hAA; clear hAA
      go_enter Try.func11, Try.ntmps11
      go_wp2_with fail
      refine HGA.out.mono ?_
      rintro e w1 ⟨rfl, hb1⟩
      obtain ⟨A0, c0, hc0, _, _⟩ := ha0 _ hb1
      rw [Nat.add_zero] at hc0
      go_wp2_with fail
      have hB0 := below_alloc hb1 (.cells (madeCells #[.slice none 0 0] n) 37)
      have hM0 := OM.made w1 n (fun r => (aug A n).getD r [])
      obtain ⟨G, hG⟩ : ∃ G, w1.heap.size = G := ⟨_, rfl⟩
      have hGw : w.heap.size ≤ G := by have := hb1.size; omega
      rw [hG] at hM0 ⊢
      clear hm1 hc0 ha0 hG hb1
      have hB0 := Lib.hid hB0
      go_loopw [6, 31] (fun _ s31 wr => ∃ i : Nat, i ≤ n ∧ s31 = .int .i64 i ∧ OM wr G G n i (fun r => (aug A n).getD r []) ∧ Below w.heap.size w wr) (fun _ s31 _ => n - (intOf s31).toNat)
      case atStart => exact ⟨0, by omega, rfl, hM0, hB0.out⟩
      case round =>
        clear hM0 hB0
        obtain ⟨i, hi, rfl, hM, hB⟩ := hrel
        by_cases hlt : i < n
        · obtain ⟨x1, y1, hx1, hy1, hR1⟩ := (hA.below hB).rowAt i (by rw [HN.out]; exact hlt)
          have hl1 := HS.out.2 i hlt
          have hau := aug_row A n i hlt
          rw [hl1] at hx1 hy1
          have hcl := clone_any wr (A.getD i []) x1 y1 hR1 (by omega) (by omega)
          rw [hl1] at hcl
          have HCL := Lib.hid hcl; clear hcl hR1
          have HL := Lib.hid hl1; clear hl1
          have HAU := Lib.hid hau; clear hau
          have hGl := hM.lt
          go_wp2_with fail
          refine HCL.out.mono ?_
          rintro e w2 ⟨v, rfl, hO, hb2⟩
          have HO := Lib.hid hO; clear hO
          have hpush := fun v w3 h1 h2 => hM.push (w3 := w3) (v := v) (l := A.getD i [] ++ List.replicate n 0) h1 h2 (j := n + i) (by rw [List.length_append, List.length_replicate, HL.out]; omega) hlt 1 (fun r => (aug A n).getD r []) (fun r hr => by
            rw [aug_set _ _ _ HL.out]
            unfold upd
            by_cases e : r = i
            · subst e; rw [if_pos rfl, HAU.out]
            · rw [if_neg e])
          rw [List.length_append, HL.out, List.length_replicate] at hpush
          generalize (A.getD i [] ++ List.replicate n 0).getD (n + i) 0 = old at *
          have HPU := Lib.hid hpush; clear hpush
          have hl140 : (A.getD i []).length + n ≤ 140737488355328 := by rw [HL.out]; omega
          have HL140 := Lib.hid hl140; clear hl140
          go_wp2_with (at_builtin; refine append_zeros8 wr.heap.size rfl (.tmp 40) (.tmp 41) 37 3 rfl Try.underlying37 Try.underlying3 info5 _ (A.getD i []) .i64 n rfl rfl HO.out hb2 hb2.size HL140.out ?_; intro v1 w3 hO1 hB3 _ _; obtain ⟨g1, k1, rfl, t1, t2, t3, t4, t5, t6, t7, t8, t9, t10, t11, t12, hM1⟩ := HPU.out _ _ hB3 hO1; have HM1 := Lib.hid hM1; clear hO1 hM1)
          go_roundw
          case rel => exact ⟨i + 1, by omega, by go_num, HM1.out, ((below_then hB hB.size hB3).setCell (by simp; omega) _).setCell (by simp; omega) _⟩
          case measure => simp [intOf]; omega
        · obtain rfl : i = n := by omega
          obtain ⟨wo, rfl⟩ : ∃ wo : World, wo = wr := ⟨_, rfl⟩
          go_wp2
          go_loopw [7, 8, 9, 10, 11, 54, 106] (fun _ _ _ _ _ s54 _ wi => ∃ (c : Nat) (m : List (List UInt8)), c ≤ i ∧ s54 = .int .i64 c ∧ OM wi G G i i (fun r => m.getD r []) ∧ Hid (Shp m i (2 * i) ∧ GfM.Steps i (aug A i) m ∧ GfM.Unit i c m) ∧ Below w.heap.size w wi) (fun _ _ _ _ _ s54 _ _ => i - (intOf s54).toNat)
          case atStart => exact ⟨0, aug A i, by omega, rfl, hM, Lib.hid ⟨HAA.out, .refl _, fun r j _ hj => absurd hj (by omega)⟩, hB⟩
          case round =>
            clear hM hB
            obtain ⟨c, m, hc, rfl, hM, HP, hB⟩ := hrel
            by_cases hlc : c < i
            · have hfind := fun W (hM' : OM W G G i i fun r => m.getD r []) (hp : Blk W wr.heap.size 3 #[.int .i64 c]) => find_any hM' (by omega) c hlc (fun r hr => by rw [HP.out.1.2 r hr]; omega) _ hp
              have hsp := firstI_spec (i - c) (fun r => decide ((m.getD (c + r) []).getD c 0 ≠ 0)) 0
              rcases hsp with ⟨e1, e2⟩ | ⟨j, _, hj, e1, e2⟩
              · rw [e1] at hfind
                have hz : ∀ r, c ≤ r → r < i → en m r c = 0 := fun r h1 h2 => by
                  have := e2 (r - c) (by omega) (by omega)
                  rw [show c + (r - c) = r by omega] at this
                  simpa [en] using this
                have hfin := HF.out _ _ (InvOut.sing HP.out.2.1 hlc HP.out.2.2 hz)
                have HFI := Lib.hid hfin; clear hfin e1 e2 hz
                have HFD := Lib.hid hfind; clear hfind
                go_wp2_with fail
                refine (HFD.out _ (hM.alloc _) (Blk.new _ _ _)).mono ?_
                rintro e w2 ⟨rfl, rfl⟩
                go_wp2
                go_ret2
                exact ⟨_, _, _, rfl, RMat.nil_ _, HFI.out, hB.alloc hB.size _⟩
              · rw [e1] at hfind
                have hne : en m (c + j) c ≠ 0 := by simpa [en] using e2
                obtain ⟨hS, hSt, hU⟩ := HP.out
                have hcj : c + j < i := by omega
                have hS' := swap_shp hS hlc hcj
                have hSt' := hSt.swap hlc hcj
                have hU' := hU.swap hS hlc (Nat.le_add_right c j) hcj
                have hne' : en (swapM m c (c + j)) c c ≠ 0 := by
                  rw [en_swap hS hlc hcj]
                  by_cases h : c = c + j
                  · rw [if_pos h]; rw [← h] at hne; exact hne
                  · rw [if_neg h, if_pos rfl]; exact hne
                have hfd : ∀ W, OM W G G i i (fun r => m.getD r []) → Blk W wr.heap.size 3 #[.int .i64 c] → Below w.heap.size w W → Calls Try.prog 27 #[.slice (some ⟨G, c, none⟩) (i - c) (i - c), .func (.func 28) #[] #[.pointer (some ⟨wr.heap.size, 0, none⟩)]] W fun e w' => e = .returned (.int .i64 j) ∧ OM w' G G i i (fun r => m.getD r []) ∧ Blk w' wr.heap.size 3 #[.int .i64 c] ∧ Below w.heap.size w w' := fun W h1 h2 h3 => (hfind W h1 h2).mono fun _ _ h => ⟨h.1, h.2 ▸ h1, h.2 ▸ h2, h.2 ▸ h3⟩
                have HFD := Lib.hid hfd; clear hfind hfd e1 e2 hne hSt hU HP
                go_wp2_with fail
                refine (HFD.out _ (hM.alloc _) (Blk.new _ _ _) (hB.alloc hB.size _)).mono ?_
                clear hM hB
                obtain ⟨p, hp⟩ : ∃ p, wr.heap.size = p := ⟨_, rfl⟩
                rw [hp]
                rintro e w2 ⟨rfl, hM, hbx, hB⟩
                have hbc := hbx.cell 0
                have hbl := hbx.lt
                have hGl := hM.lt
                have hf1 := hM.frozen c
                have hf2 := hM.frozen (c + j)
                have hpG : p ≠ G := fun e => by
                  obtain ⟨_, _, gs, ks, h3, _⟩ := hM
                  unfold Blk at h3 hbx
                  rw [e, h3] at hbx
                  injection hbx with hbx
                  injection hbx with _ ht
                  exact absurd ht (by decide)
                obtain ⟨ga, ka, gb, kb, hc1, hc2, hM0⟩ := hM.swap hlc hcj
                have hbx2 := (hbx.far (p := ⟨G, c, none⟩) hpG (.slice (some ⟨gb, 0, none⟩) (m.getD (c + j) []).length kb)).far (p := ⟨G, c + j, none⟩) hpG (.slice (some ⟨ga, 0, none⟩) (m.getD c []).length ka)
                have hB2 := (hB.setCell (by simp; omega) (p := ⟨G, c, none⟩) (.slice (some ⟨gb, 0, none⟩) (m.getD (c + j) []).length kb)).setCell (by simp; omega) (p := ⟨G, c + j, none⟩) (.slice (some ⟨ga, 0, none⟩) (m.getD c []).length ka)
                have hM2 := hM0.congr (row' := fun r => (swapM m c (c + j)).getD r []) fun r hr => by
                  show _ = ((m.set c (m.getD (c + j) [])).set (c + j) (m.getD c [])).getD r []
                  rw [getD_set _ _ _ _ (by rw [List.length_set, hS.1]; exact hcj), getD_set _ _ _ _ (by rw [hS.1]; exact hlc)]
                  unfold upd
                  rfl
                rw [hS.2 c hlc] at hc1 hM2 hbx2 hB2
                rw [hS.2 (c + j) hcj] at hc2 hM2 hbx2 hB2
                have HM2 := Lib.hid hM2; clear hM2 hM0
                have HX2 := Lib.hid hbx2; clear hbx2
                have HB2 := Lib.hid hB2; clear hB2
                have hcj1000 : c + j ≤ 1000 := by omega
                have hjle : (j : Int) ≤ 16 := by omega
                have hw1 : wrap64 ((c : Int) + (j : Int)) = ((c + j : Nat) : Int) := w64_add c j hcj1000
                have hw2 : IntKind.i64.wrap ((c : Int) + (j : Int)) = ((c + j : Nat) : Int) := i64_add c j hcj1000
                obtain ⟨xx, hxx⟩ := hM.cell_set c hcj (.slice (some ⟨gb, 0, none⟩) (2 * i) kb)
                obtain ⟨cj, hcjE⟩ : ∃ cj, c + j = cj := ⟨_, rfl⟩
                rw [hcjE] at hc2 hxx HM2 HX2 HB2 hw1 hw2 hcj hS' hSt' hU' hne' hf2
                clear hM hB hS hcj1000
                have hGp : G ≠ p := fun e => hpG e.symm
                go_upto_region 19 with fail
                go_cut [] (fun wx => OM wx G G i i (fun r => (swapM m c cj).getD r []) ∧ Blk wx p 3 #[.int .i64 c] ∧ Below w.heap.size w wx)
                case first =>
                  as_aux_lemma =>
                    go_region
                    go_wp2_with fail
                    go_meet
                    exact ⟨HM2.out.drew, HX2.out.drew, HB2.out.drew⟩
                case rest =>
                obtain ⟨hM, hbx, hB⟩ := hcut
                obtain ⟨W, hWe⟩ : ∃ W, W = wc := ⟨_, rfl⟩
                rw [← hWe] at hM hbx hB ⊢
                clear hWe HM2 HX2 HB2 hbc hbl hGl hf1 hf2 hc1 hc2 hxx hw1 hw2 hjle hcj hcjE
                generalize swapM m c cj = m1 at *
                have hl2 := hS'.2 c hlc
                obtain ⟨g, k0, hg1, hg2, hg3, _, _, hg4, _, _⟩ := hM.elem c c hlc (by rw [hl2]; omega)
                have hRd : Reads W (.slice (some ⟨g, 0, none⟩) (2 * i) k0) (bv (m1.getD c [])) := by
                  obtain ⟨g', k', hg1', _, _, hB'⟩ := hM.rowAt c hlc
                  rw [hg1] at hg1'
                  injection hg1' with hg1'
                  have := hB'.reads
                  rw [← hg1', hl2] at this
                  exact this
                have hlm := hS'.1
                have HLM := Lib.hid hlm; clear hlm
                have hbc := hbx.cell 0
                have hCi := fun W => inv_any _ ((m1.getD c []).getD c 0) rfl W
                rw [if_neg (show (m1.getD c []).getD c 0 ≠ 0 from hne')] at hCi
                have hin := inv_ne hne'
                rw [hl2] at hg1 hg4
                have hst := Clearing.start hU' hS' hlc hne'
                have hsS := scale_shp hS' hlc (inv (en m1 c c))
                have hsT := hSt'.scale hlc hin
                unfold en at hst hsS hsT hin
                clear hne' hU' hS' hSt'
                generalize (m1.getD c []).getD c 0 = piv at *
                generalize inv piv = iv at *
                have hCi := fun W => (hCi W).mono fun _ _ h => (⟨h.1, h.2.symm⟩ : _ ∧ _)
                have HCI := Lib.hid hCi; clear hCi
                have HP1 := Lib.hid hst; clear hst
                have HP2 := Lib.hid hsS; clear hsS
                have HP3 := Lib.hid hsT; clear hsT
                have hi1 : (c : Int) < ((2 * i : Nat) : Int) := by omega
                have hi2 : (c : Int) < 2 * (i : Int) := by omega
                have hi3 : c < 2 * i := by omega
                go_upto_region 20 with fail
                go_cut [9, 10] (fun s9 s10 wx => s9 = .int .u8 (iv.toNat : Int) ∧ OM wx G G i i (fun r => m1.getD r []) ∧ Blk wx p 3 #[.int .i64 c] ∧ Below w.heap.size w wx ∧ wx.cell? ⟨G, c, none⟩ = some (.slice (some ⟨g, 0, none⟩) (2 * i) k0) ∧ Reads wx (.slice (some ⟨g, 0, none⟩) (2 * i) k0) (bv (m1.getD c [])))
                case first =>
                  as_aux_lemma =>
                    go_quiet ((go_at_call 29; exact Calls.quiet_of_same (HCI.out _)))
                    go_wp2_with fail
                    go_meet
                    exact ⟨rfl, hM.drewN nq, hbx.drewN nq, below_drewN hB nq, hg1, hRd⟩
                case rest =>
                clear hM hbx hB hg1 hRd
                obtain ⟨rfl, hM, hbx, hB, hg1, hRd⟩ := hcut
                clear HCI hi1 hi2 hi3 hg2 hg3
                have hcv := reads_string (P := Try.prog) (src := 37) (dst := 9) Try.underlying37 Try.underlying5 Try.underlying9 hRd.drew
                clear hRd
                have hsc := fun W' (h1 : OM W' G G i i fun r => m1.getD r []) (h2 : Blk W' p 3 #[.int .i64 c]) => scale_row h1 hlc hl2 (by omega) iv h2 (fun r => (scaleM m1 c iv).getD r []) (fun r hr => by
                  show _ = (m1.set c ((m1.getD c []).map (mul iv))).getD r []
                  rw [getD_set _ _ _ _ (by rw [HLM.out]; exact hlc)]
                  rfl)
                generalize scaleM m1 c iv = m2 at *
                have HSC := Lib.hid hsc; clear hsc hl2
                generalize bs (m1.getD c []) = s1 at *
                have hbc := hbx.cell 0
                go_upto_region 21 with fail
                go_cut [9] (fun s9 wx => OM wx G G i i (fun r => m2.getD r []) ∧ Blk wx p 3 #[.int .i64 c] ∧ Below w.heap.size w wx)
                case first =>
                  refine region_scale (by kernel_rfl) _ ?hQ _ _ rfl G i c p hlc iv s1 rfl rfl rfl _ hbc hg1 hcv
                    (fun w' => OM w' G G i i (fun r => m2.getD r []) ∧ Blk w' p 3 #[.int .i64 c] ∧ Below w.heap.size w w') ?_ ?_
                  case hQ =>
                    intro c0 a0 d0 v0 x0 h
                    simp only [Exit.then, Exit.inBlock] at h ⊢
                    first
                      | exact h
                      | (simp +zetaDelta only [Exit.then, Exit.inBlock, bodyPost] at h ⊢; exact h)
                      | (simp +zetaDelta [Exit.then, Exit.inBlock, bodyPost] at h)
                  · refine (HSC.out _ hM.drew hbx.drew).mono ?_
                    rintro e w3 ⟨s2, g2, k2, W4, y4, rfl, t1, t2, t3, t4, t5, t6, t7, t8, t9, t10⟩
                    exact ⟨s2, _, _, _, W4, y4, rfl, t1, t2, t3, t4, t5, t7, t8, t9, (hB.drew.trans (t10.mono hGw) : _)⟩
                  · intro _ _ _ _ _ _ _ _ _ _ _ w' hR
                    simp only [frS, Act.put, List.setIfInBounds_toArray, List.set_cons_zero, List.set_cons_succ]
                    go_wp2_with fail
                    go_meet
                    exact hR
                case rest =>
                clear hM hbx hB HSC hg1 hcv hbc
                obtain ⟨hM, hbx, hB⟩ := hcut
                go_wp2
                go_loopw [11, 106] (fun _ s106 wk => ∃ (r : Nat) (m3 : List (List UInt8)), r ≤ i ∧ s106 = .int .i64 r ∧ OM wk G G i i (fun q => m3.getD q []) ∧ Hid (Shp m3 i (2 * i) ∧ GfM.Steps i (aug A i) m3 ∧ Clearing i c r m3) ∧ Blk wk p 3 #[.int .i64 c] ∧ Below w.heap.size w wk) (fun _ s106 _ => i - (intOf s106).toNat)
                case atStart => exact ⟨0, m2, by omega, rfl, hM, Lib.hid ⟨HP2.out, HP3.out, HP1.out⟩, hbx, hB⟩
                case round =>
                  clear hM hbx hB HP1 HP2 HP3
                  obtain ⟨r, m3, hr, rfl, hM, HC, hbx, hB⟩ := hrel
                  by_cases hlr : r < i
                  · have hclr := clearRow_any wr G G i (2 * i) (fun q => m3.getD q []) hM (fun q hq => HC.out.1.2 q hq) r c c hlr hlc (by omega) (by omega) (by omega)
                    have hcl2 : Calls Try.prog 31 #[.slice (some ⟨G, 0, none⟩) i i, .int .i64 r,   .int .i64 c, .int .i64 c] wr fun e w' => e = .returned (.tuple #[]) ∧ OM w' G G i i (fun q => (clearStep m3 c r).getD q []) ∧ Blk w' p 3 #[.int .i64 c] ∧ Below w.heap.size w w' :=
                      hclr.mono fun e w' h => ⟨h.1, h.2.1.congr fun q _ => clr_step m3 r c (by rw [HC.out.1.1]; exact hlr) q, h.2.2.2 _ _ _ (by decide) hbx, hB.trans (h.2.2.1.mono hGw)⟩
                    have HCL := Lib.hid hcl2; clear hclr hcl2
                    have HN2 := Lib.hid (⟨clearStep_shp HC.out.1 hlc hlr, HC.out.2.1.clearStep hlc hlr, HC.out.2.2.step HC.out.1 hlc hlr⟩ : Shp (clearStep m3 c r) i (2 * i) ∧ GfM.Steps i (aug A i) (clearStep m3 c r) ∧ Clearing i c (r + 1) (clearStep m3 c r))
                    have hbc := hbx.cell 0
                    clear hM hbx
                    generalize clearStep m3 c r = m4 at *
                    go_wp2_with fail
                    refine HCL.out.mono ?_
                    rintro e w5 ⟨rfl, hM5, hbx5, hB5⟩
                    go_wp2
                    go_roundw
                    case rel => exact ⟨r + 1, m4, by omega, by go_num, hM5, HN2, hbx5, hB5⟩
                    case measure => simp [intOf]; omega
                  · obtain rfl : r = i := by omega
                    have HD := Lib.hid HC.out.2.2.done
                    go_wp2
                    go_roundw
                    case rel => exact ⟨c + 1, m3, by omega, by go_num, hM, Lib.hid ⟨HC.out.1, HC.out.2.1, HD.out⟩, hB⟩
                    case measure => simp [intOf]; omega
            · obtain rfl : c = i := by omega
              have hfin := HF.out _ _ (InvOut.ok HP.out.2.1 HP.out.2.2)
              obtain ⟨gs, ks, hC0⟩ := hM.cuts HP.out.1
              have HFI := Lib.hid hfin; clear hfin hM
              go_wp2
              go_loopw [12, 118] (fun _ s118 wk => ∃ r : Nat, r ≤ c ∧ s118 = .int .i64 r ∧ Hid (Cuts wk G G c r gs ks m) ∧ Below w.heap.size w wk) (fun _ s118 _ => c - (intOf s118).toNat)
              case atStart => exact ⟨0, by omega, rfl, Lib.hid hC0, hB⟩
              case round =>
                clear hC0 hB
                obtain ⟨r, hr, rfl, HCu, hB⟩ := hrel
                by_cases hlr : r < c
                · obtain ⟨q1, q2, q3, q4, q5, q6⟩ := HCu.out.next hlr
                  have HQ6 := Lib.hid q6; clear q6
                  have hx1 : IntKind.i64.wrap (2 * (c : Int)) = ((2 * c : Nat) : Int) := by rw [IntKind.wrap_i64]; omega
                  have hx2 : 2 * c - c = c := by omega
                  have HX2 := Lib.hid hx2; clear hx2
                  go_wp2
                  go_roundw
                  case rel => exact ⟨r + 1, by omega, by go_num, by rw [HX2.out]; exact HQ6, hB.setCell (by simp; omega) _⟩
                  case measure => simp [intOf]; omega
                · obtain rfl : r = c := by omega
                  have hR := HCu.out.done (by omega)
                  go_wp2
                  go_ret2
                  exact ⟨_, _, _, rfl, hR, HFI.out, hB⟩
    · have hfin := InvR.shape gA hsq
      have hdI : (((A.length : Nat) : Int) != (((A.getD 0 []).length : Nat) : Int)) = true := by rw [bne_iff_ne]; omega
      rw [gA] at hgA
      have HGA := Lib.hid hgA; clear hgA
      have ha0 := fun W (h : Below w.heap.size w W) => (hA.below h).rowAt 0 (by omega)
      have HFI := Lib.hid hfin; clear hfin hsq aS
      generalize (A.getD 0 []).length = q at *
      generalize A.length = n at *
      go_enter Try.func11, Try.ntmps11
      go_wp2_with fail
      refine HGA.out.mono ?_
      rintro e w1 ⟨rfl, hb1⟩
      obtain ⟨A0, c0, hc0, _, _⟩ := ha0 _ hb1
      rw [Nat.add_zero] at hc0
      go_wp2
      go_ret2
      exact ⟨_, _, _, rfl, RMat.nil_ _, HFI.out, hb1⟩
  · have gA' : goodM A = false := by simpa using gA
    have hfin := InvR.bad gA'
    rw [gA'] at hgA
    have HGA := Lib.hid hgA; clear hgA gA gA'
    have HF := Lib.hid hfin; clear hfin
    go_enter Try.func11, Try.ntmps11
    go_wp2_with fail
    refine HGA.out.mono ?_
    rintro e w1 ⟨rfl, hb1⟩
    go_wp2
    go_ret2
    exact ⟨_, _, _, rfl, RMat.nil_ _, HF.out, hb1⟩
end Go.Proofs.Ytgphfhpobppmeaa
