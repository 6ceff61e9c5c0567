/-
  The walk of the document's Decode.
-/
import Derived.Test.YtikgipohjoiagaaUs
namespace Go.Proofs.Ytikgipohjoiagaa
open Go.RowKit GfM

def LenIs (C : List ByteArray) (n : Nat) : Prop := C.length = n
set_option maxRecDepth 100000 in
set_option maxHeartbeats 4000000 in
theorem rdecode_any (w : World) (vc vb : Value) (C : List ByteArray) (B : List Bool) (hC : Reads w vc (sv C)) (hB : Reads w vb (tv B)) :
    Calls Try.prog 20 #[vc, vb] w fun e w' => ∃ v T e0, e = .returned (.tuple #[v, .int .i64 e0]) ∧ Reads w' v (sv T) ∧ RefR C B T e0 ∧ Below w.heap.size w w' := by
  have hC0 := hC
  obtain ⟨A, c, rfl, hc1, hc2, hcell⟩ := hC.texts
  obtain ⟨A2, c2, rfl, hd1, hd2, hdell⟩ := hB.bools
  have hnil : ∀ W : World, Reads W (.slice none 0 0) (sv []) := fun W => (Own.nil_ W 0 9).reads
  have HNIL := Lib.hid hnil; clear hnil hC hB
  by_cases hn : C.length < 3
  · have HR := Lib.hid (RefR.arg (C := C) (B := B) (by omega))
    clear hcell hdell hC0
    generalize C.length = n at *
    generalize B.length = m at *
    have h1 : (n : Int) - 2 < 1 := by omega
    go_enter Try.func20, Try.ntmps20
    go_wp2
    go_ret2
    exact ⟨_, _, _, rfl, HNIL.out _, HR.out, Below.refl _ _⟩
  · obtain ⟨k, hk⟩ : ∃ k : Nat, C.length = k + 2 := ⟨C.length - 2, by omega⟩
    have hk1 : 1 ≤ k := by omega
    have hkb : (k : Int) ≤ 9223372036854775805 := by omega
    have hk1' : ¬ ((k : Int) < 1) := by omega
    by_cases hk8 : 8 < k
    · have HR := Lib.hid (RefR.arg (C := C) (B := B) (by omega))
      clear hcell hdell hC0
      have hk8' : 8 < (k : Int) := by omega
      rw [hk] at *
      generalize B.length = m at *
      go_enter Try.func20, Try.ntmps20
      go_wp2
      go_ret2
      exact ⟨_, _, _, rfl, HNIL.out _, HR.out, Below.refl _ _⟩
    · have hk8' : ¬ (8 < (k : Int)) := by omega
      by_cases hbl : B.length = C.length
      · obtain ⟨bc, oc, rfl, hcc⟩ := hcell (by omega)
        obtain ⟨bb, ob, rfl, hbb⟩ := hdell (by omega)
        clear hcell hdell
        have HCC := Lib.hid hcc; clear hcc
        have HBB := Lib.hid hbb; clear hbb
        have hlost := fun h4 => RefR.lost (C := C) (B := B) (by omega) (by omega) hbl h4
        have hshape := fun h4 h5 => RefR.shape (C := C) (B := B) (by omega) (by omega) hbl h4 h5
        have hdone := fun h4 h5 => RefR.done (C := C) (B := B) k hk hk1 (by omega) hbl h4 h5
        rw [hk] at hlost hshape hdone
        have HLOST := Lib.hid hlost; clear hlost
        have HSHAPE := Lib.hid hshape; clear hshape
        have HDONE := Lib.hid hdone; clear hdone
        have hne := bne_nat_same hbl
        have hCl : LenIs C (k + 2) := hk
        rw [hbl] at *
        have HC0 := Lib.hid hC0; clear hC0
        rw [hk] at *
        clear hbl
        have hmk0 := make_bools (k + 2) (by omega) w
        have hO0 := Own.made_bools w w.heap.size (k + 2) (Nat.le_refl _) (by omega)
        rw [← us_zero B k] at hO0
        have hB0 := (Below.refl w.heap.size w).alloc (Nat.le_refl _) (.cells (madeCells #[.bool false] (k + 2)) 4)
        have hN0 := Own.nil_ (w.alloc (.cells (madeCells #[.bool false] (k + 2)) 4)) w.heap.size 9
        obtain ⟨w0, hw0⟩ : ∃ w0, w.alloc (.cells (madeCells #[.bool false] (k + 2)) 4) = w0 := ⟨_, rfl⟩
        rw [hw0] at hmk0 hO0 hN0 hB0
        obtain ⟨G, hG, hG1⟩ : ∃ G, G = w.heap.size ∧ w.heap.size ≤ G := ⟨_, rfl, Nat.le_refl _⟩
        have hO1 : Own w0 w.heap.size 4 (.slice (some ⟨G, 0, none⟩) (k + 2) (k + 2)) (tv (us B k 0)) := by rw [hG]; exact hO0
        have hmk : (Instr.makeSlice 40 (.int .i64 ((k : Int) + 2)) (.int .i64 ((k : Int) + 2))).run Try.prog w = .ok (.slice (some ⟨G, 0, none⟩) (k + 2) (k + 2)) w0 := by
          have e : ((k + 2 : Nat) : Int) = (k : Int) + 2 := by omega
          rw [e] at hmk0
          rw [hG]; exact hmk0
        have HO := Lib.hid hO1; clear hO1 hO0 hmk0 hG
        have HN := Lib.hid hN0; clear hN0
        go_enter Try.func20, Try.ntmps20
        go_wp2
        clear hmk hw0
        go_loopw [7, 9] (fun s7 s9 wr => ∃ i : Nat, i ≤ k + 2 ∧ s9 = .int .i64 i ∧ Hid (Own wr w.heap.size 9 s7 (sv ((pk B i).map (tl C)))) ∧ Hid (Own wr w.heap.size 4 (.slice (some ⟨G, 0, none⟩) (k + 2) (k + 2)) (tv (us B k i))) ∧ Below w.heap.size w wr) (fun _ s9 _ => k + 2 - (intOf s9).toNat)
        case atStart => exact ⟨0, by omega, rfl, HN, HO, hB0⟩
        case round =>
          clear HN HO hB0
          obtain ⟨i, hi, rfl, HL, HU, hB⟩ := hrel
          by_cases hlt : i < k + 2
          · have hcw := HCC.out i hlt
            have hbw := HBB.out i hlt
            have hcl := (hB.cell (World.block_lt_of_cell? w _ hcw)).trans hcw
            have hbl := (hB.cell (World.block_lt_of_cell? w _ hbw)).trans hbw
            clear hcw hbw
            have hik : (i : Int) < (k : Int) + 2 := by omega
            have hik2 : (i : Int) < ((k + 2 : Nat) : Int) := by omega
            by_cases hbi : B.getD i false = true
            · rw [hbi] at hbl
              have hul : (tv (us B k i)).length = k + 2 := by rw [tv_length, us_len]
              have hU' : Own wr w.heap.size 4 (.slice (some ⟨G, 0, none⟩) (tv (us B k i)).length (k + 2)) (tv (us B k i)) := by rw [hul]; exact HU.out
              have hold := hU'.cell i (by rw [hul]; exact hlt)
              rw [tv_at _ _ (by rw [us_len]; exact hlt)] at hold
              have hfz := hU'.frozen i
              have hnew := hU'.set_ i (.bool (decide ((pk B i).length < k)))
              rw [tv_set, us_yes B k i hlt hbi, hul] at hnew
              have hL2 := HL.out.far (p := ⟨G, i, none⟩) (fun e => (HL.out.ne_ hU' (by decide)).elim (fun h => by rw [h] at e; cases e) fun h => h e) (.bool (decide ((pk B i).length < k)))
              have hB2 := hB.setCell (p := ⟨G, i, none⟩) hG1 (.bool (decide ((pk B i).length < k)))
              have hpk := pk_len B i
              have hLl : ((sv ((pk B i).map (tl C))).length + 1) * 16 ≤ 140737488355328 := by rw [sv_length, List.length_map]; omega
              have hll : (sv ((pk B i).map (tl C))).length = (pk B i).length := by rw [sv_length, List.length_map]
              obtain ⟨A9, c9, rfl⟩ := HL.out.shape
              rw [hll] at hL2 ⊢
              have hpl : sv ((pk B i).map (tl C)) ++ [.string (tl C i)] = sv ((pk B (i + 1)).map (tl C)) := by rw [pk_yes hbi, List.map_append, sv_append]; rfl
              have HPL := Lib.hid hpl; clear hpl
              have HLl := Lib.hid hLl; clear hLl hul hU' hll
              have HL2 := Lib.hid hL2; clear hL2
              have HNW := Lib.hid hnew; clear hnew HL HU
              have hcl2 : ∀ b, (wr.setCell ⟨G, i, none⟩ (.bool b)).cell? ⟨bc, oc + i, none⟩ = some (.string (tl C i)) := fun b => by
                exact (((Below.refl w.heap.size wr).setCell (p := ⟨G, i, none⟩) hG1 (.bool b)).cell (p := ⟨bc, oc + i, none⟩) (World.block_lt_of_cell? w _ (HCC.out i hlt))).trans hcl
              generalize tl C i = si at *
              generalize (us B k i).getD i false = old at *
              clear hbi
              by_cases hm : (pk B i).length < k
              · have hm' : ((pk B i).length : Int) < (k : Int) := by omega
                have ed : decide ((pk B i).length < k) = true := by simpa using hm
                rw [ed] at HNW hB2 HL2
                have hcl3 := hcl2 true
                clear ed hcl2 hm
                generalize (pk B i).length = m at *
                go_wp2_with (at_builtin; (refine append_one w.heap.size rfl (.tmp 56) (.tmp 61) 22 9 (.string ⟨#[]⟩) 16 rfl Try.underlying22 info9 rfl (by decide) _ _ (.string si) rfl (by show Value.slice (some ⟨wr.heap.size, 0, none⟩) 1 1 = _; simp [World.setCell]) rfl HL2.out hB2 hB2.size HLl.out ?_; intro v1 w2 hO2 hB3 hg2 hat2))
                rw [HPL.out] at hO2
                have HU3 := Lib.hid (HNW.out.keep hg2 (HNW.out.ne_ HL2.out (by decide)))
                have HL3 := Lib.hid hO2; clear hO2
                go_roundw
                case rel => exact ⟨i + 1, by omega, by go_num, HL3, HU3, hB3⟩
                case measure => simp [intOf]; omega
              · have hm' : ¬ (((pk B i).length : Int) < (k : Int)) := by omega
                have ed : decide ((pk B i).length < k) = false := by simpa using hm
                rw [ed] at HNW hB2 HL2
                have hcl3 := hcl2 false
                clear ed hcl2 hm
                generalize (pk B i).length = m at *
                go_wp2_with (at_builtin; refine append_one w.heap.size rfl (.tmp 56) (.tmp 61) 22 9 (.string ⟨#[]⟩) 16 rfl Try.underlying22 info9 rfl (by decide) _ _ (.string si) rfl (by show Value.slice (some ⟨wr.heap.size, 0, none⟩) 1 1 = _; simp [World.setCell]) rfl HL2.out hB2 hB2.size HLl.out ?_; intro v1 w2 hO2 hB3 hg2 hat2)
                rw [HPL.out] at hO2
                have HU3 := Lib.hid (HNW.out.keep hg2 (HNW.out.ne_ HL2.out (by decide)))
                have HL3 := Lib.hid hO2; clear hO2
                go_roundw
                case rel => exact ⟨i + 1, by omega, by go_num, HL3, HU3, hB3⟩
                case measure => simp [intOf]; omega
            · have hbf : B.getD i false = false := by simpa using hbi
              rw [hbf] at hbl
              have hpe := pk_no hbf
              have HLa : Hid (Own wr w.heap.size 9 u7 (sv ((pk B (i + 1)).map (tl C)))) := by rw [hpe]; exact HL
              have HUa : Hid (Own wr w.heap.size 4 (.slice (some ⟨G, 0, none⟩) (k + 2) (k + 2)) (tv (us B k (i + 1)))) := by rw [us_no B k i hbf]; exact HU
              clear HL HU hpe hbi hbf
              generalize tl C i = si at *
              go_wp2
              go_roundw
              case rel => exact ⟨i + 1, by omega, by go_num, HLa, HUa, hB⟩
              case measure => simp [intOf]; omega
          · obtain rfl : i = k + 2 := by omega
            clear hlt hi
            have hml : (sv ((pk B (k + 2)).map (tl C))).length = (pk B (k + 2)).length := by rw [sv_length, List.length_map]
            have hpl := pk_len B (k + 2)
            by_cases hm : (pk B (k + 2)).length < k
            · have HE := Lib.hid (HLOST.out hm)
              obtain ⟨Al, cl, rfl⟩ := HL.out.shape
              rw [hml]
              clear hml HL HU
              generalize (pk B (k + 2)).length = m at *
              have hmk : (m : Int) < (k : Int) := by omega
              go_wp2
              go_ret2
              exact ⟨_, _, _, rfl, HNIL.out _, HE.out, hB⟩
            · obtain ⟨gl, cl, rfl, hgl1, hgl2, hgl3⟩ := HL.out.form (by rw [hml]; omega)
              have hc0 := HL.out.cell 0 (by rw [hml]; omega)
              rw [sv_at _ 0 (by rw [List.length_map]; omega)] at hc0
              have hRl := HL.out.reads
              rw [hml] at hRl hgl3 ⊢
              have hsh := rshape_any wr _ _ hRl
              have hmk' : ¬ (((pk B (k + 2)).length : Int) < (k : Int)) := by omega
              have hm0 : 0 < (pk B (k + 2)).length := by omega
              by_cases hE : shE ((pk B (k + 2)).map (tl C)) = 0
              · have HCAS := Lib.hid (ua_cas B k (by omega))
                have hsz := fun r (hr : r < k + 2) hu => ln_of hE hr (ua_there (k := k) hr hu)
                have hn6 : ln C B k ≤ 65536 := (shE_ok hE).2 (by rw [List.length_map]; omega)
                have HDN := Lib.hid (HDONE.out (by omega) hE)
                rw [hE] at hsh
                obtain ⟨s0, hs0⟩ : ∃ s0, tl ((pk B (k + 2)).map (tl C)) 0 = s0 := ⟨_, rfl⟩
                have hln : ln C B k = s0.size := by rw [← hs0]; rfl
                rw [hln] at hn6 hsz
                rw [hs0] at hc0
                have HSZ := Lib.hid hsz; clear hsz
                have HSH := Lib.hid hsh; clear hsh hRl hE hs0 HL HLOST HSHAPE HDONE hml
                have HLN := Lib.hid hln; clear hln
                generalize (pk B (k + 2)).length = m at *
                go_wp2_with fail
                refine (HSH.out).mono ?_
                rintro e w2 ⟨rfl, hb2⟩
                have hB2 := below_then hB hB.size hb2
                have hc2' := (hb2.cell (p := ⟨gl, 0, none⟩) hgl2).trans hc0
                have hgl4 : gl < w2.heap.size := World.block_lt_of_cell? w2 _ hc2'
                have HRU := Lib.hid ((HU.out.below hb2).reads)
                have HRC := Lib.hid (HC0.out.below hB2)
                have hmk3 := make_rows2 k (by omega) w2
                have hR3 := DRows.made w2 k (by omega) w2.heap.size
                have hB3 := (Below.refl w2.heap.size w2).alloc (Nat.le_refl _) (.cells (madeCells #[.slice none 0 0] k) 33)
                obtain ⟨w3, hw3⟩ : ∃ w3, w2.alloc (.cells (madeCells #[.slice none 0 0] k) 33) = w3 := ⟨_, rfl⟩
                rw [hw3] at hmk3 hR3 hB3
                obtain ⟨G2, hG2⟩ : ∃ G2, G2 = w2.heap.size := ⟨_, rfl⟩
                have hmk4 : (Instr.makeSlice 59 (.int .i64 (k : Int)) (.int .i64 (k : Int))).run Try.prog w2 = .ok (.slice (some ⟨G2, 0, none⟩) k k) w3 := by rw [hG2]; exact hmk3
                have hR4 : DRows w3 w2.heap.size G2 k (fun r => dr C B k r 0) G2 := by rw [hG2]; exact hR3.congr fun r _ => rfl
                have HR4 := Lib.hid hR4; clear hR4 hR3 hmk3 hG2
                clear HSH hc0 HU hb2 hgl2
                go_wp2
                clear hmk4 hw3
                go_loopw [12, 13, 14] (fun s12 _ _ wr => ∃ p : Nat, p ≤ s0.size ∧ s12 = .int .i64 p ∧ Hid (DRows wr w2.heap.size G2 k (fun r => dr C B k r p) G2) ∧ Below w2.heap.size w2 wr) (fun s12 _ _ _ => s0.size - (intOf s12).toNat)
                case atStart => exact ⟨0, by omega, rfl, HR4, hB3⟩
                case round =>
                  clear HR4 hB3
                  rename World => wq
                  obtain ⟨p, hp, rfl, HR, hB4⟩ := hrel
                  have hc4 := (hB4.cell (p := ⟨gl, 0, none⟩) hgl4).trans hc2'
                  by_cases hpl2 : p < s0.size
                  · have hsol := solve_any wq _ _ C (ua B k) (HRC.out.below hB4) (HRU.out.below hB4) k p hCl (us_len _ _ _) hk1 (by omega) (fun r hr hu => by rw [HSZ.out r hr hu]; exact hpl2) HCAS.out
                    have HSOL := Lib.hid hsol; clear hsol
                    have hpi : (p : Int) < (s0.size : Int) := by omega
                    go_wp2_with fail
                    refine (HSOL.out).mono ?_
                    rintro e w5 ⟨vd, rfl, hOd, hb5⟩
                    obtain ⟨gd, cd, rfl, hgd1, hgd2, _⟩ := hOd.form (by rw [bv_length, sol_len]; omega)
                    rw [bv_length, sol_len] at hOd ⊢
                    have hB5 := below_then hB4 hB4.size hb5
                    have HR5 : Hid (DRows w5 w2.heap.size G2 k (fun r => dr C B k r (if r < 0 then p + 1 else p)) gd) := Lib.hid (((HR.out.fresh hgd1).below hb5).congr fun r _ => by rw [if_neg (by omega)])
                    have HD5 := Lib.hid (hOd.more hB4.size)
                    clear HR HSOL hOd hb5 hc4 hB4
                    go_wp2
                    go_loopw [14] (fun s14 wr => ∃ i : Nat, i ≤ k ∧ s14 = .int .i64 i ∧ Hid (DRows wr w2.heap.size G2 k (fun r => dr C B k r (if r < i then p + 1 else p)) gd) ∧ Hid (Own wr w2.heap.size 5 (.slice (some ⟨gd, 0, none⟩) k cd) (bv (sol C (ua B k) k p))) ∧ Below w2.heap.size w2 wr) (fun s14 _ => k - (intOf s14).toNat)
                    case atStart => exact ⟨0, by omega, rfl, HR5, HD5, hB5⟩
                    case round =>
                      clear HR5 HD5 hB5
                      obtain ⟨i, hi, rfl, HR6, HD6, hB6⟩ := hrel
                      by_cases hik : i < k
                      · have hil : (dr C B k i (if i < i then p + 1 else p)).length ≤ s0.size := by rw [if_neg (by omega), dr_len]; omega
                        have hrow : ∀ r, r < k → upd (fun r => dr C B k r (if r < i then p + 1 else p)) i (dr C B k i (if i < i then p + 1 else p) ++ [(sol C (ua B k) k p).getD i 0]) r = dr C B k r (if r < i + 1 then p + 1 else p) := by
                          intro r hr
                          by_cases e : r = i
                          · subst e
                            rw [upd_same, if_neg (by omega), if_pos (by omega), dr_succ]
                          · rw [upd_other _ _ e]
                            have : (r < i) = (r < i + 1) := by rw [eq_iff_iff]; omega
                            simp only [this]
                        have HIL := Lib.hid hil; clear hil
                        have HROW := Lib.hid hrow; clear hrow
                        go_upto_region 25 with fail
                        refine region_push (by kernel_rfl) _ ?hQ _ _ rfl w2 _ G2 gd k cd i s0.size _ (sol C (ua B k) k p) _ rfl (sol_len _ _ _ _) hik HIL.out (by omega) rfl rfl rfl HR6.out HD6.out hB6 hB6.size ?fin
                        case hQ =>
                          intro c0 a0 d0 v0 x0 h
                          simp only [Exit.then, Exit.inBlock] at h ⊢
                          first
                            | exact h
                            | (simp +zetaDelta only [Exit.then, Exit.inBlock, bodyPost] at h ⊢; exact h)
                            | (simp +zetaDelta [Exit.then, Exit.inBlock, bodyPost] at h)
                        case fin =>
                          intro _ _ _ _ _ _ _ _ _ _ _ _ _ w' hr' hd' hb' _
                          simp only [frQ, Act.put, List.setIfInBounds_toArray, List.set_cons_zero, List.set_cons_succ]
                          have HR7 := Lib.hid (hr'.congr HROW.out)
                          have HD7 := Lib.hid hd'
                          clear hr' hd'
                          go_wp2
                          go_roundw
                          case rel => exact ⟨i + 1, by omega, by go_num, HR7, HD7, hb'⟩
                          case measure => simp [intOf]; omega
                      · obtain rfl : i = k := by omega
                        have HR7 := Lib.hid ((HR6.out.congr (row' := fun r => dr C B i r (p + 1)) fun r hr => by rw [if_pos hr]).home)
                        clear HR6 HD6
                        go_wp2
                        go_roundw
                        case rel => exact ⟨p + 1, by omega, by go_num, HR7, hB6⟩
                        case measure => simp [intOf]; omega
                  · obtain rfl : p = s0.size := by omega
                    have HT0 : Hid (Own wq wq.heap.size 9 (.slice none 0 0) (sv ((dC C B k).take 0))) := Lib.hid (by rw [List.take_zero]; exact Own.nil_ _ _ _)
                    have hB70 := Below.refl wq.heap.size wq
                    go_wp2
                    go_loopw [15, 16] (fun s15 s16 wr => ∃ i : Nat, i ≤ k ∧ s16 = .int .i64 i ∧ Hid (Own wr wq.heap.size 9 s15 (sv ((dC C B k).take i))) ∧ Below wq.heap.size wq wr) (fun _ s16 _ => k - (intOf s16).toNat)
                    case atStart => exact ⟨0, by omega, rfl, HT0, hB70⟩
                    case round =>
                      clear HT0 hB70 hc4
                      obtain ⟨i, hi, rfl, HT, hB7⟩ := hrel
                      by_cases hik : i < k
                      · have hik' : (i : Int) < (k : Int) := by omega
                        have htk := dC_take C B k i hik
                        have hL : ((sv ((dC C B k).take i)).length + 1) * 16 ≤ 140737488355328 := by rw [sv_length, List.length_take, dC_len]; omega
                        have e1 : sv ((dC C B k).take i) ++ [.string (bs (dr C B k i s0.size))] = sv ((dC C B k).take (i + 1)) := by rw [htk, sv_append, HLN.out]; rfl
                        obtain ⟨v, hcv, hOv, _⟩ := (HR.out.below hB7).at_ hik
                        obtain ⟨Av, cv, rfl⟩ := hOv.shape
                        have hcvt := reads_string (P := Try.prog) (src := 33) (dst := 9) Try.underlying33 Try.underlying5 Try.underlying9 hOv.reads
                        clear hOv htk
                        rw [bv_length] at hcv hcvt
                        have HL := Lib.hid hL; clear hL
                        have HE1 := Lib.hid e1; clear e1
                        generalize bs (dr C B k i s0.size) = si at *
                        generalize (dr C B k i s0.size).length = nl at *
                        go_wp2_with (at_builtin; refine append_one wq.heap.size rfl (.tmp 110) (.tmp 116) 22 9 (.string ⟨#[]⟩) 16 rfl Try.underlying22 info9 rfl (by decide) _ _ (.string si) rfl rfl rfl HT.out hB7 hB7.size HL.out ?_; intro v1 w8 hO2 hB8 hg2 hat2)
                        rw [HE1.out] at hO2
                        have HT2 := Lib.hid hO2; clear hO2
                        go_roundw
                        case rel => exact ⟨i + 1, by omega, by go_num, HT2, hB8⟩
                        case measure => simp [intOf]; omega
                      · obtain rfl : i = k := by omega
                        have htk : (dC C B i).take i = dC C B i := List.take_of_length_le (by rw [dC_len]; omega)
                        rw [htk] at HT
                        have hen := rencode_any _ _ _ HT.out.reads
                        have HEN := Lib.hid hen; clear hen htk
                        have hdl := dC_len C B i
                        have hdl2 : (sv (dC C B i)).length = i := by rw [sv_length, hdl]
                        have HDL := Lib.hid hdl2; clear hdl2
                        have e2 : ∀ P Q : ByteArray, sv (dC C B i) ++ [Value.string P] ++ [Value.string Q] = sv (dC C B i ++ [P, Q]) := fun P Q => by rw [sv_append, List.append_assoc]; rfl
                        have HE2 := Lib.hid e2; clear e2 hdl
                        have HW := Lib.hid (below_then hB2 hB2.size hB4)
                        generalize bs (enP (dC C B i)) = P at *
                        generalize bs (enQ (dC C B i)) = Q at *
                        generalize enE (dC C B i) = E0 at *
                        generalize dC C B i = D at *
                        have hL1 : ((sv D).length + 1) * 16 ≤ 140737488355328 := by rw [HDL.out]; omega
                        have hL2 : ((sv D ++ [Value.string P]).length + 1) * 16 ≤ 140737488355328 := by rw [List.length_append, HDL.out]; simp; omega
                        have HL1 := Lib.hid hL1; clear hL1
                        have HL2 := Lib.hid hL2; clear hL2
                        go_wp2_with fail
                        refine (HEN.out).mono ?_
                        rintro e w8 ⟨rfl, hb8⟩
                        have hB8 := below_then hB7 hB7.size hb8
                        have HT8 := Lib.hid (HT.out.below hb8)
                        clear HT HEN hb8
                        go_wp2_with (first
                          | (at_builtin; refine append_one wq.heap.size rfl (.tmp 124) (.tmp 126) 22 9 (.string ⟨#[]⟩) 16 rfl Try.underlying22 info9 rfl (by decide) _ _ (.string P) rfl rfl rfl HT8.out hB8 hB8.size HL1.out ?_; intro v1 w9 hO9 hB9 hg9 hat9
                             have HT9 := Lib.hid hO9; clear hO9)
                          | (at_builtin; refine append_one wq.heap.size rfl (.tmp 128) (.tmp 130) 22 9 (.string ⟨#[]⟩) 16 rfl Try.underlying22 info9 rfl (by decide) _ _ (.string Q) rfl rfl rfl HT9.out hB9 hB9.size HL2.out ?_; intro v2 w10 hO10 hB10 hg10 hat10
                             rw [HE2.out] at hO10
                             have HT10 := Lib.hid hO10; clear hO10))
                        go_ret2
                        exact ⟨_, _, _, rfl, HT10.out.reads, HDN.out, below_then HW.out HW.out.size hB10⟩
              · have hb : (shE ((pk B (k + 2)).map (tl C)) != 0) = true := by rw [bne_iff_ne]; exact hE
                have HE := Lib.hid (HSHAPE.out (by omega) hE)
                have HSH := Lib.hid hsh; clear hsh hRl HL HU hc0 hE HDONE HSHAPE HLOST hml
                generalize shE ((pk B (k + 2)).map (tl C)) = E at *
                generalize (pk B (k + 2)).length = m at *
                go_wp2_with fail
                refine (HSH.out).mono ?_
                rintro e w2 ⟨rfl, hb2⟩
                have hB2 := below_then hB hB.size hb2
                go_wp2
                go_ret2
                exact ⟨_, _, _, rfl, HNIL.out _, HE.out, hB2⟩
      · have HR := Lib.hid (RefR.arg (C := C) (B := B) (by omega))
        have hne := bne_nat hbl
        clear hcell hdell hC0
        rw [hk] at *
        generalize B.length = m at *
        go_enter Try.func20, Try.ntmps20
        go_wp2
        go_ret2
        exact ⟨_, _, _, rfl, HNIL.out _, HR.out, Below.refl _ _⟩
end Go.Proofs.Ytikgipohjoiagaa
