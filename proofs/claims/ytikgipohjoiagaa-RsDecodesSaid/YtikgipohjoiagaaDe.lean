/-
  The walk of rs.Decode.
-/
import Derived.Test.YtikgipohjoiagaaVd
import Derived.Test.YtikgipohjoiagaaDg
import Derived.Test.YtikgipohjoiagaaSc
import Derived.Test.YtikgipohjoiagaaVi
import Derived.Test.YtikgipohjoiagaaAw
namespace Go.Proofs.Ytikgipohjoiagaa
open Go.RowKit GfM

/-! ### which are there -/
/-- truth values, as Go holds them. -/
def tv (B : List Bool) : List Value := B.map Value.bool
theorem tv_length (B : List Bool) : (tv B).length = B.length := by simp [tv]
theorem tv_at (B : List Bool) (i : Nat) (h : i < B.length) : (tv B)[i]? = some (.bool (B.getD i false)) := by
  simp [tv, h]
theorem Reads.bools {w : World} {v : Value} {B : List Bool} (h : Reads w v (tv B)) :
    ∃ A c, v = .slice A B.length c ∧ B.length ≤ c ∧ c ≤ 9223372036854775807 ∧ (0 < B.length → ∃ b off, A = some ⟨b, off, none⟩ ∧ ∀ j, j < B.length → w.cell? ⟨b, off + j, none⟩ = some (.bool (B.getD j false))) := by
  obtain ⟨A, c, rfl, h1, h2, h3⟩ := h
  rw [tv_length] at *
  refine ⟨A, c, rfl, h1, h2, fun hp => ?_⟩
  obtain ⟨b, off, rfl, hc⟩ := h3 hp
  exact ⟨b, off, rfl, fun j hj => by rw [hc j hj, tv_at B j hj]⟩
/-- the places, of the first i, that are there. -/
def pk (B : List Bool) : Nat → List Nat
  | 0 => []
  | i + 1 => if B.getD i false = true then pk B i ++ [i] else pk B i
theorem pk_yes {B : List Bool} {i : Nat} (h : B.getD i false = true) : pk B (i + 1) = pk B i ++ [i] := by
  show (if _ then _ else _) = _
  rw [if_pos h]
theorem pk_no {B : List Bool} {i : Nat} (h : B.getD i false = false) : pk B (i + 1) = pk B i := by
  show (if _ then _ else _) = _
  rw [if_neg (by rw [h]; decide)]
theorem pk_len (B : List Bool) (i : Nat) : (pk B i).length ≤ i := by
  induction i with
  | zero => simp [pk]
  | succ i ih =>
    by_cases h : B.getD i false = true
    · rw [pk_yes h, List.length_append, List.length_singleton]; omega
    · rw [pk_no (by simpa using h)]; omega
theorem pk_lt (B : List Bool) (i : Nat) : ∀ r ∈ pk B i, r < i ∧ B.getD r false = true := by
  induction i with
  | zero => intro r hr; cases hr
  | succ i ih =>
    intro r hr
    by_cases h : B.getD i false = true
    · rw [pk_yes h, List.mem_append, List.mem_singleton] at hr
      rcases hr with hr | rfl
      · exact ⟨by have := (ih r hr).1; omega, (ih r hr).2⟩
      · exact ⟨by omega, h⟩
    · rw [pk_no (by simpa using h)] at hr
      exact ⟨by have := (ih r hr).1; omega, (ih r hr).2⟩
/-- the rows of the chunks that are there. -/
def pkR (B : List Bool) (k : Nat) : List (List UInt8) := ((pk B (k + 2)).take k).map fun r => (genM k).getD r []
/-- these chunks. -/
def pkC (B : List Bool) (C : List ByteArray) (k : Nat) : List ByteArray := ((pk B (k + 2)).take k).map (tl C)
/-- what Decode answers. -/
inductive DecR (C : List ByteArray) (B : List Bool) : List ByteArray → Int → Prop
  | arg (h : ¬ (3 ≤ C.length ∧ C.length ≤ 10 ∧ B.length = C.length)) : DecR C B [] 2
  | lost (h1 : 3 ≤ C.length) (h2 : C.length ≤ 10) (h3 : B.length = C.length) (h4 : (pk B C.length).length < C.length - 2) : DecR C B [] 24
  | shape (h1 : 3 ≤ C.length) (h2 : C.length ≤ 10) (h3 : B.length = C.length) (h4 : C.length - 2 ≤ (pk B C.length).length) (h5 : shE ((pk B C.length).map (tl C)) ≠ 0) : DecR C B [] (shE ((pk B C.length).map (tl C)))
  | done (k : Nat) (h0 : C.length = k + 2) (h1 : 1 ≤ k) (h2 : k ≤ 8) (h3 : B.length = C.length) (h4 : k ≤ (pk B C.length).length) (h5 : shE ((pk B C.length).map (tl C)) = 0) (X : List (List UInt8)) (e : Int) (h6 : InvR (pkR B k) X e) : DecR C B (apT (genM k) (apT X (pkC B C k))) 0

set_option maxRecDepth 100000 in
set_option maxHeartbeats 2000000 in
theorem decode_any (w : World) (vc vb : Value) (C : List ByteArray) (B : List Bool) (hC : Reads w vc (sv C)) (hB : Reads w vb (tv B)) :
    Calls Try.prog 19 #[vc, vb] w fun e w' => ∃ v T e0, e = .returned (.tuple #[v, .int .i64 e0]) ∧ Reads w' v (sv T) ∧ DecR C B T e0 ∧ Below w.heap.size w w' := by
  obtain ⟨A, c, rfl, hc1, hc2, hcell⟩ := hC.texts
  obtain ⟨A2, c2, rfl, hd1, hd2, hdell⟩ := hB.bools
  have hnil : ∀ W : World, Reads W (.slice none 0 0) (sv []) := fun W => (Own.nil_ W 0 9).reads
  have HNIL := Lib.hid hnil; clear hnil hC hB
  by_cases hn : C.length < 3
  · have hd : decide (1 ≤ (C.length : Int) - 2 ∧ (C.length : Int) - 2 ≤ 8) = false := by simp; omega
    have HR := Lib.hid (DecR.arg (C := C) (B := B) (by omega))
    clear hcell hdell
    generalize C.length = n at *
    generalize B.length = m at *
    go_enter Try.func19, Try.ntmps19
    go_wp2_with fail
    refine (rmay_any _ _).mono ?_
    rw [hd]
    rintro e w' ⟨rfl, rfl⟩
    go_wp2
    go_ret2
    exact ⟨_, _, _, rfl, HNIL.out _, HR.out, Below.refl _ _⟩
  · obtain ⟨k, hk⟩ : ∃ k : Nat, C.length = k + 2 := ⟨C.length - 2, by omega⟩
    have hk1 : 1 ≤ k := by omega
    have hkb : (k : Int) ≤ 9223372036854775805 := by omega
    by_cases hk8 : 8 < k
    · have hd : decide (1 ≤ (k : Int) ∧ (k : Int) ≤ 8) = false := by simp; omega
      have HR := Lib.hid (DecR.arg (C := C) (B := B) (by omega))
      clear hcell hdell
      rw [hk] at *
      generalize B.length = m at *
      go_enter Try.func19, Try.ntmps19
      go_wp2_with fail
      refine (rmay_any _ _).mono ?_
      rw [hd]
      rintro e w' ⟨rfl, rfl⟩
      go_wp2
      go_ret2
      exact ⟨_, _, _, rfl, HNIL.out _, HR.out, Below.refl _ _⟩
    · have hd : decide (1 ≤ (k : Int) ∧ (k : Int) ≤ 8) = true := by simp; omega
      by_cases hbl : B.length = C.length
      · have hgen := generator_any k hk1 (by omega) w
        have HGEN := Lib.hid hgen; clear hgen
        obtain ⟨bc, oc, rfl, hcc⟩ := hcell (by omega)
        obtain ⟨bb, ob, rfl, hbb⟩ := hdell (by omega)
        clear hcell hdell
        have HCC := Lib.hid hcc; clear hcc
        have HBB := Lib.hid hbb; clear hbb
        have hlost := fun h4 => DecR.lost (C := C) (B := B) (by omega) (by omega) hbl h4
        have hshape := fun h4 h5 => DecR.shape (C := C) (B := B) (by omega) (by omega) hbl h4 h5
        have hdone := fun h4 h5 X e h6 => DecR.done (C := C) (B := B) k hk hk1 (by omega) hbl h4 h5 X e h6
        rw [hk] at hlost hshape hdone
        have HLOST := Lib.hid hlost; clear hlost
        have HSHAPE := Lib.hid hshape; clear hshape
        have HDONE := Lib.hid hdone; clear hdone
        have hne := bne_nat_same hbl
        rw [hbl] at *
        rw [hk] at *
        clear hbl
        have hgl := Lib.hid (genM_length k)
        go_enter Try.func19, Try.ntmps19
        go_wp2_with fail
        refine (rmay_any _ _).mono ?_
        rw [hd]
        rintro e w' ⟨rfl, rfl⟩
        go_wp2_with fail
        refine (HGEN.out).mono ?_
        rintro e wg ⟨vg, rfl, ⟨ys, hy1, hy2, hy3⟩, hBg⟩
        obtain ⟨Ag, cg, rfl, hg1, hg2, hgcell⟩ := hy2
        rw [hgl.out] at hy1
        obtain ⟨bg, og, rfl, hgc⟩ := hgcell (by omega)
        have HY1 := Lib.hid hy1
        rw [hy1] at hg1 hgc ⊢
        have HY := Lib.hid hy3; clear hy3
        have HGC := Lib.hid hgc; clear hgc hgcell hy1
        obtain ⟨yv, hyv⟩ : ∃ yv : Nat → Value, yv = fun r => ys.getD r undef := ⟨_, rfl⟩
        have HYV := Lib.hid hyv; clear hyv
        have hL0 := Lib.hid (Own.nil_ wg wg.heap.size 9)
        have hR0 := Lib.hid (Own.nil_ wg wg.heap.size 33)
        go_wp2
        go_loopw [7, 8, 10, 11, 36] (fun s7 s8 _ _ s36 wr => ∃ i : Nat, i ≤ k + 2 ∧ s36 = .int .i64 i ∧ Hid (Own wr wg.heap.size 9 s8 (sv ((pk B i).map (tl C)))) ∧ Hid (Own wr wg.heap.size 33 s7 ((pk B i).map yv)) ∧ Below wg.heap.size wg wr) (fun _ _ _ _ s36 _ => k + 2 - (intOf s36).toNat)
        case atStart => exact ⟨0, by omega, rfl, hL0, hR0, Below.refl _ _⟩
        case round =>
          clear hL0 hR0
          obtain ⟨i, hi, rfl, HL, HR, hB⟩ := hrel
          by_cases hlt : i < k + 2
          · have hcw := HCC.out i hlt
            have hbw := HBB.out i hlt
            have hcl := (hB.cell (World.block_lt_of_cell? wg _ ((hBg.cell (World.block_lt_of_cell? w _ hcw)).trans hcw))).trans ((hBg.cell (World.block_lt_of_cell? w _ hcw)).trans hcw)
            have hbl := (hB.cell (World.block_lt_of_cell? wg _ ((hBg.cell (World.block_lt_of_cell? w _ hbw)).trans hbw))).trans ((hBg.cell (World.block_lt_of_cell? w _ hbw)).trans hbw)
            clear hcw hbw
            have hik : (i : Int) < ((k + 2 : Nat) : Int) := by omega
            by_cases hbi : B.getD i false = true
            · rw [hbi] at hbl
              have hg := HGC.out i hlt
              obtain ⟨yA, yc, hy, _⟩ := (HY.out i (by rw [hgl.out]; exact hlt)).shape
              have hys : ys[i]? = some (yv i) := by
                rw [HYV.out]
                show ys[i]? = some (ys.getD i undef)
                rw [List.getD_eq_getElem?_getD, List.getElem?_eq_getElem (by rw [HY1.out]; exact hlt)]; rfl
              have hyi : yv i = .slice yA ((genM k).getD i []).length yc := by rw [HYV.out]; exact hy
              rw [hys, hyi] at hg
              have hpk := pk_len B i
              have hLl : ((sv ((pk B i).map (tl C))).length + 1) * 16 ≤ 140737488355328 := by rw [sv_length, List.length_map]; omega
              have hRl : (((pk B i).map yv).length + 1) * 24 ≤ 140737488355328 := by rw [List.length_map]; omega
              have HLl := Lib.hid hLl; clear hLl
              have HRl := Lib.hid hRl; clear hRl hpk hys hy
              have hpl : sv ((pk B i).map (tl C)) ++ [.string (tl C i)] = sv ((pk B (i + 1)).map (tl C)) := by rw [pk_yes hbi, List.map_append, sv_append]; rfl
              have hpr : (pk B i).map yv ++ [.slice yA ((genM k).getD i []).length yc] = (pk B (i + 1)).map yv := by rw [pk_yes hbi, List.map_append, ← hyi]; rfl
              have HPL := Lib.hid hpl; clear hpl
              have HPR := Lib.hid hpr; clear hpr
              have HG := Lib.hid hg; clear hg
              generalize hsi : tl C i = si at *
              clear hsi hyi hbi
              go_upto_region 11 with fail
              refine region_decode (by kernel_rfl) _ ?hQ _ _ rfl wg _ _ _ _ si bg og (k + 2) cg i ((genM k).getD i []).length yc yA hik rfl rfl rfl rfl rfl HG.out HL.out HR.out hB HLl.out HRl.out ?fin
              case hQ =>
                intro c0 a0 d0 v0 x0 h
                simp only [Exit.then, Exit.inBlock] at h ⊢
                first
                  | exact h
                  | (simp +zetaDelta only [Exit.then, Exit.inBlock, bodyPost] at h ⊢; exact h)
                  | (simp +zetaDelta [Exit.then, Exit.inBlock, bodyPost] at h)
              case fin =>
                intro _ _ _ _ _ _ _ _ _ _ _ vl' vr' w' hl' hr' hb'
                simp only [frD, Act.put, List.setIfInBounds_toArray, List.set_cons_zero, List.set_cons_succ]
                rw [HPL.out] at hl'
                rw [HPR.out] at hr'
                have HLa := Lib.hid hl'
                have HRa := Lib.hid hr'
                clear hl' hr'
                go_wp2
                go_roundw
                case rel => exact ⟨i + 1, by omega, by go_num, HLa, HRa, hb'⟩
                case measure => simp [intOf]; omega
            · have hbf : B.getD i false = false := by simpa using hbi
              rw [hbf] at hbl
              have hpe := pk_no hbf
              have HLa : Hid (Own wr wg.heap.size 9 u8 (sv ((pk B (i + 1)).map (tl C)))) := by rw [hpe]; exact HL
              have HRa : Hid (Own wr wg.heap.size 33 u7 ((pk B (i + 1)).map yv)) := by rw [hpe]; exact HR
              clear HL HR hpe hbi hbf
              generalize hsi : tl C i = si at *
              clear hsi
              go_wp2
              go_roundw
              case rel => exact ⟨i + 1, by omega, by go_num, HLa, HRa, hB⟩
              case measure => simp [intOf]; omega
          · obtain rfl : i = k + 2 := by omega
            have hml : (sv ((pk B (k + 2)).map (tl C))).length = (pk B (k + 2)).length := by rw [sv_length, List.length_map]
            have hmr : ((pk B (k + 2)).map yv).length = (pk B (k + 2)).length := by rw [List.length_map]
            have hpl := pk_len B (k + 2)
            have hB2 := below_then hBg hBg.size hB
            by_cases hm : (pk B (k + 2)).length < k
            · have HE := Lib.hid (HLOST.out hm)
              obtain ⟨Al, cl, rfl⟩ := HL.out.shape
              rw [hml] at *
              clear hml hmr HL HR
              generalize (pk B (k + 2)).length = m at *
              have hmk : (m : Int) < (k : Int) := by omega
              go_wp2
              go_ret2
              exact ⟨_, _, _, rfl, HNIL.out _, HE.out, hB2⟩
            · have hm1 : 1 ≤ (pk B (k + 2)).length := by omega
              obtain ⟨gl, cl, rfl, hgl1, hgl2, hgl3⟩ := HL.out.form (by rw [hml]; omega)
              obtain ⟨gr, cr, rfl, hgr1, hgr2, hgr3⟩ := HR.out.form (by rw [hmr]; omega)
              have hRl := HL.out.reads
              have hRr := HR.out.reads
              rw [hml] at hRl hgl3
              rw [hmr] at hRr hgr3
              have hsh := shape_any wr _ _ hRl
              have hTk := hRl.take k (by rw [hml]; omega)
              rw [sv_take, ← List.map_take] at hTk
              have hRk := hRr.take k (by rw [hmr]; omega)
              rw [← List.map_take] at hRk
              have hRM : RMat wr (.slice (some ⟨gr, 0, none⟩) k cr) (pkR B k) := by
                refine ⟨_, by unfold pkR; rw [List.length_map, List.length_map], hRk, fun r hr => ?_⟩
                unfold pkR at hr ⊢
                rw [List.length_map] at hr
                have hrk := (pk_lt B (k + 2) (((pk B (k + 2)).take k).getD r 0) (by
                  rw [List.getD_eq_getElem?_getD, List.getElem?_eq_getElem hr]
                  exact List.mem_of_mem_take (List.getElem_mem hr))).1
                have e1 : (((pk B (k + 2)).take k).map yv).getD r undef = yv (((pk B (k + 2)).take k).getD r 0) := by
                  rw [List.getD_eq_getElem?_getD, List.getElem?_map, List.getD_eq_getElem?_getD, List.getElem?_eq_getElem hr]; rfl
                have e2 : (((pk B (k + 2)).take k).map fun r => (genM k).getD r []).getD r [] = (genM k).getD (((pk B (k + 2)).take k).getD r 0) [] := by
                  rw [List.getD_eq_getElem?_getD, List.getElem?_map, List.getD_eq_getElem?_getD (l := (pk B (k + 2)).take k), List.getElem?_eq_getElem hr]; rfl
                rw [e1, e2, HYV.out]
                exact (HY.out _ (by rw [hgl.out]; exact hrk)).below hB
              have hGM : RMat wg (.slice (some ⟨bg, og, none⟩) (k + 2) cg) (genM k) := by
                refine ⟨ys, by rw [HY1.out, hgl.out], ⟨_, cg, by rw [HY1.out], by rw [HY1.out]; exact hg1, hg2, fun _ => ⟨bg, og, rfl, fun j hj => HGC.out j (by rw [← HY1.out]; exact hj)⟩⟩, HY.out⟩
              have hGr := hGM.below hB
              have hcl : k ≤ cl := by omega
              have hcr : k ≤ cr := by omega
              have hmk : ¬ (((pk B (k + 2)).length : Int) < (k : Int)) := by omega
              have HSH := Lib.hid hsh; clear hsh
              have HTK := Lib.hid hTk; clear hTk
              have HRM := Lib.hid hRM; clear hRM
              have HGR := Lib.hid hGr; clear hGr hGM
              have HDN := Lib.hid (HDONE.out (by omega))
              have HSP := Lib.hid (HSHAPE.out (by omega))
              rw [hml, hmr]
              clear hRl hRr hRk HL HR HDONE HSHAPE HLOST
              generalize hS : shE ((pk B (k + 2)).map (tl C)) = E at *
              clear hS hml hmr
              generalize (pk B (k + 2)).length = m at *
              by_cases hE : E = 0
              · subst hE
                have hinv := invert_any wr _ _ HRM.out
                have HINV := Lib.hid hinv; clear hinv
                have HDN2 := Lib.hid (HDN.out rfl)
                clear HDN HSP
                go_wp2_with fail
                refine (HSH.out).mono ?_
                rintro e w' ⟨rfl, rfl⟩
                go_wp2_with fail
                refine (HINV.out).mono ?_
                rintro e w2 ⟨vi, X, e1, rfl, hX, hR, hb2⟩
                have hap := apply_any w2 vi X hX _ _ (HTK.out.below hb2)
                have hG2 := Lib.hid (HGR.out.below hb2)
                have HR2 := Lib.hid (HDN2.out X e1 hR)
                have HAP := Lib.hid hap; clear hap HINV HDN2 hX hR
                have hB3 := below_then hB2 hB2.size hb2
                go_wp2_with fail
                refine (HAP.out).mono ?_
                rintro e w3 ⟨vd, rfl, hD, hb3⟩
                have hap2 := apply_any w3 _ _ (hG2.out.below hb3) _ _ hD
                have hB4 := below_then hB3 hB3.size hb3
                have HAP2 := Lib.hid hap2; clear hap2 HAP hD
                go_wp2_with fail
                refine (HAP2.out).mono ?_
                rintro e w4 ⟨vo, rfl, hO, hb4⟩
                have hB5 := below_then hB4 hB4.size hb4
                have HO := Lib.hid hO; clear hO
                go_wp2
                go_ret2
                exact ⟨_, _, _, rfl, HO.out, HR2.out, hB5⟩
              · have hb : (E != 0) = true := by rw [bne_iff_ne]; exact hE
                have HE := Lib.hid (HSP.out hE)
                go_wp2_with fail
                refine (HSH.out).mono ?_
                rintro e w' ⟨rfl, rfl⟩
                go_wp2
                go_ret2
                exact ⟨_, _, _, rfl, HNIL.out _, HE.out, hB2⟩
      · have HR := Lib.hid (DecR.arg (C := C) (B := B) (by omega))
        have hne := bne_nat hbl
        clear hcell hdell
        rw [hk] at *
        generalize B.length = m at *
        go_enter Try.func19, Try.ntmps19
        go_wp2_with fail
        refine (rmay_any _ _).mono ?_
        rw [hd]
        rintro e w' ⟨rfl, rfl⟩
        go_wp2
        go_ret2
        exact ⟨_, _, _, rfl, HNIL.out _, HR.out, Below.refl _ _⟩
end Go.Proofs.Ytikgipohjoiagaa
