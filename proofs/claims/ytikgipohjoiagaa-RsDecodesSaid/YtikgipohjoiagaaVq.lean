/-
  Rows that grow in their places; the region of the document's Decode in which one grows: by hand, over a frame that is a letter.
-/
import Derived.Test.YtikgipohjoiagaaLs
namespace Go.Proofs.Ytikgipohjoiagaa
open Go.RowKit GfM

/-! ### rows that grow in their places -/
/-- Block G holds k rows of the call's own, no two of which are one, and none of which lies in block gd. -/
def DRows (w : World) (base G k : Nat) (row : Nat → List UInt8) (gd : Nat) : Prop :=
  ∃ vs : List Value, vs.length = k ∧ Own w base 33 (.slice (some ⟨G, 0, none⟩) k k) vs ∧ (∀ r, r < k → Own w base 5 (vs.getD r undef) (bv (row r))) ∧
    (∀ r s, r < k → s < k → r ≠ s → Sep (vs.getD r undef) (vs.getD s undef)) ∧ ∀ r, r < k → (vs.getD r undef).ownBlock ≠ some gd
theorem nodup_ {w : World} {b1 b2 g n1 c1 n2 c2 : Nat} {xs ys : List Value} (h1 : Own w b1 5 (.slice (some ⟨g, 0, none⟩) n1 c1) xs) (h2 : Own w b2 33 (.slice (some ⟨g, 0, none⟩) n2 c2) ys) : False :=
  (h1.ne_ h2 (by decide)).elim (fun h => by cases h) fun h => h rfl
theorem ne5B : (5 : Nat) ≠ 33 := by decide
theorem neB5 : 33 ≠ (5 : Nat) := by decide
section
variable {w w' : World} {base G k gd : Nat} {row : Nat → List UInt8}
theorem DRows.below (h : DRows w base G k row gd) (hb : Below w.heap.size w w') : DRows w' base G k row gd := by
  obtain ⟨vs, h1, h2, h3, h4, h5⟩ := h
  exact ⟨vs, h1, h2.below hb, fun r hr => (h3 r hr).below hb, h4, h5⟩
theorem DRows.fresh (h : DRows w base G k row gd) {gd' : Nat} (hg : w.heap.size ≤ gd') : DRows w base G k row gd' := by
  obtain ⟨vs, h1, h2, h3, h4, h5⟩ := h
  exact ⟨vs, h1, h2, h3, h4, fun r hr e => by have := ((h3 r hr).lt _ e).2; omega⟩
theorem DRows.drew (h : DRows w base G k row gd) : DRows w.drew base G k row gd := h
theorem DRows.drewN (h : DRows w base G k row gd) (n : Nat) : DRows (w.drewN n) base G k row gd := h
theorem DRows.lt (h : DRows w base G k row gd) : base ≤ G ∧ G < w.heap.size := by
  obtain ⟨vs, h1, h2, h3, h4, h5⟩ := h
  exact h2.lt G rfl
theorem DRows.at_ (h : DRows w base G k row gd) {i : Nat} (hi : i < k) : ∃ v, w.cell? ⟨G, i, none⟩ = some v ∧ Own w base 5 v (bv (row i)) ∧ v.ownBlock ≠ some gd ∧ w.frozen? ⟨G, i, none⟩ = false ∧
    ∀ (w1 : World) (v1 : Value) (x : UInt8), w.grownBy w1 v.ownBlock → Own w1 base 5 v1 (bv (row i ++ [x])) → (v1.ownBlock = v.ownBlock ∨ ∃ g, v1.ownBlock = some g ∧ w.heap.size ≤ g) → gd < w.heap.size →
      (∃ u, w1.cell? ⟨G, i, none⟩ = some u) ∧ w1.frozen? ⟨G, i, none⟩ = false ∧ DRows (w1.setCell ⟨G, i, none⟩ v1) base G k (upd row i (row i ++ [x])) gd := by
  obtain ⟨vs, h1, h2, h3, h4, h5⟩ := h
  have h2' : Own w base 33 (.slice (some ⟨G, 0, none⟩) vs.length k) vs := by rw [h1]; exact h2
  have hc := h2'.cell i (by omega)
  have hv : vs[i]? = some (vs.getD i undef) := by rw [List.getD_eq_getElem?_getD, List.getElem?_eq_getElem (by omega)]; rfl
  rw [hv] at hc
  refine ⟨_, hc, h3 i hi, h5 i hi, h2.frozen i, fun w1 v1 x hg hO hat hgd => ?_⟩
  have hk := h2'.keep hg (h2'.ne_ (h3 i hi) neB5)
  refine ⟨⟨_, (hk.cell i (by omega)).trans hv⟩, hk.frozen i, vs.set i v1, by rw [List.length_set]; exact h1, ?_, fun r hr => ?_, fun r s hr hs hne => ?_, fun r hr => ?_⟩
  · have := hk.set_ i v1
    rw [h1] at this
    exact this
  · by_cases e : r = i
    · subst e
      have e1 : (vs.set r v1).getD r undef = v1 := by simp [List.getD_eq_getElem?_getD, h1, hr]
      rw [e1, upd_same]
      exact hO.far (p := ⟨G, r, none⟩) (fun e2 => (hO.ne_ hk ne5B).elim (fun h => by rw [h] at e2; cases e2) fun h => h e2) _
    · have e1 : (vs.set i v1).getD r undef = vs.getD r undef := by simp [List.getD_eq_getElem?_getD, List.getElem?_set, Ne.symm e]
      rw [e1, upd_other _ _ e]
      have hr' := (h3 r hr).keep hg (h4 r i hr hi e).ne
      exact hr'.far (p := ⟨G, i, none⟩) (fun e2 => (hr'.ne_ hk ne5B).elim (fun h => by rw [h] at e2; cases e2) fun h => h e2) _
  · have new : ∀ s, s < k → s ≠ i → Sep v1 (vs.getD s undef) := fun s hs hne => (h4 i s hi hs (Ne.symm hne)).grow (h3 s hs) hat
    by_cases e : r = i
    · subst e
      have e1 : (vs.set r v1).getD r undef = v1 := by simp [List.getD_eq_getElem?_getD, h1, hr]
      have e2 : (vs.set r v1).getD s undef = vs.getD s undef := by simp [List.getD_eq_getElem?_getD, List.getElem?_set, hne]
      rw [e1, e2]
      exact new s hs (Ne.symm hne)
    · have e1 : (vs.set i v1).getD r undef = vs.getD r undef := by simp [List.getD_eq_getElem?_getD, List.getElem?_set, Ne.symm e]
      rw [e1]
      by_cases e2 : s = i
      · subst e2
        have e3 : (vs.set s v1).getD s undef = v1 := by simp [List.getD_eq_getElem?_getD, h1, hs]
        rw [e3]
        exact (new r hr e).symm
      · have e3 : (vs.set i v1).getD s undef = vs.getD s undef := by simp [List.getD_eq_getElem?_getD, List.getElem?_set, Ne.symm e2]
        rw [e3]
        exact h4 r s hr hs hne
  · by_cases e : r = i
    · subst e
      have e1 : (vs.set r v1).getD r undef = v1 := by simp [List.getD_eq_getElem?_getD, h1, hr]
      rw [e1]
      rcases hat with hat | ⟨g, hat, hg1⟩
      · rw [hat]; exact h5 r hr
      · rw [hat]; intro e2; injection e2 with e2; omega
    · have e1 : (vs.set i v1).getD r undef = vs.getD r undef := by simp [List.getD_eq_getElem?_getD, List.getElem?_set, Ne.symm e]
      rw [e1]; exact h5 r hr
end

theorem opsQ_0 : OpAt ((Try.f20.body.bind (opsOf 25)).getD #[]) 0 (.move (.tmp 11)) (some 92) := by unfold OpAt; kernel_rfl
theorem opsQ_1 : OpAt ((Try.f20.body.bind (opsOf 25)).getD #[]) 1 (.move (.tmp 14)) (some 93) := by unfold OpAt; kernel_rfl
theorem opsQ_2 : OpAt ((Try.f20.body.bind (opsOf 25)).getD #[]) 2 (.move (.tmp 11)) (some 94) := by unfold OpAt; kernel_rfl
theorem opsQ_3 : OpAt ((Try.f20.body.bind (opsOf 25)).getD #[]) 3 (.move (.tmp 14)) (some 95) := by unfold OpAt; kernel_rfl
theorem opsQ_4 : OpAt ((Try.f20.body.bind (opsOf 25)).getD #[]) 4 (.indexAddr 59 (.tmp 94) (.tmp 95)) (some 96) := by unfold OpAt; kernel_rfl
theorem opsQ_5 : OpAt ((Try.f20.body.bind (opsOf 25)).getD #[]) 5 (.load 33 (.tmp 96)) (some 97) := by unfold OpAt; kernel_rfl
theorem opsQ_6 : OpAt ((Try.f20.body.bind (opsOf 25)).getD #[]) 6 (.move (.tmp 13)) (some 98) := by unfold OpAt; kernel_rfl
theorem opsQ_7 : OpAt ((Try.f20.body.bind (opsOf 25)).getD #[]) 7 (.move (.tmp 14)) (some 99) := by unfold OpAt; kernel_rfl
theorem opsQ_8 : OpAt ((Try.f20.body.bind (opsOf 25)).getD #[]) 8 (.indexAddr 33 (.tmp 98) (.tmp 99)) (some 100) := by unfold OpAt; kernel_rfl
theorem opsQ_9 : OpAt ((Try.f20.body.bind (opsOf 25)).getD #[]) 9 (.load 5 (.tmp 100)) (some 101) := by unfold OpAt; kernel_rfl
theorem opsQ_10 : OpAt ((Try.f20.body.bind (opsOf 25)).getD #[]) 10 (.buildSlice 33 1 #[(0, .tmp 101)]) (some 102) := by unfold OpAt; kernel_rfl
theorem opsQ_11 : OpAt ((Try.f20.body.bind (opsOf 25)).getD #[]) 11 (.call { callee := .builtin .append, args := #[.tmp 97, .tmp 102], argTypes := #[33, 33] }) (some 103) := by unfold OpAt; kernel_rfl
theorem opsQ_12 : OpAt ((Try.f20.body.bind (opsOf 25)).getD #[]) 12 (.indexAddr 59 (.tmp 92) (.tmp 93)) (some 104) := by unfold OpAt; kernel_rfl
theorem opsQ_13 : OpAt ((Try.f20.body.bind (opsOf 25)).getD #[]) 13 (.store 33 (.tmp 104) (.tmp 103)) none := by unfold OpAt; kernel_rfl

section
variable {ρ : Operand → Value} {w : World} {o : Oper}
theorem exQ_load5 {x : Operand} (h : o.op = .load 5 x) {p : Addr} {v : Value} (hx : ρ x = .pointer (some p)) (hc : w.cell? p = some v) : (execOp ρ o).run Try.prog w = .ok (.value v) w := by
  unfold execOp; rw [h]; simp only [hx]; go_simp
theorem exQ_ixR {x y : Operand} (h : o.op = .indexAddr 59 x y) {b c n k : Nat} (hx : ρ x = .slice (some ⟨b, 0, none⟩) n k) (hy : ρ y = .int .i64 c) (hc : (c : Int) < (n : Int)) : (execOp ρ o).run Try.prog w = .ok (.value (.pointer (some ⟨b, c, none⟩))) w := by
  unfold execOp; rw [h]; simp only [hx, hy]; go_simp
theorem exQ_ixB {x y : Operand} (h : o.op = .indexAddr 33 x y) {b c n k : Nat} (hx : ρ x = .slice (some ⟨b, 0, none⟩) n k) (hy : ρ y = .int .i64 c) (hc : (c : Int) < (n : Int)) : (execOp ρ o).run Try.prog w = .ok (.value (.pointer (some ⟨b, c, none⟩))) w := by
  unfold execOp; rw [h]; simp only [hx, hy]; go_simp
theorem exQ_box {x : Operand} (h : o.op = .buildSlice 33 1 #[(0, x)]) {n : Int} (hx : ρ x = .int .u8 n) : (execOp ρ o).run Try.prog w = .ok (.value (.slice (some ⟨w.heap.size, 0, none⟩) 1 1)) (w.alloc (.cells #[.int .u8 n] 5)) := by
  unfold execOp; rw [h]; simp only [hx, List.map_toArray, List.map_cons, List.map_nil]; go_simp
theorem exQ_store {x y : Operand} (h : o.op = .store 33 x y) {p : Addr} {u : Value} {A : Option Addr} {n k : Nat} (hx : ρ x = .pointer (some p)) (hy : ρ y = .slice A n k) (hc : w.cell? p = some u) (hf : w.frozen? p = false) : (execOp ρ o).run Try.prog w = .ok .skip (w.setCell p (.slice A n k)) := by
  unfold execOp; rw [h]; simp only [hx, hy]; go_simp
theorem exQ_app {P : Program} {s x : Operand} {t e : TypeId} {z : Value} {bytes base b : Nat} {v y : Value} {xs : List Value} {R : Value → World → Prop} (h : o.op = .call { callee := .builtin .append, args := #[s, x], argTypes := #[t, t] })
    (ht : P.underlying t = some (.slice e)) (hinfo : (P.info? e).map (fun i => (i.zero, i.size, i.bytes)) = some (some z, 1, bytes)) (hz : z.cells.size = 1) (hb0 : 0 < bytes)
    (hs : ρ s = v) (hx : ρ x = .slice (some ⟨b, 0, none⟩) 1 1) (h1 : y.oneCell' = true) (HO : Own w base e v xs) (hb : Blk w b e #[y]) (hbase : base ≤ w.heap.size) (hl : (xs.length + 1) * bytes ≤ 140737488355328)
    (hR : ∀ v1 w1, Own w1 base e v1 (xs ++ [y]) → w.grownBy w1 v.ownBlock → (v1.ownBlock = v.ownBlock ∨ v1.ownBlock = some w.heap.size) → R v1 w1) : ∃ v1 w1, (execOp ρ o).run P w = .ok (.value v1) w1 ∧ R v1 w1 := by
  obtain ⟨i0, hi, hz0, hz1, hz2⟩ := info_parts hinfo
  have hlen : xs.length + 1 ≤ 140737488355328 := Nat.le_trans (Nat.le_mul_of_pos_right _ hb0) hl
  obtain ⟨v1, w1, hr1, h2, hg, hat⟩ := run_append_own_at (P := P) w base t o.type e i0 z 1 bytes ht hi hz0 hz1 hz2 hz (by omega) v xs.length xs HO ⟨b, 0, none⟩ 1 1 [y] rfl
    (World.news_of_block (cs := #[y]) (t := e) (fr := (0, 0)) hb) (by simpa using h1) (by simp only [maxLen]; omega) hl hbase
  refine ⟨v1, w1, ?_, hR v1 w1 (by unfold Own; simpa using h2) hg hat.2⟩
  unfold execOp
  simp only [h, resolve, invoke, builtin, Sem.run_bind, Sem.run_pure, Result.andThen_ok, List.map_toArray, List.map_cons, List.map_nil, hs, hx, hr1]
end

def frQ (a : Act) (v92 v93 v94 v95 v98 v99 v96 v100 v101 v97 v102 v103 v104 : Value) : Act := (((((((((((((a.put (some 92) v92).put (some 93) v93).put (some 94) v94).put (some 95) v95).put (some 98) v98).put (some 99) v99).put (some 96) v96).put (some 100) v100).put (some 101) v101).put (some 97) v97).put (some 102) v102).put (some 103) v103).put (some 104) v104)
set_option maxRecDepth 100000 in
set_option maxHeartbeats 1000000 in
theorem region_push {ops : Array Oper} (hops : ops = ((Try.f20.body.bind (opsOf 25)).getD #[])) (Q : Exit → Act → World → Prop) (hQ : ∀ c (a : Act) d v w, Q (.panic c) (a.put d v) w → Q (.panic c) a w) (a : Act) (W : World) (hsz : a.tmps.size = 133)
    (w0 : World) (base G gd k cd i n : Nat) (row : Nat → List UInt8) (L : List UInt8) (x : UInt8) (hx : L.getD i 0 = x) (hL : L.length = k) (hi : i < k) (hn : (row i).length ≤ n) (hn2 : n ≤ 70000)
    (h11 : a.eval (.tmp 11) = .slice (some ⟨G, 0, none⟩) k k) (h13 : a.eval (.tmp 13) = .slice (some ⟨gd, 0, none⟩) k cd) (h14 : a.eval (.tmp 14) = .int .i64 i)
    (HR : DRows W base G k row gd) (HD : Own W base 5 (.slice (some ⟨gd, 0, none⟩) k cd) (bv L)) (HB : Below base w0 W) (hbase : base ≤ W.heap.size)
    (hfin : ∀ v92 v93 v94 v95 v98 v99 v96 v100 v101 v97 v102 v103 v104 W', DRows W' base G k (upd row i (row i ++ [x])) gd → Own W' base 5 (.slice (some ⟨gd, 0, none⟩) k cd) (bv L) → Below base w0 W' → W.heap.size ≤ W'.heap.size → Q .normal (frQ a v92 v93 v94 v95 v98 v99 v96 v100 v101 v97 v102 v103 v104) W') :
    (Code.region 25 ops true).wp Try.prog Q a W := by
  subst hops
  have hns : Region.noSelect ((Try.f20.body.bind (opsOf 25)).getD #[]) = true := by kernel_rfl
  have hsize : ((Try.f20.body.bind (opsOf 25)).getD #[]).size = 14 := by kernel_rfl
  refine wp_region_held (S := fun w' => w'.cell? ⟨gd, i, none⟩ = some (.int .u8 (x.toNat : Int))) (by kernel_rfl) ?_
  rw [hsize]
  have hi' : (i : Int) < (k : Int) := by omega
  have hS0 : W.drew.cell? ⟨gd, i, none⟩ = some (.int .u8 (x.toNat : Int)) := by
    have := own_bytes HD hL i hi
    rw [hx] at this
    exact this
  have hB0 : Below base w0 W.drew := HB.drew
  have hD0 : Own W.drew base 5 (.slice (some ⟨gd, 0, none⟩) k cd) (bv L) := HD.drew
  obtain ⟨v, hc, hO, hvd, hf, hput⟩ := HR.drew.at_ hi
  have hgd : gd < W.drew.heap.size := (HD.lt gd rfl).2
  have hsz0 : W.heap.size = W.drew.heap.size := rfl
  have hbase0 : base ≤ W.drew.heap.size := hbase
  have hGlt := HR.lt.1
  have hne0 : gd ≠ G := fun e => by
    obtain ⟨vs, _, q2, _⟩ := HR
    subst e
    exact nodup_ HD q2
  rw [hsz0] at hfin
  clear HB HD HR hsz0 hbase
  show wpAnyH _ _ _ _ _ _ _ _ W.drew
  generalize W.drew = W0 at *
  refine rg_take 0 _ _ (.slice (some ⟨G, 0, none⟩) k k) opsQ_0 hns (by kernel_rfl) (by kernel_rfl) hQ (fun w o hS ho => ex_move ho h11) hS0 ?_
  refine rg_take 1 _ _ (.int .i64 i) opsQ_1 hns (by kernel_rfl) (by kernel_rfl) hQ (fun w o hS ho => ex_move ho ((ev_other (by decide)).trans h14)) hS0 ?_
  refine rg_take 2 _ _ (.slice (some ⟨G, 0, none⟩) k k) opsQ_2 hns (by kernel_rfl) (by kernel_rfl) hQ (fun w o hS ho => ex_move ho ((ev_other (by decide)).trans ((ev_other (by decide)).trans h11))) hS0 ?_
  refine rg_take 3 _ _ (.int .i64 i) opsQ_3 hns (by kernel_rfl) (by kernel_rfl) hQ (fun w o hS ho => ex_move ho ((ev_other (by decide)).trans ((ev_other (by decide)).trans ((ev_other (by decide)).trans h14)))) hS0 ?_
  refine rg_take 6 _ _ (.slice (some ⟨gd, 0, none⟩) k cd) opsQ_6 hns (by kernel_rfl) (by kernel_rfl) hQ (fun w o hS ho => ex_move ho ((ev_other (by decide)).trans ((ev_other (by decide)).trans ((ev_other (by decide)).trans ((ev_other (by decide)).trans h13))))) hS0 ?_
  refine rg_take 7 _ _ (.int .i64 i) opsQ_7 hns (by kernel_rfl) (by kernel_rfl) hQ (fun w o hS ho => ex_move ho ((ev_other (by decide)).trans ((ev_other (by decide)).trans ((ev_other (by decide)).trans ((ev_other (by decide)).trans ((ev_other (by decide)).trans h14)))))) hS0 ?_
  refine rg_take 4 _ _ (.pointer (some ⟨G, i, none⟩)) opsQ_4 hns (by kernel_rfl) (by kernel_rfl) hQ (fun w o hS ho => exQ_ixR ho ((ev_other (by decide)).trans ((ev_other (by decide)).trans ((ev_other (by decide)).trans (ev_same (by simp only [sz_put, hsz]; decide))))) ((ev_other (by decide)).trans ((ev_other (by decide)).trans (ev_same (by simp only [sz_put, hsz]; decide)))) hi') hS0 ?_
  refine rg_take 8 _ _ (.pointer (some ⟨gd, i, none⟩)) opsQ_8 hns (by kernel_rfl) (by kernel_rfl) hQ (fun w o hS ho => exQ_ixB ho ((ev_other (by decide)).trans ((ev_other (by decide)).trans (ev_same (by simp only [sz_put, hsz]; decide)))) ((ev_other (by decide)).trans (ev_same (by simp only [sz_put, hsz]; decide))) hi') hS0 ?_
  refine rg_take 9 _ _ (.int .u8 (x.toNat : Int)) opsQ_9 hns (by kernel_rfl) (by kernel_rfl) hQ (fun w o hS ho => exQ_load5 ho (ev_same (by simp only [sz_put, hsz]; decide)) hS) hS0 ?_
  have hlen : ((bv (row i)).length + 1) * 1 ≤ 140737488355328 := by rw [bv_length]; omega
  have b1 := hB0.alloc hbase0 (.cells #[.int .u8 (x.toNat : Int)] 5)
  have l1 := hO.alloc (.cells #[.int .u8 (x.toNat : Int)] 5)
  have d1 := hD0.alloc (.cells #[.int .u8 (x.toNat : Int)] 5)
  have bl1 := Blk.new W0 5 #[.int .u8 (x.toNat : Int)]
  have hg1 := World.grownBy_alloc W0 (.cells #[.int .u8 (x.toNat : Int)] 5) v.ownBlock
  have hS1 : (W0.alloc (.cells #[.int .u8 (x.toNat : Int)] 5)).cell? ⟨gd, i, none⟩ = some (.int .u8 (x.toNat : Int)) := (World.cell?_alloc_lt W0 _ _ hgd).trans hS0
  have hsz1 : W0.heap.size ≤ (W0.alloc (.cells #[.int .u8 (x.toNat : Int)] 5)).heap.size := by simp
  have hc1 : (W0.alloc (.cells #[.int .u8 (x.toNat : Int)] 5)).cell? ⟨G, i, none⟩ = some v := (World.cell?_alloc_lt W0 _ _ (World.block_lt_of_cell? W0 _ hc)).trans hc
  have hbox : W0.heap.size < (W0.alloc (.cells #[.int .u8 (x.toNat : Int)] 5)).heap.size := by simp
  have hbx : ∀ (ρ : Operand → Value) (o : Oper) (z : Operand), o.op = .buildSlice 33 1 #[(0, z)] → ρ z = .int .u8 (x.toNat : Int) → (execOp ρ o).run Try.prog W0 = .ok (.value (.slice (some ⟨W0.heap.size, 0, none⟩) 1 1)) (W0.alloc (.cells #[.int .u8 (x.toNat : Int)] 5)) := fun ρ o z h hz => exQ_box h hz
  generalize W0.alloc (.cells #[.int .u8 (x.toNat : Int)] 5) = W1 at *
  generalize W0.heap.size = bx at *
  refine rg_two 5 10 _ _ _ _ opsQ_5 opsQ_10 (by kernel_rfl) (fun o ho => ?_) (fun o ho => ?_)
  · refine ⟨_, _, exD_load ho ((ev_other (by decide)).trans ((ev_other (by decide)).trans (ev_same (by simp only [sz_put, hsz]; decide)))) hc, hS0, ?_⟩
    refine rg_one 10 _ _ opsQ_10 (by kernel_rfl) fun o ho => ?_
    refine ⟨_, _, hbx _ _ _ ho ((ev_other (by decide)).trans (ev_same (by simp only [sz_put, hsz]; decide))), hS1, ?_⟩
    refine rg_one 11 _ _ opsQ_11 (by kernel_rfl) fun o ho => ?_
    refine exQ_app ho Try.underlying33 info5 rfl (by decide) ((ev_other (by decide)).trans (ev_same (by simp only [sz_put, hsz]; decide))) (ev_same (by simp only [sz_put, hsz]; decide)) rfl l1 bl1 (Nat.le_trans hbase0 hsz1) hlen fun v1 W2 l2 hg2 hat => ?_
    have hg := grownBy_trans hg1 hg2
    have hat' : v1.ownBlock = v.ownBlock ∨ ∃ g, v1.ownBlock = some g ∧ bx ≤ g := hat.elim .inl fun h => .inr ⟨_, h, hsz1⟩
    have e0 : bv (row i) ++ [.int .u8 (x.toNat : Int)] = bv (row i ++ [x]) := by rw [bv_append]; rfl
    rw [e0] at l2
    obtain ⟨⟨u, hcu⟩, hfu, hnew⟩ := hput W2 v1 x hg l2 hat' hgd
    have b2 := b1.grown hg2 (Nat.le_trans hbase0 hsz1) fun k hk => (l1.lt k hk).1
    have d2 := d1.keep hg2 (.inr fun e => hvd e.symm)
    have hS2 : W2.cell? ⟨gd, i, none⟩ = some (.int .u8 (x.toNat : Int)) := by
      have := own_bytes d2 hL i hi
      rw [hx] at this
      exact this
    have hgG : (Value.slice (some ⟨gd, 0, none⟩) k cd).ownBlock ≠ some G := fun e => hne0 (by injection e)
    have d3 := d2.far (p := ⟨G, i, none⟩) hgG v1
    have b3 := b2.setCell (p := ⟨G, i, none⟩) hGlt v1
    have hS3 : (W2.setCell ⟨G, i, none⟩ v1).cell? ⟨gd, i, none⟩ = some (.int .u8 (x.toNat : Int)) := by
      have := own_bytes d3 hL i hi
      rw [hx] at this
      exact this
    have hs3 : bx ≤ (W2.setCell ⟨G, i, none⟩ v1).heap.size := Nat.le_trans hsz1 (by have := hg2.size; simp only [World.setCell, Array.size_modify]; exact this)
    obtain ⟨A1, c1, rfl⟩ := l2.shape
    refine ⟨hS2, ?_⟩
    refine rg_step 12 _ _ (.pointer (some ⟨G, i, none⟩)) W2 opsQ_12 (by kernel_rfl) (fun o ho => exQ_ixR ho ((ev_other (by decide)).trans ((ev_other (by decide)).trans ((ev_other (by decide)).trans ((ev_other (by decide)).trans ((ev_other (by decide)).trans ((ev_other (by decide)).trans ((ev_other (by decide)).trans ((ev_other (by decide)).trans ((ev_other (by decide)).trans ((ev_other (by decide)).trans ((ev_other (by decide)).trans (ev_same (by simp only [sz_put, hsz]; decide))))))))))))) ((ev_other (by decide)).trans ((ev_other (by decide)).trans ((ev_other (by decide)).trans ((ev_other (by decide)).trans ((ev_other (by decide)).trans ((ev_other (by decide)).trans ((ev_other (by decide)).trans ((ev_other (by decide)).trans ((ev_other (by decide)).trans ((ev_other (by decide)).trans (ev_same (by simp only [sz_put, hsz]; decide)))))))))))) hi') hS2 ?_
    refine rg_store 13 _ _ opsQ_13 (by kernel_rfl) (fun o ho => exQ_store ho (ev_same (by simp only [sz_put, hsz]; decide)) ((ev_other (by decide)).trans (ev_same (by simp only [sz_put, hsz]; decide))) hcu hfu) hS3 ?_
    exact wpAnyH_done (by kernel_rfl) (hfin _ _ _ _ _ _ _ _ _ _ _ _ _ _ hnew d3 b3 hs3) _
  · refine ⟨_, _, hbx _ _ _ ho (ev_same (by simp only [sz_put, hsz]; decide)), hS1, ?_⟩
    refine rg_one 5 _ _ opsQ_5 (by kernel_rfl) fun o ho => ?_
    refine ⟨_, _, exD_load ho ((ev_other (by decide)).trans ((ev_other (by decide)).trans ((ev_other (by decide)).trans (ev_same (by simp only [sz_put, hsz]; decide))))) hc1, hS1, ?_⟩
    refine rg_one 11 _ _ opsQ_11 (by kernel_rfl) fun o ho => ?_
    refine exQ_app ho Try.underlying33 info5 rfl (by decide) (ev_same (by simp only [sz_put, hsz]; decide)) ((ev_other (by decide)).trans (ev_same (by simp only [sz_put, hsz]; decide))) rfl l1 bl1 (Nat.le_trans hbase0 hsz1) hlen fun v1 W2 l2 hg2 hat => ?_
    have hg := grownBy_trans hg1 hg2
    have hat' : v1.ownBlock = v.ownBlock ∨ ∃ g, v1.ownBlock = some g ∧ bx ≤ g := hat.elim .inl fun h => .inr ⟨_, h, hsz1⟩
    have e0 : bv (row i) ++ [.int .u8 (x.toNat : Int)] = bv (row i ++ [x]) := by rw [bv_append]; rfl
    rw [e0] at l2
    obtain ⟨⟨u, hcu⟩, hfu, hnew⟩ := hput W2 v1 x hg l2 hat' hgd
    have b2 := b1.grown hg2 (Nat.le_trans hbase0 hsz1) fun k hk => (l1.lt k hk).1
    have d2 := d1.keep hg2 (.inr fun e => hvd e.symm)
    have hS2 : W2.cell? ⟨gd, i, none⟩ = some (.int .u8 (x.toNat : Int)) := by
      have := own_bytes d2 hL i hi
      rw [hx] at this
      exact this
    have hgG : (Value.slice (some ⟨gd, 0, none⟩) k cd).ownBlock ≠ some G := fun e => hne0 (by injection e)
    have d3 := d2.far (p := ⟨G, i, none⟩) hgG v1
    have b3 := b2.setCell (p := ⟨G, i, none⟩) hGlt v1
    have hS3 : (W2.setCell ⟨G, i, none⟩ v1).cell? ⟨gd, i, none⟩ = some (.int .u8 (x.toNat : Int)) := by
      have := own_bytes d3 hL i hi
      rw [hx] at this
      exact this
    have hs3 : bx ≤ (W2.setCell ⟨G, i, none⟩ v1).heap.size := Nat.le_trans hsz1 (by have := hg2.size; simp only [World.setCell, Array.size_modify]; exact this)
    obtain ⟨A1, c1, rfl⟩ := l2.shape
    refine ⟨hS2, ?_⟩
    refine rg_step 12 _ _ (.pointer (some ⟨G, i, none⟩)) W2 opsQ_12 (by kernel_rfl) (fun o ho => exQ_ixR ho ((ev_other (by decide)).trans ((ev_other (by decide)).trans ((ev_other (by decide)).trans ((ev_other (by decide)).trans ((ev_other (by decide)).trans ((ev_other (by decide)).trans ((ev_other (by decide)).trans ((ev_other (by decide)).trans ((ev_other (by decide)).trans ((ev_other (by decide)).trans ((ev_other (by decide)).trans (ev_same (by simp only [sz_put, hsz]; decide))))))))))))) ((ev_other (by decide)).trans ((ev_other (by decide)).trans ((ev_other (by decide)).trans ((ev_other (by decide)).trans ((ev_other (by decide)).trans ((ev_other (by decide)).trans ((ev_other (by decide)).trans ((ev_other (by decide)).trans ((ev_other (by decide)).trans ((ev_other (by decide)).trans (ev_same (by simp only [sz_put, hsz]; decide)))))))))))) hi') hS2 ?_
    refine rg_store 13 _ _ opsQ_13 (by kernel_rfl) (fun o ho => exQ_store ho (ev_same (by simp only [sz_put, hsz]; decide)) ((ev_other (by decide)).trans (ev_same (by simp only [sz_put, hsz]; decide))) hcu hfu) hS3 ?_
    rw [pc_ _ 102 97 _ _ (by decide)]
    exact wpAnyH_done (by kernel_rfl) (hfin _ _ _ _ _ _ _ _ _ _ _ _ _ _ hnew d3 b3 hs3) _
end Go.Proofs.Ytikgipohjoiagaa
