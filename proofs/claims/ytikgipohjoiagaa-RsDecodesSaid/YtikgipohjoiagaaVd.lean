/-
  The region of rs.Decode in which a chunk and its row are taken: by hand, over a frame that is a letter.
-/
import Derived.Test.YtikgipohjoiagaaSk
import Derived.Test.YtikgipohjoiagaaWo
import Derived.Test.YtikgipohjoiagaaWe
import Derived.Test.YtikgipohjoiagaaRg
namespace Go.Proofs.Ytikgipohjoiagaa
open Go.RowKit GfM

theorem opsD_0 : OpAt ((Try.f19.body.bind (opsOf 11)).getD #[]) 0 (.move (.tmp 8)) (some 45) := by unfold OpAt; kernel_rfl
theorem opsD_1 : OpAt ((Try.f19.body.bind (opsOf 11)).getD #[]) 1 (.move (.tmp 11)) (some 46) := by unfold OpAt; kernel_rfl
theorem opsD_2 : OpAt ((Try.f19.body.bind (opsOf 11)).getD #[]) 2 (.buildSlice 22 1 #[(0, .tmp 46)]) (some 47) := by unfold OpAt; kernel_rfl
theorem opsD_3 : OpAt ((Try.f19.body.bind (opsOf 11)).getD #[]) 3 (.call { callee := .builtin .append, args := #[.tmp 45, .tmp 47], argTypes := #[22, 22] }) (some 48) := by unfold OpAt; kernel_rfl
theorem opsD_4 : OpAt ((Try.f19.body.bind (opsOf 11)).getD #[]) 4 (.move (.tmp 7)) (some 49) := by unfold OpAt; kernel_rfl
theorem opsD_5 : OpAt ((Try.f19.body.bind (opsOf 11)).getD #[]) 5 (.move (.tmp 9)) (some 50) := by unfold OpAt; kernel_rfl
theorem opsD_6 : OpAt ((Try.f19.body.bind (opsOf 11)).getD #[]) 6 (.move (.tmp 10)) (some 51) := by unfold OpAt; kernel_rfl
theorem opsD_7 : OpAt ((Try.f19.body.bind (opsOf 11)).getD #[]) 7 (.indexAddr 60 (.tmp 50) (.tmp 51)) (some 52) := by unfold OpAt; kernel_rfl
theorem opsD_8 : OpAt ((Try.f19.body.bind (opsOf 11)).getD #[]) 8 (.load 33 (.tmp 52)) (some 53) := by unfold OpAt; kernel_rfl
theorem opsD_9 : OpAt ((Try.f19.body.bind (opsOf 11)).getD #[]) 9 (.buildSlice 60 1 #[(0, .tmp 53)]) (some 54) := by unfold OpAt; kernel_rfl
theorem opsD_10 : OpAt ((Try.f19.body.bind (opsOf 11)).getD #[]) 10 (.call { callee := .builtin .append, args := #[.tmp 49, .tmp 54], argTypes := #[60, 60] }) (some 55) := by unfold OpAt; kernel_rfl
theorem opsD_11 : OpAt ((Try.f19.body.bind (opsOf 11)).getD #[]) 11 (.assign (.tmp 48)) (some 8) := by unfold OpAt; kernel_rfl
theorem opsD_12 : OpAt ((Try.f19.body.bind (opsOf 11)).getD #[]) 12 (.assign (.tmp 55)) (some 7) := by unfold OpAt; kernel_rfl

section
variable {P : Program} {ops : Array Oper} {Q : Exit → Act → World → Prop} {md : Region.Mode} {S : World → Prop} {fuel : Nat} {listed : Array Bool} {a : Act} {w : World}
/-- it comes up alone, and yields in some world. -/
theorem rg_one (i : Nat) (op : Op) (d : Nat) (ho : OpAt ops i op (some d)) (hr : Region.ready md ops listed = [i])
    (h : ∀ o : Oper, o.op = op → ∃ v w', (execOp a.eval o).run P w = .ok (.value v) w' ∧ S w' ∧ wpAnyH P md ops Q S fuel (listed.setIfInBounds i true) (a.put (some d) v) w') : wpAnyH P md ops Q S (fuel + 1) listed a w := by
  obtain ⟨o, h1, h2, h3, h4⟩ := ho.get
  refine wpAnyH_all hr (by simp) fun j hj => ?_
  obtain rfl : j = i := by simpa using hj
  unfold wpOp
  simp only [h1]
  rw [if_pos (by unfold Region.wanted; rw [h4])]
  refine .inl ?_
  unfold Oper.wp
  obtain ⟨v, w', e1, e2, e3⟩ := h o h2
  rw [e1]
  show _ ∧ _
  rw [h3]
  exact ⟨e2, e3⟩
/-- two may come up; each yields in some world. -/
theorem rg_two (i k : Nat) (op1 op2 : Op) (d1 d2 : Nat) (ho1 : OpAt ops i op1 (some d1)) (ho2 : OpAt ops k op2 (some d2)) (hr : Region.ready md ops listed = [i, k])
    (h1 : ∀ o : Oper, o.op = op1 → ∃ v w', (execOp a.eval o).run P w = .ok (.value v) w' ∧ S w' ∧ wpAnyH P md ops Q S fuel (listed.setIfInBounds i true) (a.put (some d1) v) w')
    (h2 : ∀ o : Oper, o.op = op2 → ∃ v w', (execOp a.eval o).run P w = .ok (.value v) w' ∧ S w' ∧ wpAnyH P md ops Q S fuel (listed.setIfInBounds k true) (a.put (some d2) v) w') : wpAnyH P md ops Q S (fuel + 1) listed a w := by
  obtain ⟨o1, g1, g2, g3, g4⟩ := ho1.get
  obtain ⟨o2, q1, q2, q3, q4⟩ := ho2.get
  refine wpAnyH_all hr (by simp) fun j hj => ?_
  have hj' : j = i ∨ j = k := by simpa using hj
  unfold wpOp
  rcases hj' with rfl | rfl
  · simp only [g1]
    rw [if_pos (by unfold Region.wanted; rw [g4])]
    refine .inl ?_
    unfold Oper.wp
    obtain ⟨v, w', e1, e2, e3⟩ := h1 o1 g2
    rw [e1]
    show _ ∧ _
    rw [g3]
    exact ⟨e2, e3⟩
  · simp only [q1]
    rw [if_pos (by unfold Region.wanted; rw [q4])]
    refine .inl ?_
    unfold Oper.wp
    obtain ⟨v, w', e1, e2, e3⟩ := h2 o2 q2
    rw [e1]
    show _ ∧ _
    rw [q3]
    exact ⟨e2, e3⟩
end

section
variable {ρ : Operand → Value} {w : World} {o : Oper}
theorem exD_load {x : Operand} (h : o.op = .load 33 x) {p : Addr} {v : Value} (hx : ρ x = .pointer (some p)) (hc : w.cell? p = some v) : (execOp ρ o).run Try.prog w = .ok (.value v) w := by
  unfold execOp; rw [h]; simp only [hx]; go_simp
theorem exD_ix {x y : Operand} (h : o.op = .indexAddr 60 x y) {b f c n k : Nat} (hx : ρ x = .slice (some ⟨b, f, none⟩) n k) (hy : ρ y = .int .i64 c) (hc : (c : Int) < (n : Int)) : (execOp ρ o).run Try.prog w = .ok (.value (.pointer (some ⟨b, f + c, none⟩))) w := by
  unfold execOp; rw [h]; simp only [hx, hy]; go_simp
theorem exD_assign {P : Program} {x : Operand} (h : o.op = .assign x) {v : Value} (hv : ρ x = v) : (execOp ρ o).run P w = .ok (.value v) w := by
  subst hv
  unfold execOp; rw [h]; rfl
theorem exD_boxS {x : Operand} (h : o.op = .buildSlice 22 1 #[(0, x)]) {s : ByteArray} (hx : ρ x = .string s) : (execOp ρ o).run Try.prog w = .ok (.value (.slice (some ⟨w.heap.size, 0, none⟩) 1 1)) (w.alloc (.cells #[.string s] 9)) := by
  unfold execOp; rw [h]; simp only [hx, List.map_toArray, List.map_cons, List.map_nil]; go_simp
theorem exD_boxM {x : Operand} (h : o.op = .buildSlice 60 1 #[(0, x)]) {A : Option Addr} {n c : Nat} (hx : ρ x = .slice A n c) : (execOp ρ o).run Try.prog w = .ok (.value (.slice (some ⟨w.heap.size, 0, none⟩) 1 1)) (w.alloc (.cells #[.slice A n c] 33)) := by
  unfold execOp; rw [h]; simp only [hx, List.map_toArray, List.map_cons, List.map_nil]; go_simp
theorem exD_app {P : Program} {s x : Operand} {t e : TypeId} {z : Value} {bytes base b : Nat} {v y : Value} {xs : List Value} {R : Value → World → Prop} (h : o.op = .call { callee := .builtin .append, args := #[s, x], argTypes := #[t, t] })
    (ht : P.underlying t = some (.slice e)) (hinfo : (P.info? e).map (fun i => (i.zero, i.size, i.bytes)) = some (some z, 1, bytes)) (hz : z.cells.size = 1) (hb0 : 0 < bytes)
    (hs : ρ s = v) (hx : ρ x = .slice (some ⟨b, 0, none⟩) 1 1) (h1 : y.oneCell' = true) (HO : Own w base e v xs) (hb : Blk w b e #[y]) (hbase : base ≤ w.heap.size) (hl : (xs.length + 1) * bytes ≤ 140737488355328)
    (hR : ∀ v1 w1, Own w1 base e v1 (xs ++ [y]) → w.grownBy w1 v.ownBlock → R v1 w1) : ∃ v1 w1, (execOp ρ o).run P w = .ok (.value v1) w1 ∧ R v1 w1 := by
  obtain ⟨i0, hi, hz0, hz1, hz2⟩ := info_parts hinfo
  have hlen : xs.length + 1 ≤ 140737488355328 := Nat.le_trans (Nat.le_mul_of_pos_right _ hb0) hl
  obtain ⟨v1, w1, hr1, h2, hg, _⟩ := run_append_own_at (P := P) w base t o.type e i0 z 1 bytes ht hi hz0 hz1 hz2 hz (by omega) v xs.length xs HO ⟨b, 0, none⟩ 1 1 [y] rfl
    (World.news_of_block (cs := #[y]) (t := e) (fr := (0, 0)) hb) (by simpa using h1) (by simp only [maxLen]; omega) hl hbase
  refine ⟨v1, w1, ?_, hR v1 w1 (by unfold Own; simpa using h2) hg⟩
  unfold execOp
  simp only [h, resolve, invoke, builtin, Sem.run_bind, Sem.run_pure, Result.andThen_ok, List.map_toArray, List.map_cons, List.map_nil, hs, hx, hr1]
end
theorem Blk.own_no {w : World} {base g : Nat} {t e : TypeId} {cs : Array Value} {v : Value} {xs : List Value} (h : Blk w g t cs) (ho : Own w base e v xs) (hne : t ≠ e) : some g ≠ v.ownBlock := by
  rcases ho.2 with ⟨rfl, _⟩ | ⟨g', cap, cur, rfl, _, hh, _⟩
  · simp [Value.ownBlock]
  · intro hk
    have hgg : g = g' := by simpa [Value.ownBlock] using hk
    subst hgg
    unfold Blk at h
    rw [hh] at h
    injection h with h
    injection h with _ ht
    exact hne ht.symm
theorem neSM : (9 : Nat) ≠ 33 := by decide
theorem neMS : 33 ≠ (9 : Nat) := by decide
theorem pc_ (a : Act) (x y : Nat) (v u : Value) (h : x ≠ y) : (a.put (some x) v).put (some y) u = (a.put (some y) u).put (some x) v := Act.put_comm a v u (fun d hd he => h (by injection hd with hd; injection he with he; omega))

def frD (a : Act) (v45 v46 v49 v50 v51 v52 v53 v47 v48 v54 v55 vl' vr' : Value) : Act := (((((((((((((a.put (some 45) v45).put (some 46) v46).put (some 49) v49).put (some 50) v50).put (some 51) v51).put (some 52) v52).put (some 53) v53).put (some 47) v47).put (some 48) v48).put (some 54) v54).put (some 55) v55).put (some 8) vl').put (some 7) vr')
set_option maxRecDepth 100000 in
set_option maxHeartbeats 1000000 in
theorem region_decode {ops : Array Oper} (hops : ops = ((Try.f19.body.bind (opsOf 11)).getD #[])) (Q : Exit → Act → World → Prop) (hQ : ∀ c (a : Act) d v w, Q (.panic c) (a.put d v) w → Q (.panic c) a w) (a : Act) (W : World) (hsz : a.tmps.size = 88)
    (wg : World) (vl vr : Value) (xs ys : List Value) (s : ByteArray) (G go n cg i yn yc : Nat) (yA : Option Addr) (hi : (i : Int) < (n : Int))
    (h8 : a.eval (.tmp 8) = vl) (h11 : a.eval (.tmp 11) = .string s) (h7 : a.eval (.tmp 7) = vr) (h9 : a.eval (.tmp 9) = .slice (some ⟨G, go, none⟩) n cg) (h10 : a.eval (.tmp 10) = .int .i64 i)
    (hgc : wg.cell? ⟨G, go + i, none⟩ = some (.slice yA yn yc)) (HL : Own W wg.heap.size 9 vl xs) (HR : Own W wg.heap.size 33 vr ys) (HB : Below wg.heap.size wg W) (hl : (xs.length + 1) * 16 ≤ 140737488355328) (hr : (ys.length + 1) * 24 ≤ 140737488355328)
    (hfin : ∀ v45 v46 v49 v50 v51 v52 v53 v47 v48 v54 v55 vl' vr' W', Own W' wg.heap.size 9 vl' (xs ++ [.string s]) → Own W' wg.heap.size 33 vr' (ys ++ [.slice yA yn yc]) → Below wg.heap.size wg W' → Q .normal (frD a v45 v46 v49 v50 v51 v52 v53 v47 v48 v54 v55 vl' vr') W') :
    (Code.region 11 ops true).wp Try.prog Q a W := by
  subst hops
  have hns : Region.noSelect ((Try.f19.body.bind (opsOf 11)).getD #[]) = true := by kernel_rfl
  have hsize : ((Try.f19.body.bind (opsOf 11)).getD #[]).size = 13 := by kernel_rfl
  refine wp_region_held (S := fun w' => Below wg.heap.size wg w') (by kernel_rfl) ?_
  rw [hsize]
  have hB0 : Below wg.heap.size wg W.drew := HB.drew
  have hL0 : Own W.drew wg.heap.size 9 vl xs := HL.drew
  have hR0 : Own W.drew wg.heap.size 33 vr ys := HR.drew
  clear HB HL HR
  show wpAnyH _ _ _ _ _ _ _ _ W.drew
  generalize W.drew = W0 at *
  refine rg_take 0 _ _ vl opsD_0 hns (by kernel_rfl) (by kernel_rfl) hQ (fun w o hS ho => ex_move ho h8) hB0 ?_
  refine rg_take 1 _ _ (.string s) opsD_1 hns (by kernel_rfl) (by kernel_rfl) hQ (fun w o hS ho => ex_move ho ((ev_other (by decide)).trans h11)) hB0 ?_
  refine rg_take 4 _ _ vr opsD_4 hns (by kernel_rfl) (by kernel_rfl) hQ (fun w o hS ho => ex_move ho ((ev_other (by decide)).trans ((ev_other (by decide)).trans h7))) hB0 ?_
  refine rg_take 5 _ _ (.slice (some ⟨G, go, none⟩) n cg) opsD_5 hns (by kernel_rfl) (by kernel_rfl) hQ (fun w o hS ho => ex_move ho ((ev_other (by decide)).trans ((ev_other (by decide)).trans ((ev_other (by decide)).trans h9)))) hB0 ?_
  refine rg_take 6 _ _ (.int .i64 i) opsD_6 hns (by kernel_rfl) (by kernel_rfl) hQ (fun w o hS ho => ex_move ho ((ev_other (by decide)).trans ((ev_other (by decide)).trans ((ev_other (by decide)).trans ((ev_other (by decide)).trans h10))))) hB0 ?_
  refine rg_take 7 _ _ (.pointer (some ⟨G, go + i, none⟩)) opsD_7 hns (by kernel_rfl) (by kernel_rfl) hQ (fun w o hS ho => exD_ix ho ((ev_other (by decide)).trans (ev_same (by simp only [sz_put, hsz]; decide))) (ev_same (by simp only [sz_put, hsz]; decide)) hi) hB0 ?_
  refine rg_take 8 _ _ (.slice yA yn yc) opsD_8 hns (by kernel_rfl) (by kernel_rfl) hQ (fun w o hS ho => exD_load ho (ev_same (by simp only [sz_put, hsz]; decide)) ((hS.cell (World.block_lt_of_cell? wg _ hgc)).trans hgc)) hB0 ?_
  refine rg_two 2 9 _ _ _ _ opsD_2 opsD_9 (by kernel_rfl) (fun o ho => ?_) (fun o ho => ?_)
  · have b1 := hB0.alloc hB0.size (.cells #[.string s] 9)
    have l1 := hL0.alloc (.cells #[.string s] 9)
    have r1 := hR0.alloc (.cells #[.string s] 9)
    have bl1 := Blk.new W0 9 #[.string s]
    refine ⟨_, _, exD_boxS ho ((ev_other (by decide)).trans ((ev_other (by decide)).trans ((ev_other (by decide)).trans ((ev_other (by decide)).trans ((ev_other (by decide)).trans (ev_same (by simp only [sz_put, hsz]; decide))))))), b1, ?_⟩
    refine rg_two 3 9 _ _ _ _ opsD_3 opsD_9 (by kernel_rfl) (fun o ho => ?_) (fun o ho => ?_)
    · refine exD_app ho Try.underlying22 info9 rfl (by decide) ((ev_other (by decide)).trans ((ev_other (by decide)).trans ((ev_other (by decide)).trans ((ev_other (by decide)).trans ((ev_other (by decide)).trans ((ev_other (by decide)).trans ((ev_other (by decide)).trans (ev_same (by simp only [sz_put, hsz]; decide))))))))) (ev_same (by simp only [sz_put, hsz]; decide)) rfl l1 bl1 b1.size hl fun vl' W2 l2 hg2 => ?_
      have b2 := b1.grown hg2 b1.size fun k hk => (l1.lt k hk).1
      have r2 := r1.keep hg2 (r1.ne_ l1 neMS)
      refine ⟨b2, ?_⟩
      refine rg_one 9 _ _ opsD_9 (by kernel_rfl) fun o ho => ?_
      have b3 := b2.alloc b2.size (.cells #[.slice yA yn yc] 33)
      have l3 := l2.alloc (.cells #[.slice yA yn yc] 33)
      have r3 := r2.alloc (.cells #[.slice yA yn yc] 33)
      have br3 := Blk.new W2 33 #[.slice yA yn yc]
      refine ⟨_, _, exD_boxM ho ((ev_other (by decide)).trans ((ev_other (by decide)).trans (ev_same (by simp only [sz_put, hsz]; decide)))), b3, ?_⟩
      refine rg_one 10 _ _ opsD_10 (by kernel_rfl) fun o ho => ?_
      refine exD_app ho Try.underlying60 infoB rfl (by decide) ((ev_other (by decide)).trans ((ev_other (by decide)).trans ((ev_other (by decide)).trans ((ev_other (by decide)).trans ((ev_other (by decide)).trans ((ev_other (by decide)).trans ((ev_other (by decide)).trans (ev_same (by simp only [sz_put, hsz]; decide))))))))) (ev_same (by simp only [sz_put, hsz]; decide)) rfl r3 br3 b3.size hr fun vr' W4 r4 hg4 => ?_
      have b4 := b3.grown hg4 b3.size fun k hk => (r3.lt k hk).1
      have l4 := l3.keep hg4 (l3.ne_ r3 neSM)
      refine ⟨b4, ?_⟩
      refine rg_one 11 _ _ opsD_11 (by kernel_rfl) fun o ho => ⟨_, _, exD_assign ho ((ev_other (by decide)).trans ((ev_other (by decide)).trans (ev_same (by simp only [sz_put, hsz]; decide)))), b4, ?_⟩
      refine rg_one 12 _ _ opsD_12 (by kernel_rfl) fun o ho => ⟨_, _, exD_assign ho ((ev_other (by decide)).trans (ev_same (by simp only [sz_put, hsz]; decide))), b4, ?_⟩
      exact wpAnyH_done (by kernel_rfl) (hfin _ _ _ _ _ _ _ _ _ _ _ _ _ _ l4 r4 b4) _
    · have b2 := b1.alloc b1.size (.cells #[.slice yA yn yc] 33)
      have l2 := l1.alloc (.cells #[.slice yA yn yc] 33)
      have r2 := r1.alloc (.cells #[.slice yA yn yc] 33)
      have br2 := Blk.new (W0.alloc (.cells #[.string s] 9)) 33 #[.slice yA yn yc]
      have bl2 := bl1.alloc (.cells #[.slice yA yn yc] 33)
      refine ⟨_, _, exD_boxM ho ((ev_other (by decide)).trans (ev_same (by simp only [sz_put, hsz]; decide))), b2, ?_⟩
      refine rg_one 3 _ _ opsD_3 (by kernel_rfl) fun o ho => ?_
      refine exD_app ho Try.underlying22 info9 rfl (by decide) ((ev_other (by decide)).trans ((ev_other (by decide)).trans ((ev_other (by decide)).trans ((ev_other (by decide)).trans ((ev_other (by decide)).trans ((ev_other (by decide)).trans ((ev_other (by decide)).trans ((ev_other (by decide)).trans (ev_same (by simp only [sz_put, hsz]; decide)))))))))) ((ev_other (by decide)).trans (ev_same (by simp only [sz_put, hsz]; decide))) rfl l2 bl2 b2.size hl fun vl' W3 l3 hg3 => ?_
      have b3 := b2.grown hg3 b2.size fun k hk => (l2.lt k hk).1
      have r3 := r2.keep hg3 (r2.ne_ l2 neMS)
      have br3 := br2.grown hg3 (br2.own_no l2 neMS)
      refine ⟨b3, ?_⟩
      refine rg_one 10 _ _ opsD_10 (by kernel_rfl) fun o ho => ?_
      refine exD_app ho Try.underlying60 infoB rfl (by decide) ((ev_other (by decide)).trans ((ev_other (by decide)).trans ((ev_other (by decide)).trans ((ev_other (by decide)).trans ((ev_other (by decide)).trans ((ev_other (by decide)).trans ((ev_other (by decide)).trans (ev_same (by simp only [sz_put, hsz]; decide))))))))) ((ev_other (by decide)).trans (ev_same (by simp only [sz_put, hsz]; decide))) rfl r3 br3 b3.size hr fun vr' W4 r4 hg4 => ?_
      have b4 := b3.grown hg4 b3.size fun k hk => (r3.lt k hk).1
      have l4 := l3.keep hg4 (l3.ne_ r3 neSM)
      refine ⟨b4, ?_⟩
      refine rg_one 11 _ _ opsD_11 (by kernel_rfl) fun o ho => ⟨_, _, exD_assign ho ((ev_other (by decide)).trans (ev_same (by simp only [sz_put, hsz]; decide))), b4, ?_⟩
      refine rg_one 12 _ _ opsD_12 (by kernel_rfl) fun o ho => ⟨_, _, exD_assign ho ((ev_other (by decide)).trans (ev_same (by simp only [sz_put, hsz]; decide))), b4, ?_⟩
      rw [pc_ _ 54 48 _ _ (by decide)]
      exact wpAnyH_done (by kernel_rfl) (hfin _ _ _ _ _ _ _ _ _ _ _ _ _ _ l4 r4 b4) _
  · have b1 := hB0.alloc hB0.size (.cells #[.slice yA yn yc] 33)
    have l1 := hL0.alloc (.cells #[.slice yA yn yc] 33)
    have r1 := hR0.alloc (.cells #[.slice yA yn yc] 33)
    have br1 := Blk.new W0 33 #[.slice yA yn yc]
    refine ⟨_, _, exD_boxM ho (ev_same (by simp only [sz_put, hsz]; decide)), b1, ?_⟩
    refine rg_one 2 _ _ opsD_2 (by kernel_rfl) fun o ho => ?_
    have b2 := b1.alloc b1.size (.cells #[.string s] 9)
    have l2 := l1.alloc (.cells #[.string s] 9)
    have r2 := r1.alloc (.cells #[.string s] 9)
    have bl2 := Blk.new (W0.alloc (.cells #[.slice yA yn yc] 33)) 9 #[.string s]
    have br2 := br1.alloc (.cells #[.string s] 9)
    refine ⟨_, _, exD_boxS ho ((ev_other (by decide)).trans ((ev_other (by decide)).trans ((ev_other (by decide)).trans ((ev_other (by decide)).trans ((ev_other (by decide)).trans ((ev_other (by decide)).trans (ev_same (by simp only [sz_put, hsz]; decide)))))))), b2, ?_⟩
    refine rg_one 3 _ _ opsD_3 (by kernel_rfl) fun o ho => ?_
    refine exD_app ho Try.underlying22 info9 rfl (by decide) ((ev_other (by decide)).trans ((ev_other (by decide)).trans ((ev_other (by decide)).trans ((ev_other (by decide)).trans ((ev_other (by decide)).trans ((ev_other (by decide)).trans ((ev_other (by decide)).trans ((ev_other (by decide)).trans (ev_same (by simp only [sz_put, hsz]; decide)))))))))) (ev_same (by simp only [sz_put, hsz]; decide)) rfl l2 bl2 b2.size hl fun vl' W3 l3 hg3 => ?_
    have b3 := b2.grown hg3 b2.size fun k hk => (l2.lt k hk).1
    have r3 := r2.keep hg3 (r2.ne_ l2 neMS)
    have br3 := br2.grown hg3 (br2.own_no l2 neMS)
    refine ⟨b3, ?_⟩
    refine rg_one 10 _ _ opsD_10 (by kernel_rfl) fun o ho => ?_
    refine exD_app ho Try.underlying60 infoB rfl (by decide) ((ev_other (by decide)).trans ((ev_other (by decide)).trans ((ev_other (by decide)).trans ((ev_other (by decide)).trans ((ev_other (by decide)).trans ((ev_other (by decide)).trans ((ev_other (by decide)).trans (ev_same (by simp only [sz_put, hsz]; decide))))))))) ((ev_other (by decide)).trans ((ev_other (by decide)).trans (ev_same (by simp only [sz_put, hsz]; decide)))) rfl r3 br3 b3.size hr fun vr' W4 r4 hg4 => ?_
    have b4 := b3.grown hg4 b3.size fun k hk => (r3.lt k hk).1
    have l4 := l3.keep hg4 (l3.ne_ r3 neSM)
    refine ⟨b4, ?_⟩
    refine rg_one 11 _ _ opsD_11 (by kernel_rfl) fun o ho => ⟨_, _, exD_assign ho ((ev_other (by decide)).trans (ev_same (by simp only [sz_put, hsz]; decide))), b4, ?_⟩
    refine rg_one 12 _ _ opsD_12 (by kernel_rfl) fun o ho => ⟨_, _, exD_assign ho ((ev_other (by decide)).trans (ev_same (by simp only [sz_put, hsz]; decide))), b4, ?_⟩
    rw [pc_ _ 54 47 _ _ (by decide)]
    rw [pc_ _ 54 48 _ _ (by decide)]
    exact wpAnyH_done (by kernel_rfl) (hfin _ _ _ _ _ _ _ _ _ _ _ _ _ _ l4 r4 b4) _
end Go.Proofs.Ytikgipohjoiagaa
