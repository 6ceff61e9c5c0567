/-
  The region of matrix.Invert in which a row is scaled: by hand, over a frame that is a letter.
-/
import Derived.Test.YtgphfhpobppmeaaWz
import Derived.Test.YtgphfhpobppmeaaRg
namespace Go.Proofs.Ytgphfhpobppmeaa
open Go.RowKit GfM

theorem opsS_0 : OpAt ((Try.f11.body.bind (opsOf 21)).getD #[]) 0 (.move (.tmp 5)) (some 93) := by unfold OpAt; kernel_rfl
theorem opsS_1 : OpAt ((Try.f11.body.bind (opsOf 21)).getD #[]) 1 (.load 3 (.tmp 7)) (some 94) := by unfold OpAt; kernel_rfl
theorem opsS_2 : OpAt ((Try.f11.body.bind (opsOf 21)).getD #[]) 2 (.move (.tmp 9)) (some 95) := by unfold OpAt; kernel_rfl
theorem opsS_3 : OpAt ((Try.f11.body.bind (opsOf 21)).getD #[]) 3 (.move (.tmp 5)) (some 96) := by unfold OpAt; kernel_rfl
theorem opsS_4 : OpAt ((Try.f11.body.bind (opsOf 21)).getD #[]) 4 (.load 3 (.tmp 7)) (some 97) := by unfold OpAt; kernel_rfl
theorem opsS_5 : OpAt ((Try.f11.body.bind (opsOf 21)).getD #[]) 5 (.indexAddr 24 (.tmp 96) (.tmp 97)) (some 98) := by unfold OpAt; kernel_rfl
theorem opsS_6 : OpAt ((Try.f11.body.bind (opsOf 21)).getD #[]) 6 (.load 37 (.tmp 98)) (some 99) := by unfold OpAt; kernel_rfl
theorem opsS_7 : OpAt ((Try.f11.body.bind (opsOf 21)).getD #[]) 7 (.convert 37 9 (.tmp 99)) (some 100) := by unfold OpAt; kernel_rfl
theorem opsS_8 : OpAt ((Try.f11.body.bind (opsOf 21)).getD #[]) 8 (.call { callee := .value (.func 30), args := #[.tmp 95, .tmp 100], argTypes := #[5, 9] }) (some 101) := by unfold OpAt; kernel_rfl
theorem opsS_9 : OpAt ((Try.f11.body.bind (opsOf 21)).getD #[]) 9 (.convert 9 37 (.tmp 101)) (some 102) := by unfold OpAt; kernel_rfl
theorem opsS_10 : OpAt ((Try.f11.body.bind (opsOf 21)).getD #[]) 10 (.indexAddr 24 (.tmp 93) (.tmp 94)) (some 103) := by unfold OpAt; kernel_rfl
theorem opsS_11 : OpAt ((Try.f11.body.bind (opsOf 21)).getD #[]) 11 (.store 37 (.tmp 103) (.tmp 102)) none := by unfold OpAt; kernel_rfl

/-! ### what an operation does here -/
section
variable {ρ : Operand → Value} {w : World} {o : Oper}
theorem ex_load3 {x : Operand} (h : o.op = .load 3 x) {p : Addr} {v : Value} (hx : ρ x = .pointer (some p)) (hc : w.cell? p = some v) : (execOp ρ o).run Try.prog w = .ok (.value v) w := by
  unfold execOp; rw [h]; simp only [hx]; go_simp
theorem ex_loadB {x : Operand} (h : o.op = .load 37 x) {p : Addr} {v : Value} (hx : ρ x = .pointer (some p)) (hc : w.cell? p = some v) : (execOp ρ o).run Try.prog w = .ok (.value v) w := by
  unfold execOp; rw [h]; simp only [hx]; go_simp
theorem ex_ixM {x y : Operand} (h : o.op = .indexAddr 24 x y) {G c n k : Nat} (hx : ρ x = .slice (some ⟨G, 0, none⟩) n k) (hy : ρ y = .int .i64 c) (hc : (c : Int) < (n : Int)) : (execOp ρ o).run Try.prog w = .ok (.value (.pointer (some ⟨G, c, none⟩))) w := by
  unfold execOp; rw [h]; simp only [hx, hy]; go_simp
theorem ex_conv {s d : TypeId} {x : Operand} (h : o.op = .convert s d x) {u v : Value} {w' : World} (hx : ρ x = u) (hc : (convert s d u).run Try.prog w = .ok v w') : (execOp ρ o).run Try.prog w = .ok (.value v) w' := by
  unfold execOp; rw [h]; simp only [hx]; simp only [Sem.run_bind, Sem.run_pure, hc, Result.andThen_ok]
theorem ex_storeB {x y : Operand} (h : o.op = .store 37 x y) {p : Addr} {u : Value} {A : Option Addr} {n k : Nat} (hx : ρ x = .pointer (some p)) (hy : ρ y = .slice A n k) (hc : w.cell? p = some u) (hf : w.frozen? p = false) : (execOp ρ o).run Try.prog w = .ok .skip (w.setCell p (.slice A n k)) := by
  unfold execOp; rw [h]; simp only [hx, hy]; go_simp
theorem ex_scale {x y : Operand} (h : o.op = .call { callee := .value (.func 30), args := #[x, y], argTypes := #[5, 9] }) {u v : Value} (hf : ρ (.func 30) = .func (.func 30) #[] #[]) (hx : ρ x = u) (hy : ρ y = v) : (execOp ρ o).run Try.prog w = .ok (.enter 30 #[u, v]) w := by
  unfold execOp; rw [h]; simp only [resolve, hf]; go_simp
end

/-- the frame behind the region. -/
def frS (a : Act) (v93 v94 v95 v96 v97 v98 v99 v100 v101 v102 v103 : Value) : Act := (((((((((((a.put (some 93) v93).put (some 95) v95).put (some 96) v96).put (some 94) v94).put (some 97) v97).put (some 98) v98).put (some 99) v99).put (some 100) v100).put (some 101) v101).put (some 102) v102).put (some 103) v103)
set_option maxRecDepth 100000 in
theorem region_scale {ops : Array Oper} (hops : ops = ((Try.f11.body.bind (opsOf 21)).getD #[])) (Q : Exit → Act → World → Prop) (hQ : ∀ c (a : Act) d v w, Q (.panic c) (a.put d v) w → Q (.panic c) a w) (a : Act) (W : World) (hsz : a.tmps.size = 136) (G n c p : Nat) (hcn : c < n) (iv : UInt8) (s1 : ByteArray)
    (h5 : a.eval (.tmp 5) = .slice (some ⟨G, 0, none⟩) n n) (h7 : a.eval (.tmp 7) = .pointer (some ⟨p, 0, none⟩)) (h9 : a.eval (.tmp 9) = .int .u8 (iv.toNat : Int)) (x99 : Value)
    (hbc : W.cell? ⟨p, 0, none⟩ = some (.int .i64 c)) (hrow : W.cell? ⟨G, c, none⟩ = some x99) (hcv : (convert 37 9 x99).run Try.prog W.drew = .ok (.string s1) W.drew)
    (R : World → Prop)
    (hsc : Calls Try.prog 30 #[.int .u8 ((iv.toNat : Nat) : Int), .string s1] W.drew fun e w3 => ∃ (s : ByteArray) (A : Option Addr) (n1 k1 : Nat) (W4 : World) (y : Value), e = .returned (.string s) ∧ w3.cell? ⟨p, 0, none⟩ = some (.int .i64 c) ∧
      (convert 9 37 (.string s)).run Try.prog w3 = .ok (.slice A n1 k1) W4 ∧ W4.cell? ⟨p, 0, none⟩ = some (.int .i64 c) ∧ W4.cell? ⟨G, c, none⟩ = some y ∧ W4.frozen? ⟨G, c, none⟩ = false ∧
      (W4.setCell ⟨G, c, none⟩ (.slice A n1 k1)).cell? ⟨p, 0, none⟩ = some (.int .i64 c) ∧ R (W4.setCell ⟨G, c, none⟩ (.slice A n1 k1)))
    (hfin : ∀ v93 v94 v95 v96 v97 v98 v99 v100 v101 v102 v103 w', R w' → Q .normal (frS a v93 v94 v95 v96 v97 v98 v99 v100 v101 v102 v103) w') :
    (Code.region 21 ops true).wp Try.prog Q a W := by
  subst hops
  have hns : Region.noSelect ((Try.f11.body.bind (opsOf 21)).getD #[]) = true := by kernel_rfl
  have hi : (c : Int) < (n : Int) := by omega
  have hsize : ((Try.f11.body.bind (opsOf 21)).getD #[]).size = 12 := by kernel_rfl
  refine wp_region_held (S := fun w' => w'.cell? ⟨p, 0, none⟩ = some (.int .i64 c)) (by kernel_rfl) ?_
  rw [hsize]
  have hS0 : W.drew.cell? ⟨p, 0, none⟩ = some (.int .i64 c) := hbc
  show wpAnyH _ _ _ _ _ _ _ _ W.drew
  refine rg_take 0 _ _ (.slice (some ⟨G, 0, none⟩) n n) opsS_0 hns (by kernel_rfl) (by kernel_rfl) hQ (fun w o hS ho => ex_move ho h5) hS0 ?_
  refine rg_take 2 _ _ (.int .u8 (iv.toNat : Int)) opsS_2 hns (by kernel_rfl) (by kernel_rfl) hQ (fun w o hS ho => ex_move ho ((ev_other (by decide)).trans h9)) hS0 ?_
  refine rg_take 3 _ _ (.slice (some ⟨G, 0, none⟩) n n) opsS_3 hns (by kernel_rfl) (by kernel_rfl) hQ (fun w o hS ho => ex_move ho ((ev_other (by decide)).trans ((ev_other (by decide)).trans h5))) hS0 ?_
  refine rg_take 1 _ _ (.int .i64 c) opsS_1 hns (by kernel_rfl) (by kernel_rfl) hQ (fun w o hS ho => ex_load3 ho ((ev_other (by decide)).trans ((ev_other (by decide)).trans ((ev_other (by decide)).trans h7))) hS) hS0 ?_
  refine rg_take 4 _ _ (.int .i64 c) opsS_4 hns (by kernel_rfl) (by kernel_rfl) hQ (fun w o hS ho => ex_load3 ho ((ev_other (by decide)).trans ((ev_other (by decide)).trans ((ev_other (by decide)).trans ((ev_other (by decide)).trans h7)))) hS) hS0 ?_
  refine rg_take 5 _ _ (.pointer (some ⟨G, c, none⟩)) opsS_5 hns (by kernel_rfl) (by kernel_rfl) hQ (fun w o hS ho => ex_ixM ho ((ev_other (by decide)).trans ((ev_other (by decide)).trans (ev_same (by simp only [sz_put, hsz]; decide)))) (ev_same (by simp only [sz_put, hsz]; decide)) hi) hS0 ?_
  refine rg_step 6 _ _ (x99) W.drew opsS_6 (by kernel_rfl) (fun o ho => ex_loadB ho (ev_same (by simp only [sz_put, hsz]; decide)) hrow) hS0 ?_
  refine rg_step 7 _ _ (.string s1) W.drew opsS_7 (by kernel_rfl) (fun o ho => ex_conv ho (ev_same (by simp only [sz_put, hsz]; decide)) hcv) hS0 ?_
  refine rg_call 8 _ _ _ _ opsS_8 (by kernel_rfl) (fun o ho => ex_scale ho rfl ((ev_other (by decide)).trans ((ev_other (by decide)).trans ((ev_other (by decide)).trans ((ev_other (by decide)).trans ((ev_other (by decide)).trans ((ev_other (by decide)).trans (ev_same (by simp only [sz_put, hsz]; decide)))))))) (ev_same (by simp only [sz_put, hsz]; decide))) ?_
  refine hsc.mono ?_
  rintro e w3 ⟨s2, A1, n1, k1, W4, y, rfl, t1, t2, t3, t4, t5, t6, t7⟩
  refine ⟨_, rfl, t1, ?_⟩
  refine rg_step 9 _ _ (.slice A1 n1 k1) W4 opsS_9 (by kernel_rfl) (fun o ho => ex_conv ho (ev_same (by simp only [sz_put, hsz]; decide)) t2) t3 ?_
  refine rg_step 10 _ _ (.pointer (some ⟨G, c, none⟩)) W4 opsS_10 (by kernel_rfl) (fun o ho => ex_ixM ho ((ev_other (by decide)).trans ((ev_other (by decide)).trans ((ev_other (by decide)).trans ((ev_other (by decide)).trans ((ev_other (by decide)).trans ((ev_other (by decide)).trans ((ev_other (by decide)).trans ((ev_other (by decide)).trans ((ev_other (by decide)).trans (ev_same (by simp only [sz_put, hsz]; decide))))))))))) ((ev_other (by decide)).trans ((ev_other (by decide)).trans ((ev_other (by decide)).trans ((ev_other (by decide)).trans ((ev_other (by decide)).trans ((ev_other (by decide)).trans (ev_same (by simp only [sz_put, hsz]; decide)))))))) hi) t3 ?_
  refine rg_store 11 _ (W4.setCell ⟨G, c, none⟩ (.slice A1 n1 k1)) opsS_11 (by kernel_rfl) (fun o ho => ex_storeB ho (ev_same (by simp only [sz_put, hsz]; decide)) ((ev_other (by decide)).trans (ev_same (by simp only [sz_put, hsz]; decide))) t4 t5) t6 ?_
  exact wpAnyH_done (by kernel_rfl) (hfin _ _ _ _ _ _ _ _ _ _ _ _ t7) _
end Go.Proofs.Ytgphfhpobppmeaa
