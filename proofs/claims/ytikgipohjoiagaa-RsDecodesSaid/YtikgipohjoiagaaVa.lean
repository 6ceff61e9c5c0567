/-
  The region of matrix.Apply in which a text is added to: by hand, over a frame that is a letter.
-/
import Derived.Test.YtikgipohjoiagaaWc
import Derived.Test.YtikgipohjoiagaaRg
namespace Go.Proofs.Ytikgipohjoiagaa
open Go.RowKit GfM

theorem opsA_0 : OpAt ((Try.f34.body.bind (opsOf 15)).getD #[]) 0 (.move (.tmp 6)) (some 57) := by unfold OpAt; kernel_rfl
theorem opsA_1 : OpAt ((Try.f34.body.bind (opsOf 15)).getD #[]) 1 (.move (.tmp 7)) (some 58) := by unfold OpAt; kernel_rfl
theorem opsA_2 : OpAt ((Try.f34.body.bind (opsOf 15)).getD #[]) 2 (.move (.tmp 6)) (some 59) := by unfold OpAt; kernel_rfl
theorem opsA_3 : OpAt ((Try.f34.body.bind (opsOf 15)).getD #[]) 3 (.move (.tmp 7)) (some 60) := by unfold OpAt; kernel_rfl
theorem opsA_4 : OpAt ((Try.f34.body.bind (opsOf 15)).getD #[]) 4 (.indexAddr 22 (.tmp 59) (.tmp 60)) (some 61) := by unfold OpAt; kernel_rfl
theorem opsA_5 : OpAt ((Try.f34.body.bind (opsOf 15)).getD #[]) 5 (.load 9 (.tmp 61)) (some 62) := by unfold OpAt; kernel_rfl
theorem opsA_6 : OpAt ((Try.f34.body.bind (opsOf 15)).getD #[]) 6 (.move (.tmp 0)) (some 63) := by unfold OpAt; kernel_rfl
theorem opsA_7 : OpAt ((Try.f34.body.bind (opsOf 15)).getD #[]) 7 (.move (.tmp 7)) (some 64) := by unfold OpAt; kernel_rfl
theorem opsA_8 : OpAt ((Try.f34.body.bind (opsOf 15)).getD #[]) 8 (.indexAddr 60 (.tmp 63) (.tmp 64)) (some 65) := by unfold OpAt; kernel_rfl
theorem opsA_9 : OpAt ((Try.f34.body.bind (opsOf 15)).getD #[]) 9 (.load 33 (.tmp 65)) (some 66) := by unfold OpAt; kernel_rfl
theorem opsA_10 : OpAt ((Try.f34.body.bind (opsOf 15)).getD #[]) 10 (.move (.tmp 8)) (some 67) := by unfold OpAt; kernel_rfl
theorem opsA_11 : OpAt ((Try.f34.body.bind (opsOf 15)).getD #[]) 11 (.indexAddr 33 (.tmp 66) (.tmp 67)) (some 68) := by unfold OpAt; kernel_rfl
theorem opsA_12 : OpAt ((Try.f34.body.bind (opsOf 15)).getD #[]) 12 (.load 5 (.tmp 68)) (some 69) := by unfold OpAt; kernel_rfl
theorem opsA_13 : OpAt ((Try.f34.body.bind (opsOf 15)).getD #[]) 13 (.move (.tmp 9)) (some 70) := by unfold OpAt; kernel_rfl
theorem opsA_14 : OpAt ((Try.f34.body.bind (opsOf 15)).getD #[]) 14 (.call { callee := .value (.func 25), args := #[.tmp 69, .tmp 70], argTypes := #[5, 9] }) (some 71) := by unfold OpAt; kernel_rfl
theorem opsA_15 : OpAt ((Try.f34.body.bind (opsOf 15)).getD #[]) 15 (.call { callee := .value (.func 24), args := #[.tmp 62, .tmp 71], argTypes := #[9, 9] }) (some 72) := by unfold OpAt; kernel_rfl
theorem opsA_16 : OpAt ((Try.f34.body.bind (opsOf 15)).getD #[]) 16 (.indexAddr 22 (.tmp 57) (.tmp 58)) (some 73) := by unfold OpAt; kernel_rfl
theorem opsA_17 : OpAt ((Try.f34.body.bind (opsOf 15)).getD #[]) 17 (.store 9 (.tmp 73) (.tmp 72)) none := by unfold OpAt; kernel_rfl

section
variable {ρ : Operand → Value} {w : World} {o : Oper}
theorem exA_load9 {x : Operand} (h : o.op = .load 9 x) {p : Addr} {v : Value} (hx : ρ x = .pointer (some p)) (hc : w.cell? p = some v) : (execOp ρ o).run Try.prog w = .ok (.value v) w := by
  unfold execOp; rw [h]; simp only [hx]; go_simp
theorem exA_load5 {x : Operand} (h : o.op = .load 5 x) {p : Addr} {v : Value} (hx : ρ x = .pointer (some p)) (hc : w.cell? p = some v) : (execOp ρ o).run Try.prog w = .ok (.value v) w := by
  unfold execOp; rw [h]; simp only [hx]; go_simp
theorem exA_loadB {x : Operand} (h : o.op = .load 33 x) {p : Addr} {v : Value} (hx : ρ x = .pointer (some p)) (hc : w.cell? p = some v) : (execOp ρ o).run Try.prog w = .ok (.value v) w := by
  unfold execOp; rw [h]; simp only [hx]; go_simp
theorem exA_ixT {x y : Operand} (h : o.op = .indexAddr 22 x y) {G c n k : Nat} (hx : ρ x = .slice (some ⟨G, 0, none⟩) n k) (hy : ρ y = .int .i64 c) (hc : (c : Int) < (n : Int)) : (execOp ρ o).run Try.prog w = .ok (.value (.pointer (some ⟨G, c, none⟩))) w := by
  unfold execOp; rw [h]; simp only [hx, hy]; go_simp
theorem exA_ixM {x y : Operand} (h : o.op = .indexAddr 60 x y) {b f c n k : Nat} (hx : ρ x = .slice (some ⟨b, f, none⟩) n k) (hy : ρ y = .int .i64 c) (hc : (c : Int) < (n : Int)) : (execOp ρ o).run Try.prog w = .ok (.value (.pointer (some ⟨b, f + c, none⟩))) w := by
  unfold execOp; rw [h]; simp only [hx, hy]; go_simp
theorem exA_ixB {x y : Operand} (h : o.op = .indexAddr 33 x y) {b f c n k : Nat} (hx : ρ x = .slice (some ⟨b, f, none⟩) n k) (hy : ρ y = .int .i64 c) (hc : (c : Int) < (n : Int)) : (execOp ρ o).run Try.prog w = .ok (.value (.pointer (some ⟨b, f + c, none⟩))) w := by
  unfold execOp; rw [h]; simp only [hx, hy]; go_simp
theorem exA_store9 {x y : Operand} (h : o.op = .store 9 x y) {p : Addr} {u : Value} {s : ByteArray} (hx : ρ x = .pointer (some p)) (hy : ρ y = .string s) (hc : w.cell? p = some u) (hf : w.frozen? p = false) : (execOp ρ o).run Try.prog w = .ok .skip (w.setCell p (.string s)) := by
  unfold execOp; rw [h]; simp only [hx, hy]; go_simp
theorem exA_scale {x y : Operand} (h : o.op = .call { callee := .value (.func 25), args := #[x, y], argTypes := #[5, 9] }) {u v : Value} (hf : ρ (.func 25) = .func (.func 25) #[] #[]) (hx : ρ x = u) (hy : ρ y = v) : (execOp ρ o).run Try.prog w = .ok (.enter 25 #[u, v]) w := by
  unfold execOp; rw [h]; simp only [resolve, hf]; go_simp
theorem exA_xor {x y : Operand} (h : o.op = .call { callee := .value (.func 24), args := #[x, y], argTypes := #[9, 9] }) {u v : Value} (hf : ρ (.func 24) = .func (.func 24) #[] #[]) (hx : ρ x = u) (hy : ρ y = v) : (execOp ρ o).run Try.prog w = .ok (.enter 24 #[u, v]) w := by
  unfold execOp; rw [h]; simp only [resolve, hf]; go_simp
end

def frA1 (a : Act) (v57 v58 v59 v60 v61 v62 v63 v64 v65 v66 v67 v68 v69 v70 v71 v72 v73 : Value) : Act := (((((((((((((((((a.put (some 57) v57).put (some 58) v58).put (some 59) v59).put (some 60) v60).put (some 61) v61).put (some 63) v63).put (some 64) v64).put (some 65) v65).put (some 66) v66).put (some 67) v67).put (some 68) v68).put (some 69) v69).put (some 70) v70).put (some 62) v62).put (some 71) v71).put (some 72) v72).put (some 73) v73)
def frA2 (a : Act) (v57 v58 v59 v60 v61 v62 v63 v64 v65 v66 v67 v68 v69 v70 v71 v72 v73 : Value) : Act := (((((((((((((((((a.put (some 57) v57).put (some 58) v58).put (some 59) v59).put (some 60) v60).put (some 61) v61).put (some 63) v63).put (some 64) v64).put (some 65) v65).put (some 66) v66).put (some 67) v67).put (some 68) v68).put (some 69) v69).put (some 70) v70).put (some 71) v71).put (some 62) v62).put (some 72) v72).put (some 73) v73)
set_option maxRecDepth 100000 in
theorem region_apply {ops : Array Oper} (hops : ops = ((Try.f34.body.bind (opsOf 15)).getD #[])) (Q : Exit → Act → World → Prop) (hQ : ∀ c (a : Act) d v w, Q (.panic c) (a.put d v) w → Q (.panic c) a w) (a : Act) (W : World) (hsz : a.tmps.size = 77)
    (G n r ba oa na ca b1 o1 kk c1 c : Nat) (f : Int) (s x y z : ByteArray) (hrn : (r : Int) < (n : Int)) (hra : (r : Int) < (na : Int)) (hck : (c : Int) < (kk : Int))
    (h6 : a.eval (.tmp 6) = (.slice (some ⟨G, 0, none⟩) n n)) (h7 : a.eval (.tmp 7) = .int .i64 r) (h0 : a.eval (.tmp 0) = (.slice (some ⟨ba, oa, none⟩) na ca)) (h8 : a.eval (.tmp 8) = .int .i64 c) (h9 : a.eval (.tmp 9) = .string s)
    (K : World → Prop) (hK0 : K W.drew) (hKS : ∀ w, K w → w.cell? ⟨ba, oa + r, none⟩ = some (.slice (some ⟨b1, o1, none⟩) kk c1) ∧ w.cell? ⟨b1, o1 + c, none⟩ = some (.int .u8 f))
    (hKc : ∀ w, K w → w.cell? ⟨G, r, none⟩ = some (.string x)) (hKf : ∀ w, K w → w.frozen? ⟨G, r, none⟩ = false)
    (hKs : ∀ w, K w → (w.setCell ⟨G, r, none⟩ (.string z)).cell? ⟨ba, oa + r, none⟩ = some (.slice (some ⟨b1, o1, none⟩) kk c1) ∧ (w.setCell ⟨G, r, none⟩ (.string z)).cell? ⟨b1, o1 + c, none⟩ = some (.int .u8 f))
    (hsc : ∀ w, K w → Calls Try.prog 25 #[.int .u8 f, .string s] w fun e w' => e = .returned (.string y) ∧ K w')
    (hxr : ∀ w, K w → Calls Try.prog 24 #[.string x, .string y] w fun e w' => e = .returned (.string z) ∧ K w')
    (hf1 : ∀ v57 v58 v59 v60 v61 v62 v63 v64 v65 v66 v67 v68 v69 v70 v71 v72 v73 w', K w' → Q .normal (frA1 a v57 v58 v59 v60 v61 v62 v63 v64 v65 v66 v67 v68 v69 v70 v71 v72 v73) (w'.setCell ⟨G, r, none⟩ (.string z)))
    (hf2 : ∀ v57 v58 v59 v60 v61 v62 v63 v64 v65 v66 v67 v68 v69 v70 v71 v72 v73 w', K w' → Q .normal (frA2 a v57 v58 v59 v60 v61 v62 v63 v64 v65 v66 v67 v68 v69 v70 v71 v72 v73) (w'.setCell ⟨G, r, none⟩ (.string z))) :
    (Code.region 15 ops true).wp Try.prog Q a W := by
  subst hops
  have hns : Region.noSelect ((Try.f34.body.bind (opsOf 15)).getD #[]) = true := by kernel_rfl
  have hsize : ((Try.f34.body.bind (opsOf 15)).getD #[]).size = 18 := by kernel_rfl
  refine wp_region_held (S := fun w' => w'.cell? ⟨ba, oa + r, none⟩ = some (.slice (some ⟨b1, o1, none⟩) kk c1) ∧ w'.cell? ⟨b1, o1 + c, none⟩ = some (.int .u8 f)) (by kernel_rfl) ?_
  rw [hsize]
  have hS0 := hKS _ hK0
  show wpAnyH _ _ _ _ _ _ _ _ W.drew
  refine rg_take 0 _ _ (.slice (some ⟨G, 0, none⟩) n n) opsA_0 hns (by kernel_rfl) (by kernel_rfl) hQ (fun w o hS ho => ex_move ho h6) hS0 ?_
  refine rg_take 1 _ _ (.int .i64 r) opsA_1 hns (by kernel_rfl) (by kernel_rfl) hQ (fun w o hS ho => ex_move ho ((ev_other (by decide)).trans h7)) hS0 ?_
  refine rg_take 2 _ _ (.slice (some ⟨G, 0, none⟩) n n) opsA_2 hns (by kernel_rfl) (by kernel_rfl) hQ (fun w o hS ho => ex_move ho ((ev_other (by decide)).trans ((ev_other (by decide)).trans h6))) hS0 ?_
  refine rg_take 3 _ _ (.int .i64 r) opsA_3 hns (by kernel_rfl) (by kernel_rfl) hQ (fun w o hS ho => ex_move ho ((ev_other (by decide)).trans ((ev_other (by decide)).trans ((ev_other (by decide)).trans h7)))) hS0 ?_
  refine rg_take 4 _ _ (.pointer (some ⟨G, r, none⟩)) opsA_4 hns (by kernel_rfl) (by kernel_rfl) hQ (fun w o hS ho => exA_ixT ho ((ev_other (by decide)).trans (ev_same (by simp only [sz_put, hsz]; decide))) (ev_same (by simp only [sz_put, hsz]; decide)) hrn) hS0 ?_
  refine rg_take 6 _ _ (.slice (some ⟨ba, oa, none⟩) na ca) opsA_6 hns (by kernel_rfl) (by kernel_rfl) hQ (fun w o hS ho => ex_move ho ((ev_other (by decide)).trans ((ev_other (by decide)).trans ((ev_other (by decide)).trans ((ev_other (by decide)).trans ((ev_other (by decide)).trans h0)))))) hS0 ?_
  refine rg_take 7 _ _ (.int .i64 r) opsA_7 hns (by kernel_rfl) (by kernel_rfl) hQ (fun w o hS ho => ex_move ho ((ev_other (by decide)).trans ((ev_other (by decide)).trans ((ev_other (by decide)).trans ((ev_other (by decide)).trans ((ev_other (by decide)).trans ((ev_other (by decide)).trans h7))))))) hS0 ?_
  refine rg_take 8 _ _ (.pointer (some ⟨ba, oa + r, none⟩)) opsA_8 hns (by kernel_rfl) (by kernel_rfl) hQ (fun w o hS ho => exA_ixM ho ((ev_other (by decide)).trans (ev_same (by simp only [sz_put, hsz]; decide))) (ev_same (by simp only [sz_put, hsz]; decide)) hra) hS0 ?_
  refine rg_take 9 _ _ (.slice (some ⟨b1, o1, none⟩) kk c1) opsA_9 hns (by kernel_rfl) (by kernel_rfl) hQ (fun w o hS ho => exA_loadB ho (ev_same (by simp only [sz_put, hsz]; decide)) hS.1) hS0 ?_
  refine rg_take 10 _ _ (.int .i64 c) opsA_10 hns (by kernel_rfl) (by kernel_rfl) hQ (fun w o hS ho => ex_move ho ((ev_other (by decide)).trans ((ev_other (by decide)).trans ((ev_other (by decide)).trans ((ev_other (by decide)).trans ((ev_other (by decide)).trans ((ev_other (by decide)).trans ((ev_other (by decide)).trans ((ev_other (by decide)).trans ((ev_other (by decide)).trans h8)))))))))) hS0 ?_
  refine rg_take 11 _ _ (.pointer (some ⟨b1, o1 + c, none⟩)) opsA_11 hns (by kernel_rfl) (by kernel_rfl) hQ (fun w o hS ho => exA_ixB ho ((ev_other (by decide)).trans (ev_same (by simp only [sz_put, hsz]; decide))) (ev_same (by simp only [sz_put, hsz]; decide)) hck) hS0 ?_
  refine rg_take 12 _ _ (.int .u8 f) opsA_12 hns (by kernel_rfl) (by kernel_rfl) hQ (fun w o hS ho => exA_load5 ho (ev_same (by simp only [sz_put, hsz]; decide)) hS.2) hS0 ?_
  refine rg_take 13 _ _ (.string s) opsA_13 hns (by kernel_rfl) (by kernel_rfl) hQ (fun w o hS ho => ex_move ho ((ev_other (by decide)).trans ((ev_other (by decide)).trans ((ev_other (by decide)).trans ((ev_other (by decide)).trans ((ev_other (by decide)).trans ((ev_other (by decide)).trans ((ev_other (by decide)).trans ((ev_other (by decide)).trans ((ev_other (by decide)).trans ((ev_other (by decide)).trans ((ev_other (by decide)).trans ((ev_other (by decide)).trans h9))))))))))))) hS0 ?_
  refine rg_step_or_call 5 14 _ _ _ _ (.string x) _ _ opsA_5 opsA_14 (by kernel_rfl) (fun o ho => exA_load9 ho ((ev_other (by decide)).trans ((ev_other (by decide)).trans ((ev_other (by decide)).trans ((ev_other (by decide)).trans ((ev_other (by decide)).trans ((ev_other (by decide)).trans ((ev_other (by decide)).trans ((ev_other (by decide)).trans (ev_same (by simp only [sz_put, hsz]; decide)))))))))) (hKc _ hK0)) (fun o ho => exA_scale ho rfl ((ev_other (by decide)).trans (ev_same (by simp only [sz_put, hsz]; decide))) (ev_same (by simp only [sz_put, hsz]; decide))) hS0 ?_ ?_
  · refine rg_call 14 _ _ _ _ opsA_14 (by kernel_rfl) (fun o ho => exA_scale ho rfl ((ev_other (by decide)).trans ((ev_other (by decide)).trans (ev_same (by simp only [sz_put, hsz]; decide)))) ((ev_other (by decide)).trans (ev_same (by simp only [sz_put, hsz]; decide)))) ?_
    refine (hsc _ hK0).mono ?_
    rintro e w3 ⟨rfl, hK3⟩
    refine ⟨_, rfl, hKS _ hK3, ?_⟩
    refine rg_call 15 _ _ _ _ opsA_15 (by kernel_rfl) (fun o ho => exA_xor ho rfl ((ev_other (by decide)).trans (ev_same (by simp only [sz_put, hsz]; decide))) (ev_same (by simp only [sz_put, hsz]; decide))) ?_
    refine (hxr _ hK3).mono ?_
    rintro e w4 ⟨rfl, hK4⟩
    refine ⟨_, rfl, hKS _ hK4, ?_⟩
    refine rg_step 16 _ _ (.pointer (some ⟨G, r, none⟩)) w4 opsA_16 (by kernel_rfl) (fun o ho => exA_ixT ho ((ev_other (by decide)).trans ((ev_other (by decide)).trans ((ev_other (by decide)).trans ((ev_other (by decide)).trans ((ev_other (by decide)).trans ((ev_other (by decide)).trans ((ev_other (by decide)).trans ((ev_other (by decide)).trans ((ev_other (by decide)).trans ((ev_other (by decide)).trans ((ev_other (by decide)).trans ((ev_other (by decide)).trans ((ev_other (by decide)).trans ((ev_other (by decide)).trans ((ev_other (by decide)).trans (ev_same (by simp only [sz_put, hsz]; decide))))))))))))))))) ((ev_other (by decide)).trans ((ev_other (by decide)).trans ((ev_other (by decide)).trans ((ev_other (by decide)).trans ((ev_other (by decide)).trans ((ev_other (by decide)).trans ((ev_other (by decide)).trans ((ev_other (by decide)).trans ((ev_other (by decide)).trans ((ev_other (by decide)).trans ((ev_other (by decide)).trans ((ev_other (by decide)).trans ((ev_other (by decide)).trans ((ev_other (by decide)).trans (ev_same (by simp only [sz_put, hsz]; decide)))))))))))))))) hrn) (hKS _ hK4) ?_
    refine rg_store 17 _ (w4.setCell ⟨G, r, none⟩ (.string z)) opsA_17 (by kernel_rfl) (fun o ho => exA_store9 ho (ev_same (by simp only [sz_put, hsz]; decide)) ((ev_other (by decide)).trans (ev_same (by simp only [sz_put, hsz]; decide))) (hKc _ hK4) (hKf _ hK4)) (hKs _ hK4) ?_
    exact wpAnyH_done (by kernel_rfl) (hf1 _ _ _ _ _ _ _ _ _ _ _ _ _ _ _ _ _ _ hK4) _
  · refine (hsc _ hK0).mono ?_
    rintro e w3 ⟨rfl, hK3⟩
    refine ⟨_, rfl, hKS _ hK3, ?_⟩
    refine rg_step 5 _ _ (.string x) w3 opsA_5 (by kernel_rfl) (fun o ho => exA_load9 ho ((ev_other (by decide)).trans ((ev_other (by decide)).trans ((ev_other (by decide)).trans ((ev_other (by decide)).trans ((ev_other (by decide)).trans ((ev_other (by decide)).trans ((ev_other (by decide)).trans ((ev_other (by decide)).trans ((ev_other (by decide)).trans (ev_same (by simp only [sz_put, hsz]; decide))))))))))) (hKc _ hK3)) (hKS _ hK3) ?_
    refine rg_call 15 _ _ _ _ opsA_15 (by kernel_rfl) (fun o ho => exA_xor ho rfl (ev_same (by simp only [sz_put, hsz]; decide)) ((ev_other (by decide)).trans (ev_same (by simp only [sz_put, hsz]; decide)))) ?_
    refine (hxr _ hK3).mono ?_
    rintro e w4 ⟨rfl, hK4⟩
    refine ⟨_, rfl, hKS _ hK4, ?_⟩
    refine rg_step 16 _ _ (.pointer (some ⟨G, r, none⟩)) w4 opsA_16 (by kernel_rfl) (fun o ho => exA_ixT ho ((ev_other (by decide)).trans ((ev_other (by decide)).trans ((ev_other (by decide)).trans ((ev_other (by decide)).trans ((ev_other (by decide)).trans ((ev_other (by decide)).trans ((ev_other (by decide)).trans ((ev_other (by decide)).trans ((ev_other (by decide)).trans ((ev_other (by decide)).trans ((ev_other (by decide)).trans ((ev_other (by decide)).trans ((ev_other (by decide)).trans ((ev_other (by decide)).trans ((ev_other (by decide)).trans (ev_same (by simp only [sz_put, hsz]; decide))))))))))))))))) ((ev_other (by decide)).trans ((ev_other (by decide)).trans ((ev_other (by decide)).trans ((ev_other (by decide)).trans ((ev_other (by decide)).trans ((ev_other (by decide)).trans ((ev_other (by decide)).trans ((ev_other (by decide)).trans ((ev_other (by decide)).trans ((ev_other (by decide)).trans ((ev_other (by decide)).trans ((ev_other (by decide)).trans ((ev_other (by decide)).trans ((ev_other (by decide)).trans (ev_same (by simp only [sz_put, hsz]; decide)))))))))))))))) hrn) (hKS _ hK4) ?_
    refine rg_store 17 _ (w4.setCell ⟨G, r, none⟩ (.string z)) opsA_17 (by kernel_rfl) (fun o ho => exA_store9 ho (ev_same (by simp only [sz_put, hsz]; decide)) ((ev_other (by decide)).trans (ev_same (by simp only [sz_put, hsz]; decide))) (hKc _ hK4) (hKf _ hK4)) (hKs _ hK4) ?_
    exact wpAnyH_done (by kernel_rfl) (hf2 _ _ _ _ _ _ _ _ _ _ _ _ _ _ _ _ _ _ hK4) _
end Go.Proofs.Ytikgipohjoiagaa
