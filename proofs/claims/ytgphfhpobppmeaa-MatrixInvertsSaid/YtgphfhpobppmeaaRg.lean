/-
  Words for a region that draws its order, walked by hand: the operations are taken out of the program's constant, the frame is a letter.
-/
import Derived.Test.YtgphfhpobppmeaaWm
import Derived.OrdersHeld
namespace Go.Proofs.Ytgphfhpobppmeaa
open Go.RowKit

/-! ### frames -/
section
variable {a : Act} {d t : Nat} {v : Value}
theorem ev_same (h : d < a.tmps.size) : (a.put (some d) v).eval (.tmp d) = v := by
  show (a.tmps.setIfInBounds d v).getD d undef = v
  simp [Array.getD_eq_getD_getElem?, h]
theorem ev_other (h : d ≠ t) : (a.put (some d) v).eval (.tmp t) = a.eval (.tmp t) := by
  show (a.tmps.setIfInBounds d v).getD t undef = a.tmps.getD t undef
  simp [Array.getD_eq_getD_getElem?, Array.getElem?_setIfInBounds, h]
theorem sz_put : (a.put (some d) v).tmps.size = a.tmps.size := by
  show (a.tmps.setIfInBounds d v).size = a.tmps.size
  simp
end
/-- the operations of region n. -/
def opsOf (n : Nat) : Code → Option (Array Oper)
  | .region id ops _ => if id = n then some ops else none
  | .seq a b => (opsOf n a).or (opsOf n b)
  | .cond _ a b => (opsOf n a).or (opsOf n b)
  | .block _ b => opsOf n b
  | .loop b => opsOf n b
  | .scope b => opsOf n b
  | _ => none

/-! ### the steps -/
/-- Operation i: what it is, where it yields. -/
def OpAt (ops : Array Oper) (i : Nat) (op : Op) (d : Option Nat) : Prop := (ops[i]?).map (fun o => (o.op, o.dst, o.guard)) = some (op, d, none)
theorem OpAt.get {ops : Array Oper} {i : Nat} {op : Op} {d : Option Nat} (h : OpAt ops i op d) : ∃ o, ops[i]? = some o ∧ o.op = op ∧ o.dst = d ∧ o.guard = none := by
  unfold OpAt at h
  rcases e : ops[i]? with _ | o
  · rw [e] at h; cases h
  · rw [e] at h
    injection h with h
    injection h with h1 h
    injection h with h2 h3
    exact ⟨o, rfl, h1, h2, h3⟩
section
variable {P : Program} {ops : Array Oper} {Q : Exit → Act → World → Prop} {md : Region.Mode} {S : World → Prop} {fuel : Nat} {listed : Array Bool} {a : Act} {w : World}
/-- it is taken first. -/
theorem rg_take (i : Nat) (op : Op) (d : Nat) (v : Value) (ho : OpAt ops i op (some d)) (hs : Region.noSelect ops = true) (hf : Region.free md ops listed i = true) (hr : (Region.ready md ops listed).contains i = true)
    (hQ : ∀ c (a : Act) d v w, Q (.panic c) (a.put d v) w → Q (.panic c) a w) (hy : ∀ (w : World) (o : Oper), S w → o.op = op → (execOp a.eval o).run P w = .ok (.value v) w) (hS : S w)
    (h : wpAnyH P md ops Q S fuel (listed.setIfInBounds i true) (a.put (some d) v) w) : wpAnyH P md ops Q S (fuel + 1) listed a w := by
  obtain ⟨o, h1, h2, h3, h4⟩ := ho.get
  refine wpAnyH_take h1 hs hf hr (fun c a w => hQ c a _ _ w) (.inl ⟨by unfold Region.wanted; rw [h4], fun w hS => hy w o hS h2⟩) hS ?_
  rw [h3]; exact h
/-- it comes up alone, and yields. -/
theorem rg_step (i : Nat) (op : Op) (d : Nat) (v : Value) (w' : World) (ho : OpAt ops i op (some d)) (hr : Region.ready md ops listed = [i]) (hy : ∀ o : Oper, o.op = op → (execOp a.eval o).run P w = .ok (.value v) w') (hS : S w')
    (h : wpAnyH P md ops Q S fuel (listed.setIfInBounds i true) (a.put (some d) v) w') : wpAnyH P md ops Q S (fuel + 1) listed a w := by
  obtain ⟨o, h1, h2, h3, h4⟩ := ho.get
  refine wpAnyH_all hr (by simp) fun j hj => ?_
  obtain rfl : j = i := by simpa using hj
  unfold wpOp
  simp only [h1]
  rw [if_pos (by unfold Region.wanted; rw [h4])]
  refine .inl ?_
  unfold Oper.wp
  rw [hy o h2]
  show _ ∧ _
  rw [h3]
  exact ⟨hS, h⟩
/-- it comes up alone, and stores. -/
theorem rg_store (i : Nat) (op : Op) (w' : World) (ho : OpAt ops i op none) (hr : Region.ready md ops listed = [i]) (hy : ∀ o : Oper, o.op = op → (execOp a.eval o).run P w = .ok .skip w') (hS : S w')
    (h : wpAnyH P md ops Q S fuel (listed.setIfInBounds i true) a w') : wpAnyH P md ops Q S (fuel + 1) listed a w := by
  obtain ⟨o, h1, h2, h3, h4⟩ := ho.get
  refine wpAnyH_all hr (by simp) fun j hj => ?_
  obtain rfl : j = i := by simpa using hj
  unfold wpOp
  simp only [h1]
  rw [if_pos (by unfold Region.wanted; rw [h4])]
  refine .inl ?_
  unfold Oper.wp
  rw [hy o h2]
  show _ ∧ _
  rw [h3]
  exact ⟨hS, h⟩
/-- it comes up alone, and is a call. -/
theorem rg_call (i : Nat) (op : Op) (d : Nat) (f : FuncId) (args : Array Value) (ho : OpAt ops i op (some d)) (hr : Region.ready md ops listed = [i]) (hy : ∀ o : Oper, o.op = op → (execOp a.eval o).run P w = .ok (.enter f args) w)
    (h : Calls P f args w fun e w' => ∃ v, e = .returned v ∧ S w' ∧ wpAnyH P md ops Q S fuel (listed.setIfInBounds i true) (a.put (some d) v) w') : wpAnyH P md ops Q S (fuel + 1) listed a w := by
  obtain ⟨o, h1, h2, h3, h4⟩ := ho.get
  refine wpAnyH_all hr (by simp) fun j hj => ?_
  obtain rfl : j = i := by simpa using hj
  unfold wpOp
  simp only [h1]
  rw [if_pos (by unfold Region.wanted; rw [h4])]
  refine .inl ?_
  unfold Oper.wp
  rw [hy o h2]
  refine Calls.mono h ?_
  rintro e w' ⟨v, rfl, h5, h6⟩
  show _ ∧ _
  rw [h3]
  exact ⟨h5, h6⟩
/-- a step and a call may come up. -/
theorem rg_step_or_call (i k : Nat) (op1 op2 : Op) (d1 d2 : Nat) (v1 : Value) (f : FuncId) (args : Array Value) (ho1 : OpAt ops i op1 (some d1)) (ho2 : OpAt ops k op2 (some d2)) (hr : Region.ready md ops listed = [i, k])
    (hy1 : ∀ o : Oper, o.op = op1 → (execOp a.eval o).run P w = .ok (.value v1) w) (hy2 : ∀ o : Oper, o.op = op2 → (execOp a.eval o).run P w = .ok (.enter f args) w) (hS : S w)
    (h1 : wpAnyH P md ops Q S fuel (listed.setIfInBounds i true) (a.put (some d1) v1) w)
    (h2 : Calls P f args w fun e w' => ∃ v, e = .returned v ∧ S w' ∧ wpAnyH P md ops Q S fuel (listed.setIfInBounds k true) (a.put (some d2) v) w') : wpAnyH P md ops Q S (fuel + 1) listed a w := by
  obtain ⟨o1, g1, g2, g3, g4⟩ := ho1.get
  obtain ⟨o2, q1, q2, q3, q4⟩ := ho2.get
  refine wpAnyH_all hr (by simp) fun j hj => ?_
  have hj' : j = i ∨ j = k := by simpa using hj
  unfold wpOp
  rcases hj' with rfl | rfl
  · simp only [g1]
    rw [if_pos (by unfold Region.wanted; rw [g4])]
    refine .inl ?_
    unfold Oper.wp
    rw [hy1 o1 g2]
    show _ ∧ _
    rw [g3]
    exact ⟨hS, h1⟩
  · simp only [q1]
    rw [if_pos (by unfold Region.wanted; rw [q4])]
    refine .inl ?_
    unfold Oper.wp
    rw [hy2 o2 q2]
    refine Calls.mono h2 ?_
    rintro e w' ⟨v, rfl, h5, h6⟩
    show _ ∧ _
    rw [q3]
    exact ⟨h5, h6⟩
end

/-! ### what an operation does -/
section
variable {P : Program} {ρ : Operand → Value} {w : World} {o : Oper}
theorem ex_move {x : Operand} (h : o.op = .move x) {v : Value} (hv : ρ x = v) : (execOp ρ o).run P w = .ok (.value v) w := by
  subst hv
  unfold execOp; rw [h]; rfl
end
end Go.Proofs.Ytgphfhpobppmeaa
