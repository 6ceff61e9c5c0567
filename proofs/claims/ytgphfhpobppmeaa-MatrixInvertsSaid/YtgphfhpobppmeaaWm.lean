/-
  Words on memory: a block that is known whole; rows that the call owns; slices that are read.
-/
import Derived.Below
import Derived.Calls
import Derived.Laws.OwnMore
import Derived.Deep.Draws
import Derived.Deep.AppendLies
import Derived.Deep.OwnRows
import Derived.Maps.AppendAt
import Derived.OwnWalk
import Derived.Laws.Rows
import Derived.Laws.BytesArg
import Derived.Lib.Hide
import Derived.WalkKit
import Derived.Deep.QuietTactic
import Derived.BigQuiet
import Derived.Deep.LoopGhost
import Derived.Deep.DeepCutAuto
import Derived.Deep.CutBlock
import Derived.Deep.RegionHeld3
import Derived.Laws.Slices
import Derived.Lib.ConvBytes
namespace Go.Proofs.Ytgphfhpobppmeaa
open Go.RowKit

/-- Block g holds just the cells cs, of element type t; none is frozen. -/
def Blk (w : World) (g : Nat) (t : TypeId) (cs : Array Value) : Prop := w.heap[g]? = some (.cells cs t (0, 0))
section
variable {w w' : World} {g : Nat} {t : TypeId} {cs : Array Value}
theorem Blk.lt (h : Blk w g t cs) : g < w.heap.size := by
  rcases Nat.lt_or_ge g w.heap.size with hlt | hge
  · exact hlt
  · unfold Blk at h; rw [Array.getElem?_eq_none hge] at h; cases h
theorem Blk.cell (h : Blk w g t cs) (i : Nat) : w.cell? ⟨g, i, none⟩ = cs[i]? := cell_of_row w g i cs t (0, 0) h
theorem Blk.frozen (h : Blk w g t cs) (i : Nat) : w.frozen? ⟨g, i, none⟩ = false := by
  unfold Blk at h
  simp [World.frozen?, h]
theorem Blk.new (w : World) (t : TypeId) (cs : Array Value) : Blk (w.alloc (.cells cs t)) w.heap.size t cs := heap_alloc_new w _
theorem Blk.drew (h : Blk w g t cs) : Blk w.drew g t cs := h
theorem Blk.drewN (h : Blk w g t cs) (n : Nat) : Blk (w.drewN n) g t cs := h
theorem Blk.alloc (h : Blk w g t cs) (o : Obj) : Blk (w.alloc o) g t cs := (Below.heap_alloc w o g h.lt).trans h
theorem Blk.set_ (h : Blk w g t cs) (i : Nat) (u : Value) : Blk (w.setCell ⟨g, i, none⟩ u) g t (cs.setIfInBounds i u) := by
  unfold Blk at h ⊢
  simp [World.setCell, Array.getElem?_modify, h]
theorem Blk.far (h : Blk w g t cs) {p : Addr} (hp : g ≠ p.block) (u : Value) : Blk (w.setCell p u) g t cs := (Below.heap_setCell w p u g hp).trans h
theorem Blk.below {B : Nat} (h : Blk w g t cs) (hb : Below B w w') (hg : g < B) : Blk w' g t cs := (hb.block g hg).trans h
theorem Blk.grown {row : Option Nat} (h : Blk w g t cs) (hb : w.grownBy w' row) (hg : some g ≠ row) : Blk w' g t cs := (hb.block g h.lt hg).trans h
end

/-! ### worlds -/
theorem below_drewN {B : Nat} {a w : World} (h : Below B a w) (n : Nat) : Below B a (w.drewN n) := ⟨h.os, h.tape, h.output, h.size, h.block⟩
theorem below_alloc {w W : World} (h : Below w.heap.size w W) (o : Obj) : Below w.heap.size w (W.alloc o) := h.alloc h.size o
theorem below_then {B : Nat} {w w1 w2 : World} (h : Below B w w1) (hB : B ≤ w1.heap.size) (k : Below w1.heap.size w1 w2) : Below B w w2 := h.trans (k.mono hB)
theorem grown_of_below {w w1 : World} (h : Below w.heap.size w w1) (row : Option Nat) : w.grownBy w1 row := ⟨h.os, h.tape, h.output, h.size, fun i hi _ => h.block i hi⟩
theorem grownBy_drewN {a w : World} {row : Option Nat} (h : a.grownBy w row) (n : Nat) : a.grownBy (w.drewN n) row := ⟨h.os, h.tape, h.output, h.size, h.block⟩
theorem grownBy_trans {a b c : World} {row : Option Nat} (h : a.grownBy b row) (k : b.grownBy c row) : a.grownBy c row :=
  ⟨k.os.trans h.os, k.tape.trans h.tape, k.output.trans h.output, Nat.le_trans h.size k.size, fun i hi hne => (k.block i (Nat.lt_of_lt_of_le hi h.size) hne).trans (h.block i hi hne)⟩

/-! ### rows of the call's own, one cell an element -/
/-- The slice value v (of element type e) owns a row from block 'base' on, in which just xs stand. -/
def Own (w : World) (base : Nat) (e : TypeId) (v : Value) (xs : List Value) : Prop := w.ownsRow base e 1 v xs.length xs
section
variable {w w' : World} {base : Nat} {e : TypeId} {v : Value} {xs : List Value}
theorem Own.nil_ (w : World) (base : Nat) (e : TypeId) : Own w base e (.slice none 0 0) [] := World.ownsRow_nil w base e 1
theorem Own.lit_ (w : World) (base : Nat) (e : TypeId) (cs : Array Value) (hb : base ≤ w.heap.size) (hm : cs.size ≤ maxLen) :
    Own (w.alloc (.cells cs e)) base e (.slice (some ⟨w.heap.size, 0, none⟩) cs.size cs.size) cs.toList := by
  have h := World.ownsRow_lit (base := base) (e := e) (size := 1) w cs cs.size hb hm (by simp)
  unfold Own
  simpa using h
theorem Own.alloc (h : Own w base e v xs) (o : Obj) : Own (w.alloc o) base e v xs := World.ownsRow.alloc h o
theorem Own.drew (h : Own w base e v xs) : Own w.drew base e v xs := h
theorem Own.drewN (h : Own w base e v xs) (n : Nat) : Own (w.drewN n) base e v xs := h
theorem Own.keep (h : Own w base e v xs) {row : Option Nat} (hg : w.grownBy w' row) (hne : v.ownBlock = none ∨ v.ownBlock ≠ row) : Own w' base e v xs := World.ownsRow.kept h hg hne
theorem Own.below (h : Own w base e v xs) (hb : Below w.heap.size w w') : Own w' base e v xs := h.keep (grown_of_below hb none) (by cases v.ownBlock <;> simp)
theorem Own.lt (h : Own w base e v xs) : ∀ k, v.ownBlock = some k → base ≤ k ∧ k < w.heap.size := World.ownsRow.lt h
theorem Own.more (h : Own w base e v xs) {base' : Nat} (hb : base' ≤ base) : Own w base' e v xs := by
  refine ⟨h.1, ?_⟩
  rcases h.2 with ⟨rfl, h0⟩ | ⟨g, cap, cur, rfl, hg, hh⟩
  · exact .inl ⟨rfl, h0⟩
  · exact .inr ⟨g, cap, cur, rfl, Nat.le_trans hb hg, hh⟩
/-- its shape. -/
theorem Own.shape (h : Own w base e v xs) : ∃ A c, v = .slice A xs.length c := by
  rcases h.2 with ⟨rfl, h0⟩ | ⟨g, cap, cur, rfl, _⟩
  · exact ⟨none, 0, by rw [h0]⟩
  · exact ⟨_, cap, rfl⟩
/-- its shape, where there is an element. -/
theorem Own.form (h : Own w base e v xs) (hn : 0 < xs.length) : ∃ g cap, v = .slice (some ⟨g, 0, none⟩) xs.length cap ∧ base ≤ g ∧ g < w.heap.size ∧ xs.length ≤ cap := by
  rcases h.2 with ⟨rfl, h0⟩ | ⟨g, cap, cur, rfl, hb, hh, hc, _⟩
  · omega
  · exact ⟨g, cap, rfl, hb, (Array.getElem?_eq_some_iff.1 hh).1, hc⟩
theorem Own.len (h : Own w base e v xs) : xs.length ≤ 9223372036854775807 := by
  rcases h.2 with ⟨rfl, h0⟩ | ⟨g, cap, cur, rfl, hb, hh, hc, hm, _⟩
  · omega
  · simp only [maxLen] at hm; omega
theorem Own.cell {g c : Nat} (h : Own w base e (.slice (some ⟨g, 0, none⟩) xs.length c) xs) (j : Nat) (hj : j < xs.length) : w.cell? ⟨g, j, none⟩ = xs[j]? := by
  rcases h.2 with ⟨h1, h0⟩ | ⟨g', cap, cur, he, hb, hh, hc, hm, hs, ht⟩
  · omega
  · injection he with h1 h2 h3
    injection h1 with h1
    injection h1 with h1
    subst h1
    rw [cell_of_row w g j cur e (0, 0) hh, ← ht]
    simp only [Nat.mul_one]
    rw [List.getElem?_take, if_pos hj]; simp
theorem Own.frozen {g n c : Nat} (h : Own w base e (.slice (some ⟨g, 0, none⟩) n c) xs) (j : Nat) : w.frozen? ⟨g, j, none⟩ = false := by
  rcases h.2 with ⟨h1, h0⟩ | ⟨g', cap, cur, he, hb, hh, hc, hm, hs, ht⟩
  · cases h1
  · injection he with h1 h2 h3
    injection h1 with h1
    injection h1 with h1
    subst h1
    simp [World.frozen?, hh]
theorem Own.set_ {g c : Nat} (h : Own w base e (.slice (some ⟨g, 0, none⟩) xs.length c) xs) (j : Nat) (u : Value) :
    Own (w.setCell ⟨g, j, none⟩ u) base e (.slice (some ⟨g, 0, none⟩) xs.length c) (xs.set j u) := by
  rcases h.2 with ⟨h1, h0⟩ | ⟨g', cap, cur, he, hb, hh, hc, hm, hs, ht⟩
  · cases h1
  · injection he with h1 h2 h3
    injection h1 with h1
    injection h1 with h1
    subst h1
    refine ⟨by simp, .inr ⟨g, cap, cur.setIfInBounds j u, by rw [h3, List.length_set], hb, ?_, by rw [List.length_set]; exact hc, hm, by simpa using hs, ?_⟩⟩
    · simp [World.setCell, Array.getElem?_modify, hh]
    · rw [List.length_set, Array.toList_setIfInBounds, ← ht]
      simp only [Nat.mul_one]
      rw [List.take_set, List.length_take]
      congr 1
      have : cur.toList.length = cap := by simpa using hs
      rw [Nat.min_eq_left (by rw [this]; exact hc)]
theorem Own.far (h : Own w base e v xs) {p : Addr} (hp : v.ownBlock ≠ some p.block) (u : Value) : Own (w.setCell p u) base e v xs := by
  refine ⟨h.1, ?_⟩
  rcases h.2 with ⟨rfl, h0⟩ | ⟨g, cap, cur, rfl, hg, hh, rest⟩
  · exact .inl ⟨rfl, h0⟩
  · refine .inr ⟨g, cap, cur, rfl, hg, (Below.heap_setCell w p u g ?_).trans hh, rest⟩
    intro he
    exact hp (by rw [he]; rfl)
/-- rows of unlike element types are not one. -/
theorem Own.ne_ {base' : Nat} {e' : TypeId} {v' : Value} {xs' : List Value} (h : Own w base e v xs) (h' : Own w base' e' v' xs') (hne : e ≠ e') : v.ownBlock = none ∨ v.ownBlock ≠ v'.ownBlock := by
  rcases h.2 with ⟨rfl, _⟩ | ⟨g, cap, cur, rfl, _, hh, _⟩
  · exact .inl rfl
  · refine .inr fun hk => ?_
    rcases h'.2 with ⟨rfl, _⟩ | ⟨g', cap', cur', rfl, _, hh', _⟩
    · simp [Value.ownBlock] at hk
    · have : g = g' := by simpa [Value.ownBlock] using hk
      subst this
      rw [hh] at hh'
      injection hh' with hh'
      injection hh' with _ ht
      exact hne ht
end

/-! ### slices that are read: nil, empty, cut ones and others alike -/
/-- The slice value v reads as xs, one cell an element. -/
def Reads (w : World) (v : Value) (xs : List Value) : Prop :=
  ∃ A c, v = .slice A xs.length c ∧ xs.length ≤ c ∧ c ≤ 9223372036854775807 ∧ (0 < xs.length → ∃ b off, A = some ⟨b, off, none⟩ ∧ ∀ j, j < xs.length → w.cell? ⟨b, off + j, none⟩ = xs[j]?)
section
variable {w w' : World} {base : Nat} {e : TypeId} {v : Value} {xs : List Value}
theorem add_plain (g i j : Nat) : (⟨g, i, none⟩ : Addr).add j = ⟨g, i + j, none⟩ := by unfold Addr.add; split <;> simp_all
theorem Own.reads (h : Own w base e v xs) : Reads w v xs := by
  rcases Nat.eq_zero_or_pos xs.length with h0 | h0
  · rcases h.2 with ⟨rfl, h1⟩ | ⟨g, cap, cur, rfl, _, _, hc, hm, _⟩
    · exact ⟨none, 0, by rw [h1], by omega, by omega, fun hp => absurd hp (by omega)⟩
    · exact ⟨_, cap, rfl, hc, hm, fun hp => absurd hp (by omega)⟩
  · rcases h.2 with ⟨rfl, h1⟩ | ⟨g, cap, cur, rfl, _, _, hc, hm, _⟩
    · omega
    · exact ⟨_, cap, rfl, hc, hm, fun _ => ⟨g, 0, rfl, fun j hj => by rw [Nat.zero_add]; exact h.cell j hj⟩⟩
theorem Reads.keep (h : Reads w v xs) (hk : ∀ p : Addr, p.block < w.heap.size → w'.cell? p = w.cell? p) : Reads w' v xs := by
  obtain ⟨A, c, rfl, h1, h2, h3⟩ := h
  refine ⟨A, c, rfl, h1, h2, fun hp => ?_⟩
  obtain ⟨b, off, rfl, hc⟩ := h3 hp
  refine ⟨b, off, rfl, fun j hj => ?_⟩
  have hcj := hc j hj
  rw [List.getElem?_eq_getElem hj] at hcj ⊢
  exact (hk _ (World.block_lt_of_cell? w _ hcj)).trans hcj
theorem Reads.below (h : Reads w v xs) (hb : Below w.heap.size w w') : Reads w' v xs := h.keep fun _ hp => hb.cell hp
theorem Reads.alloc (h : Reads w v xs) (o : Obj) : Reads (w.alloc o) v xs := h.keep fun p hp => World.cell?_alloc_lt w o p hp
theorem Reads.drewN (h : Reads w v xs) (n : Nat) : Reads (w.drewN n) v xs := h
theorem Reads.drew (h : Reads w v xs) : Reads w.drew v xs := h
theorem Reads.len (h : Reads w v xs) : xs.length ≤ 9223372036854775807 := by
  obtain ⟨A, c, rfl, h1, h2, h3⟩ := h
  omega
end

/-! ### append of one element -/
section
variable {P : Program} {ops : Array Oper} {rest : List Oper} {o : Oper} {a : Act} {Q : Exit → Act → World → Prop}
/-- 'v = append(v, y)': the variadic's box stands in the world already. -/
theorem append_one {w0 W : World} (base : Nat) (hgd : o.guard = none) (s x : Operand) (t e : TypeId) (z : Value) (bytes : Nat)
    (ho : o.op = .call { callee := .builtin .append, args := #[s, x], argTypes := #[t, t] })
    (ht : P.underlying t = some (.slice e)) (hinfo : (P.info? e).map (fun i => (i.zero, i.size, i.bytes)) = some (some z, 1, bytes)) (hz : z.cells.size = 1) (hb0 : 0 < bytes)
    (v : Value) (xs : List Value) (y : Value) (hs : a.eval s = v) (hx : a.eval x = .slice (some ⟨W.heap.size, 0, none⟩) 1 1) (h1 : y.oneCell' = true)
    (HO : Own W base e v xs) (HB : Below base w0 W) (hbase : base ≤ W.heap.size) (hl : (xs.length + 1) * bytes ≤ 140737488355328)
    (h : ∀ v1 w1, Own w1 base e v1 (xs ++ [y]) → Below base w0 w1 → W.grownBy w1 v.ownBlock → (v1.ownBlock = v.ownBlock ∨ ∃ b, v1.ownBlock = some b ∧ W.heap.size ≤ b) → wpList P ops Q rest (a.put o.dst v1) w1) :
    wpList P ops Q (o :: rest) a (W.alloc (.cells #[y] e)) := by
  obtain ⟨i0, hi, hz0, hz1, hz2⟩ := info_parts hinfo
  have hlen : xs.length + 1 ≤ 140737488355328 := Nat.le_trans (Nat.le_mul_of_pos_right _ hb0) hl
  refine wpList_append_own_at (W.alloc (.cells #[y] e)) hgd s x t ho base e i0 z 1 bytes ht hi hz0 hz1 hz2 hz (by omega) v xs.length xs hs (World.ownsRow.alloc HO _) ⟨W.heap.size, 0, none⟩ 1 1 [y] hx rfl
    (World.news_of_block (cs := #[y]) (t := e) (fr := (0, 0)) (heap_alloc_new W _)) (by simpa using h1) (by simp only [maxLen]; omega) hl (by simp; omega) ?_
  intro v1 w1 hown hg _ hat
  refine h v1 w1 (by unfold Own; simpa using hown) ((HB.alloc hbase _).grown hg (by simp; omega) fun k hk => (HO.lt k hk).1) (grownBy_trans (World.grownBy_alloc W _ _) hg) ?_
  rcases hat with hat | hat
  · exact .inl hat
  · exact .inr ⟨_, hat, by simp⟩
end

/-! ### bytes, texts -/
/-- bytes, as Go holds them. -/
def bv (l : List UInt8) : List Value := l.map fun u => .int .u8 (u.toNat : Int)
theorem bv_length (l : List UInt8) : (bv l).length = l.length := by simp [bv]
theorem bv_append (l m : List UInt8) : bv (l ++ m) = bv l ++ bv m := by simp [bv]
theorem bv_at (l : List UInt8) (i : Nat) (h : i < l.length) : (bv l)[i]? = some (.int .u8 ((l.getD i 0).toNat : Int)) := by
  simp [bv, List.getElem?_eq_getElem h]
theorem bv_set (l : List UInt8) (i : Nat) (u : UInt8) : (bv l).set i (.int .u8 (u.toNat : Int)) = bv (l.set i u) := by
  simp [bv, List.map_set]
/-- a text of bytes. -/
def bs (l : List UInt8) : ByteArray := ⟨l.toArray⟩
theorem bs_data (s : ByteArray) : bs s.data.toList = s := by simp [bs]
theorem bs_toList (l : List UInt8) : (bs l).data.toList = l := by simp [bs]
theorem bs_size (l : List UInt8) : (bs l).size = l.length := rfl
theorem bs_inj {l m : List UInt8} : bs l = bs m ↔ l = m := by
  constructor
  · intro h
    have := congrArg (fun s : ByteArray => s.data.toList) h
    simpa [bs] using this
  · intro h; rw [h]
theorem size_toList (s : ByteArray) : s.data.toList.length = s.size := rfl
theorem byte_at (s : ByteArray) (k : Nat) : ∀ h : k < s.size, ((s[k]'h).toNat : Int) = ((s.data.toList.getD k 0).toNat : Int) := by
  intro h
  have h2 : k < s.data.toList.length := by rw [size_toList]; exact h
  rw [List.getD_eq_getElem?_getD, List.getElem?_eq_getElem h2]
  rfl
/-- string(v), v a row of bytes of the call's own. -/
theorem reads_string {P : Program} {w : World} {src dst e : TypeId} {v : Value} {l : List UInt8} (hs : P.underlying src = some (.slice e)) (he : P.underlying e = some (.int .u8)) (hd : P.underlying dst = some .string)
    (h : Reads w v (bv l)) : (convert src dst v).run P w = .ok (.string (bs l)) w := by
  have e0 : strOfNums (l.map fun u => (u.toNat : Int)) = bs l := by
    unfold strOfNums bs
    congr 2
    rw [List.map_map]
    conv => rhs; rw [← List.map_id l]
    apply List.map_congr_left
    intro u _
    simp
  obtain ⟨A, c, rfl, h1, h2, h3⟩ := h
  rcases Nat.eq_zero_or_pos l.length with h0 | h0
  · obtain rfl : l = [] := List.eq_nil_of_length_eq_zero h0
    rcases A with _ | ad
    · exact run_convert_bytes_nil w src e hs he 0 c dst hd
    · have hz : (loadCells ad 0).run P w = .ok #[] w := run_loadCells_list (P := P) w ad [] (fun j v hj => by simp at hj)
      rw [run_convert_bytes_string w src dst e _ _ c hs he hd]
      simp [Conv.bytesToString, bv, hz, bs]
      rfl
  · obtain ⟨b, off, rfl, hc⟩ := h3 (by rw [bv_length]; exact h0)
    rw [← e0]
    refine run_convert_bytes_arg w src e hs he b off _ c _ (by simp [bv]) (fun i hi => ?_) dst hd
    rw [hc i hi, bv_at _ _ (by simpa [bv] using hi)]
    have hi2 : i < l.length := by simpa [bv] using hi
    simp [List.getD_eq_getElem?_getD, List.getElem?_eq_getElem hi2]
end Go.Proofs.Ytgphfhpobppmeaa
