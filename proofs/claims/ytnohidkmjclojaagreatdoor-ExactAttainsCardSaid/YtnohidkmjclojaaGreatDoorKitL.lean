/- Laws for slices of values: a slice of one value, a pair's value at an index, appending, rows of what is owned. -/
import Derived.Test.YtnohidkmjclojaaGreatDoorKitP
import Derived.Laws.AppendOwn
import Derived.Maps.AppendAt
import Derived.Carry
namespace Go.Proofs.YtnohidkmjclojaaGreatDoor
open Go.RowKit
set_option linter.unusedSimpArgs false

def isSliceOf (e : TypeId) : Option TypeDesc → Bool
  | some (.slice t) => t == e
  | _ => false
theorem slice_of : ∀ {o : Option TypeDesc} {e : TypeId}, isSliceOf e o = true → o = some (.slice e)
  | some (.slice t), e, h => by
    simp only [isSliceOf, beq_iff_eq] at h
    rw [h]
theorem slVal : Tryz.prog.underlying 151 = some (.slice 112) := slice_of (by kernel_rfl)
theorem arrVal : Tryz.prog.underlying 121 = some (.array 2 112) := arr_of (by kernel_rfl)
theorem infoVal : ∃ i, Tryz.prog.info? 112 = some i ∧ i.size = 67 ∧ i.bytes = 280 ∧ i.zero = some (.agg (val false 0 0)) := by
  have h1 : (Tryz.prog.info? 112).map (fun i => (i.size, i.bytes)) = some (67, 280) := by kernel_rfl
  have h2 := z67
  rw [← val_zero] at h2
  cases h : Tryz.prog.info? 112 with
  | none => rw [h] at h1; exact absurd h1 (by simp)
  | some i =>
    rw [h] at h1 h2
    simp only [Option.map_some, Option.some.injEq, Prod.mk.injEq] at h1 h2
    exact ⟨i, rfl, h1.1, h1.2, h2⟩
theorem one_fill (c : Array Value) (b : Bool) (x y : Nat) (hc : c.size = 67) : Instr.fill (fun i => some (i * 67, 67)) c [(0, .agg (val b x y))] = some (val b x y) := by
  rw [fill_step _ _ 0 0 67 (.agg (val b x y)) _ rfl (val_size _ _ _) (by omega)]
  show some (splice c 0 (val b x y)) = _
  rw [splice_all _ _ (by rw [hc, val_size])]
def mkOne (parts : Array (Nat × Value)) : Sem Value := Instr.buildSlice 151 1 parts
theorem mkOne_eq (parts : Array (Nat × Value)) : Instr.buildSlice 151 1 parts = mkOne parts := rfl
theorem run_mkOne (b : Bool) (x y : Nat) (w : World) : (mkOne #[(0, .agg (val b x y))]).run Tryz.prog w = .ok (.slice (some ⟨w.heap.size, 0, none⟩) 1 1) (w.alloc (.cells (val b x y) 112)) := by
  obtain ⟨i, hi, h67, -, hz⟩ := infoVal
  have hz0 : (zeroValue 112).run Tryz.prog w = .ok (.agg (val false 0 0)) w := run_zeroVal w
  unfold mkOne Instr.buildSlice
  simp only [Sem.run_bind, run_underlying slVal, sizeOf, typeInfo, hi, Sem.run_pure]
  simp [Sem.run_bind, hi, h67, hz0]
  rw [one_fill _ _ _ _ (by simp)]
  simp [newRow, newObj, Sem.run_bind]
  rfl
attribute [go_sem ↓] mkOne_eq
attribute [go_sem] run_mkOne

/-- a pair's value -/
def sel (p q : Tri) (i : Nat) : Tri := if i = 0 then p else q
def idxPair (x i : Value) : Sem Value := Instr.index 121 x i
theorem idxPair_eq (x i : Value) : Instr.index 121 x i = idxPair x i := rfl
theorem pair_ext0 (p q : Tri) : (pair p q).extract 0 67 = val p.1 p.2.1 p.2.2 := by
  have := pair_seg0 p q
  unfold seg at this
  rw [if_pos (by rw [pair_size]; omega)] at this
  exact Option.some.inj this
theorem pair_ext1 (p q : Tri) : (pair p q).extract 67 134 = val q.1 q.2.1 q.2.2 := by
  have := pair_seg1 p q
  unfold seg at this
  rw [if_pos (by rw [pair_size]; omega)] at this
  exact Option.some.inj this
theorem run_idxPair (p q : Tri) (i : Nat) (w : World) (h : i < 2) : (idxPair (.agg (pair p q)) (.int .i64 (i : Int))).run Tryz.prog w = .ok (.agg (val (sel p q i).1 (sel p q i).2.1 (sel p q i).2.2)) w := by
  obtain ⟨d, hd, h67, -, -⟩ := infoVal
  have hagg : (isAgg 112).run Tryz.prog w = .ok true w := by kernel_rfl
  have hs : (sizeOf 112).run Tryz.prog w = .ok 67 w := by simp [sizeOf, typeInfo, hd, h67]
  have hc : (0 : Int) ≤ (i : Int) ∧ (i : Int) < ((2 : Nat) : Int) := by omega
  have hp : ∀ o, (part 112 (pair p q) o).run Tryz.prog w = .ok (.agg ((pair p q).extract o (o + 67))) w := by
    intro o
    simp [part, Sem.run_bind, hs, hagg]
  have he : (idxPair (.agg (pair p q)) (.int .i64 (i : Int))).run Tryz.prog w = .ok (.agg ((pair p q).extract (i * 67) (i * 67 + 67))) w := by
    unfold idxPair Instr.index
    simp [asIntOf, Sem.run_bind, run_underlying arrVal, hs, hp, h]
  rw [he]
  have : i = 0 ∨ i = 1 := by omega
  rcases this with rfl | rfl
  · rw [Nat.zero_mul, Nat.zero_add, pair_ext0]; rfl
  · rw [Nat.one_mul, show 67 + 67 = 134 from rfl, pair_ext1]; rfl
attribute [go_sem ↓] idxPair_eq

/-- the cells of a list of values -/
def rowsV (l : List Tri) : List Value := l.flatMap fun t => (val t.1 t.2.1 t.2.2).toList
theorem rowsV_length (l : List Tri) : (rowsV l).length = l.length * 67 := by
  unfold rowsV
  induction l with
  | nil => rfl
  | cons a l ih =>
    rw [List.flatMap_cons, List.length_append, ih, Array.length_toList, val_size, List.length_cons]
    omega
theorem rowsV_snoc (l : List Tri) (t : Tri) : rowsV l ++ (val t.1 t.2.1 t.2.2).toList = rowsV (l ++ [t]) := by
  unfold rowsV
  rw [List.flatMap_append]
  simp
theorem rowsV_take (l : List Tri) (i : Nat) (x : Tri) (h : l[i]? = some x) : ((rowsV l).drop (67 * i)).take 67 = (val x.1 x.2.1 x.2.2).toList := by
  induction l generalizing i with
  | nil => simp at h
  | cons a l ih =>
    have e : rowsV (a :: l) = (val a.1 a.2.1 a.2.2).toList ++ rowsV l := by unfold rowsV; rw [List.flatMap_cons]
    have hl : (val a.1 a.2.1 a.2.2).toList.length = 67 := by rw [Array.length_toList, val_size]
    rw [e]
    cases i with
    | zero =>
      simp only [List.getElem?_cons_zero, Option.some.injEq] at h
      subst h
      rw [Nat.mul_zero, List.drop_zero, List.take_append_of_le_length (by omega), List.take_of_length_le (by omega)]
    | succ i =>
      rw [List.getElem?_cons_succ] at h
      rw [show 67 * (i + 1) = 67 + 67 * i from by omega, ← List.drop_drop, List.drop_left' hl]
      exact ih i h
/-- what is owned is read row by row -/
theorem own_row {w : World} {base : Nat} {v : Value} {l : List Tri} (h : w.ownsRow base 112 67 v l.length (rowsV l)) (hl : 0 < l.length) :
    ∃ g cap, v = .slice (some ⟨g, 0, none⟩) l.length cap ∧ l.length ≤ cap ∧ InW g w ∧ ∀ i x, l[i]? = some x → rowAt w ⟨g, 67 * i, none⟩ 67 = some (val x.1 x.2.1 x.2.2) := by
  obtain ⟨h1, h2 | ⟨g, cap, cur, rfl, hb, hh, h3, h4, h5, h6⟩⟩ := h
  · omega
  · refine ⟨g, cap, rfl, h3, ?_, ?_⟩
    · unfold InW
      exact (Array.getElem?_eq_some_iff.1 hh).1
    · intro i x hx
      have hi : i < l.length := (List.getElem?_eq_some_iff.1 hx).1
      have hle : 67 * i + 67 ≤ l.length * 67 := by omega
      have hle2 : l.length * 67 ≤ cap * 67 := Nat.mul_le_mul_right _ h3
      unfold rowAt
      rw [hh]
      simp only [true_and]
      rw [if_pos (by omega)]
      refine congrArg some (Array.ext' ?_)
      rw [← rowsV_take l i x hx, ← h6, Array.toList_extract, List.extract_eq_take_drop]
      rw [List.drop_take, List.take_take]
      congr 1
      omega
theorem Grown.grownBy {W w w' : World} (h : Grown W w) {row : Option Nat} (hg : w.grownBy w' row) (hr : ∀ k, row = some k → W.heap.size ≤ k) : Grown W w' := by
  refine Grown.of_below ?_
  have hb := h.below
  exact hb.grown hg hb.size hr
theorem own_block_ge {w : World} {base : Nat} {e : TypeId} {size n : Nat} {v : Value} {xs : List Value} (h : w.ownsRow base e size v n xs) : ∀ k, v.ownBlock = some k → base ≤ k := by
  intro k hk
  rcases h.2 with ⟨rfl, _⟩ | ⟨g, cap, cur, rfl, hb, _⟩
  · simp [Value.ownBlock] at hk
  · have : g = k := by simpa [Value.ownBlock] using hk
    omega
/-- what is owned stays so in a world that has grown -/
theorem own_grown {w w' : World} {base : Nat} {e : TypeId} {size n : Nat} {v : Value} {xs : List Value} (h : w.ownsRow base e size v n xs) (hg : Grown w w') : w'.ownsRow base e size v n xs := by
  obtain ⟨h1, h2 | ⟨g, cap, cur, rfl, hb, hh, h3⟩⟩ := h
  · exact ⟨h1, .inl h2⟩
  · refine ⟨h1, .inr ⟨g, cap, cur, rfl, hb, ?_, h3⟩⟩
    obtain ⟨os, m, rfl⟩ := hg
    rw [heap_grow _ _ _ _ (Array.getElem?_eq_some_iff.1 hh).1]
    exact hh
theorem Grown.app (w : World) (os os' : Array Obj) (n n' : Nat) : Grown (YtnohidkmjclojaaGreatDoor.grow w os n) (YtnohidkmjclojaaGreatDoor.grow w (os ++ os') n') := ⟨os', n', (grow_grow _ _ _ _ _).symm⟩
theorem grown_size {w w' : World} (h : Grown w w') : w.heap.size ≤ w'.heap.size := by
  obtain ⟨os, n, rfl⟩ := h
  rw [heap_size_grow]
  omega
theorem news_cell (W : World) (c : Array Value) (t : TypeId) (b : Nat) (hb : b = W.heap.size) : ∀ j u, c.toList[j]? = some u → (W.alloc (.cells c t)).cell? ((⟨b, 0, none⟩ : Addr).add j) = some u := by
  subst hb
  intro j u h
  have : (⟨W.heap.size, 0, none⟩ : Addr).add j = ⟨W.heap.size, j, none⟩ := by unfold Addr.add; split <;> simp_all
  rw [this]
  unfold World.cell?
  rw [show (W.alloc (.cells c t)).heap[(⟨W.heap.size, j, none⟩ : Addr).block]? = some (.cells c t) from Go.heap_alloc_new W _]
  simpa using h
theorem news_one (b : Bool) (x y : Nat) : ∀ u ∈ (val b x y).toList, u.oneCell' = true := by
  have h := val_one b x y
  unfold allOne at h
  intro u hu
  exact (Array.all_eq_true_iff_forall_mem.1 h) u (by simpa using hu)
theorem news_len (b : Bool) (x y : Nat) : (val b x y).toList.length = 1 * 67 := by rw [Array.length_toList, val_size]
theorem cell_of_grown {W w : World} (h : Grown W w) {b i : Nat} {v : Value} (hb : b < W.heap.size) (hc : W.cell? ⟨b, i, none⟩ = some v) : w.cell? ⟨b, i, none⟩ = some v := by
  obtain ⟨os, n, rfl⟩ := h
  rw [cell_grow _ _ _ _ _ hb]
  exact hc
/-- a block that is not the owned one stays when something is appended -/
theorem row_grownBy {w w' : World} {row : Option Nat} (h : w.grownBy w' row) {b o n : Nat} {cs : Array Value} (hb : InW b w) (hne : row ≠ some b) (hr : rowAt w ⟨b, o, none⟩ n = some cs) : rowAt w' ⟨b, o, none⟩ n = some cs := by
  unfold rowAt at hr ⊢
  rw [h.block b hb (fun e => hne e.symm)]
  exact hr
theorem inW_grownBy {w w' : World} {row : Option Nat} (h : w.grownBy w' row) {b : Nat} (hb : InW b w) : InW b w' := Nat.lt_of_lt_of_le hb h.size
theorem row_grown {w w' : World} (h : Grown w w') {b o n : Nat} {cs : Array Value} (hb : InW b w) (hr : rowAt w ⟨b, o, none⟩ n = some cs) : rowAt w' ⟨b, o, none⟩ n = some cs := by
  obtain ⟨os, m, rfl⟩ := h
  rw [rowAt_grow _ _ _ _ _ _ hb]
  exact hr
theorem inW_grown {w w' : World} (h : Grown w w') {b : Nat} (hb : InW b w) : InW b w' := Nat.lt_of_lt_of_le hb (grown_size h)
/-- a new block is not the owned one -/
theorem own_ne {w : World} {base : Nat} {e : TypeId} {size n : Nat} {v : Value} {xs : List Value} (h : w.ownsRow base e size v n xs) {b : Nat} (hb : w.heap.size ≤ b) : v.ownBlock ≠ some b := by
  rcases h.2 with ⟨rfl, _⟩ | ⟨g, cap, cur, rfl, _, hh, _⟩
  · simp [Value.ownBlock]
  · have := (Array.getElem?_eq_some_iff.1 hh).1
    simp only [Value.ownBlock]
    intro e
    injection e with e
    omega
end Go.Proofs.YtnohidkmjclojaaGreatDoor
