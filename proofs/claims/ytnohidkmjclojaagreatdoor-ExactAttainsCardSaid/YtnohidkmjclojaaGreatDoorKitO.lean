/- Laws for four slices of fractions that are appended to in turn. -/
import Derived.Test.YtnohidkmjclojaaGreatDoorKitE
import Derived.Maps.AppendAt
namespace Go.Proofs.YtnohidkmjclojaaGreatDoor
set_option linter.unusedVariables false
set_option linter.unusedSimpArgs false
open Go.RowKit

/-- two values that own no block in common -/
def Apart2 (u v : Value) : Prop := ∀ b, u.ownBlock = some b → v.ownBlock ≠ some b
theorem Apart2.symm {u v : Value} (h : Apart2 u v) : Apart2 v u := fun b hv hu => h b hu hv
/-- the cells of k fractions -/
def rowsR (nn dd : Nat → ByteArray) (k : Nat) : List Value := (List.range k).flatMap fun i => [.string (nn i), .string (dd i)]
theorem rowsR_succ (nn dd : Nat → ByteArray) (k : Nat) : rowsR nn dd k ++ [.string (nn k), .string (dd k)] = rowsR nn dd (k + 1) := by
  unfold rowsR
  rw [List.range_succ, List.flatMap_append]
  simp
theorem rowsR_get (nn dd : Nat → ByteArray) (k i : Nat) (h : i < k) : (rowsR nn dd k)[i * 2]? = some (.string (nn i)) ∧ (rowsR nn dd k)[i * 2 + 1]? = some (.string (dd i)) := by
  induction k with
  | zero => omega
  | succ k ih =>
    have hl : (rowsR nn dd k).length = k * 2 := by
      clear ih h
      unfold rowsR
      induction k with
      | zero => rfl
      | succ k ih => rw [List.range_succ, List.flatMap_append, List.length_append, ih]; simp; omega
    rw [← rowsR_succ, List.getElem?_append, List.getElem?_append, hl]
    by_cases hk : i < k
    · rw [if_pos (by omega), if_pos (by omega)]
      exact ih hk
    · have : i = k := by omega
      subst this
      rw [if_neg (by omega), if_neg (by omega), Nat.sub_self, show i * 2 + 1 - i * 2 = 1 from by omega]
      exact ⟨rfl, rfl⟩
/-- one of the rows -/
def OwnR (W0 w : World) (v : Value) (n : Nat) (xs : List Value) : Prop := w.ownsRow W0.heap.size 23 2 v n xs
structure Own4 (W0 w : World) (v1 v2 v3 v4 : Value) (n1 n2 n3 n4 : Nat) (x1 x2 x3 x4 : List Value) : Prop where
  g : Grown W0 w
  o1 : OwnR W0 w v1 n1 x1
  o2 : OwnR W0 w v2 n2 x2
  o3 : OwnR W0 w v3 n3 x3
  o4 : OwnR W0 w v4 n4 x4
  a12 : Apart2 v1 v2
  a13 : Apart2 v1 v3
  a14 : Apart2 v1 v4
  a23 : Apart2 v2 v3
  a24 : Apart2 v2 v4
  a34 : Apart2 v3 v4
section
variable {W0 w w' : World} {v1 v2 v3 v4 v' : Value} {n1 n2 n3 n4 n' : Nat} {x1 x2 x3 x4 x' : List Value}
theorem Own4.rot (h : Own4 W0 w v1 v2 v3 v4 n1 n2 n3 n4 x1 x2 x3 x4) : Own4 W0 w v2 v3 v4 v1 n2 n3 n4 n1 x2 x3 x4 x1 :=
  ⟨h.g, h.o2, h.o3, h.o4, h.o1, h.a23, h.a24, h.a12.symm, h.a34, h.a13.symm, h.a14.symm⟩
theorem Own4.grown (h : Own4 W0 w v1 v2 v3 v4 n1 n2 n3 n4 x1 x2 x3 x4) (hg : Grown w w') : Own4 W0 w' v1 v2 v3 v4 n1 n2 n3 n4 x1 x2 x3 x4 :=
  ⟨h.g.trans hg, own_grown h.o1 hg, own_grown h.o2 hg, own_grown h.o3 hg, own_grown h.o4 hg, h.a12, h.a13, h.a14, h.a23, h.a24, h.a34⟩
theorem own_keeps {e : TypeId} {size n base : Nat} {u v : Value} {xs : List Value} (h : w.ownsRow base e size u n xs) (ha : Apart2 u v) (hg : w.grownBy w' v.ownBlock) : w'.ownsRow base e size u n xs := by
  obtain ⟨h1, h2 | ⟨g, cap, cur, rfl, hb, hh, h3⟩⟩ := h
  · exact ⟨h1, .inl h2⟩
  · refine ⟨h1, .inr ⟨g, cap, cur, rfl, hb, ?_, h3⟩⟩
    rw [hg.block g (Array.getElem?_eq_some_iff.1 hh).1 (fun e => ha g rfl e.symm)]
    exact hh
theorem Own4.app1 (h : Own4 W0 w v1 v2 v3 v4 n1 n2 n3 n4 x1 x2 x3 x4) (ho : w'.ownsRow W0.heap.size 23 2 v' n' x') (hg : w.grownBy w' v1.ownBlock) (hb : v'.ownBlock = v1.ownBlock ∨ v'.ownBlock = some w.heap.size) :
    Own4 W0 w' v' v2 v3 v4 n' n2 n3 n4 x' x2 x3 x4 := by
  have key : ∀ {u : Value} {n : Nat} {xs : List Value}, OwnR W0 w u n xs → Apart2 v1 u → Apart2 v' u := by
    intro u n xs hu ha b hv' hub
    rcases hb with e | e
    · exact ha b (e ▸ hv') hub
    · rw [e] at hv'
      injection hv' with hv'
      subst hv'
      exact own_ne hu (Nat.le_refl _) hub
  exact ⟨Grown.grownBy h.g hg (own_block_ge h.o1), ho, own_keeps h.o2 h.a12.symm hg, own_keeps h.o3 h.a13.symm hg, own_keeps h.o4 h.a14.symm hg, key h.o2 h.a12, key h.o3 h.a13, key h.o4 h.a14, h.a23, h.a24, h.a34⟩
theorem Own4.nil (W0 w : World) (hg : Grown W0 w) : Own4 W0 w (.slice none 0 0) (.slice none 0 0) (.slice none 0 0) (.slice none 0 0) 0 0 0 0 [] [] [] [] := by
  have ha : Apart2 (.slice none 0 0) (.slice none 0 0) := fun b h => by simp [Value.ownBlock] at h
  exact ⟨hg, ⟨rfl, .inl ⟨rfl, rfl⟩⟩, ⟨rfl, .inl ⟨rfl, rfl⟩⟩, ⟨rfl, .inl ⟨rfl, rfl⟩⟩, ⟨rfl, .inl ⟨rfl, rfl⟩⟩, ha, ha, ha, ha, ha, ha⟩
end
theorem own_cells {W0 w : World} {v : Value} {nn dd : Nat → ByteArray} {k : Nat} (h : OwnR W0 w v k (rowsR nn dd k)) (hk : 0 < k) :
    ∃ g cap, v = .slice (some ⟨g, 0, none⟩) k cap ∧ InW g w ∧ ∀ i, i < k → w.cell? ⟨g, i * 2, none⟩ = some (.string (nn i)) ∧ w.cell? ⟨g, i * 2 + 1, none⟩ = some (.string (dd i)) := by
  obtain ⟨h1, h2 | ⟨g, cap, cur, rfl, hb, hh, h3, h4, h5, h6⟩⟩ := h
  · omega
  · refine ⟨g, cap, rfl, (Array.getElem?_eq_some_iff.1 hh).1, ?_⟩
    intro i hi
    have hr := rowsR_get nn dd k i hi
    rw [← h6] at hr
    have hc : ∀ j, j < k * 2 → w.cell? ⟨g, j, none⟩ = (cur.toList.take (k * 2))[j]? := by
      intro j hj
      rw [List.getElem?_take_of_lt hj]
      unfold World.cell?
      rw [show w.heap[(⟨g, j, none⟩ : Addr).block]? = some (.cells cur 23 (0, 0)) from hh]
      simp
    exact ⟨by rw [hc _ (by omega)]; exact hr.1, by rw [hc _ (by omega)]; exact hr.2⟩
theorem slRat : Tryz.prog.underlying 32 = some (.slice 23) := slice_of (by kernel_rfl)
theorem infoRat : ∃ i, Tryz.prog.info? 23 = some i ∧ i.size = 2 ∧ i.bytes = 32 ∧ i.zero = some (.agg #[.string ⟨#[]⟩, .string ⟨#[]⟩]) := by
  have h1 : (Tryz.prog.info? 23).map (fun i => (i.size, i.bytes)) = some (2, 32) := by kernel_rfl
  have h2 : (Tryz.prog.info? 23).map (fun i => i.zero) = some (some (.agg #[.string ⟨#[]⟩, .string ⟨#[]⟩])) := by kernel_rfl
  cases h : Tryz.prog.info? 23 with
  | none => rw [h] at h1; exact absurd h1 (by simp)
  | some i =>
    rw [h] at h1 h2
    simp only [Option.map_some, Option.some.injEq, Prod.mk.injEq] at h1 h2
    exact ⟨i, rfl, h1.1, h1.2, h2⟩
theorem cell_grownBy {w w' : World} {row : Option Nat} (h : w.grownBy w' row) {b i : Nat} {v : Value} (hb : InW b w) (hne : row ≠ some b) (hc : w.cell? ⟨b, i, none⟩ = some v) : w'.cell? ⟨b, i, none⟩ = some v := by
  rw [World.cell?_of_block (h.block b hb (fun e => hne e.symm))]
  exact hc
end Go.Proofs.YtnohidkmjclojaaGreatDoor
