/- Laws for an array of two values: 134 cells. -/
import Derived.Test.YtnohidkmjclojaaGreatDoorValF
namespace Go.Proofs.YtnohidkmjclojaaGreatDoor
open Go.RowKit

/-- two values in one array -/
def pair (p q : Tri) : Array Value := val p.1 p.2.1 p.2.2 ++ val q.1 q.2.1 q.2.2
theorem pair_size (p q : Tri) : (pair p q).size = 134 := by unfold pair; rw [Array.size_append, val_size, val_size]
theorem pair_one (p q : Tri) : allOne (pair p q) = true := by
  have h1 := val_one p.1 p.2.1 p.2.2
  have h2 := val_one q.1 q.2.1 q.2.2
  unfold allOne at *
  unfold pair
  rw [Array.all_append, h1, h2]
  rfl
theorem pair_get (p q : Tri) (i : Nat) : (pair p q)[i]? = if i < 67 then (val p.1 p.2.1 p.2.2)[i]? else (val q.1 q.2.1 q.2.2)[i - 67]? := by
  unfold pair
  rw [Array.getElem?_append, val_size]
theorem pair_seg0 (p q : Tri) : seg (pair p q) 0 67 = some (val p.1 p.2.1 p.2.2) := by
  unfold seg
  rw [if_pos (by rw [pair_size]; omega)]
  refine congrArg some (Array.ext_getElem? fun i => ?_)
  rw [Array.getElem?_extract, pair_size, pair_get]
  by_cases h : i < 67
  · rw [if_pos (by omega), if_pos (by omega), Nat.zero_add]
  · rw [if_neg (by omega), none_ge _ 67 i (val_size _ _ _) (by omega)]
theorem pair_seg1 (p q : Tri) : seg (pair p q) 67 67 = some (val q.1 q.2.1 q.2.2) := by
  unfold seg
  rw [if_pos (by rw [pair_size]; omega)]
  refine congrArg some (Array.ext_getElem? fun i => ?_)
  rw [Array.getElem?_extract, pair_size, pair_get]
  by_cases h : i < 67
  · rw [if_pos (by omega), if_neg (by omega), Nat.add_sub_cancel_left]
  · rw [if_neg (by omega), none_ge _ 67 i (val_size _ _ _) (by omega)]
theorem z134 : (Tryz.prog.info? 121).map (fun i => i.zero) = some (some (.agg (((#[Value.bool false] ++ cs (fun _ => 0) 0 ++ cs (fun _ => 0) 0)) ++ (#[Value.bool false] ++ cs (fun _ => 0) 0 ++ cs (fun _ => 0) 0)))) := by kernel_rfl
theorem pair_zero : pair (false, 0, 0) (false, 0, 0) = ((#[Value.bool false] ++ cs (fun _ => 0) 0 ++ cs (fun _ => 0) 0)) ++ (#[Value.bool false] ++ cs (fun _ => 0) 0 ++ cs (fun _ => 0) 0) := by
  unfold pair
  rw [val_zero]
attribute [irreducible] pair
theorem loadVar_pair (a : Addr) : loadVar 121 a = loadRow 121 a := rfl
theorem storeVar_pair (a : Addr) (v : Value) : storeVar 121 a v = putRow 121 a v := rfl
theorem run_load_pair (a : Addr) (w : World) : (loadRow 121 a).run Tryz.prog w = rowRes (rowAt w a 134) w ((loadRow' 121 a).run Tryz.prog w) :=
  run_loadRow (d := (Tryz.prog.underlying 121).getD (.struct #[])) (by kernel_rfl) (by kernel_rfl) (by kernel_rfl) a w
theorem run_store_pair (a : Addr) (cs : Array Value) (w : World) : (putRow 121 a (.agg cs)).run Tryz.prog w = putRes (putAt w a cs) (allOne cs && decide (cs.size = 134)) ((putRow' 121 a (.agg cs)).run Tryz.prog w) :=
  run_putRow (by kernel_rfl) a cs w
attribute [go_sem ↓] loadVar_pair storeVar_pair
attribute [go_sem] run_load_pair run_store_pair pair_size pair_one pair_seg0 pair_seg1
def zeroPair : Sem Value := zeroValue 121
theorem zeroPair_eq : zeroValue 121 = zeroPair := rfl
theorem run_zeroPair (w : World) : zeroPair.run Tryz.prog w = .ok (.agg (pair (false, 0, 0) (false, 0, 0))) w := by
  rw [pair_zero]
  unfold zeroPair
  kernel_rfl
attribute [go_sem ↓] zeroPair_eq
attribute [go_sem] run_zeroPair
def isArrOf (n : Nat) (e : TypeId) : Option TypeDesc → Bool
  | some (.array k t) => k == n && t == e
  | _ => false
theorem arr_of : ∀ {o : Option TypeDesc} {n : Nat} {e : TypeId}, isArrOf n e o = true → o = some (.array n e)
  | some (.array k t), n, e, h => by
    simp only [isArrOf, Bool.and_eq_true, beq_iff_eq] at h
    rw [h.1, h.2]
theorem sz67 : (Tryz.prog.info? 112).map (fun i => i.size) = some 67 := by kernel_rfl
theorem pair_fill (p q : Tri) : splice (splice (pair (false, 0, 0) (false, 0, 0)) 0 (val p.1 p.2.1 p.2.2)) 67 (val q.1 q.2.1 q.2.2) = pair p q := by
  refine Array.ext_getElem? fun i => ?_
  have h1 : (splice (pair (false, 0, 0) (false, 0, 0)) 0 (val p.1 p.2.1 p.2.2)).size = 134 := by
    unfold splice
    simp only [Array.size_append, Array.size_extract, val_size, pair_size]
    omega
  rw [splice_get _ _ _ _ (by rw [h1, val_size]; omega), splice_get _ _ _ _ (by rw [pair_size, val_size]; omega), pair_get p q]
  simp only [val_size, Nat.not_lt_zero, if_false, Nat.zero_add, Nat.sub_zero]
  by_cases h : i < 67
  · rw [if_pos h, if_pos h, if_pos h]
  · rw [if_neg h, if_neg h]
    by_cases h2 : i < 67 + 67
    · rw [if_pos h2, if_neg h]
    · rw [if_neg h2, if_neg h, none_ge _ 134 i (pair_size _ _) (by omega), none_ge _ 67 _ (val_size _ _ _) (by omega)]
theorem built_pair (p q : Tri) : Tryz.prog.built 121 [(0, .agg (val p.1 p.2.1 p.2.2)), (1, .agg (val q.1 q.2.1 q.2.2))] = some (pair p q) := by
  obtain ⟨it, hi⟩ : ∃ i, Tryz.prog.info? 121 = some i := by
    cases he : Tryz.prog.info? 121 with
    | none => have := z134; rw [he, Option.map_none] at this; exact absurd this.symm (Option.some_ne_none _)
    | some i => exact ⟨i, rfl⟩
  have hz : it.zero = some (.agg (pair (false, 0, 0) (false, 0, 0))) := by
    have := z134
    rw [hi, ← pair_zero, Option.map_some, Option.some.injEq] at this
    exact this
  obtain ⟨ie, he, h67⟩ : ∃ i, Tryz.prog.info? 112 = some i ∧ i.size = 67 := by
    cases he : Tryz.prog.info? 112 with
    | none => have := sz67; rw [he, Option.map_none] at this; exact absurd this.symm (Option.some_ne_none _)
    | some i => exact ⟨i, rfl, by have := sz67; rw [he, Option.map_some, Option.some.injEq] at this; exact this⟩
  have hu : Tryz.prog.underlying 121 = some (.array 2 112) := arr_of (by kernel_rfl)
  unfold Program.built
  rw [hi, hu]
  simp only [hz, he, Value.cells, h67]
  rw [fill_step _ _ 0 0 67 (.agg (val p.1 p.2.1 p.2.2)) _ rfl (val_size _ _ _) (by rw [pair_size]; omega)]
  rw [fill_step _ _ 1 67 67 (.agg (val q.1 q.2.1 q.2.2)) _ rfl (val_size _ _ _) (by show _ ≤ (splice _ _ (val _ _ _)).size; unfold splice; simp only [Array.size_append, Array.size_extract, val_size, pair_size]; omega)]
  exact congrArg some (pair_fill p q)
def mkPair (parts : Array (Nat × Value)) : Sem Value := Instr.build 121 parts
theorem mkPair_eq (parts : Array (Nat × Value)) : Instr.build 121 parts = mkPair parts := rfl
theorem run_mkPair (a b : Bool) (x y u v : Nat) (w : World) : (mkPair #[(0, .agg (val a x y)), (1, .agg (val b u v))]).run Tryz.prog w = .ok (.agg (pair (a, x, y) (b, u, v))) w :=
  run_build w _ _ _ (built_pair (a, x, y) (b, u, v))
attribute [go_sem ↓] mkPair_eq
attribute [go_sem] run_mkPair
theorem ret_pair {fn : Func} {p : Tmp} (h : fn.results = #[.cell p 121]) {tmps : Array Value} {w : World} {a : Addr} {cs : Array Value} (hp : tmps.getD p undef = .pointer (some a)) (hr : rowAt w a 134 = some cs) :
    (results fn tmps).run Tryz.prog w = .ok (.agg cs) w :=
  results_row (d := (Tryz.prog.underlying 121).getD (.struct #[])) h (by kernel_rfl) (by kernel_rfl) (by kernel_rfl) hp hr
end Go.Proofs.YtnohidkmjclojaaGreatDoor
