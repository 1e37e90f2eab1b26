/- Laws for a row of three values: 201 cells. -/
import Derived.Test.YtnohidkmjclojaaGreatDoorKitL
namespace Go.Proofs.YtnohidkmjclojaaGreatDoor
open Go.RowKit
set_option linter.unusedSimpArgs false

/-- three values in one row -/
def tri3 (p q r : Tri) : Array Value := val p.1 p.2.1 p.2.2 ++ (val q.1 q.2.1 q.2.2 ++ val r.1 r.2.1 r.2.2)
theorem tri3_size (p q r : Tri) : (tri3 p q r).size = 201 := by unfold tri3; rw [Array.size_append, Array.size_append, val_size, val_size, val_size]
theorem tri3_get (p q r : Tri) (i : Nat) : (tri3 p q r)[i]? = if i < 67 then (val p.1 p.2.1 p.2.2)[i]? else if i < 134 then (val q.1 q.2.1 q.2.2)[i - 67]? else (val r.1 r.2.1 r.2.2)[i - 134]? := by
  unfold tri3
  rw [Array.getElem?_append, Array.getElem?_append, val_size, val_size]
  by_cases h : i < 67
  · rw [if_pos h, if_pos h]
  · rw [if_neg h, if_neg h]
    by_cases h2 : i < 134
    · rw [if_pos (by omega), if_pos h2]
    · rw [if_neg (by omega), if_neg h2, show i - 67 - 67 = i - 134 from by omega]
theorem tri3_seg0 (p q r : Tri) : seg (tri3 p q r) 0 67 = some (val p.1 p.2.1 p.2.2) := by
  unfold seg
  rw [if_pos (by rw [tri3_size]; omega)]
  refine congrArg some (Array.ext_getElem? fun i => ?_)
  rw [Array.getElem?_extract, tri3_size, tri3_get]
  by_cases h : i < 67
  · rw [if_pos (by omega), if_pos (by omega), Nat.zero_add]
  · rw [if_neg (by omega), none_ge _ 67 i (val_size _ _ _) (by omega)]
theorem tri3_seg1 (p q r : Tri) : seg (tri3 p q r) 67 67 = some (val q.1 q.2.1 q.2.2) := by
  unfold seg
  rw [if_pos (by rw [tri3_size]; omega)]
  refine congrArg some (Array.ext_getElem? fun i => ?_)
  rw [Array.getElem?_extract, tri3_size, tri3_get]
  by_cases h : i < 67
  · rw [if_pos (by omega), if_neg (by omega), if_pos (by omega), Nat.add_sub_cancel_left]
  · rw [if_neg (by omega), none_ge _ 67 i (val_size _ _ _) (by omega)]
theorem tri3_seg2 (p q r : Tri) : seg (tri3 p q r) 134 67 = some (val r.1 r.2.1 r.2.2) := by
  unfold seg
  rw [if_pos (by rw [tri3_size]; omega)]
  refine congrArg some (Array.ext_getElem? fun i => ?_)
  rw [Array.getElem?_extract, tri3_size, tri3_get]
  by_cases h : i < 67
  · rw [if_pos (by omega), if_neg (by omega), if_neg (by omega), Nat.add_sub_cancel_left]
  · rw [if_neg (by omega), none_ge _ 67 i (val_size _ _ _) (by omega)]
theorem tri3_put0 (p q r : Tri) (b : Bool) (x y : Nat) : splice (tri3 p q r) 0 (val b x y) = tri3 (b, x, y) q r := by
  refine Array.ext_getElem? fun i => ?_
  rw [splice_get _ _ _ _ (by rw [tri3_size, val_size]; omega), tri3_get, tri3_get, val_size, if_neg (by omega)]
  by_cases h : i < 67
  · rw [if_pos (by omega), if_pos h, Nat.sub_zero]
  · rw [if_neg (by omega), if_neg h, if_neg h]
theorem tri3_put1 (p q r : Tri) (b : Bool) (x y : Nat) : splice (tri3 p q r) 67 (val b x y) = tri3 p (b, x, y) r := by
  refine Array.ext_getElem? fun i => ?_
  rw [splice_get _ _ _ _ (by rw [tri3_size, val_size]; omega), tri3_get, tri3_get, val_size]
  by_cases h : i < 67
  · rw [if_pos h, if_pos h, if_pos h]
  · rw [if_neg h, if_neg h, if_neg h]
    by_cases h2 : i < 134
    · rw [if_pos (by omega), if_pos h2]
    · rw [if_neg (by omega), if_neg h2, if_neg h2]
theorem tri3_put2 (p q r : Tri) (b : Bool) (x y : Nat) : splice (tri3 p q r) 134 (val b x y) = tri3 p q (b, x, y) := by
  refine Array.ext_getElem? fun i => ?_
  rw [splice_get _ _ _ _ (by rw [tri3_size, val_size]; omega), tri3_get, tri3_get, val_size]
  by_cases h : i < 67
  · rw [if_pos (by omega), if_pos h, if_pos h]
  · by_cases h2 : i < 134
    · rw [if_pos h2, if_neg h, if_pos h2, if_neg h, if_pos h2]
    · rw [if_neg h2, if_neg h, if_neg h2]
      by_cases h3 : i < 134 + 67
      · rw [if_pos h3, if_neg h, if_neg h2]
      · rw [if_neg h3, if_neg h, if_neg h2, none_ge _ 67 _ (val_size _ _ _) (by omega), none_ge _ 67 _ (val_size _ _ _) (by omega)]
theorem tri3_zero : tri3 (false, 0, 0) (false, 0, 0) (false, 0, 0) = (#[Value.bool false] ++ cs (fun _ => 0) 0 ++ cs (fun _ => 0) 0) ++ ((#[Value.bool false] ++ cs (fun _ => 0) 0 ++ cs (fun _ => 0) 0) ++ (#[Value.bool false] ++ cs (fun _ => 0) 0 ++ cs (fun _ => 0) 0)) := by
  unfold tri3
  rw [val_zero]
attribute [irreducible] tri3
attribute [go_sem] tri3_size tri3_seg0 tri3_seg1 tri3_seg2 tri3_put0 tri3_put1 tri3_put2
theorem run_make3' (w : World) : (Instr.makeSlice 151 (.int .i64 3) (.int .i64 3)).run Tryz.prog w = .ok (.slice (some ⟨w.heap.size, 0, none⟩) 3 3) (w.alloc (.cells (tri3 (false, 0, 0) (false, 0, 0) (false, 0, 0)) 112)) := by
  rw [tri3_zero]
  kernel_rfl
/-- three numbers in one row -/
def outD (f : Nat → Int) : Array Value := #[.int .i64 (f 0), .int .i64 (f 1), .int .i64 (f 2)]
theorem outD_size (f : Nat → Int) : (outD f).size = 3 := rfl
theorem outD_get (f : Nat → Int) (i : Nat) (h : i < 3) : (outD f)[i]? = some (.int .i64 (f i)) := by
  have : i = 0 ∨ i = 1 ∨ i = 2 := by omega
  rcases this with rfl | rfl | rfl <;> rfl
theorem outD_get' (f : Nat → Int) (i : Nat) (hi : i < (outD f).size) (h : i < 3) : (outD f)[i]'hi = .int .i64 (f i) := get_of (outD_get f i h) hi
theorem outD_set (f : Nat → Int) (i : Nat) (v : Int) (h : i < 3) : (outD f).setIfInBounds i (.int .i64 v) = outD (fun k => if k = i then v else f k) := by
  have : i = 0 ∨ i = 1 ∨ i = 2 := by omega
  rcases this with rfl | rfl | rfl <;> rfl
/-- three values in one row, by their places -/
def restD (R : Nat → Tri) : Array Value := tri3 (R 0) (R 1) (R 2)
theorem restD_size (R : Nat → Tri) : (restD R).size = 201 := tri3_size _ _ _
theorem restD_seg (R : Nat → Tri) (i : Nat) (h : i < 3) : seg (restD R) (i * 67) 67 = some (val (R i).1 (R i).2.1 (R i).2.2) := by
  have : i = 0 ∨ i = 1 ∨ i = 2 := by omega
  rcases this with rfl | rfl | rfl
  · exact tri3_seg0 _ _ _
  · exact tri3_seg1 _ _ _
  · exact tri3_seg2 _ _ _
theorem restD_put (R : Nat → Tri) (i : Nat) (b : Bool) (x y : Nat) (h : i < 3) : splice (restD R) (i * 67) (val b x y) = restD (fun k => if k = i then (b, x, y) else R k) := by
  have : i = 0 ∨ i = 1 ∨ i = 2 := by omega
  rcases this with rfl | rfl | rfl
  · exact tri3_put0 _ _ _ _ _ _
  · exact tri3_put1 _ _ _ _ _ _
  · exact tri3_put2 _ _ _ _ _ _
attribute [irreducible] restD outD
attribute [go_sem] restD_size restD_seg restD_put outD_size outD_get' outD_set
attribute [go_sem high] outD_get
theorem run_make3 (w : World) : (Instr.makeSlice 151 (.int .i64 3) (.int .i64 3)).run Tryz.prog w = .ok (.slice (some ⟨w.heap.size, 0, none⟩) 3 3) (w.alloc (.cells (restD fun _ => (false, 0, 0)) 112)) := by
  rw [run_make3' w]
  unfold restD
  rfl
theorem run_make3i (w : World) : (Instr.makeSlice 82 (.int .i64 3) (.int .i64 3)).run Tryz.prog w = .ok (.slice (some ⟨w.heap.size, 0, none⟩) 3 3) (w.alloc (.cells (outD fun _ => 0) 3)) := by
  unfold outD
  kernel_rfl
theorem or_zero (x : Nat) (h : x ≤ 10) : bits BinOp.or IntKind.u64 0 (x : Int) = (x : Int) := by
  have : x = 0 ∨ x = 1 ∨ x = 2 ∨ x = 3 ∨ x = 4 ∨ x = 5 ∨ x = 6 ∨ x = 7 ∨ x = 8 ∨ x = 9 ∨ x = 10 := by omega
  rcases this with rfl | rfl | rfl | rfl | rfl | rfl | rfl | rfl | rfl | rfl | rfl <;> decide +kernel
end Go.Proofs.YtnohidkmjclojaaGreatDoor
