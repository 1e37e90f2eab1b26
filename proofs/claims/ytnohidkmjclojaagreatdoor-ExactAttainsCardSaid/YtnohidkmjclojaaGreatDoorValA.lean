/- Walks: exact's values, the operations. -/
import Derived.Test.YtnohidkmjclojaaGreatDoorKitV
namespace Go.Proofs.YtnohidkmjclojaaGreatDoor
open Go.RowKit

/-- the sum of two numbers with signs -/
def sumS (a : Bool) (x : Nat) (b : Bool) (y : Nat) : Bool × Nat := if a = b then (a, x + y) else if y ≤ x then (a, x - y) else (b, y - x)

set_option maxRecDepth 100000 in
set_option maxHeartbeats 400000 in
/-- sum adds two numbers with signs -/
theorem sum_any (a b : Bool) (x y : Nat) (w : World) (hx : dl 4294967296 x ≤ 32) (hy : dl 4294967296 y ≤ 32) (hs : dl 4294967296 (x + y) ≤ 32) :
    Calls Tryz.prog 134 #[.bool a, .agg (nat x), .bool b, .agg (nat y)] w fun e w' => e = .returned (.tuple #[.bool (sumS a x b y).1, .agg (nat (sumS a x b y).2)]) ∧ Grown w w' := by
  by_cases hab : a = b
  · subst hab
    have hf : sumS a x a y = (a, x + y) := by unfold sumS; rw [if_pos rfl]
    have HF := Lib.hid hf
    have hb : (a == a) = true := by simp
    clear hf
    go_enter Tryz.func134, Tryz.ntmps134
    go_wp2_with (go_at_call 173; refine (plus_any _ _ _ hx hy hs).mono ?_; rintro e w' ⟨rfl, os, d, rfl⟩)
    refine bodyPost_ret (v := .tuple #[.bool a, .agg (nat (x + y))]) (ret_tmp_nat rfl rfl rfl ?_) rfl ⟨by rw [HF.out], ?_⟩
    · go_simp
    · exact (by with_reducible repeat (first | exact Grown.refl _ | apply Grown.more | apply Grown.alloc | apply Grown.drewN | apply Grown.drew))
  · have hb : (a == b) = false := by simpa using hab
    by_cases hxy : y ≤ x
    · obtain ⟨c, rfl⟩ : ∃ c, x = y + c := ⟨x - y, by omega⟩
      have hf : sumS a (y + c) b y = (a, c) := by unfold sumS; rw [if_neg hab, if_pos hxy, Nat.add_sub_cancel_left]
      have HF := Lib.hid hf
      have hc : 0 ≤ cmpI (y + c) y := by unfold cmpI; rw [if_neg (by omega)]; split <;> omega
      clear hf hab
      go_enter Tryz.func134, Tryz.ntmps134
      go_wp2_with (first | (go_at_call 146; refine (compare_any _ _ _ hx hy).mono ?_; rintro e w' ⟨rfl, os, d, rfl⟩) | (go_at_call 171; refine (less_any c y _ hx).mono ?_; rintro e w' ⟨rfl, os', d', rfl⟩))
      refine bodyPost_ret (v := .tuple #[.bool a, .agg (nat c)]) (ret_tmp_nat rfl rfl rfl ?_) rfl ⟨by rw [HF.out], ?_⟩
      · go_simp
      · exact (by with_reducible repeat (first | exact Grown.refl _ | apply Grown.more | apply Grown.alloc | apply Grown.drewN | apply Grown.drew))
    · obtain ⟨c, rfl⟩ : ∃ c, y = x + c := ⟨y - x, by omega⟩
      have hf : sumS a x b (x + c) = (b, c) := by unfold sumS; rw [if_neg hab, if_neg hxy, Nat.add_sub_cancel_left]
      have HF := Lib.hid hf
      have hc : cmpI x (x + c) < 0 := by unfold cmpI; rw [if_pos (by omega)]; omega
      clear hf hab
      go_enter Tryz.func134, Tryz.ntmps134
      go_wp2_with (first | (go_at_call 146; refine (compare_any _ _ _ hx hy).mono ?_; rintro e w' ⟨rfl, os, d, rfl⟩) | (go_at_call 171; refine (less_any c x _ hy).mono ?_; rintro e w' ⟨rfl, os', d', rfl⟩))
      refine bodyPost_ret (v := .tuple #[.bool b, .agg (nat c)]) (ret_tmp_nat rfl rfl rfl ?_) rfl ⟨by rw [HF.out], ?_⟩
      · go_simp
      · exact (by with_reducible repeat (first | exact Grown.refl _ | apply Grown.more | apply Grown.alloc | apply Grown.drewN | apply Grown.drew))

set_option maxRecDepth 100000 in
set_option maxHeartbeats 1000000 in
/-- times multiplies values -/
theorem vtimes_any (a b : Bool) (x y u v : Nat) (w : World) (hx : dl 4294967296 x ≤ 32) (hy : dl 4294967296 y ≤ 32) (hu : dl 4294967296 u ≤ 32) (hv : dl 4294967296 v ≤ 32)
    (hn : dl 4294967296 (x * u) ≤ 32) (hd : dl 4294967296 (y * v) ≤ 32) :
    Calls Tryz.prog 83 #[.agg (val a x y), .agg (val b u v)] w fun e w' => e = .returned (.agg (val (a != b) (x * u) (y * v))) ∧ Grown w w' := by
  obtain ⟨c, hc⟩ : ∃ c, (a != b) = c := ⟨_, rfl⟩
  rw [hc]
  have hc' : (!(a == b)) = c := hc
  clear hc
  go_enter Tryz.func83, Tryz.ntmps83
  go_wp2_with fail
  go_region_held3 (fun w' => w'.cell? ⟨w.heap.size, 0, none⟩ = some (.bool a) ∧ w'.cell? ⟨w.heap.size + 1, 0, none⟩ = some (.bool b) ∧ rowAt w' ⟨w.heap.size, 1, none⟩ 33 = some (nat x) ∧ rowAt w' ⟨w.heap.size + 1, 1, none⟩ 33 = some (nat u) ∧
      rowAt w' ⟨w.heap.size, 34, none⟩ 33 = some (nat y) ∧ rowAt w' ⟨w.heap.size + 1, 34, none⟩ 33 = some (nat v)) (go_simp)
    (first | (go_at_call 135; ((with_reducible refine (times_any x u _ hx hu hn).mono ?_); rintro e w' ⟨rfl, os1, d1, rfl⟩)) | (go_at_call 135; ((with_reducible refine (times_any y v _ hy hv hd).mono ?_); rintro e w' ⟨rfl, os2, d2, rfl⟩)))
  go_wp2
  refine bodyPost_ret (v := .agg (val c (x * u) (y * v))) (ret_val rfl rfl ?_) rfl ⟨rfl, ?_⟩
  · go_simp
  · exact (by with_reducible repeat (first | exact Grown.refl _ | apply Grown.more | apply Grown.alloc | apply Grown.drewN | apply Grown.drew))

set_option maxRecDepth 100000 in
set_option maxHeartbeats 1000000 in
/-- over divides values -/
theorem vover_any (a b : Bool) (x y u v : Nat) (w : World) (hx : dl 4294967296 x ≤ 32) (hy : dl 4294967296 y ≤ 32) (hu : dl 4294967296 u ≤ 32) (hv : dl 4294967296 v ≤ 32)
    (hn : dl 4294967296 (x * v) ≤ 32) (hd : dl 4294967296 (y * u) ≤ 32) :
    Calls Tryz.prog 87 #[.agg (val a x y), .agg (val b u v)] w fun e w' => e = .returned (.agg (val (a != b) (x * v) (y * u))) ∧ Grown w w' := by
  obtain ⟨c, hc⟩ : ∃ c, (a != b) = c := ⟨_, rfl⟩
  rw [hc]
  have hc' : (!(a == b)) = c := hc
  clear hc
  go_enter Tryz.func87, Tryz.ntmps87
  go_wp2_with fail
  go_region_held3 (fun w' => w'.cell? ⟨w.heap.size, 0, none⟩ = some (.bool a) ∧ w'.cell? ⟨w.heap.size + 1, 0, none⟩ = some (.bool b) ∧ rowAt w' ⟨w.heap.size, 1, none⟩ 33 = some (nat x) ∧ rowAt w' ⟨w.heap.size + 1, 1, none⟩ 33 = some (nat u) ∧
      rowAt w' ⟨w.heap.size, 34, none⟩ 33 = some (nat y) ∧ rowAt w' ⟨w.heap.size + 1, 34, none⟩ 33 = some (nat v)) (go_simp)
    (first | (go_at_call 135; ((with_reducible refine (times_any x v _ hx hv hn).mono ?_); rintro e w' ⟨rfl, os1, d1, rfl⟩)) | (go_at_call 135; ((with_reducible refine (times_any y u _ hy hu hd).mono ?_); rintro e w' ⟨rfl, os2, d2, rfl⟩)))
  go_wp2
  refine bodyPost_ret (v := .agg (val c (x * v) (y * u))) (ret_val rfl rfl ?_) rfl ⟨rfl, ?_⟩
  · go_simp
  · exact (by with_reducible repeat (first | exact Grown.refl _ | apply Grown.more | apply Grown.alloc | apply Grown.drewN | apply Grown.drew))


set_option maxRecDepth 100000 in
set_option maxHeartbeats 1000000 in
/-- plus adds values -/
theorem vplus_any (a b : Bool) (x y u v : Nat) (w : World) (hx : dl 4294967296 x ≤ 32) (hy : dl 4294967296 y ≤ 32) (hu : dl 4294967296 u ≤ 32) (hv : dl 4294967296 v ≤ 32)
    (h1 : dl 4294967296 (x * v) ≤ 32) (h2 : dl 4294967296 (u * y) ≤ 32) (h3 : dl 4294967296 (x * v + u * y) ≤ 32) (hd : dl 4294967296 (y * v) ≤ 32) :
    Calls Tryz.prog 75 #[.agg (val a x y), .agg (val b u v)] w fun e w' => e = .returned (.agg (val (sumS a (x * v) b (u * y)).1 (sumS a (x * v) b (u * y)).2 (y * v))) ∧ Grown w w' := by
  have hsum := sum_any a b (x * v) (u * y)
  obtain ⟨c, hc⟩ : ∃ c, c = (sumS a (x * v) b (u * y)).1 := ⟨_, rfl⟩
  obtain ⟨s, hs⟩ : ∃ s, s = (sumS a (x * v) b (u * y)).2 := ⟨_, rfl⟩
  rw [← hc, ← hs] at hsum ⊢
  have HS := Lib.hid hsum
  clear hsum hc hs
  go_enter Tryz.func75, Tryz.ntmps75
  go_wp2_with fail
  go_region_held3 (fun w' => w'.cell? ⟨w.heap.size, 0, none⟩ = some (.bool a) ∧ w'.cell? ⟨w.heap.size + 1, 0, none⟩ = some (.bool b) ∧ rowAt w' ⟨w.heap.size, 1, none⟩ 33 = some (nat x) ∧ rowAt w' ⟨w.heap.size + 1, 1, none⟩ 33 = some (nat u) ∧
      rowAt w' ⟨w.heap.size, 34, none⟩ 33 = some (nat y) ∧ rowAt w' ⟨w.heap.size + 1, 34, none⟩ 33 = some (nat v)) (go_simp)
    (first | (go_at_call 135; ((with_reducible refine (times_any x v _ hx hv h1).mono ?_); rintro e w' ⟨rfl, os1, d1, rfl⟩)) | (go_at_call 135; ((with_reducible refine (times_any u y _ hu hy h2).mono ?_); rintro e w' ⟨rfl, os2, d2, rfl⟩)) | (go_at_call 134; ((with_reducible refine (HS.out _ h1 h2 h3).mono ?_); rintro e w' ⟨rfl, os3, d3, rfl⟩)))
  all_goals
    go_wp2_with fail
    first
      | go_region_held3 (fun w' => rowAt w' ⟨w.heap.size + 1 + 1 + 1 + (os1.size + (os2.size + os3.size)), 0, none⟩ 33 = some (nat s) ∧ rowAt w' ⟨w.heap.size, 34, none⟩ 33 = some (nat y) ∧ rowAt w' ⟨w.heap.size + 1, 34, none⟩ 33 = some (nat v)) (go_simp) (first | (go_at_call 135; refine (times_any y v _ hy hv hd).mono ?_; rintro e w' ⟨rfl, os4, d4, rfl⟩))
      | go_region_held3 (fun w' => rowAt w' ⟨w.heap.size + 1 + 1 + 1 + (os1.size + os2.size), 0, none⟩ 33 = some (nat s) ∧ rowAt w' ⟨w.heap.size, 34, none⟩ 33 = some (nat y) ∧ rowAt w' ⟨w.heap.size + 1, 34, none⟩ 33 = some (nat v)) (go_simp) (first | (go_at_call 135; refine (times_any y v _ hy hv hd).mono ?_; rintro e w' ⟨rfl, os4, d4, rfl⟩))
      | go_region_held3 (fun w' => rowAt w' ⟨w.heap.size + 1 + 1 + 1 + (os2.size + os1.size), 0, none⟩ 33 = some (nat s) ∧ rowAt w' ⟨w.heap.size, 34, none⟩ 33 = some (nat y) ∧ rowAt w' ⟨w.heap.size + 1, 34, none⟩ 33 = some (nat v)) (go_simp) (first | (go_at_call 135; refine (times_any y v _ hy hv hd).mono ?_; rintro e w' ⟨rfl, os4, d4, rfl⟩))
      | go_region_held3 (fun w' => rowAt w' ⟨w.heap.size + 1 + 1 + 1 + os1.size, 0, none⟩ 33 = some (nat s) ∧ rowAt w' ⟨w.heap.size, 34, none⟩ 33 = some (nat y) ∧ rowAt w' ⟨w.heap.size + 1, 34, none⟩ 33 = some (nat v)) (go_simp) (first | (go_at_call 135; refine (times_any y v _ hy hv hd).mono ?_; rintro e w' ⟨rfl, os4, d4, rfl⟩))
      | go_region_held3 (fun w' => rowAt w' ⟨w.heap.size + 1 + 1 + 1 + os2.size, 0, none⟩ 33 = some (nat s) ∧ rowAt w' ⟨w.heap.size, 34, none⟩ 33 = some (nat y) ∧ rowAt w' ⟨w.heap.size + 1, 34, none⟩ 33 = some (nat v)) (go_simp) (first | (go_at_call 135; refine (times_any y v _ hy hv hd).mono ?_; rintro e w' ⟨rfl, os4, d4, rfl⟩))
      | go_region_held3 (fun w' => rowAt w' ⟨w.heap.size + 1 + 1 + 1, 0, none⟩ 33 = some (nat s) ∧ rowAt w' ⟨w.heap.size, 34, none⟩ 33 = some (nat y) ∧ rowAt w' ⟨w.heap.size + 1, 34, none⟩ 33 = some (nat v)) (go_simp) (first | (go_at_call 135; refine (times_any y v _ hy hv hd).mono ?_; rintro e w' ⟨rfl, os4, d4, rfl⟩))
    all_goals
      go_wp2
      refine bodyPost_ret (v := .agg (val c s (y * v))) (ret_val rfl rfl ?_) rfl ⟨rfl, ?_⟩
      · go_simp
      · exact (by with_reducible repeat (first | exact Grown.refl _ | apply Grown.more | apply Grown.alloc | apply Grown.drewN | apply Grown.drew))
end Go.Proofs.YtnohidkmjclojaaGreatDoor
