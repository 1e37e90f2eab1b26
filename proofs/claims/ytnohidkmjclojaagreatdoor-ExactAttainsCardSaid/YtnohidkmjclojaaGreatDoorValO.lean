/- Walks: exact's Hull, Meet. -/
import Derived.Test.YtnohidkmjclojaaGreatDoorValM
import Derived.Test.YtnohidkmjclojaaGreatDoorValN
namespace Go.Proofs.YtnohidkmjclojaaGreatDoor
open Go.RowKit

set_option maxRecDepth 100000 in
set_option maxHeartbeats 1000000 in
theorem Hull_x (s1 s2 s3 s4 s1' s2' s3' s4' x1 x2 y1 y2 : ByteArray) (c1 c2 : Int) (w : World)
    (P1 : Hid (∀ w, Calls Tryz.prog 25 #[.agg #[.string s1, .string s2, .string s3, .string s4]] w fun e w' => e = .returned (.bool true) ∧ Grown w w'))
    (P2 : Hid (∀ w, Calls Tryz.prog 25 #[.agg #[.string s1', .string s2', .string s3', .string s4']] w fun e w' => e = .returned (.bool true) ∧ Grown w w'))
    (C1 : Hid (∀ w, Calls Tryz.prog 91 #[.agg #[.string s1', .string s2'], .agg #[.string s1, .string s2]] w fun e w' => e = .returned (.int .i64 c1) ∧ Grown w w'))
    (C2 : Hid (∀ w, Calls Tryz.prog 91 #[.agg #[.string s3', .string s4'], .agg #[.string s3, .string s4]] w fun e w' => e = .returned (.int .i64 c2) ∧ Grown w w'))
    (hc1 : Hid (c1 = 0 ∨ c1 = 1 ∨ c1 = -1)) (hc2 : Hid (c2 = 0 ∨ c2 = 1 ∨ c2 = -1))
    (H1 : Hid (Picked c1 (-1) x1 x2 s1' s2' s1 s2))
    (H2 : Hid (Picked c2 1 y1 y2 s3' s4' s3 s4)) :
    Calls Tryz.prog 33 #[.agg #[.string s1, .string s2, .string s3, .string s4], .agg #[.string s1', .string s2', .string s3', .string s4']] w fun e w' => e = .returned (.tuple #[.agg #[.string x1, .string x2, .string y1, .string y2], .int .i64 0]) ∧ Grown w w' := by
  go_enter Tryz.func33, Tryz.ntmps33
  go_wp2_with (first | (go_at_call 25; ((with_reducible refine (P1.out _).mono ?_); rintro e w' ⟨rfl, os1, d1, rfl⟩)) | (go_at_call 25; ((with_reducible refine (P2.out _).mono ?_); rintro e w' ⟨rfl, os2, d2, rfl⟩)))
  go_region_held3 (fun w' => w'.cell? ⟨w.heap.size, 0, none⟩ = some (.string s1) ∧ w'.cell? ⟨w.heap.size, 1, none⟩ = some (.string s2) ∧ w'.cell? ⟨w.heap.size, 2, none⟩ = some (.string s3) ∧ w'.cell? ⟨w.heap.size, 3, none⟩ = some (.string s4) ∧ w'.cell? ⟨w.heap.size + 1, 0, none⟩ = some (.string s1') ∧ w'.cell? ⟨w.heap.size + 1, 1, none⟩ = some (.string s2') ∧ w'.cell? ⟨w.heap.size + 1, 2, none⟩ = some (.string s3') ∧ w'.cell? ⟨w.heap.size + 1, 3, none⟩ = some (.string s4')) (go_simp)
    (first | (go_at_call 96; ((with_reducible refine (extremeR _ _ _ _ x1 x2 _ _ (-1) _ _ (.inr rfl) (by omega) ?_ ?_ ?_ ?_ ?_ hc1.out H1.out C1).mono ?_); (go_simp); (go_simp); (go_simp); (go_simp); (go_simp); rintro e w' ⟨rfl, os3, d3, rfl⟩)) | (go_at_call 96; ((with_reducible refine (extremeR _ _ _ _ y1 y2 _ _ 1 _ _ (.inl rfl) (by omega) ?_ ?_ ?_ ?_ ?_ hc2.out H2.out C2).mono ?_); (go_simp); (go_simp); (go_simp); (go_simp); (go_simp); rintro e w' ⟨rfl, os4, d4, rfl⟩)))
  all_goals
    go_wp2
    refine bodyPost_ret (v := .tuple #[.agg #[.string x1, .string x2, .string y1, .string y2], .int .i64 0]) (ret_rng_tmp rfl rfl rfl ?_) rfl ⟨rfl, ?_⟩
    · go_simp
    · exact (by with_reducible repeat (first | exact Grown.refl _ | apply Grown.more | apply Grown.alloc | apply Grown.drewN | apply Grown.drew))

set_option maxRecDepth 100000 in
set_option maxHeartbeats 1000000 in
theorem no_Hull (s1 s2 s3 s4 s1' s2' s3' s4' : ByteArray) (b1 b2 : Bool) (w : World) (hb : (b1 && b2) = false)
    (P1 : Hid (∀ w, Calls Tryz.prog 25 #[.agg #[.string s1, .string s2, .string s3, .string s4]] w fun e w' => e = .returned (.bool b1) ∧ Grown w w'))
    (P2 : Hid (∀ w, Calls Tryz.prog 25 #[.agg #[.string s1', .string s2', .string s3', .string s4']] w fun e w' => e = .returned (.bool b2) ∧ Grown w w')) :
    Calls Tryz.prog 33 #[.agg #[.string s1, .string s2, .string s3, .string s4], .agg #[.string s1', .string s2', .string s3', .string s4']] w fun e w' => e = .returned (.tuple #[.agg #[.string ⟨#[]⟩, .string ⟨#[]⟩, .string ⟨#[]⟩, .string ⟨#[]⟩], (.int .i64 1)]) ∧ Grown w w' := by
  cases b1 <;> cases b2 <;> first | (exact absurd hb (by decide)) | skip
  all_goals
    clear hb
    go_enter Tryz.func33, Tryz.ntmps33
    go_wp2_with (first | (go_at_call 25; ((with_reducible refine (P1.out _).mono ?_); rintro e w' ⟨rfl, os1, d1, rfl⟩)) | (go_at_call 25; ((with_reducible refine (P2.out _).mono ?_); rintro e w' ⟨rfl, os2, d2, rfl⟩)))
    refine bodyPost_ret (v := .tuple #[.agg #[.string ⟨#[]⟩, .string ⟨#[]⟩, .string ⟨#[]⟩, .string ⟨#[]⟩], (.int .i64 1)]) (ret_rng_tmp rfl rfl rfl ?_) rfl ⟨rfl, ?_⟩
    · go_simp
    · exact (by with_reducible repeat (first | exact Grown.refl _ | apply Grown.more | apply Grown.alloc | apply Grown.drewN | apply Grown.drew))
set_option maxRecDepth 100000 in
set_option maxHeartbeats 1000000 in
theorem no_Meet (s1 s2 s3 s4 s1' s2' s3' s4' : ByteArray) (b1 b2 : Bool) (w : World) (hb : (b1 && b2) = false)
    (P1 : Hid (∀ w, Calls Tryz.prog 25 #[.agg #[.string s1, .string s2, .string s3, .string s4]] w fun e w' => e = .returned (.bool b1) ∧ Grown w w'))
    (P2 : Hid (∀ w, Calls Tryz.prog 25 #[.agg #[.string s1', .string s2', .string s3', .string s4']] w fun e w' => e = .returned (.bool b2) ∧ Grown w w')) :
    Calls Tryz.prog 35 #[.agg #[.string s1, .string s2, .string s3, .string s4], .agg #[.string s1', .string s2', .string s3', .string s4']] w fun e w' => e = .returned (.tuple #[.agg #[.string ⟨#[]⟩, .string ⟨#[]⟩, .string ⟨#[]⟩, .string ⟨#[]⟩], (.bool false)]) ∧ Grown w w' := by
  cases b1 <;> cases b2 <;> first | (exact absurd hb (by decide)) | skip
  all_goals
    clear hb
    go_enter Tryz.func35, Tryz.ntmps35
    go_wp2_with (first | (go_at_call 25; ((with_reducible refine (P1.out _).mono ?_); rintro e w' ⟨rfl, os1, d1, rfl⟩)) | (go_at_call 25; ((with_reducible refine (P2.out _).mono ?_); rintro e w' ⟨rfl, os2, d2, rfl⟩)))
    refine bodyPost_ret (v := .tuple #[.agg #[.string ⟨#[]⟩, .string ⟨#[]⟩, .string ⟨#[]⟩, .string ⟨#[]⟩], (.bool false)]) (ret_rng_tmp rfl rfl rfl ?_) rfl ⟨rfl, ?_⟩
    · go_simp
    · exact (by with_reducible repeat (first | exact Grown.refl _ | apply Grown.more | apply Grown.alloc | apply Grown.drewN | apply Grown.drew))

set_option maxRecDepth 100000 in
set_option maxHeartbeats 8000000 in
theorem Meet_x (s1 s2 s3 s4 s1' s2' s3' s4' x1 x2 y1 y2 : ByteArray) (c1 c2 c3 : Int) (w : World)
    (P1 : Hid (∀ w, Calls Tryz.prog 25 #[.agg #[.string s1, .string s2, .string s3, .string s4]] w fun e w' => e = .returned (.bool true) ∧ Grown w w'))
    (P2 : Hid (∀ w, Calls Tryz.prog 25 #[.agg #[.string s1', .string s2', .string s3', .string s4']] w fun e w' => e = .returned (.bool true) ∧ Grown w w'))
    (C1 : Hid (∀ w, Calls Tryz.prog 91 #[.agg #[.string s1', .string s2'], .agg #[.string s1, .string s2]] w fun e w' => e = .returned (.int .i64 c1) ∧ Grown w w'))
    (C2 : Hid (∀ w, Calls Tryz.prog 91 #[.agg #[.string s3', .string s4'], .agg #[.string s3, .string s4]] w fun e w' => e = .returned (.int .i64 c2) ∧ Grown w w'))
    (C3 : Hid (∀ w, Calls Tryz.prog 91 #[.agg #[.string x1, .string x2], .agg #[.string y1, .string y2]] w fun e w' => e = .returned (.int .i64 c3) ∧ Grown w w'))
    (hc1 : Hid (c1 = 0 ∨ c1 = 1 ∨ c1 = -1)) (hc2 : Hid (c2 = 0 ∨ c2 = 1 ∨ c2 = -1))
    (H1 : Hid (Picked c1 1 x1 x2 s1' s2' s1 s2))
    (H2 : Hid (Picked c2 (-1) y1 y2 s3' s4' s3 s4)) :
    Calls Tryz.prog 35 #[.agg #[.string s1, .string s2, .string s3, .string s4], .agg #[.string s1', .string s2', .string s3', .string s4']] w fun e w' => e = .returned (if c3 > 0 then .tuple #[.agg #[.string ⟨#[]⟩, .string ⟨#[]⟩, .string ⟨#[]⟩, .string ⟨#[]⟩], .bool false] else .tuple #[.agg #[.string x1, .string x2, .string y1, .string y2], .bool true]) ∧ Grown w w' := by
  obtain ⟨E, hE⟩ : ∃ E : Value, E = if c3 > 0 then .tuple #[.agg #[.string ⟨#[]⟩, .string ⟨#[]⟩, .string ⟨#[]⟩, .string ⟨#[]⟩], .bool false] else .tuple #[.agg #[.string x1, .string x2, .string y1, .string y2], .bool true] := ⟨_, rfl⟩
  rw [← hE]
  have HE := Lib.hid hE
  clear hE
  go_enter Tryz.func35, Tryz.ntmps35
  go_wp2_with (first | (go_at_call 25; ((with_reducible refine (P1.out _).mono ?_); rintro e w' ⟨rfl, os1, d1, rfl⟩)) | (go_at_call 25; ((with_reducible refine (P2.out _).mono ?_); rintro e w' ⟨rfl, os2, d2, rfl⟩)))
  go_region_held3 (fun w' => w'.cell? ⟨w.heap.size, 0, none⟩ = some (.string s1) ∧ w'.cell? ⟨w.heap.size, 1, none⟩ = some (.string s2) ∧ w'.cell? ⟨w.heap.size, 2, none⟩ = some (.string s3) ∧ w'.cell? ⟨w.heap.size, 3, none⟩ = some (.string s4) ∧ w'.cell? ⟨w.heap.size + 1, 0, none⟩ = some (.string s1') ∧ w'.cell? ⟨w.heap.size + 1, 1, none⟩ = some (.string s2') ∧ w'.cell? ⟨w.heap.size + 1, 2, none⟩ = some (.string s3') ∧ w'.cell? ⟨w.heap.size + 1, 3, none⟩ = some (.string s4')) (go_simp)
    (first | (go_at_call 96; ((with_reducible refine (extremeR _ _ _ _ x1 x2 _ _ 1 _ _ (.inl rfl) (by omega) ?_ ?_ ?_ ?_ ?_ hc1.out H1.out C1).mono ?_); (go_simp); (go_simp); (go_simp); (go_simp); (go_simp); rintro e w' ⟨rfl, os3, d3, rfl⟩)) | (go_at_call 96; ((with_reducible refine (extremeR _ _ _ _ y1 y2 _ _ (-1) _ _ (.inr rfl) (by omega) ?_ ?_ ?_ ?_ ?_ hc2.out H2.out C2).mono ?_); (go_simp); (go_simp); (go_simp); (go_simp); (go_simp); rintro e w' ⟨rfl, os4, d4, rfl⟩)))
  all_goals
    go_wp2_with ((go_at_call 91; ((with_reducible refine (C3.out _).mono ?_); rintro e w' ⟨rfl, os5, d5, rfl⟩)))
    · have h3 : c3 > 0 := by assumption
      refine bodyPost_ret (v := .tuple #[.agg #[.string ⟨#[]⟩, .string ⟨#[]⟩, .string ⟨#[]⟩, .string ⟨#[]⟩], .bool false]) (ret_rng_tmp rfl rfl rfl ?_) rfl ⟨?_, ?_⟩
      · go_simp
      · rw [HE.out, if_pos h3]
      · exact (by with_reducible repeat (first | exact Grown.refl _ | apply Grown.more | apply Grown.alloc | apply Grown.drewN | apply Grown.drew))
    · have h3 : ¬ c3 > 0 := by omega
      refine bodyPost_ret (v := .tuple #[.agg #[.string x1, .string x2, .string y1, .string y2], .bool true]) (ret_rng_tmp rfl rfl rfl ?_) rfl ⟨?_, ?_⟩
      · go_simp
      · rw [HE.out, if_neg h3]
      · exact (by with_reducible repeat (first | exact Grown.refl _ | apply Grown.more | apply Grown.alloc | apply Grown.drewN | apply Grown.drew))


set_option maxRecDepth 100000 in
set_option maxHeartbeats 1000000 in
theorem Contains_x (s1 s2 s3 s4 x y : ByteArray) (b1 b2 b3 b4 : Bool) (c1 c2 : Int) (w : World)
    (P1 : Hid (∀ w, Calls Tryz.prog 25 #[.agg #[.string s1, .string s2, .string s3, .string s4]] w fun e w' => e = .returned (.bool b1) ∧ Grown w w'))
    (V : Hid (∀ w, Calls Tryz.prog 90 #[.agg #[.string x, .string y]] w fun e w' => e = .returned (.bool b2) ∧ Grown w w'))
    (C1 : Hid (∀ w, Calls Tryz.prog 91 #[.agg #[.string s1, .string s2], .agg #[.string x, .string y]] w fun e w' => e = .returned (.int .i64 c1) ∧ Grown w w'))
    (C2 : Hid (∀ w, Calls Tryz.prog 91 #[.agg #[.string x, .string y], .agg #[.string s3, .string s4]] w fun e w' => e = .returned (.int .i64 c2) ∧ Grown w w'))
    (h3 : decide (c1 ≤ 0) = b3) (h4 : decide (c2 ≤ 0) = b4) :
    Calls Tryz.prog 39 #[.agg #[.string s1, .string s2, .string s3, .string s4], .agg #[.string x, .string y]] w fun e w' => e = .returned (.bool (b1 && (b2 && (b3 && b4)))) ∧ Grown w w' := by
  cases b1 <;> cases b2 <;> cases b3 <;> cases b4
  all_goals
    go_enter Tryz.func39, Tryz.ntmps39
    go_wp2_with (first | (go_at_call 25; ((with_reducible refine (P1.out _).mono ?_); rintro e w' ⟨rfl, os1, d1, rfl⟩)) | (go_at_call 90; ((with_reducible refine (V.out _).mono ?_); rintro e w' ⟨rfl, os2, d2, rfl⟩)) | (go_at_call 91; ((with_reducible refine (C1.out _).mono ?_); rintro e w' ⟨rfl, os3, d3, rfl⟩)) | (go_at_call 91; ((with_reducible refine (C2.out _).mono ?_); rintro e w' ⟨rfl, os4, d4, rfl⟩)))
    go_ret
    exact ⟨rfl, (by with_reducible repeat (first | exact Grown.refl _ | apply Grown.more | apply Grown.alloc | apply Grown.drewN | apply Grown.drew))⟩
end Go.Proofs.YtnohidkmjclojaaGreatDoor
