/- Walks: exact's Over, Outer. -/
import Derived.Test.YtnohidkmjclojaaGreatDoorValO
import Derived.Test.YtnohidkmjclojaaGreatDoorValH
namespace Go.Proofs.YtnohidkmjclojaaGreatDoor
open Go.RowKit

set_option maxRecDepth 100000 in
set_option maxHeartbeats 1000000 in
theorem Over_x (s1 s2 s3 s4 s1' s2' s3' s4' : ByteArray) (b1 b2 b3 b4 : Bool) (q0 q1 : Tri) (g0 g1 : Int) (E : ((List UInt8 × List UInt8) × (List UInt8 × List UInt8)) × Int) (w : World)
    (P1 : Hid (∀ w, Calls Tryz.prog 25 #[.agg #[.string s1, .string s2, .string s3, .string s4]] w fun e w' => e = .returned (.bool b1) ∧ Grown w w'))
    (P2 : Hid (∀ w, Calls Tryz.prog 25 #[.agg #[.string s1', .string s2', .string s3', .string s4']] w fun e w' => e = .returned (.bool b2) ∧ Grown w w'))
    (K2 : Hid (b2 = true → ∀ w, Calls Tryz.prog 85 #[.agg #[.string s1', .string s2', .string s3', .string s4']] w fun e w' => e = .returned (.agg (pair q0 q1)) ∧ Grown w w'))
    (G0 : Hid (∀ w, Calls Tryz.prog 86 #[.agg (val q0.1 q0.2.1 q0.2.2)] w fun e w' => e = .returned (.int .i64 g0) ∧ Grown w w'))
    (G1 : Hid (∀ w, Calls Tryz.prog 86 #[.agg (val q1.1 q1.2.1 q1.2.2)] w fun e w' => e = .returned (.int .i64 g1) ∧ Grown w w'))
    (h3 : decide (g0 ≤ 0) = b3) (h4 : decide (0 ≤ g1) = b4)
    (HN : Hid ((b1 && b2) = false → E = ((([], []), ([], [])), 1)))
    (HZ : Hid ((b1 && b2) = true → (b3 && b4) = true → E = ((([], []), ([], [])), 20)))
    (HY : Hid (b1 = true → b2 = true → (b3 && b4) = false → ∀ w, Pow10 w → Calls Tryz.prog 74 #[.agg #[.string s1, .string s2, .string s3, .string s4], .agg #[.string s1', .string s2', .string s3', .string s4'], .func (.func 87) #[] #[]] w fun e w' => e = .returned (endsR E) ∧ Grown w w'))
    (HPOW : Hid (Pow10 w)) :
    Calls Tryz.prog 23 #[.agg #[.string s1, .string s2, .string s3, .string s4], .agg #[.string s1', .string s2', .string s3', .string s4']] w fun e w' => e = .returned (endsR E) ∧ Grown w w' := by
  cases hbb : (b1 && b2)
  · have hE := HN.out hbb
    subst hE
    clear HY HN HZ h3 h4
    cases b1 <;> cases b2 <;> first | (exact absurd hbb (by decide)) | skip
    all_goals
      clear hbb
      go_enter Tryz.func23, Tryz.ntmps23
      go_wp2_with (first | (go_at_call 25; ((with_reducible refine (P1.out _).mono ?_); rintro e w' ⟨rfl, os1, d1, rfl⟩)) | (go_at_call 25; ((with_reducible refine (P2.out _).mono ?_); rintro e w' ⟨rfl, os2, d2, rfl⟩)))
      refine bodyPost_ret (v := .tuple #[.agg #[.string ⟨#[]⟩, .string ⟨#[]⟩, .string ⟨#[]⟩, .string ⟨#[]⟩], .int .i64 1]) (ret_rng_tmp rfl rfl rfl ?_) rfl ⟨?_, ?_⟩
      · go_simp
      · rfl
      · exact (by with_reducible repeat (first | exact Grown.refl _ | apply Grown.more | apply Grown.alloc | apply Grown.drewN | apply Grown.drew))
  obtain ⟨rfl, rfl⟩ : b1 = true ∧ b2 = true := by simpa using hbb
  have K3 := Lib.hid (K2.out rfl)
  clear K2
  cases hcc : (b3 && b4)
  · obtain ⟨⟨⟨⟨t1, t2⟩, ⟨t3, t4⟩⟩, t5⟩, hE⟩ : ∃ x, x = E := ⟨_, rfl⟩
    have hy := HY.out rfl rfl hcc
    rw [← hE] at hy ⊢
    unfold endsR rngV at hy ⊢
    dsimp only at hy ⊢
    obtain ⟨z1, hz1⟩ : ∃ s : ByteArray, s = ⟨t1.toArray⟩ := ⟨_, rfl⟩
    obtain ⟨z2, hz2⟩ : ∃ s : ByteArray, s = ⟨t2.toArray⟩ := ⟨_, rfl⟩
    obtain ⟨z3, hz3⟩ : ∃ s : ByteArray, s = ⟨t3.toArray⟩ := ⟨_, rfl⟩
    obtain ⟨z4, hz4⟩ : ∃ s : ByteArray, s = ⟨t4.toArray⟩ := ⟨_, rfl⟩
    rw [← hz1, ← hz2, ← hz3, ← hz4] at hy ⊢
    have HY2 := Lib.hid hy
    clear hy HY HN HZ hE hz1 hz2 hz3 hz4 hbb
    cases b3 <;> cases b4 <;> first | (exact absurd hcc (by decide)) | skip
    all_goals
      clear hcc
      go_enter Tryz.func23, Tryz.ntmps23
      go_wp2_with (first | (go_at_call 25; ((with_reducible refine (P1.out _).mono ?_); rintro e w' ⟨rfl, os1, d1, rfl⟩)) | (go_at_call 25; ((with_reducible refine (P2.out _).mono ?_); rintro e w' ⟨rfl, os2, d2, rfl⟩)) | (go_at_call 85; ((with_reducible refine (K3.out _).mono ?_); rintro e w' ⟨rfl, os3, d3, rfl⟩)) | (go_at_call 86; ((with_reducible refine (G0.out _).mono ?_); rintro e w' ⟨rfl, os4, d4, rfl⟩)) | (go_at_call 86; ((with_reducible refine (G1.out _).mono ?_); rintro e w' ⟨rfl, os5, d5, rfl⟩)) | (go_at_call 74; ((with_reducible refine (HY2.out _ ?_).mono ?_); (exact HPOW.out.grown (by with_reducible repeat (first | exact Grown.refl _ | apply Grown.more | apply Grown.alloc | apply Grown.drewN | apply Grown.drew))); rintro e w' ⟨rfl, os6, d6, rfl⟩)))
      refine bodyPost_ret (v := .tuple #[.agg #[.string z1, .string z2, .string z3, .string z4], .int .i64 t5]) (ret_rng_tmp rfl rfl rfl ?_) rfl ⟨rfl, ?_⟩
      · go_simp
      · exact (by with_reducible repeat (first | exact Grown.refl _ | apply Grown.more | apply Grown.alloc | apply Grown.drewN | apply Grown.drew))
  · have hE := HZ.out hbb hcc
    subst hE
    obtain ⟨rfl, rfl⟩ : b3 = true ∧ b4 = true := by simpa using hcc
    clear HY HN HZ hbb hcc
    go_enter Tryz.func23, Tryz.ntmps23
    go_wp2_with (first | (go_at_call 25; ((with_reducible refine (P1.out _).mono ?_); rintro e w' ⟨rfl, os1, d1, rfl⟩)) | (go_at_call 25; ((with_reducible refine (P2.out _).mono ?_); rintro e w' ⟨rfl, os2, d2, rfl⟩)) | (go_at_call 85; ((with_reducible refine (K3.out _).mono ?_); rintro e w' ⟨rfl, os3, d3, rfl⟩)) | (go_at_call 86; ((with_reducible refine (G0.out _).mono ?_); rintro e w' ⟨rfl, os4, d4, rfl⟩)) | (go_at_call 86; ((with_reducible refine (G1.out _).mono ?_); rintro e w' ⟨rfl, os5, d5, rfl⟩)))
    refine bodyPost_ret (v := .tuple #[.agg #[.string ⟨#[]⟩, .string ⟨#[]⟩, .string ⟨#[]⟩, .string ⟨#[]⟩], .int .i64 20]) (ret_rng_tmp rfl rfl rfl ?_) rfl ⟨?_, ?_⟩
    · go_simp
    · rfl
    · exact (by with_reducible repeat (first | exact Grown.refl _ | apply Grown.more | apply Grown.alloc | apply Grown.drewN | apply Grown.drew))

set_option maxRecDepth 100000 in
set_option maxHeartbeats 1000000 in
theorem Outer_x (s1 s2 s3 s4 x y : ByteArray) (b1 b2 b3 : Bool) (m : Bool) (u v : Nat) (g : Int) (z1 z2 z3 z4 : ByteArray) (t5 t6 : Int) (E : Value) (w : World)
    (P1 : Hid (∀ w, Calls Tryz.prog 25 #[.agg #[.string s1, .string s2, .string s3, .string s4]] w fun e w' => e = .returned (.bool b1) ∧ Grown w w'))
    (K : Hid (∀ w, Calls Tryz.prog 97 #[.agg #[.string x, .string y]] w fun e w' => e = .returned (.tuple #[.agg (val m u v), .bool b2]) ∧ Grown w w'))
    (G : Hid (∀ w, Calls Tryz.prog 86 #[.agg (val m u v)] w fun e w' => e = .returned (.int .i64 g) ∧ Grown w w'))
    (h3 : decide (g ≤ 0) = b3)
    (R1 : Hid (b1 = true → b2 = true → b3 = false → ∀ w, Pow10 w → Calls Tryz.prog 98 #[.agg #[.string s1, .string s2], .agg #[.string x, .string y], .int .i64 1] w fun e w' => e = .returned (.tuple #[.agg #[.string z1, .string z2], .int .i64 t5]) ∧ Grown w w'))
    (R2 : Hid (b1 = true → b2 = true → b3 = false → ∀ w, Pow10 w → Calls Tryz.prog 98 #[.agg #[.string s3, .string s4], .agg #[.string x, .string y], .int .i64 2] w fun e w' => e = .returned (.tuple #[.agg #[.string z3, .string z4], .int .i64 t6]) ∧ Grown w w'))
    (HPOW : Hid (Pow10 w))
    (HE : Hid (E = if (b1 && b2 && !b3) = false then .tuple #[.agg #[.string ⟨#[]⟩, .string ⟨#[]⟩, .string ⟨#[]⟩, .string ⟨#[]⟩], .int .i64 1] else if t5 ≠ 0 ∨ t6 ≠ 0 then .tuple #[.agg #[.string ⟨#[]⟩, .string ⟨#[]⟩, .string ⟨#[]⟩, .string ⟨#[]⟩], .int .i64 3] else .tuple #[.agg #[.string z1, .string z2, .string z3, .string z4], .int .i64 0])) :
    Calls Tryz.prog 37 #[.agg #[.string s1, .string s2, .string s3, .string s4], .agg #[.string x, .string y]] w fun e w' => e = .returned E ∧ Grown w w' := by
  cases hbb : (b1 && b2 && !b3)
  · have hE := HE.out
    rw [hbb, if_pos rfl] at hE
    subst hE
    clear HE R1 R2
    cases b1 <;> cases b2 <;> cases b3 <;> first | (exact absurd hbb (by decide)) | skip
    all_goals
      clear hbb
      go_enter Tryz.func37, Tryz.ntmps37
      go_wp2_with (first | (go_at_call 25; ((with_reducible refine (P1.out _).mono ?_); rintro e w' ⟨rfl, os1, d1, rfl⟩)) | (go_at_call 97; ((with_reducible refine (K.out _).mono ?_); rintro e w' ⟨rfl, os2, d2, rfl⟩)) | (go_at_call 86; ((with_reducible refine (G.out _).mono ?_); rintro e w' ⟨rfl, os3, d3, rfl⟩)))
      refine bodyPost_ret (v := .tuple #[.agg #[.string ⟨#[]⟩, .string ⟨#[]⟩, .string ⟨#[]⟩, .string ⟨#[]⟩], .int .i64 1]) (ret_rng_tmp rfl rfl rfl ?_) rfl ⟨?_, ?_⟩
      · go_simp
      · rfl
      · exact (by with_reducible repeat (first | exact Grown.refl _ | apply Grown.more | apply Grown.alloc | apply Grown.drewN | apply Grown.drew))
  obtain ⟨⟨rfl, rfl⟩, rfl⟩ : (b1 = true ∧ b2 = true) ∧ b3 = false := by simpa using hbb
  have hE := HE.out
  rw [hbb, if_neg (by decide)] at hE
  have R3 := Lib.hid (R1.out rfl rfl rfl)
  have R4 := Lib.hid (R2.out rfl rfl rfl)
  clear R1 R2 HE hbb
  by_cases h5 : t5 = 0
  · subst h5
    by_cases h6 : t6 = 0
    · subst h6
      rw [if_neg (by simp)] at hE
      subst hE
      go_enter Tryz.func37, Tryz.ntmps37
      go_wp2_with (first | (go_at_call 25; ((with_reducible refine (P1.out _).mono ?_); rintro e w' ⟨rfl, os1, d1, rfl⟩)) | (go_at_call 97; ((with_reducible refine (K.out _).mono ?_); rintro e w' ⟨rfl, os2, d2, rfl⟩)) | (go_at_call 86; ((with_reducible refine (G.out _).mono ?_); rintro e w' ⟨rfl, os3, d3, rfl⟩)) | (go_at_call 98; ((with_reducible refine (R3.out _ ?_).mono ?_); (exact HPOW.out.grown (by with_reducible repeat (first | exact Grown.refl _ | apply Grown.more | apply Grown.alloc | apply Grown.drewN | apply Grown.drew))); rintro e w' ⟨rfl, os4, d4, rfl⟩)) | (go_at_call 98; ((with_reducible refine (R4.out _ ?_).mono ?_); (exact HPOW.out.grown (by with_reducible repeat (first | exact Grown.refl _ | apply Grown.more | apply Grown.alloc | apply Grown.drewN | apply Grown.drew))); rintro e w' ⟨rfl, os5, d5, rfl⟩)))
      refine bodyPost_ret (v := .tuple #[.agg #[.string z1, .string z2, .string z3, .string z4], .int .i64 0]) (ret_rng_tmp rfl rfl rfl ?_) rfl ⟨rfl, ?_⟩
      · go_simp
      · exact (by with_reducible repeat (first | exact Grown.refl _ | apply Grown.more | apply Grown.alloc | apply Grown.drewN | apply Grown.drew))
    · rw [if_pos (Or.inr h6)] at hE
      subst hE
      have h6' : (t6 == 0) = false := by rw [beq_eq_false_iff_ne]; exact h6
      have h6'' : (t6 != 0) = true := by rw [bne_iff_ne]; exact h6
      go_enter Tryz.func37, Tryz.ntmps37
      go_wp2_with (first | (go_at_call 25; ((with_reducible refine (P1.out _).mono ?_); rintro e w' ⟨rfl, os1, d1, rfl⟩)) | (go_at_call 97; ((with_reducible refine (K.out _).mono ?_); rintro e w' ⟨rfl, os2, d2, rfl⟩)) | (go_at_call 86; ((with_reducible refine (G.out _).mono ?_); rintro e w' ⟨rfl, os3, d3, rfl⟩)) | (go_at_call 98; ((with_reducible refine (R3.out _ ?_).mono ?_); (exact HPOW.out.grown (by with_reducible repeat (first | exact Grown.refl _ | apply Grown.more | apply Grown.alloc | apply Grown.drewN | apply Grown.drew))); rintro e w' ⟨rfl, os4, d4, rfl⟩)) | (go_at_call 98; ((with_reducible refine (R4.out _ ?_).mono ?_); (exact HPOW.out.grown (by with_reducible repeat (first | exact Grown.refl _ | apply Grown.more | apply Grown.alloc | apply Grown.drewN | apply Grown.drew))); rintro e w' ⟨rfl, os5, d5, rfl⟩)))
      refine bodyPost_ret (v := .tuple #[.agg #[.string ⟨#[]⟩, .string ⟨#[]⟩, .string ⟨#[]⟩, .string ⟨#[]⟩], .int .i64 3]) (ret_rng_tmp rfl rfl rfl ?_) rfl ⟨?_, ?_⟩
      · go_simp
      · rfl
      · exact (by with_reducible repeat (first | exact Grown.refl _ | apply Grown.more | apply Grown.alloc | apply Grown.drewN | apply Grown.drew))
  · rw [if_pos (Or.inl h5)] at hE
    subst hE
    have h5' : (t5 == 0) = false := by rw [beq_eq_false_iff_ne]; exact h5
    have h5'' : (t5 != 0) = true := by rw [bne_iff_ne]; exact h5
    go_enter Tryz.func37, Tryz.ntmps37
    go_wp2_with (first | (go_at_call 25; ((with_reducible refine (P1.out _).mono ?_); rintro e w' ⟨rfl, os1, d1, rfl⟩)) | (go_at_call 97; ((with_reducible refine (K.out _).mono ?_); rintro e w' ⟨rfl, os2, d2, rfl⟩)) | (go_at_call 86; ((with_reducible refine (G.out _).mono ?_); rintro e w' ⟨rfl, os3, d3, rfl⟩)) | (go_at_call 98; ((with_reducible refine (R3.out _ ?_).mono ?_); (exact HPOW.out.grown (by with_reducible repeat (first | exact Grown.refl _ | apply Grown.more | apply Grown.alloc | apply Grown.drewN | apply Grown.drew))); rintro e w' ⟨rfl, os4, d4, rfl⟩)) | (go_at_call 98; ((with_reducible refine (R4.out _ ?_).mono ?_); (exact HPOW.out.grown (by with_reducible repeat (first | exact Grown.refl _ | apply Grown.more | apply Grown.alloc | apply Grown.drewN | apply Grown.drew))); rintro e w' ⟨rfl, os5, d5, rfl⟩)))
    refine bodyPost_ret (v := .tuple #[.agg #[.string ⟨#[]⟩, .string ⟨#[]⟩, .string ⟨#[]⟩, .string ⟨#[]⟩], .int .i64 3]) (ret_rng_tmp rfl rfl rfl ?_) rfl ⟨?_, ?_⟩
    · go_simp
    · rfl
    · exact (by with_reducible repeat (first | exact Grown.refl _ | apply Grown.more | apply Grown.alloc | apply Grown.drewN | apply Grown.drew))
end Go.Proofs.YtnohidkmjclojaaGreatDoor
