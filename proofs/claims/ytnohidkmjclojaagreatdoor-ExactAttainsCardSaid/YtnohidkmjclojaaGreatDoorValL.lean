/- Walks: exact's ends. -/
import Derived.Test.YtnohidkmjclojaaGreatDoorKitL
import Derived.Test.YtnohidkmjclojaaGreatDoorValK
import Derived.Test.YtnohidkmjclojaaGreatDoorQvA
namespace Go.Proofs.YtnohidkmjclojaaGreatDoor
open Go.RowKit

/-- a value told -/
def toldT (t : Tri) : (List UInt8 × List UInt8) × Int := toldS t.1 t.2.1 t.2.2
/-- what ends returns -/
def endsS (t : Tri) (l : List Tri) : ((List UInt8 × List UInt8) × (List UInt8 × List UInt8)) × Int :=
  if (toldT (bestOf ordT (-1) t l)).2 ≠ 0 ∨ (toldT (bestOf ordT 1 t l)).2 ≠ 0 then ((([], []), ([], [])), 3) else (((toldT (bestOf ordT (-1) t l)).1, (toldT (bestOf ordT 1 t l)).1), 0)
/-- a range with an error, as Go has it -/
def endsR (r : ((List UInt8 × List UInt8) × (List UInt8 × List UInt8)) × Int) : Value := .tuple #[rngV r.1.1.1 r.1.1.2 r.1.2.1 r.1.2.2, .int .i64 r.2]

theorem ret_rng_tmp {fn : Func} {p u : Tmp} (h : fn.results = #[.cell p 25, .tmp u]) {tmps : Array Value} {w : World} {a : Addr} {cs : Array Value} {v : Value} (hp : tmps.getD p undef = .pointer (some a)) (hq : tmps.getD u undef = v) (hr : rowAt w a 4 = some cs) :
    (results fn tmps).run Tryz.prog w = .ok (.tuple #[.agg cs, v]) w :=
  results_row_tmp (d := (Tryz.prog.underlying 25).getD (.struct #[])) h (by kernel_rfl) (by kernel_rfl) (by kernel_rfl) hp hq hr

set_option maxRecDepth 100000 in
set_option maxHeartbeats 1000000 in
theorem ends_plus (s1 s2 s3 s4 s1' s2' s3' s4' : ByteArray) (p0 p1 q0 q1 : Tri) (T : Nat → Tri) (D : Nat → Nat → Tri) (w : World)
    (K1 : Hid (∀ w, Calls Tryz.prog 85 #[.agg #[.string s1, .string s2, .string s3, .string s4]] w fun e w' => e = .returned (.agg (pair p0 p1)) ∧ Grown w w'))
    (K2 : Hid (∀ w, Calls Tryz.prog 85 #[.agg #[.string s1', .string s2', .string s3', .string s4']] w fun e w' => e = .returned (.agg (pair q0 q1)) ∧ Grown w w'))
    (HDO : Hid (∀ i k, i < 2 → k < 2 → ∀ w, Calls Tryz.prog 75 #[.agg (val (sel p0 p1 i).1 (sel p0 p1 i).2.1 (sel p0 p1 i).2.2), .agg (val (sel q0 q1 k).1 (sel q0 q1 k).2.1 (sel q0 q1 k).2.2)] w fun e w' => e = .returned (.agg (val (D i k).1 (D i k).2.1 (D i k).2.2)) ∧ Grown w w'))
    (HLOW : Hid (∀ i k, i < 2 → k < 2 → ∀ w, Calls Tryz.prog 129 #[.agg (val (D i k).1 (D i k).2.1 (D i k).2.2)] w fun e w' => e = .returned (.agg (val (T (2 * i + k)).1 (T (2 * i + k)).2.1 (T (2 * i + k)).2.2)) ∧ Grown w w'))
    (HORD : Hid (∀ x y, x ∈ [T 0, T 1, T 2, T 3] → y ∈ [T 0, T 1, T 2, T 3] → ∀ w, Calls Tryz.prog 132 #[valT x, valT y] w fun e w' => e = .returned (.int .i64 (ordT x y)) ∧ Grown w w'))
    (HTOLD : Hid (∀ x, x ∈ [T 0, T 1, T 2, T 3] → ∀ w, Pow10 w → Calls Tryz.prog 130 #[valT x] w fun e w' => e = .returned (opR (toldT x)) ∧ Grown w w'))
    (HPOW : Hid (Pow10 w)) (E : ((List UInt8 × List UInt8) × (List UInt8 × List UInt8)) × Int) (HE : Hid (E = endsS (T 0) [T 1, T 2, T 3])) :
    Calls Tryz.prog 74 #[.agg #[.string s1, .string s2, .string s3, .string s4], .agg #[.string s1', .string s2', .string s3', .string s4'], .func (.func 75) #[] #[]] w fun e w' => e = .returned (endsR E) ∧ Grown w w' := by
  obtain ⟨iv, hiv, hi67, hi280, hi0⟩ := infoVal
  have HI := Lib.hid hiv
  have HI67 := Lib.hid hi67
  have HI280 := Lib.hid hi280
  have HI0 := Lib.hid hi0
  clear hiv hi67 hi280 hi0
  obtain ⟨bx, hbx⟩ : ∃ b : Nat, b = w.heap.size + 1 := ⟨_, rfl⟩
  have HBX := Lib.hid hbx
  clear hbx
  go_enter Tryz.func74, Tryz.ntmps74
  go_wp2_with ((go_at_call 85; ((with_reducible refine (K1.out _).mono ?_); rintro e w' ⟨rfl, os1, d1, rfl⟩)))
  go_loopw [8, 19] (fun v i wr => ∃ (k : Nat), i = .int .i64 k ∧ k ≤ 2 ∧ wr.ownsRow (w.heap.size + 3) 112 67 v (2 * k) (rowsV ((List.range (2 * k)).map T)) ∧ Grown (((w.alloc (Obj.cells #[Value.string s1, Value.string s2, Value.string s3, Value.string s4] 25)).alloc (Obj.cells #[Value.string s1', Value.string s2', Value.string s3', Value.string s4'] 25)).alloc (Obj.cells #[Value.string { data := #[] }, Value.string { data := #[] }, Value.string { data := #[] }, Value.string { data := #[] }] 25)) wr) (fun _ i _ => 2 - (intOf i).toNat)
  case atStart => exact ⟨0, rfl, by omega, ⟨rfl, .inl ⟨rfl, rfl⟩⟩, (by with_reducible repeat (first | exact Grown.refl _ | apply Grown.more | apply Grown.alloc | apply Grown.drewN | apply Grown.drew))⟩
  case round =>
    obtain ⟨k, rfl, hk, hown, hg⟩ := hrel
    obtain ⟨wo, rfl⟩ : ∃ wo : World, wo = wr := ⟨_, rfl⟩
    have HOWN := Lib.hid hown
    have HG := Lib.hid hg
    by_cases hk2 : k < 2
    · have hix : ∀ w, _ := fun w => run_idxPair p0 p1 k w hk2
      have c1 : wo.cell? ⟨w.heap.size + 1, 0, none⟩ = some (.string s1') := cell_of_grown hg (by simp) (by go_simp)
      have c2 : wo.cell? ⟨w.heap.size + 1, 1, none⟩ = some (.string s2') := cell_of_grown hg (by simp) (by go_simp)
      have c3 : wo.cell? ⟨w.heap.size + 1, 2, none⟩ = some (.string s3') := cell_of_grown hg (by simp) (by go_simp)
      have c4 : wo.cell? ⟨w.heap.size + 1, 3, none⟩ = some (.string s4') := cell_of_grown hg (by simp) (by go_simp)
      have hin : InW (w.heap.size + 1) wo := inW_grown hg (by unfold InW; simp)
      clear hown hg
      go_wp2_with ((go_at_call 85; ((with_reducible refine (K2.out _).mono ?_); rintro e w' ⟨rfl, os2, d2, rfl⟩)))
      go_loopw [8, 24] (fun v i wi => ∃ (j : Nat), i = .int .i64 j ∧ j ≤ 2 ∧ wi.ownsRow (w.heap.size + 3) 112 67 v (2 * k + j) (rowsV ((List.range (2 * k + j)).map T)) ∧ Grown (((w.alloc (Obj.cells #[Value.string s1, Value.string s2, Value.string s3, Value.string s4] 25)).alloc (Obj.cells #[Value.string s1', Value.string s2', Value.string s3', Value.string s4'] 25)).alloc (Obj.cells #[Value.string { data := #[] }, Value.string { data := #[] }, Value.string { data := #[] }, Value.string { data := #[] }] 25)) wi ∧ InW wo.heap.size wi ∧ rowAt wi ⟨wo.heap.size, 0, none⟩ 67 = some (val (sel p0 p1 k).1 (sel p0 p1 k).2.1 (sel p0 p1 k).2.2) ∧ v.ownBlock ≠ some wo.heap.size) (fun _ i _ => 2 - (intOf i).toNat)
      case atStart => exact ⟨0, rfl, by omega, own_grown HOWN.out (by with_reducible repeat (first | exact Grown.refl _ | apply Grown.more | apply Grown.alloc | apply Grown.drewN | apply Grown.drew)), HG.out.trans (by with_reducible repeat (first | exact Grown.refl _ | apply Grown.more | apply Grown.alloc | apply Grown.drewN | apply Grown.drew)), by go_simp, by go_simp, own_ne HOWN.out (Nat.le_refl _)⟩
      case round =>
        obtain ⟨j, rfl, hj, hown, hg, hinb, hrow, hne⟩ := hrel
        have HOWN := Lib.hid hown
        have HG := Lib.hid hg
        have HNE := Lib.hid hne
        have HINB := Lib.hid hinb
        have HROW := Lib.hid hrow
        have hsz : w.heap.size + 3 ≤ wr.heap.size := by have := grown_size hg; simp at this; omega
        clear hown hg hne
        by_cases hj2 : j < 2
        · have hiy : ∀ w, _ := fun w => run_idxPair q0 q1 j w hj2
          go_wp2_with (first | (at_builtin; refine wpList_append_own_at _ rfl _ _ 151 rfl (w.heap.size + 3) 112 iv (.agg (val false 0 0)) 67 280 slVal HI.out HI0.out HI67.out HI280.out (val_size _ _ _) (by decide) _ (2 * k + j) (rowsV ((List.range (2 * k + j)).map T)) rfl ?c1 _ 1 1 (val (T (2 * k + j)).1 (T (2 * k + j)).2.1 (T (2 * k + j)).2.2).toList rfl (news_len _ _ _) ?c2 (news_one _ _ _) (by unfold maxLen; omega) (by omega) ?c3 ?_; (case c1 => exact own_grown HOWN.out (by with_reducible repeat (first | exact Grown.refl _ | apply Grown.more | apply Grown.alloc | apply Grown.drewN | apply Grown.drew))); (case c2 => exact news_cell _ _ _ _ (by go_simp)); (case c3 => (go_simp; omega)); intro v' w3 hown3 hgrow3 hnil3 hblk3) | (go_at_call 75; ((with_reducible refine (HDO.out k j hk2 hj2 _).mono ?_); rintro e w' ⟨rfl, os3, d3, rfl⟩)) | (go_at_call 129; ((with_reducible refine (HLOW.out k j hk2 hj2 _).mono ?_); rintro e w' ⟨rfl, os4, d4, rfl⟩)))
          go_roundw
          case measure => show 2 - (j + 1) < 2 - j; omega
          case rel =>
            have hw : ∀ x : World, Grown wr x → Grown (((w.alloc (Obj.cells #[Value.string s1, Value.string s2, Value.string s3, Value.string s4] 25)).alloc (Obj.cells #[Value.string s1', Value.string s2', Value.string s3', Value.string s4'] 25)).alloc (Obj.cells #[Value.string { data := #[] }, Value.string { data := #[] }, Value.string { data := #[] }, Value.string { data := #[] }] 25)) x := fun x hx => HG.out.trans hx
            refine ⟨j + 1, rfl, by omega, ?_, ?_, ?_, ?_, ?_⟩
            · rw [show 2 * k + (j + 1) = 2 * k + j + 1 from by omega, List.range_succ, List.map_append, List.map_singleton, ← rowsV_snoc]
              exact hown3
            · exact Grown.grownBy (hw _ (by with_reducible repeat (first | exact Grown.refl _ | apply Grown.more | apply Grown.alloc | apply Grown.drewN | apply Grown.drew))) hgrow3 (fun b hb => by have := own_block_ge HOWN.out b hb; simp; omega)
            · exact inW_grownBy hgrow3 (by go_simp)
            · exact row_grownBy hgrow3 (by go_simp) HNE.out (by go_simp)
            · rcases hblk3 with h | h
              · rw [h]; exact HNE.out
              · rw [h]
                intro e
                refine absurd HINB.out.lt (Nat.not_lt.2 ?_)
                rw [← Option.some.inj e]
                exact grown_size (by with_reducible repeat (first | exact Grown.refl _ | apply Grown.more | apply Grown.alloc | apply Grown.drewN | apply Grown.drew))
        · go_wp2
          go_roundw
          case measure => show 2 - (k + 1) < 2 - k; omega
          case rel =>
            have hj' : j = 2 := by omega
            subst hj'
            exact ⟨k + 1, rfl, by omega, HOWN.out, HG.out⟩
    · have hk' : k = 2 := by omega
      subst hk'
      clear hk2 HOWN HG
      obtain ⟨g, cap, hv, hcap, hing, hrows⟩ := own_row (l := [T 0, T 1, T 2, T 3]) hown (by simp)
      subst hv
      obtain ⟨os, dd, rfl⟩ := hg
      have hx1 : ∀ w', Grown (grow (((w.alloc (Obj.cells #[Value.string s1, Value.string s2, Value.string s3, Value.string s4] 25)).alloc (Obj.cells #[Value.string s1', Value.string s2', Value.string s3', Value.string s4'] 25)).alloc (Obj.cells #[Value.string { data := #[] }, Value.string { data := #[] }, Value.string { data := #[] }, Value.string { data := #[] }] 25)) os dd) w' → Calls Tryz.prog 133 #[.func (.func 132) #[] #[], .int .i64 (-1), .slice (some ⟨g, 0, none⟩) 4 cap] w' fun e w'' => e = .returned (valT (bestOf ordT (-1) (T 0) [T 1, T 2, T 3])) ∧ Grown w' w'' :=
        fun w' hw' => extremeV_any [T 1, T 2, T 3] (T 0) g cap (-1) w' (.inr rfl) (fun i x hx => row_grown hw' hing (hrows i x hx)) (by simp) (by simp at hcap; omega) (inW_grown hw' hing) HORD.out
      have hx2 : ∀ w', Grown (grow (((w.alloc (Obj.cells #[Value.string s1, Value.string s2, Value.string s3, Value.string s4] 25)).alloc (Obj.cells #[Value.string s1', Value.string s2', Value.string s3', Value.string s4'] 25)).alloc (Obj.cells #[Value.string { data := #[] }, Value.string { data := #[] }, Value.string { data := #[] }, Value.string { data := #[] }] 25)) os dd) w' → Calls Tryz.prog 133 #[.func (.func 132) #[] #[], .int .i64 1, .slice (some ⟨g, 0, none⟩) 4 cap] w' fun e w'' => e = .returned (valT (bestOf ordT 1 (T 0) [T 1, T 2, T 3])) ∧ Grown w' w'' :=
        fun w' hw' => extremeV_any [T 1, T 2, T 3] (T 0) g cap 1 w' (.inl rfl) (fun i x hx => row_grown hw' hing (hrows i x hx)) (by simp) (by simp at hcap; omega) (inW_grown hw' hing) HORD.out
      have ht1 := HTOLD.out _ (best_mem ordT (-1) [T 1, T 2, T 3] (T 0))
      have ht2 := HTOLD.out _ (best_mem ordT 1 [T 1, T 2, T 3] (T 0))
      have hend : endsS (T 0) [T 1, T 2, T 3] = if (toldT (bestOf ordT (-1) (T 0) [T 1, T 2, T 3])).2 ≠ 0 ∨ (toldT (bestOf ordT 1 (T 0) [T 1, T 2, T 3])).2 ≠ 0 then ((([], []), ([], [])), 3) else (((toldT (bestOf ordT (-1) (T 0) [T 1, T 2, T 3])).1, (toldT (bestOf ordT 1 (T 0) [T 1, T 2, T 3])).1), 0) := rfl
      obtain ⟨b1, hb1⟩ : ∃ b, b = bestOf ordT (-1) (T 0) [T 1, T 2, T 3] := ⟨_, rfl⟩
      obtain ⟨b2, hb2⟩ : ∃ b, b = bestOf ordT 1 (T 0) [T 1, T 2, T 3] := ⟨_, rfl⟩
      rw [← hb1] at hx1 ht1 hend
      rw [← hb2] at hx2 ht2 hend
      rw [← HE.out] at hend
      obtain ⟨⟨⟨t1, t2⟩, t3⟩, hr1⟩ : ∃ r, r = toldT b1 := ⟨_, rfl⟩
      obtain ⟨⟨⟨u1, u2⟩, u3⟩, hr2⟩ : ∃ r, r = toldT b2 := ⟨_, rfl⟩
      rw [← hr1] at ht1 hend
      rw [← hr2] at ht2 hend
      unfold valT opR ratV at *
      dsimp only at ht1 ht2 hend
      obtain ⟨z1, hz1⟩ : ∃ s : ByteArray, s = ⟨t1.toArray⟩ := ⟨_, rfl⟩
      obtain ⟨z2, hz2⟩ : ∃ s : ByteArray, s = ⟨t2.toArray⟩ := ⟨_, rfl⟩
      obtain ⟨y1, hy1⟩ : ∃ s : ByteArray, s = ⟨u1.toArray⟩ := ⟨_, rfl⟩
      obtain ⟨y2, hy2⟩ : ∃ s : ByteArray, s = ⟨u2.toArray⟩ := ⟨_, rfl⟩
      rw [← hz1, ← hz2] at ht1
      rw [← hy1, ← hy2] at ht2
      have HX1 := Lib.hid hx1
      have HX2 := Lib.hid hx2
      have HT1 := Lib.hid ht1
      have HT2 := Lib.hid ht2
      have HEND := Lib.hid hend
      have HZ1 := Lib.hid hz1
      have HZ2 := Lib.hid hz2
      have HY1 := Lib.hid hy1
      have HY2 := Lib.hid hy2
      clear hrows hown hing hx1 hx2 ht1 ht2 hend hz1 hz2 hy1 hy2 hb1 hb2 hr1 hr2 hcap
      by_cases h3 : t3 = 0
      · subst h3
        by_cases h4 : u3 = 0
        · subst h4
          go_wp2_with (first | (go_at_call 133; ((with_reducible refine (HX1.out _ ?_).mono ?_); (exact (by with_reducible repeat (first | exact Grown.refl _ | exact Grown.app _ _ _ _ _ | apply Grown.alloc | apply Grown.drewN | apply Grown.drew | apply Grown.more))); rintro e w' ⟨rfl, os1, d1, rfl⟩)) | (go_at_call 133; ((with_reducible refine (HX2.out _ ?_).mono ?_); (exact (by with_reducible repeat (first | exact Grown.refl _ | exact Grown.app _ _ _ _ _ | apply Grown.alloc | apply Grown.drewN | apply Grown.drew | apply Grown.more))); rintro e w' ⟨rfl, os2, d2, rfl⟩)) | (go_at_call 130; ((with_reducible refine (HT1.out _ ?_).mono ?_); (exact HPOW.out.grown (by with_reducible repeat (first | exact Grown.refl _ | apply Grown.more | apply Grown.alloc | apply Grown.drewN | apply Grown.drew))); rintro e w' ⟨rfl, os3, d3, rfl⟩)) | (go_at_call 130; ((with_reducible refine (HT2.out _ ?_).mono ?_); (exact HPOW.out.grown (by with_reducible repeat (first | exact Grown.refl _ | apply Grown.more | apply Grown.alloc | apply Grown.drewN | apply Grown.drew))); rintro e w' ⟨rfl, os4, d4, rfl⟩)))
          refine bodyPost_ret (v := .tuple #[.agg #[.string z1, .string z2, .string y1, .string y2], .int .i64 0]) (ret_rng_tmp rfl rfl rfl ?_) rfl ⟨?_, ?_⟩
          · go_simp
          · rw [HEND.out, if_neg (by simp), HZ1.out, HZ2.out, HY1.out, HY2.out]; rfl
          · exact (by with_reducible repeat (first | exact Grown.refl _ | apply Grown.more | apply Grown.alloc | apply Grown.drewN | apply Grown.drew))
        · have h4' : (u3 == 0) = false := by rw [beq_eq_false_iff_ne]; exact h4
          have h4'' : (u3 != 0) = true := by rw [bne_iff_ne]; exact h4
          go_wp2_with (first | (go_at_call 133; ((with_reducible refine (HX1.out _ ?_).mono ?_); (exact (by with_reducible repeat (first | exact Grown.refl _ | exact Grown.app _ _ _ _ _ | apply Grown.alloc | apply Grown.drewN | apply Grown.drew | apply Grown.more))); rintro e w' ⟨rfl, os1, d1, rfl⟩)) | (go_at_call 133; ((with_reducible refine (HX2.out _ ?_).mono ?_); (exact (by with_reducible repeat (first | exact Grown.refl _ | exact Grown.app _ _ _ _ _ | apply Grown.alloc | apply Grown.drewN | apply Grown.drew | apply Grown.more))); rintro e w' ⟨rfl, os2, d2, rfl⟩)) | (go_at_call 130; ((with_reducible refine (HT1.out _ ?_).mono ?_); (exact HPOW.out.grown (by with_reducible repeat (first | exact Grown.refl _ | apply Grown.more | apply Grown.alloc | apply Grown.drewN | apply Grown.drew))); rintro e w' ⟨rfl, os3, d3, rfl⟩)) | (go_at_call 130; ((with_reducible refine (HT2.out _ ?_).mono ?_); (exact HPOW.out.grown (by with_reducible repeat (first | exact Grown.refl _ | apply Grown.more | apply Grown.alloc | apply Grown.drewN | apply Grown.drew))); rintro e w' ⟨rfl, os4, d4, rfl⟩)))
          refine bodyPost_ret (v := .tuple #[.agg #[.string ⟨#[]⟩, .string ⟨#[]⟩, .string ⟨#[]⟩, .string ⟨#[]⟩], .int .i64 3]) (ret_rng_tmp rfl rfl rfl ?_) rfl ⟨?_, ?_⟩
          · go_simp
          · rw [HEND.out, if_pos (Or.inr h4)]; rfl
          · exact (by with_reducible repeat (first | exact Grown.refl _ | apply Grown.more | apply Grown.alloc | apply Grown.drewN | apply Grown.drew))
      · have h3' : (t3 == 0) = false := by rw [beq_eq_false_iff_ne]; exact h3
        have h3'' : (t3 != 0) = true := by rw [bne_iff_ne]; exact h3
        go_wp2_with (first | (go_at_call 133; ((with_reducible refine (HX1.out _ ?_).mono ?_); (exact (by with_reducible repeat (first | exact Grown.refl _ | exact Grown.app _ _ _ _ _ | apply Grown.alloc | apply Grown.drewN | apply Grown.drew | apply Grown.more))); rintro e w' ⟨rfl, os1, d1, rfl⟩)) | (go_at_call 133; ((with_reducible refine (HX2.out _ ?_).mono ?_); (exact (by with_reducible repeat (first | exact Grown.refl _ | exact Grown.app _ _ _ _ _ | apply Grown.alloc | apply Grown.drewN | apply Grown.drew | apply Grown.more))); rintro e w' ⟨rfl, os2, d2, rfl⟩)) | (go_at_call 130; ((with_reducible refine (HT1.out _ ?_).mono ?_); (exact HPOW.out.grown (by with_reducible repeat (first | exact Grown.refl _ | apply Grown.more | apply Grown.alloc | apply Grown.drewN | apply Grown.drew))); rintro e w' ⟨rfl, os3, d3, rfl⟩)) | (go_at_call 130; ((with_reducible refine (HT2.out _ ?_).mono ?_); (exact HPOW.out.grown (by with_reducible repeat (first | exact Grown.refl _ | apply Grown.more | apply Grown.alloc | apply Grown.drewN | apply Grown.drew))); rintro e w' ⟨rfl, os4, d4, rfl⟩)))
        refine bodyPost_ret (v := .tuple #[.agg #[.string ⟨#[]⟩, .string ⟨#[]⟩, .string ⟨#[]⟩, .string ⟨#[]⟩], .int .i64 3]) (ret_rng_tmp rfl rfl rfl ?_) rfl ⟨?_, ?_⟩
        · go_simp
        · rw [HEND.out, if_pos (Or.inl h3)]; rfl
        · exact (by with_reducible repeat (first | exact Grown.refl _ | apply Grown.more | apply Grown.alloc | apply Grown.drewN | apply Grown.drew))
set_option maxRecDepth 100000 in
set_option maxHeartbeats 1000000 in
theorem ends_sub (s1 s2 s3 s4 s1' s2' s3' s4' : ByteArray) (p0 p1 q0 q1 : Tri) (T : Nat → Tri) (D : Nat → Nat → Tri) (w : World)
    (K1 : Hid (∀ w, Calls Tryz.prog 85 #[.agg #[.string s1, .string s2, .string s3, .string s4]] w fun e w' => e = .returned (.agg (pair p0 p1)) ∧ Grown w w'))
    (K2 : Hid (∀ w, Calls Tryz.prog 85 #[.agg #[.string s1', .string s2', .string s3', .string s4']] w fun e w' => e = .returned (.agg (pair q0 q1)) ∧ Grown w w'))
    (HDO : Hid (∀ i k, i < 2 → k < 2 → ∀ w, Calls Tryz.prog 80 #[.agg (val (sel p0 p1 i).1 (sel p0 p1 i).2.1 (sel p0 p1 i).2.2), .agg (val (sel q0 q1 k).1 (sel q0 q1 k).2.1 (sel q0 q1 k).2.2)] w fun e w' => e = .returned (.agg (val (D i k).1 (D i k).2.1 (D i k).2.2)) ∧ Grown w w'))
    (HLOW : Hid (∀ i k, i < 2 → k < 2 → ∀ w, Calls Tryz.prog 129 #[.agg (val (D i k).1 (D i k).2.1 (D i k).2.2)] w fun e w' => e = .returned (.agg (val (T (2 * i + k)).1 (T (2 * i + k)).2.1 (T (2 * i + k)).2.2)) ∧ Grown w w'))
    (HORD : Hid (∀ x y, x ∈ [T 0, T 1, T 2, T 3] → y ∈ [T 0, T 1, T 2, T 3] → ∀ w, Calls Tryz.prog 132 #[valT x, valT y] w fun e w' => e = .returned (.int .i64 (ordT x y)) ∧ Grown w w'))
    (HTOLD : Hid (∀ x, x ∈ [T 0, T 1, T 2, T 3] → ∀ w, Pow10 w → Calls Tryz.prog 130 #[valT x] w fun e w' => e = .returned (opR (toldT x)) ∧ Grown w w'))
    (HPOW : Hid (Pow10 w)) (E : ((List UInt8 × List UInt8) × (List UInt8 × List UInt8)) × Int) (HE : Hid (E = endsS (T 0) [T 1, T 2, T 3])) :
    Calls Tryz.prog 74 #[.agg #[.string s1, .string s2, .string s3, .string s4], .agg #[.string s1', .string s2', .string s3', .string s4'], .func (.func 80) #[] #[]] w fun e w' => e = .returned (endsR E) ∧ Grown w w' := by
  obtain ⟨iv, hiv, hi67, hi280, hi0⟩ := infoVal
  have HI := Lib.hid hiv
  have HI67 := Lib.hid hi67
  have HI280 := Lib.hid hi280
  have HI0 := Lib.hid hi0
  clear hiv hi67 hi280 hi0
  obtain ⟨bx, hbx⟩ : ∃ b : Nat, b = w.heap.size + 1 := ⟨_, rfl⟩
  have HBX := Lib.hid hbx
  clear hbx
  go_enter Tryz.func74, Tryz.ntmps74
  go_wp2_with ((go_at_call 85; ((with_reducible refine (K1.out _).mono ?_); rintro e w' ⟨rfl, os1, d1, rfl⟩)))
  go_loopw [8, 19] (fun v i wr => ∃ (k : Nat), i = .int .i64 k ∧ k ≤ 2 ∧ wr.ownsRow (w.heap.size + 3) 112 67 v (2 * k) (rowsV ((List.range (2 * k)).map T)) ∧ Grown (((w.alloc (Obj.cells #[Value.string s1, Value.string s2, Value.string s3, Value.string s4] 25)).alloc (Obj.cells #[Value.string s1', Value.string s2', Value.string s3', Value.string s4'] 25)).alloc (Obj.cells #[Value.string { data := #[] }, Value.string { data := #[] }, Value.string { data := #[] }, Value.string { data := #[] }] 25)) wr) (fun _ i _ => 2 - (intOf i).toNat)
  case atStart => exact ⟨0, rfl, by omega, ⟨rfl, .inl ⟨rfl, rfl⟩⟩, (by with_reducible repeat (first | exact Grown.refl _ | apply Grown.more | apply Grown.alloc | apply Grown.drewN | apply Grown.drew))⟩
  case round =>
    obtain ⟨k, rfl, hk, hown, hg⟩ := hrel
    obtain ⟨wo, rfl⟩ : ∃ wo : World, wo = wr := ⟨_, rfl⟩
    have HOWN := Lib.hid hown
    have HG := Lib.hid hg
    by_cases hk2 : k < 2
    · have hix : ∀ w, _ := fun w => run_idxPair p0 p1 k w hk2
      have c1 : wo.cell? ⟨w.heap.size + 1, 0, none⟩ = some (.string s1') := cell_of_grown hg (by simp) (by go_simp)
      have c2 : wo.cell? ⟨w.heap.size + 1, 1, none⟩ = some (.string s2') := cell_of_grown hg (by simp) (by go_simp)
      have c3 : wo.cell? ⟨w.heap.size + 1, 2, none⟩ = some (.string s3') := cell_of_grown hg (by simp) (by go_simp)
      have c4 : wo.cell? ⟨w.heap.size + 1, 3, none⟩ = some (.string s4') := cell_of_grown hg (by simp) (by go_simp)
      have hin : InW (w.heap.size + 1) wo := inW_grown hg (by unfold InW; simp)
      clear hown hg
      go_wp2_with ((go_at_call 85; ((with_reducible refine (K2.out _).mono ?_); rintro e w' ⟨rfl, os2, d2, rfl⟩)))
      go_loopw [8, 24] (fun v i wi => ∃ (j : Nat), i = .int .i64 j ∧ j ≤ 2 ∧ wi.ownsRow (w.heap.size + 3) 112 67 v (2 * k + j) (rowsV ((List.range (2 * k + j)).map T)) ∧ Grown (((w.alloc (Obj.cells #[Value.string s1, Value.string s2, Value.string s3, Value.string s4] 25)).alloc (Obj.cells #[Value.string s1', Value.string s2', Value.string s3', Value.string s4'] 25)).alloc (Obj.cells #[Value.string { data := #[] }, Value.string { data := #[] }, Value.string { data := #[] }, Value.string { data := #[] }] 25)) wi ∧ InW wo.heap.size wi ∧ rowAt wi ⟨wo.heap.size, 0, none⟩ 67 = some (val (sel p0 p1 k).1 (sel p0 p1 k).2.1 (sel p0 p1 k).2.2) ∧ v.ownBlock ≠ some wo.heap.size) (fun _ i _ => 2 - (intOf i).toNat)
      case atStart => exact ⟨0, rfl, by omega, own_grown HOWN.out (by with_reducible repeat (first | exact Grown.refl _ | apply Grown.more | apply Grown.alloc | apply Grown.drewN | apply Grown.drew)), HG.out.trans (by with_reducible repeat (first | exact Grown.refl _ | apply Grown.more | apply Grown.alloc | apply Grown.drewN | apply Grown.drew)), by go_simp, by go_simp, own_ne HOWN.out (Nat.le_refl _)⟩
      case round =>
        obtain ⟨j, rfl, hj, hown, hg, hinb, hrow, hne⟩ := hrel
        have HOWN := Lib.hid hown
        have HG := Lib.hid hg
        have HNE := Lib.hid hne
        have HINB := Lib.hid hinb
        have HROW := Lib.hid hrow
        have hsz : w.heap.size + 3 ≤ wr.heap.size := by have := grown_size hg; simp at this; omega
        clear hown hg hne
        by_cases hj2 : j < 2
        · have hiy : ∀ w, _ := fun w => run_idxPair q0 q1 j w hj2
          go_wp2_with (first | (at_builtin; refine wpList_append_own_at _ rfl _ _ 151 rfl (w.heap.size + 3) 112 iv (.agg (val false 0 0)) 67 280 slVal HI.out HI0.out HI67.out HI280.out (val_size _ _ _) (by decide) _ (2 * k + j) (rowsV ((List.range (2 * k + j)).map T)) rfl ?c1 _ 1 1 (val (T (2 * k + j)).1 (T (2 * k + j)).2.1 (T (2 * k + j)).2.2).toList rfl (news_len _ _ _) ?c2 (news_one _ _ _) (by unfold maxLen; omega) (by omega) ?c3 ?_; (case c1 => exact own_grown HOWN.out (by with_reducible repeat (first | exact Grown.refl _ | apply Grown.more | apply Grown.alloc | apply Grown.drewN | apply Grown.drew))); (case c2 => exact news_cell _ _ _ _ (by go_simp)); (case c3 => (go_simp; omega)); intro v' w3 hown3 hgrow3 hnil3 hblk3) | (go_at_call 80; ((with_reducible refine (HDO.out k j hk2 hj2 _).mono ?_); rintro e w' ⟨rfl, os3, d3, rfl⟩)) | (go_at_call 129; ((with_reducible refine (HLOW.out k j hk2 hj2 _).mono ?_); rintro e w' ⟨rfl, os4, d4, rfl⟩)))
          go_roundw
          case measure => show 2 - (j + 1) < 2 - j; omega
          case rel =>
            have hw : ∀ x : World, Grown wr x → Grown (((w.alloc (Obj.cells #[Value.string s1, Value.string s2, Value.string s3, Value.string s4] 25)).alloc (Obj.cells #[Value.string s1', Value.string s2', Value.string s3', Value.string s4'] 25)).alloc (Obj.cells #[Value.string { data := #[] }, Value.string { data := #[] }, Value.string { data := #[] }, Value.string { data := #[] }] 25)) x := fun x hx => HG.out.trans hx
            refine ⟨j + 1, rfl, by omega, ?_, ?_, ?_, ?_, ?_⟩
            · rw [show 2 * k + (j + 1) = 2 * k + j + 1 from by omega, List.range_succ, List.map_append, List.map_singleton, ← rowsV_snoc]
              exact hown3
            · exact Grown.grownBy (hw _ (by with_reducible repeat (first | exact Grown.refl _ | apply Grown.more | apply Grown.alloc | apply Grown.drewN | apply Grown.drew))) hgrow3 (fun b hb => by have := own_block_ge HOWN.out b hb; simp; omega)
            · exact inW_grownBy hgrow3 (by go_simp)
            · exact row_grownBy hgrow3 (by go_simp) HNE.out (by go_simp)
            · rcases hblk3 with h | h
              · rw [h]; exact HNE.out
              · rw [h]
                intro e
                refine absurd HINB.out.lt (Nat.not_lt.2 ?_)
                rw [← Option.some.inj e]
                exact grown_size (by with_reducible repeat (first | exact Grown.refl _ | apply Grown.more | apply Grown.alloc | apply Grown.drewN | apply Grown.drew))
        · go_wp2
          go_roundw
          case measure => show 2 - (k + 1) < 2 - k; omega
          case rel =>
            have hj' : j = 2 := by omega
            subst hj'
            exact ⟨k + 1, rfl, by omega, HOWN.out, HG.out⟩
    · have hk' : k = 2 := by omega
      subst hk'
      clear hk2 HOWN HG
      obtain ⟨g, cap, hv, hcap, hing, hrows⟩ := own_row (l := [T 0, T 1, T 2, T 3]) hown (by simp)
      subst hv
      obtain ⟨os, dd, rfl⟩ := hg
      have hx1 : ∀ w', Grown (grow (((w.alloc (Obj.cells #[Value.string s1, Value.string s2, Value.string s3, Value.string s4] 25)).alloc (Obj.cells #[Value.string s1', Value.string s2', Value.string s3', Value.string s4'] 25)).alloc (Obj.cells #[Value.string { data := #[] }, Value.string { data := #[] }, Value.string { data := #[] }, Value.string { data := #[] }] 25)) os dd) w' → Calls Tryz.prog 133 #[.func (.func 132) #[] #[], .int .i64 (-1), .slice (some ⟨g, 0, none⟩) 4 cap] w' fun e w'' => e = .returned (valT (bestOf ordT (-1) (T 0) [T 1, T 2, T 3])) ∧ Grown w' w'' :=
        fun w' hw' => extremeV_any [T 1, T 2, T 3] (T 0) g cap (-1) w' (.inr rfl) (fun i x hx => row_grown hw' hing (hrows i x hx)) (by simp) (by simp at hcap; omega) (inW_grown hw' hing) HORD.out
      have hx2 : ∀ w', Grown (grow (((w.alloc (Obj.cells #[Value.string s1, Value.string s2, Value.string s3, Value.string s4] 25)).alloc (Obj.cells #[Value.string s1', Value.string s2', Value.string s3', Value.string s4'] 25)).alloc (Obj.cells #[Value.string { data := #[] }, Value.string { data := #[] }, Value.string { data := #[] }, Value.string { data := #[] }] 25)) os dd) w' → Calls Tryz.prog 133 #[.func (.func 132) #[] #[], .int .i64 1, .slice (some ⟨g, 0, none⟩) 4 cap] w' fun e w'' => e = .returned (valT (bestOf ordT 1 (T 0) [T 1, T 2, T 3])) ∧ Grown w' w'' :=
        fun w' hw' => extremeV_any [T 1, T 2, T 3] (T 0) g cap 1 w' (.inl rfl) (fun i x hx => row_grown hw' hing (hrows i x hx)) (by simp) (by simp at hcap; omega) (inW_grown hw' hing) HORD.out
      have ht1 := HTOLD.out _ (best_mem ordT (-1) [T 1, T 2, T 3] (T 0))
      have ht2 := HTOLD.out _ (best_mem ordT 1 [T 1, T 2, T 3] (T 0))
      have hend : endsS (T 0) [T 1, T 2, T 3] = if (toldT (bestOf ordT (-1) (T 0) [T 1, T 2, T 3])).2 ≠ 0 ∨ (toldT (bestOf ordT 1 (T 0) [T 1, T 2, T 3])).2 ≠ 0 then ((([], []), ([], [])), 3) else (((toldT (bestOf ordT (-1) (T 0) [T 1, T 2, T 3])).1, (toldT (bestOf ordT 1 (T 0) [T 1, T 2, T 3])).1), 0) := rfl
      obtain ⟨b1, hb1⟩ : ∃ b, b = bestOf ordT (-1) (T 0) [T 1, T 2, T 3] := ⟨_, rfl⟩
      obtain ⟨b2, hb2⟩ : ∃ b, b = bestOf ordT 1 (T 0) [T 1, T 2, T 3] := ⟨_, rfl⟩
      rw [← hb1] at hx1 ht1 hend
      rw [← hb2] at hx2 ht2 hend
      rw [← HE.out] at hend
      obtain ⟨⟨⟨t1, t2⟩, t3⟩, hr1⟩ : ∃ r, r = toldT b1 := ⟨_, rfl⟩
      obtain ⟨⟨⟨u1, u2⟩, u3⟩, hr2⟩ : ∃ r, r = toldT b2 := ⟨_, rfl⟩
      rw [← hr1] at ht1 hend
      rw [← hr2] at ht2 hend
      unfold valT opR ratV at *
      dsimp only at ht1 ht2 hend
      obtain ⟨z1, hz1⟩ : ∃ s : ByteArray, s = ⟨t1.toArray⟩ := ⟨_, rfl⟩
      obtain ⟨z2, hz2⟩ : ∃ s : ByteArray, s = ⟨t2.toArray⟩ := ⟨_, rfl⟩
      obtain ⟨y1, hy1⟩ : ∃ s : ByteArray, s = ⟨u1.toArray⟩ := ⟨_, rfl⟩
      obtain ⟨y2, hy2⟩ : ∃ s : ByteArray, s = ⟨u2.toArray⟩ := ⟨_, rfl⟩
      rw [← hz1, ← hz2] at ht1
      rw [← hy1, ← hy2] at ht2
      have HX1 := Lib.hid hx1
      have HX2 := Lib.hid hx2
      have HT1 := Lib.hid ht1
      have HT2 := Lib.hid ht2
      have HEND := Lib.hid hend
      have HZ1 := Lib.hid hz1
      have HZ2 := Lib.hid hz2
      have HY1 := Lib.hid hy1
      have HY2 := Lib.hid hy2
      clear hrows hown hing hx1 hx2 ht1 ht2 hend hz1 hz2 hy1 hy2 hb1 hb2 hr1 hr2 hcap
      by_cases h3 : t3 = 0
      · subst h3
        by_cases h4 : u3 = 0
        · subst h4
          go_wp2_with (first | (go_at_call 133; ((with_reducible refine (HX1.out _ ?_).mono ?_); (exact (by with_reducible repeat (first | exact Grown.refl _ | exact Grown.app _ _ _ _ _ | apply Grown.alloc | apply Grown.drewN | apply Grown.drew | apply Grown.more))); rintro e w' ⟨rfl, os1, d1, rfl⟩)) | (go_at_call 133; ((with_reducible refine (HX2.out _ ?_).mono ?_); (exact (by with_reducible repeat (first | exact Grown.refl _ | exact Grown.app _ _ _ _ _ | apply Grown.alloc | apply Grown.drewN | apply Grown.drew | apply Grown.more))); rintro e w' ⟨rfl, os2, d2, rfl⟩)) | (go_at_call 130; ((with_reducible refine (HT1.out _ ?_).mono ?_); (exact HPOW.out.grown (by with_reducible repeat (first | exact Grown.refl _ | apply Grown.more | apply Grown.alloc | apply Grown.drewN | apply Grown.drew))); rintro e w' ⟨rfl, os3, d3, rfl⟩)) | (go_at_call 130; ((with_reducible refine (HT2.out _ ?_).mono ?_); (exact HPOW.out.grown (by with_reducible repeat (first | exact Grown.refl _ | apply Grown.more | apply Grown.alloc | apply Grown.drewN | apply Grown.drew))); rintro e w' ⟨rfl, os4, d4, rfl⟩)))
          refine bodyPost_ret (v := .tuple #[.agg #[.string z1, .string z2, .string y1, .string y2], .int .i64 0]) (ret_rng_tmp rfl rfl rfl ?_) rfl ⟨?_, ?_⟩
          · go_simp
          · rw [HEND.out, if_neg (by simp), HZ1.out, HZ2.out, HY1.out, HY2.out]; rfl
          · exact (by with_reducible repeat (first | exact Grown.refl _ | apply Grown.more | apply Grown.alloc | apply Grown.drewN | apply Grown.drew))
        · have h4' : (u3 == 0) = false := by rw [beq_eq_false_iff_ne]; exact h4
          have h4'' : (u3 != 0) = true := by rw [bne_iff_ne]; exact h4
          go_wp2_with (first | (go_at_call 133; ((with_reducible refine (HX1.out _ ?_).mono ?_); (exact (by with_reducible repeat (first | exact Grown.refl _ | exact Grown.app _ _ _ _ _ | apply Grown.alloc | apply Grown.drewN | apply Grown.drew | apply Grown.more))); rintro e w' ⟨rfl, os1, d1, rfl⟩)) | (go_at_call 133; ((with_reducible refine (HX2.out _ ?_).mono ?_); (exact (by with_reducible repeat (first | exact Grown.refl _ | exact Grown.app _ _ _ _ _ | apply Grown.alloc | apply Grown.drewN | apply Grown.drew | apply Grown.more))); rintro e w' ⟨rfl, os2, d2, rfl⟩)) | (go_at_call 130; ((with_reducible refine (HT1.out _ ?_).mono ?_); (exact HPOW.out.grown (by with_reducible repeat (first | exact Grown.refl _ | apply Grown.more | apply Grown.alloc | apply Grown.drewN | apply Grown.drew))); rintro e w' ⟨rfl, os3, d3, rfl⟩)) | (go_at_call 130; ((with_reducible refine (HT2.out _ ?_).mono ?_); (exact HPOW.out.grown (by with_reducible repeat (first | exact Grown.refl _ | apply Grown.more | apply Grown.alloc | apply Grown.drewN | apply Grown.drew))); rintro e w' ⟨rfl, os4, d4, rfl⟩)))
          refine bodyPost_ret (v := .tuple #[.agg #[.string ⟨#[]⟩, .string ⟨#[]⟩, .string ⟨#[]⟩, .string ⟨#[]⟩], .int .i64 3]) (ret_rng_tmp rfl rfl rfl ?_) rfl ⟨?_, ?_⟩
          · go_simp
          · rw [HEND.out, if_pos (Or.inr h4)]; rfl
          · exact (by with_reducible repeat (first | exact Grown.refl _ | apply Grown.more | apply Grown.alloc | apply Grown.drewN | apply Grown.drew))
      · have h3' : (t3 == 0) = false := by rw [beq_eq_false_iff_ne]; exact h3
        have h3'' : (t3 != 0) = true := by rw [bne_iff_ne]; exact h3
        go_wp2_with (first | (go_at_call 133; ((with_reducible refine (HX1.out _ ?_).mono ?_); (exact (by with_reducible repeat (first | exact Grown.refl _ | exact Grown.app _ _ _ _ _ | apply Grown.alloc | apply Grown.drewN | apply Grown.drew | apply Grown.more))); rintro e w' ⟨rfl, os1, d1, rfl⟩)) | (go_at_call 133; ((with_reducible refine (HX2.out _ ?_).mono ?_); (exact (by with_reducible repeat (first | exact Grown.refl _ | exact Grown.app _ _ _ _ _ | apply Grown.alloc | apply Grown.drewN | apply Grown.drew | apply Grown.more))); rintro e w' ⟨rfl, os2, d2, rfl⟩)) | (go_at_call 130; ((with_reducible refine (HT1.out _ ?_).mono ?_); (exact HPOW.out.grown (by with_reducible repeat (first | exact Grown.refl _ | apply Grown.more | apply Grown.alloc | apply Grown.drewN | apply Grown.drew))); rintro e w' ⟨rfl, os3, d3, rfl⟩)) | (go_at_call 130; ((with_reducible refine (HT2.out _ ?_).mono ?_); (exact HPOW.out.grown (by with_reducible repeat (first | exact Grown.refl _ | apply Grown.more | apply Grown.alloc | apply Grown.drewN | apply Grown.drew))); rintro e w' ⟨rfl, os4, d4, rfl⟩)))
        refine bodyPost_ret (v := .tuple #[.agg #[.string ⟨#[]⟩, .string ⟨#[]⟩, .string ⟨#[]⟩, .string ⟨#[]⟩], .int .i64 3]) (ret_rng_tmp rfl rfl rfl ?_) rfl ⟨?_, ?_⟩
        · go_simp
        · rw [HEND.out, if_pos (Or.inl h3)]; rfl
        · exact (by with_reducible repeat (first | exact Grown.refl _ | apply Grown.more | apply Grown.alloc | apply Grown.drewN | apply Grown.drew))
set_option maxRecDepth 100000 in
set_option maxHeartbeats 1000000 in
theorem ends_mul (s1 s2 s3 s4 s1' s2' s3' s4' : ByteArray) (p0 p1 q0 q1 : Tri) (T : Nat → Tri) (D : Nat → Nat → Tri) (w : World)
    (K1 : Hid (∀ w, Calls Tryz.prog 85 #[.agg #[.string s1, .string s2, .string s3, .string s4]] w fun e w' => e = .returned (.agg (pair p0 p1)) ∧ Grown w w'))
    (K2 : Hid (∀ w, Calls Tryz.prog 85 #[.agg #[.string s1', .string s2', .string s3', .string s4']] w fun e w' => e = .returned (.agg (pair q0 q1)) ∧ Grown w w'))
    (HDO : Hid (∀ i k, i < 2 → k < 2 → ∀ w, Calls Tryz.prog 83 #[.agg (val (sel p0 p1 i).1 (sel p0 p1 i).2.1 (sel p0 p1 i).2.2), .agg (val (sel q0 q1 k).1 (sel q0 q1 k).2.1 (sel q0 q1 k).2.2)] w fun e w' => e = .returned (.agg (val (D i k).1 (D i k).2.1 (D i k).2.2)) ∧ Grown w w'))
    (HLOW : Hid (∀ i k, i < 2 → k < 2 → ∀ w, Calls Tryz.prog 129 #[.agg (val (D i k).1 (D i k).2.1 (D i k).2.2)] w fun e w' => e = .returned (.agg (val (T (2 * i + k)).1 (T (2 * i + k)).2.1 (T (2 * i + k)).2.2)) ∧ Grown w w'))
    (HORD : Hid (∀ x y, x ∈ [T 0, T 1, T 2, T 3] → y ∈ [T 0, T 1, T 2, T 3] → ∀ w, Calls Tryz.prog 132 #[valT x, valT y] w fun e w' => e = .returned (.int .i64 (ordT x y)) ∧ Grown w w'))
    (HTOLD : Hid (∀ x, x ∈ [T 0, T 1, T 2, T 3] → ∀ w, Pow10 w → Calls Tryz.prog 130 #[valT x] w fun e w' => e = .returned (opR (toldT x)) ∧ Grown w w'))
    (HPOW : Hid (Pow10 w)) (E : ((List UInt8 × List UInt8) × (List UInt8 × List UInt8)) × Int) (HE : Hid (E = endsS (T 0) [T 1, T 2, T 3])) :
    Calls Tryz.prog 74 #[.agg #[.string s1, .string s2, .string s3, .string s4], .agg #[.string s1', .string s2', .string s3', .string s4'], .func (.func 83) #[] #[]] w fun e w' => e = .returned (endsR E) ∧ Grown w w' := by
  obtain ⟨iv, hiv, hi67, hi280, hi0⟩ := infoVal
  have HI := Lib.hid hiv
  have HI67 := Lib.hid hi67
  have HI280 := Lib.hid hi280
  have HI0 := Lib.hid hi0
  clear hiv hi67 hi280 hi0
  obtain ⟨bx, hbx⟩ : ∃ b : Nat, b = w.heap.size + 1 := ⟨_, rfl⟩
  have HBX := Lib.hid hbx
  clear hbx
  go_enter Tryz.func74, Tryz.ntmps74
  go_wp2_with ((go_at_call 85; ((with_reducible refine (K1.out _).mono ?_); rintro e w' ⟨rfl, os1, d1, rfl⟩)))
  go_loopw [8, 19] (fun v i wr => ∃ (k : Nat), i = .int .i64 k ∧ k ≤ 2 ∧ wr.ownsRow (w.heap.size + 3) 112 67 v (2 * k) (rowsV ((List.range (2 * k)).map T)) ∧ Grown (((w.alloc (Obj.cells #[Value.string s1, Value.string s2, Value.string s3, Value.string s4] 25)).alloc (Obj.cells #[Value.string s1', Value.string s2', Value.string s3', Value.string s4'] 25)).alloc (Obj.cells #[Value.string { data := #[] }, Value.string { data := #[] }, Value.string { data := #[] }, Value.string { data := #[] }] 25)) wr) (fun _ i _ => 2 - (intOf i).toNat)
  case atStart => exact ⟨0, rfl, by omega, ⟨rfl, .inl ⟨rfl, rfl⟩⟩, (by with_reducible repeat (first | exact Grown.refl _ | apply Grown.more | apply Grown.alloc | apply Grown.drewN | apply Grown.drew))⟩
  case round =>
    obtain ⟨k, rfl, hk, hown, hg⟩ := hrel
    obtain ⟨wo, rfl⟩ : ∃ wo : World, wo = wr := ⟨_, rfl⟩
    have HOWN := Lib.hid hown
    have HG := Lib.hid hg
    by_cases hk2 : k < 2
    · have hix : ∀ w, _ := fun w => run_idxPair p0 p1 k w hk2
      have c1 : wo.cell? ⟨w.heap.size + 1, 0, none⟩ = some (.string s1') := cell_of_grown hg (by simp) (by go_simp)
      have c2 : wo.cell? ⟨w.heap.size + 1, 1, none⟩ = some (.string s2') := cell_of_grown hg (by simp) (by go_simp)
      have c3 : wo.cell? ⟨w.heap.size + 1, 2, none⟩ = some (.string s3') := cell_of_grown hg (by simp) (by go_simp)
      have c4 : wo.cell? ⟨w.heap.size + 1, 3, none⟩ = some (.string s4') := cell_of_grown hg (by simp) (by go_simp)
      have hin : InW (w.heap.size + 1) wo := inW_grown hg (by unfold InW; simp)
      clear hown hg
      go_wp2_with ((go_at_call 85; ((with_reducible refine (K2.out _).mono ?_); rintro e w' ⟨rfl, os2, d2, rfl⟩)))
      go_loopw [8, 24] (fun v i wi => ∃ (j : Nat), i = .int .i64 j ∧ j ≤ 2 ∧ wi.ownsRow (w.heap.size + 3) 112 67 v (2 * k + j) (rowsV ((List.range (2 * k + j)).map T)) ∧ Grown (((w.alloc (Obj.cells #[Value.string s1, Value.string s2, Value.string s3, Value.string s4] 25)).alloc (Obj.cells #[Value.string s1', Value.string s2', Value.string s3', Value.string s4'] 25)).alloc (Obj.cells #[Value.string { data := #[] }, Value.string { data := #[] }, Value.string { data := #[] }, Value.string { data := #[] }] 25)) wi ∧ InW wo.heap.size wi ∧ rowAt wi ⟨wo.heap.size, 0, none⟩ 67 = some (val (sel p0 p1 k).1 (sel p0 p1 k).2.1 (sel p0 p1 k).2.2) ∧ v.ownBlock ≠ some wo.heap.size) (fun _ i _ => 2 - (intOf i).toNat)
      case atStart => exact ⟨0, rfl, by omega, own_grown HOWN.out (by with_reducible repeat (first | exact Grown.refl _ | apply Grown.more | apply Grown.alloc | apply Grown.drewN | apply Grown.drew)), HG.out.trans (by with_reducible repeat (first | exact Grown.refl _ | apply Grown.more | apply Grown.alloc | apply Grown.drewN | apply Grown.drew)), by go_simp, by go_simp, own_ne HOWN.out (Nat.le_refl _)⟩
      case round =>
        obtain ⟨j, rfl, hj, hown, hg, hinb, hrow, hne⟩ := hrel
        have HOWN := Lib.hid hown
        have HG := Lib.hid hg
        have HNE := Lib.hid hne
        have HINB := Lib.hid hinb
        have HROW := Lib.hid hrow
        have hsz : w.heap.size + 3 ≤ wr.heap.size := by have := grown_size hg; simp at this; omega
        clear hown hg hne
        by_cases hj2 : j < 2
        · have hiy : ∀ w, _ := fun w => run_idxPair q0 q1 j w hj2
          go_wp2_with (first | (at_builtin; refine wpList_append_own_at _ rfl _ _ 151 rfl (w.heap.size + 3) 112 iv (.agg (val false 0 0)) 67 280 slVal HI.out HI0.out HI67.out HI280.out (val_size _ _ _) (by decide) _ (2 * k + j) (rowsV ((List.range (2 * k + j)).map T)) rfl ?c1 _ 1 1 (val (T (2 * k + j)).1 (T (2 * k + j)).2.1 (T (2 * k + j)).2.2).toList rfl (news_len _ _ _) ?c2 (news_one _ _ _) (by unfold maxLen; omega) (by omega) ?c3 ?_; (case c1 => exact own_grown HOWN.out (by with_reducible repeat (first | exact Grown.refl _ | apply Grown.more | apply Grown.alloc | apply Grown.drewN | apply Grown.drew))); (case c2 => exact news_cell _ _ _ _ (by go_simp)); (case c3 => (go_simp; omega)); intro v' w3 hown3 hgrow3 hnil3 hblk3) | (go_at_call 83; ((with_reducible refine (HDO.out k j hk2 hj2 _).mono ?_); rintro e w' ⟨rfl, os3, d3, rfl⟩)) | (go_at_call 129; ((with_reducible refine (HLOW.out k j hk2 hj2 _).mono ?_); rintro e w' ⟨rfl, os4, d4, rfl⟩)))
          go_roundw
          case measure => show 2 - (j + 1) < 2 - j; omega
          case rel =>
            have hw : ∀ x : World, Grown wr x → Grown (((w.alloc (Obj.cells #[Value.string s1, Value.string s2, Value.string s3, Value.string s4] 25)).alloc (Obj.cells #[Value.string s1', Value.string s2', Value.string s3', Value.string s4'] 25)).alloc (Obj.cells #[Value.string { data := #[] }, Value.string { data := #[] }, Value.string { data := #[] }, Value.string { data := #[] }] 25)) x := fun x hx => HG.out.trans hx
            refine ⟨j + 1, rfl, by omega, ?_, ?_, ?_, ?_, ?_⟩
            · rw [show 2 * k + (j + 1) = 2 * k + j + 1 from by omega, List.range_succ, List.map_append, List.map_singleton, ← rowsV_snoc]
              exact hown3
            · exact Grown.grownBy (hw _ (by with_reducible repeat (first | exact Grown.refl _ | apply Grown.more | apply Grown.alloc | apply Grown.drewN | apply Grown.drew))) hgrow3 (fun b hb => by have := own_block_ge HOWN.out b hb; simp; omega)
            · exact inW_grownBy hgrow3 (by go_simp)
            · exact row_grownBy hgrow3 (by go_simp) HNE.out (by go_simp)
            · rcases hblk3 with h | h
              · rw [h]; exact HNE.out
              · rw [h]
                intro e
                refine absurd HINB.out.lt (Nat.not_lt.2 ?_)
                rw [← Option.some.inj e]
                exact grown_size (by with_reducible repeat (first | exact Grown.refl _ | apply Grown.more | apply Grown.alloc | apply Grown.drewN | apply Grown.drew))
        · go_wp2
          go_roundw
          case measure => show 2 - (k + 1) < 2 - k; omega
          case rel =>
            have hj' : j = 2 := by omega
            subst hj'
            exact ⟨k + 1, rfl, by omega, HOWN.out, HG.out⟩
    · have hk' : k = 2 := by omega
      subst hk'
      clear hk2 HOWN HG
      obtain ⟨g, cap, hv, hcap, hing, hrows⟩ := own_row (l := [T 0, T 1, T 2, T 3]) hown (by simp)
      subst hv
      obtain ⟨os, dd, rfl⟩ := hg
      have hx1 : ∀ w', Grown (grow (((w.alloc (Obj.cells #[Value.string s1, Value.string s2, Value.string s3, Value.string s4] 25)).alloc (Obj.cells #[Value.string s1', Value.string s2', Value.string s3', Value.string s4'] 25)).alloc (Obj.cells #[Value.string { data := #[] }, Value.string { data := #[] }, Value.string { data := #[] }, Value.string { data := #[] }] 25)) os dd) w' → Calls Tryz.prog 133 #[.func (.func 132) #[] #[], .int .i64 (-1), .slice (some ⟨g, 0, none⟩) 4 cap] w' fun e w'' => e = .returned (valT (bestOf ordT (-1) (T 0) [T 1, T 2, T 3])) ∧ Grown w' w'' :=
        fun w' hw' => extremeV_any [T 1, T 2, T 3] (T 0) g cap (-1) w' (.inr rfl) (fun i x hx => row_grown hw' hing (hrows i x hx)) (by simp) (by simp at hcap; omega) (inW_grown hw' hing) HORD.out
      have hx2 : ∀ w', Grown (grow (((w.alloc (Obj.cells #[Value.string s1, Value.string s2, Value.string s3, Value.string s4] 25)).alloc (Obj.cells #[Value.string s1', Value.string s2', Value.string s3', Value.string s4'] 25)).alloc (Obj.cells #[Value.string { data := #[] }, Value.string { data := #[] }, Value.string { data := #[] }, Value.string { data := #[] }] 25)) os dd) w' → Calls Tryz.prog 133 #[.func (.func 132) #[] #[], .int .i64 1, .slice (some ⟨g, 0, none⟩) 4 cap] w' fun e w'' => e = .returned (valT (bestOf ordT 1 (T 0) [T 1, T 2, T 3])) ∧ Grown w' w'' :=
        fun w' hw' => extremeV_any [T 1, T 2, T 3] (T 0) g cap 1 w' (.inl rfl) (fun i x hx => row_grown hw' hing (hrows i x hx)) (by simp) (by simp at hcap; omega) (inW_grown hw' hing) HORD.out
      have ht1 := HTOLD.out _ (best_mem ordT (-1) [T 1, T 2, T 3] (T 0))
      have ht2 := HTOLD.out _ (best_mem ordT 1 [T 1, T 2, T 3] (T 0))
      have hend : endsS (T 0) [T 1, T 2, T 3] = if (toldT (bestOf ordT (-1) (T 0) [T 1, T 2, T 3])).2 ≠ 0 ∨ (toldT (bestOf ordT 1 (T 0) [T 1, T 2, T 3])).2 ≠ 0 then ((([], []), ([], [])), 3) else (((toldT (bestOf ordT (-1) (T 0) [T 1, T 2, T 3])).1, (toldT (bestOf ordT 1 (T 0) [T 1, T 2, T 3])).1), 0) := rfl
      obtain ⟨b1, hb1⟩ : ∃ b, b = bestOf ordT (-1) (T 0) [T 1, T 2, T 3] := ⟨_, rfl⟩
      obtain ⟨b2, hb2⟩ : ∃ b, b = bestOf ordT 1 (T 0) [T 1, T 2, T 3] := ⟨_, rfl⟩
      rw [← hb1] at hx1 ht1 hend
      rw [← hb2] at hx2 ht2 hend
      rw [← HE.out] at hend
      obtain ⟨⟨⟨t1, t2⟩, t3⟩, hr1⟩ : ∃ r, r = toldT b1 := ⟨_, rfl⟩
      obtain ⟨⟨⟨u1, u2⟩, u3⟩, hr2⟩ : ∃ r, r = toldT b2 := ⟨_, rfl⟩
      rw [← hr1] at ht1 hend
      rw [← hr2] at ht2 hend
      unfold valT opR ratV at *
      dsimp only at ht1 ht2 hend
      obtain ⟨z1, hz1⟩ : ∃ s : ByteArray, s = ⟨t1.toArray⟩ := ⟨_, rfl⟩
      obtain ⟨z2, hz2⟩ : ∃ s : ByteArray, s = ⟨t2.toArray⟩ := ⟨_, rfl⟩
      obtain ⟨y1, hy1⟩ : ∃ s : ByteArray, s = ⟨u1.toArray⟩ := ⟨_, rfl⟩
      obtain ⟨y2, hy2⟩ : ∃ s : ByteArray, s = ⟨u2.toArray⟩ := ⟨_, rfl⟩
      rw [← hz1, ← hz2] at ht1
      rw [← hy1, ← hy2] at ht2
      have HX1 := Lib.hid hx1
      have HX2 := Lib.hid hx2
      have HT1 := Lib.hid ht1
      have HT2 := Lib.hid ht2
      have HEND := Lib.hid hend
      have HZ1 := Lib.hid hz1
      have HZ2 := Lib.hid hz2
      have HY1 := Lib.hid hy1
      have HY2 := Lib.hid hy2
      clear hrows hown hing hx1 hx2 ht1 ht2 hend hz1 hz2 hy1 hy2 hb1 hb2 hr1 hr2 hcap
      by_cases h3 : t3 = 0
      · subst h3
        by_cases h4 : u3 = 0
        · subst h4
          go_wp2_with (first | (go_at_call 133; ((with_reducible refine (HX1.out _ ?_).mono ?_); (exact (by with_reducible repeat (first | exact Grown.refl _ | exact Grown.app _ _ _ _ _ | apply Grown.alloc | apply Grown.drewN | apply Grown.drew | apply Grown.more))); rintro e w' ⟨rfl, os1, d1, rfl⟩)) | (go_at_call 133; ((with_reducible refine (HX2.out _ ?_).mono ?_); (exact (by with_reducible repeat (first | exact Grown.refl _ | exact Grown.app _ _ _ _ _ | apply Grown.alloc | apply Grown.drewN | apply Grown.drew | apply Grown.more))); rintro e w' ⟨rfl, os2, d2, rfl⟩)) | (go_at_call 130; ((with_reducible refine (HT1.out _ ?_).mono ?_); (exact HPOW.out.grown (by with_reducible repeat (first | exact Grown.refl _ | apply Grown.more | apply Grown.alloc | apply Grown.drewN | apply Grown.drew))); rintro e w' ⟨rfl, os3, d3, rfl⟩)) | (go_at_call 130; ((with_reducible refine (HT2.out _ ?_).mono ?_); (exact HPOW.out.grown (by with_reducible repeat (first | exact Grown.refl _ | apply Grown.more | apply Grown.alloc | apply Grown.drewN | apply Grown.drew))); rintro e w' ⟨rfl, os4, d4, rfl⟩)))
          refine bodyPost_ret (v := .tuple #[.agg #[.string z1, .string z2, .string y1, .string y2], .int .i64 0]) (ret_rng_tmp rfl rfl rfl ?_) rfl ⟨?_, ?_⟩
          · go_simp
          · rw [HEND.out, if_neg (by simp), HZ1.out, HZ2.out, HY1.out, HY2.out]; rfl
          · exact (by with_reducible repeat (first | exact Grown.refl _ | apply Grown.more | apply Grown.alloc | apply Grown.drewN | apply Grown.drew))
        · have h4' : (u3 == 0) = false := by rw [beq_eq_false_iff_ne]; exact h4
          have h4'' : (u3 != 0) = true := by rw [bne_iff_ne]; exact h4
          go_wp2_with (first | (go_at_call 133; ((with_reducible refine (HX1.out _ ?_).mono ?_); (exact (by with_reducible repeat (first | exact Grown.refl _ | exact Grown.app _ _ _ _ _ | apply Grown.alloc | apply Grown.drewN | apply Grown.drew | apply Grown.more))); rintro e w' ⟨rfl, os1, d1, rfl⟩)) | (go_at_call 133; ((with_reducible refine (HX2.out _ ?_).mono ?_); (exact (by with_reducible repeat (first | exact Grown.refl _ | exact Grown.app _ _ _ _ _ | apply Grown.alloc | apply Grown.drewN | apply Grown.drew | apply Grown.more))); rintro e w' ⟨rfl, os2, d2, rfl⟩)) | (go_at_call 130; ((with_reducible refine (HT1.out _ ?_).mono ?_); (exact HPOW.out.grown (by with_reducible repeat (first | exact Grown.refl _ | apply Grown.more | apply Grown.alloc | apply Grown.drewN | apply Grown.drew))); rintro e w' ⟨rfl, os3, d3, rfl⟩)) | (go_at_call 130; ((with_reducible refine (HT2.out _ ?_).mono ?_); (exact HPOW.out.grown (by with_reducible repeat (first | exact Grown.refl _ | apply Grown.more | apply Grown.alloc | apply Grown.drewN | apply Grown.drew))); rintro e w' ⟨rfl, os4, d4, rfl⟩)))
          refine bodyPost_ret (v := .tuple #[.agg #[.string ⟨#[]⟩, .string ⟨#[]⟩, .string ⟨#[]⟩, .string ⟨#[]⟩], .int .i64 3]) (ret_rng_tmp rfl rfl rfl ?_) rfl ⟨?_, ?_⟩
          · go_simp
          · rw [HEND.out, if_pos (Or.inr h4)]; rfl
          · exact (by with_reducible repeat (first | exact Grown.refl _ | apply Grown.more | apply Grown.alloc | apply Grown.drewN | apply Grown.drew))
      · have h3' : (t3 == 0) = false := by rw [beq_eq_false_iff_ne]; exact h3
        have h3'' : (t3 != 0) = true := by rw [bne_iff_ne]; exact h3
        go_wp2_with (first | (go_at_call 133; ((with_reducible refine (HX1.out _ ?_).mono ?_); (exact (by with_reducible repeat (first | exact Grown.refl _ | exact Grown.app _ _ _ _ _ | apply Grown.alloc | apply Grown.drewN | apply Grown.drew | apply Grown.more))); rintro e w' ⟨rfl, os1, d1, rfl⟩)) | (go_at_call 133; ((with_reducible refine (HX2.out _ ?_).mono ?_); (exact (by with_reducible repeat (first | exact Grown.refl _ | exact Grown.app _ _ _ _ _ | apply Grown.alloc | apply Grown.drewN | apply Grown.drew | apply Grown.more))); rintro e w' ⟨rfl, os2, d2, rfl⟩)) | (go_at_call 130; ((with_reducible refine (HT1.out _ ?_).mono ?_); (exact HPOW.out.grown (by with_reducible repeat (first | exact Grown.refl _ | apply Grown.more | apply Grown.alloc | apply Grown.drewN | apply Grown.drew))); rintro e w' ⟨rfl, os3, d3, rfl⟩)) | (go_at_call 130; ((with_reducible refine (HT2.out _ ?_).mono ?_); (exact HPOW.out.grown (by with_reducible repeat (first | exact Grown.refl _ | apply Grown.more | apply Grown.alloc | apply Grown.drewN | apply Grown.drew))); rintro e w' ⟨rfl, os4, d4, rfl⟩)))
        refine bodyPost_ret (v := .tuple #[.agg #[.string ⟨#[]⟩, .string ⟨#[]⟩, .string ⟨#[]⟩, .string ⟨#[]⟩], .int .i64 3]) (ret_rng_tmp rfl rfl rfl ?_) rfl ⟨?_, ?_⟩
        · go_simp
        · rw [HEND.out, if_pos (Or.inl h3)]; rfl
        · exact (by with_reducible repeat (first | exact Grown.refl _ | apply Grown.more | apply Grown.alloc | apply Grown.drewN | apply Grown.drew))
set_option maxRecDepth 100000 in
set_option maxHeartbeats 1000000 in
theorem ends_quo (s1 s2 s3 s4 s1' s2' s3' s4' : ByteArray) (p0 p1 q0 q1 : Tri) (T : Nat → Tri) (D : Nat → Nat → Tri) (w : World)
    (K1 : Hid (∀ w, Calls Tryz.prog 85 #[.agg #[.string s1, .string s2, .string s3, .string s4]] w fun e w' => e = .returned (.agg (pair p0 p1)) ∧ Grown w w'))
    (K2 : Hid (∀ w, Calls Tryz.prog 85 #[.agg #[.string s1', .string s2', .string s3', .string s4']] w fun e w' => e = .returned (.agg (pair q0 q1)) ∧ Grown w w'))
    (HDO : Hid (∀ i k, i < 2 → k < 2 → ∀ w, Calls Tryz.prog 87 #[.agg (val (sel p0 p1 i).1 (sel p0 p1 i).2.1 (sel p0 p1 i).2.2), .agg (val (sel q0 q1 k).1 (sel q0 q1 k).2.1 (sel q0 q1 k).2.2)] w fun e w' => e = .returned (.agg (val (D i k).1 (D i k).2.1 (D i k).2.2)) ∧ Grown w w'))
    (HLOW : Hid (∀ i k, i < 2 → k < 2 → ∀ w, Calls Tryz.prog 129 #[.agg (val (D i k).1 (D i k).2.1 (D i k).2.2)] w fun e w' => e = .returned (.agg (val (T (2 * i + k)).1 (T (2 * i + k)).2.1 (T (2 * i + k)).2.2)) ∧ Grown w w'))
    (HORD : Hid (∀ x y, x ∈ [T 0, T 1, T 2, T 3] → y ∈ [T 0, T 1, T 2, T 3] → ∀ w, Calls Tryz.prog 132 #[valT x, valT y] w fun e w' => e = .returned (.int .i64 (ordT x y)) ∧ Grown w w'))
    (HTOLD : Hid (∀ x, x ∈ [T 0, T 1, T 2, T 3] → ∀ w, Pow10 w → Calls Tryz.prog 130 #[valT x] w fun e w' => e = .returned (opR (toldT x)) ∧ Grown w w'))
    (HPOW : Hid (Pow10 w)) (E : ((List UInt8 × List UInt8) × (List UInt8 × List UInt8)) × Int) (HE : Hid (E = endsS (T 0) [T 1, T 2, T 3])) :
    Calls Tryz.prog 74 #[.agg #[.string s1, .string s2, .string s3, .string s4], .agg #[.string s1', .string s2', .string s3', .string s4'], .func (.func 87) #[] #[]] w fun e w' => e = .returned (endsR E) ∧ Grown w w' := by
  obtain ⟨iv, hiv, hi67, hi280, hi0⟩ := infoVal
  have HI := Lib.hid hiv
  have HI67 := Lib.hid hi67
  have HI280 := Lib.hid hi280
  have HI0 := Lib.hid hi0
  clear hiv hi67 hi280 hi0
  obtain ⟨bx, hbx⟩ : ∃ b : Nat, b = w.heap.size + 1 := ⟨_, rfl⟩
  have HBX := Lib.hid hbx
  clear hbx
  go_enter Tryz.func74, Tryz.ntmps74
  go_wp2_with ((go_at_call 85; ((with_reducible refine (K1.out _).mono ?_); rintro e w' ⟨rfl, os1, d1, rfl⟩)))
  go_loopw [8, 19] (fun v i wr => ∃ (k : Nat), i = .int .i64 k ∧ k ≤ 2 ∧ wr.ownsRow (w.heap.size + 3) 112 67 v (2 * k) (rowsV ((List.range (2 * k)).map T)) ∧ Grown (((w.alloc (Obj.cells #[Value.string s1, Value.string s2, Value.string s3, Value.string s4] 25)).alloc (Obj.cells #[Value.string s1', Value.string s2', Value.string s3', Value.string s4'] 25)).alloc (Obj.cells #[Value.string { data := #[] }, Value.string { data := #[] }, Value.string { data := #[] }, Value.string { data := #[] }] 25)) wr) (fun _ i _ => 2 - (intOf i).toNat)
  case atStart => exact ⟨0, rfl, by omega, ⟨rfl, .inl ⟨rfl, rfl⟩⟩, (by with_reducible repeat (first | exact Grown.refl _ | apply Grown.more | apply Grown.alloc | apply Grown.drewN | apply Grown.drew))⟩
  case round =>
    obtain ⟨k, rfl, hk, hown, hg⟩ := hrel
    obtain ⟨wo, rfl⟩ : ∃ wo : World, wo = wr := ⟨_, rfl⟩
    have HOWN := Lib.hid hown
    have HG := Lib.hid hg
    by_cases hk2 : k < 2
    · have hix : ∀ w, _ := fun w => run_idxPair p0 p1 k w hk2
      have c1 : wo.cell? ⟨w.heap.size + 1, 0, none⟩ = some (.string s1') := cell_of_grown hg (by simp) (by go_simp)
      have c2 : wo.cell? ⟨w.heap.size + 1, 1, none⟩ = some (.string s2') := cell_of_grown hg (by simp) (by go_simp)
      have c3 : wo.cell? ⟨w.heap.size + 1, 2, none⟩ = some (.string s3') := cell_of_grown hg (by simp) (by go_simp)
      have c4 : wo.cell? ⟨w.heap.size + 1, 3, none⟩ = some (.string s4') := cell_of_grown hg (by simp) (by go_simp)
      have hin : InW (w.heap.size + 1) wo := inW_grown hg (by unfold InW; simp)
      clear hown hg
      go_wp2_with ((go_at_call 85; ((with_reducible refine (K2.out _).mono ?_); rintro e w' ⟨rfl, os2, d2, rfl⟩)))
      go_loopw [8, 24] (fun v i wi => ∃ (j : Nat), i = .int .i64 j ∧ j ≤ 2 ∧ wi.ownsRow (w.heap.size + 3) 112 67 v (2 * k + j) (rowsV ((List.range (2 * k + j)).map T)) ∧ Grown (((w.alloc (Obj.cells #[Value.string s1, Value.string s2, Value.string s3, Value.string s4] 25)).alloc (Obj.cells #[Value.string s1', Value.string s2', Value.string s3', Value.string s4'] 25)).alloc (Obj.cells #[Value.string { data := #[] }, Value.string { data := #[] }, Value.string { data := #[] }, Value.string { data := #[] }] 25)) wi ∧ InW wo.heap.size wi ∧ rowAt wi ⟨wo.heap.size, 0, none⟩ 67 = some (val (sel p0 p1 k).1 (sel p0 p1 k).2.1 (sel p0 p1 k).2.2) ∧ v.ownBlock ≠ some wo.heap.size) (fun _ i _ => 2 - (intOf i).toNat)
      case atStart => exact ⟨0, rfl, by omega, own_grown HOWN.out (by with_reducible repeat (first | exact Grown.refl _ | apply Grown.more | apply Grown.alloc | apply Grown.drewN | apply Grown.drew)), HG.out.trans (by with_reducible repeat (first | exact Grown.refl _ | apply Grown.more | apply Grown.alloc | apply Grown.drewN | apply Grown.drew)), by go_simp, by go_simp, own_ne HOWN.out (Nat.le_refl _)⟩
      case round =>
        obtain ⟨j, rfl, hj, hown, hg, hinb, hrow, hne⟩ := hrel
        have HOWN := Lib.hid hown
        have HG := Lib.hid hg
        have HNE := Lib.hid hne
        have HINB := Lib.hid hinb
        have HROW := Lib.hid hrow
        have hsz : w.heap.size + 3 ≤ wr.heap.size := by have := grown_size hg; simp at this; omega
        clear hown hg hne
        by_cases hj2 : j < 2
        · have hiy : ∀ w, _ := fun w => run_idxPair q0 q1 j w hj2
          go_wp2_with (first | (at_builtin; refine wpList_append_own_at _ rfl _ _ 151 rfl (w.heap.size + 3) 112 iv (.agg (val false 0 0)) 67 280 slVal HI.out HI0.out HI67.out HI280.out (val_size _ _ _) (by decide) _ (2 * k + j) (rowsV ((List.range (2 * k + j)).map T)) rfl ?c1 _ 1 1 (val (T (2 * k + j)).1 (T (2 * k + j)).2.1 (T (2 * k + j)).2.2).toList rfl (news_len _ _ _) ?c2 (news_one _ _ _) (by unfold maxLen; omega) (by omega) ?c3 ?_; (case c1 => exact own_grown HOWN.out (by with_reducible repeat (first | exact Grown.refl _ | apply Grown.more | apply Grown.alloc | apply Grown.drewN | apply Grown.drew))); (case c2 => exact news_cell _ _ _ _ (by go_simp)); (case c3 => (go_simp; omega)); intro v' w3 hown3 hgrow3 hnil3 hblk3) | (go_at_call 87; ((with_reducible refine (HDO.out k j hk2 hj2 _).mono ?_); rintro e w' ⟨rfl, os3, d3, rfl⟩)) | (go_at_call 129; ((with_reducible refine (HLOW.out k j hk2 hj2 _).mono ?_); rintro e w' ⟨rfl, os4, d4, rfl⟩)))
          go_roundw
          case measure => show 2 - (j + 1) < 2 - j; omega
          case rel =>
            have hw : ∀ x : World, Grown wr x → Grown (((w.alloc (Obj.cells #[Value.string s1, Value.string s2, Value.string s3, Value.string s4] 25)).alloc (Obj.cells #[Value.string s1', Value.string s2', Value.string s3', Value.string s4'] 25)).alloc (Obj.cells #[Value.string { data := #[] }, Value.string { data := #[] }, Value.string { data := #[] }, Value.string { data := #[] }] 25)) x := fun x hx => HG.out.trans hx
            refine ⟨j + 1, rfl, by omega, ?_, ?_, ?_, ?_, ?_⟩
            · rw [show 2 * k + (j + 1) = 2 * k + j + 1 from by omega, List.range_succ, List.map_append, List.map_singleton, ← rowsV_snoc]
              exact hown3
            · exact Grown.grownBy (hw _ (by with_reducible repeat (first | exact Grown.refl _ | apply Grown.more | apply Grown.alloc | apply Grown.drewN | apply Grown.drew))) hgrow3 (fun b hb => by have := own_block_ge HOWN.out b hb; simp; omega)
            · exact inW_grownBy hgrow3 (by go_simp)
            · exact row_grownBy hgrow3 (by go_simp) HNE.out (by go_simp)
            · rcases hblk3 with h | h
              · rw [h]; exact HNE.out
              · rw [h]
                intro e
                refine absurd HINB.out.lt (Nat.not_lt.2 ?_)
                rw [← Option.some.inj e]
                exact grown_size (by with_reducible repeat (first | exact Grown.refl _ | apply Grown.more | apply Grown.alloc | apply Grown.drewN | apply Grown.drew))
        · go_wp2
          go_roundw
          case measure => show 2 - (k + 1) < 2 - k; omega
          case rel =>
            have hj' : j = 2 := by omega
            subst hj'
            exact ⟨k + 1, rfl, by omega, HOWN.out, HG.out⟩
    · have hk' : k = 2 := by omega
      subst hk'
      clear hk2 HOWN HG
      obtain ⟨g, cap, hv, hcap, hing, hrows⟩ := own_row (l := [T 0, T 1, T 2, T 3]) hown (by simp)
      subst hv
      obtain ⟨os, dd, rfl⟩ := hg
      have hx1 : ∀ w', Grown (grow (((w.alloc (Obj.cells #[Value.string s1, Value.string s2, Value.string s3, Value.string s4] 25)).alloc (Obj.cells #[Value.string s1', Value.string s2', Value.string s3', Value.string s4'] 25)).alloc (Obj.cells #[Value.string { data := #[] }, Value.string { data := #[] }, Value.string { data := #[] }, Value.string { data := #[] }] 25)) os dd) w' → Calls Tryz.prog 133 #[.func (.func 132) #[] #[], .int .i64 (-1), .slice (some ⟨g, 0, none⟩) 4 cap] w' fun e w'' => e = .returned (valT (bestOf ordT (-1) (T 0) [T 1, T 2, T 3])) ∧ Grown w' w'' :=
        fun w' hw' => extremeV_any [T 1, T 2, T 3] (T 0) g cap (-1) w' (.inr rfl) (fun i x hx => row_grown hw' hing (hrows i x hx)) (by simp) (by simp at hcap; omega) (inW_grown hw' hing) HORD.out
      have hx2 : ∀ w', Grown (grow (((w.alloc (Obj.cells #[Value.string s1, Value.string s2, Value.string s3, Value.string s4] 25)).alloc (Obj.cells #[Value.string s1', Value.string s2', Value.string s3', Value.string s4'] 25)).alloc (Obj.cells #[Value.string { data := #[] }, Value.string { data := #[] }, Value.string { data := #[] }, Value.string { data := #[] }] 25)) os dd) w' → Calls Tryz.prog 133 #[.func (.func 132) #[] #[], .int .i64 1, .slice (some ⟨g, 0, none⟩) 4 cap] w' fun e w'' => e = .returned (valT (bestOf ordT 1 (T 0) [T 1, T 2, T 3])) ∧ Grown w' w'' :=
        fun w' hw' => extremeV_any [T 1, T 2, T 3] (T 0) g cap 1 w' (.inl rfl) (fun i x hx => row_grown hw' hing (hrows i x hx)) (by simp) (by simp at hcap; omega) (inW_grown hw' hing) HORD.out
      have ht1 := HTOLD.out _ (best_mem ordT (-1) [T 1, T 2, T 3] (T 0))
      have ht2 := HTOLD.out _ (best_mem ordT 1 [T 1, T 2, T 3] (T 0))
      have hend : endsS (T 0) [T 1, T 2, T 3] = if (toldT (bestOf ordT (-1) (T 0) [T 1, T 2, T 3])).2 ≠ 0 ∨ (toldT (bestOf ordT 1 (T 0) [T 1, T 2, T 3])).2 ≠ 0 then ((([], []), ([], [])), 3) else (((toldT (bestOf ordT (-1) (T 0) [T 1, T 2, T 3])).1, (toldT (bestOf ordT 1 (T 0) [T 1, T 2, T 3])).1), 0) := rfl
      obtain ⟨b1, hb1⟩ : ∃ b, b = bestOf ordT (-1) (T 0) [T 1, T 2, T 3] := ⟨_, rfl⟩
      obtain ⟨b2, hb2⟩ : ∃ b, b = bestOf ordT 1 (T 0) [T 1, T 2, T 3] := ⟨_, rfl⟩
      rw [← hb1] at hx1 ht1 hend
      rw [← hb2] at hx2 ht2 hend
      rw [← HE.out] at hend
      obtain ⟨⟨⟨t1, t2⟩, t3⟩, hr1⟩ : ∃ r, r = toldT b1 := ⟨_, rfl⟩
      obtain ⟨⟨⟨u1, u2⟩, u3⟩, hr2⟩ : ∃ r, r = toldT b2 := ⟨_, rfl⟩
      rw [← hr1] at ht1 hend
      rw [← hr2] at ht2 hend
      unfold valT opR ratV at *
      dsimp only at ht1 ht2 hend
      obtain ⟨z1, hz1⟩ : ∃ s : ByteArray, s = ⟨t1.toArray⟩ := ⟨_, rfl⟩
      obtain ⟨z2, hz2⟩ : ∃ s : ByteArray, s = ⟨t2.toArray⟩ := ⟨_, rfl⟩
      obtain ⟨y1, hy1⟩ : ∃ s : ByteArray, s = ⟨u1.toArray⟩ := ⟨_, rfl⟩
      obtain ⟨y2, hy2⟩ : ∃ s : ByteArray, s = ⟨u2.toArray⟩ := ⟨_, rfl⟩
      rw [← hz1, ← hz2] at ht1
      rw [← hy1, ← hy2] at ht2
      have HX1 := Lib.hid hx1
      have HX2 := Lib.hid hx2
      have HT1 := Lib.hid ht1
      have HT2 := Lib.hid ht2
      have HEND := Lib.hid hend
      have HZ1 := Lib.hid hz1
      have HZ2 := Lib.hid hz2
      have HY1 := Lib.hid hy1
      have HY2 := Lib.hid hy2
      clear hrows hown hing hx1 hx2 ht1 ht2 hend hz1 hz2 hy1 hy2 hb1 hb2 hr1 hr2 hcap
      by_cases h3 : t3 = 0
      · subst h3
        by_cases h4 : u3 = 0
        · subst h4
          go_wp2_with (first | (go_at_call 133; ((with_reducible refine (HX1.out _ ?_).mono ?_); (exact (by with_reducible repeat (first | exact Grown.refl _ | exact Grown.app _ _ _ _ _ | apply Grown.alloc | apply Grown.drewN | apply Grown.drew | apply Grown.more))); rintro e w' ⟨rfl, os1, d1, rfl⟩)) | (go_at_call 133; ((with_reducible refine (HX2.out _ ?_).mono ?_); (exact (by with_reducible repeat (first | exact Grown.refl _ | exact Grown.app _ _ _ _ _ | apply Grown.alloc | apply Grown.drewN | apply Grown.drew | apply Grown.more))); rintro e w' ⟨rfl, os2, d2, rfl⟩)) | (go_at_call 130; ((with_reducible refine (HT1.out _ ?_).mono ?_); (exact HPOW.out.grown (by with_reducible repeat (first | exact Grown.refl _ | apply Grown.more | apply Grown.alloc | apply Grown.drewN | apply Grown.drew))); rintro e w' ⟨rfl, os3, d3, rfl⟩)) | (go_at_call 130; ((with_reducible refine (HT2.out _ ?_).mono ?_); (exact HPOW.out.grown (by with_reducible repeat (first | exact Grown.refl _ | apply Grown.more | apply Grown.alloc | apply Grown.drewN | apply Grown.drew))); rintro e w' ⟨rfl, os4, d4, rfl⟩)))
          refine bodyPost_ret (v := .tuple #[.agg #[.string z1, .string z2, .string y1, .string y2], .int .i64 0]) (ret_rng_tmp rfl rfl rfl ?_) rfl ⟨?_, ?_⟩
          · go_simp
          · rw [HEND.out, if_neg (by simp), HZ1.out, HZ2.out, HY1.out, HY2.out]; rfl
          · exact (by with_reducible repeat (first | exact Grown.refl _ | apply Grown.more | apply Grown.alloc | apply Grown.drewN | apply Grown.drew))
        · have h4' : (u3 == 0) = false := by rw [beq_eq_false_iff_ne]; exact h4
          have h4'' : (u3 != 0) = true := by rw [bne_iff_ne]; exact h4
          go_wp2_with (first | (go_at_call 133; ((with_reducible refine (HX1.out _ ?_).mono ?_); (exact (by with_reducible repeat (first | exact Grown.refl _ | exact Grown.app _ _ _ _ _ | apply Grown.alloc | apply Grown.drewN | apply Grown.drew | apply Grown.more))); rintro e w' ⟨rfl, os1, d1, rfl⟩)) | (go_at_call 133; ((with_reducible refine (HX2.out _ ?_).mono ?_); (exact (by with_reducible repeat (first | exact Grown.refl _ | exact Grown.app _ _ _ _ _ | apply Grown.alloc | apply Grown.drewN | apply Grown.drew | apply Grown.more))); rintro e w' ⟨rfl, os2, d2, rfl⟩)) | (go_at_call 130; ((with_reducible refine (HT1.out _ ?_).mono ?_); (exact HPOW.out.grown (by with_reducible repeat (first | exact Grown.refl _ | apply Grown.more | apply Grown.alloc | apply Grown.drewN | apply Grown.drew))); rintro e w' ⟨rfl, os3, d3, rfl⟩)) | (go_at_call 130; ((with_reducible refine (HT2.out _ ?_).mono ?_); (exact HPOW.out.grown (by with_reducible repeat (first | exact Grown.refl _ | apply Grown.more | apply Grown.alloc | apply Grown.drewN | apply Grown.drew))); rintro e w' ⟨rfl, os4, d4, rfl⟩)))
          refine bodyPost_ret (v := .tuple #[.agg #[.string ⟨#[]⟩, .string ⟨#[]⟩, .string ⟨#[]⟩, .string ⟨#[]⟩], .int .i64 3]) (ret_rng_tmp rfl rfl rfl ?_) rfl ⟨?_, ?_⟩
          · go_simp
          · rw [HEND.out, if_pos (Or.inr h4)]; rfl
          · exact (by with_reducible repeat (first | exact Grown.refl _ | apply Grown.more | apply Grown.alloc | apply Grown.drewN | apply Grown.drew))
      · have h3' : (t3 == 0) = false := by rw [beq_eq_false_iff_ne]; exact h3
        have h3'' : (t3 != 0) = true := by rw [bne_iff_ne]; exact h3
        go_wp2_with (first | (go_at_call 133; ((with_reducible refine (HX1.out _ ?_).mono ?_); (exact (by with_reducible repeat (first | exact Grown.refl _ | exact Grown.app _ _ _ _ _ | apply Grown.alloc | apply Grown.drewN | apply Grown.drew | apply Grown.more))); rintro e w' ⟨rfl, os1, d1, rfl⟩)) | (go_at_call 133; ((with_reducible refine (HX2.out _ ?_).mono ?_); (exact (by with_reducible repeat (first | exact Grown.refl _ | exact Grown.app _ _ _ _ _ | apply Grown.alloc | apply Grown.drewN | apply Grown.drew | apply Grown.more))); rintro e w' ⟨rfl, os2, d2, rfl⟩)) | (go_at_call 130; ((with_reducible refine (HT1.out _ ?_).mono ?_); (exact HPOW.out.grown (by with_reducible repeat (first | exact Grown.refl _ | apply Grown.more | apply Grown.alloc | apply Grown.drewN | apply Grown.drew))); rintro e w' ⟨rfl, os3, d3, rfl⟩)) | (go_at_call 130; ((with_reducible refine (HT2.out _ ?_).mono ?_); (exact HPOW.out.grown (by with_reducible repeat (first | exact Grown.refl _ | apply Grown.more | apply Grown.alloc | apply Grown.drewN | apply Grown.drew))); rintro e w' ⟨rfl, os4, d4, rfl⟩)))
        refine bodyPost_ret (v := .tuple #[.agg #[.string ⟨#[]⟩, .string ⟨#[]⟩, .string ⟨#[]⟩, .string ⟨#[]⟩], .int .i64 3]) (ret_rng_tmp rfl rfl rfl ?_) rfl ⟨?_, ?_⟩
        · go_simp
        · rw [HEND.out, if_pos (Or.inl h3)]; rfl
        · exact (by with_reducible repeat (first | exact Grown.refl _ | apply Grown.more | apply Grown.alloc | apply Grown.drewN | apply Grown.drew))
end Go.Proofs.YtnohidkmjclojaaGreatDoor
