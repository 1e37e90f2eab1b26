/- Walks: exact's Apportion of ten in three. -/
import Derived.Test.YtnohidkmjclojaaGreatDoorKitT
import Derived.Test.YtnohidkmjclojaaGreatDoorValI
namespace Go.Proofs.YtnohidkmjclojaaGreatDoor
open Go.RowKit

/-- three numbers are returned -/
def OutOf (f : Nat → Int) (w : World) (e : Ending) (w' : World) : Prop :=
  ∃ g, e = .returned (.tuple #[.slice (some ⟨g, 0, none⟩) 3 3, .int .i64 0]) ∧ Grown w w' ∧ InW g w' ∧ w.heap.size ≤ g ∧ ∀ i, i < 3 → w'.cell? ⟨g, i, none⟩ = some (.int .i64 (f i))

set_option maxRecDepth 100000 in
set_option maxHeartbeats 2000000 in
theorem Apportion_x (nn dd sn sd tn td : Nat → ByteArray) (V A B Q : Nat → Tri) (F : Tri) (g : Nat → Int) (gf : Int) (qq rr : Nat → Nat) (b cap : Nat) (w : World) (hb : InW b w)
    (hc0 : ∀ i, i < 3 → w.cell? ⟨b, i * 2, none⟩ = some (.string (nn i))) (hc1 : ∀ i, i < 3 → w.cell? ⟨b, i * 2 + 1, none⟩ = some (.string (dd i)))
    (KN : Hid (∀ k, k < 3 → ∀ w, Calls Tryz.prog 97 #[.agg #[.string (nn k), .string (dd k)]] w fun e w' => e = .returned (.tuple #[.agg (val (V k).1 (V k).2.1 (V k).2.2), .bool true]) ∧ Grown w w'))
    (SG : Hid (∀ k, k < 3 → ∀ w, Calls Tryz.prog 86 #[.agg (val (V k).1 (V k).2.1 (V k).2.2)] w fun e w' => e = .returned (.int .i64 (g k)) ∧ Grown w w'))
    (hg : Hid (∀ k, k < 3 → 0 ≤ g k))
    (SUM : Hid (∀ w', Grown w w' → Calls Tryz.prog 127 #[.slice (some ⟨b, 0, none⟩) 3 cap] w' fun e w'' => e = .returned (.tuple #[.agg #[.string (sn 3), .string (sd 3)], .int .i64 0]) ∧ Grown w' w''))
    (KF : Hid (∀ w, Calls Tryz.prog 97 #[.agg #[.string (sn 3), .string (sd 3)]] w fun e w' => e = .returned (.tuple #[.agg (val F.1 F.2.1 F.2.2), .bool true]) ∧ Grown w w'))
    (SF : Hid (∀ w, Calls Tryz.prog 86 #[.agg (val F.1 F.2.1 F.2.2)] w fun e w' => e = .returned (.int .i64 gf) ∧ Grown w w'))
    (hgf : (gf == 0) = false)
    (WH : Hid (∀ w, Calls Tryz.prog 128 #[.int .i64 10] w fun e w' => e = .returned (.agg (val false 10 1)) ∧ Grown w w'))
    (TM : Hid (∀ k, k < 3 → ∀ w, Calls Tryz.prog 83 #[.agg (val (V k).1 (V k).2.1 (V k).2.2), .agg (val false 10 1)] w fun e w' => e = .returned (.agg (val (A k).1 (A k).2.1 (A k).2.2)) ∧ Grown w w'))
    (OV : Hid (∀ k, k < 3 → ∀ w, Calls Tryz.prog 87 #[.agg (val (A k).1 (A k).2.1 (A k).2.2), .agg (val F.1 F.2.1 F.2.2)] w fun e w' => e = .returned (.agg (val (B k).1 (B k).2.1 (B k).2.2)) ∧ Grown w w'))
    (LW : Hid (∀ k, k < 3 → ∀ w, Calls Tryz.prog 129 #[.agg (val (B k).1 (B k).2.1 (B k).2.2)] w fun e w' => e = .returned (.agg (val (Q k).1 (Q k).2.1 (Q k).2.2)) ∧ Grown w w'))
    (TD : Hid (∀ k, k < 3 → ∀ w, Pow10 w → Calls Tryz.prog 130 #[.agg (val (Q k).1 (Q k).2.1 (Q k).2.2)] w fun e w' => e = .returned (.tuple #[.agg #[.string (tn k), .string (td k)], .int .i64 0]) ∧ Grown w w'))
    (DV : Hid (∀ k, k < 3 → ∀ w, Calls Tryz.prog 131 #[.agg (nat (Q k).2.1), .agg (nat (Q k).2.2)] w fun e w' => e = .returned (.tuple #[.agg (nat (qq k)), .agg (nat (rr k))]) ∧ Grown w w'))
    (o : Nat → Nat → Int) (bb : Nat → Nat)
    (ORD : Hid (∀ i k, i < 3 → k < 3 → ∀ w, Calls Tryz.prog 132 #[.agg (val false (rr i) (Q i).2.2), .agg (val false (rr k) (Q k).2.2)] w fun e w' => e = .returned (.int .i64 (o i k)) ∧ Grown w w'))
    (HQB : Hid (∀ k, k < 3 → (qq k : Int) ≤ 10))
    (HB0 : Hid (bb 0 = 0)) (HB : Hid (∀ k, k < 3 → bb (k + 1) = if o k (bb k) > 0 then k else bb k)) (HBL : Hid (∀ k, k ≤ 3 → bb k < 3))
    (WM : Hid (∀ w, Calls Tryz.prog 128 #[.int .i64 (-1)] w fun e w' => e = .returned (.agg (val true 1 1)) ∧ Grown w w'))
    (lf : Nat → Int) (HL0 : Hid (lf 0 = 10)) (HL3 : Hid (lf 3 = 1)) (HL : Hid (∀ k, k < 3 → lf (k + 1) = lf k - (qq k : Nat))) (HLB : Hid (∀ k, k ≤ 3 → 0 ≤ lf k ∧ lf k ≤ 10)) (HQ : Hid (∀ k, k < 3 → dgi (qq k) 0 = (qq k : Nat) ∧ dgi (qq k) 1 = 0))
    (HPOW : Hid (Pow10 w)) :
    Calls Tryz.prog 71 #[.int .i64 10, .slice (some ⟨b, 0, none⟩) 3 cap] w (OutOf (fun i => (qq i : Nat) + if i = bb 3 then 1 else 0) w) := by
  have hmk := run_make3
  have hmi := run_make3i
  have HC0 := Lib.hid hc0
  have HC1 := Lib.hid hc1
  clear hc0 hc1
  go_enter Tryz.func71, Tryz.ntmps71
  go_wp2_with fail
  go_loopw [46] (fun sv wr => ∃ (k : Nat), sv = .int .i64 k ∧ k ≤ 3 ∧ Grown w wr) (fun sv _ => 3 - (intOf sv).toNat)
  case atStart => exact ⟨0, rfl, by omega, Grown.refl _⟩
  case round =>
    obtain ⟨k, rfl, hk, ⟨os, e1, rfl⟩⟩ := hrel
    by_cases hkn : k < 3
    · have c0 := HC0.out k hkn
      have c1 := HC1.out k hkn
      have hgk := hg.out k hkn
      have hgd : decide (g k < 0) = false := by simp; omega
      go_wp2_with (first | (go_at_call 97; ((with_reducible refine (KN.out k hkn _).mono ?_); rintro e w' ⟨rfl, os2, d2, rfl⟩)) | (go_at_call 86; ((with_reducible refine (SG.out k hkn _).mono ?_); rintro e w' ⟨rfl, os3, d3, rfl⟩)))
      go_roundw
      case measure => show 3 - (k + 1) < 3 - k; omega
      case rel => exact ⟨k + 1, rfl, by omega, (by with_reducible repeat (first | exact Grown.refl _ | apply Grown.more | apply Grown.alloc | apply Grown.drewN | apply Grown.drew))⟩
    · have hkd : decide ((k : Int) < 3) = false := by simp; omega
      go_wp2_with (first | (go_at_call 127; ((with_reducible refine (SUM.out _ ?_).mono ?_); (exact (by with_reducible repeat (first | exact Grown.refl _ | apply Grown.more | apply Grown.alloc | apply Grown.drewN | apply Grown.drew))); rintro e w' ⟨rfl, os2, d2, rfl⟩)) | (go_at_call 97; ((with_reducible refine (KF.out _).mono ?_); rintro e w' ⟨rfl, os3, d3, rfl⟩)) | (go_at_call 86; ((with_reducible refine (SF.out _).mono ?_); rintro e w' ⟨rfl, os4, d4, rfl⟩)))
      clear hkn hk hkd hgf
      go_loopw [16, 88] (fun lv sv wr => ∃ (j : Nat) (f : Nat → Int) (R : Nat → Tri), sv = .int .i64 j ∧ lv = .int .i64 (lf j) ∧ j ≤ 3 ∧ Hid (∀ i, i < j → f i = (qq i : Nat) ∧ R i = (false, rr i, (Q i).2.2)) ∧ Grown (((grow ((grow ((grow w (os ++ os2) d2).alloc (Obj.cells #[Value.string (sn 3), Value.string (sd 3)] 23)) os3 d3).alloc (Obj.cells (val F.1 F.2.1 F.2.2) 112)) os4 d4).alloc (Obj.cells (outD f) 3)).alloc (Obj.cells (restD R) 112)) wr) (fun _ sv _ => 3 - (intOf sv).toNat)
      case atStart => exact ⟨0, fun _ => 0, fun _ => (false, 0, 0), rfl, by rw [HL0.out], by omega, Lib.hid fun i h => by omega, Grown.refl _⟩
      case round =>
        obtain ⟨j, f, R, rfl, rfl, hj, hspec, ⟨os5, e5, rfl⟩⟩ := hrel
        by_cases hj3 : j < 3
        · have c0 := HC0.out _ hj3
          have c1 := HC1.out _ hj3
          have l1 := Lib.hid (HL.out _ hj3)
          have l2 := (HLB.out _ hj).1
          have l3 := (HLB.out _ hj).2
          have l4 := (HLB.out (j + 1) (by omega)).1
          have l6 : (qq j : Int) ≤ lf j := by have := l1.out; omega
          have hor := or_zero (qq j) (by have := l1.out; omega)
          have l5 : (qq j : Int) ≤ 10 := by have := l1.out; omega
          have q0 := (HQ.out _ hj3).1
          have q1 := (HQ.out _ hj3).2
          have j67 : j * 67 + 67 ≤ 201 := by omega
          have hji : (j : Int) < 3 := by omega
          go_wp2_with (first | (go_at_call 97; ((with_reducible refine (KN.out _ hj3 _).mono ?_); rintro e w' ⟨rfl, os6, d6, rfl⟩)))
          go_region_held3 (fun w' => rowAt w' ⟨w.heap.size + (os.size + os2.size) + 1 + os3.size + 1 + os4.size + 1 + 1 + os5.size + 1 + os6.size, 0, none⟩ 67 = some (val (V j).1 (V j).2.1 (V j).2.2) ∧ rowAt w' ⟨w.heap.size + (os.size + os2.size) + 1 + os3.size, 0, none⟩ 67 = some (val F.1 F.2.1 F.2.2)) (go_simp)
            (first | (go_at_call 128; ((with_reducible refine (WH.out _).mono ?_); rintro e w' ⟨rfl, os7, d7, rfl⟩)) | (go_at_call 83; ((with_reducible refine (TM.out _ hj3 _).mono ?_); rintro e w' ⟨rfl, os8, d8, rfl⟩)) | (go_at_call 87; ((with_reducible refine (OV.out _ hj3 _).mono ?_); rintro e w' ⟨rfl, os9, d9, rfl⟩)) | (go_at_call 129; ((with_reducible refine (LW.out _ hj3 _).mono ?_); rintro e w' ⟨rfl, os10, d10, rfl⟩)))
          all_goals
            go_wp2_with (first | (go_at_call 130; ((with_reducible refine (TD.out _ hj3 _ ?_).mono ?_); (exact HPOW.out.grown (by with_reducible repeat (first | exact Grown.refl _ | apply Grown.more | apply Grown.alloc | apply Grown.drewN | apply Grown.drew))); rintro e w' ⟨rfl, os11, d11, rfl⟩)) | (go_at_call 131; ((with_reducible refine (DV.out _ hj3 _).mono ?_); rintro e w' ⟨rfl, os12, d12, rfl⟩)))
            go_roundw
            case measure => show 3 - (j + 1) < 3 - j; omega
            case rel =>
              refine ⟨j + 1, (fun k => if k = j then ((qq j : Nat) : Int) else f k), (fun k => if k = j then (false, rr j, (Q j).2.2) else R k), rfl, by rw [l1.out], by omega, Lib.hid ?_, ?_⟩
              · intro i hi
                by_cases hij : i = j
                · subst hij; exact ⟨if_pos rfl, if_pos rfl⟩
                · dsimp only; rw [if_neg hij, if_neg hij]; exact hspec.out i (by omega)
              · exact (by with_reducible repeat (first | exact Grown.refl _ | apply Grown.more | apply Grown.alloc | apply Grown.drewN | apply Grown.drew))
        · have hjd : decide ((j : Int) < 3) = false := by simp; omega
          have hj' : j = 3 := by omega
          subst hj'
          have hR : ∀ i, i < 3 → R i = (false, rr i, (Q i).2.2) := fun i hi => (hspec.out i hi).2
          have hf : ∀ i, i < 3 → f i = (qq i : Nat) := fun i hi => (hspec.out i hi).1
          have ho : ∀ i k, i < 3 → k < 3 → ∀ w, Calls Tryz.prog 132 #[.agg (val (R i).1 (R i).2.1 (R i).2.2), .agg (val (R k).1 (R k).2.1 (R k).2.2)] w fun e w' => e = .returned (.int .i64 (o i k)) ∧ Grown w w' := by
            intro i k hi hk
            rw [hR i hi, hR k hk]
            exact ORD.out i k hi hk
          have hl3 := HL3.out
          rw [hl3, show ((3 : Nat) : Int) = 3 from rfl]
          have HO := Lib.hid ho
          have HF := Lib.hid hf
          clear ho hR hf hspec hl3 hj3
          go_wp2
          go_loopw [16] (fun lv wr => ∃ (m : Int) (f' : Nat → Int) (R' : Nat → Tri), lv = .int .i64 m ∧ (0 ≤ m ∧ m ≤ 1) ∧ Hid ((m = 1 → f' = f ∧ R' = R) ∧ (m = 0 → f' = fun i => if i = bb 3 then f (bb 3) + 1 else f i)) ∧ Grown (((grow ((grow ((grow w (os ++ os2) d2).alloc (Obj.cells #[Value.string (sn 3), Value.string (sd 3)] 23)) os3 d3).alloc (Obj.cells (val F.1 F.2.1 F.2.2) 112)) os4 d4).alloc (Obj.cells (outD f') 3)).alloc (Obj.cells (restD R') 112)) wr) (fun lv _ => (intOf lv).toNat)
          case atStart => exact ⟨1, f, R, rfl, by omega, Lib.hid ⟨fun _ => ⟨rfl, rfl⟩, fun h => by omega⟩, (by with_reducible repeat (first | exact Grown.refl _ | apply Grown.more | apply Grown.alloc | apply Grown.drewN | apply Grown.drew))⟩
          case round =>
            obtain ⟨m, f', R', rfl, ⟨hm0, hm⟩, hspec, ⟨os6, e6, rfl⟩⟩ := hrel
            by_cases hm1 : m = 1
            · obtain ⟨rfl, rfl⟩ := hspec.out.1 hm1
              subst hm1
              clear hspec hm0 hm
              have b0 := HB0.out
              go_wp2_with fail
              go_loopw [26, 155] (fun bv kv wr => ∃ (k : Nat), kv = .int .i64 k ∧ bv = .int .i64 (bb k : Nat) ∧ k ≤ 3 ∧ Grown (((grow ((grow ((grow w (os ++ os2) d2).alloc (Obj.cells #[Value.string (sn 3), Value.string (sd 3)] 23)) os3 d3).alloc (Obj.cells (val F.1 F.2.1 F.2.2) 112)) os4 d4).alloc (Obj.cells (outD f') 3)).alloc (Obj.cells (restD R') 112)) wr) (fun _ kv _ => 3 - (intOf kv).toNat)
              case atStart => exact ⟨0, rfl, by rw [HB0.out]; rfl, by omega, (by with_reducible repeat (first | exact Grown.refl _ | apply Grown.more | apply Grown.alloc | apply Grown.drewN | apply Grown.drew))⟩
              case round =>
                obtain ⟨m, rfl, rfl, hm, ⟨os7, e7, rfl⟩⟩ := hrel
                by_cases hm3 : m < 3
                · have hbm := HBL.out m (by omega)
                  have hmi : (m : Int) < 3 := by omega
                  have hbi : (bb m : Int) < 3 := by omega
                  have hnx := Lib.hid (HB.out m hm3)
                  by_cases ho : o m (bb m) > 0
                  · have hs := Lib.hid ((HB.out m hm3).trans (if_pos ho))
                    go_wp2_with fail
                    go_region_held3 (fun w' => rowAt w' ⟨w.heap.size + (os.size + os2.size) + 1 + os3.size + 1 + os4.size + 1, m * 67, none⟩ 67 = some (val (R' m).1 (R' m).2.1 (R' m).2.2) ∧ rowAt w' ⟨w.heap.size + (os.size + os2.size) + 1 + os3.size + 1 + os4.size + 1, bb m * 67, none⟩ 67 = some (val (R' (bb m)).1 (R' (bb m)).2.1 (R' (bb m)).2.2)) (go_simp) (first | (go_at_call 132; ((with_reducible refine (HO.out _ _ hm3 hbm _).mono ?_); rintro e w' ⟨rfl, os8, d8, rfl⟩)))
                    all_goals
                      go_wp2
                      go_roundw
                      case measure => show 3 - (m + 1) < 3 - m; omega
                      case rel => exact ⟨m + 1, rfl, by rw [hs.out], by omega, (by with_reducible repeat (first | exact Grown.refl _ | apply Grown.more | apply Grown.alloc | apply Grown.drewN | apply Grown.drew))⟩
                  · have hs := Lib.hid ((HB.out m hm3).trans (if_neg ho))
                    go_wp2_with fail
                    go_region_held3 (fun w' => rowAt w' ⟨w.heap.size + (os.size + os2.size) + 1 + os3.size + 1 + os4.size + 1, m * 67, none⟩ 67 = some (val (R' m).1 (R' m).2.1 (R' m).2.2) ∧ rowAt w' ⟨w.heap.size + (os.size + os2.size) + 1 + os3.size + 1 + os4.size + 1, bb m * 67, none⟩ 67 = some (val (R' (bb m)).1 (R' (bb m)).2.1 (R' (bb m)).2.2)) (go_simp) (first | (go_at_call 132; ((with_reducible refine (HO.out _ _ hm3 hbm _).mono ?_); rintro e w' ⟨rfl, os8, d8, rfl⟩)))
                    all_goals
                      go_wp2
                      go_roundw
                      case measure => show 3 - (m + 1) < 3 - m; omega
                      case rel => exact ⟨m + 1, rfl, by rw [hs.out], by omega, (by with_reducible repeat (first | exact Grown.refl _ | apply Grown.more | apply Grown.alloc | apply Grown.drewN | apply Grown.drew))⟩
                · have hm3' : m = 3 := by omega
                  subst hm3'
                  have hmd : decide (((3 : Nat) : Int) < 3) = false := by decide
                  have hb3 := HBL.out 3 (by omega)
                  have hbi : (bb 3 : Int) < 3 := by omega
                  have b67 : bb 3 * 67 + 67 ≤ 201 := by omega
                  have hfb := (HF.out (bb 3) hb3)
                  have hq3 := HQB.out (bb 3) hb3
                  rw [← hfb] at hq3
                  have hq0 : 0 ≤ f' (bb 3) := by omega
                  have HFB := Lib.hid hfb
                  clear hfb
                  go_wp2_with (first | (go_at_call 128; ((with_reducible refine (WM.out _).mono ?_); rintro e w' ⟨rfl, os8, d8, rfl⟩)))
                  go_roundw
                  case measure => show (0 : Nat) < 1; omega
                  case rel => exact ⟨0, (fun i => if i = bb 3 then f' (bb 3) + 1 else f' i), _, rfl, by omega, Lib.hid ⟨fun h => by omega, fun _ => rfl⟩, (by with_reducible repeat (first | exact Grown.refl _ | apply Grown.more | apply Grown.alloc | apply Grown.drewN | apply Grown.drew))⟩
            · have hmz : m = 0 := by omega
              subst hmz
              clear hm0 hm
              have hff := hspec.out.2 rfl
              have HFF := Lib.hid hff
              clear hspec hff hm1
              go_wp2
              go_ret2
              refine ⟨_, rfl, (by with_reducible repeat (first | exact Grown.refl _ | apply Grown.more | apply Grown.alloc | apply Grown.drewN | apply Grown.drew)), by go_simp, by omega, ?_⟩
              intro i hi
              have hfi : f' i = (qq i : Nat) + if i = bb 3 then 1 else 0 := by
                rw [HFF.out]
                dsimp only
                have hq := HF.out i hi
                by_cases hib : i = bb 3
                · subst hib
                  rw [if_pos rfl, if_pos rfl, hq]
                · rw [if_neg hib, if_neg hib, hq]; omega
              dsimp only
              rw [← hfi]
              go_simp
end Go.Proofs.YtnohidkmjclojaaGreatDoor
