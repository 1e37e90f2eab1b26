/- Walks: exact's numbers out of texts, and texts out of numbers. -/
import Derived.Test.YtnohidkmjclojaaGreatDoorNatE
namespace Go.Proofs.YtnohidkmjclojaaGreatDoor
open Go.RowKit

theorem grown_bytesWorld (w : World) (e : TypeId) (t : ByteArray) : Grown w (Lib.bytesWorld w e t) := by
  refine Grown.of_below ⟨?_, ?_, ?_, ?_, ?_⟩
  · unfold Lib.bytesWorld World.freeze; rfl
  · unfold Lib.bytesWorld World.freeze; rfl
  · unfold Lib.bytesWorld World.freeze; rfl
  · unfold Lib.bytesWorld World.freeze; simp
  · intro k hk
    unfold Lib.bytesWorld World.freeze
    simp only [Nat.reduceEqDiff, if_false, Array.getElem?_modify]
    rw [if_neg (by omega)]
    exact Below.heap_alloc _ _ _ hk
theorem Atoi_any (s : ByteArray) (w : World) (hl : s.size ≤ 18) (h0 : 0 < s.size) (h : s.data.toList.all isDig = true) :
    Calls Tryz.prog 180 #[.string s] w fun e w' => e = .returned (.tuple #[.int .i64 (valN s.data.toList : Nat), .nilIface]) ∧ Grown w w' :=
  (Tryz.strconv_Atoi s _ hl (atoi_valN _ h (by intro e; have := size_list s; rw [e] at this; simp at this; omega)) w).mono fun _ _ ⟨he, t, ht⟩ => ⟨he, ht ▸ grown_bytesWorld w _ t⟩

theorem extract_list (s : ByteArray) (a b : Nat) : (s.extract a b).data.toList = (s.data.toList.drop a).take (b - a) := by
  simp [ByteArray.data_extract, List.extract]

theorem dl_100 {x k : Nat} (h : x < 10 ^ k) (hk : k ≤ 110) : dl 4294967296 x ≤ 32 := by
  refine dl_le (by omega) _ _ (Nat.lt_of_lt_of_le h (Nat.le_trans (Nat.pow_le_pow_right (by omega) hk) ?_))
  decide +kernel

theorem of_chunk (w : World) : Calls Tryz.prog 148 #[.int .u64 1000000000] w fun e w' => e = .returned (.agg (nat 1000000000)) ∧ Grown w w' := of_any 1000000000 w (by decide)

set_option maxRecDepth 100000 in
set_option maxHeartbeats 1000000 in
/-- read returns the number that a numeral is -/
theorem read_any (s : ByteArray) (w : World) (hs : s.size ≤ 100) (hd : s.data.toList.all isDig = true) :
    Calls Tryz.prog 145 #[.string s] w fun e w' => e = .returned (.agg (nat (valN s.data.toList))) ∧ Grown w w' := by
  go_enter Tryz.func145, Tryz.ntmps145
  go_wp2
  go_loopg [0] s.size (fun g sv wr => ∃ (r : ByteArray) (p : List UInt8), sv = .string r ∧ r.size = g ∧ p ++ r.data.toList = s.data.toList ∧ (p = [] ∨ r.size % 9 = 0) ∧
      Grown ((w.alloc (.cells (cs (fun _ => 0) 0) 110)).alloc (.cells (nat (valN p)) 110)) wr)
  case atStart => exact ⟨s, [], rfl, rfl, by simp, .inl rfl, nat_zero ▸ Grown.refl _⟩
  case round =>
    obtain ⟨r, p, rfl, rfl, hp, hp9, os, d, rfl⟩ := hrel
    have HP := Lib.hid hp
    have hlen := congrArg List.length hp
    rw [List.length_append, size_list, size_list] at hlen
    have hpl : p.length + r.size ≤ 100 := by omega
    clear hp hlen
    rcases Nat.eq_zero_or_pos r.size with h0 | h0
    · have hr : r.data.toList = [] := List.eq_nil_of_length_eq_zero (by rw [size_list]; exact h0)
      have hp2 := HP.out
      rw [hr, List.append_nil] at hp2
      have HP2 := Lib.hid hp2
      have h1 : (r.size : Int) = 0 := by omega
      clear hr hp2 h0 hp9
      go_wp2
      refine bodyPost_ret (v := .agg (nat (valN p))) (ret_nat rfl rfl ?_) rfl ⟨by rw [HP2.out], ?_⟩
      · go_simp
      · exact (by with_reducible repeat (first | exact Grown.refl _ | apply Grown.more | apply Grown.alloc | apply Grown.drewN | apply Grown.drew))
    · obtain ⟨n, hn⟩ : ∃ n, n = (r.size - 1) % 9 + 1 := ⟨_, rfl⟩
      have hn9 : n ≤ 9 := by omega
      have hnr : n ≤ r.size := by omega
      have hn1 : 1 ≤ n := by omega
      have hni : ((r.size : Int) - 1) % 9 + 1 = (n : Int) := by omega
      have hn99 : r.size % 9 = 0 → n = 9 := by omega
      have hr99 : (r.size - n) % 9 = 0 := by omega
      clear hn
      have hi1 : (1 : Int) ≤ (r.size : Int) := by omega
      have hi2 : (r.size : Int) ≤ 100 := by omega
      have hl1 := extract_list r 0 n
      have hl2 := extract_list r n r.size
      rw [List.drop_zero, Nat.sub_zero] at hl1
      rw [List.take_of_length_le (by rw [List.length_drop, size_list]; omega)] at hl2
      obtain ⟨r1, hr1⟩ : ∃ r1, r.extract 0 n = r1 := ⟨_, rfl⟩
      obtain ⟨r2, hr2⟩ : ∃ r2, r.extract n r.size = r2 := ⟨_, rfl⟩
      rw [hr1] at hl1
      rw [hr2] at hl2
      have hz1 : r1.size = n := by rw [← size_list, hl1, List.length_take, size_list]; omega
      have hz2 : r2.size = r.size - n := by rw [← size_list, hl2, List.length_drop, size_list]
      have hsplit : r.data.toList = r1.data.toList ++ r2.data.toList := by rw [hl1, hl2, List.take_append_drop]
      have hp2 : (p ++ r1.data.toList) ++ r2.data.toList = s.data.toList := by rw [← HP.out, hsplit, List.append_assoc]
      have hdp : p.all isDig = true ∧ r1.data.toList.all isDig = true := by
        rw [← hp2, List.all_append, List.all_append] at hd
        simp only [Bool.and_eq_true] at hd
        exact hd.1
      have hvp := valN_lt p hdp.1
      have hv1 := valN_lt r1.data.toList hdp.2
      have hvv := valN_append p r1.data.toList
      have hvl := valN_lt (p ++ r1.data.toList) (by rw [List.all_append, hdp.1, hdp.2]; rfl)
      rw [List.length_append, size_list, hz1] at hvl
      rw [size_list, hz1] at hvv hv1
      have h109 : 10 ^ n ≤ 1000000000 := Nat.le_trans (Nat.pow_le_pow_right (by omega) hn9) (by decide)
      have hat := Atoi_any r1
      obtain ⟨x, hx⟩ : ∃ x, x = valN r1.data.toList := ⟨_, rfl⟩
      obtain ⟨v, hv⟩ : ∃ v, v = valN p := ⟨_, rfl⟩
      rw [← hx] at hv1 hvv hat
      have hvx : valN (p ++ r1.data.toList) = v * 1000000000 + x := by
        rcases hp9 with h | h
        · rw [hvv, hv, h]; simp [valN, valF]
        · rw [hvv, hn99 h, ← hv]
      rw [← hv] at hvp ⊢
      rw [hvx] at hvl
      have hdv : dl 4294967296 v ≤ 32 := dl_100 hvp (by omega)
      have hdc : dl 4294967296 1000000000 ≤ 32 := dl_100 (k := 10) (by decide) (by omega)
      have hdm : dl 4294967296 (v * 1000000000) ≤ 32 := by
        refine dl_100 (k := p.length + 9) ?_ (by omega)
        rw [Nat.pow_add]
        exact Nat.mul_lt_mul_of_lt_of_le hvp (by decide) (by decide)
      have hdx : dl 4294967296 x ≤ 32 := dl_100 hv1 (by omega)
      have hda : dl 4294967296 (v * 1000000000 + x) ≤ 32 := dl_100 hvl (by omega)
      have hwr : IntKind.u64.wrap (x : Int) = x := by rw [IntKind.wrap_u64]; omega
      have hx1 : (x : Int) < 1000000000 := by omega
      have hx64 : x < 18446744073709551616 := by omega
      have hsz1 : r1.size ≤ 18 := by omega
      have hsz2 : 0 < r1.size := by omega
      have HAT : Hid (∀ w, Calls Tryz.prog 180 #[.string r1] w fun e w' => e = .returned (.tuple #[.int .i64 (x : Nat), .nilIface]) ∧ Grown w w') := fun w => hat w hsz1 hsz2 hdp.2
      have HP2 := Lib.hid hp2
      have HZ2 := Lib.hid hz2
      have HVX := Lib.hid hvx
      have HPN := Lib.hid hr99
      clear hl1 hl2 hz1 hz2 hsplit hp2 hdp hvp hv1 hvv hvl h109 hat hx hv hvx hp9 hn99 hr99 hd hsz1 hsz2
      go_wp2_with (go_at_call 180; refine (HAT.out _).mono ?_; rintro e w' ⟨rfl, os1, d1, rfl⟩)
      go_region_with (first | (go_at_call 148; ((with_reducible refine (of_chunk _).mono ?_); rintro e w' ⟨rfl, os2, d2, rfl⟩)) | (go_at_call 148; ((with_reducible refine (of_any x _ hx64).mono ?_); rintro e w' ⟨rfl, os3, d3, rfl⟩)) | (go_at_call 135; refine (times_any v 1000000000 _ hdv hdc hdm).mono ?_; rintro e w' ⟨rfl, os4, d4, rfl⟩) | (go_at_call 173; refine (plus_any (v * 1000000000) x _ hdm hdx hda).mono ?_; rintro e w' ⟨rfl, os5, d5, rfl⟩))
      all_goals
        go_wp2
        go_roundg r2.size
        case measure => rw [HZ2.out]; omega
        case rel =>
          have h9 : r2.size % 9 = 0 := by rw [HZ2.out]; exact HPN.out
          have hpp : (p ++ r1.data.toList) ++ r2.data.toList = s.data.toList := HP2.out
          refine ⟨r2, p ++ r1.data.toList, ?_⟩
          refine ⟨rfl, ?_⟩
          refine ⟨rfl, ?_⟩
          refine ⟨hpp, ?_⟩
          refine ⟨Or.inr h9, ?_⟩
          rw [HVX.out]
          exact (by with_reducible repeat (first | exact Grown.refl _ | apply Grown.more | apply Grown.alloc | apply Grown.drewN | apply Grown.drew))
end Go.Proofs.YtnohidkmjclojaaGreatDoor
