/- Walks: exact's numerals. -/
import Derived.Test.YtnohidkmjclojaaGreatDoorNatD
import Derived.Test.YtnohidkmjclojaaGreatDoorDec
namespace Go.Proofs.YtnohidkmjclojaaGreatDoor
open Go.RowKit

theorem size_list (s : ByteArray) : s.data.toList.length = s.size := Array.length_toList
theorem get_list (s : ByteArray) (i : Nat) (h : i < s.size) : s.data.toList[i]'(by rw [size_list]; exact h) = s[i]'h := by
  rfl

theorem rune_cases (s : ByteArray) (pos : Nat) (h : pos < s.size) :
    (isDig (s[pos]'h) = true ∧ (Utf8.decode s pos).2 = 1 ∧ (48 : Int) ≤ (Utf8.decode s pos).1 ∧ ((Utf8.decode s pos).1 : Int) ≤ 57) ∨
    (isDig (s[pos]'h) = false ∧ ((Utf8.decode s pos).1 : Int) < 48) ∨ (isDig (s[pos]'h) = false ∧ (48 : Int) ≤ (Utf8.decode s pos).1 ∧ (57 : Int) < (Utf8.decode s pos).1) := by
  rcases Nat.lt_or_ge (s[pos]'h).toNat 128 with ha | ha
  · have hd := decode_ascii s pos h ha
    rw [hd]
    unfold isDig
    rcases Nat.lt_or_ge (s[pos]'h).toNat 48 with h1 | h1
    · refine .inr (.inl ⟨?_, ?_⟩)
      · simp; omega
      · simp only; omega
    · rcases Nat.lt_or_ge 57 (s[pos]'h).toNat with h2 | h2
      · refine .inr (.inr ⟨?_, ?_⟩)
        · simp; omega
        · simp only; omega
      · refine .inl ⟨?_, rfl, ?_⟩
        · simp; omega
        · simp only; omega
  · have hd := (decode_high s pos h ha).1
    refine .inr (.inr ⟨?_, by omega, by omega⟩)
    unfold isDig
    simp
    omega
theorem all_false (l : List UInt8) (i : Nat) (h : i < l.length) (hd : isDig (l[i]'h) = false) : l.all isDig = false := by
  rw [List.all_eq_false]
  exact ⟨_, List.getElem_mem h, by simp [hd]⟩

set_option maxRecDepth 100000 in
set_option maxHeartbeats 400000 in
/-- numeral reports whether a text is a numeral -/
theorem numeral_any (s : ByteArray) (m : Nat) (w : World) (hs : s.size ≤ maxLen) (_hm : m ≤ 100) :
    Calls Tryz.prog 144 #[.string s, .int .i64 (m : Nat)] w fun e w' => e = .returned (.bool (numB s.data.toList m)) ∧ Grown w w' := by
  unfold maxLen at hs
  have hsl := size_list s
  by_cases h1 : s.size < 1
  · have fin : numB s.data.toList m = false := by unfold numB; simp [hsl]; omega
    have FIN := Lib.hid fin
    clear fin hsl
    go_enter Tryz.func144, Tryz.ntmps144
    go_wp2
    go_ret
    exact ⟨by rw [FIN.out]; rfl, (by with_reducible repeat (first | exact Grown.refl _ | apply Grown.more | apply Grown.alloc | apply Grown.drewN | apply Grown.drew))⟩
  by_cases h2 : m < s.size
  · have fin : numB s.data.toList m = false := by unfold numB; simp [hsl]; omega
    have FIN := Lib.hid fin
    clear fin hsl
    go_enter Tryz.func144, Tryz.ntmps144
    go_wp2
    go_ret
    exact ⟨by rw [FIN.out]; rfl, (by with_reducible repeat (first | exact Grown.refl _ | apply Grown.more | apply Grown.alloc | apply Grown.drewN | apply Grown.drew))⟩
  by_cases h3 : 1 < s.size ∧ s[0]'(by omega) = 48
  · obtain ⟨h3, h4⟩ := h3
    have fin : numB s.data.toList m = false := by
      unfold numB
      have e : s.data.toList.head? = some 48 := by rw [← h4, List.head?_eq_getElem?, List.getElem?_eq_getElem (by rw [hsl]; omega)]; rfl
      simp [hsl, e]
      omega
    have FIN := Lib.hid fin
    have h5 : ((s[0]'(by omega)).toNat : Int) = 48 := by rw [h4]; rfl
    clear fin h4
    go_enter Tryz.func144, Tryz.ntmps144
    go_wp2
    go_ret
    exact ⟨by rw [FIN.out]; rfl, (by with_reducible repeat (first | exact Grown.refl _ | apply Grown.more | apply Grown.alloc | apply Grown.drewN | apply Grown.drew))⟩
  · have h6 : (1 : Int) ≤ (s.size : Int) := by omega
    have h7 : (s.size : Int) ≤ (m : Int) := by omega
    have hnum : numB s.data.toList m = s.data.toList.all isDig := by
      have hA : 1 ≤ s.data.toList.length ∧ s.data.toList.length ≤ m := by rw [hsl]; omega
      have hB : (decide (s.data.toList.length ≤ 1) || decide (s.data.toList.head? ≠ some 48)) = true := by
        rw [Bool.or_eq_true, decide_eq_true_eq, decide_eq_true_eq, hsl]
        rcases Nat.lt_or_ge 1 s.size with h | h
        · refine .inr ?_
          rw [List.head?_eq_getElem?, List.getElem?_eq_getElem (by rw [hsl]; omega)]
          intro he
          injection he with he
          exact h3 ⟨h, he⟩
        · exact .inl h
      unfold numB
      rw [decide_eq_true hA, hB]
      rfl
    have HNUM := Lib.hid hnum
    clear hnum
    have hd1 : decide (m < s.size) = false := decide_eq_false h2
    have hd2 : decide ((s.size : Int) < 1) = false := decide_eq_false (by omega)
    have hcase : (s.size : Int) ≤ 1 ∨ ∃ h : 1 < s.size, (((s[0]'(Nat.lt_trans Nat.zero_lt_one h)).toNat : Int) == 48) = false := by
      rcases Nat.lt_or_ge 1 s.size with h | h
      · refine .inr ⟨h, ?_⟩
        rw [beq_eq_false_iff_ne]
        intro he
        refine h3 ⟨h, UInt8.toNat_inj.1 ?_⟩
        have : (48 : UInt8).toNat = 48 := rfl
        omega
      · exact .inl (by omega)
    rcases hcase with h8 | ⟨h8, h9⟩ <;> clear h1 h2 h3 hsl <;> go_enter Tryz.func144, Tryz.ntmps144 <;> go_wp2
    all_goals
      go_loopw [6] (fun _ wr => ∃ pos : Nat, pos ≤ s.size ∧ Hid ((s.data.toList.take pos).all isDig = true) ∧ wr = w.iter s pos) (fun _ wr => s.size - wr.iterPos w.heap.size)
      case atStart => exact ⟨0, by omega, rfl, rfl⟩
      case round =>
        obtain ⟨pos, hpos, hall, rfl⟩ := hrel
        by_cases hp : pos < s.size
        · have hnx : ∀ ty, (Instr.next (.pointer (some ⟨w.heap.size, 0, none⟩)) true ty).run Tryz.prog (w.iter s pos) = _ := fun ty => run_next_any w s pos ty hp
          have hel : s.data.toList[pos]'(by rw [size_list]; exact hp) = s[pos]'hp := rfl
          rcases rune_cases s pos hp with ⟨hdig, hw, hr1, hr2⟩ | ⟨hdig, hr1⟩ | ⟨hdig, hr1, hr2⟩
          · have hstep : (s.data.toList.take (pos + 1)).all isDig = true := by
              rw [List.take_succ_eq_append_getElem (by rw [size_list]; exact hp), List.all_append, hall.out, hel]
              simp [hdig]
            have HS := Lib.hid hstep
            have HW := Lib.hid hw
            clear hstep hw hel hdig
            go_wp2
            go_roundw
            case rel =>
              rw [HW.out]
              exact ⟨pos + 1, by omega, HS, rfl⟩
            case measure =>
              rw [World.iterPos_iter, World.iterPos_iter, HW.out]
              omega
          · have fin := all_false s.data.toList pos (by rw [size_list]; exact hp) (by rw [hel]; exact hdig)
            have FIN := Lib.hid fin
            clear fin hel hdig
            go_wp2
            go_ret
            exact ⟨by rw [HNUM.out, FIN.out]; rfl, (Grown.refl w).alloc _⟩
          · have fin := all_false s.data.toList pos (by rw [size_list]; exact hp) (by rw [hel]; exact hdig)
            have FIN := Lib.hid fin
            clear fin hel hdig
            go_wp2
            go_ret
            exact ⟨by rw [HNUM.out, FIN.out]; rfl, (Grown.refl w).alloc _⟩
        · have hnx : ∀ ty, (Instr.next (.pointer (some ⟨w.heap.size, 0, none⟩)) true ty).run Tryz.prog (w.iter s pos) = _ := fun ty => run_next_end w s pos ty hp
          go_wp2
          go_ret
          refine ⟨?_, ?_⟩
          · have hps : pos = s.size := by omega
            have := hall.out
            rw [hps, List.take_of_length_le (by rw [size_list]; omega)] at this
            rw [HNUM.out, this]
            rfl
          · exact (Grown.refl w).alloc _

end Go.Proofs.YtnohidkmjclojaaGreatDoor
