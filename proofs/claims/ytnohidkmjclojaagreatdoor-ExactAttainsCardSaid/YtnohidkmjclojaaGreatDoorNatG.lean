/- Walks: exact's texts of numbers. -/
import Derived.Test.YtnohidkmjclojaaGreatDoorNatE
namespace Go.Proofs.YtnohidkmjclojaaGreatDoor
open Go.RowKit

/-- the library's table of powers of ten is as it was laid -/
def Pow10 (w : World) : Prop := Lib.TabIs Tryz.prog w "internal/strconv.uint64pow10" .u64 Lib.pow10Tab
theorem var_grown {P : Program} {w w' : World} {n : String} {cs : Array Value} (h : w.var? P n = some cs) (hg : Grown w w') : w'.var? P n = some cs := by
  obtain ⟨os, d, rfl⟩ := hg
  unfold World.var? at h ⊢
  cases hn : P.globalNamed n with
  | none => rw [hn] at h; cases h
  | some g =>
    rw [hn] at h
    simp only [Option.bind_some] at h ⊢
    have hlt : g < w.heap.size := by
      rcases Nat.lt_or_ge g w.heap.size with hl | hl
      · exact hl
      · rw [Array.getElem?_eq_none hl] at h; cases h
    rw [heap_grow w os d g hlt]
    exact h
theorem Pow10.grown {w w' : World} (h : Pow10 w) (hg : Grown w w') : Pow10 w' := var_grown h hg

theorem Itoa_any (n : Nat) (w : World) (hn : n ≤ 9223372036854775807) (hp : Pow10 w) :
    Calls Tryz.prog 194 #[.int .i64 (n : Nat)] w fun e w' => e = .returned (.string ⟨(Lib.decDigits n).toArray⟩) ∧ Grown w w' :=
  (Tryz.strconv_Itoa n (by omega) (by omega) w hp).mono fun e w' ⟨he, k, os, hw⟩ => by
    rw [Lib.itoa_nonneg] at he
    exact ⟨he, os, w.drawn + k, hw⟩
theorem Repeat_any (c : Nat) (w : World) (hc : c ≤ 100) :
    Calls Tryz.prog 195 #[.string ⟨#[48]⟩, .int .i64 (c : Nat)] w fun e w' => e = .returned (.string ⟨(Lib.repeatL [48] c).toArray⟩) ∧ Grown w w' :=
  (Tryz.strings_Repeat ⟨#[48]⟩ c w (by omega) (by show 1 * c ≤ _; omega)).mono fun _ _ ⟨he, hb⟩ => ⟨he, Grown.of_below hb⟩

theorem app_list (a b : ByteArray) : (a ++ b).data.toList = a.data.toList ++ b.data.toList := by simp
theorem dd_400 {x : Nat} (h : dl 4294967296 x ≤ 32) : (Lib.decDigits x).length ≤ 400 := by
  rw [dd_len_le (by omega)]
  exact Nat.lt_of_lt_of_le ((dl_le_iff (by omega) _ _).1 h) (by decide +kernel)

set_option maxRecDepth 100000 in
set_option maxHeartbeats 1000000 in
/-- text returns the digits of a number -/
theorem text_any (x : Nat) (w : World) (hx : dl 4294967296 x ≤ 32) (hpow : Pow10 w) :
    Calls Tryz.prog 166 #[.agg (nat x)] w fun e w' => e = .returned (.string ⟨(Lib.decDigits x).toArray⟩) ∧ Grown w w' := by
  have h400 := dd_400 hx
  rcases Nat.eq_zero_or_pos x with h0 | h0
  · subst h0
    have hz : (dl 4294967296 0 : Int) = 0 := by rw [dl_zero]; rfl
    have fin : Lib.decDigits 0 = [48] := dd_small (by omega)
    have FIN := Lib.hid fin
    clear fin h400
    go_enter Tryz.func166, Tryz.ntmps166
    go_wp2
    go_ret
    exact ⟨by rw [FIN.out]; rfl, (by with_reducible repeat (first | exact Grown.refl _ | apply Grown.more | apply Grown.alloc | apply Grown.drewN | apply Grown.drew))⟩
  · have hne : ((dl 4294967296 x : Int) == 0) = false := by
      rw [beq_eq_false_iff_ne]
      have := (dl_pos_iff (B := 4294967296) (by omega)).2 h0
      omega
    go_enter Tryz.func166, Tryz.ntmps166
    go_wp2
    go_loopg [3] x (fun g sv wr => ∃ (y : Nat) (t : ByteArray), sv = .string t ∧ y = g ∧ y ≤ x ∧ ((0 < y ∧ Lib.decDigits y ++ t.data.toList = Lib.decDigits x) ∨ (y = 0 ∧ t.data.toList = Lib.decDigits x)) ∧
      Grown (w.alloc (.cells (nat y) 110)) wr)
    case atStart => exact ⟨x, ⟨#[]⟩, rfl, rfl, Nat.le_refl _, .inl ⟨h0, by simp⟩, Grown.refl _⟩
    case round =>
      obtain ⟨y, t, rfl, rfl, hyx, hor, os, d, rfl⟩ := hrel
      rcases Nat.eq_zero_or_pos y with hy | hy
      · subst hy
        have fin : t.data.toList = Lib.decDigits x := by rcases hor with ⟨h, _⟩ | ⟨_, h⟩; omega; exact h
        have FIN := Lib.hid fin
        have hz : (dl 4294967296 0 : Int) = 0 := by rw [dl_zero]; rfl
        clear fin hor
        go_wp2
        go_ret
        refine ⟨?_, (by with_reducible repeat (first | exact Grown.refl _ | apply Grown.more | apply Grown.alloc | apply Grown.drewN | apply Grown.drew))⟩
        rw [← FIN.out]
        rfl
      · have hdd : Lib.decDigits y ++ t.data.toList = Lib.decDigits x := by rcases hor with ⟨_, h⟩ | ⟨h, _⟩; exact h; omega
        have hlen := congrArg List.length hdd
        rw [List.length_append, size_list] at hlen
        have hdy := Nat.le_trans (dl_mono (B := 4294967296) (by omega) hyx) hx
        have hts : (t.size : Int) ≤ 400 := by omega
        have hpos : (0 : Int) < dl 4294967296 y := by have := (dl_pos_iff (B := 4294967296) (by omega)).2 hy; omega
        have hsh := short_any y 1000000000
        obtain ⟨Q, hQ⟩ : ∃ Q, Q = y / 1000000000 := ⟨_, rfl⟩
        obtain ⟨R, hR⟩ : ∃ R, R = y % 1000000000 := ⟨_, rfl⟩
        have hR9 : R < 1000000000 := by omega
        rw [← hQ, ← hR] at hsh
        have HSH := Lib.hid hsh
        have hitoa := Itoa_any R
        obtain ⟨u, hu⟩ : ∃ u : ByteArray, u = ⟨(Lib.decDigits R).toArray⟩ := ⟨_, rfl⟩
        have hul : u.data.toList = Lib.decDigits R := by rw [hu]
        rw [← hu] at hitoa
        have hus : u.size = (Lib.decDigits R).length := by rw [← size_list, hul]
        have hu9 : u.size ≤ 9 := by rw [hus, dd_len_le (by omega)]; omega
        have HIT := Lib.hid hitoa
        have HDD := Lib.hid hdd
        have HUL := Lib.hid hul
        have HQ := Lib.hid hQ
        have HR := Lib.hid hR
        have hpw : ∀ os d, Pow10 (grow (w.alloc (.cells (nat y) 110)) os d) := fun os d => hpow.grown (by with_reducible repeat (first | exact Grown.refl _ | apply Grown.more | apply Grown.alloc | apply Grown.drewN | apply Grown.drew))
        rcases Nat.eq_zero_or_pos Q with hq0 | hq0
        · have hqz : (dl 4294967296 Q : Int) = 0 := by rw [hq0, dl_zero]; rfl
          have hyR : y = R := by omega
          have HYR := Lib.hid hyR
          have HQ0 := Lib.hid hq0
          have HPW := Lib.hid hpw
          clear hor hdd hlen hsh hQ hR hitoa hu hul hus hq0 hyR hpw
          go_wp2_with fail
          refine (HSH.out _ hdy (by decide) (by decide)).mono ?_
          rintro e w' ⟨rfl, os1, d1, rfl⟩
          go_wp2_with fail
          refine (HIT.out _ (by omega) (hpow.grown (by with_reducible repeat (first | exact Grown.refl _ | apply Grown.more | apply Grown.alloc | apply Grown.drewN | apply Grown.drew)))).mono ?_
          rintro e w' ⟨rfl, os2, d2, rfl⟩
          go_wp2
          go_roundg 0
          case measure => omega
          case rel =>
            refine ⟨0, u ++ t, rfl, rfl, by omega, .inr ⟨rfl, ?_⟩, ?_⟩
            · rw [app_list, HUL.out, ← HYR.out]
              exact HDD.out
            · rw [HQ0.out]
              exact (by with_reducible repeat (first | exact Grown.refl _ | apply Grown.more | apply Grown.alloc | apply Grown.drewN | apply Grown.drew))
        · have hqp : (0 : Int) < dl 4294967296 Q := by have := (dl_pos_iff (B := 4294967296) (by omega)).2 hq0; omega
          have hqy : Q < y := by omega
          obtain ⟨c, hc⟩ : ∃ c : Nat, (9 : Int) - (u.size : Int) = (c : Int) := ⟨9 - u.size, by omega⟩
          have hc9 : c ≤ 100 := by omega
          have hrep := Repeat_any c
          obtain ⟨z, hz⟩ : ∃ z : ByteArray, z = ⟨(Lib.repeatL [48] c).toArray⟩ := ⟨_, rfl⟩
          have hzl : z.data.toList = Lib.repeatL [48] c := by rw [hz]
          have hzs : z.size = c := by rw [← size_list, hzl, repeat_zeros, List.length_replicate]
          rw [← hz] at hrep
          have hz9 : (z.size : Int) ≤ 9 := by omega
          have hcc : c = 9 - (Lib.decDigits R).length := by omega
          have HREP := Lib.hid hrep
          have HZL := Lib.hid hzl
          have HCC := Lib.hid hcc
          clear hor hdd hlen hsh hQ hR hitoa hu hul hus hpw hrep hz hzl hzs hcc
          go_wp2_with fail
          refine (HSH.out _ hdy (by decide) (by decide)).mono ?_
          rintro e w' ⟨rfl, os1, d1, rfl⟩
          go_wp2_with fail
          refine (HIT.out _ (by omega) (hpow.grown (by with_reducible repeat (first | exact Grown.refl _ | apply Grown.more | apply Grown.alloc | apply Grown.drewN | apply Grown.drew)))).mono ?_
          rintro e w' ⟨rfl, os2, d2, rfl⟩
          go_wp2_with fail
          refine (HREP.out _ hc9).mono ?_
          rintro e w' ⟨rfl, os3, d3, rfl⟩
          go_wp2
          go_roundg Q
          case measure => omega
          case rel =>
            refine ⟨Q, z ++ u ++ t, rfl, rfl, by omega, .inl ⟨hq0, ?_⟩, (by with_reducible repeat (first | exact Grown.refl _ | apply Grown.more | apply Grown.alloc | apply Grown.drewN | apply Grown.drew))⟩
            rw [app_list, app_list, HZL.out, HUL.out, HCC.out, ← HDD.out, dd_chunk (x := y) (by rw [← HQ.out]; exact hq0), ← HQ.out, ← HR.out]
            simp only [pad9, List.append_assoc]
end Go.Proofs.YtnohidkmjclojaaGreatDoor
