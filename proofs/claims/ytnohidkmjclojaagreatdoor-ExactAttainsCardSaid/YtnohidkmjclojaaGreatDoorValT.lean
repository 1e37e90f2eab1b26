/- Walks: exact's Hull, Meet, Contains, Outer, over lists of bytes. -/
import Derived.Test.YtnohidkmjclojaaGreatDoorValS
namespace Go.Proofs.YtnohidkmjclojaaGreatDoor
open Go.RowKit

/-- a range with a bool, as Go has it -/
def meetR (r : ((List UInt8 × List UInt8) × (List UInt8 × List UInt8)) × Bool) : Value := .tuple #[rngV r.1.1.1 r.1.1.2 r.1.2.1 r.1.2.2, .bool r.2]
/-- the second of two if it is better -/
def bestR (way : Int) (x0 x1 : List UInt8 × List UInt8) : List UInt8 × List UInt8 := if cmpS x1.1 x1.2 x0.1 x0.2 * way > 0 then x1 else x0
theorem bestR_or (way : Int) (x0 x1 : List UInt8 × List UInt8) :
    (cmpS x1.1 x1.2 x0.1 x0.2 * way > 0 ∧ (⟨(bestR way x0 x1).1.toArray⟩ : ByteArray) = ⟨x1.1.toArray⟩ ∧ (⟨(bestR way x0 x1).2.toArray⟩ : ByteArray) = ⟨x1.2.toArray⟩) ∨
    (¬ cmpS x1.1 x1.2 x0.1 x0.2 * way > 0 ∧ (⟨(bestR way x0 x1).1.toArray⟩ : ByteArray) = ⟨x0.1.toArray⟩ ∧ (⟨(bestR way x0 x1).2.toArray⟩ : ByteArray) = ⟨x0.2.toArray⟩) := by
  unfold bestR
  by_cases h : cmpS x1.1 x1.2 x0.1 x0.2 * way > 0
  · exact .inl ⟨h, by rw [if_pos h], by rw [if_pos h]⟩
  · exact .inr ⟨h, by rw [if_neg h], by rw [if_neg h]⟩
theorem bestR_len {way : Int} {x0 x1 : List UInt8 × List UInt8} (h0 : x0.1.length ≤ maxLen ∧ x0.2.length ≤ maxLen) (h1 : x1.1.length ≤ maxLen ∧ x1.2.length ≤ maxLen) : (bestR way x0 x1).1.length ≤ maxLen ∧ (bestR way x0 x1).2.length ≤ maxLen := by
  unfold bestR
  split
  · exact h1
  · exact h0
/-- what Hull returns -/
def hullS (a b c d a' b' c' d' : List UInt8) : ((List UInt8 × List UInt8) × (List UInt8 × List UInt8)) × Int :=
  if (properB a b c d && properB a' b' c' d') = false then ((([], []), ([], [])), 1) else ((bestR (-1) (a, b) (a', b'), bestR 1 (c, d) (c', d')), 0)
/-- what Meet returns -/
def meetS (a b c d a' b' c' d' : List UInt8) : ((List UInt8 × List UInt8) × (List UInt8 × List UInt8)) × Bool :=
  if (properB a b c d && properB a' b' c' d') = false then ((([], []), ([], [])), false)
  else if cmpS (bestR 1 (a, b) (a', b')).1 (bestR 1 (a, b) (a', b')).2 (bestR (-1) (c, d) (c', d')).1 (bestR (-1) (c, d) (c', d')).2 > 0 then ((([], []), ([], [])), false)
  else ((bestR 1 (a, b) (a', b'), bestR (-1) (c, d) (c', d')), true)
/-- what Contains returns -/
def containsB (a b c d x y : List UInt8) : Bool := properB a b c d && (validB x y && (decide (cmpS a b x y ≤ 0) && decide (cmpS x y c d ≤ 0)))
/-- what Outer returns -/
def outerS (a b c d x y : List UInt8) : ((List UInt8 × List UInt8) × (List UInt8 × List UInt8)) × Int :=
  if (properB a b c d && validB x y && !decide (sgS (rM x) (rX x) ≤ 0)) = false then ((([], []), ([], [])), 1)
  else if (roundS a b x y 1).2 ≠ 0 ∨ (roundS c d x y 2).2 ≠ 0 then ((([], []), ([], [])), 3) else (((roundS a b x y 1).1, (roundS c d x y 2).1), 0)

theorem Hull_any (a b c d a' b' c' d' : List UInt8) (w : World) (L : Lens a b c d) (L' : Lens a' b' c' d') :
    Calls Tryz.prog 33 #[rngV a b c d, rngV a' b' c' d'] w fun e w' => e = .returned (endsR (hullS a b c d a' b' c' d')) ∧ Grown w w' := by
  have P1 := Lib.hid fun w => Proper_any a b c d w L.a L.b L.c L.d
  have P2 := Lib.hid fun w => Proper_any a' b' c' d' w L'.a L'.b L'.c L'.d
  cases h : (properB a b c d && properB a' b' c' d')
  · have hr : hullS a b c d a' b' c' d' = ((([], []), ([], [])), 1) := by unfold hullS; rw [if_pos h]
    rw [hr]
    exact no_Hull ⟨a.toArray⟩ ⟨b.toArray⟩ ⟨c.toArray⟩ ⟨d.toArray⟩ ⟨a'.toArray⟩ ⟨b'.toArray⟩ ⟨c'.toArray⟩ ⟨d'.toArray⟩ _ _ w h P1 P2
  · have hr : hullS a b c d a' b' c' d' = ((bestR (-1) (a, b) (a', b'), bestR 1 (c, d) (c', d')), 0) := by unfold hullS; rw [if_neg (by rw [h]; decide)]
    rw [hr]
    obtain ⟨h1, h2⟩ : properB a b c d = true ∧ properB a' b' c' d' = true := by simpa using h
    rw [h1] at P1
    rw [h2] at P2
    exact Hull_x ⟨a.toArray⟩ ⟨b.toArray⟩ ⟨c.toArray⟩ ⟨d.toArray⟩ ⟨a'.toArray⟩ ⟨b'.toArray⟩ ⟨c'.toArray⟩ ⟨d'.toArray⟩ _ _ _ _ _ _ w P1 P2
      (Lib.hid fun w => Cmp_any a' b' a b w L'.a L'.b L.a L.b) (Lib.hid fun w => Cmp_any c' d' c d w L'.c L'.d L.c L.d) (Lib.hid (cmp_small _ _ _ _)) (Lib.hid (cmp_small _ _ _ _))
      (Lib.hid (bestR_or (-1) (a, b) (a', b'))) (Lib.hid (bestR_or 1 (c, d) (c', d')))

theorem Meet_any (a b c d a' b' c' d' : List UInt8) (w : World) (L : Lens a b c d) (L' : Lens a' b' c' d') :
    Calls Tryz.prog 35 #[rngV a b c d, rngV a' b' c' d'] w fun e w' => e = .returned (meetR (meetS a b c d a' b' c' d')) ∧ Grown w w' := by
  have P1 := Lib.hid fun w => Proper_any a b c d w L.a L.b L.c L.d
  have P2 := Lib.hid fun w => Proper_any a' b' c' d' w L'.a L'.b L'.c L'.d
  cases h : (properB a b c d && properB a' b' c' d')
  · have hr : meetS a b c d a' b' c' d' = ((([], []), ([], [])), false) := by unfold meetS; rw [if_pos h]
    rw [hr]
    exact no_Meet ⟨a.toArray⟩ ⟨b.toArray⟩ ⟨c.toArray⟩ ⟨d.toArray⟩ ⟨a'.toArray⟩ ⟨b'.toArray⟩ ⟨c'.toArray⟩ ⟨d'.toArray⟩ _ _ w h P1 P2
  · obtain ⟨h1, h2⟩ : properB a b c d = true ∧ properB a' b' c' d' = true := by simpa using h
    rw [h1] at P1
    rw [h2] at P2
    have hl1 := bestR_len (way := 1) (x0 := (a, b)) (x1 := (a', b')) ⟨L.a, L.b⟩ ⟨L'.a, L'.b⟩
    have hl2 := bestR_len (way := -1) (x0 := (c, d)) (x1 := (c', d')) ⟨L.c, L.d⟩ ⟨L'.c, L'.d⟩
    refine (Meet_x ⟨a.toArray⟩ ⟨b.toArray⟩ ⟨c.toArray⟩ ⟨d.toArray⟩ ⟨a'.toArray⟩ ⟨b'.toArray⟩ ⟨c'.toArray⟩ ⟨d'.toArray⟩ _ _ _ _ _ _
      (cmpS (bestR 1 (a, b) (a', b')).1 (bestR 1 (a, b) (a', b')).2 (bestR (-1) (c, d) (c', d')).1 (bestR (-1) (c, d) (c', d')).2) w P1 P2
      (Lib.hid fun w => Cmp_any a' b' a b w L'.a L'.b L.a L.b) (Lib.hid fun w => Cmp_any c' d' c d w L'.c L'.d L.c L.d)
      (Lib.hid fun w => Cmp_any _ _ _ _ w hl1.1 hl1.2 hl2.1 hl2.2) (Lib.hid (cmp_small _ _ _ _)) (Lib.hid (cmp_small _ _ _ _))
      (Lib.hid (bestR_or 1 (a, b) (a', b'))) (Lib.hid (bestR_or (-1) (c, d) (c', d')))).mono ?_
    rintro e w' ⟨rfl, hg⟩
    refine ⟨?_, hg⟩
    unfold meetS
    rw [h, if_neg (show ¬ true = false by decide)]
    by_cases hc : cmpS (bestR 1 (a, b) (a', b')).1 (bestR 1 (a, b) (a', b')).2 (bestR (-1) (c, d) (c', d')).1 (bestR (-1) (c, d) (c', d')).2 > 0
    · rw [if_pos hc, if_pos hc]
      rfl
    · rw [if_neg hc, if_neg hc]
      rfl

theorem Contains_any (a b c d x y : List UInt8) (w : World) (L : Lens a b c d) (hx : x.length ≤ maxLen) (hy : y.length ≤ maxLen) :
    Calls Tryz.prog 39 #[rngV a b c d, ratV x y] w fun e w' => e = .returned (.bool (containsB a b c d x y)) ∧ Grown w w' :=
  Contains_x ⟨a.toArray⟩ ⟨b.toArray⟩ ⟨c.toArray⟩ ⟨d.toArray⟩ ⟨x.toArray⟩ ⟨y.toArray⟩ _ _ _ _ _ _ w (Lib.hid fun w => Proper_any a b c d w L.a L.b L.c L.d) (Lib.hid fun w => Valid_any x y w hx hy)
    (Lib.hid fun w => Cmp_any a b x y w L.a L.b hx hy) (Lib.hid fun w => Cmp_any x y c d w hx hy L.c L.d) rfl rfl

set_option maxRecDepth 100000 in
set_option maxHeartbeats 1000000 in
theorem Outer_no (s1 s2 s3 s4 x y : ByteArray) (b1 : Bool) (w : World)
    (P1 : Hid (∀ w, Calls Tryz.prog 25 #[.agg #[.string s1, .string s2, .string s3, .string s4]] w fun e w' => e = .returned (.bool b1) ∧ Grown w w'))
    (K : Hid (∀ w, Calls Tryz.prog 97 #[.agg #[.string x, .string y]] w fun e w' => (∃ m u v, e = .returned (.tuple #[.agg (val m u v), .bool false])) ∧ Grown w w')) :
    Calls Tryz.prog 37 #[.agg #[.string s1, .string s2, .string s3, .string s4], .agg #[.string x, .string y]] w fun e w' => e = .returned (.tuple #[.agg #[.string ⟨#[]⟩, .string ⟨#[]⟩, .string ⟨#[]⟩, .string ⟨#[]⟩], .int .i64 1]) ∧ Grown w w' := by
  cases b1
  all_goals
    go_enter Tryz.func37, Tryz.ntmps37
    go_wp2_with (first | (go_at_call 25; ((with_reducible refine (P1.out _).mono ?_); rintro e w' ⟨rfl, os1, d1, rfl⟩)) | (go_at_call 97; ((with_reducible refine (K.out _).mono ?_); rintro e w' ⟨⟨m, u, v, rfl⟩, os2, d2, rfl⟩)))
    refine bodyPost_ret (v := .tuple #[.agg #[.string ⟨#[]⟩, .string ⟨#[]⟩, .string ⟨#[]⟩, .string ⟨#[]⟩], .int .i64 1]) (ret_rng_tmp rfl rfl rfl ?_) rfl ⟨?_, ?_⟩
    · go_simp
    · rfl
    · exact (by with_reducible repeat (first | exact Grown.refl _ | apply Grown.more | apply Grown.alloc | apply Grown.drewN | apply Grown.drew))

theorem Outer_any (a b c d x y : List UInt8) (w : World) (L : Lens a b c d) (hx : x.length ≤ maxLen) (hy : y.length ≤ maxLen) (hpow : Pow10 w) :
    Calls Tryz.prog 37 #[rngV a b c d, ratV x y] w fun e w' => e = .returned (endsR (outerS a b c d x y)) ∧ Grown w w' := by
  have P1 := Lib.hid fun w => Proper_any a b c d w L.a L.b L.c L.d
  cases hv : validB x y
  · have hr : outerS a b c d x y = ((([], []), ([], [])), 1) := by unfold outerS; rw [hv, if_pos (by simp)]
    rw [hr]
    exact Outer_no ⟨a.toArray⟩ ⟨b.toArray⟩ ⟨c.toArray⟩ ⟨d.toArray⟩ ⟨x.toArray⟩ ⟨y.toArray⟩ _ w P1 (Lib.hid fun w => known_no x y w hx hy hv)
  · refine (Outer_x ⟨a.toArray⟩ ⟨b.toArray⟩ ⟨c.toArray⟩ ⟨d.toArray⟩ ⟨x.toArray⟩ ⟨y.toArray⟩ (properB a b c d) true _ (rM x) (rX x) (valN y) (sgS (rM x) (rX x)) ⟨(roundS a b x y 1).1.1.toArray⟩ ⟨(roundS a b x y 1).1.2.toArray⟩ ⟨(roundS c d x y 2).1.1.toArray⟩ ⟨(roundS c d x y 2).1.2.toArray⟩ (roundS a b x y 1).2 (roundS c d x y 2).2 _ w P1
      (Lib.hid fun w => known_yes x y w hx hy hv) (Lib.hid fun w => signed_any _ _ _ w) rfl (Lib.hid fun _ _ _ w hw => Round_any a b x y 1 w L.a L.b hx hy (by omega) (by omega) hw) (Lib.hid fun _ _ _ w hw => Round_any c d x y 2 w L.c L.d hx hy (by omega) (by omega) hw) (Lib.hid hpow) (Lib.hid rfl)).mono ?_
    rintro e w' ⟨rfl, hg⟩
    refine ⟨?_, hg⟩
    unfold outerS
    rw [hv]
    split
    · rfl
    · split
      · rfl
      · rfl
end Go.Proofs.YtnohidkmjclojaaGreatDoor
