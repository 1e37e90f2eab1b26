/- Walks: exact's both. -/
import Derived.Test.YtnohidkmjclojaaGreatDoorValD
namespace Go.Proofs.YtnohidkmjclojaaGreatDoor
open Go.RowKit

/-- the sign, numerator and denominator of a text -/
def rM (n : List UInt8) : Bool := decide (n.head? = some 45)
def rX (n : List UInt8) : Nat := valN (cutMinus n)
theorem known_yes (n d : List UInt8) (w : World) (hn : n.length ≤ maxLen) (hd : d.length ≤ maxLen) (h : validB n d = true) :
    Calls Tryz.prog 97 #[ratV n d] w fun e w' => e = .returned (.tuple #[.agg (val (rM n) (rX n) (valN d)), .bool true]) ∧ Grown w w' := by
  refine (known_any n d w hn hd).mono ?_
  rintro e w' ⟨⟨m, x, y, rfl, hh⟩, hg⟩
  obtain ⟨rfl, rfl, rfl⟩ := hh h
  exact ⟨by rw [h]; rfl, hg⟩
theorem known_no (n d : List UInt8) (w : World) (hn : n.length ≤ maxLen) (hd : d.length ≤ maxLen) (h : validB n d = false) :
    Calls Tryz.prog 97 #[ratV n d] w fun e w' => (∃ m x y, e = .returned (.tuple #[.agg (val m x y), .bool false])) ∧ Grown w w' := by
  refine (known_any n d w hn hd).mono ?_
  rintro e w' ⟨⟨m, x, y, rfl, hh⟩, hg⟩
  exact ⟨⟨m, x, y, by rw [h]⟩, hg⟩

/-- what both returns -/
def bothS (b : Bool) (M : Bool) (X Y : Nat) : (List UInt8 × List UInt8) × Int :=
  if b = false then (([], []), 1) else if Y = 0 then (([], []), 20) else toldS M X Y

set_option maxRecDepth 100000 in
set_option maxHeartbeats 1000000 in
/-- both computes with two fractions -/
theorem both_plus (n d n' d' : List UInt8) (M : Bool) (X Y : Nat) (w : World) (hn : n.length ≤ maxLen) (hd : d.length ≤ maxLen) (hn' : n'.length ≤ maxLen) (hd' : d'.length ≤ maxLen)
    (hdo : validB n d = true → validB n' d' = true → ∀ w, Calls Tryz.prog 75 #[.agg (val (rM n) (rX n) (valN d)), .agg (val (rM n') (rX n') (valN d'))] w fun e w' => e = .returned (.agg (val M X Y)) ∧ Grown w w')
    (hX : dl 4294967296 X ≤ 32) (hY : dl 4294967296 (2 * Y) ≤ 32) (hpow : Pow10 w) :
    Calls Tryz.prog 94 #[ratV n d, ratV n' d', .func (.func 75) #[] #[]] w fun e w' =>
      e = .returned (.tuple #[ratV (bothS (validB n d && validB n' d') M X Y).1.1 (bothS (validB n d && validB n' d') M X Y).1.2, .int .i64 (bothS (validB n d && validB n' d') M X Y).2]) ∧ Grown w w' := by
  have hbs : ∀ b, bothS b M X Y = if b = false then (([], []), 1) else if Y = 0 then (([], []), 20) else toldS M X Y := fun b => rfl
  have ky1 := known_yes n d
  have ky2 := known_yes n' d'
  have kn1 := known_no n d
  have kn2 := known_no n' d'
  obtain ⟨b1, hb1⟩ : ∃ b, b = validB n d := ⟨_, rfl⟩
  obtain ⟨b2, hb2⟩ : ∃ b, b = validB n' d' := ⟨_, rfl⟩
  obtain ⟨m1, hm1⟩ : ∃ b, b = rM n := ⟨_, rfl⟩
  obtain ⟨m2, hm2⟩ : ∃ b, b = rM n' := ⟨_, rfl⟩
  obtain ⟨x1, hx1⟩ : ∃ b, b = rX n := ⟨_, rfl⟩
  obtain ⟨x2, hx2⟩ : ∃ b, b = rX n' := ⟨_, rfl⟩
  obtain ⟨y1, hy1⟩ : ∃ b, b = valN d := ⟨_, rfl⟩
  obtain ⟨y2, hy2⟩ : ∃ b, b = valN d' := ⟨_, rfl⟩
  rw [← hb1, ← hm1, ← hx1, ← hy1] at hdo ky1
  rw [← hb2, ← hm2, ← hx2, ← hy2] at hdo ky2
  rw [← hb1] at kn1 ⊢
  rw [← hb2] at kn2 ⊢
  clear hb1 hb2 hm1 hm2 hx1 hx2 hy1 hy2
  unfold ratV at ky1 ky2 kn1 kn2 ⊢
  obtain ⟨r1, hr1⟩ : ∃ r, r = Value.agg #[.string ⟨n.toArray⟩, .string ⟨d.toArray⟩] := ⟨_, rfl⟩
  obtain ⟨sn, hsn⟩ : ∃ s : ByteArray, s = ⟨n.toArray⟩ := ⟨_, rfl⟩
  obtain ⟨sd, hsd⟩ : ∃ s : ByteArray, s = ⟨d.toArray⟩ := ⟨_, rfl⟩
  obtain ⟨sn', hsn'⟩ : ∃ s : ByteArray, s = ⟨n'.toArray⟩ := ⟨_, rfl⟩
  obtain ⟨sd', hsd'⟩ : ∃ s : ByteArray, s = ⟨d'.toArray⟩ := ⟨_, rfl⟩
  rw [← hsn, ← hsd] at ky1 kn1 ⊢
  rw [← hsn', ← hsd'] at ky2 kn2 ⊢
  clear hsn hsd hsn' hsd'
  have HBS := Lib.hid hbs
  have KY1 := Lib.hid ky1
  have KY2 := Lib.hid ky2
  have KN1 := Lib.hid kn1
  have KN2 := Lib.hid kn2
  have HDO := Lib.hid hdo
  clear hbs ky1 ky2 kn1 kn2 hdo
  have hfail : (b1 && b2) = false → Calls Tryz.prog 94 #[.agg #[.string sn, .string sd], .agg #[.string sn', .string sd'], .func (.func 75) #[] #[]] w fun e w' => e = .returned (.tuple #[ratV (bothS false M X Y).1.1 (bothS false M X Y).1.2, .int .i64 (bothS false M X Y).2]) ∧ Grown w w' := by
    intro h
    clear HDO hX hY
    cases b1 <;> cases b2 <;> first | (exact absurd h (by decide)) | skip
    all_goals
      clear h
      go_enter Tryz.func94, Tryz.ntmps94
      go_wp2_with (first | (go_at_call 97; ((with_reducible refine (KN1.out _ hn hd (by trivial)).mono ?_); rintro e w' ⟨⟨m1', x1', y1', rfl⟩, ⟨os1, e1, rfl⟩⟩)) | (go_at_call 97; ((with_reducible refine (KY1.out _ hn hd (by trivial)).mono ?_); rintro e w' ⟨rfl, ⟨os1, e1, rfl⟩⟩)) | (go_at_call 97; ((with_reducible refine (KN2.out _ hn' hd' (by trivial)).mono ?_); rintro e w' ⟨⟨m2', x2', y2', rfl⟩, ⟨os2, e2, rfl⟩⟩)) | (go_at_call 97; ((with_reducible refine (KY2.out _ hn' hd' (by trivial)).mono ?_); rintro e w' ⟨rfl, ⟨os2, e2, rfl⟩⟩)))
      refine bodyPost_ret (v := .tuple #[.agg #[.string ⟨#[]⟩, .string ⟨#[]⟩], .int .i64 1]) (ret_rat_tmp rfl rfl rfl ?_) rfl ⟨by rw [HBS.out]; rfl, ?_⟩
      · go_simp
      · exact (by with_reducible repeat (first | exact Grown.refl _ | apply Grown.more | apply Grown.alloc | apply Grown.drewN | apply Grown.drew))
  cases b1
  · exact hfail rfl
  cases b2
  · exact hfail rfl
  clear hfail
  have HD := Lib.hid (HDO.out rfl rfl)
  have htold := told_any M X Y
  obtain ⟨T, hT⟩ : ∃ T, T = toldS M X Y := ⟨_, rfl⟩
  have hbt := HBS.out true
  rw [← hT] at htold hbt
  obtain ⟨U, hU⟩ : ∃ U, U = bothS true M X Y := ⟨_, rfl⟩
  rw [← hU] at hbt
  show Calls Tryz.prog 94 #[.agg #[.string sn, .string sd], .agg #[.string sn', .string sd'], .func (.func 75) #[] #[]] w fun e w' => e = .returned (.tuple #[ratV (bothS true M X Y).1.1 (bothS true M X Y).1.2, .int .i64 (bothS true M X Y).2]) ∧ Grown w w'
  rw [← hU]
  obtain ⟨⟨t1, t2⟩, t3⟩ := T
  clear HDO HBS hU hT
  unfold ratV at htold
  obtain ⟨s1, hs1⟩ : ∃ s : ByteArray, s = ⟨t1.toArray⟩ := ⟨_, rfl⟩
  obtain ⟨s2, hs2⟩ : ∃ s : ByteArray, s = ⟨t2.toArray⟩ := ⟨_, rfl⟩
  dsimp only at htold hbt
  rw [← hs1, ← hs2] at htold
  have HS1 := Lib.hid hs1
  have HS2 := Lib.hid hs2
  clear hs1 hs2
  have HT := Lib.hid htold
  have HB := Lib.hid hbt
  clear htold hbt
  have hcase : (Y = 0 ∧ ((dl 4294967296 Y : Int) == 0) = true) ∨ (0 < Y ∧ ((dl 4294967296 Y : Int) == 0) = false) := by
    rcases Nat.eq_zero_or_pos Y with h | h
    · exact .inl ⟨h, by rw [h, dl_zero]; rfl⟩
    · have := (dl_pos_iff (B := 4294967296) (by omega)).2 h
      exact .inr ⟨h, by rw [beq_eq_false_iff_ne]; omega⟩
  rcases hcase with ⟨h0, h1⟩ | ⟨h0, h1⟩
  · have H0 := Lib.hid h0
    clear h0
    go_enter Tryz.func94, Tryz.ntmps94
    go_wp2_with (first | (go_at_call 75; (with_reducible refine (HD.out _).mono ?_); rintro e w' ⟨rfl, ⟨os3, e3, rfl⟩⟩) | (go_at_call 97; ((with_reducible refine (KN1.out _ hn hd (by trivial)).mono ?_); rintro e w' ⟨⟨m1', x1', y1', rfl⟩, ⟨os1, e1, rfl⟩⟩)) | (go_at_call 97; ((with_reducible refine (KY1.out _ hn hd (by trivial)).mono ?_); rintro e w' ⟨rfl, ⟨os1, e1, rfl⟩⟩)) | (go_at_call 97; ((with_reducible refine (KN2.out _ hn' hd' (by trivial)).mono ?_); rintro e w' ⟨⟨m2', x2', y2', rfl⟩, ⟨os2, e2, rfl⟩⟩)) | (go_at_call 97; ((with_reducible refine (KY2.out _ hn' hd' (by trivial)).mono ?_); rintro e w' ⟨rfl, ⟨os2, e2, rfl⟩⟩)))
    refine bodyPost_ret (v := .tuple #[.agg #[.string ⟨#[]⟩, .string ⟨#[]⟩], .int .i64 20]) (ret_rat_tmp rfl rfl rfl ?_) rfl ⟨by rw [HB.out, if_neg (by decide), if_pos H0.out]; rfl, ?_⟩
    · go_simp
    · exact (by with_reducible repeat (first | exact Grown.refl _ | apply Grown.more | apply Grown.alloc | apply Grown.drewN | apply Grown.drew))
  · have H0 := Lib.hid h0
    clear h0
    go_enter Tryz.func94, Tryz.ntmps94
    go_wp2_with (first | (go_at_call 75; (with_reducible refine (HD.out _).mono ?_); rintro e w' ⟨rfl, ⟨os3, e3, rfl⟩⟩) | (go_at_call 130; ((with_reducible refine (HT.out _ hX hY H0.out ?_).mono ?_); (exact hpow.grown (by with_reducible repeat (first | exact Grown.refl _ | apply Grown.more | apply Grown.alloc | apply Grown.drewN | apply Grown.drew))); rintro e w' ⟨rfl, os4, e4, rfl⟩)) | (go_at_call 97; ((with_reducible refine (KN1.out _ hn hd (by trivial)).mono ?_); rintro e w' ⟨⟨m1', x1', y1', rfl⟩, ⟨os1, e1, rfl⟩⟩)) | (go_at_call 97; ((with_reducible refine (KY1.out _ hn hd (by trivial)).mono ?_); rintro e w' ⟨rfl, ⟨os1, e1, rfl⟩⟩)) | (go_at_call 97; ((with_reducible refine (KN2.out _ hn' hd' (by trivial)).mono ?_); rintro e w' ⟨⟨m2', x2', y2', rfl⟩, ⟨os2, e2, rfl⟩⟩)) | (go_at_call 97; ((with_reducible refine (KY2.out _ hn' hd' (by trivial)).mono ?_); rintro e w' ⟨rfl, ⟨os2, e2, rfl⟩⟩)))
    refine bodyPost_ret (v := .tuple #[.agg #[.string s1, .string s2], .int .i64 t3]) (ret_rat_tmp rfl rfl rfl ?_) rfl ⟨by rw [HB.out, if_neg (by decide), if_neg (by have := H0.out; omega), HS1.out, HS2.out]; rfl, ?_⟩
    · go_simp
    · exact (by with_reducible repeat (first | exact Grown.refl _ | apply Grown.more | apply Grown.alloc | apply Grown.drewN | apply Grown.drew))
set_option maxRecDepth 100000 in
set_option maxHeartbeats 1000000 in
/-- both computes with two fractions -/
theorem both_sub (n d n' d' : List UInt8) (M : Bool) (X Y : Nat) (w : World) (hn : n.length ≤ maxLen) (hd : d.length ≤ maxLen) (hn' : n'.length ≤ maxLen) (hd' : d'.length ≤ maxLen)
    (hdo : validB n d = true → validB n' d' = true → ∀ w, Calls Tryz.prog 95 #[.agg (val (rM n) (rX n) (valN d)), .agg (val (rM n') (rX n') (valN d'))] w fun e w' => e = .returned (.agg (val M X Y)) ∧ Grown w w')
    (hX : dl 4294967296 X ≤ 32) (hY : dl 4294967296 (2 * Y) ≤ 32) (hpow : Pow10 w) :
    Calls Tryz.prog 94 #[ratV n d, ratV n' d', .func (.func 95) #[] #[]] w fun e w' =>
      e = .returned (.tuple #[ratV (bothS (validB n d && validB n' d') M X Y).1.1 (bothS (validB n d && validB n' d') M X Y).1.2, .int .i64 (bothS (validB n d && validB n' d') M X Y).2]) ∧ Grown w w' := by
  have hbs : ∀ b, bothS b M X Y = if b = false then (([], []), 1) else if Y = 0 then (([], []), 20) else toldS M X Y := fun b => rfl
  have ky1 := known_yes n d
  have ky2 := known_yes n' d'
  have kn1 := known_no n d
  have kn2 := known_no n' d'
  obtain ⟨b1, hb1⟩ : ∃ b, b = validB n d := ⟨_, rfl⟩
  obtain ⟨b2, hb2⟩ : ∃ b, b = validB n' d' := ⟨_, rfl⟩
  obtain ⟨m1, hm1⟩ : ∃ b, b = rM n := ⟨_, rfl⟩
  obtain ⟨m2, hm2⟩ : ∃ b, b = rM n' := ⟨_, rfl⟩
  obtain ⟨x1, hx1⟩ : ∃ b, b = rX n := ⟨_, rfl⟩
  obtain ⟨x2, hx2⟩ : ∃ b, b = rX n' := ⟨_, rfl⟩
  obtain ⟨y1, hy1⟩ : ∃ b, b = valN d := ⟨_, rfl⟩
  obtain ⟨y2, hy2⟩ : ∃ b, b = valN d' := ⟨_, rfl⟩
  rw [← hb1, ← hm1, ← hx1, ← hy1] at hdo ky1
  rw [← hb2, ← hm2, ← hx2, ← hy2] at hdo ky2
  rw [← hb1] at kn1 ⊢
  rw [← hb2] at kn2 ⊢
  clear hb1 hb2 hm1 hm2 hx1 hx2 hy1 hy2
  unfold ratV at ky1 ky2 kn1 kn2 ⊢
  obtain ⟨r1, hr1⟩ : ∃ r, r = Value.agg #[.string ⟨n.toArray⟩, .string ⟨d.toArray⟩] := ⟨_, rfl⟩
  obtain ⟨sn, hsn⟩ : ∃ s : ByteArray, s = ⟨n.toArray⟩ := ⟨_, rfl⟩
  obtain ⟨sd, hsd⟩ : ∃ s : ByteArray, s = ⟨d.toArray⟩ := ⟨_, rfl⟩
  obtain ⟨sn', hsn'⟩ : ∃ s : ByteArray, s = ⟨n'.toArray⟩ := ⟨_, rfl⟩
  obtain ⟨sd', hsd'⟩ : ∃ s : ByteArray, s = ⟨d'.toArray⟩ := ⟨_, rfl⟩
  rw [← hsn, ← hsd] at ky1 kn1 ⊢
  rw [← hsn', ← hsd'] at ky2 kn2 ⊢
  clear hsn hsd hsn' hsd'
  have HBS := Lib.hid hbs
  have KY1 := Lib.hid ky1
  have KY2 := Lib.hid ky2
  have KN1 := Lib.hid kn1
  have KN2 := Lib.hid kn2
  have HDO := Lib.hid hdo
  clear hbs ky1 ky2 kn1 kn2 hdo
  have hfail : (b1 && b2) = false → Calls Tryz.prog 94 #[.agg #[.string sn, .string sd], .agg #[.string sn', .string sd'], .func (.func 95) #[] #[]] w fun e w' => e = .returned (.tuple #[ratV (bothS false M X Y).1.1 (bothS false M X Y).1.2, .int .i64 (bothS false M X Y).2]) ∧ Grown w w' := by
    intro h
    clear HDO hX hY
    cases b1 <;> cases b2 <;> first | (exact absurd h (by decide)) | skip
    all_goals
      clear h
      go_enter Tryz.func94, Tryz.ntmps94
      go_wp2_with (first | (go_at_call 97; ((with_reducible refine (KN1.out _ hn hd (by trivial)).mono ?_); rintro e w' ⟨⟨m1', x1', y1', rfl⟩, ⟨os1, e1, rfl⟩⟩)) | (go_at_call 97; ((with_reducible refine (KY1.out _ hn hd (by trivial)).mono ?_); rintro e w' ⟨rfl, ⟨os1, e1, rfl⟩⟩)) | (go_at_call 97; ((with_reducible refine (KN2.out _ hn' hd' (by trivial)).mono ?_); rintro e w' ⟨⟨m2', x2', y2', rfl⟩, ⟨os2, e2, rfl⟩⟩)) | (go_at_call 97; ((with_reducible refine (KY2.out _ hn' hd' (by trivial)).mono ?_); rintro e w' ⟨rfl, ⟨os2, e2, rfl⟩⟩)))
      refine bodyPost_ret (v := .tuple #[.agg #[.string ⟨#[]⟩, .string ⟨#[]⟩], .int .i64 1]) (ret_rat_tmp rfl rfl rfl ?_) rfl ⟨by rw [HBS.out]; rfl, ?_⟩
      · go_simp
      · exact (by with_reducible repeat (first | exact Grown.refl _ | apply Grown.more | apply Grown.alloc | apply Grown.drewN | apply Grown.drew))
  cases b1
  · exact hfail rfl
  cases b2
  · exact hfail rfl
  clear hfail
  have HD := Lib.hid (HDO.out rfl rfl)
  have htold := told_any M X Y
  obtain ⟨T, hT⟩ : ∃ T, T = toldS M X Y := ⟨_, rfl⟩
  have hbt := HBS.out true
  rw [← hT] at htold hbt
  obtain ⟨U, hU⟩ : ∃ U, U = bothS true M X Y := ⟨_, rfl⟩
  rw [← hU] at hbt
  show Calls Tryz.prog 94 #[.agg #[.string sn, .string sd], .agg #[.string sn', .string sd'], .func (.func 95) #[] #[]] w fun e w' => e = .returned (.tuple #[ratV (bothS true M X Y).1.1 (bothS true M X Y).1.2, .int .i64 (bothS true M X Y).2]) ∧ Grown w w'
  rw [← hU]
  obtain ⟨⟨t1, t2⟩, t3⟩ := T
  clear HDO HBS hU hT
  unfold ratV at htold
  obtain ⟨s1, hs1⟩ : ∃ s : ByteArray, s = ⟨t1.toArray⟩ := ⟨_, rfl⟩
  obtain ⟨s2, hs2⟩ : ∃ s : ByteArray, s = ⟨t2.toArray⟩ := ⟨_, rfl⟩
  dsimp only at htold hbt
  rw [← hs1, ← hs2] at htold
  have HS1 := Lib.hid hs1
  have HS2 := Lib.hid hs2
  clear hs1 hs2
  have HT := Lib.hid htold
  have HB := Lib.hid hbt
  clear htold hbt
  have hcase : (Y = 0 ∧ ((dl 4294967296 Y : Int) == 0) = true) ∨ (0 < Y ∧ ((dl 4294967296 Y : Int) == 0) = false) := by
    rcases Nat.eq_zero_or_pos Y with h | h
    · exact .inl ⟨h, by rw [h, dl_zero]; rfl⟩
    · have := (dl_pos_iff (B := 4294967296) (by omega)).2 h
      exact .inr ⟨h, by rw [beq_eq_false_iff_ne]; omega⟩
  rcases hcase with ⟨h0, h1⟩ | ⟨h0, h1⟩
  · have H0 := Lib.hid h0
    clear h0
    go_enter Tryz.func94, Tryz.ntmps94
    go_wp2_with (first | (go_at_call 95; (with_reducible refine (HD.out _).mono ?_); rintro e w' ⟨rfl, ⟨os3, e3, rfl⟩⟩) | (go_at_call 97; ((with_reducible refine (KN1.out _ hn hd (by trivial)).mono ?_); rintro e w' ⟨⟨m1', x1', y1', rfl⟩, ⟨os1, e1, rfl⟩⟩)) | (go_at_call 97; ((with_reducible refine (KY1.out _ hn hd (by trivial)).mono ?_); rintro e w' ⟨rfl, ⟨os1, e1, rfl⟩⟩)) | (go_at_call 97; ((with_reducible refine (KN2.out _ hn' hd' (by trivial)).mono ?_); rintro e w' ⟨⟨m2', x2', y2', rfl⟩, ⟨os2, e2, rfl⟩⟩)) | (go_at_call 97; ((with_reducible refine (KY2.out _ hn' hd' (by trivial)).mono ?_); rintro e w' ⟨rfl, ⟨os2, e2, rfl⟩⟩)))
    refine bodyPost_ret (v := .tuple #[.agg #[.string ⟨#[]⟩, .string ⟨#[]⟩], .int .i64 20]) (ret_rat_tmp rfl rfl rfl ?_) rfl ⟨by rw [HB.out, if_neg (by decide), if_pos H0.out]; rfl, ?_⟩
    · go_simp
    · exact (by with_reducible repeat (first | exact Grown.refl _ | apply Grown.more | apply Grown.alloc | apply Grown.drewN | apply Grown.drew))
  · have H0 := Lib.hid h0
    clear h0
    go_enter Tryz.func94, Tryz.ntmps94
    go_wp2_with (first | (go_at_call 95; (with_reducible refine (HD.out _).mono ?_); rintro e w' ⟨rfl, ⟨os3, e3, rfl⟩⟩) | (go_at_call 130; ((with_reducible refine (HT.out _ hX hY H0.out ?_).mono ?_); (exact hpow.grown (by with_reducible repeat (first | exact Grown.refl _ | apply Grown.more | apply Grown.alloc | apply Grown.drewN | apply Grown.drew))); rintro e w' ⟨rfl, os4, e4, rfl⟩)) | (go_at_call 97; ((with_reducible refine (KN1.out _ hn hd (by trivial)).mono ?_); rintro e w' ⟨⟨m1', x1', y1', rfl⟩, ⟨os1, e1, rfl⟩⟩)) | (go_at_call 97; ((with_reducible refine (KY1.out _ hn hd (by trivial)).mono ?_); rintro e w' ⟨rfl, ⟨os1, e1, rfl⟩⟩)) | (go_at_call 97; ((with_reducible refine (KN2.out _ hn' hd' (by trivial)).mono ?_); rintro e w' ⟨⟨m2', x2', y2', rfl⟩, ⟨os2, e2, rfl⟩⟩)) | (go_at_call 97; ((with_reducible refine (KY2.out _ hn' hd' (by trivial)).mono ?_); rintro e w' ⟨rfl, ⟨os2, e2, rfl⟩⟩)))
    refine bodyPost_ret (v := .tuple #[.agg #[.string s1, .string s2], .int .i64 t3]) (ret_rat_tmp rfl rfl rfl ?_) rfl ⟨by rw [HB.out, if_neg (by decide), if_neg (by have := H0.out; omega), HS1.out, HS2.out]; rfl, ?_⟩
    · go_simp
    · exact (by with_reducible repeat (first | exact Grown.refl _ | apply Grown.more | apply Grown.alloc | apply Grown.drewN | apply Grown.drew))
set_option maxRecDepth 100000 in
set_option maxHeartbeats 1000000 in
/-- both computes with two fractions -/
theorem both_mul (n d n' d' : List UInt8) (M : Bool) (X Y : Nat) (w : World) (hn : n.length ≤ maxLen) (hd : d.length ≤ maxLen) (hn' : n'.length ≤ maxLen) (hd' : d'.length ≤ maxLen)
    (hdo : validB n d = true → validB n' d' = true → ∀ w, Calls Tryz.prog 83 #[.agg (val (rM n) (rX n) (valN d)), .agg (val (rM n') (rX n') (valN d'))] w fun e w' => e = .returned (.agg (val M X Y)) ∧ Grown w w')
    (hX : dl 4294967296 X ≤ 32) (hY : dl 4294967296 (2 * Y) ≤ 32) (hpow : Pow10 w) :
    Calls Tryz.prog 94 #[ratV n d, ratV n' d', .func (.func 83) #[] #[]] w fun e w' =>
      e = .returned (.tuple #[ratV (bothS (validB n d && validB n' d') M X Y).1.1 (bothS (validB n d && validB n' d') M X Y).1.2, .int .i64 (bothS (validB n d && validB n' d') M X Y).2]) ∧ Grown w w' := by
  have hbs : ∀ b, bothS b M X Y = if b = false then (([], []), 1) else if Y = 0 then (([], []), 20) else toldS M X Y := fun b => rfl
  have ky1 := known_yes n d
  have ky2 := known_yes n' d'
  have kn1 := known_no n d
  have kn2 := known_no n' d'
  obtain ⟨b1, hb1⟩ : ∃ b, b = validB n d := ⟨_, rfl⟩
  obtain ⟨b2, hb2⟩ : ∃ b, b = validB n' d' := ⟨_, rfl⟩
  obtain ⟨m1, hm1⟩ : ∃ b, b = rM n := ⟨_, rfl⟩
  obtain ⟨m2, hm2⟩ : ∃ b, b = rM n' := ⟨_, rfl⟩
  obtain ⟨x1, hx1⟩ : ∃ b, b = rX n := ⟨_, rfl⟩
  obtain ⟨x2, hx2⟩ : ∃ b, b = rX n' := ⟨_, rfl⟩
  obtain ⟨y1, hy1⟩ : ∃ b, b = valN d := ⟨_, rfl⟩
  obtain ⟨y2, hy2⟩ : ∃ b, b = valN d' := ⟨_, rfl⟩
  rw [← hb1, ← hm1, ← hx1, ← hy1] at hdo ky1
  rw [← hb2, ← hm2, ← hx2, ← hy2] at hdo ky2
  rw [← hb1] at kn1 ⊢
  rw [← hb2] at kn2 ⊢
  clear hb1 hb2 hm1 hm2 hx1 hx2 hy1 hy2
  unfold ratV at ky1 ky2 kn1 kn2 ⊢
  obtain ⟨r1, hr1⟩ : ∃ r, r = Value.agg #[.string ⟨n.toArray⟩, .string ⟨d.toArray⟩] := ⟨_, rfl⟩
  obtain ⟨sn, hsn⟩ : ∃ s : ByteArray, s = ⟨n.toArray⟩ := ⟨_, rfl⟩
  obtain ⟨sd, hsd⟩ : ∃ s : ByteArray, s = ⟨d.toArray⟩ := ⟨_, rfl⟩
  obtain ⟨sn', hsn'⟩ : ∃ s : ByteArray, s = ⟨n'.toArray⟩ := ⟨_, rfl⟩
  obtain ⟨sd', hsd'⟩ : ∃ s : ByteArray, s = ⟨d'.toArray⟩ := ⟨_, rfl⟩
  rw [← hsn, ← hsd] at ky1 kn1 ⊢
  rw [← hsn', ← hsd'] at ky2 kn2 ⊢
  clear hsn hsd hsn' hsd'
  have HBS := Lib.hid hbs
  have KY1 := Lib.hid ky1
  have KY2 := Lib.hid ky2
  have KN1 := Lib.hid kn1
  have KN2 := Lib.hid kn2
  have HDO := Lib.hid hdo
  clear hbs ky1 ky2 kn1 kn2 hdo
  have hfail : (b1 && b2) = false → Calls Tryz.prog 94 #[.agg #[.string sn, .string sd], .agg #[.string sn', .string sd'], .func (.func 83) #[] #[]] w fun e w' => e = .returned (.tuple #[ratV (bothS false M X Y).1.1 (bothS false M X Y).1.2, .int .i64 (bothS false M X Y).2]) ∧ Grown w w' := by
    intro h
    clear HDO hX hY
    cases b1 <;> cases b2 <;> first | (exact absurd h (by decide)) | skip
    all_goals
      clear h
      go_enter Tryz.func94, Tryz.ntmps94
      go_wp2_with (first | (go_at_call 97; ((with_reducible refine (KN1.out _ hn hd (by trivial)).mono ?_); rintro e w' ⟨⟨m1', x1', y1', rfl⟩, ⟨os1, e1, rfl⟩⟩)) | (go_at_call 97; ((with_reducible refine (KY1.out _ hn hd (by trivial)).mono ?_); rintro e w' ⟨rfl, ⟨os1, e1, rfl⟩⟩)) | (go_at_call 97; ((with_reducible refine (KN2.out _ hn' hd' (by trivial)).mono ?_); rintro e w' ⟨⟨m2', x2', y2', rfl⟩, ⟨os2, e2, rfl⟩⟩)) | (go_at_call 97; ((with_reducible refine (KY2.out _ hn' hd' (by trivial)).mono ?_); rintro e w' ⟨rfl, ⟨os2, e2, rfl⟩⟩)))
      refine bodyPost_ret (v := .tuple #[.agg #[.string ⟨#[]⟩, .string ⟨#[]⟩], .int .i64 1]) (ret_rat_tmp rfl rfl rfl ?_) rfl ⟨by rw [HBS.out]; rfl, ?_⟩
      · go_simp
      · exact (by with_reducible repeat (first | exact Grown.refl _ | apply Grown.more | apply Grown.alloc | apply Grown.drewN | apply Grown.drew))
  cases b1
  · exact hfail rfl
  cases b2
  · exact hfail rfl
  clear hfail
  have HD := Lib.hid (HDO.out rfl rfl)
  have htold := told_any M X Y
  obtain ⟨T, hT⟩ : ∃ T, T = toldS M X Y := ⟨_, rfl⟩
  have hbt := HBS.out true
  rw [← hT] at htold hbt
  obtain ⟨U, hU⟩ : ∃ U, U = bothS true M X Y := ⟨_, rfl⟩
  rw [← hU] at hbt
  show Calls Tryz.prog 94 #[.agg #[.string sn, .string sd], .agg #[.string sn', .string sd'], .func (.func 83) #[] #[]] w fun e w' => e = .returned (.tuple #[ratV (bothS true M X Y).1.1 (bothS true M X Y).1.2, .int .i64 (bothS true M X Y).2]) ∧ Grown w w'
  rw [← hU]
  obtain ⟨⟨t1, t2⟩, t3⟩ := T
  clear HDO HBS hU hT
  unfold ratV at htold
  obtain ⟨s1, hs1⟩ : ∃ s : ByteArray, s = ⟨t1.toArray⟩ := ⟨_, rfl⟩
  obtain ⟨s2, hs2⟩ : ∃ s : ByteArray, s = ⟨t2.toArray⟩ := ⟨_, rfl⟩
  dsimp only at htold hbt
  rw [← hs1, ← hs2] at htold
  have HS1 := Lib.hid hs1
  have HS2 := Lib.hid hs2
  clear hs1 hs2
  have HT := Lib.hid htold
  have HB := Lib.hid hbt
  clear htold hbt
  have hcase : (Y = 0 ∧ ((dl 4294967296 Y : Int) == 0) = true) ∨ (0 < Y ∧ ((dl 4294967296 Y : Int) == 0) = false) := by
    rcases Nat.eq_zero_or_pos Y with h | h
    · exact .inl ⟨h, by rw [h, dl_zero]; rfl⟩
    · have := (dl_pos_iff (B := 4294967296) (by omega)).2 h
      exact .inr ⟨h, by rw [beq_eq_false_iff_ne]; omega⟩
  rcases hcase with ⟨h0, h1⟩ | ⟨h0, h1⟩
  · have H0 := Lib.hid h0
    clear h0
    go_enter Tryz.func94, Tryz.ntmps94
    go_wp2_with (first | (go_at_call 83; (with_reducible refine (HD.out _).mono ?_); rintro e w' ⟨rfl, ⟨os3, e3, rfl⟩⟩) | (go_at_call 97; ((with_reducible refine (KN1.out _ hn hd (by trivial)).mono ?_); rintro e w' ⟨⟨m1', x1', y1', rfl⟩, ⟨os1, e1, rfl⟩⟩)) | (go_at_call 97; ((with_reducible refine (KY1.out _ hn hd (by trivial)).mono ?_); rintro e w' ⟨rfl, ⟨os1, e1, rfl⟩⟩)) | (go_at_call 97; ((with_reducible refine (KN2.out _ hn' hd' (by trivial)).mono ?_); rintro e w' ⟨⟨m2', x2', y2', rfl⟩, ⟨os2, e2, rfl⟩⟩)) | (go_at_call 97; ((with_reducible refine (KY2.out _ hn' hd' (by trivial)).mono ?_); rintro e w' ⟨rfl, ⟨os2, e2, rfl⟩⟩)))
    refine bodyPost_ret (v := .tuple #[.agg #[.string ⟨#[]⟩, .string ⟨#[]⟩], .int .i64 20]) (ret_rat_tmp rfl rfl rfl ?_) rfl ⟨by rw [HB.out, if_neg (by decide), if_pos H0.out]; rfl, ?_⟩
    · go_simp
    · exact (by with_reducible repeat (first | exact Grown.refl _ | apply Grown.more | apply Grown.alloc | apply Grown.drewN | apply Grown.drew))
  · have H0 := Lib.hid h0
    clear h0
    go_enter Tryz.func94, Tryz.ntmps94
    go_wp2_with (first | (go_at_call 83; (with_reducible refine (HD.out _).mono ?_); rintro e w' ⟨rfl, ⟨os3, e3, rfl⟩⟩) | (go_at_call 130; ((with_reducible refine (HT.out _ hX hY H0.out ?_).mono ?_); (exact hpow.grown (by with_reducible repeat (first | exact Grown.refl _ | apply Grown.more | apply Grown.alloc | apply Grown.drewN | apply Grown.drew))); rintro e w' ⟨rfl, os4, e4, rfl⟩)) | (go_at_call 97; ((with_reducible refine (KN1.out _ hn hd (by trivial)).mono ?_); rintro e w' ⟨⟨m1', x1', y1', rfl⟩, ⟨os1, e1, rfl⟩⟩)) | (go_at_call 97; ((with_reducible refine (KY1.out _ hn hd (by trivial)).mono ?_); rintro e w' ⟨rfl, ⟨os1, e1, rfl⟩⟩)) | (go_at_call 97; ((with_reducible refine (KN2.out _ hn' hd' (by trivial)).mono ?_); rintro e w' ⟨⟨m2', x2', y2', rfl⟩, ⟨os2, e2, rfl⟩⟩)) | (go_at_call 97; ((with_reducible refine (KY2.out _ hn' hd' (by trivial)).mono ?_); rintro e w' ⟨rfl, ⟨os2, e2, rfl⟩⟩)))
    refine bodyPost_ret (v := .tuple #[.agg #[.string s1, .string s2], .int .i64 t3]) (ret_rat_tmp rfl rfl rfl ?_) rfl ⟨by rw [HB.out, if_neg (by decide), if_neg (by have := H0.out; omega), HS1.out, HS2.out]; rfl, ?_⟩
    · go_simp
    · exact (by with_reducible repeat (first | exact Grown.refl _ | apply Grown.more | apply Grown.alloc | apply Grown.drewN | apply Grown.drew))
set_option maxRecDepth 100000 in
set_option maxHeartbeats 1000000 in
/-- both computes with two fractions -/
theorem both_quo (n d n' d' : List UInt8) (M : Bool) (X Y : Nat) (w : World) (hn : n.length ≤ maxLen) (hd : d.length ≤ maxLen) (hn' : n'.length ≤ maxLen) (hd' : d'.length ≤ maxLen)
    (hdo : validB n d = true → validB n' d' = true → ∀ w, Calls Tryz.prog 87 #[.agg (val (rM n) (rX n) (valN d)), .agg (val (rM n') (rX n') (valN d'))] w fun e w' => e = .returned (.agg (val M X Y)) ∧ Grown w w')
    (hX : dl 4294967296 X ≤ 32) (hY : dl 4294967296 (2 * Y) ≤ 32) (hpow : Pow10 w) :
    Calls Tryz.prog 94 #[ratV n d, ratV n' d', .func (.func 87) #[] #[]] w fun e w' =>
      e = .returned (.tuple #[ratV (bothS (validB n d && validB n' d') M X Y).1.1 (bothS (validB n d && validB n' d') M X Y).1.2, .int .i64 (bothS (validB n d && validB n' d') M X Y).2]) ∧ Grown w w' := by
  have hbs : ∀ b, bothS b M X Y = if b = false then (([], []), 1) else if Y = 0 then (([], []), 20) else toldS M X Y := fun b => rfl
  have ky1 := known_yes n d
  have ky2 := known_yes n' d'
  have kn1 := known_no n d
  have kn2 := known_no n' d'
  obtain ⟨b1, hb1⟩ : ∃ b, b = validB n d := ⟨_, rfl⟩
  obtain ⟨b2, hb2⟩ : ∃ b, b = validB n' d' := ⟨_, rfl⟩
  obtain ⟨m1, hm1⟩ : ∃ b, b = rM n := ⟨_, rfl⟩
  obtain ⟨m2, hm2⟩ : ∃ b, b = rM n' := ⟨_, rfl⟩
  obtain ⟨x1, hx1⟩ : ∃ b, b = rX n := ⟨_, rfl⟩
  obtain ⟨x2, hx2⟩ : ∃ b, b = rX n' := ⟨_, rfl⟩
  obtain ⟨y1, hy1⟩ : ∃ b, b = valN d := ⟨_, rfl⟩
  obtain ⟨y2, hy2⟩ : ∃ b, b = valN d' := ⟨_, rfl⟩
  rw [← hb1, ← hm1, ← hx1, ← hy1] at hdo ky1
  rw [← hb2, ← hm2, ← hx2, ← hy2] at hdo ky2
  rw [← hb1] at kn1 ⊢
  rw [← hb2] at kn2 ⊢
  clear hb1 hb2 hm1 hm2 hx1 hx2 hy1 hy2
  unfold ratV at ky1 ky2 kn1 kn2 ⊢
  obtain ⟨r1, hr1⟩ : ∃ r, r = Value.agg #[.string ⟨n.toArray⟩, .string ⟨d.toArray⟩] := ⟨_, rfl⟩
  obtain ⟨sn, hsn⟩ : ∃ s : ByteArray, s = ⟨n.toArray⟩ := ⟨_, rfl⟩
  obtain ⟨sd, hsd⟩ : ∃ s : ByteArray, s = ⟨d.toArray⟩ := ⟨_, rfl⟩
  obtain ⟨sn', hsn'⟩ : ∃ s : ByteArray, s = ⟨n'.toArray⟩ := ⟨_, rfl⟩
  obtain ⟨sd', hsd'⟩ : ∃ s : ByteArray, s = ⟨d'.toArray⟩ := ⟨_, rfl⟩
  rw [← hsn, ← hsd] at ky1 kn1 ⊢
  rw [← hsn', ← hsd'] at ky2 kn2 ⊢
  clear hsn hsd hsn' hsd'
  have HBS := Lib.hid hbs
  have KY1 := Lib.hid ky1
  have KY2 := Lib.hid ky2
  have KN1 := Lib.hid kn1
  have KN2 := Lib.hid kn2
  have HDO := Lib.hid hdo
  clear hbs ky1 ky2 kn1 kn2 hdo
  have hfail : (b1 && b2) = false → Calls Tryz.prog 94 #[.agg #[.string sn, .string sd], .agg #[.string sn', .string sd'], .func (.func 87) #[] #[]] w fun e w' => e = .returned (.tuple #[ratV (bothS false M X Y).1.1 (bothS false M X Y).1.2, .int .i64 (bothS false M X Y).2]) ∧ Grown w w' := by
    intro h
    clear HDO hX hY
    cases b1 <;> cases b2 <;> first | (exact absurd h (by decide)) | skip
    all_goals
      clear h
      go_enter Tryz.func94, Tryz.ntmps94
      go_wp2_with (first | (go_at_call 97; ((with_reducible refine (KN1.out _ hn hd (by trivial)).mono ?_); rintro e w' ⟨⟨m1', x1', y1', rfl⟩, ⟨os1, e1, rfl⟩⟩)) | (go_at_call 97; ((with_reducible refine (KY1.out _ hn hd (by trivial)).mono ?_); rintro e w' ⟨rfl, ⟨os1, e1, rfl⟩⟩)) | (go_at_call 97; ((with_reducible refine (KN2.out _ hn' hd' (by trivial)).mono ?_); rintro e w' ⟨⟨m2', x2', y2', rfl⟩, ⟨os2, e2, rfl⟩⟩)) | (go_at_call 97; ((with_reducible refine (KY2.out _ hn' hd' (by trivial)).mono ?_); rintro e w' ⟨rfl, ⟨os2, e2, rfl⟩⟩)))
      refine bodyPost_ret (v := .tuple #[.agg #[.string ⟨#[]⟩, .string ⟨#[]⟩], .int .i64 1]) (ret_rat_tmp rfl rfl rfl ?_) rfl ⟨by rw [HBS.out]; rfl, ?_⟩
      · go_simp
      · exact (by with_reducible repeat (first | exact Grown.refl _ | apply Grown.more | apply Grown.alloc | apply Grown.drewN | apply Grown.drew))
  cases b1
  · exact hfail rfl
  cases b2
  · exact hfail rfl
  clear hfail
  have HD := Lib.hid (HDO.out rfl rfl)
  have htold := told_any M X Y
  obtain ⟨T, hT⟩ : ∃ T, T = toldS M X Y := ⟨_, rfl⟩
  have hbt := HBS.out true
  rw [← hT] at htold hbt
  obtain ⟨U, hU⟩ : ∃ U, U = bothS true M X Y := ⟨_, rfl⟩
  rw [← hU] at hbt
  show Calls Tryz.prog 94 #[.agg #[.string sn, .string sd], .agg #[.string sn', .string sd'], .func (.func 87) #[] #[]] w fun e w' => e = .returned (.tuple #[ratV (bothS true M X Y).1.1 (bothS true M X Y).1.2, .int .i64 (bothS true M X Y).2]) ∧ Grown w w'
  rw [← hU]
  obtain ⟨⟨t1, t2⟩, t3⟩ := T
  clear HDO HBS hU hT
  unfold ratV at htold
  obtain ⟨s1, hs1⟩ : ∃ s : ByteArray, s = ⟨t1.toArray⟩ := ⟨_, rfl⟩
  obtain ⟨s2, hs2⟩ : ∃ s : ByteArray, s = ⟨t2.toArray⟩ := ⟨_, rfl⟩
  dsimp only at htold hbt
  rw [← hs1, ← hs2] at htold
  have HS1 := Lib.hid hs1
  have HS2 := Lib.hid hs2
  clear hs1 hs2
  have HT := Lib.hid htold
  have HB := Lib.hid hbt
  clear htold hbt
  have hcase : (Y = 0 ∧ ((dl 4294967296 Y : Int) == 0) = true) ∨ (0 < Y ∧ ((dl 4294967296 Y : Int) == 0) = false) := by
    rcases Nat.eq_zero_or_pos Y with h | h
    · exact .inl ⟨h, by rw [h, dl_zero]; rfl⟩
    · have := (dl_pos_iff (B := 4294967296) (by omega)).2 h
      exact .inr ⟨h, by rw [beq_eq_false_iff_ne]; omega⟩
  rcases hcase with ⟨h0, h1⟩ | ⟨h0, h1⟩
  · have H0 := Lib.hid h0
    clear h0
    go_enter Tryz.func94, Tryz.ntmps94
    go_wp2_with (first | (go_at_call 87; (with_reducible refine (HD.out _).mono ?_); rintro e w' ⟨rfl, ⟨os3, e3, rfl⟩⟩) | (go_at_call 97; ((with_reducible refine (KN1.out _ hn hd (by trivial)).mono ?_); rintro e w' ⟨⟨m1', x1', y1', rfl⟩, ⟨os1, e1, rfl⟩⟩)) | (go_at_call 97; ((with_reducible refine (KY1.out _ hn hd (by trivial)).mono ?_); rintro e w' ⟨rfl, ⟨os1, e1, rfl⟩⟩)) | (go_at_call 97; ((with_reducible refine (KN2.out _ hn' hd' (by trivial)).mono ?_); rintro e w' ⟨⟨m2', x2', y2', rfl⟩, ⟨os2, e2, rfl⟩⟩)) | (go_at_call 97; ((with_reducible refine (KY2.out _ hn' hd' (by trivial)).mono ?_); rintro e w' ⟨rfl, ⟨os2, e2, rfl⟩⟩)))
    refine bodyPost_ret (v := .tuple #[.agg #[.string ⟨#[]⟩, .string ⟨#[]⟩], .int .i64 20]) (ret_rat_tmp rfl rfl rfl ?_) rfl ⟨by rw [HB.out, if_neg (by decide), if_pos H0.out]; rfl, ?_⟩
    · go_simp
    · exact (by with_reducible repeat (first | exact Grown.refl _ | apply Grown.more | apply Grown.alloc | apply Grown.drewN | apply Grown.drew))
  · have H0 := Lib.hid h0
    clear h0
    go_enter Tryz.func94, Tryz.ntmps94
    go_wp2_with (first | (go_at_call 87; (with_reducible refine (HD.out _).mono ?_); rintro e w' ⟨rfl, ⟨os3, e3, rfl⟩⟩) | (go_at_call 130; ((with_reducible refine (HT.out _ hX hY H0.out ?_).mono ?_); (exact hpow.grown (by with_reducible repeat (first | exact Grown.refl _ | apply Grown.more | apply Grown.alloc | apply Grown.drewN | apply Grown.drew))); rintro e w' ⟨rfl, os4, e4, rfl⟩)) | (go_at_call 97; ((with_reducible refine (KN1.out _ hn hd (by trivial)).mono ?_); rintro e w' ⟨⟨m1', x1', y1', rfl⟩, ⟨os1, e1, rfl⟩⟩)) | (go_at_call 97; ((with_reducible refine (KY1.out _ hn hd (by trivial)).mono ?_); rintro e w' ⟨rfl, ⟨os1, e1, rfl⟩⟩)) | (go_at_call 97; ((with_reducible refine (KN2.out _ hn' hd' (by trivial)).mono ?_); rintro e w' ⟨⟨m2', x2', y2', rfl⟩, ⟨os2, e2, rfl⟩⟩)) | (go_at_call 97; ((with_reducible refine (KY2.out _ hn' hd' (by trivial)).mono ?_); rintro e w' ⟨rfl, ⟨os2, e2, rfl⟩⟩)))
    refine bodyPost_ret (v := .tuple #[.agg #[.string s1, .string s2], .int .i64 t3]) (ret_rat_tmp rfl rfl rfl ?_) rfl ⟨by rw [HB.out, if_neg (by decide), if_neg (by have := H0.out; omega), HS1.out, HS2.out]; rfl, ?_⟩
    · go_simp
    · exact (by with_reducible repeat (first | exact Grown.refl _ | apply Grown.more | apply Grown.alloc | apply Grown.drewN | apply Grown.drew))
end Go.Proofs.YtnohidkmjclojaaGreatDoor
