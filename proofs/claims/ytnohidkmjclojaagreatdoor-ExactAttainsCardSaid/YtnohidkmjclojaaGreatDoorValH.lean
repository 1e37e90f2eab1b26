/- Walks: exact's Round. -/
import Derived.Test.YtnohidkmjclojaaGreatDoorValG
namespace Go.Proofs.YtnohidkmjclojaaGreatDoor
open Go.RowKit

/-- what Round returns (the ways 1, 2, 3) -/
def roundS (n d n' d' : List UInt8) (mode : Int) : (List UInt8 × List UInt8) × Int :=
  if (validB n d && validB n' d') = false then (([], []), 1) else if sgS (rM n') (rX n') ≤ 0 then (([], []), 1) else
  let t := mulT (roundT (quoT (ratT n d) (ratT n' d')) mode) (ratT n' d')
  toldS t.1 t.2.1 t.2.2

set_option maxRecDepth 100000 in
theorem way_any (mode : Int) (w : World) (h1 : 1 ≤ mode) (h2 : mode ≤ 4) : Calls Tryz.prog 149 #[.int .i64 mode] w fun e w' => e = .returned (.bool true) ∧ Grown w w' := by
  go_enter Tryz.func149, Tryz.ntmps149
  go_wp2
  go_ret
  exact ⟨rfl, (by with_reducible repeat (first | exact Grown.refl _ | apply Grown.more | apply Grown.alloc | apply Grown.drewN | apply Grown.drew))⟩

theorem round_rat {n d n' d' : List UInt8} {mode : Int} (h1 : validB n d = true) (h2 : validB n' d' = true) (hs : ¬ sgS (rM n') (rX n') ≤ 0) (hm1 : 1 ≤ mode) (hm2 : mode ≤ 3) :
    (∀ w, Calls Tryz.prog 150 #[valT (quoT (ratT n d) (ratT n' d')), .int .i64 mode] w fun e w' => e = .returned (valT (roundT (quoT (ratT n d) (ratT n' d')) mode)) ∧ Grown w w') ∧
    (∀ w, Calls Tryz.prog 83 #[valT (roundT (quoT (ratT n d) (ratT n' d')) mode), valT (ratT n' d')] w fun e w' => e = .returned (valT (mulT (roundT (quoT (ratT n d) (ratT n' d')) mode) (ratT n' d'))) ∧ Grown w w') ∧
    (∀ w, Pow10 w → Calls Tryz.prog 130 #[valT (mulT (roundT (quoT (ratT n d) (ratT n' d')) mode) (ratT n' d'))] w fun e w' => e = .returned (opR (roundS n d n' d' mode)) ∧ Grown w w') := by
  obtain ⟨hx, hy, hy0⟩ := valid_lt h1
  obtain ⟨hu, hv, hv0⟩ := valid_lt h2
  have hu0 : 0 < rX n' := by
    rcases Nat.eq_zero_or_pos (rX n') with h | h
    · exact absurd (by unfold sgS; rw [if_pos h]; decide) hs
    · exact h
  have hrs : roundS n d n' d' mode = toldS (mulT (roundT (quoT (ratT n d) (ratT n' d')) mode) (ratT n' d')).1 (mulT (roundT (quoT (ratT n d) (ratT n' d')) mode) (ratT n' d')).2.1 (mulT (roundT (quoT (ratT n d) (ratT n' d')) mode) (ratT n' d')).2.2 := by
    unfold roundS
    rw [h1, h2, if_neg (by decide), if_neg hs]
  have g1 := mul_60 hx hv
  have g2 := mul_60 hy hu
  have hq0 : 0 < (quoT (ratT n d) (ratT n' d')).2.2 := Nat.mul_pos hy0 hu0
  have hqn : (quoT (ratT n d) (ratT n' d')).2.1 < 10 ^ 120 := g1
  have hqd : (quoT (ratT n d) (ratT n' d')).2.2 < 10 ^ 120 := g2
  obtain ⟨Q, hQ⟩ : ∃ Q, Q = quoT (ratT n d) (ratT n' d') := ⟨_, rfl⟩
  rw [← hQ] at hq0 hqn hqd hrs ⊢
  have hdiv : Q.2.1 / Q.2.2 < 10 ^ 120 := Nat.lt_of_le_of_lt (Nat.div_le_self _ _) hqn
  have hrn : (roundT Q mode).2.1 < 10 ^ 121 := by
    show Q.2.1 / Q.2.2 + (if awayS Q.1 Q.2.1 Q.2.2 mode then 1 else 0) < _
    split <;> omega
  have hrd : (roundT Q mode).2.2 = 1 := rfl
  refine ⟨fun w => ?_, fun w => ?_, fun w hpow => ?_⟩
  · exact rounded_any Q.1 Q.2.1 Q.2.2 mode w (dl_300 hqn (by omega)) (dl_300 (k := 121) (by omega) (by omega)) hq0 (dl_300 (k := 121) (by omega) (by omega)) hm1 hm2
  · refine vtimes_any _ _ _ _ _ _ w (dl_300 hrn (by omega)) (by rw [hrd]; exact dl_300 (k := 1) (by omega) (by omega)) (dl_300 hu (by omega)) (dl_300 hv (by omega)) ?_ ?_
    · refine dl_300 (k := 181) ?_ (by omega)
      exact mul_60 hrn hu
    · rw [hrd]
      refine dl_300 (k := 60) ?_ (by omega)
      rw [Nat.one_mul]; exact hv
  · rw [hrs]
    have e1 : (mulT (roundT Q mode) (ratT n' d')).2.1 < 10 ^ 181 := mul_60 hrn hu
    have e2 : (mulT (roundT Q mode) (ratT n' d')).2.2 = valN d' := by
      show (roundT Q mode).2.2 * valN d' = _
      rw [hrd, Nat.one_mul]
    refine told_any _ _ _ w (dl_300 e1 (by omega)) (by rw [e2]; exact dl_300 (k := 61) (by omega) (by omega)) (by rw [e2]; exact hv0) hpow

set_option maxRecDepth 100000 in
set_option maxHeartbeats 1000000 in
/-- Round rounds a fraction to a multiple of a unit -/
theorem Round_any (n d n' d' : List UInt8) (mode : Int) (w : World) (hn : n.length ≤ maxLen) (hd : d.length ≤ maxLen) (hn' : n'.length ≤ maxLen) (hd' : d'.length ≤ maxLen) (hm1 : 1 ≤ mode) (hm2 : mode ≤ 3) (hpow : Pow10 w) :
    Calls Tryz.prog 98 #[ratV n d, ratV n' d', .int .i64 mode] w fun e w' => e = .returned (opR (roundS n d n' d' mode)) ∧ Grown w w' := by
  have ky1 := known_yes n d
  have ky2 := known_yes n' d'
  have kn1 := known_no n d
  have kn2 := known_no n' d'
  have hrs : roundS n d n' d' mode = if (validB n d && validB n' d') = false then (([], []), 1) else if sgS (rM n') (rX n') ≤ 0 then (([], []), 1) else roundS n d n' d' mode := by
    conv => lhs; unfold roundS
    split
    · rfl
    · rename_i h
      split
      · rfl
      · rename_i h'
        unfold roundS
        rw [if_neg h, if_neg h']
  have hov : validB n d = true → validB n' d' = true → ∀ w, _ := fun h1 h2 => (plus_rat h1 h2).2.2.2.1
  have hro : validB n d = true → validB n' d' = true → ¬ sgS (rM n') (rX n') ≤ 0 → ∀ w, _ := fun h1 h2 h3 => (round_rat h1 h2 h3 hm1 hm2).1
  have hti : validB n d = true → validB n' d' = true → ¬ sgS (rM n') (rX n') ≤ 0 → ∀ w, _ := fun h1 h2 h3 => (round_rat h1 h2 h3 hm1 hm2).2.1
  have hto : validB n d = true → validB n' d' = true → ¬ sgS (rM n') (rX n') ≤ 0 → ∀ w, _ := fun h1 h2 h3 => (round_rat h1 h2 h3 hm1 hm2).2.2
  have hsg := fun w => signed_any (rM n') (rX n') (valN d') w
  obtain ⟨Q, hQ⟩ : ∃ Q, Q = quoT (ratT n d) (ratT n' d') := ⟨_, rfl⟩
  rw [← hQ] at hov hro hti hto
  obtain ⟨P, hP⟩ : ∃ P, P = roundT Q mode := ⟨_, rfl⟩
  rw [← hP] at hro hti hto
  obtain ⟨T, hT⟩ : ∃ T, T = mulT P (ratT n' d') := ⟨_, rfl⟩
  rw [← hT] at hti hto
  obtain ⟨⟨⟨t1, t2⟩, t3⟩, hR⟩ : ∃ R, R = roundS n d n' d' mode := ⟨_, rfl⟩
  rw [← hR] at hrs hto ⊢
  clear hQ hP hT hR
  obtain ⟨mq, xq, yq⟩ := Q
  obtain ⟨mp, xp, yp⟩ := P
  obtain ⟨mt, xt, yt⟩ := T
  unfold valT at hov hro hti hto
  unfold ratT at hov hti
  unfold opR ratV at *
  dsimp only at hov hro hti hto ⊢
  obtain ⟨g, hg⟩ : ∃ g, g = sgS (rM n') (rX n') := ⟨_, rfl⟩
  rw [← hg] at hsg hrs hro hti hto
  obtain ⟨b1, hb1⟩ : ∃ b, b = validB n d := ⟨_, rfl⟩
  obtain ⟨b2, hb2⟩ : ∃ b, b = validB n' d' := ⟨_, rfl⟩
  obtain ⟨m1, hm1'⟩ : ∃ b, b = rM n := ⟨_, rfl⟩
  obtain ⟨m2, hm2'⟩ : ∃ b, b = rM n' := ⟨_, rfl⟩
  obtain ⟨x1, hx1⟩ : ∃ b, b = rX n := ⟨_, rfl⟩
  obtain ⟨x2, hx2⟩ : ∃ b, b = rX n' := ⟨_, rfl⟩
  obtain ⟨y1, hy1⟩ : ∃ b, b = valN d := ⟨_, rfl⟩
  obtain ⟨y2, hy2⟩ : ∃ b, b = valN d' := ⟨_, rfl⟩
  rw [← hb1, ← hb2, ← hm1', ← hm2', ← hx1, ← hx2, ← hy1, ← hy2] at hov
  rw [← hb1, ← hb2] at hro hto hrs
  rw [← hb1, ← hb2, ← hm2', ← hx2, ← hy2] at hti
  rw [← hm2', ← hx2, ← hy2] at hsg
  rw [← hb1, ← hm1', ← hx1, ← hy1] at ky1
  rw [← hb2, ← hm2', ← hx2, ← hy2] at ky2
  rw [← hb1] at kn1
  rw [← hb2] at kn2
  clear hb1 hb2 hm1' hm2' hx1 hx2 hy1 hy2 hg
  obtain ⟨sn, hsn⟩ : ∃ s : ByteArray, s = ⟨n.toArray⟩ := ⟨_, rfl⟩
  obtain ⟨sd, hsd⟩ : ∃ s : ByteArray, s = ⟨d.toArray⟩ := ⟨_, rfl⟩
  obtain ⟨sn', hsn'⟩ : ∃ s : ByteArray, s = ⟨n'.toArray⟩ := ⟨_, rfl⟩
  obtain ⟨sd', hsd'⟩ : ∃ s : ByteArray, s = ⟨d'.toArray⟩ := ⟨_, rfl⟩
  obtain ⟨s1, hs1⟩ : ∃ s : ByteArray, s = ⟨t1.toArray⟩ := ⟨_, rfl⟩
  obtain ⟨s2, hs2⟩ : ∃ s : ByteArray, s = ⟨t2.toArray⟩ := ⟨_, rfl⟩
  rw [← hsn, ← hsd] at ky1 kn1 ⊢
  rw [← hsn', ← hsd'] at ky2 kn2 ⊢
  rw [← hs1, ← hs2] at hto ⊢
  clear hsn hsd hsn' hsd'
  have hm4 : mode ≤ 4 := by omega
  have HRS := Lib.hid hrs
  have KY1 := Lib.hid ky1
  have KY2 := Lib.hid ky2
  have KN1 := Lib.hid kn1
  have KN2 := Lib.hid kn2
  have HOV := Lib.hid hov
  have HRO := Lib.hid hro
  have HTI := Lib.hid hti
  have HTO := Lib.hid hto
  have HSG := Lib.hid hsg
  have HS1 := Lib.hid hs1
  have HS2 := Lib.hid hs2
  clear hrs ky1 ky2 kn1 kn2 hov hro hti hto hsg hs1 hs2
  have hfail : (((t1, t2), t3) : (List UInt8 × List UInt8) × Int) = (([], []), 1) → s1 = ⟨#[]⟩ ∧ s2 = ⟨#[]⟩ ∧ t3 = 1 := by
    intro h
    injection h with h h3
    injection h with h1 h2
    exact ⟨by rw [HS1.out, h1], by rw [HS2.out, h2], h3⟩
  cases b1 <;> cases b2
  · obtain ⟨rfl, rfl, rfl⟩ := hfail HRS.out
    clear HRS HOV HRO HTI HTO hfail HS1 HS2
    go_enter Tryz.func98, Tryz.ntmps98
    go_wp2_with (first | (go_at_call 86; ((with_reducible refine (HSG.out _).mono ?_); rintro e w' ⟨rfl, ⟨os3, e3, rfl⟩⟩)) | (go_at_call 149; ((with_reducible refine (way_any mode _ hm1 hm4).mono ?_); rintro e w' ⟨rfl, ⟨os4, e4, rfl⟩⟩)) | (go_at_call 97; ((with_reducible refine (KN1.out _ hn hd (by trivial)).mono ?_); rintro e w' ⟨⟨m1', x1', y1', rfl⟩, ⟨os1, e1, rfl⟩⟩)) | (go_at_call 97; ((with_reducible refine (KY1.out _ hn hd (by trivial)).mono ?_); rintro e w' ⟨rfl, ⟨os1, e1, rfl⟩⟩)) | (go_at_call 97; ((with_reducible refine (KN2.out _ hn' hd' (by trivial)).mono ?_); rintro e w' ⟨⟨m2', x2', y2', rfl⟩, ⟨os2, e2, rfl⟩⟩)) | (go_at_call 97; ((with_reducible refine (KY2.out _ hn' hd' (by trivial)).mono ?_); rintro e w' ⟨rfl, ⟨os2, e2, rfl⟩⟩)))
    refine bodyPost_ret (v := .tuple #[.agg #[.string ⟨#[]⟩, .string ⟨#[]⟩], .int .i64 1]) (ret_rat_tmp rfl rfl rfl ?_) rfl ⟨rfl, ?_⟩
    · go_simp
    · exact (by with_reducible repeat (first | exact Grown.refl _ | apply Grown.more | apply Grown.alloc | apply Grown.drewN | apply Grown.drew))
  · obtain ⟨rfl, rfl, rfl⟩ := hfail HRS.out
    clear HRS HOV HRO HTI HTO hfail HS1 HS2
    go_enter Tryz.func98, Tryz.ntmps98
    go_wp2_with (first | (go_at_call 86; ((with_reducible refine (HSG.out _).mono ?_); rintro e w' ⟨rfl, ⟨os3, e3, rfl⟩⟩)) | (go_at_call 149; ((with_reducible refine (way_any mode _ hm1 hm4).mono ?_); rintro e w' ⟨rfl, ⟨os4, e4, rfl⟩⟩)) | (go_at_call 97; ((with_reducible refine (KN1.out _ hn hd (by trivial)).mono ?_); rintro e w' ⟨⟨m1', x1', y1', rfl⟩, ⟨os1, e1, rfl⟩⟩)) | (go_at_call 97; ((with_reducible refine (KY1.out _ hn hd (by trivial)).mono ?_); rintro e w' ⟨rfl, ⟨os1, e1, rfl⟩⟩)) | (go_at_call 97; ((with_reducible refine (KN2.out _ hn' hd' (by trivial)).mono ?_); rintro e w' ⟨⟨m2', x2', y2', rfl⟩, ⟨os2, e2, rfl⟩⟩)) | (go_at_call 97; ((with_reducible refine (KY2.out _ hn' hd' (by trivial)).mono ?_); rintro e w' ⟨rfl, ⟨os2, e2, rfl⟩⟩)))
    refine bodyPost_ret (v := .tuple #[.agg #[.string ⟨#[]⟩, .string ⟨#[]⟩], .int .i64 1]) (ret_rat_tmp rfl rfl rfl ?_) rfl ⟨rfl, ?_⟩
    · go_simp
    · exact (by with_reducible repeat (first | exact Grown.refl _ | apply Grown.more | apply Grown.alloc | apply Grown.drewN | apply Grown.drew))
  · obtain ⟨rfl, rfl, rfl⟩ := hfail HRS.out
    clear HRS HOV HRO HTI HTO hfail HS1 HS2
    go_enter Tryz.func98, Tryz.ntmps98
    go_wp2_with (first | (go_at_call 86; ((with_reducible refine (HSG.out _).mono ?_); rintro e w' ⟨rfl, ⟨os3, e3, rfl⟩⟩)) | (go_at_call 149; ((with_reducible refine (way_any mode _ hm1 hm4).mono ?_); rintro e w' ⟨rfl, ⟨os4, e4, rfl⟩⟩)) | (go_at_call 97; ((with_reducible refine (KN1.out _ hn hd (by trivial)).mono ?_); rintro e w' ⟨⟨m1', x1', y1', rfl⟩, ⟨os1, e1, rfl⟩⟩)) | (go_at_call 97; ((with_reducible refine (KY1.out _ hn hd (by trivial)).mono ?_); rintro e w' ⟨rfl, ⟨os1, e1, rfl⟩⟩)) | (go_at_call 97; ((with_reducible refine (KN2.out _ hn' hd' (by trivial)).mono ?_); rintro e w' ⟨⟨m2', x2', y2', rfl⟩, ⟨os2, e2, rfl⟩⟩)) | (go_at_call 97; ((with_reducible refine (KY2.out _ hn' hd' (by trivial)).mono ?_); rintro e w' ⟨rfl, ⟨os2, e2, rfl⟩⟩)))
    refine bodyPost_ret (v := .tuple #[.agg #[.string ⟨#[]⟩, .string ⟨#[]⟩], .int .i64 1]) (ret_rat_tmp rfl rfl rfl ?_) rfl ⟨rfl, ?_⟩
    · go_simp
    · exact (by with_reducible repeat (first | exact Grown.refl _ | apply Grown.more | apply Grown.alloc | apply Grown.drewN | apply Grown.drew))
  · by_cases hg : g ≤ 0
    · obtain ⟨rfl, rfl, rfl⟩ := hfail (HRS.out.trans (by rw [if_neg (by decide), if_pos hg]))
      have hgd : decide (g ≤ 0) = true := decide_eq_true hg
      have HG := Lib.hid hg
      clear hg
      clear HRS HOV HRO HTI HTO hfail HS1 HS2
      go_enter Tryz.func98, Tryz.ntmps98
      go_wp2_with (first | (go_at_call 86; ((with_reducible refine (HSG.out _).mono ?_); rintro e w' ⟨rfl, ⟨os3, e3, rfl⟩⟩)) | (go_at_call 149; ((with_reducible refine (way_any mode _ hm1 hm4).mono ?_); rintro e w' ⟨rfl, ⟨os4, e4, rfl⟩⟩)) | (go_at_call 97; ((with_reducible refine (KN1.out _ hn hd (by trivial)).mono ?_); rintro e w' ⟨⟨m1', x1', y1', rfl⟩, ⟨os1, e1, rfl⟩⟩)) | (go_at_call 97; ((with_reducible refine (KY1.out _ hn hd (by trivial)).mono ?_); rintro e w' ⟨rfl, ⟨os1, e1, rfl⟩⟩)) | (go_at_call 97; ((with_reducible refine (KN2.out _ hn' hd' (by trivial)).mono ?_); rintro e w' ⟨⟨m2', x2', y2', rfl⟩, ⟨os2, e2, rfl⟩⟩)) | (go_at_call 97; ((with_reducible refine (KY2.out _ hn' hd' (by trivial)).mono ?_); rintro e w' ⟨rfl, ⟨os2, e2, rfl⟩⟩)))
      refine bodyPost_ret (v := .tuple #[.agg #[.string ⟨#[]⟩, .string ⟨#[]⟩], .int .i64 1]) (ret_rat_tmp rfl rfl rfl ?_) rfl ⟨rfl, ?_⟩
      · go_simp
      · exact (by with_reducible repeat (first | exact Grown.refl _ | apply Grown.more | apply Grown.alloc | apply Grown.drewN | apply Grown.drew))
    · have hgd : decide (g ≤ 0) = false := decide_eq_false hg
      have HO := Lib.hid (HOV.out rfl rfl)
      have HR := Lib.hid (HRO.out rfl rfl hg)
      have HT := Lib.hid (HTI.out rfl rfl hg)
      have HTO' := Lib.hid (HTO.out rfl rfl hg)
      clear hg hfail HRS HOV HRO HTI HTO HS1 HS2
      go_enter Tryz.func98, Tryz.ntmps98
      go_wp2_with (first | (go_at_call 86; ((with_reducible refine (HSG.out _).mono ?_); rintro e w' ⟨rfl, ⟨os3, e3, rfl⟩⟩)) | (go_at_call 149; ((with_reducible refine (way_any mode _ hm1 hm4).mono ?_); rintro e w' ⟨rfl, ⟨os4, e4, rfl⟩⟩)) | (go_at_call 97; ((with_reducible refine (KN1.out _ hn hd (by trivial)).mono ?_); rintro e w' ⟨⟨m1', x1', y1', rfl⟩, ⟨os1, e1, rfl⟩⟩)) | (go_at_call 97; ((with_reducible refine (KY1.out _ hn hd (by trivial)).mono ?_); rintro e w' ⟨rfl, ⟨os1, e1, rfl⟩⟩)) | (go_at_call 97; ((with_reducible refine (KN2.out _ hn' hd' (by trivial)).mono ?_); rintro e w' ⟨⟨m2', x2', y2', rfl⟩, ⟨os2, e2, rfl⟩⟩)) | (go_at_call 97; ((with_reducible refine (KY2.out _ hn' hd' (by trivial)).mono ?_); rintro e w' ⟨rfl, ⟨os2, e2, rfl⟩⟩)))
      go_region_held3 (fun w' => rowAt w' ⟨w.heap.size + 1 + 1 + 1 + os1.size, 0, none⟩ 67 = some (val m1 x1 y1) ∧ rowAt w' ⟨w.heap.size + 1 + 1 + 1 + os1.size + 1 + os2.size, 0, none⟩ 67 = some (val m2 x2 y2)) (go_simp)
        (first | (go_at_call 87; ((with_reducible refine (HO.out _).mono ?_); rintro e w' ⟨rfl, os5, e5, rfl⟩)) | (go_at_call 150; ((with_reducible refine (HR.out _).mono ?_); rintro e w' ⟨rfl, os6, e6, rfl⟩)) | (go_at_call 83; ((with_reducible refine (HT.out _).mono ?_); rintro e w' ⟨rfl, os7, e7, rfl⟩)) | (go_at_call 130; ((with_reducible refine (HTO'.out _ ?_).mono ?_); (exact hpow.grown (by with_reducible repeat (first | exact Grown.refl _ | apply Grown.more | apply Grown.alloc | apply Grown.drewN | apply Grown.drew))); rintro e w' ⟨rfl, os8, e8, rfl⟩)))
      all_goals
        go_wp2
        refine bodyPost_ret (v := .tuple #[.agg #[.string s1, .string s2], .int .i64 t3]) (ret_rat_tmp rfl rfl rfl ?_) rfl ⟨rfl, ?_⟩
        · go_simp
        · exact (by with_reducible repeat (first | exact Grown.refl _ | apply Grown.more | apply Grown.alloc | apply Grown.drewN | apply Grown.drew))
end Go.Proofs.YtnohidkmjclojaaGreatDoor
