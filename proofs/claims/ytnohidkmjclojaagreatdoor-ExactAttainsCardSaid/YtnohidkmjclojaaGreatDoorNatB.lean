/- Walks: exact's natural numbers, comparison and products. -/
import Derived.Test.YtnohidkmjclojaaGreatDoorNatA
namespace Go.Proofs.YtnohidkmjclojaaGreatDoor
open Go.RowKit

/-- the comparison of two numbers -/
def cmpI (a b : Nat) : Int := if a < b then -1 else if b < a then 1 else 0
theorem sgn_lt {n : Int} (h : n < 0) : sgn n = -1 := by unfold sgn; rw [if_pos h]
theorem sgn_gt {n : Int} (h : 0 < n) : sgn n = 1 := by unfold sgn; rw [if_neg (by omega), if_pos h]
theorem cmpI_lt {a b : Nat} (h : a < b) : cmpI a b = -1 := by unfold cmpI; rw [if_pos h]
theorem cmpI_gt {a b : Nat} (h : b < a) : cmpI a b = 1 := by unfold cmpI; rw [if_neg (by omega), if_pos h]
theorem cmpI_eq (a : Nat) : cmpI a a = 0 := by unfold cmpI; rw [if_neg (by omega), if_neg (by omega)]
theorem cmp_dl {a b : Nat} (h : dl 4294967296 a ≠ dl 4294967296 b) : sgn ((dl 4294967296 a : Int) - dl 4294967296 b) = cmpI a b := by
  rcases Nat.lt_or_gt_of_ne h with h | h
  · have : a < b := by
      rcases Nat.lt_or_ge a b with h' | h'
      · exact h'
      · have := dl_mono (B := 4294967296) (by omega) h'; omega
    rw [sgn_lt (by omega), cmpI_lt this]
  · have : b < a := by
      rcases Nat.lt_or_ge b a with h' | h'
      · exact h'
      · have := dl_mono (B := 4294967296) (by omega) h'; omega
    rw [sgn_gt (by omega), cmpI_gt this]
theorem cmp_dg {a b k : Nat} (h : a / 4294967296 ^ (k + 1) = b / 4294967296 ^ (k + 1)) (hd : dgi a k ≠ dgi b k) : sgn (dgi a k - dgi b k) = cmpI a b := by
  unfold dgi at *
  rcases Nat.lt_or_gt_of_ne (show dg 4294967296 a k ≠ dg 4294967296 b k by omega) with h1 | h1
  · rw [sgn_lt (by omega), cmpI_lt (lt_of_dg_lt a b k h h1)]
  · rw [sgn_gt (by omega), cmpI_gt (lt_of_dg_lt b a k h.symm h1)]

set_option maxRecDepth 100000 in
set_option maxHeartbeats 400000 in
/-- compare compares -/
theorem compare_any (a b : Nat) (w : World) (ha : dl 4294967296 a ≤ 32) (hb : dl 4294967296 b ≤ 32) :
    Calls Tryz.prog 146 #[.agg (nat a), .agg (nat b)] w fun e w' => e = .returned (.int .i64 (cmpI a b)) ∧ Grown w w' := by
  have hne := @cmp_dl a b
  unfold nat
  obtain ⟨n, hn⟩ : ∃ n, n = dl 4294967296 a := ⟨_, rfl⟩
  obtain ⟨m, hm⟩ : ∃ m, m = dl 4294967296 b := ⟨_, rfl⟩
  rw [← hn] at ha hne ⊢
  rw [← hm] at hb hne ⊢
  have HN := Lib.hid hn
  have HM := Lib.hid hm
  clear hn hm
  by_cases hnm : n = m
  · clear hne
    subst hnm
    have hab : a / 4294967296 ^ n = b / 4294967296 ^ n := by
      rw [Nat.div_eq_of_lt ((dl_le_iff (by omega) _ _).1 (by rw [← HN.out]; exact Nat.le_refl _)), Nat.div_eq_of_lt ((dl_le_iff (by omega) _ _).1 (by rw [← HM.out]; exact Nat.le_refl _))]
    have HAB := Lib.hid hab
    clear hab
    have hnn : ((n : Int) == n) = true := by simp
    have hnn' : ((n : Int) != n) = false := by simp
    go_enter Tryz.func146, Tryz.ntmps146
    go_wp2
    go_loopw [5] (fun i wr => ∃ k d : Nat, k ≤ n ∧ i = .int .i64 ((k : Int) - 1) ∧ Hid (a / 4294967296 ^ k = b / 4294967296 ^ k) ∧
      wr = ((w.alloc (.cells (cs (dgi a) n) 110)).alloc (.cells (cs (dgi b) n) 110)).drewN d) (fun i _ => (intOf i + 1).toNat)
    case atStart => exact ⟨n, 0, by omega, rfl, HAB, rfl⟩
    case round =>
      obtain ⟨k, d, hk, rfl, HE, rfl⟩ := hrel
      rcases Nat.eq_zero_or_pos k with h0 | h0
      · subst h0
        have fin : cmpI a b = 0 := by
          have := HE.out
          simp only [Nat.pow_zero, Nat.div_one] at this
          rw [this, cmpI_eq]
        have FIN := Lib.hid fin
        clear fin
        go_wp2
        go_ret
        exact ⟨by rw [FIN.out]; rfl, (by with_reducible repeat (first | exact Grown.refl _ | apply Grown.more | apply Grown.alloc | apply Grown.drewN | apply Grown.drew))⟩
      · obtain ⟨j, rfl⟩ : ∃ j, k = j + 1 := ⟨k - 1, by omega⟩
        have hj32 : j < 32 := by omega
        have hda := dgi_lt a j
        have hdb := dgi_lt b j
        have hda0 := dgi_pos a j
        have hdb0 := dgi_pos b j
        by_cases he : dgi a j = dgi b j
        · have hstep : a / 4294967296 ^ j = b / 4294967296 ^ j := by
            rw [div_succ, div_succ 4294967296 b, HE.out]
            unfold dgi at he; omega
          have HSTEP := Lib.hid hstep
          clear hstep
          have h1 : (dgi b j != dgi b j) = false := by simp
          go_wp2
          go_quiet (fail)
          go_wp2
          go_roundw
          case rel => exact ⟨j, d + nq, by omega, by congr, HSTEP, rfl⟩
          case measure => simp [intOf]
        · have h1 : (dgi a j != dgi b j) = true := by simp [he]
          have fin := cmp_dg HE.out he
          have FIN := Lib.hid fin
          clear fin he
          go_wp2
          go_quiet (fail)
          go_wp2
          go_quiet ((go_at_call 181; exact quiet_add_same (sign_any _ _)))
          go_wp2
          go_ret
          exact ⟨by rw [FIN.out]; rfl, (by with_reducible repeat (first | exact Grown.refl _ | apply Grown.more | apply Grown.alloc | apply Grown.drewN | apply Grown.drew))⟩
  · have h1 : ((n : Int) != m) = true := by simp; omega
    have fin := hne hnm
    have FIN := Lib.hid fin
    clear fin hne hnm
    go_enter Tryz.func146, Tryz.ntmps146
    go_wp2_with (go_at_call 181; refine (sign_any _ _).mono ?_; rintro e w' ⟨rfl, rfl⟩)
    go_ret
    exact ⟨by rw [FIN.out]; rfl, (by with_reducible repeat (first | exact Grown.refl _ | apply Grown.more | apply Grown.alloc | apply Grown.drewN | apply Grown.drew))⟩

theorem times_len {a b : Nat} (hs : dl 4294967296 (a * b) ≤ 32) (ha : 0 < a) (hb : 0 < b) : dl 4294967296 a + dl 4294967296 b ≤ 33 := by
  have hpa := (dl_pos_iff (B := 4294967296) (by omega)).2 ha
  have hpb := (dl_pos_iff (B := 4294967296) (by omega)).2 hb
  have h1 : ¬ a < 4294967296 ^ (dl 4294967296 a - 1) := fun h => by have := dl_le (B := 4294967296) (by omega) _ _ h; omega
  have h2 : ¬ b < 4294967296 ^ (dl 4294967296 b - 1) := fun h => by have := dl_le (B := 4294967296) (by omega) _ _ h; omega
  have h3 := Nat.mul_le_mul (Nat.le_of_not_lt h1) (Nat.le_of_not_lt h2)
  rw [← Nat.pow_add] at h3
  have h4 := (dl_le_iff (B := 4294967296) (by omega) _ _).1 hs
  have h5 : 4294967296 ^ (dl 4294967296 a - 1 + (dl 4294967296 b - 1)) < 4294967296 ^ 32 := Nat.lt_of_le_of_lt h3 h4
  have h6 := (Nat.pow_lt_pow_iff_right (by omega)).1 h5
  omega
theorem times_dl (a b : Nat) : dl 4294967296 (a * b) ≤ dl 4294967296 a + dl 4294967296 b := by
  refine dl_le (by omega) _ _ ?_
  rw [Nat.pow_add]
  exact Nat.mul_lt_mul'' (lt_pow_dl (by omega) a) (lt_pow_dl (by omega) b)
theorem mixf_step' (k : Nat) (f f' g : Nat → Int) (v : Int) (h : v = f' k) (hl : ∀ j, j < k → f j = f' j) : upd (mixf k f g) k v = mixf (k + 1) f' g := by
  subst h
  funext i
  unfold upd mixf
  split
  · subst_vars; simp
  · split <;> split <;> first | rfl | omega | exact hl _ (by assumption)

set_option maxRecDepth 100000 in
set_option maxHeartbeats 800000 in
/-- times multiplies -/
theorem times_any (a b : Nat) (w : World) (ha : dl 4294967296 a ≤ 32) (hb : dl 4294967296 b ≤ 32) (hs : dl 4294967296 (a * b) ≤ 32) :
    Calls Tryz.prog 135 #[.agg (nat a), .agg (nat b)] w fun e w' => e = .returned (.agg (nat (a * b))) ∧ Grown w w' := by
  have hlen := @times_len a b hs
  have hdl := times_dl a b
  have hpa := dl_pos_iff (B := 4294967296) (x := a) (by omega)
  have hpb := dl_pos_iff (B := 4294967296) (x := b) (by omega)
  unfold nat
  obtain ⟨n, hn⟩ : ∃ n, n = dl 4294967296 a := ⟨_, rfl⟩
  obtain ⟨m, hm⟩ : ∃ m, m = dl 4294967296 b := ⟨_, rfl⟩
  rw [← hn] at ha hlen hdl hpa ⊢
  rw [← hm] at hb hlen hdl hpb ⊢
  have HN := Lib.hid hn
  have HM := Lib.hid hm
  have HLEN : 0 < n → 0 < m → n + m ≤ 33 := fun h1 h2 => hlen (hpa.1 h1) (hpb.1 h2)
  have HL := Lib.hid HLEN
  clear hn hm hlen hpa hpb HLEN
  obtain ⟨N, hN⟩ : ∃ N : Nat, min (32 : Int) ((n : Int) + (m : Int)) = (N : Int) := ⟨min 32 (n + m), by omega⟩
  have hN32 : N ≤ 32 := by omega
  have HNN : N = min 32 (n + m) := by omega
  have HYtnohidkmjclojaaGreatDoor := Lib.hid HNN
  clear HNN
  go_enter Tryz.func135, Tryz.ntmps135
  go_wp2
  go_loopw [18] (fun iv wr => ∃ i d : Nat, i ≤ n ∧ iv = .int .i64 i ∧
      wr = ((((w.alloc (.cells (cs (dgi a) n) 110)).alloc (.cells (cs (dgi b) m) 110)).alloc (.cells (cs (fun _ => 0) 0) 110)).alloc (.cells (cs (dgi (a % 4294967296 ^ i * b)) N) 110)).drewN d) (fun iv _ => n - (intOf iv).toNat)
  case atStart =>
    refine ⟨0, 0, by omega, rfl, ?_⟩
    rw [Nat.pow_zero, Nat.mod_one, Nat.zero_mul, show (dgi 0) = fun _ => 0 from by funext i; simp [dgi, dg]]
    rfl
  case round =>
    obtain ⟨i, d, hi, rfl, rfl⟩ := hrel
    by_cases hlt : i < n
    · have hda := dgi_lt a i
      have hda0 := dgi_pos a i
      have hi32 : i < 32 := by omega
      obtain ⟨P, hP⟩ : ∃ P, P = a % 4294967296 ^ i * b := ⟨_, rfl⟩
      have HP := Lib.hid hP
      rw [← hP]
      clear hP
      go_wp2
      obtain ⟨D, hD⟩ : ∃ D, D = dg 4294967296 a i := ⟨_, rfl⟩
      have hDD : dgi a i = (D : Int) := by unfold dgi; rw [hD]
      have hDl : D < 4294967296 := by have := dg_lt (by omega : 0 < 4294967296) a i; omega
      have HD := Lib.hid hD
      clear hD
      go_loopw [7, 23] (fun cv kv wr => ∃ k d : Nat, k ≤ m ∧ kv = .int .i64 k ∧ cv = .int .u64 (tc 4294967296 P D b i k) ∧
        wr = ((((w.alloc (.cells (cs (dgi a) n) 110)).alloc (.cells (cs (dgi b) m) 110)).alloc (.cells (cs (fun _ => 0) 0) 110)).alloc (.cells (cs (mixf (i + k) (dgi (tv 4294967296 P D b i k)) (dgi P)) N) 110)).drewN d) (fun _ kv _ => m - (intOf kv).toNat)
      case atStart =>
        refine ⟨0, d, by omega, rfl, by rw [tc_zero (by omega)]; rfl, ?_⟩
        have : mixf (i + 0) (dgi (tv 4294967296 P D b i 0)) (dgi P) = dgi P := by
          funext j
          unfold mixf
          split
          · unfold dgi; rw [tv_zero (by omega) P D b i j (by omega)]
          · rfl
        rw [this]
      case round =>
        obtain ⟨k, d, hk, rfl, rfl, rfl⟩ := hrel
        have hc := tc_lt (by omega : 0 < 4294967296) P D b i k hDl
        by_cases hkm : k < m
        · have hL := HL.out (by omega) (by omega)
          have hik : i + k < 32 := by omega
          have hk32 : k < 32 := by omega
          have hdb := dgi_lt b k
          have hdb0 := dgi_pos b k
          have hdp := dgi_lt P (i + k)
          have hdp0 := dgi_pos P (i + k)
          have e1 := mixf_at (i + k) (dgi (tv 4294967296 P D b i k)) (dgi P)
          have hp0 : 0 ≤ (D : Int) * dgi b k := Int.mul_nonneg (by omega) hdb0
          have hp1 : (D : Int) * dgi b k ≤ 4294967295 * 4294967295 := Int.mul_le_mul (by omega) (by omega) hdb0 (by omega)
          simp only [Int.reduceMul] at hp1
          go_wp2
          go_quiet (fail)
          go_wp2
          go_roundw
          case rel =>
            have h1 := tc_step (by omega : 0 < 4294967296) P D b i k
            have h2 := dg_lt (by omega : 0 < 4294967296) (tv 4294967296 P D b i (k + 1)) (i + k)
            have h3 : ((tc 4294967296 P D b i k : Nat) : Int) + ((D : Int) * dgi b k + dgi P (i + k)) = 4294967296 * (tc 4294967296 P D b i (k + 1) : Nat) + dgi (tv 4294967296 P D b i (k + 1)) (i + k) := by
              unfold dgi
              rw [← Int.natCast_mul]
              omega
            have h4 := dgi_lt (tv 4294967296 P D b i (k + 1)) (i + k)
            have h5 := dgi_pos (tv 4294967296 P D b i (k + 1)) (i + k)
            refine ⟨k + 1, d + nq, by omega, by go_num, ?_, ?_⟩
            · congr 1; omega
            · rw [mixf_step' (i + k) (dgi (tv 4294967296 P D b i k)) (dgi (tv 4294967296 P D b i (k + 1))) (dgi P) _ (by omega) (fun j hj => by unfold dgi; rw [tv_low (by omega) P D b i k j hj])]
              rfl
          case measure => simp [intOf]; omega
        · obtain rfl : k = m := by omega
          have hend : tv 4294967296 P D b i k = a % 4294967296 ^ (i + 1) * b := by rw [HP.out, HD.out]; exact tv_end (by omega) (by rw [← HM.out]; exact Nat.le_refl _)
          obtain ⟨P', hP'⟩ : ∃ P', P' = tv 4294967296 P D b i k := ⟨_, rfl⟩
          have hPd : dl 4294967296 P ≤ i + k := by
            refine dl_le (by omega) _ _ ?_
            rw [HP.out, Nat.pow_add]
            exact Nat.mul_lt_mul'' (Nat.mod_lt _ (Nat.pow_pos (by omega))) ((dl_le_iff (by omega) _ _).1 (by rw [← HM.out]; exact Nat.le_refl _))
          have htc : tc 4294967296 P D b i k = P' / 4294967296 ^ (i + k) := by rw [hP']; rfl
          rw [← hP'] at hend ⊢
          have hcases : (tc 4294967296 P D b i k = 0 ∧ dl 4294967296 P' ≤ i + k) ∨ (0 < tc 4294967296 P D b i k ∧ i + k < 32 ∧ dgi P' (i + k) = tc 4294967296 P D b i k ∧ dl 4294967296 P' ≤ i + k + 1) := by
            have hq : P' / 4294967296 ^ (i + k) = tc 4294967296 P D b i k := htc.symm
            rcases Nat.eq_zero_or_pos (tc 4294967296 P D b i k) with h0 | h0
            · refine .inl ⟨h0, dl_le (by omega) _ _ ?_⟩
              rcases Nat.lt_or_ge P' (4294967296 ^ (i + k)) with h | h
              · exact h
              · have := (Nat.one_le_div_iff (Nat.pow_pos (by omega : 0 < 4294967296))).2 h
                omega
            · have hle : P' ≤ a * b := by rw [hend]; exact Nat.mul_le_mul_right _ (Nat.mod_le _ _)
              have hdP := Nat.le_trans (dl_mono (B := 4294967296) (by omega) hle) hs
              refine .inr ⟨h0, ?_, ?_, ?_⟩
              · rcases Nat.lt_or_ge (i + k) 32 with h | h
                · exact h
                · have := (dl_le_iff (B := 4294967296) (by omega) _ _).1 (Nat.le_trans hdP h)
                  rw [Nat.div_eq_of_lt this] at hq
                  omega
              · unfold dgi dg
                rw [hq, Nat.mod_eq_of_lt hc]
              · refine dl_le (by omega) _ _ ?_
                rw [Nat.pow_succ]
                exact (Nat.div_lt_iff_lt_mul (Nat.pow_pos (by omega))).1 (by omega) |> (Nat.mul_comm _ _ ▸ ·)
          have HEND := Lib.hid hend
          clear htc hP' hend
          have hz : dgi P (i + k) = 0 := dgi_ge hPd
          have HPd := Lib.hid hPd
          clear hPd
          rcases hcases with ⟨hc0, hlow⟩ | ⟨hc0, hik, hword, hlow⟩
          · rw [hc0]
            clear hc0 hc
            go_wp2
            go_roundw
            case rel =>
              refine ⟨i + 1, d, by omega, by go_num, ?_⟩
              rw [← HEND.out]
              congr 3
              refine cs_ext (fun j _ => ?_) rfl
              unfold mixf
              split
              · rfl
              · rw [dgi_ge (by have := HPd.out; omega), dgi_ge (by omega)]
            case measure => simp [intOf]; omega
          · have e1 := mixf_at (i + k) (dgi P') (dgi P)
            have hcb : (tc 4294967296 P D b i k : Int) < 4294967296 := by omega
            have HW := Lib.hid hword
            clear hword hc
            go_wp2
            go_roundw
            case rel =>
              refine ⟨i + 1, d, by omega, by go_num, ?_⟩
              rw [← HEND.out]
              congr 3
              refine cs_ext (fun j _ => ?_) rfl
              unfold upd mixf
              split
              · subst_vars; exact HW.out.symm
              · split
                · rfl
                · rw [dgi_ge (by have := HPd.out; omega), dgi_ge (by omega)]
            case measure => simp [intOf]; omega
    · obtain rfl : i = n := by omega
      have hfin : a % 4294967296 ^ i * b = a * b := by rw [mod_pow_of_le (by omega) (by rw [← HN.out]; exact Nat.le_refl _)]
      rw [hfin]
      clear hfin
      go_wp2_with fail
      refine (trimmed_any (a * b) N _ _ (fun j _ => rfl) (by have := HYtnohidkmjclojaaGreatDoor.out; omega) hN32).mono ?_
      rintro e w' ⟨rfl, os, d', rfl⟩
      go_wp2
      refine bodyPost_ret (v := .agg (nat (a * b))) (ret_nat rfl rfl ?_) rfl ⟨rfl, ?_⟩
      · go_simp
      · exact (by with_reducible repeat (first | exact Grown.refl _ | apply Grown.more | apply Grown.alloc | apply Grown.drewN | apply Grown.drew))
end Go.Proofs.YtnohidkmjclojaaGreatDoor
