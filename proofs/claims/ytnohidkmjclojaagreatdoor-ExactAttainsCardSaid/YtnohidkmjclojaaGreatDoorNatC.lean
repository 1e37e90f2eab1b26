/- Walks: exact's natural numbers, bits, halves and division. -/
import Derived.Test.YtnohidkmjclojaaGreatDoorNatB
import Derived.Test.YtnohidkmjclojaaGreatDoorShelf
namespace Go.Proofs.YtnohidkmjclojaaGreatDoor
open Go.RowKit

theorem bit_and (d k : Nat) (h : d < 4294967296) : bits .and .u32 ((d : Int) / 2 ^ k) 1 = ((d / 2 ^ k % 2 : Nat) : Int) := by
  have e : ((d : Int) / 2 ^ k) = ((d / 2 ^ k : Nat) : Int) := by simp
  have hl : d / 2 ^ k < 4294967296 := Nat.lt_of_le_of_lt (Nat.div_le_self _ _) h
  rw [e, show (1 : Int) = ((1 : Nat) : Int) from rfl, u32_and_nat _ _ hl (by omega)]
  rw [show (1 : Nat) = 2 ^ 1 - 1 from rfl, Nat.and_two_pow_sub_one_eq_mod]
theorem dbl_or (d c : Nat) (h : d < 4294967296) (hc : c < 2) : bits .or .u32 ((d : Int) * 2 % 4294967296) (c : Int) = ((2 * d % 4294967296 + c : Nat) : Int) := by
  have e : ((d : Int) * 2 % 4294967296) = ((2 * d % 4294967296 : Nat) : Int) := by omega
  rw [e, u32_or_nat _ _ (by omega) (by omega)]
  have e2 : 2 * d % 4294967296 = 2 ^ 1 * (d % 2147483648) := by omega
  rw [e2, Nat.two_pow_add_eq_or_of_lt (by omega)]
theorem shl_or (r d : Nat) (h : r < 4294967296) (hd : d < 4294967296) : bits .or .u64 ((r : Int) * 4294967296) (d : Int) = ((r * 4294967296 + d : Nat) : Int) := by
  have e : ((r : Int) * 4294967296) = ((r * 4294967296 : Nat) : Int) := by omega
  rw [e, bits_or_u64_nat _ _ (by omega) (by omega)]
  rw [show r * 4294967296 = 2 ^ 32 * r from by omega, Nat.two_pow_add_eq_or_of_lt (by omega)]

set_option maxRecDepth 100000 in
set_option maxHeartbeats 400000 in
/-- bit returns a bit -/
theorem bit_any (a i : Nat) (w : World) (ha : dl 4294967296 a ≤ 32) (hi : i < 1024) :
    Calls Tryz.prog 170 #[.agg (nat a), .int .i64 (i : Nat)] w fun e w' => e = .returned (.int .u32 (dg 2 a i : Nat)) ∧ Grown w w' := by
  have hbit := bit_word a i
  unfold nat
  have hi32 : i / 32 < 32 := by omega
  have hd := dgi_lt a (i / 32)
  have hd0 := dgi_pos a (i / 32)
  have HB := Lib.hid hbit
  clear hbit
  go_enter Tryz.func170, Tryz.ntmps170
  go_wp2
  go_ret
  exact ⟨congrArg _ (congrArg (Value.int .u32) ((bit_and _ _ (dg_lt (by omega) _ _)).trans (congrArg _ HB.out.symm))), (by with_reducible repeat (first | exact Grown.refl _ | apply Grown.more | apply Grown.alloc | apply Grown.drewN | apply Grown.drew))⟩

set_option maxRecDepth 100000 in
set_option maxHeartbeats 400000 in
/-- doubled returns 2 a + x -/
theorem doubled_any (a x : Nat) (w : World) (hx : x < 2) (ha : dl 4294967296 a ≤ 32) (h2 : dl 4294967296 (2 * a + x) ≤ 32) :
    Calls Tryz.prog 169 #[.agg (nat a), .int .u32 (x : Nat)] w fun e w' => e = .returned (.agg (nat (2 * a + x))) ∧ Grown w w' := by
  unfold nat
  obtain ⟨n, hn⟩ : ∃ n, n = dl 4294967296 a := ⟨_, rfl⟩
  rw [← hn] at ha ⊢
  have HN := Lib.hid hn
  clear hn
  go_enter Tryz.func169, Tryz.ntmps169
  go_wp2
  go_loopw [1, 8] (fun xv kv wr => ∃ k d : Nat, k ≤ n ∧ kv = .int .i64 k ∧ xv = .int .u32 (((2 * (a % 4294967296 ^ k) + x) / 4294967296 ^ k : Nat)) ∧
      wr = ((w.alloc (.cells (cs (mixf k (dgi (2 * a + x)) (dgi a)) n) 110)).alloc (.cells (cs (fun _ => 0) 0) 110)).drewN d) (fun _ kv _ => n - (intOf kv).toNat)
  case atStart => exact ⟨0, 0, by omega, rfl, by simp [Nat.mod_one], by rw [mixf_zero]; rfl⟩
  case round =>
    obtain ⟨k, d, hk, rfl, hxv, rfl⟩ := hrel
    obtain ⟨c, hc⟩ : ∃ c, c = (2 * (a % 4294967296 ^ k) + x) / 4294967296 ^ k := ⟨_, rfl⟩
    rw [← hc] at hxv
    subst hxv
    have hst := dbl_step a x k hx
    rw [← hc] at hst
    obtain ⟨hs1, hs2, hs3⟩ := hst
    have HS1 := Lib.hid hs1
    have HS2 := Lib.hid hs2
    have HC := Lib.hid hc
    clear hs1 hs2 hc
    by_cases hlt : k < n
    · have hda := dgi_lt a k
      have hda0 := dgi_pos a k
      have hk32 : k < 32 := by omega
      have e1 := mixf_at k (dgi (2 * a + x)) (dgi a)
      go_wp2
      go_region
      go_wp2
      go_roundw
      case rel =>
        refine ⟨k + 1, d + 1, by omega, by go_num, ?_, ?_⟩
        · rw [HS2.out]; rfl
        · have hor : bits .or .u32 (dgi a k * 2 % 4294967296) (c : Int) = dgi (2 * a + x) k := (dbl_or _ _ (dg_lt (by omega) _ _) hs3).trans (congrArg _ HS1.out.symm)
          rw [mixf_step k (dgi (2 * a + x)) (dgi a) _ hor]
      case measure => simp [intOf]; omega
    · obtain rfl : k = n := by omega
      have hmod : a % 4294967296 ^ k = a := mod_pow_of_le (by omega) (by rw [← HN.out]; exact Nat.le_refl _)
      have hc2 := HC.out
      rw [hmod] at hc2
      rcases Nat.eq_zero_or_pos c with h0 | h0
      · subst h0
        have hlen : dl 4294967296 (2 * a + x) ≤ k := by
          refine dl_le (by omega) _ _ ?_
          rcases Nat.lt_or_ge (2 * a + x) (4294967296 ^ k) with h | h
          · exact h
          · have := (Nat.one_le_div_iff (Nat.pow_pos (by omega : 0 < 4294967296))).2 h
            omega
        have hlen2 : dl 4294967296 a ≤ dl 4294967296 (2 * a + x) := dl_mono (by omega) (by omega)
        have hlen3 : dl 4294967296 (2 * a + x) = k := by rw [← HN.out] at hlen2; omega
        clear hmod hc2 hlen hlen2
        have HL := Lib.hid hlen3
        clear hlen3
        go_wp2
        refine bodyPost_ret (v := .agg (nat (2 * a + x))) (ret_nat rfl rfl ?_) rfl ⟨rfl, ?_⟩
        · go_simp
          refine nat_eq (by rw [HL.out]) (fun i _ => ?_)
          unfold mixf
          split
          · rfl
          · rw [dgi_ge (by rw [← HN.out]; omega), dgi_ge (by rw [HL.out]; omega)]
        · exact (by with_reducible repeat (first | exact Grown.refl _ | apply Grown.more | apply Grown.alloc | apply Grown.drewN | apply Grown.drew))
      · have hc1 : c = 1 := by omega
        subst hc1
        have hlen : dl 4294967296 (2 * a + x) = k + 1 := by
          refine dl_eq (by omega) _ _ ?_ (.inr ?_)
          · rw [Nat.pow_succ]
            rw [Nat.mul_comm (4294967296 ^ k)]; exact (Nat.div_lt_iff_lt_mul (Nat.pow_pos (by omega : 0 < 4294967296))).1 (by rw [← hc2]; omega)
          · unfold dg
            rw [Nat.add_sub_cancel, ← hc2]
            omega
        have hk32 : k < 32 := by omega
        have hdk : dgi (2 * a + x) k = 1 := by
          unfold dgi dg
          rw [← hc2]
          rfl
        clear hmod hc2
        have HL := Lib.hid hlen
        have HDK := Lib.hid hdk
        clear hlen hdk
        go_wp2
        refine bodyPost_ret (v := .agg (nat (2 * a + x))) (ret_nat rfl rfl ?_) rfl ⟨rfl, ?_⟩
        · go_simp
          refine nat_eq (by rw [HL.out]; rfl) (fun i _ => ?_)
          unfold upd mixf
          split
          · subst_vars; rw [HDK.out]
          · split
            · rfl
            · rw [dgi_ge (by rw [← HN.out]; omega), dgi_ge (by rw [HL.out]; omega)]
        · exact (by with_reducible repeat (first | exact Grown.refl _ | apply Grown.more | apply Grown.alloc | apply Grown.drewN | apply Grown.drew))

set_option maxRecDepth 100000 in
set_option maxHeartbeats 400000 in
/-- short divides by a word -/
theorem short_any (a b : Nat) (w : World) (ha : dl 4294967296 a ≤ 32) (hb : 0 < b) (hb' : b < 4294967296) :
    Calls Tryz.prog 167 #[.agg (nat a), .int .u32 (b : Nat)] w fun e w' => e = .returned (.tuple #[.agg (nat (a / b)), .int .u32 (a % b : Nat)]) ∧ Grown w w' := by
  have hq : dl 4294967296 (a / b) ≤ dl 4294967296 a := dl_mono (by omega) (Nat.div_le_self _ _)
  unfold nat
  obtain ⟨n, hn⟩ : ∃ n, n = dl 4294967296 a := ⟨_, rfl⟩
  rw [← hn] at ha hq ⊢
  have HN := Lib.hid hn
  have HB := Lib.hid hb
  clear hn
  have hb1 : (1 : Int) ≤ b := by omega
  have hb2 : (b : Int) < 4294967296 := by omega
  go_enter Tryz.func167, Tryz.ntmps167
  go_wp2
  go_loopw [6, 7] (fun rv iv wr => ∃ k : Nat, k ≤ n ∧ iv = .int .i64 ((k : Int) - 1) ∧ rv = .int .u64 (a / 4294967296 ^ k % b : Nat) ∧
      wr = ((w.alloc (.cells (cs (mixf k (dgi a) (dgi (a / b))) n) 110)).alloc (.cells (cs (fun _ => 0) 0) 110))) (fun _ iv _ => (intOf iv + 1).toNat)
  case atStart =>
    refine ⟨n, by omega, rfl, ?_, ?_⟩
    · rw [Nat.div_eq_of_lt ((dl_le_iff (by omega) _ _).1 (by rw [← HN.out]; exact Nat.le_refl _))]; simp
    · rw [show mixf n (dgi a) (dgi (a / b)) = dgi a from by
        funext j
        unfold mixf
        split
        · rfl
        · rw [dgi_ge (by omega), dgi_ge (by rw [← HN.out]; omega)]]
  case round =>
    obtain ⟨k, hk, rfl, rfl, rfl⟩ := hrel
    have hr := Nat.mod_lt (a / 4294967296 ^ k) hb
    rcases Nat.eq_zero_or_pos k with h0 | h0
    · subst h0
      go_wp2_with fail
      refine (trimmed_any (a / b) n _ _ (fun i _ => by simp [mixf]) hq ha).mono ?_
      rintro e w' ⟨rfl, os, d, rfl⟩
      have e0 : a / 4294967296 ^ 0 % b = a % b := by simp
      rw [e0] at hr ⊢
      have hr1 : ((a % b : Nat) : Int) < 4294967296 := by omega
      clear e0
      go_wp2
      refine bodyPost_ret (v := .tuple #[.agg (nat (a / b)), .int .u32 (a % b : Nat)]) (ret_nat_tmp rfl rfl ?_ ?_) rfl ⟨rfl, ?_⟩
      · rfl
      · go_simp
      · exact (by with_reducible repeat (first | exact Grown.refl _ | apply Grown.more | apply Grown.alloc | apply Grown.drewN | apply Grown.drew))
    · obtain ⟨j, rfl⟩ : ∃ j, k = j + 1 := ⟨k - 1, by omega⟩
      obtain ⟨r, hr'⟩ : ∃ r, r = a / 4294967296 ^ (j + 1) % b := ⟨_, rfl⟩
      rw [← hr'] at hr ⊢
      have HR := Lib.hid hr'
      clear hr'
      have hj32 : j < 32 := by omega
      have hda := dgi_lt a j
      have hda0 := dgi_pos a j
      have e1 : mixf (j + 1) (dgi a) (dgi (a / b)) j = dgi a j := by simp [mixf]
      have eor : bits .or .u64 ((r : Int) * 4294967296) (dgi a j) = ((r * 4294967296 + dg 4294967296 a j : Nat) : Int) := shl_or _ _ (by omega) (dg_lt (by omega) _ _)
      have hbd : ((r * 4294967296 + dg 4294967296 a j : Nat) : Int) < 18446744073709551616 := by have := dg_lt (by omega : 0 < 4294967296) a j; omega
      have hss := short_step (B := 4294967296) hb (by omega) a j
      rw [← HR.out] at hss
      obtain ⟨hs1, hs2⟩ := hss
      have HS1 := Lib.hid hs1
      have HS2 := Lib.hid hs2
      clear hs1 hs2
      go_wp2
      go_roundw
      case rel =>
        refine ⟨j, by omega, rfl, ?_, ?_⟩
        · rw [← HS2.out]
          congr 1
        · have h1 : ((r : Int) * 4294967296 + (dg 4294967296 a j : Nat)) / (b : Int) % 4294967296 = dgi (a / b) j := by
            have := dg_lt (by omega : 0 < 4294967296) (a / b) j
            unfold dgi
            rw [← HS1.out] at this ⊢
            have hq : ((r : Int) * 4294967296 + (dg 4294967296 a j : Nat)) / (b : Int) = (((r * 4294967296 + dg 4294967296 a j) / b : Nat) : Int) := by
              rw [show ((r : Int) * 4294967296 + (dg 4294967296 a j : Nat)) = ((r * 4294967296 + dg 4294967296 a j : Nat) : Int) from by omega]
              exact (Int.natCast_ediv _ _).symm
            rw [hq]
            generalize (r * 4294967296 + dg 4294967296 a j) / b = q at *
            omega
          rw [h1]
          congr 3
          refine cs_ext (fun i _ => ?_) rfl
          unfold upd mixf
          split
          · subst_vars; simp
          · split <;> split <;> first | rfl | omega
      case measure => simp [intOf]

theorem bitLen_dl (d : Nat) (h : d < 4294967296) : Lib.bitLen d = dl 2 d := by
  have key : ∀ f x, x < 2 ^ f → Lib.bitLenAux f x = dl 2 x := by
    intro f
    induction f with
    | zero => intro x hx; have : x = 0 := by simpa using hx
              subst this; rw [dl_zero]; rfl
    | succ f ih =>
      intro x hx
      unfold Lib.bitLenAux
      split
      · subst_vars; rw [dl_zero]
      · rw [dl_pos (by omega) (by omega), ih (x / 2) (by rw [Nat.pow_succ] at hx; omega)]; omega
  exact key 64 d (Nat.lt_of_lt_of_le h (by decide))
theorem Len32_any (d : Nat) (w : World) (h : d < 4294967296) : Calls Tryz.prog 196 #[.int .u32 (d : Nat)] w fun e w' => e = .returned (.int .i64 (dl 2 d : Nat)) ∧ w' = w := by
  have := Tryz.bits_Len32 (d : Int) w (by omega) (by omega)
  rw [Int.toNat_natCast, bitLen_dl d h] at this
  exact this

set_option maxRecDepth 100000 in
set_option maxHeartbeats 400000 in
/-- size counts the bits -/
theorem size_any (a : Nat) (w : World) (ha : dl 4294967296 a ≤ 32) :
    Calls Tryz.prog 168 #[.agg (nat a)] w fun e w' => e = .returned (.int .i64 (dl 2 a : Nat)) ∧ Grown w w' := by
  rcases Nat.eq_zero_or_pos a with h0 | h0
  · subst h0
    unfold nat
    rw [dl_zero, dl_zero]
    go_enter Tryz.func168, Tryz.ntmps168
    go_wp2
    go_ret
    exact ⟨rfl, (by with_reducible repeat (first | exact Grown.refl _ | apply Grown.more | apply Grown.alloc | apply Grown.drewN | apply Grown.drew))⟩
  · have hb := bits_top h0
    have hp := (dl_pos_iff (B := 4294967296) (by omega)).2 h0
    unfold nat
    obtain ⟨n, hn⟩ : ∃ n, n + 1 = dl 4294967296 a := ⟨dl 4294967296 a - 1, by omega⟩
    rw [← hn] at ha hb ⊢
    rw [Nat.add_sub_cancel] at hb
    have HB := Lib.hid hb
    clear hn hb hp
    have hn32 : n < 32 := by omega
    have hda := dgi_lt a n
    have hda0 := dgi_pos a n
    have hd2 : (dl 2 (dg 4294967296 a n) : Int) ≤ 32 := by
      have := (dl_le_iff (B := 2) (by omega) 32 (dg 4294967296 a n)).2 (dg_lt (by omega) _ _)
      omega
    have hne : ((n : Int) + 1 == 0) = false := by rw [beq_eq_false_iff_ne]; omega
    clear h0
    rw [show ((n + 1 : Nat) : Int) = (n : Int) + 1 from by omega]
    go_enter Tryz.func168, Tryz.ntmps168
    go_wp2
    go_quiet ((go_at_call 196; exact Calls.quiet_of_same (Len32_any _ _ (dg_lt (by omega) _ _))))
    go_wp2
    go_ret
    exact ⟨congrArg _ (congrArg (Value.int .i64) (by rw [HB.out]; omega)), (by with_reducible repeat (first | exact Grown.refl _ | apply Grown.more | apply Grown.alloc | apply Grown.drewN | apply Grown.drew))⟩
end Go.Proofs.YtnohidkmjclojaaGreatDoor
