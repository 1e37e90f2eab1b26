/- Walks: exact's division and greatest common divisor. -/
import Derived.Test.YtnohidkmjclojaaGreatDoorNatC
import Derived.Deep.RegionHeld3
namespace Go.Proofs.YtnohidkmjclojaaGreatDoor
open Go.RowKit

set_option maxRecDepth 100000 in
set_option maxHeartbeats 200000 in
/-- divide divides by one word -/
theorem divide_one (a b : Nat) (w : World) (ha : dl 4294967296 a ≤ 32) (hb : 0 < b) (hb' : b < 4294967296) :
    Calls Tryz.prog 131 #[.agg (nat a), .agg (nat b)] w fun e w' => e = .returned (.tuple #[.agg (nat (a / b)), .agg (nat (a % b))]) ∧ Grown w w' := by
  have hl : dl 4294967296 b = 1 := dl_eq (by omega) 1 b (by omega) (.inr (by unfold dg; rw [Nat.pow_zero, Nat.div_one, Nat.mod_eq_of_lt hb']; omega))
  have hd : dgi b 0 = b := by unfold dgi dg; rw [Nat.pow_zero, Nat.div_one, Nat.mod_eq_of_lt hb']
  have hr : a % b < 4294967296 := Nat.lt_trans (Nat.mod_lt _ hb) hb'
  have hbn : nat b = cs (dgi b) 1 := by unfold nat; rw [hl]; rfl
  rw [hbn]
  clear hl hbn
  obtain ⟨Q, hQ⟩ : ∃ Q, Q = a / b := ⟨_, rfl⟩
  obtain ⟨R, hR⟩ : ∃ R, R = a % b := ⟨_, rfl⟩
  have hsh := short_any a b
  rw [← hQ, ← hR] at hsh
  rw [← hQ, ← hR]
  rw [← hR] at hr
  have HSH := Lib.hid hsh
  clear hQ hR hsh
  have hR1 : (R : Int) < 4294967296 := by omega
  go_enter Tryz.func131, Tryz.ntmps131
  go_wp2_with (go_at_call 167; refine (HSH.out _ ha hb hb').mono ?_; rintro e w' ⟨rfl, os, d, rfl⟩)
  have hwr : IntKind.u64.wrap (R : Int) = R := by rw [IntKind.wrap_u64]; omega
  go_region_held3 (fun w' => rowAt w' ⟨w.heap.size + 1 + 1 + 1 + 1 + os.size, 0, none⟩ 33 = some (nat Q)) (go_simp) (first | (go_at_call 148; refine (of_any R _ (by omega)).mono ?_; rintro e w' ⟨rfl, os', d', rfl⟩))
  go_wp2
  refine bodyPost_ret (v := .tuple #[.agg (nat Q), .agg (nat R)]) (ret_nat_nat rfl rfl rfl ?_ ?_) rfl ⟨rfl, ?_⟩
  · go_simp
  · go_simp
  · exact (by with_reducible repeat (first | exact Grown.refl _ | apply Grown.more | apply Grown.alloc | apply Grown.drewN | apply Grown.drew))

theorem div_hi {a b j r q c : Nat} (hb : 0 < b) (hr : r = a / 2 ^ (j + 1) % b) (hq : q = a / 2 ^ (j + 1) / b) (h : b + c = 2 * r + dg 2 a j) :
    a / 2 ^ j / b * 2 ^ j = q * 2 ^ (j + 1) + 2 ^ j ∧ a / 2 ^ j % b = c := by
  have hs := bit_step' hb a j (by rw [← hr]; omega)
  rw [← hr, ← hq] at hs
  rw [hs.1, hs.2]
  constructor
  · rw [Nat.add_mul, Nat.pow_succ, Nat.one_mul]
    congr 1
    rw [Nat.mul_comm 2 q, Nat.mul_assoc, Nat.mul_comm 2]
  · omega
theorem div_lo {a b j r q r2 : Nat} (hb : 0 < b) (hr : r = a / 2 ^ (j + 1) % b) (hq : q = a / 2 ^ (j + 1) / b) (h2 : r2 = 2 * r + dg 2 a j) (h : r2 < b) :
    a / 2 ^ j / b * 2 ^ j = q * 2 ^ (j + 1) ∧ a / 2 ^ j % b = r2 := by
  have hs := bit_step hb a j (by rw [← hr]; omega)
  rw [← hr, ← hq] at hs
  rw [hs.1, hs.2]
  constructor
  · rw [Nat.pow_succ, Nat.mul_comm 2 q, Nat.mul_assoc, Nat.mul_comm 2]
  · omega
theorem div_word (q j : Nat) : upd (dgi (q * 2 ^ (j + 1))) (j / 32) (bits BinOp.or IntKind.u32 (dgi (q * 2 ^ (j + 1)) (j / 32)) (2 ^ (j % 32) % 4294967296)) = dgi (q * 2 ^ (j + 1) + 2 ^ j) := by
  have hp : 2 ^ (j % 32) < 4294967296 := Nat.lt_of_lt_of_le (Nat.pow_lt_pow_right (by omega) (Nat.mod_lt j (by omega : 0 < 32))) (by decide)
  have e : (2 : Int) ^ (j % 32) % 4294967296 = ((2 ^ (j % 32) : Nat) : Int) := by
    rw [show (2 : Int) ^ (j % 32) = ((2 ^ (j % 32) : Nat) : Int) from by simp]
    generalize 2 ^ (j % 32) = p at *
    omega
  funext i
  unfold upd
  split
  · subst_vars
    rw [e]
    unfold dgi
    rw [u32_or_nat _ _ (dg_lt (by omega) _ _) hp, set_bit]
  · unfold dgi
    rw [set_bit_other _ _ _ (by assumption)]

theorem nat_zero : cs (fun _ => 0) 0 = nat 0 := nat_eq (by rw [dl_zero]; rfl) (fun i _ => by simp [dgi, dg])

set_option maxRecDepth 100000 in
set_option maxHeartbeats 800000 in
/-- divide divides by more than one word, bit by bit -/
theorem divide_more (a b : Nat) (w : World) (ha : dl 4294967296 a ≤ 32) (hb : 4294967296 ≤ b) (h2b : dl 4294967296 (2 * b) ≤ 32) :
    Calls Tryz.prog 131 #[.agg (nat a), .agg (nat b)] w fun e w' => e = .returned (.tuple #[.agg (nat (a / b)), .agg (nat (a % b))]) ∧ Grown w w' := by
  have hlb : dl 4294967296 b ≤ 32 := Nat.le_trans (dl_mono (by omega) (by omega)) h2b
  have hnb : ((dl 4294967296 b : Int) == 1) = false := by
    rw [beq_eq_false_iff_ne]
    intro h
    have := (dl_le_iff (B := 4294967296) (by omega) 1 b).1 (by omega)
    omega
  have hbits : dl 2 a ≤ 1024 := by
    refine dl_le (by omega) _ _ ?_
    have := (dl_le_iff (B := 4294967296) (by omega) _ _).1 ha
    exact Nat.lt_of_lt_of_le this (by rw [show (4294967296 : Nat) = 2 ^ 32 from rfl, ← Nat.pow_mul, show 32 * 32 = 1024 from rfl]; exact Nat.le_refl _)
  have hsz := size_any a
  have hq : dl 4294967296 (a / b) ≤ dl 4294967296 a := dl_mono (by omega) (Nat.div_le_self _ _)
  obtain ⟨M, hM⟩ : ∃ M, M = dl 2 a := ⟨_, rfl⟩
  rw [← hM] at hsz hbits
  have HSZ := Lib.hid hsz
  have HM := Lib.hid hM
  clear hM hsz
  go_enter Tryz.func131, Tryz.ntmps131
  go_wp2_with (go_at_call 168; refine (HSZ.out _ ha).mono ?_; rintro e w' ⟨rfl, os, d, rfl⟩)
  go_loopw [10] (fun iv wr => ∃ (k : Nat) (os : Array Obj) (d : Nat), k ≤ M ∧ iv = .int .i64 ((k : Int) - 1) ∧
      wr = grow ((((((w.alloc (.cells (nat a) 110)).alloc (.cells (nat b) 110)).alloc (.cells (cs (fun _ => 0) 0) 110)).alloc (.cells (cs (fun _ => 0) 0) 110)).alloc (.cells (cs (dgi (a / 2 ^ k / b * 2 ^ k)) (dl 4294967296 a : Nat)) 110)).alloc (.cells (nat (a / 2 ^ k % b)) 110)) os d) (fun iv _ => (intOf iv + 1).toNat)
  case atStart =>
    have h0 : a / 2 ^ M = 0 := Nat.div_eq_of_lt ((dl_le_iff (by omega) _ _).1 (by rw [HM.out]; exact Nat.le_refl _))
    refine ⟨M, os, d, by omega, rfl, ?_⟩
    rw [h0, Nat.zero_div, Nat.zero_mul, Nat.zero_mod, ← nat_zero, show (dgi 0) = fun _ => 0 from by funext i; simp [dgi, dg]]
  case round =>
    obtain ⟨k, os, d, hk, rfl, rfl⟩ := hrel
    rcases Nat.eq_zero_or_pos k with h0 | h0
    · subst h0
      have e0 : a / 2 ^ 0 / b * 2 ^ 0 = a / b := by simp
      have e1 : a / 2 ^ 0 % b = a % b := by simp
      rw [e0, e1]
      clear e0 e1
      have htr := trimmed_any (a / b) (dl 4294967296 a) (dgi (a / b))
      obtain ⟨Q, hQ⟩ : ∃ Q, Q = a / b := ⟨_, rfl⟩
      obtain ⟨R, hR⟩ : ∃ R, R = a % b := ⟨_, rfl⟩
      rw [← hQ] at htr hq ⊢
      rw [← hR]
      have HT := Lib.hid htr
      have HQ := Lib.hid hQ
      have HR := Lib.hid hR
      clear htr hQ hR
      go_wp2_with fail
      go_region_held3 (fun w' => rowAt w' ⟨w.heap.size + 1 + 1 + 1 + 1, 0, none⟩ 33 = some (cs (dgi Q) (dl 4294967296 a : Nat)) ∧ rowAt w' ⟨w.heap.size + 1 + 1 + 1 + 1 + 1, 0, none⟩ 33 = some (nat R)) (go_simp) (first | (go_at_call 172; refine (HT.out _ (by simp) hq ha).mono ?_; rintro e w' ⟨rfl, os', d', rfl⟩))
      go_wp2
      refine bodyPost_ret (v := .tuple #[.agg (nat Q), .agg (nat R)]) (ret_nat_nat rfl rfl rfl ?_ ?_) rfl ⟨by rw [HQ.out, HR.out], ?_⟩
      · go_simp
      · go_simp
      · exact (by with_reducible repeat (first | exact Grown.refl _ | apply Grown.more | apply Grown.alloc | apply Grown.drewN | apply Grown.drew))
    · obtain ⟨j, rfl⟩ : ∃ j, k = j + 1 := ⟨k - 1, by omega⟩
      obtain ⟨r, hr⟩ : ∃ r, r = a / 2 ^ (j + 1) % b := ⟨_, rfl⟩
      obtain ⟨q, hq'⟩ : ∃ q, q = a / 2 ^ (j + 1) / b := ⟨_, rfl⟩
      rw [← hr, ← hq']
      have HR := Lib.hid hr
      have HQ := Lib.hid hq'
      have hrb : r < b := by rw [hr]; exact Nat.mod_lt _ (by omega)
      have hbit := dg_lt (by omega : 0 < 2) a j
      have hlr : dl 4294967296 r ≤ 32 := Nat.le_trans (dl_mono (by omega) (by omega)) h2b
      have hl2 : dl 4294967296 (2 * r + dg 2 a j) ≤ 32 := Nat.le_trans (dl_mono (by omega) (by omega)) h2b
      clear hr hq'
      have hj32 : j / 32 < 32 := by omega
      obtain ⟨r2, hr2⟩ : ∃ r2, r2 = 2 * r + dg 2 a j := ⟨_, rfl⟩
      have HR2 := Lib.hid hr2
      have hdbl := doubled_any r (dg 2 a j)
      rw [← hr2] at hdbl hl2
      have HD := Lib.hid hdbl
      clear hr2 hdbl
      by_cases hge : b ≤ r2
      · obtain ⟨c, rfl⟩ : ∃ c, r2 = b + c := ⟨r2 - b, by omega⟩
        have hc : 0 ≤ cmpI (b + c) b := by
          unfold cmpI; rw [if_neg (by omega)]; split <;> omega
        clear hge
        go_wp2_with fail
        go_region_with (first | (go_at_call 170; refine (bit_any a j _ ha (by omega)).mono ?_; rintro e w' ⟨rfl, os1, d1, rfl⟩) | (go_at_call 169; refine (HD.out _ hbit hlr hl2).mono ?_; rintro e w' ⟨rfl, os2, d2, rfl⟩))
        all_goals
          go_wp2_with (first | (go_at_call 146; refine (compare_any _ _ _ hl2 hlb).mono ?_; rintro e w' ⟨rfl, os3, d3, rfl⟩) | (go_at_call 171; refine (less_any c b _ hl2).mono ?_; rintro e w' ⟨rfl, os4, d4, rfl⟩))
          go_region
          go_wp2
          go_roundw
          case rel =>
            obtain ⟨h1, h2⟩ := div_hi (by omega) HR.out HQ.out HR2.out
            refine ⟨j, os ++ (os1 ++ (os2 ++ (os3 ++ os4))), d4 + 1, by omega, rfl, ?_⟩
            rw [h1, h2, div_word]
          case measure => simp [intOf]
      · have hc : cmpI r2 b < 0 := by
          unfold cmpI; rw [if_pos (by omega)]; omega
        go_wp2_with fail
        go_region_with (first | (go_at_call 170; refine (bit_any a j _ ha (by omega)).mono ?_; rintro e w' ⟨rfl, os1, d1, rfl⟩) | (go_at_call 169; refine (HD.out _ hbit hlr hl2).mono ?_; rintro e w' ⟨rfl, os2, d2, rfl⟩))
        all_goals
          go_wp2_with (go_at_call 146; refine (compare_any _ _ _ hl2 hlb).mono ?_; rintro e w' ⟨rfl, os3, d3, rfl⟩)
          go_roundw
          case rel =>
            obtain ⟨h1, h2⟩ := div_lo (by omega) HR.out HQ.out HR2.out (by omega)
            refine ⟨j, os ++ (os1 ++ (os2 ++ os3)), d3, by omega, rfl, ?_⟩
            rw [h1, h2]
          case measure => simp [intOf]

/-- divide divides -/
theorem divide_any (a b : Nat) (w : World) (ha : dl 4294967296 a ≤ 32) (hb : 0 < b) (h2b : dl 4294967296 (2 * b) ≤ 32) :
    Calls Tryz.prog 131 #[.agg (nat a), .agg (nat b)] w fun e w' => e = .returned (.tuple #[.agg (nat (a / b)), .agg (nat (a % b))]) ∧ Grown w w' := by
  rcases Nat.lt_or_ge b 4294967296 with h | h
  · exact divide_one a b w ha hb h
  · exact divide_more a b w ha h h2b

set_option maxRecDepth 100000 in
set_option maxHeartbeats 800000 in
/-- common is the greatest common divisor -/
theorem common_any (a b : Nat) (w : World) (ha : dl 4294967296 a ≤ 32) (h2b : dl 4294967296 (2 * b) ≤ 32) :
    Calls Tryz.prog 147 #[.agg (nat a), .agg (nat b)] w fun e w' => e = .returned (.agg (nat (Nat.gcd a b))) ∧ Grown w w' := by
  go_enter Tryz.func147, Tryz.ntmps147
  go_wp2
  go_loopg [13] b (fun g _ wr => ∃ (x y : Nat), y = g ∧ y ≤ b ∧ Nat.gcd x y = Nat.gcd a b ∧ dl 4294967296 x ≤ 32 ∧
      Grown ((((w.alloc (.cells (nat x) 110)).alloc (.cells (nat y) 110)).alloc (.cells (cs (fun _ => 0) 0) 110))) wr)
  case atStart => exact ⟨a, b, rfl, Nat.le_refl _, rfl, ha, Grown.refl _⟩
  case round =>
    obtain ⟨x, y, rfl, hyb, hg, hx, os, d, rfl⟩ := hrel
    have HG := Lib.hid hg
    clear hg
    rcases Nat.eq_zero_or_pos y with h0 | h0
    · subst h0
      have hz : (dl 4294967296 0 : Int) = 0 := by rw [dl_zero]; rfl
      go_wp2
      refine bodyPost_ret (v := .agg (nat x)) (ret_nat rfl rfl ?_) rfl ⟨by rw [← HG.out, Nat.gcd_zero_right], ?_⟩
      · go_simp
      · exact (by with_reducible repeat (first | exact Grown.refl _ | apply Grown.more | apply Grown.alloc | apply Grown.drewN | apply Grown.drew))
    · have h2y : dl 4294967296 (2 * y) ≤ 32 := Nat.le_trans (dl_mono (by omega) (by omega)) h2b
      have hpos : (0 : Int) < dl 4294967296 y := by have := (dl_pos_iff (B := 4294967296) (by omega)).2 h0; omega
      have hdv := divide_any x y
      obtain ⟨Q, hQ⟩ : ∃ Q, Q = x / y := ⟨_, rfl⟩
      obtain ⟨R, hR⟩ : ∃ R, R = x % y := ⟨_, rfl⟩
      rw [← hQ, ← hR] at hdv
      have HD := Lib.hid hdv
      have HR := Lib.hid hR
      clear hdv hQ hR
      go_wp2_with (go_at_call 131; refine (HD.out _ hx h0 h2y).mono ?_; rintro e w' ⟨rfl, os1, d1, rfl⟩)
      go_region
      go_wp2
      go_roundg R
      case measure => rw [HR.out]; exact Nat.mod_lt _ h0
      case rel =>
        have hlt : R < y := by rw [HR.out]; exact Nat.mod_lt _ h0
        exact ⟨y, R, rfl, by omega, by rw [← HG.out, HR.out, Nat.gcd_comm y, ← Nat.gcd_rec, Nat.gcd_comm], Nat.le_trans (dl_mono (by omega) (by omega)) h2y, (by with_reducible repeat (first | exact Grown.refl _ | apply Grown.more | apply Grown.alloc | apply Grown.drewN | apply Grown.drew))⟩
end Go.Proofs.YtnohidkmjclojaaGreatDoor
