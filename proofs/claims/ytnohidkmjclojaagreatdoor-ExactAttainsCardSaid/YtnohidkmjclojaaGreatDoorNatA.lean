/- Walks: exact's natural numbers, the plain operations. -/
import Derived.Test.YtnohidkmjclojaaGreatDoorKit
namespace Go.Proofs.YtnohidkmjclojaaGreatDoor
open Go.RowKit

def mixf (k : Nat) (f g : Nat → Int) : Nat → Int := fun j => if j < k then f j else g j
theorem mixf_zero (f g : Nat → Int) : mixf 0 f g = g := by funext j; simp [mixf]
theorem mixf_at (k : Nat) (f g : Nat → Int) : mixf k f g k = g k := by simp [mixf]
theorem mixf_step (k : Nat) (f g : Nat → Int) (v : Int) (h : v = f k) : upd (mixf k f g) k v = mixf (k + 1) f g := by
  subst h
  funext i
  unfold upd mixf
  split
  · subst_vars; simp
  · split <;> split <;> first | rfl | omega

set_option maxRecDepth 100000 in
set_option maxHeartbeats 400000 in
/-- plus adds -/
theorem plus_any (a b : Nat) (w : World) (ha : dl 4294967296 a ≤ 32) (hb : dl 4294967296 b ≤ 32) (hs : dl 4294967296 (a + b) ≤ 32) :
    Calls Tryz.prog 173 #[.agg (nat a), .agg (nat b)] w fun e w' => e = .returned (.agg (nat (a + b))) ∧ Grown w w' := by
  unfold nat
  obtain ⟨n, hn⟩ : ∃ n, n = dl 4294967296 a := ⟨_, rfl⟩
  obtain ⟨m, hm⟩ : ∃ m, m = dl 4294967296 b := ⟨_, rfl⟩
  rw [← hn] at ha ⊢
  rw [← hm] at hb ⊢
  have HN := Lib.hid hn
  have HM := Lib.hid hm
  clear hn hm
  obtain ⟨N, hN⟩ : ∃ N, max n m = N := ⟨_, rfl⟩
  have hnN : n ≤ N := by omega
  have hmN : m ≤ N := by omega
  have hN32 : N ≤ 32 := by omega
  go_enter Tryz.func173, Tryz.ntmps173
  go_wp2
  go_loopw [5, 12] (fun c i wr => ∃ k d : Nat, k ≤ N ∧ i = .int .i64 k ∧ c = .int .u64 (ca 4294967296 a b k) ∧
      wr = (((w.alloc (.cells (cs (mixf k (dgi (a + b)) (dgi a)) n) 110)).alloc (.cells (cs (dgi b) m) 110)).alloc (.cells (cs (fun _ => 0) 0) 110)).drewN d) (fun _ i _ => N - (intOf i).toNat)
  case atStart => exact ⟨0, 0, by omega, rfl, by rw [ca_zero]; rfl, by rw [mixf_zero]; rfl⟩
  case round =>
    obtain ⟨k, d, hk, rfl, rfl, rfl⟩ := hrel
    have hcb : (ca 4294967296 a b k : Int) ≤ 1 := by have := ca_le (by omega : 0 < 4294967296) a b k; omega
    by_cases hlt : k < N
    · have hda := dgi_lt a k
      have hdb := dgi_lt b k
      have hda0 := dgi_pos a k
      have hdb0 := dgi_pos b k
      have hk32 : k < 32 := by omega
      have e1 := mixf_at k (dgi (a + b)) (dgi a)
      go_wp2
      go_quiet (fail)
      go_wp2
      go_roundw
      case rel =>
        have h1 := ca_step (by omega : 0 < 4294967296) a b k
        have h2 := dg_lt (by omega : 0 < 4294967296) (a + b) k
        refine ⟨k + 1, d + nq, by omega, by go_num, ?_, ?_⟩
        · congr 1; unfold dgi; omega
        · rw [mixf_step k (dgi (a + b)) (dgi a) _ (by unfold dgi; omega)]
      case measure => simp [intOf]; omega
    · obtain rfl : k = N := by omega
      have hend := ca_end (B := 4294967296) (by omega) (a := a) (b := b) (n := k) (by rw [← HN.out]; omega) (by rw [← HM.out]; omega)
      have hla : dl 4294967296 a ≤ k := by rw [← HN.out]; omega
      have hlb : dl 4294967296 b ≤ k := by rw [← HM.out]; omega
      have hor : dl 4294967296 a = k ∨ dl 4294967296 b = k := by rw [← HN.out, ← HM.out]; omega
      by_cases hc : ca 4294967296 a b k = 0
      · have hlen := plus_len0 (by omega) hla hlb hor hc
        rw [hc]
        go_wp2
        refine bodyPost_ret (v := .agg (nat (a + b))) (ret_nat rfl rfl ?_) rfl ⟨rfl, ?_⟩
        · go_simp
          refine nat_eq (by rw [hlen]) (fun i _ => ?_)
          unfold mixf
          split
          · rfl
          · rw [dgi_ge (by omega), dgi_ge (by omega)]
        · exact (by with_reducible repeat (first | exact Grown.refl _ | apply Grown.more | apply Grown.alloc | apply Grown.drewN | apply Grown.drew))
      · have hc1 : ca 4294967296 a b k = 1 := by omega
        have hlen := plus_len1 (by omega) hla hlb hc1
        have hk32 : k < 32 := by omega
        rw [hc1]
        go_wp2
        refine bodyPost_ret (v := .agg (nat (a + b))) (ret_nat rfl rfl ?_) rfl ⟨rfl, ?_⟩
        · go_simp
          refine nat_eq (by rw [hlen]; rfl) (fun i _ => ?_)
          unfold upd mixf
          split
          · subst_vars; unfold dgi; omega
          · split
            · rfl
            · rw [dgi_ge (by omega), dgi_ge (by omega)]
        · exact (by with_reducible repeat (first | exact Grown.refl _ | apply Grown.more | apply Grown.alloc | apply Grown.drewN | apply Grown.drew))

/-- the sign of an integer -/
def sgn (n : Int) : Int := if n < 0 then -1 else if 0 < n then 1 else 0
set_option maxHeartbeats 400000 in
theorem sign_any (n : Int) (w : World) : Calls Tryz.prog 181 #[.int .i64 n] w fun e w' => e = .returned (.int .i64 (sgn n)) ∧ w' = w := by
  rcases Int.lt_trichotomy n 0 with h | h | h
  · have e : sgn n = -1 := by unfold sgn; rw [if_pos h]
    rw [e]
    go_enter Tryz.func181, Tryz.ntmps181
    go_wp2
    go_ret
    exact ⟨rfl, rfl⟩
  · subst h
    go_enter Tryz.func181, Tryz.ntmps181
    go_wp2
    go_ret
    exact ⟨rfl, rfl⟩
  · have e : sgn n = 1 := by unfold sgn; rw [if_neg (by omega), if_pos h]
    rw [e]
    go_enter Tryz.func181, Tryz.ntmps181
    go_wp2
    go_ret
    exact ⟨rfl, rfl⟩

set_option maxRecDepth 100000 in
set_option maxHeartbeats 400000 in
/-- trimmed removes zero words at the end -/
theorem trimmed_any (x n : Nat) (f : Nat → Int) (w : World) (hf : ∀ i, i < 32 → f i = dgi x i) (hx : dl 4294967296 x ≤ n) (hn : n ≤ 32) :
    Calls Tryz.prog 172 #[.agg (cs f (n : Nat))] w fun e w' => e = .returned (.agg (nat x)) ∧ Grown w w' := by
  have HF := Lib.hid hf
  clear hf
  go_enter Tryz.func172, Tryz.ntmps172
  go_wp2
  go_loopg [14] (n - dl 4294967296 x) (fun g _ wr => ∃ k : Nat, k = dl 4294967296 x + g ∧ k ≤ n ∧ wr = ((w.alloc (.cells (cs f k) 110)).alloc (.cells (cs (fun _ => 0) 0) 110)))
  case atStart => exact ⟨n, by omega, by omega, rfl⟩
  case round =>
    obtain ⟨k, hk, hkn, rfl⟩ := hrel
    rcases Nat.eq_zero_or_pos gk with h0 | h0
    · have hkx : k = dl 4294967296 x := by omega
      have HK := Lib.hid hkx
      have fin : cs f (k : Nat) = nat x := nat_eq (by rw [hkx]) HF.out
      have FIN := Lib.hid fin
      clear hk h0 hkx fin
      rcases Nat.eq_zero_or_pos k with hk0 | hk0
      · subst hk0
        go_wp2
        refine bodyPost_ret (v := .agg (nat x)) (ret_nat rfl rfl ?_) rfl ⟨rfl, ?_⟩
        · go_simp
          exact FIN.out
        · exact (by with_reducible repeat (first | exact Grown.refl _ | apply Grown.more | apply Grown.alloc | apply Grown.drewN | apply Grown.drew))
      · obtain ⟨m, rfl⟩ : ∃ m, k = m + 1 := ⟨k - 1, by omega⟩
        have hm32 : m < 32 := by omega
        have hw : (f m == 0) = false := by
          have hp : 0 < x := (dl_pos_iff (B := 4294967296) (by omega)).1 (by rw [← HK.out]; omega)
          have h2 := dg_top (B := 4294967296) (by omega) hp
          rw [← HK.out] at h2
          rw [HF.out m hm32]
          unfold dgi
          rw [beq_eq_false_iff_ne]
          rw [Nat.add_sub_cancel] at h2
          omega
        go_wp2
        refine bodyPost_ret (v := .agg (nat x)) (ret_nat rfl rfl ?_) rfl ⟨rfl, ?_⟩
        · go_simp
          exact FIN.out
        · exact (by with_reducible repeat (first | exact Grown.refl _ | apply Grown.more | apply Grown.alloc | apply Grown.drewN | apply Grown.drew))
    · obtain ⟨m, rfl⟩ : ∃ m, k = m + 1 := ⟨k - 1, by omega⟩
      have hm32 : m < 32 := by omega
      have hw : f m = 0 := by
        rw [HF.out m hm32]
        exact dgi_ge (by omega)
      have HK := Lib.hid hk
      clear hk
      go_wp2
      go_roundg (gk - 1)
      case measure => omega
      case rel => exact ⟨m, by have := HK.out; omega, by omega, by congr⟩

set_option maxRecDepth 100000 in
set_option maxHeartbeats 400000 in
/-- of makes a natural number -/
theorem of_any (x : Nat) (w : World) (hx : x < 18446744073709551616) :
    Calls Tryz.prog 148 #[.int .u64 (x : Nat)] w fun e w' => e = .returned (.agg (nat x)) ∧ Grown w w' := by
  go_enter Tryz.func148, Tryz.ntmps148
  go_wp2_with fail
  refine (trimmed_any x 2 _ _ (fun i _ => ?_) ?_ (by omega)).mono ?_
  · rcases Nat.lt_or_ge i 2 with h | h
    · rcases (by omega : i = 0 ∨ i = 1) with rfl | rfl
      · simp [upd, dgi, dg]
      · simp only [upd, dgi, dg, if_true]; omega
    · simp only [upd]
      rw [if_neg (by omega), if_neg (by omega)]
      exact (dgi_ge (Nat.le_trans ((dl_le_iff (by omega) 2 x).2 (by omega)) h)).symm
  · exact (dl_le_iff (by omega) 2 x).2 (by omega)
  · rintro e w' ⟨rfl, os, d, rfl⟩
    go_wp2
    refine bodyPost_ret (v := .agg (nat x)) (ret_nat rfl rfl ?_) rfl ⟨rfl, ?_⟩
    · go_simp
    · exact (by with_reducible repeat (first | exact Grown.refl _ | apply Grown.more | apply Grown.alloc | apply Grown.drewN | apply Grown.drew))

theorem less_word {da db dc bo bo' : Int} (h : 4294967296 * bo' + da = bo + db + dc) (ha : 0 ≤ da) (ha' : da < 4294967296) (hb : 0 ≤ db) (hb' : db < 4294967296) (hc : 0 ≤ dc) (hc' : dc < 4294967296)
    (h0 : 0 ≤ bo) (h1 : bo ≤ 1) (h2 : 0 ≤ bo') (h3 : bo' ≤ 1) :
    IntKind.u64.wrap (IntKind.u64.wrap (da - db) - bo) / 9223372036854775808 = bo' ∧ IntKind.u64.wrap (IntKind.u64.wrap (da - db) - bo) % 4294967296 = dc := by
  simp only [IntKind.wrap_u64]
  omega

set_option maxRecDepth 100000 in
set_option maxHeartbeats 400000 in
/-- less subtracts -/
theorem less_any (c b : Nat) (w : World) (ha : dl 4294967296 (b + c) ≤ 32) :
    Calls Tryz.prog 171 #[.agg (nat (b + c)), .agg (nat b)] w fun e w' => e = .returned (.agg (nat c)) ∧ Grown w w' := by
  have hb : dl 4294967296 b ≤ dl 4294967296 (b + c) := dl_mono (by omega) (by omega)
  have hcl : dl 4294967296 c ≤ dl 4294967296 (b + c) := dl_mono (by omega) (by omega)
  unfold nat
  obtain ⟨n, hn⟩ : ∃ n, n = dl 4294967296 (b + c) := ⟨_, rfl⟩
  obtain ⟨m, hm⟩ : ∃ m, m = dl 4294967296 b := ⟨_, rfl⟩
  rw [← hn] at ha hb hcl ⊢
  rw [← hm] at hb ⊢
  have HN := Lib.hid hn
  have HM := Lib.hid hm
  clear hn hm
  go_enter Tryz.func171, Tryz.ntmps171
  go_wp2
  go_loopw [5, 10] (fun bo i wr => ∃ k d : Nat, k ≤ n ∧ i = .int .i64 k ∧ bo = .int .u64 (ca 4294967296 b c k) ∧
      wr = (((w.alloc (.cells (cs (mixf k (dgi c) (dgi (b + c))) n) 110)).alloc (.cells (cs (dgi b) m) 110)).alloc (.cells (cs (fun _ => 0) 0) 110)).drewN d) (fun _ i _ => n - (intOf i).toNat)
  case atStart => exact ⟨0, 0, by omega, rfl, by rw [ca_zero]; rfl, by rw [mixf_zero]; rfl⟩
  case round =>
    obtain ⟨k, d, hk, rfl, rfl, rfl⟩ := hrel
    have hcb : (ca 4294967296 b c k : Int) ≤ 1 := by have := ca_le (by omega : 0 < 4294967296) b c k; omega
    by_cases hlt : k < n
    · have hda := dgi_lt (b + c) k
      have hdb := dgi_lt b k
      have hda0 := dgi_pos (b + c) k
      have hdb0 := dgi_pos b k
      have hk32 : k < 32 := by omega
      have e1 := mixf_at k (dgi c) (dgi (b + c))
      go_wp2
      go_quiet (fail)
      go_wp2
      go_roundw
      case rel =>
        have h1 := ca_step (by omega : 0 < 4294967296) b c k
        have h2 := ca_le (by omega : 0 < 4294967296) b c (k + 1)
        obtain ⟨e2, e3⟩ := less_word (da := dgi (b + c) k) (db := dgi b k) (dc := dgi c k) (bo := ca 4294967296 b c k) (bo' := ca 4294967296 b c (k + 1)) (by unfold dgi; omega) hda0 hda hdb0 hdb (dgi_pos _ _) (dgi_lt _ _) (by omega) (by omega) (by omega) (by omega)
        refine ⟨k + 1, d + nq, by omega, by go_num, ?_, ?_⟩
        · rw [e2]
        · rw [mixf_step k (dgi c) (dgi (b + c)) _ e3]
      case measure => simp [intOf]; omega
    · obtain rfl : k = n := by omega
      go_wp2_with fail
      refine (trimmed_any c k _ _ (fun i _ => ?_) hcl ha).mono ?_
      · unfold mixf
        split
        · rfl
        · rw [dgi_ge (by rw [← HN.out]; omega), dgi_ge (by omega)]
      · rintro e w' ⟨rfl, os, d', rfl⟩
        go_wp2
        refine bodyPost_ret (v := .agg (nat c)) (ret_nat rfl rfl ?_) rfl ⟨rfl, ?_⟩
        · go_simp
        · exact (by with_reducible repeat (first | exact Grown.refl _ | apply Grown.more | apply Grown.alloc | apply Grown.drewN | apply Grown.drew))

end Go.Proofs.YtnohidkmjclojaaGreatDoor
