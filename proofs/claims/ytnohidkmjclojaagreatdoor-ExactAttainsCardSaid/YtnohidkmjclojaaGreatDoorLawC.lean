/- The law's examples of apportionments. -/
import Derived.Test.YtnohidkmjclojaaGreatDoorLawB
namespace Go.Proofs.YtnohidkmjclojaaGreatDoor
open Go.RowKit

/-- the rest of weight k: its quota's remainder over its denominator -/
def restT (W : Nat → List UInt8 × List UInt8) (F : Tri) (k : Nat) : Tri := lowT (quoT (mulT (ratT (W k).1 (W k).2) (false, 10, 1)) F)
def remT (W : Nat → List UInt8 × List UInt8) (F : Tri) (k : Nat) : Tri := (false, (restT W F k).2.1 % (restT W F k).2.2, (restT W F k).2.2)

theorem small_dl {x : Nat} (h : x < 10 ^ 60) : dl 4294967296 x ≤ 32 := dl_300 h (by omega)
theorem appor_len (k : Nat) (S : Nat → List UInt8 × List UInt8) (h : validB (S k).1 (S k).2 = true) : (S k).1.length ≤ maxLen ∧ (S k).2.length ≤ maxLen := by
  have h1 := of_valid h
  have e1 := h1.num
  have e2 := h1.den
  have l1 := (dd_len_le (x := valN (cutMinus (S k).1)) (m := 60) (by omega)).2 h1.hx
  have l2 := (dd_len_le (x := valN (S k).2) (m := 60) (by omega)).2 h1.hy
  rw [e1, e2]
  unfold sgnText maxLen
  constructor
  · split
    · rw [List.length_cons]; omega
    · omega
  · omega

theorem Appor_any (W S : Nat → List UInt8 × List UInt8) (bb : Nat → Nat) (b cap : Nat) (w : World) (hb : InW b w)
    (hc0 : ∀ i, i < 3 → w.cell? ⟨b, i * 2, none⟩ = some (.string ⟨(W i).1.toArray⟩)) (hc1 : ∀ i, i < 3 → w.cell? ⟨b, i * 2 + 1, none⟩ = some (.string ⟨(W i).2.toArray⟩))
    (hv : ∀ k, k < 3 → validB (W k).1 (W k).2 = true ∧ 0 ≤ sgS (rM (W k).1) (rX (W k).1) ∧ rX (W k).1 < 100 ∧ valN (W k).2 < 100)
    (hs0 : ofS 0 1 = (S 0, 0)) (hsv : ∀ k, k ≤ 3 → validB (S k).1 (S k).2 = true)
    (hs : ∀ k, k < 3 → opS (S k).1 (S k).2 (W k).1 (W k).2 (addT (ratT (S k).1 (S k).2) (ratT (W k).1 (W k).2)) = (S (k + 1), 0))
    (hf : (sgS (rM (S 3).1) (rX (S 3).1) == 0) = false) (hfx : 0 < rX (S 3).1 ∧ rX (S 3).1 < 100 ∧ valN (S 3).2 < 100)
    (ht : ∀ k, k < 3 → (toldT (restT W (ratT (S 3).1 (S 3).2) k)).2 = 0)
    (hq : ∀ k, k < 3 → (restT W (ratT (S 3).1 (S 3).2) k).1 = false ∧ (restT W (ratT (S 3).1 (S 3).2) k).2.1 / (restT W (ratT (S 3).1 (S 3).2) k).2.2 ≤ 10)
    (lf : Nat → Int) (hl0 : lf 0 = 10) (hl3 : lf 3 = 1) (hl : ∀ k, k < 3 → lf (k + 1) = lf k - (((restT W (ratT (S 3).1 (S 3).2) k).2.1 / (restT W (ratT (S 3).1 (S 3).2) k).2.2 : Nat) : Int)) (hlb : ∀ k, k ≤ 3 → 0 ≤ lf k ∧ lf k ≤ 10)
    (hb0 : bb 0 = 0) (hbb : ∀ k, k < 3 → bb (k + 1) = if ordT (remT W (ratT (S 3).1 (S 3).2) k) (remT W (ratT (S 3).1 (S 3).2) (bb k)) > 0 then k else bb k) (hbl : ∀ k, k ≤ 3 → bb k < 3)
    (hdg : ∀ k, k < 3 → dgi ((restT W (ratT (S 3).1 (S 3).2) k).2.1 / (restT W (ratT (S 3).1 (S 3).2) k).2.2) 0 = (((restT W (ratT (S 3).1 (S 3).2) k).2.1 / (restT W (ratT (S 3).1 (S 3).2) k).2.2 : Nat) : Int) ∧ dgi ((restT W (ratT (S 3).1 (S 3).2) k).2.1 / (restT W (ratT (S 3).1 (S 3).2) k).2.2) 1 = 0)
    (hpow : Pow10 w) :
    Calls Tryz.prog 71 #[.int .i64 10, .slice (some ⟨b, 0, none⟩) 3 cap] w (OutOf (fun i => (((restT W (ratT (S 3).1 (S 3).2) i).2.1 / (restT W (ratT (S 3).1 (S 3).2) i).2.2 : Nat) : Int) + if i = bb 3 then 1 else 0) w) := by
  have hval : ∀ k, k < 3 → rX (W k).1 < 100 ∧ 0 < valN (W k).2 ∧ valN (W k).2 < 100 := fun k hk => ⟨(hv k hk).2.2.1, (of_valid (hv k hk).1).pos, (hv k hk).2.2.2⟩
  have hF0 : 0 < valN (S 3).2 := (of_valid (hsv 3 (by omega))).pos
  -- the sizes
  have hA : ∀ k, k < 3 → rX (W k).1 * 10 < 1000 ∧ valN (W k).2 * 1 < 100 ∧ 0 < valN (W k).2 * 1 := fun k hk => by have := hval k hk; omega
  have hB : ∀ k, k < 3 → (quoT (mulT (ratT (W k).1 (W k).2) (false, 10, 1)) (ratT (S 3).1 (S 3).2)).2.1 < 100000 ∧ (quoT (mulT (ratT (W k).1 (W k).2) (false, 10, 1)) (ratT (S 3).1 (S 3).2)).2.2 < 10000 ∧ 0 < (quoT (mulT (ratT (W k).1 (W k).2) (false, 10, 1)) (ratT (S 3).1 (S 3).2)).2.2 := by
    intro k hk
    obtain ⟨a1, a2, a3⟩ := hA k hk
    show rX (W k).1 * 10 * valN (S 3).2 < 100000 ∧ valN (W k).2 * 1 * rX (S 3).1 < 10000 ∧ 0 < valN (W k).2 * 1 * rX (S 3).1
    refine ⟨?_, ?_, Nat.mul_pos a3 hfx.1⟩
    · exact Nat.lt_of_lt_of_le (Nat.mul_lt_mul'' a1 hfx.2.2) (by omega)
    · exact Nat.lt_of_lt_of_le (Nat.mul_lt_mul'' a2 hfx.2.1) (by omega)
  have hQ : ∀ k, k < 3 → (restT W (ratT (S 3).1 (S 3).2) k).2.1 < 100000 ∧ (restT W (ratT (S 3).1 (S 3).2) k).2.2 < 10000 ∧ 0 < (restT W (ratT (S 3).1 (S 3).2) k).2.2 := by
    intro k hk
    obtain ⟨b1, b2, b3⟩ := hB k hk
    have hle := low_le (quoT (mulT (ratT (W k).1 (W k).2) (false, 10, 1)) (ratT (S 3).1 (S 3).2))
    unfold restT
    exact ⟨by omega, by omega, low_pos b3⟩
  have hfew : ∀ t : Tri, t.2.1 < 100000 → t.2.2 < 10000 → 0 < t.2.2 → few121 t := fun t h1 h2 h3 => ⟨by omega, by omega, h3⟩
  have hR : ∀ k, k < 3 → few121 (remT W (ratT (S 3).1 (S 3).2) k) := by
    intro k hk
    obtain ⟨b1, b2, b3⟩ := hQ k hk
    exact hfew _ (Nat.lt_of_le_of_lt (Nat.mod_le _ _) b1) b2 b3
  refine Apportion_x (fun k => ⟨(W k).1.toArray⟩) (fun k => ⟨(W k).2.toArray⟩) (fun k => ⟨(S k).1.toArray⟩) (fun k => ⟨(S k).2.toArray⟩)
    (fun k => ⟨(toldT (restT W (ratT (S 3).1 (S 3).2) k)).1.1.toArray⟩) (fun k => ⟨(toldT (restT W (ratT (S 3).1 (S 3).2) k)).1.2.toArray⟩)
    (fun k => ratT (W k).1 (W k).2) (fun k => mulT (ratT (W k).1 (W k).2) (false, 10, 1)) (fun k => quoT (mulT (ratT (W k).1 (W k).2) (false, 10, 1)) (ratT (S 3).1 (S 3).2)) (restT W (ratT (S 3).1 (S 3).2)) (ratT (S 3).1 (S 3).2)
    (fun k => sgS (rM (W k).1) (rX (W k).1)) (sgS (rM (S 3).1) (rX (S 3).1)) (fun k => (restT W (ratT (S 3).1 (S 3).2) k).2.1 / (restT W (ratT (S 3).1 (S 3).2) k).2.2) (fun k => (restT W (ratT (S 3).1 (S 3).2) k).2.1 % (restT W (ratT (S 3).1 (S 3).2) k).2.2) b cap w hb hc0 hc1
    ?_ ?_ ?_ ?_ ?_ ?_ hf ?_ ?_ ?_ ?_ ?_ ?_ (fun i k => ordT (remT W (ratT (S 3).1 (S 3).2) i) (remT W (ratT (S 3).1 (S 3).2) k)) bb ?_ ?_ ?_ ?_ ?_ ?_ lf ?_ ?_ ?_ ?_ ?_ ?_
  · exact Lib.hid fun k hk w => known_yes _ _ w (appor_len k W (hv k hk).1).1 (appor_len k W (hv k hk).1).2 (hv k hk).1
  · exact Lib.hid fun k _ w => signed_any _ _ _ w
  · exact Lib.hid fun k hk => (hv k hk).2.1
  · refine Lib.hid fun w' hw' => Sum_x (fun k => ⟨(W k).1.toArray⟩) (fun k => ⟨(W k).2.toArray⟩) (fun k => ⟨(S k).1.toArray⟩) (fun k => ⟨(S k).2.toArray⟩) 3 b cap w' (by omega) (inW_grown hw' hb) ?_ ?_ ?_ ?_ (Lib.hid (hpow.grown hw'))
    · intro i hi
      exact cell_of_grown hw' hb.lt (hc0 i hi)
    · intro i hi
      exact cell_of_grown hw' hb.lt (hc1 i hi)
    · refine Lib.hid fun w hw => ?_
      have h := Of_any 0 1 w (by omega) (by omega) (by omega) (by omega) hw
      rw [hs0] at h
      exact h
    · refine Lib.hid fun k hk w hw => ?_
      have l1 := appor_len k S (hsv k (by omega))
      have l2 := appor_len k W (hv k hk).1
      have h := Add_any (S k).1 (S k).2 (W k).1 (W k).2 w l1.1 l1.2 l2.1 l2.2 hw
      rw [hs k hk] at h
      exact h
  · have l1 := appor_len 3 S (hsv 3 (by omega))
    exact Lib.hid fun w => known_yes _ _ w l1.1 l1.2 (hsv 3 (by omega))
  · exact Lib.hid fun w => signed_any _ _ _ w
  · exact Lib.hid fun w => whole_any 10 w (by omega) (by omega)
  · refine Lib.hid fun k hk w => ?_
    obtain ⟨a1, a2, a3⟩ := hval k hk
    exact vtimes_any _ _ _ _ _ _ w (small_dl (by show rX (W k).1 < _; omega)) (small_dl (by show valN (W k).2 < _; omega)) (small_dl (by omega)) (small_dl (by omega)) (small_dl (by show rX (W k).1 * 10 < _; omega)) (small_dl (by show valN (W k).2 * 1 < _; omega))
  · refine Lib.hid fun k hk w => ?_
    obtain ⟨a1, a2, a3⟩ := hA k hk
    obtain ⟨b1, b2, b3⟩ := hB k hk
    exact vover_any _ _ _ _ _ _ w (small_dl (by show rX (W k).1 * 10 < _; omega)) (small_dl (by show valN (W k).2 * 1 < _; omega)) (small_dl (by show rX (S 3).1 < _; omega)) (small_dl (by show valN (S 3).2 < _; omega)) (small_dl (Nat.lt_of_lt_of_le b1 (by omega))) (small_dl (Nat.lt_of_lt_of_le b2 (by omega)))
  · refine Lib.hid fun k hk w => ?_
    obtain ⟨b1, b2, b3⟩ := hB k hk
    exact lowest_few (hfew _ b1 b2 b3) w
  · refine Lib.hid fun k hk w hw => ?_
    obtain ⟨b1, b2, b3⟩ := hQ k hk
    have h := told_few (hfew _ b1 b2 b3) w hw
    unfold opR at h
    rw [ht k hk] at h
    exact h
  · refine Lib.hid fun k hk w => ?_
    obtain ⟨b1, b2, b3⟩ := hQ k hk
    exact divide_any _ _ w (small_dl (by omega)) b3 (small_dl (by omega))
  · exact Lib.hid fun i k hi hk w => order_few (hR i hi) (hR k hk) w
  · refine Lib.hid fun k hk => ?_
    have := (hq k hk).2
    omega
  · exact Lib.hid hb0
  · exact Lib.hid hbb
  · exact Lib.hid hbl
  · exact Lib.hid fun w => whole_any (-1) w (by omega) (by omega)
  · exact Lib.hid hl0
  · exact Lib.hid hl3
  · exact Lib.hid hl
  · exact Lib.hid hlb
  · exact Lib.hid hdg
  · exact Lib.hid hpow
end Go.Proofs.YtnohidkmjclojaaGreatDoor
