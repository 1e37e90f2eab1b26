/- The law's examples of apportionments at their numbers. -/
import Derived.Test.YtnohidkmjclojaaGreatDoorLawC
namespace Go.Proofs.YtnohidkmjclojaaGreatDoor
open Go.RowKit

theorem told_zero (m : Bool) (x y : Nat) (hx : x / Nat.gcd x y < 10 ^ 60) (hy : y / Nat.gcd x y < 10 ^ 60) : (toldS m x y).2 = 0 := by
  unfold toldS
  rw [← dd_len_le (by omega)] at hx hy
  rw [if_neg (by omega)]
def lst (l : List (List UInt8 × List UInt8)) (k : Nat) : List UInt8 × List UInt8 := l[k]?.getD ([], [])
def wA : Nat → List UInt8 × List UInt8 := lst [([49], [49]), ([49], [49]), ([49], [49])]
def sA : Nat → List UInt8 × List UInt8 := lst [([48], [49]), ([49], [49]), ([50], [49]), ([51], [49])]
def wB : Nat → List UInt8 × List UInt8 := lst [([49], [50]), ([49], [52]), ([49], [52])]
def sB : Nat → List UInt8 × List UInt8 := lst [([48], [49]), ([49], [50]), ([51], [52]), ([49], [49])]
theorem three {P : Nat → Prop} (h0 : P 0) (h1 : P 1) (h2 : P 2) : ∀ k, k < 3 → P k := by
  intro k hk
  have : k = 0 ∨ k = 1 ∨ k = 2 := by omega
  rcases this with rfl | rfl | rfl
  · exact h0
  · exact h1
  · exact h2
theorem four {P : Nat → Prop} (h0 : P 0) (h1 : P 1) (h2 : P 2) (h3 : P 3) : ∀ k, k ≤ 3 → P k := by
  intro k hk
  have : k = 0 ∨ k = 1 ∨ k = 2 ∨ k = 3 := by omega
  rcases this with rfl | rfl | rfl | rfl
  · exact h0
  · exact h1
  · exact h2
  · exact h3
def nA (k : Nat) : Int := if k = 0 then 4 else 3
def nB (k : Nat) : Int := if k = 0 then 5 else if k = 1 then 3 else 2
theorem OutOf_congr {f g : Nat → Int} {w : World} {e : Ending} {w' : World} (h : ∀ i, i < 3 → f i = g i) (ho : OutOf f w e w') : OutOf g w e w' := by
  obtain ⟨b, h1, h2, h3, h4, h5⟩ := ho
  exact ⟨b, h1, h2, h3, h4, fun i hi => by rw [← h i hi]; exact h5 i hi⟩

theorem restA (k : Nat) (hk : k < 3) : restT wA (ratT (sA 3).1 (sA 3).2) k = (false, 10, 3) := three (P := fun k => restT wA (ratT (sA 3).1 (sA 3).2) k = (false, 10, 3)) (by decide +kernel) (by decide +kernel) (by decide +kernel) k hk
theorem restB0 : restT wB (ratT (sB 3).1 (sB 3).2) 0 = (false, 5, 1) := by decide +kernel
theorem restB1 : restT wB (ratT (sB 3).1 (sB 3).2) 1 = (false, 5, 2) := by decide +kernel
theorem restB2 : restT wB (ratT (sB 3).1 (sB 3).2) 2 = (false, 5, 2) := by decide +kernel

theorem AppA (b cap : Nat) (w : World) (hb : InW b w)
    (hc0 : ∀ i, i < 3 → w.cell? ⟨b, i * 2, none⟩ = some (.string ⟨(wA i).1.toArray⟩)) (hc1 : ∀ i, i < 3 → w.cell? ⟨b, i * 2 + 1, none⟩ = some (.string ⟨(wA i).2.toArray⟩)) (hpow : Pow10 w) :
    Calls Tryz.prog 71 #[.int .i64 10, .slice (some ⟨b, 0, none⟩) 3 cap] w (OutOf nA w) := by
  refine (Appor_any wA sA (fun _ => 0) b cap w hb hc0 hc1 (three (by decide +kernel) (by decide +kernel) (by decide +kernel)) of_0 (four (by decide +kernel) (by decide +kernel) (by decide +kernel) (by decide +kernel))
    (three ex_a1 ex_a2 ex_a3) (by decide +kernel) (by decide +kernel) (fun k hk => ?_) (fun k hk => ?_) (fun k => if k = 0 then 10 else if k = 1 then 7 else if k = 2 then 4 else 1) rfl rfl (fun k hk => ?_) (four (by decide) (by decide) (by decide) (by decide)) rfl (fun k hk => ?_) (fun _ _ => by omega) (fun k hk => ?_) hpow).mono ?_
  · rw [restA k hk]
    exact told_zero _ _ _ (by decide +kernel) (by decide +kernel)
  · rw [restA k hk]; decide
  · rw [restA k hk]
    exact three (P := fun k => (fun k => if k = 0 then (10 : Int) else if k = 1 then 7 else if k = 2 then 4 else 1) (k + 1) = (fun k => if k = 0 then (10 : Int) else if k = 1 then 7 else if k = 2 then 4 else 1) k - ((10 / 3 : Nat) : Int)) (by decide) (by decide) (by decide) k hk
  · have h : ¬ ordT (remT wA (ratT (sA 3).1 (sA 3).2) k) (remT wA (ratT (sA 3).1 (sA 3).2) 0) > 0 := by
      unfold remT
      rw [restA k hk, restA 0 (by omega)]
      decide +kernel
    rw [if_neg h]
  · rw [restA k hk]; decide +kernel
  · intro e w' ho
    exact OutOf_congr (fun i hi => by rw [restA i hi]; unfold nA; by_cases h : i = 0 <;> simp [h]) ho

theorem AppB (b cap : Nat) (w : World) (hb : InW b w)
    (hc0 : ∀ i, i < 3 → w.cell? ⟨b, i * 2, none⟩ = some (.string ⟨(wB i).1.toArray⟩)) (hc1 : ∀ i, i < 3 → w.cell? ⟨b, i * 2 + 1, none⟩ = some (.string ⟨(wB i).2.toArray⟩)) (hpow : Pow10 w) :
    Calls Tryz.prog 71 #[.int .i64 10, .slice (some ⟨b, 0, none⟩) 3 cap] w (OutOf nB w) := by
  refine (Appor_any wB sB (fun k => if k ≤ 1 then 0 else 1) b cap w hb hc0 hc1 (three (by decide +kernel) (by decide +kernel) (by decide +kernel)) of_0 (four (by decide +kernel) (by decide +kernel) (by decide +kernel) (by decide +kernel))
    (three ex_b1 ex_b2 ex_b3) (by decide +kernel) (by decide +kernel) (three ?_ ?_ ?_) (three ?_ ?_ ?_) (fun k => if k = 0 then 10 else if k = 1 then 5 else if k = 2 then 3 else 1) rfl rfl (three ?_ ?_ ?_) (four (by decide) (by decide) (by decide) (by decide)) rfl (three ?_ ?_ ?_) (four (by decide) (by decide) (by decide) (by decide)) (three ?_ ?_ ?_) hpow).mono ?_
  · rw [restB0]; exact told_zero _ _ _ (by decide +kernel) (by decide +kernel)
  · rw [restB1]; exact told_zero _ _ _ (by decide +kernel) (by decide +kernel)
  · rw [restB2]; exact told_zero _ _ _ (by decide +kernel) (by decide +kernel)
  · rw [restB0]; decide
  · rw [restB1]; decide
  · rw [restB2]; decide
  · rw [restB0]; decide
  · rw [restB1]; decide
  · rw [restB2]; decide
  · decide +kernel
  · decide +kernel
  · decide +kernel
  · rw [restB0]; decide +kernel
  · rw [restB1]; decide +kernel
  · rw [restB2]; decide +kernel
  · intro e w' ho
    exact OutOf_congr (three (by rw [restB0]; rfl) (by rw [restB1]; rfl) (by rw [restB2]; rfl)) ho
end Go.Proofs.YtnohidkmjclojaaGreatDoor
