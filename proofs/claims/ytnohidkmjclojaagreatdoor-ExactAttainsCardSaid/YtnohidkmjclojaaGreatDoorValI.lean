/- Walks: exact's Proper, values. -/
import Derived.Test.YtnohidkmjclojaaGreatDoorValF
namespace Go.Proofs.YtnohidkmjclojaaGreatDoor
open Go.RowKit

/-- a range as Go has it: four texts -/
def rngV (a b c d : List UInt8) : Value := .agg #[.string ⟨a.toArray⟩, .string ⟨b.toArray⟩, .string ⟨c.toArray⟩, .string ⟨d.toArray⟩]
/-- is a range proper? -/
def properB (a b c d : List UInt8) : Bool := validB a b && (validB c d && decide (cmpS a b c d ≤ 0))

set_option maxRecDepth 100000 in
set_option maxHeartbeats 1000000 in
theorem Proper_any (a b c d : List UInt8) (w : World) (ha : a.length ≤ maxLen) (hb : b.length ≤ maxLen) (hc : c.length ≤ maxLen) (hd : d.length ≤ maxLen) :
    Calls Tryz.prog 25 #[rngV a b c d] w fun e w' => e = .returned (.bool (properB a b c d)) ∧ Grown w w' := by
  have h1 := fun w => Valid_any a b w ha hb
  have h2 := fun w => Valid_any c d w hc hd
  have h3 := fun w => Cmp_any a b c d w ha hb hc hd
  have hp : properB a b c d = (validB a b && (validB c d && decide (cmpS a b c d ≤ 0))) := rfl
  obtain ⟨v1, hv1⟩ : ∃ v, v = validB a b := ⟨_, rfl⟩
  obtain ⟨v2, hv2⟩ : ∃ v, v = validB c d := ⟨_, rfl⟩
  obtain ⟨k, hk⟩ : ∃ v, v = cmpS a b c d := ⟨_, rfl⟩
  obtain ⟨p, hpp⟩ : ∃ v, v = properB a b c d := ⟨_, rfl⟩
  rw [← hv1] at h1 hp
  rw [← hv2] at h2 hp
  rw [← hk] at h3 hp
  rw [← hpp] at hp ⊢
  obtain ⟨b5, hb5⟩ : ∃ v, v = decide (k ≤ 0) := ⟨_, rfl⟩
  rw [← hb5] at hp
  unfold ratV at h1 h2 h3
  unfold rngV
  obtain ⟨s1, hs1⟩ : ∃ s : ByteArray, s = ⟨a.toArray⟩ := ⟨_, rfl⟩
  obtain ⟨s2, hs2⟩ : ∃ s : ByteArray, s = ⟨b.toArray⟩ := ⟨_, rfl⟩
  obtain ⟨s3, hs3⟩ : ∃ s : ByteArray, s = ⟨c.toArray⟩ := ⟨_, rfl⟩
  obtain ⟨s4, hs4⟩ : ∃ s : ByteArray, s = ⟨d.toArray⟩ := ⟨_, rfl⟩
  rw [← hs1, ← hs2] at h1 h3
  rw [← hs3, ← hs4] at h2 h3
  rw [← hs1, ← hs2, ← hs3, ← hs4]
  have H1 := Lib.hid h1
  have H2 := Lib.hid h2
  have H3 := Lib.hid h3
  have HP := Lib.hid hp
  have HB := Lib.hid hb5
  clear h1 h2 h3 hp hb5 hv1 hv2 hk hpp hs1 hs2 hs3 hs4 ha hb hc hd
  cases v1 <;> cases v2
  all_goals
    go_enter Tryz.func25, Tryz.ntmps25
    go_wp2_with (first | (go_at_call 90; ((with_reducible refine (H1.out _).mono ?_); rintro e w' ⟨rfl, os1, d1, rfl⟩)) | (go_at_call 90; ((with_reducible refine (H2.out _).mono ?_); rintro e w' ⟨rfl, os2, d2, rfl⟩)) | (go_at_call 91; ((with_reducible refine (H3.out _).mono ?_); rintro e w' ⟨rfl, os3, d3, rfl⟩)))
    go_ret
    exact ⟨by rw [HP.out, HB.out]; rfl, (by with_reducible repeat (first | exact Grown.refl _ | apply Grown.more | apply Grown.alloc | apply Grown.drewN | apply Grown.drew))⟩
end Go.Proofs.YtnohidkmjclojaaGreatDoor
