/- Walks: exact's values. -/
import Derived.Test.YtnohidkmjclojaaGreatDoorKitP
import Derived.Test.YtnohidkmjclojaaGreatDoorValI
namespace Go.Proofs.YtnohidkmjclojaaGreatDoor
open Go.RowKit

set_option maxRecDepth 100000 in
set_option maxHeartbeats 1000000 in
/-- values reads the ends of a proper range -/
theorem values_any (a b c d : List UInt8) (w : World) (ha : a.length ≤ maxLen) (hb : b.length ≤ maxLen) (hc : c.length ≤ maxLen) (hd : d.length ≤ maxLen) (h1 : validB a b = true) (h2 : validB c d = true) :
    Calls Tryz.prog 85 #[rngV a b c d] w fun e w' => e = .returned (.agg (pair (ratT a b) (ratT c d))) ∧ Grown w w' := by
  have k1 := fun w => known_yes a b w ha hb h1
  have k2 := fun w => known_yes c d w hc hd h2
  unfold ratV at k1 k2
  unfold rngV ratT
  obtain ⟨m1, hm1'⟩ : ∃ b, b = rM a := ⟨_, rfl⟩
  obtain ⟨m2, hm2'⟩ : ∃ b, b = rM c := ⟨_, rfl⟩
  obtain ⟨x1, hx1⟩ : ∃ b, b = rX a := ⟨_, rfl⟩
  obtain ⟨x2, hx2⟩ : ∃ b, b = rX c := ⟨_, rfl⟩
  obtain ⟨y1, hy1⟩ : ∃ z, z = valN b := ⟨_, rfl⟩
  obtain ⟨y2, hy2⟩ : ∃ z, z = valN d := ⟨_, rfl⟩
  obtain ⟨s1, hs1⟩ : ∃ s : ByteArray, s = ⟨a.toArray⟩ := ⟨_, rfl⟩
  obtain ⟨s2, hs2⟩ : ∃ s : ByteArray, s = ⟨b.toArray⟩ := ⟨_, rfl⟩
  obtain ⟨s3, hs3⟩ : ∃ s : ByteArray, s = ⟨c.toArray⟩ := ⟨_, rfl⟩
  obtain ⟨s4, hs4⟩ : ∃ s : ByteArray, s = ⟨d.toArray⟩ := ⟨_, rfl⟩
  rw [← hm1', ← hx1, ← hy1, ← hs1, ← hs2] at k1
  rw [← hm2', ← hx2, ← hy2, ← hs3, ← hs4] at k2
  rw [← hm1', ← hx1, ← hy1, ← hm2', ← hx2, ← hy2, ← hs1, ← hs2, ← hs3, ← hs4]
  have K1 := Lib.hid k1
  have K2 := Lib.hid k2
  clear k1 k2 hm1' hm2' hx1 hx2 hy1 hy2 hs1 hs2 hs3 hs4 ha hb hc hd h1 h2
  go_enter Tryz.func85, Tryz.ntmps85
  go_wp2_with (first | (go_at_call 97; ((with_reducible refine (K1.out _).mono ?_); rintro e w' ⟨rfl, os1, d1, rfl⟩)) | (go_at_call 97; ((with_reducible refine (K2.out _).mono ?_); rintro e w' ⟨rfl, os2, d2, rfl⟩)))
  refine bodyPost_ret (v := .agg (pair (m1, x1, y1) (m2, x2, y2))) (ret_pair rfl rfl ?_) rfl ⟨rfl, ?_⟩
  · go_simp
  · exact (by with_reducible repeat (first | exact Grown.refl _ | apply Grown.more | apply Grown.alloc | apply Grown.drewN | apply Grown.drew))
end Go.Proofs.YtnohidkmjclojaaGreatDoor
