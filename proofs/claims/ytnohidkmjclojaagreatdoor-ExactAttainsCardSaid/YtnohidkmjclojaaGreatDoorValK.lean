/- Walks: exact's extreme over values. (under way) -/
import Derived.Test.YtnohidkmjclojaaGreatDoorValJ
namespace Go.Proofs.YtnohidkmjclojaaGreatDoor
open Go.RowKit

/-- the best of a list by an order -/
def bestOf {α : Type} (by' : α → α → Int) (way : Int) : α → List α → α
  | b, [] => b
  | b, x :: l => bestOf by' way (if by' x b * way > 0 then x else b) l
theorem best_step {α : Type} (f : α → α → Int) (way : Int) (r : α) (l : List α) (k : Nat) (h : k < l.length) :
    bestOf f way r (l.drop k) = bestOf f way (if f (l[k]'h) r * way > 0 then l[k]'h else r) (l.drop (k + 1)) := by
  rw [List.drop_eq_getElem_cons h]
  rfl
theorem ord_small (p q : Tri) : ordS p.1 p.2.1 p.2.2 q.1 q.2.1 q.2.2 = 0 ∨ ordS p.1 p.2.1 p.2.2 q.1 q.2.1 q.2.2 = 1 ∨ ordS p.1 p.2.1 p.2.2 q.1 q.2.1 q.2.2 = -1 := by
  unfold ordS
  split
  · exact .inl rfl
  · split
    · exact .inr (.inr rfl)
    · exact .inr (.inl rfl)
def ordT (p q : Tri) : Int := ordS p.1 p.2.1 p.2.2 q.1 q.2.1 q.2.2

set_option maxRecDepth 100000 in
set_option maxHeartbeats 1000000 in
theorem extremeV_any (l : List Tri) (t : Tri) (b : Nat) (cap : Nat) (way : Int) (w : World) (hw : way = 1 ∨ way = -1)
    (hrow : ∀ i x, (t :: l)[i]? = some x → rowAt w ⟨b, 67 * i, none⟩ 67 = some (val x.1 x.2.1 x.2.2)) (hl : l.length ≤ 60) (hcap : 2 ≤ cap) (hin : InW b w)
    (hord : ∀ x y, x ∈ t :: l → y ∈ t :: l → ∀ w, Calls Tryz.prog 132 #[valT x, valT y] w fun e w' => e = .returned (.int .i64 (ordT x y)) ∧ Grown w w') :
    Calls Tryz.prog 133 #[.func (.func 132) #[] #[], .int .i64 way, .slice (some ⟨b, 0, none⟩) (l.length + 1) cap] w fun e w' => e = .returned (valT (bestOf ordT way t l)) ∧ Grown w w' := by
  have h0 := hrow 0 t rfl
  rw [Nat.mul_zero] at h0
  have hc1 : ¬ cap = 1 := by omega
  have HROW := Lib.hid hrow
  clear hrow
  go_enter Tryz.func133, Tryz.ntmps133
  go_wp2
  go_loopw [16] (fun sv wr => ∃ (k : Nat) (r : Tri), sv = .int .i64 k ∧ k ≤ l.length ∧ Hid (bestOf ordT way t l = bestOf ordT way r (l.drop k)) ∧ r ∈ t :: l ∧ Grown ((w.alloc (Obj.cells (val false 0 0) 112)).alloc (Obj.cells (val r.1 r.2.1 r.2.2) 112)) wr) (fun sv _ => l.length - (intOf sv).toNat)
  case atStart => exact ⟨0, t, rfl, by omega, rfl, List.mem_cons_self, Grown.refl _⟩
  case round =>
    obtain ⟨k, r, rfl, hk, hbest, hmem, ⟨os, dd, rfl⟩⟩ := hrel
    by_cases hkl : k < l.length
    · have hx := HROW.out (k + 1) (l[k]'hkl) (by rw [List.getElem?_cons_succ, List.getElem?_eq_getElem hkl])
      obtain ⟨x, hxx⟩ : ∃ x, x = l[k]'hkl := ⟨_, rfl⟩
      have hxm : x ∈ t :: l := by rw [hxx]; exact List.mem_cons_of_mem _ (List.getElem_mem hkl)
      rw [← hxx, show 67 * (k + 1) = 67 + k * 67 from by omega] at hx
      have hst := hbest.out.trans (best_step ordT way r l k hkl)
      rw [← hxx] at hst
      have hos : ordT x r = 0 ∨ ordT x r = 1 ∨ ordT x r = -1 := ord_small x r
      have hwr : wrap64 (ordT x r * way) = ordT x r * way := by
        rcases hos with h | h | h <;> rcases hw with h' | h' <;> rw [h, h'] <;> decide +kernel
      have HST := Lib.hid hst
      have HWR := Lib.hid hwr
      clear hst hwr hos
      have hcall := hord x r hxm hmem
      unfold valT at hcall
      have HC := Lib.hid hcall
      clear hcall
      have HXX := Lib.hid hxx
      clear hxx
      have hki : (k : Int) < (l.length : Int) := by omega
      go_wp2_with (go_at_call 132; ((with_reducible refine (HC.out _).mono ?_); rintro e w' ⟨rfl, os1, d1, rfl⟩))
      all_goals
        go_roundw
        case measure => show l.length - (k + 1) < l.length - k; omega
        case rel =>
          first
            | exact ⟨k + 1, x, rfl, by omega, by rw [HST.out, if_pos (by rw [← HWR.out]; omega)]; rfl, hxm, (by with_reducible repeat (first | exact Grown.refl _ | apply Grown.more | apply Grown.alloc | apply Grown.drewN | apply Grown.drew))⟩
            | exact ⟨k + 1, r, rfl, by omega, by rw [HST.out, if_neg (by rw [← HWR.out]; omega)]; rfl, hmem, (by with_reducible repeat (first | exact Grown.refl _ | apply Grown.more | apply Grown.alloc | apply Grown.drewN | apply Grown.drew))⟩
    · have hki : ¬ (k : Int) < (l.length : Int) := by omega
      go_wp2
      refine bodyPost_ret (v := valT r) (ret_val rfl rfl ?_) rfl ⟨by rw [hbest.out, List.drop_eq_nil_of_le (by omega)]; rfl, ?_⟩
      · go_simp
      · exact (by with_reducible repeat (first | exact Grown.refl _ | apply Grown.more | apply Grown.alloc | apply Grown.drewN | apply Grown.drew))
end Go.Proofs.YtnohidkmjclojaaGreatDoor
