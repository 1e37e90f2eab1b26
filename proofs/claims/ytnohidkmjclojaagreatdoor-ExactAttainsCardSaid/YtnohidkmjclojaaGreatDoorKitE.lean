/- Laws: '==' of two fractions. -/
import Derived.Test.YtnohidkmjclojaaGreatDoorKitL
import Derived.Laws.StructEq
namespace Go.Proofs.YtnohidkmjclojaaGreatDoor
set_option linter.unusedVariables false
set_option linter.unusedSimpArgs false
open Go.RowKit

/-- are two fractions in texts the same? -/
def eqR (a b c d : ByteArray) : Bool := decide (a = c ∧ b = d)
theorem eqR_and (a b c d : ByteArray) : (decide (a = c) && (decide (b = d) && true)) = eqR a b c d := by
  unfold eqR
  by_cases h1 : a = c <;> by_cases h2 : b = d <;> simp [h1, h2]
def isStrs2 (t : TypeId) : Option TypeDesc → Bool
  | some (.struct fs) => fs.size == 2 && (fs[0]?.map fun f => (f.type, f.offset, f.name == "_")) == some (t, 0, false) && (fs[1]?.map fun f => (f.type, f.offset, f.name == "_")) == some (t, 1, false)
  | _ => false
theorem strs2_of : ∀ {o : Option TypeDesc} {t : TypeId}, isStrs2 t o = true → ∃ f0 f1 : Field, o = some (.struct #[f0, f1]) ∧ f0.type = t ∧ f0.offset = 0 ∧ (f0.name == "_") = false ∧ f1.type = t ∧ f1.offset = 1 ∧ (f1.name == "_") = false
  | some (.struct fs), t, h => by
    simp only [isStrs2, Bool.and_eq_true, beq_iff_eq] at h
    obtain ⟨⟨h1, h2⟩, h3⟩ := h
    obtain ⟨l⟩ := fs
    match l, h1 with
    | [f0, f1], _ =>
      simp only [List.getElem?_toArray, List.getElem?_cons_zero, List.getElem?_cons_succ, Option.map_some, Option.some.injEq, Prod.mk.injEq] at h2 h3
      exact ⟨f0, f1, rfl, h2.1, h2.2.1, h2.2.2, h3.1, h3.2.1, h3.2.2⟩
theorem ratF : ∃ f0 f1 : Field, Tryz.prog.underlying 23 = some (.struct #[f0, f1]) ∧ f0.type = 9 ∧ f0.offset = 0 ∧ (f0.name == "_") = false ∧ f1.type = 9 ∧ f1.offset = 1 ∧ (f1.name == "_") = false := strs2_of (by kernel_rfl)
theorem strU : Tryz.prog.underlying 9 = some .string := by kernel_rfl
theorem part_str (a b : ByteArray) (w : World) (i : Nat) (v : ByteArray) (h : (#[Value.string a, Value.string b] : Array Value)[i]? = some (.string v)) : (part 9 #[.string a, .string b] i).run Tryz.prog w = .ok (.string v) w := by
  have hagg : (isAgg 9).run Tryz.prog w = .ok false w := by kernel_rfl
  simp [part, Sem.run_bind, hagg, h]
theorem eq_str (d : Nat) (a b : ByteArray) (w : World) : (Op.equalIn (d + 1) 9 (.string a) (.string b)).run Tryz.prog w = .ok (a == b) w := by
  simp [Op.equalIn, Sem.run_bind, run_underlying strU]
theorem ba_beq (a b : ByteArray) : (a == b) = decide (a = b) := by
  cases a with
  | mk x =>
    cases b with
    | mk y =>
      show (x == y) = _
      by_cases h : x = y
      · simp [h]
      · simp [h]
theorem ef_nil {d : Nat} {xs ys : Array Value} {w : World} : (Op.eqFields d xs ys []).run Tryz.prog w = .ok true w := by simp [Op.eqFields]
theorem ef_cons {d : Nat} {xs ys : Array Value} {f : Field} {fs : List Field} {a b : Value} {r s : Bool} {w : World} (hn : f.name ≠ "_") (ha : (part f.type xs f.offset).run Tryz.prog w = .ok a w) (hb : (part f.type ys f.offset).run Tryz.prog w = .ok b w)
    (he : (Op.equalIn d f.type a b).run Tryz.prog w = .ok r w) (hr : (Op.eqFields d xs ys fs).run Tryz.prog w = .ok s w) : (Op.eqFields d xs ys (f :: fs)).run Tryz.prog w = .ok (r && s) w := by
  rw [Op.eqFields]
  simp only [if_pos hn, Sem.run_bind, ha, hb, he, Result.andThen_ok]
  cases r
  · simp
  · simpa using hr
def eqRat (x y : Value) : Sem Value := binOp .eql 23 x y
theorem eqRat_eq (x y : Value) : binOp .eql 23 x y = eqRat x y := rfl
theorem run_eqRat (a b c d : ByteArray) (w : World) : (eqRat (.agg #[.string a, .string b]) (.agg #[.string c, .string d])).run Tryz.prog w = .ok (.bool (eqR a b c d)) w := by
  obtain ⟨f0, f1, hu, t0, o0, n0, t1, o1, n1⟩ := ratF
  have hf : Tryz.prog.fieldsOf 23 = #[f0, f1] := by simp [Program.fieldsOf, hu]
  have hp : Tryz.prog.stoodInHeld 23 = false := by kernel_rfl
  have n0' : f0.name ≠ "_" := by simpa using n0
  have n1' : f1.name ≠ "_" := by simpa using n1
  have hst := run_equalIn_struct (P := Tryz.prog) w 9999 23 #[.string a, .string b] #[.string c, .string d] (by rw [hf]; exact hu) hp
  rw [hf] at hst
  have hfields : (Op.eqFields 9999 #[.string a, .string b] #[.string c, .string d] [f0, f1]).run Tryz.prog w = .ok (eqR a b c d) w := by
    have h1 := ef_cons (d := 9999) (f := f1) (fs := []) (r := b == d) (s := true) n1' (by rw [t1, o1]; exact part_str a b w 1 b rfl) (by rw [t1, o1]; exact part_str c d w 1 d rfl) (by rw [t1]; exact eq_str 9998 b d w) ef_nil
    have h0 := ef_cons (d := 9999) (f := f0) (fs := [f1]) (r := a == c) n0' (by rw [t0, o0]; exact part_str a b w 0 a rfl) (by rw [t0, o0]; exact part_str c d w 0 c rfl) (by rw [t0]; exact eq_str 9998 a c w) h1
    rw [h0, ba_beq, ba_beq, eqR_and]
  rw [show (#[f0, f1] : Array Field).toList = [f0, f1] from rfl] at hst
  rw [hfields] at hst
  unfold eqRat
  simp only [binOp]
  simp [Op.equal, Op.maxDepth, Sem.run_bind, hst]
attribute [go_sem ↓] eqRat_eq
attribute [go_sem] run_eqRat
end Go.Proofs.YtnohidkmjclojaaGreatDoor
