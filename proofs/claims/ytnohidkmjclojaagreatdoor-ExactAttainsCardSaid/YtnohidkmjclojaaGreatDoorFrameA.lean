/- Frames: arguments that are fractions and ranges; the listed table of powers. -/
import Derived.Test.YtnohidkmjclojaaGreatDoorRows
import Derived.Test.YtnohidkmjclojaaGreatDoorNatG
import Derived.ProofKit
import Derived.OpenShut
import Derived.ShutString
import Derived.ChangeOld
import Derived.SizedLaws
import Derived.LaidMore
import Derived.MakeChecks
import Derived.Lib.LaidTab
import Derived.Lib.SmallJoins
import Derived.Stop.Joined
import Derived.Stop.LaidErr
namespace Go.Proofs.YtnohidkmjclojaaGreatDoor
open Go.ChangeShapes Go.WideShapes Go.ChangeAt Go.RowKit
open Go.ChangeMaps (open_string shut_string)
set_option linter.unusedSimpArgs false

theorem bool_T : Tryz.prog.underlying 4 = some .bool := by kernel_rfl
theorem own : ownKnob Tryz.prog.godebug = none := by kernel_rfl
/-- the listed variables -/
def laidAll : List (String × DataW Unit) := [("math/bits.deBruijn32tab", Rows.laid_math_bits_deBruijn32tab), ("math/bits.deBruijn64tab", Rows.laid_math_bits_deBruijn64tab), ("internal/strconv.uint64pow10", Rows.laid_internal_strconv_uint64pow10), ("strconv.ErrRange", Rows.laid_strconv_ErrRange), ("strconv.ErrSyntax", Rows.laid_strconv_ErrSyntax)]
theorem gPow : Tryz.prog.globalNamed "internal/strconv.uint64pow10" = some 2 := by kernel_rfl
theorem tPow : (Tryz.prog.globals[2]?).map (·.type) = some 265 := by kernel_rfl
def isArrOf2 (n : Nat) (e : TypeId) : Option TypeDesc → Bool
  | some (.array k t) => k == n && t == e
  | _ => false
theorem arr_of2 : ∀ {o : Option TypeDesc} {n : Nat} {e : TypeId}, isArrOf2 n e o = true → o = some (.array n e)
  | some (.array k t), n, e, h => by
    simp only [isArrOf2, Bool.and_eq_true, beq_iff_eq] at h
    rw [h.1, h.2]
def isIntK (k : IntKind) : Option TypeDesc → Bool
  | some (.int k') => k' == k
  | _ => false
theorem int_of : ∀ {o : Option TypeDesc} {k : IntKind}, isIntK k o = true → o = some (.int k)
  | some (.int k'), k, h => by
    simp only [isIntK, beq_iff_eq] at h
    rw [h]
theorem uPow : Tryz.prog.underlying 265 = some (.array 20 156) := arr_of2 (by kernel_rfl)
theorem uU64 : Tryz.prog.underlying 156 = some (.int .u64) := int_of (by kernel_rfl)
theorem laid_pow {W : World} (h : laidMetH Tryz.prog laidAll W) : Pow10 W := by
  rw [MakeChecks.laidMetH_plain _ _ _ (by kernel_rfl)] at h
  have h2 := laidMet.tail (laidMet.tail h)
  exact Lib.tabIs_of_head (rest := [("strconv.ErrRange", Rows.laid_strconv_ErrRange), ("strconv.ErrSyntax", Rows.laid_strconv_ErrSyntax)]) gPow tPow uPow uU64 (by kernel_rfl) (by kernel_rfl) (by exact h2)
theorem door_met (os : Os) (args : Array Value) : laidMetH Tryz.prog laidAll ((World.doorLaid Tryz.prog 400 os).forCall (fun _ _ => 0) ⟨#[], args, []⟩).memory :=
  laidMetH_of_parts3 (fuel := 8) (laidMet_of_run' 8 (by kernel_rfl) (by kernel_rfl)) (by kernel_rfl) (by kernel_rfl)

set_option maxRecDepth 100000
section
variable {H : Type} {enc : TypeId × Value → H} {w : World} {base : Nat} {sp : Nat → Bool} {held : Bool}
def isStr2 (a b : TypeId) (oa ob : Nat) : Option TypeDesc → Bool
  | some (.struct fs) => fs.size == 2 && (fs[0]?.map fun f => (f.type, f.offset)) == some (a, oa) && (fs[1]?.map fun f => (f.type, f.offset)) == some (b, ob)
  | _ => false
theorem str2_of : ∀ {o : Option TypeDesc} {a b : TypeId} {oa ob : Nat}, isStr2 a b oa ob o = true → ∃ f0 f1 : Field, o = some (.struct #[f0, f1]) ∧ f0.type = a ∧ f0.offset = oa ∧ f1.type = b ∧ f1.offset = ob
  | some (.struct fs), a, b, oa, ob, h => by
    simp only [isStr2, Bool.and_eq_true, beq_iff_eq] at h
    obtain ⟨⟨h1, h2⟩, h3⟩ := h
    obtain ⟨l⟩ := fs
    match l, h1 with
    | [f0, f1], _ =>
      simp at h2 h3
      exact ⟨f0, f1, rfl, h2.1, h2.2, h3.1, h3.2⟩
theorem strT : Tryz.prog.underlying 9 = some .string := by kernel_rfl
theorem ratT_str : ∃ f0 f1 : Field, Tryz.prog.underlying 23 = some (.struct #[f0, f1]) ∧ f0.type = 9 ∧ f0.offset = 0 ∧ f1.type = 9 ∧ f1.offset = 1 := str2_of (by kernel_rfl)
theorem rngT_str : ∃ f0 f1 : Field, Tryz.prog.underlying 25 = some (.struct #[f0, f1]) ∧ f0.type = 23 ∧ f0.offset = 0 ∧ f1.type = 23 ∧ f1.offset = 2 := str2_of (by kernel_rfl)
theorem cellsStr : Tryz.prog.cellsOf 9 = 1 := by kernel_rfl
theorem cellsRat : Tryz.prog.cellsOf 23 = 2 := by kernel_rfl
theorem cellsRng : Tryz.prog.cellsOf 25 = 4 := by kernel_rfl
theorem str_mk' {P : Program} {t : TypeId} (ht : P.underlying t = some .string) {s : ByteArray} (hs : s.size ≤ maxLen) (m : Nat) (w : World) (held : Bool) : DataW.trod enc P w base sp held (m + 1) t [.string s] = some (.lit (.string s.data.toList), []) := by
  simp [DataW.trod, ht, hs]
theorem str_mk {s : ByteArray} (hs : s.size ≤ maxLen) (m : Nat) (w : World) (held : Bool) : DataW.trod enc Tryz.prog w base sp held (m + 1) 9 [.string s] = some (.lit (.string s.data.toList), []) := str_mk' strT hs m w held
theorem rat_cells {cs : List Value} {n : Nat} {x : DataW H × List MemPlace} (h : DataW.trod enc Tryz.prog w base sp held n 23 cs = some x) :
    ∃ s1 s2 : ByteArray, cs = [.string s1, .string s2] ∧ x.2 = [] ∧ x.1 = .agg [.lit (.string s1.data.toList), .lit (.string s2.data.toList)] ∧ s1.size ≤ maxLen ∧ s2.size ≤ maxLen := by
  obtain ⟨f0, f1, hs, t0, o0, t1, o1⟩ := ratT_str
  obtain ⟨y0, y1, m, rfl, hl, h0, h1⟩ := trod_struct2 hs h
  rw [cellsRat] at hl
  match cs, hl with
  | [c0, c1], _ =>
    rw [t0, o0, cellsStr] at h0
    rw [t1, o1, cellsStr] at h1
    obtain ⟨s1, e1, x1, z1⟩ := DataW.trod_string strT h0
    obtain ⟨s2, e2, x2, z2⟩ := DataW.trod_string strT h1
    subst x1 x2
    simp at e1 e2
    subst e1 e2
    exact ⟨s1, s2, rfl, rfl, rfl, z1, z2⟩
theorem rat_mk {s1 s2 : ByteArray} (h1 : s1.size ≤ maxLen) (h2 : s2.size ≤ maxLen) (m : Nat) (w : World) (held : Bool) : DataW.trod enc Tryz.prog w base sp held (m + 2) 23 [.string s1, .string s2] = some (.agg [.lit (.string s1.data.toList), .lit (.string s2.data.toList)], []) := by
  obtain ⟨f0, f1, hs, t0, o0, t1, o1⟩ := ratT_str
  exact trod_struct2_mk (y0 := (.lit (.string s1.data.toList), [])) (y1 := (.lit (.string s2.data.toList), [])) hs (by rw [cellsRat]; rfl) (by rw [t0, o0, cellsStr]; exact str_mk h1 m w held) (by rw [t1, o1, cellsStr]; exact str_mk h2 m w held)
/-- a fraction among the arguments -/
theorem open_rat {r : Reach} {b0 : Nat} {v : Value} {d : DataW H} {p : List MemPlace} (hv : Value.okWide Tryz.prog w r b0 23 v) (h : DataW.Trod enc Tryz.prog w base sp held 23 v d p) :
    ∃ s1 s2 : ByteArray, v = .agg #[.string s1, .string s2] ∧ p = [] ∧ s1.size ≤ maxLen ∧ s2.size ≤ maxLen ∧ ∀ w' sp' held', DataW.Trod enc Tryz.prog w' base sp' held' 23 (.agg #[.string s1, .string s2]) d [] := by
  obtain ⟨f0, f1, hs, -⟩ := ratT_str
  obtain ⟨cs, rfl, -⟩ := okWide_struct hs hv
  obtain ⟨fuel, hf⟩ := h
  obtain ⟨s1, s2, e, hp, hx, z1, z2⟩ := rat_cells hf
  have e2 : cs = #[.string s1, .string s2] := by
    apply Array.ext'
    simpa [Value.cells] using e
  subst e2
  refine ⟨s1, s2, rfl, hp, z1, z2, fun w' sp' held' => ⟨2, ?_⟩⟩
  have := rat_mk (enc := enc) (base := base) (sp := sp') z1 z2 0 w' held'
  rw [show d = .agg [.lit (.string s1.data.toList), .lit (.string s2.data.toList)] from hx]
  exact this
theorem open_rng {r : Reach} {b0 : Nat} {v : Value} {d : DataW H} {p : List MemPlace} (hv : Value.okWide Tryz.prog w r b0 25 v) (h : DataW.Trod enc Tryz.prog w base sp held 25 v d p) :
    ∃ s1 s2 s3 s4 : ByteArray, v = .agg #[.string s1, .string s2, .string s3, .string s4] ∧ p = [] ∧ s1.size ≤ maxLen ∧ s2.size ≤ maxLen ∧ s3.size ≤ maxLen ∧ s4.size ≤ maxLen ∧
      ∀ w' sp' held', DataW.Trod enc Tryz.prog w' base sp' held' 25 (.agg #[.string s1, .string s2, .string s3, .string s4]) d [] := by
  obtain ⟨f0, f1, hs, t0, o0, t1, o1⟩ := rngT_str
  obtain ⟨cs, rfl, -⟩ := okWide_struct hs hv
  obtain ⟨fuel, hf⟩ := h
  obtain ⟨y0, y1, n, hx, hl, h0, h1⟩ := trod_struct2 hs hf
  rw [cellsRng] at hl
  obtain ⟨l⟩ := cs
  simp only [Value.cells] at hl h0 h1
  match l, hl with
  | [c0, c1, c2, c3], _ =>
    rw [t0, o0, cellsRat] at h0
    rw [t1, o1, cellsRat] at h1
    obtain ⟨s1, s2, e1, p1, x1, z1, z2⟩ := rat_cells h0
    obtain ⟨s3, s4, e2, p2, x2, z3, z4⟩ := rat_cells h1
    simp at e1 e2
    obtain ⟨rfl, rfl⟩ := e1
    obtain ⟨rfl, rfl⟩ := e2
    simp only [Prod.mk.injEq] at hx
    refine ⟨s1, s2, s3, s4, rfl, by rw [hx.2, p1, p2]; rfl, z1, z2, z3, z4, fun w' sp' held' => ⟨3, ?_⟩⟩
    have k0 := rat_mk (enc := enc) (base := base) (sp := sp') z1 z2 0 w' held'
    have k1 := rat_mk (enc := enc) (base := base) (sp := sp') z3 z4 0 w' held'
    have := trod_struct2_mk (enc := enc) (w := w') (base := base) (spare := sp') (held := held') (n := 2) (cs := [.string s1, .string s2, .string s3, .string s4]) (y0 := (.agg [.lit (.string s1.data.toList), .lit (.string s2.data.toList)], [])) (y1 := (.agg [.lit (.string s3.data.toList), .lit (.string s4.data.toList)], [])) hs (by rw [cellsRng]; rfl) (by rw [t0, o0, cellsRat]; exact k0) (by rw [t1, o1, cellsRat]; exact k1)
    rw [show d = .agg [.agg [.lit (.string s1.data.toList), .lit (.string s2.data.toList)], .agg [.lit (.string s3.data.toList), .lit (.string s4.data.toList)]] from by rw [hx.1, x1, x2]]
    exact this
end
theorem ba_list (s : ByteArray) : s = ⟨s.data.toList.toArray⟩ := by cases s; simp
theorem list_len {s : ByteArray} (h : s.size ≤ maxLen) : s.data.toList.length ≤ maxLen := by
  simpa using h
end Go.Proofs.YtnohidkmjclojaaGreatDoor
