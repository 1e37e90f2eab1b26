/- Laws for the walks over exact's values: a sign and two natural numbers in one struct of 67 cells. -/
import Derived.Test.YtnohidkmjclojaaGreatDoorNatF
import Derived.Test.YtnohidkmjclojaaGreatDoorNatG
import Derived.Deep.RegionHeld3
namespace Go.Proofs.YtnohidkmjclojaaGreatDoor
open Go.RowKit

/-- a value's cells -/
def val (b : Bool) (x y : Nat) : Array Value := #[Value.bool b] ++ nat x ++ nat y
theorem val_size (b : Bool) (x y : Nat) : (val b x y).size = 67 := by simp [val, nat_size]
/-- the same of whatever arrays -/
theorem glue_get (h : Value) (a c : Array Value) (ha : a.size = 33) (i : Nat) : (#[h] ++ a ++ c)[i]? = if i = 0 then some h else if i < 34 then a[i - 1]? else c[i - 34]? := by
  have h1 : (#[h] : Array Value).size = 1 := rfl
  rw [Array.getElem?_append, Array.size_append, ha, h1]
  by_cases h34 : i < 1 + 33
  · rw [if_pos h34, Array.getElem?_append, h1]
    by_cases h0 : i = 0
    · subst h0; rfl
    · rw [if_neg (by omega), if_neg h0, if_pos (by omega)]
  · rw [if_neg h34, if_neg (by omega), if_neg (by omega)]
theorem val_get (b : Bool) (x y i : Nat) : (val b x y)[i]? = if i = 0 then some (.bool b) else if i < 34 then (nat x)[i - 1]? else (nat y)[i - 34]? := glue_get _ _ _ (nat_size x) i
theorem val_one (b : Bool) (x y : Nat) : allOne (val b x y) = true := by
  have h1 := nat_one x
  have h2 := nat_one y
  unfold allOne at *
  unfold val
  rw [Array.all_append, Array.all_append, h1, h2]
  simp [Value.oneCell']
theorem none_ge (c : Array Value) (n i : Nat) (hc : c.size = n) (h : n ≤ i) : c[i]? = none := Array.getElem?_eq_none (by omega)
theorem val_seg1 (b : Bool) (x y : Nat) : seg (val b x y) 1 33 = some (nat x) := by
  unfold seg
  rw [if_pos (by rw [val_size]; omega)]
  refine congrArg some (Array.ext_getElem? fun i => ?_)
  rw [Array.getElem?_extract, val_size, val_get]
  by_cases h : i < 33
  · rw [if_pos (by omega), if_neg (by omega), if_pos (by omega), Nat.add_sub_cancel_left]
  · rw [if_neg (by omega), none_ge _ 33 i (nat_size x) (by omega)]
theorem val_seg2 (b : Bool) (x y : Nat) : seg (val b x y) 34 33 = some (nat y) := by
  unfold seg
  rw [if_pos (by rw [val_size]; omega)]
  refine congrArg some (Array.ext_getElem? fun i => ?_)
  rw [Array.getElem?_extract, val_size, val_get]
  by_cases h : i < 33
  · rw [if_pos (by omega), if_neg (by omega), if_neg (by omega), Nat.add_sub_cancel_left]
  · rw [if_neg (by omega), none_ge _ 33 i (nat_size y) (by omega)]
theorem val_get0 (b : Bool) (x y : Nat) : (val b x y)[0]? = some (.bool b) := by rw [val_get]; rfl
theorem val_get33 (b : Bool) (x y : Nat) : (val b x y)[33]? = some (.int .i64 (dl 4294967296 x : Nat)) := by
  rw [val_get, if_neg (by omega), if_pos (by omega)]; exact nat_len x
theorem val_get66 (b : Bool) (x y : Nat) : (val b x y)[66]? = some (.int .i64 (dl 4294967296 y : Nat)) := by
  rw [val_get, if_neg (by omega), if_neg (by omega)]; exact nat_len y
theorem get_of {c : Array Value} {i : Nat} {v : Value} (h : c[i]? = some v) (hi : i < c.size) : c[i]'hi = v := by
  rw [Array.getElem?_eq_getElem hi] at h
  exact Option.some.inj h
attribute [irreducible] val
attribute [local irreducible] nat
theorem val_get0' (b : Bool) (x y : Nat) (h : 0 < (val b x y).size) : (val b x y)[0]'h = .bool b := get_of (val_get0 b x y) h
theorem val_get33' (b : Bool) (x y : Nat) (h : 33 < (val b x y).size) : (val b x y)[33]'h = .int .i64 (dl 4294967296 x : Nat) := get_of (val_get33 b x y) h
theorem val_get66' (b : Bool) (x y : Nat) (h : 66 < (val b x y).size) : (val b x y)[66]'h = .int .i64 (dl 4294967296 y : Nat) := get_of (val_get66 b x y) h
theorem val_set0 (b c : Bool) (x y : Nat) : (val b x y).setIfInBounds 0 (.bool c) = val c x y := by
  refine Array.ext_getElem? fun i => ?_
  rw [Array.getElem?_setIfInBounds, val_get, val_get, val_size]
  by_cases h : i = 0
  · subst h; simp
  · rw [if_neg (Ne.symm h), if_neg h, if_neg h]
theorem splice_get (c cs : Array Value) (o i : Nat) (h : o + cs.size ≤ c.size) : (splice c o cs)[i]? = if i < o then c[i]? else if i < o + cs.size then cs[i - o]? else c[i]? := by
  have e1 : (c.extract 0 o).size = o := by rw [Array.size_extract]; omega
  unfold splice
  rw [Array.getElem?_append, Array.size_append, e1]
  by_cases h1 : i < o
  · rw [if_pos (by omega), Array.getElem?_append, e1, if_pos h1, if_pos h1, Array.getElem?_extract, if_pos (by omega), Nat.zero_add]
  · rw [if_neg h1]
    by_cases h2 : i < o + cs.size
    · rw [if_pos h2, if_pos h2, Array.getElem?_append, e1, if_neg h1]
    · rw [if_neg h2, if_neg h2, Array.getElem?_extract]
      by_cases h3 : i < c.size
      · rw [if_pos (by omega)]
        congr 1
        omega
      · rw [if_neg (by omega), none_ge _ c.size i rfl (by omega)]
theorem val_put1 (b : Bool) (x y z : Nat) : splice (val b x y) 1 (nat z) = val b z y := by
  refine Array.ext_getElem? fun i => ?_
  rw [splice_get _ _ _ _ (by rw [val_size, nat_size]; omega), nat_size, val_get, val_get]
  by_cases h1 : i < 1
  · rw [if_pos h1, if_pos (by omega), if_pos (by omega)]
  · rw [if_neg h1]
    by_cases h2 : i < 1 + 33
    · rw [if_pos h2, if_neg (by omega), if_pos (by omega)]
    · rw [if_neg h2, if_neg (by omega), if_neg (by omega), if_neg (by omega), if_neg (by omega)]
theorem val_put2 (b : Bool) (x y z : Nat) : splice (val b x y) 34 (nat z) = val b x z := by
  refine Array.ext_getElem? fun i => ?_
  rw [splice_get _ _ _ _ (by rw [val_size, nat_size]; omega), nat_size, val_get, val_get]
  by_cases h1 : i < 34
  · rw [if_pos h1]
    by_cases h0 : i = 0
    · rw [if_pos h0, if_pos h0]
    · rw [if_neg h0, if_neg h0, if_pos h1, if_pos h1]
  · rw [if_neg h1]
    by_cases h2 : i < 34 + 33
    · rw [if_pos h2, if_neg (by omega), if_neg h1]
    · rw [if_neg h2, if_neg (by omega), if_neg h1, if_neg (by omega), if_neg h1, none_ge _ 33 _ (nat_size y) (by omega), none_ge _ 33 _ (nat_size z) (by omega)]
attribute [go_sem] val_size val_one val_seg1 val_seg2 val_get0' val_get33' val_get66' val_set0 val_put1 val_put2
attribute [go_sem high] val_get0 val_get33 val_get66

/-- what 'fill' does with one part -/
theorem fill_splice (v cells : Array Value) (off : Nat) (h : off + v.size ≤ cells.size) :
    v.zipIdx.foldl (fun cs (x : Value × Nat) => cs.setIfInBounds (off + x.2) x.1) cells = splice cells off v := by
  have key : ∀ (l : List Value) (k : Nat) (c : Array Value), off + k + l.length ≤ c.size →
      (l.zipIdx k).foldl (fun cs (x : Value × Nat) => cs.setIfInBounds (off + x.2) x.1) c = splice c (off + k) l.toArray := by
    intro l
    induction l with
    | nil =>
      intro k c hk
      refine Array.ext_getElem? fun i => ?_
      rw [splice_get _ _ _ _ (by simpa using hk)]
      simp only [List.zipIdx_nil, List.foldl_nil, List.size_toArray, List.length_nil, Nat.add_zero]
      split
      · rfl
      · rfl
    | cons a l ih =>
      intro k c hk
      simp only [List.length_cons] at hk
      rw [List.zipIdx_cons, List.foldl_cons, ih (k + 1) _ (by simp; omega)]
      apply Array.ext_getElem?
      intro i
      rw [splice_get _ _ _ _ (by simp; omega), splice_get _ _ _ _ (by simp; omega)]
      simp only [Array.getElem?_setIfInBounds, List.size_toArray, List.length_cons, List.getElem?_toArray]
      by_cases h1 : i < off + k
      · rw [if_pos (by omega), if_neg (by omega), if_pos h1]
      · by_cases h2 : i = off + k
        · subst h2
          rw [if_pos (by omega), if_pos rfl, if_pos (by omega), if_neg (by omega), if_pos (by omega)]
          simp
        · rw [if_neg (by omega), if_neg h1]
          by_cases h3 : i < off + (k + 1) + l.length
          · rw [if_pos h3, if_pos (by omega), show i - (off + k) = (i - (off + (k + 1))) + 1 from by omega, List.getElem?_cons_succ]
          · rw [if_neg h3, if_neg (by omega), if_neg (by omega)]
  have := key v.toList 0 cells (by simpa using h)
  rw [← Array.foldl_toList]
  simpa [Array.toList_zipIdx] using this

theorem z67 : (Tryz.prog.info? 112).map (fun i => i.zero) = some (some (.agg (#[Value.bool false] ++ cs (fun _ => 0) 0 ++ cs (fun _ => 0) 0))) := by kernel_rfl
theorem val_zero : val false 0 0 = #[Value.bool false] ++ cs (fun _ => 0) 0 ++ cs (fun _ => 0) 0 := by unfold val; rw [nat_zero]

theorem loadVar_val (a : Addr) : loadVar 112 a = loadRow 112 a := rfl
theorem storeVar_val (a : Addr) (v : Value) : storeVar 112 a v = putRow 112 a v := rfl
theorem run_load_val (a : Addr) (w : World) : (loadRow 112 a).run Tryz.prog w = rowRes (rowAt w a 67) w ((loadRow' 112 a).run Tryz.prog w) :=
  run_loadRow (d := (Tryz.prog.underlying 112).getD (.struct #[])) (by kernel_rfl) (by kernel_rfl) (by kernel_rfl) a w
theorem run_store_val (a : Addr) (cs : Array Value) (w : World) : (putRow 112 a (.agg cs)).run Tryz.prog w = putRes (putAt w a cs) (allOne cs && decide (cs.size = 67)) ((putRow' 112 a (.agg cs)).run Tryz.prog w) :=
  run_putRow (by kernel_rfl) a cs w
attribute [go_sem ↓] loadVar_val storeVar_val
attribute [go_sem] run_load_val run_store_val
theorem ret_val {fn : Func} {p : Tmp} (h : fn.results = #[.cell p 112]) {tmps : Array Value} {w : World} {a : Addr} {cs : Array Value} (hp : tmps.getD p undef = .pointer (some a)) (hr : rowAt w a 67 = some cs) :
    (results fn tmps).run Tryz.prog w = .ok (.agg cs) w :=
  results_row (d := (Tryz.prog.underlying 112).getD (.struct #[])) h (by kernel_rfl) (by kernel_rfl) (by kernel_rfl) hp hr
theorem ret_val_tmp {fn : Func} {p u : Tmp} (h : fn.results = #[.cell p 112, .tmp u]) {tmps : Array Value} {w : World} {a : Addr} {cs : Array Value} {v : Value} (hp : tmps.getD p undef = .pointer (some a)) (hq : tmps.getD u undef = v) (hr : rowAt w a 67 = some cs) :
    (results fn tmps).run Tryz.prog w = .ok (.tuple #[.agg cs, v]) w :=
  results_row_tmp (d := (Tryz.prog.underlying 112).getD (.struct #[])) h (by kernel_rfl) (by kernel_rfl) (by kernel_rfl) hp hq hr
theorem results_tmp_row {P : Program} {fn : Func} {p u : Tmp} {ty : TypeId} {n : Nat} {d : TypeDesc} (h : fn.results = #[.tmp u, .cell p ty]) (hu : P.underlying ty = some d)
    (hd : (match d with | .struct _ | .array _ _ => true | _ => false) = true) (hi : (P.info? ty).map (·.size) = some n)
    {tmps : Array Value} {w : World} {a : Addr} {cs : Array Value} {v : Value} (hp : tmps.getD p undef = .pointer (some a)) (hq : tmps.getD u undef = v) (hr : rowAt w a n = some cs) : (results fn tmps).run P w = .ok (.tuple #[v, .agg cs]) w := by
  have hp' : tmps[p]?.getD undef = .pointer (some a) := by simpa using hp
  have hq' : tmps[u]?.getD undef = v := by simpa using hq
  simp [results, h, hp', hq', asAddr, run_loadVar_rowAt hu hd hi hr]
theorem ret_tmp_nat {fn : Func} {p u : Tmp} (h : fn.results = #[.tmp u, .cell p 110]) {tmps : Array Value} {w : World} {a : Addr} {cs : Array Value} {v : Value} (hp : tmps.getD p undef = .pointer (some a)) (hq : tmps.getD u undef = v) (hr : rowAt w a 33 = some cs) :
    (results fn tmps).run Tryz.prog w = .ok (.tuple #[v, .agg cs]) w :=
  results_tmp_row (d := (Tryz.prog.underlying 110).getD (.struct #[])) h (by kernel_rfl) (by kernel_rfl) (by kernel_rfl) hp hq hr

/-! a composite literal of a value -/
def places112 : List (Nat × Nat) := [(0, 1), (1, 33), (34, 33)]
def isStruct : Option TypeDesc → Bool
  | some (.struct _) => true
  | _ => false
theorem struct_of : ∀ {o : Option TypeDesc}, isStruct o = true → ∃ fs, o = some (.struct fs)
  | some (.struct fs), _ => ⟨fs, rfl⟩
theorem built_val (parts : List (Nat × Value)) (cells : Array Value) (h : Instr.fill (places112.toArray[·]?) (val false 0 0) parts = some cells) : Tryz.prog.built 112 parts = some cells := by
  obtain ⟨i, hi⟩ : ∃ i, Tryz.prog.info? 112 = some i := by
    cases he : Tryz.prog.info? 112 with
    | none => have := z67; rw [he, Option.map_none] at this; exact absurd this.symm (Option.some_ne_none _)
    | some i => exact ⟨i, rfl⟩
  have hz : i.zero = some (.agg (val false 0 0)) := by
    have := z67
    rw [hi, ← val_zero, Option.map_some, Option.some.injEq] at this
    exact this
  obtain ⟨fs, hf⟩ : ∃ fs, Tryz.prog.underlying 112 = some (.struct fs) := struct_of (by kernel_rfl)
  have hp : fs.toList.mapM (fun f => (Tryz.prog.info? f.type).map fun i => (f.offset, i.size)) = some places112 := by
    have : (match Tryz.prog.underlying 112 with | some (.struct fs) => fs.toList.mapM (fun f => (Tryz.prog.info? f.type).map fun i => (f.offset, i.size)) | _ => none) = some places112 := by kernel_rfl
    rw [hf] at this
    exact this
  unfold Program.built
  rw [hi, hf]
  simp only [hz, hp, Value.cells]
  exact h
theorem fill_step (places : Nat → Option (Nat × Nat)) (cells : Array Value) (i off size : Nat) (v : Value) (rest : List (Nat × Value)) (hp : places i = some (off, size)) (hs : v.cells.size = size) (h : off + size ≤ cells.size) :
    Instr.fill places cells ((i, v) :: rest) = Instr.fill places (splice cells off v.cells) rest := by
  have h1 : ¬ (v.cells.size ≠ size ∨ cells.size < off + v.cells.size) := by omega
  simp only [Instr.fill, hp]
  rw [if_neg (by simpa using h1)]
  congr 1
  exact fill_splice v.cells cells off (by omega)
theorem fill_nat (cells : Array Value) (i off x : Nat) (rest : List (Nat × Value)) (hp : places112.toArray[i]? = some (off, 33)) (h : off + 33 ≤ cells.size) :
    Instr.fill (places112.toArray[·]?) cells ((i, .agg (nat x)) :: rest) = Instr.fill (places112.toArray[·]?) (splice cells off (nat x)) rest :=
  fill_step _ cells i off 33 (.agg (nat x)) rest hp (nat_size x) h
theorem fill_bool (cells : Array Value) (b : Bool) (rest : List (Nat × Value)) (h : 1 ≤ cells.size) :
    Instr.fill (places112.toArray[·]?) cells ((0, .bool b) :: rest) = Instr.fill (places112.toArray[·]?) (splice cells 0 #[Value.bool b]) rest :=
  fill_step _ cells 0 0 1 (.bool b) rest rfl rfl (by omega)
theorem val_put0 (b c : Bool) (x y : Nat) : splice (val b x y) 0 #[Value.bool c] = val c x y := by
  refine Array.ext_getElem? fun i => ?_
  rw [splice_get _ _ _ _ (by rw [val_size]; simp), val_get, val_get]
  simp only [List.size_toArray, List.length_cons, List.length_nil, Nat.not_lt_zero, if_false, Nat.zero_add, Nat.sub_zero]
  by_cases h : i = 0
  · subst h; simp
  · rw [if_neg (by omega), if_neg h, if_neg h]
/-- the literal, as the walk meets it -/
theorem build_val3 (b : Bool) (x y : Nat) (w : World) : (Instr.build 112 #[(0, .bool b), (1, .agg (nat x)), (2, .agg (nat y))]).run Tryz.prog w = .ok (.agg (val b x y)) w := by
  refine run_build w _ _ _ (built_val _ _ ?_)
  show Instr.fill (places112.toArray[·]?) (val false 0 0) [(0, .bool b), (1, .agg (nat x)), (2, .agg (nat y))] = _
  rw [fill_bool _ _ _ (by rw [val_size]; omega), val_put0, fill_nat _ 1 1 x _ rfl (by rw [val_size]; omega), val_put1, fill_nat _ 2 34 y _ rfl (by rw [val_size]; omega), val_put2]
  rfl
theorem build_val2 (x y : Nat) (w : World) : (Instr.build 112 #[(1, .agg (nat x)), (2, .agg (nat y))]).run Tryz.prog w = .ok (.agg (val false x y)) w := by
  refine run_build w _ _ _ (built_val _ _ ?_)
  show Instr.fill (places112.toArray[·]?) (val false 0 0) [(1, .agg (nat x)), (2, .agg (nat y))] = _
  rw [fill_nat _ 1 1 x _ rfl (by rw [val_size]; omega), val_put1, fill_nat _ 2 34 y _ rfl (by rw [val_size]; omega), val_put2]
  rfl
theorem build_val0 (w : World) : (Instr.build 112 #[]).run Tryz.prog w = .ok (.agg (val false 0 0)) w := by
  refine run_build w _ _ _ (built_val _ _ ?_)
  rfl
/-- a literal of a value -/
def mkVal (parts : Array (Nat × Value)) : Sem Value := Instr.build 112 parts
theorem mkVal_eq (parts : Array (Nat × Value)) : Instr.build 112 parts = mkVal parts := rfl
theorem run_mkVal3 (b : Bool) (x y : Nat) (w : World) : (mkVal #[(0, .bool b), (1, .agg (nat x)), (2, .agg (nat y))]).run Tryz.prog w = .ok (.agg (val b x y)) w := build_val3 b x y w
theorem run_mkVal2 (x y : Nat) (w : World) : (mkVal #[(1, .agg (nat x)), (2, .agg (nat y))]).run Tryz.prog w = .ok (.agg (val false x y)) w := build_val2 x y w
theorem run_mkVal0 (w : World) : (mkVal #[]).run Tryz.prog w = .ok (.agg (val false 0 0)) w := build_val0 w
/-- a zero value -/
def zeroVal : Sem Value := zeroValue 112
theorem zeroVal_eq : zeroValue 112 = zeroVal := rfl
theorem run_zeroVal (w : World) : zeroVal.run Tryz.prog w = .ok (.agg (val false 0 0)) w := by
  rw [val_zero]
  unfold zeroVal
  kernel_rfl
attribute [go_sem ↓] mkVal_eq zeroVal_eq
attribute [go_sem] run_mkVal3 run_mkVal2 run_mkVal0 run_zeroVal

set_option maxRecDepth 100000 in
set_option maxHeartbeats 400000 in
/-- negated turns the sign -/
theorem negated_any (b : Bool) (x y : Nat) (w : World) :
    Calls Tryz.prog 81 #[.agg (val b x y)] w fun e w' => e = .returned (.agg (val (!b) x y)) ∧ Grown w w' := by
  go_enter Tryz.func81, Tryz.ntmps81
  go_wp2
  refine bodyPost_ret (v := .agg (val (!b) x y)) (ret_val rfl rfl ?_) rfl ⟨rfl, ?_⟩
  · go_simp
  · exact (by with_reducible repeat (first | exact Grown.refl _ | apply Grown.more | apply Grown.alloc | apply Grown.drewN | apply Grown.drew))
end Go.Proofs.YtnohidkmjclojaaGreatDoor
