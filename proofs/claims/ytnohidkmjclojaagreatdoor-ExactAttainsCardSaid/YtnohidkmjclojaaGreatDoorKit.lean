/- General laws for the walks: worlds written out, whole rows of cells read and written at once. -/
import Derived.Test.YtnohidkmjclojaaGreatDoorProg
import Derived.WalkKit
import Derived.WalkSpells
import Derived.WalkLawsBesides
import Derived.BigQuiet
import Derived.Lib.Hide
import Derived.Deep.MidRow
import Derived.Deep.QuietTactic
import Derived.Deep.LoopGhost
import Derived.Test.YtnohidkmjclojaaGreatDoorDig
namespace Go.Proofs.YtnohidkmjclojaaGreatDoor
open Go.RowKit

/-! ### worlds that have grown -/

/-- w with more blocks, and another count of draws -/
def grow (w : World) (os : Array Obj) (n : Nat) : World := { w with heap := w.heap ++ os, drawn := n }

/-- b is one of w's blocks -/
def InW (b : Nat) (w : World) : Prop := b < w.heap.size
theorem InW.lt {b : Nat} {w : World} (h : InW b w) : b < w.heap.size := h
theorem InW_alloc (b : Nat) (w : World) (o : Obj) : InW b (w.alloc o) ↔ (b = w.heap.size ∨ InW b w) := by
  unfold InW; simp; omega
/-- b is one of the blocks that have come -/
def InMore (b : Nat) (w : World) (os : Array Obj) : Prop := w.heap.size ≤ b ∧ b < w.heap.size + os.size
theorem InW_grow (b : Nat) (w : World) (os : Array Obj) (n : Nat) : InW b (grow w os n) ↔ (InW b w ∨ InMore b w os) := by
  unfold InW InMore grow; simp; omega
theorem InW_drew (b : Nat) (w : World) : InW b w.drew ↔ InW b w := Iff.rfl
theorem InW_drewN (b : Nat) (w : World) (n : Nat) : InW b (w.drewN n) ↔ InW b w := Iff.rfl
attribute [go_sem] InW_alloc InW_grow InW_drew InW_drewN

theorem heap_size_grow (w : World) (os : Array Obj) (n : Nat) : (grow w os n).heap.size = w.heap.size + os.size := by simp [grow]
theorem heap_grow (w : World) (os : Array Obj) (n k : Nat) (h : k < w.heap.size) : (grow w os n).heap[k]? = w.heap[k]? := by
  simp [grow, Array.getElem?_append, h]
theorem cell_grow (w : World) (os : Array Obj) (n : Nat) (b i : Nat) (h : InW b w) : (grow w os n).cell? ⟨b, i, none⟩ = w.cell? ⟨b, i, none⟩ := by
  simp only [World.cell?, heap_grow w os n b h]
theorem frozen_grow (w : World) (os : Array Obj) (n : Nat) (b i : Nat) (h : InW b w) : (grow w os n).frozen? ⟨b, i, none⟩ = w.frozen? ⟨b, i, none⟩ := by
  simp only [World.frozen?, heap_grow w os n b h]
theorem setCell_grow (w : World) (os : Array Obj) (n : Nat) (b i : Nat) (v : Value) (h : InW b w) :
    (grow w os n).setCell ⟨b, i, none⟩ v = grow (w.setCell ⟨b, i, none⟩ v) os n := by
  unfold World.setCell grow
  congr 1
  apply Array.ext_getElem?
  intro k
  simp only [Array.getElem?_modify, Array.getElem?_append, Array.size_modify]
  by_cases hk : b = k
  · subst hk; simp [h.lt]
  · simp [hk]
theorem drew_grow (w : World) (os : Array Obj) (n : Nat) : (grow w os n).drew = grow w os (n + 1) := rfl
theorem drewN_grow (w : World) (os : Array Obj) (n d : Nat) : (grow w os n).drewN d = grow w os (n + d) := rfl
theorem grow_drew (w : World) (os : Array Obj) (n : Nat) : grow w.drew os n = grow w os n := rfl
theorem grow_drewN (w : World) (os : Array Obj) (n d : Nat) : grow (w.drewN d) os n = grow w os n := rfl
theorem grow_grow (w : World) (os os' : Array Obj) (n n' : Nat) : grow (grow w os n) os' n' = grow w (os ++ os') n' := by simp [grow]
theorem tape_grow (w : World) (os : Array Obj) (n : Nat) : (grow w os n).tape = w.tape := rfl
theorem setCell_drewN (w : World) (d : Nat) (a : Addr) (v : Value) : (w.drewN d).setCell a v = (w.setCell a v).drewN d := rfl
theorem alloc_drewN (w : World) (d : Nat) (o : Obj) : (w.drewN d).alloc o = (w.alloc o).drewN d := rfl
theorem shape_grow (w : World) (os : Array Obj) (n : Nat) (b : Nat) (h : InW b w) : (grow w os n).shape? b = w.shape? b := by
  simp only [World.shape?, heap_grow w os n b h]
attribute [go_sem] heap_size_grow cell_grow frozen_grow setCell_grow drew_grow drewN_grow grow_drew grow_drewN grow_grow tape_grow setCell_drewN alloc_drewN shape_grow

/-- w' is w with more blocks -/
def Grown (w w' : World) : Prop := ∃ os n, w' = grow w os n

theorem Grown.refl (w : World) : Grown w w := ⟨#[], w.drawn, by simp [grow]⟩
theorem Grown.grow (w : World) (os : Array Obj) (n : Nat) : Grown w (YtnohidkmjclojaaGreatDoor.grow w os n) := ⟨os, n, rfl⟩
theorem Grown.trans {a b c : World} (h : Grown a b) (h' : Grown b c) : Grown a c := by
  obtain ⟨os, n, rfl⟩ := h
  obtain ⟨os', n', rfl⟩ := h'
  exact ⟨_, _, grow_grow _ _ _ _ _⟩
theorem Grown.alloc {a b : World} (h : Grown a b) (o : Obj) : Grown a (b.alloc o) := by
  obtain ⟨os, n, rfl⟩ := h
  exact ⟨os.push o, n, by simp [YtnohidkmjclojaaGreatDoor.grow, World.alloc]⟩
theorem Grown.drewN {a b : World} (h : Grown a b) (d : Nat) : Grown a (b.drewN d) := by
  obtain ⟨os, n, rfl⟩ := h
  exact ⟨os, n + d, rfl⟩
theorem Grown.drew {a b : World} (h : Grown a b) : Grown a b.drew := h.drewN 1
theorem Grown.more {a b : World} (h : Grown a b) (os : Array Obj) (n : Nat) : Grown a (YtnohidkmjclojaaGreatDoor.grow b os n) := h.trans (Grown.grow b os n)
theorem Grown.of_below {a b : World} (h : Below a.heap.size a b) : Grown a b := by
  refine ⟨b.heap.extract a.heap.size b.heap.size, b.drawn, ?_⟩
  obtain ⟨h1, h2, h3, h4, h5⟩ := h
  cases b with
  | mk heap tape drawn os output =>
    cases a with
    | mk heap' tape' drawn' os' output' =>
      simp only at h1 h2 h3 h4 h5
      subst h1 h2 h3
      simp only [YtnohidkmjclojaaGreatDoor.grow, World.mk.injEq, and_true]
      apply Array.ext_getElem?
      intro k
      rw [Array.getElem?_append]
      split
      · exact h5 k (by assumption)
      · rw [Array.getElem?_extract]
        split
        · congr 1; omega
        · rw [Array.getElem?_eq_none (by omega)]
theorem Grown.below {a b : World} (h : Grown a b) : Below a.heap.size a b := by
  obtain ⟨os, n, rfl⟩ := h
  exact ⟨rfl, rfl, rfl, by simp [YtnohidkmjclojaaGreatDoor.grow], fun k hk => heap_grow a os n k hk⟩

/-! ### a quiet region behind a quiet region -/
theorem quiet_add {P : Program} {f : FuncId} {args : Array Value} {w : World} {a n : Nat} {v : Value}
    (h : Calls P f args (w.drewN (a + n)) fun e w' => e = .returned v ∧ ∃ m, w' = (w.drewN (a + n)).drewN m) :
    Calls P f args (w.drewN (a + n)) fun e w'' => e = .returned v ∧ ∃ m, w'' = w.drewN (a + m) :=
  h.mono fun _ _ ⟨he, m, hm⟩ => ⟨he, n + m, by rw [hm, World.drewN_drewN, Nat.add_assoc]⟩
theorem quiet_add_same {P : Program} {f : FuncId} {args : Array Value} {w : World} {a n : Nat} {v : Value}
    (h : Calls P f args (w.drewN (a + n)) fun e w' => e = .returned v ∧ w' = w.drewN (a + n)) :
    Calls P f args (w.drewN (a + n)) fun e w'' => e = .returned v ∧ ∃ m, w'' = w.drewN (a + m) :=
  h.mono fun _ _ ⟨he, hm⟩ => ⟨he, n, hm⟩

/-! ### a block further down -/
theorem cell_alloc_past (w : World) (x : Obj) (b i : Nat) (h : InW b w) : (w.alloc x).cell? ⟨b, i, none⟩ = w.cell? ⟨b, i, none⟩ := World.cell?_alloc_past x b i h
theorem frozen_alloc_past (w : World) (x : Obj) (b i : Nat) (h : InW b w) : (w.alloc x).frozen? ⟨b, i, none⟩ = w.frozen? ⟨b, i, none⟩ := World.frozen?_alloc_past x b i h
theorem setCell_alloc_past (w : World) (x : Obj) (b i : Nat) (v : Value) (h : InW b w) : (w.alloc x).setCell ⟨b, i, none⟩ v = (w.setCell ⟨b, i, none⟩ v).alloc x := World.setCell_alloc_past x b i v h
attribute [go_sem] cell_alloc_past frozen_alloc_past setCell_alloc_past

/-! ### rows of cells, read and written at once -/

/-- the n cells from an address on -/
def rowAt (w : World) (a : Addr) (n : Nat) : Option (Array Value) :=
  match w.heap[a.block]? with
  | some (.cells c _ _) => if a.spot = none ∧ a.off + n ≤ c.size then some (c.extract a.off (a.off + n)) else none
  | _ => none

/-- the n cells from place o on -/
def seg (c : Array Value) (o n : Nat) : Option (Array Value) := if o + n ≤ c.size then some (c.extract o (o + n)) else none

theorem rowAt_alloc_at (w : World) (c : Array Value) (t : TypeId) (b o n : Nat) (hb : b = w.heap.size) : rowAt (w.alloc (.cells c t)) ⟨b, o, none⟩ n = seg c o n := by
  subst hb
  unfold rowAt seg
  rw [show (w.alloc (.cells c t)).heap[w.heap.size]? = some (.cells c t) from Go.heap_alloc_new w _]
  simp only [true_and]
theorem rowAt_alloc_past (w : World) (x : Obj) (b o n : Nat) (hb : InW b w) : rowAt (w.alloc x) ⟨b, o, none⟩ n = rowAt w ⟨b, o, none⟩ n := by
  unfold rowAt
  rw [show (w.alloc x).heap[b]? = w.heap[b]? from Below.heap_alloc w x b hb]
theorem rowAt_drew (w : World) (a : Addr) (n : Nat) : rowAt w.drew a n = rowAt w a n := rfl
theorem rowAt_drewN (w : World) (a : Addr) (n d : Nat) : rowAt (w.drewN d) a n = rowAt w a n := rfl
theorem rowAt_grow (w : World) (os : Array Obj) (m : Nat) (b o n : Nat) (hb : InW b w) : rowAt (grow w os m) ⟨b, o, none⟩ n = rowAt w ⟨b, o, none⟩ n := by
  simp only [rowAt, heap_grow w os m b hb]
attribute [go_sem] rowAt_alloc_at rowAt_alloc_past rowAt_drew rowAt_drewN rowAt_grow

theorem rowAt_some {w : World} {a : Addr} {n : Nat} {cs : Array Value} (h : rowAt w a n = some cs) : cs.size = n ∧ a.spot = none ∧ ∀ j, j < n → w.cell? (a.add j) = cs[j]? := by
  unfold rowAt at h
  split at h
  · rename_i c t fr hc
    split at h
    · rename_i hcond
      obtain ⟨hs, hle⟩ := hcond
      injection h with h
      subst h
      refine ⟨by simp; omega, hs, fun j hj => ?_⟩
      have hadd : a.add j = ⟨a.block, a.off + j, none⟩ := by
        unfold Addr.add
        split
        · rename_i h0; subst h0; cases a; simp_all
        · rfl
      rw [hadd]
      simp only [World.cell?, hc, Option.isSome_none, Bool.false_eq_true, if_false]
      rw [Array.getElem?_extract, if_pos (by omega)]
    · cases h
  · cases h

theorem run_loadVar_rowAt {P : Program} {w : World} {a : Addr} {t : TypeId} {n : Nat} {d : TypeDesc} (hu : P.underlying t = some d) (hd : (match d with | .struct _ | .array _ _ => true | _ => false) = true)
    (hi : (P.info? t).map (·.size) = some n) {cs : Array Value} (h : rowAt w a n = some cs) : (loadVar t a).run P w = .ok (.agg cs) w := by
  obtain ⟨hs, hsp, hc⟩ := rowAt_some h
  have hl : (loadCells a cs.toList.length).run P w = .ok cs.toList.toArray w :=
    run_loadCells_list (P := P) w a cs.toList (fun j v hv => by
      have hj : j < cs.toList.length := (List.getElem?_eq_some_iff.1 hv).1
      rw [hc j (by simpa [hs] using hj)]
      simpa using hv)
  cases hq : P.info? t with
  | none => simp [hq] at hi
  | some i =>
    have hs' : i.size = cs.size := by simp [hq] at hi; omega
    have hagg : (isAgg t).run P w = .ok true w := by
      unfold isAgg
      rw [Sem.run_bind, run_underlying hu w]
      cases d <;> simp_all
    simp only [Array.length_toList, Array.toArray_toList] at hl
    simp [loadVar, Sem.run_bind, hagg, sizeOf, typeInfo, hq, hs', hl]

/-- a load of a whole row, as the walk meets it: t is a type of n cells -/
def loadRow (t : TypeId) (a : Addr) : Sem Value := loadVar t a
def loadRow' (t : TypeId) (a : Addr) : Sem Value := loadVar t a
def rowRes (r : Option (Array Value)) (w : World) (alt : Result Value) : Result Value :=
  match r with
  | some cs => .ok (.agg cs) w
  | none => alt
theorem rowRes_some (cs : Array Value) (w : World) (alt : Result Value) : rowRes (some cs) w alt = .ok (.agg cs) w := rfl
theorem run_loadRow {P : Program} {t : TypeId} {n : Nat} {d : TypeDesc} (hu : P.underlying t = some d) (hd : (match d with | .struct _ | .array _ _ => true | _ => false) = true)
    (hi : (P.info? t).map (·.size) = some n) (a : Addr) (w : World) : (loadRow t a).run P w = rowRes (rowAt w a n) w ((loadRow' t a).run P w) := by
  cases h : rowAt w a n with
  | none => rfl
  | some cs => exact run_loadVar_rowAt hu hd hi h
attribute [go_sem] rowRes_some

/-- the row from place o on, replaced -/
def splice (c : Array Value) (o : Nat) (cs : Array Value) : Array Value := c.extract 0 o ++ cs ++ c.extract (o + cs.size) c.size

def putAt (w : World) (a : Addr) (cs : Array Value) : Option World :=
  match w.heap[a.block]? with
  | some (.cells c _ (0, 0)) => if a.spot = none ∧ a.off + cs.size ≤ c.size then some (w.setRow a.block (splice c a.off cs)) else none
  | _ => none

theorem setRow_alloc_at (w : World) (c c' : Array Value) (t : TypeId) (b : Nat) (hb : b = w.heap.size) : (w.alloc (.cells c t)).setRow b c' = w.alloc (.cells c' t) := by
  subst hb
  unfold World.setRow World.alloc
  congr 1
  apply Array.ext_getElem?
  intro k
  simp only [Array.getElem?_modify, Array.getElem?_push]
  by_cases hk : k = w.heap.size
  · subst hk; simp
  · simp [hk, Ne.symm hk]
theorem setRow_alloc_past (w : World) (x : Obj) (c' : Array Value) (b : Nat) (hb : b < w.heap.size) : (w.alloc x).setRow b c' = (w.setRow b c').alloc x := by
  unfold World.setRow World.alloc
  congr 1
  apply Array.ext_getElem?
  intro k
  simp only [Array.getElem?_modify, Array.getElem?_push, Array.size_modify]
  by_cases hk : k = w.heap.size
  · subst hk; simp [Nat.ne_of_lt hb]
  · simp [hk]
theorem setRow_grow (w : World) (os : Array Obj) (n : Nat) (c' : Array Value) (b : Nat) (hb : b < w.heap.size) : (grow w os n).setRow b c' = grow (w.setRow b c') os n := by
  unfold World.setRow grow
  congr 1
  apply Array.ext_getElem?
  intro k
  simp only [Array.getElem?_modify, Array.getElem?_append, Array.size_modify]
  by_cases hk : b = k
  · subst hk; simp [hb]
  · simp [hk]

theorem putAt_alloc_at (w : World) (c cs : Array Value) (t : TypeId) (b o : Nat) (hb : b = w.heap.size) (h : o + cs.size ≤ c.size) :
    putAt (w.alloc (.cells c t)) ⟨b, o, none⟩ cs = some (w.alloc (.cells (splice c o cs) t)) := by
  subst hb
  unfold putAt
  rw [show (w.alloc (.cells c t)).heap[w.heap.size]? = some (.cells c t) from Go.heap_alloc_new w _]
  simp only [true_and]
  rw [if_pos h, setRow_alloc_at w c _ t _ rfl]
theorem putAt_alloc_past (w : World) (x : Obj) (cs : Array Value) (b o : Nat) (hb : InW b w) :
    putAt (w.alloc x) ⟨b, o, none⟩ cs = (putAt w ⟨b, o, none⟩ cs).map (·.alloc x) := by
  unfold putAt
  rw [show (w.alloc x).heap[b]? = w.heap[b]? from Below.heap_alloc w x b hb]
  simp only
  cases w.heap[b]? with
  | none => rfl
  | some z =>
    simp only [setRow_alloc_past w x _ b hb]
    split
    · split <;> rfl
    · rfl
theorem putAt_grow (w : World) (os : Array Obj) (n : Nat) (cs : Array Value) (b o : Nat) (hb : InW b w) :
    putAt (grow w os n) ⟨b, o, none⟩ cs = (putAt w ⟨b, o, none⟩ cs).map (grow · os n) := by
  unfold putAt
  simp only [heap_grow w os n b hb, setRow_grow w os n _ b hb]
  cases w.heap[b]? with
  | none => rfl
  | some z =>
    split
    · split <;> rfl
    · rfl
theorem putAt_drewN (w : World) (d : Nat) (a : Addr) (cs : Array Value) : putAt (w.drewN d) a cs = (putAt w a cs).map (·.drewN d) := by
  unfold putAt
  simp only [World.heap_drewN]
  split
  · split
    · rfl
    · rfl
  · rfl
theorem putAt_drew (w : World) (a : Addr) (cs : Array Value) : putAt w.drew a cs = (putAt w a cs).map (·.drew) := by
  unfold putAt
  simp only [heap_drew]
  split
  · split
    · rfl
    · rfl
  · rfl
attribute [go_sem] putAt_alloc_at putAt_alloc_past putAt_grow putAt_drewN putAt_drew

def putRes (r : Option World) (ok : Bool) (alt : Result Unit) : Result Unit :=
  match r, ok with
  | some w, true => .ok () w
  | _, _ => alt
theorem putRes_some (w : World) (alt : Result Unit) : putRes (some w) true alt = .ok () w := rfl
def putRow (t : TypeId) (a : Addr) (v : Value) : Sem Unit := storeVar t a v
def putRow' (t : TypeId) (a : Addr) (v : Value) : Sem Unit := storeVar t a v

/-- each is one cell -/
def allOne (c : Array Value) : Bool := c.all (·.oneCell')
theorem run_storeVar_putAt {P : Program} {w w' : World} {a : Addr} {t : TypeId} {n : Nat} {cs : Array Value} (hi : (P.info? t).map (·.size) = some n) (hn : cs.size = n) (h1 : cs.all (·.oneCell') = true)
    (h : putAt w a cs = some w') : (storeVar t a (.agg cs)).run P w = .ok () w' := by
  obtain ⟨g, o, sp⟩ := a
  unfold putAt at h
  split at h
  · rename_i c t' hc
    split at h
    · rename_i hcond
      obtain ⟨hs, hle⟩ := hcond
      simp only at hs hle hc
      subst hs
      injection h with h
      subst h
      have hst := run_storeCells_at (P := P) g o t' cs.toList 0 c w hc (by simpa using hle) (fun v hv => (Array.all_eq_true_iff_forall_mem.1 h1) v (by simpa using hv))
      cases hq : P.info? t with
      | none => simp [hq] at hi
      | some i =>
        have hs : cs.size = i.size := by simp [hq] at hi; omega
        simp only [storeVar, sizeOf, typeInfo, Value.cells, Sem.run_bind, Sem.run_pure]
        simp [hq, hs]
        rw [hst]
        congr 2
        apply Array.ext'
        simp [splice, List.take_of_length_le]
    · cases h
  · cases h

theorem run_putRow {P : Program} {t : TypeId} {n : Nat} (hi : (P.info? t).map (·.size) = some n) (a : Addr) (cs : Array Value) (w : World) :
    (putRow t a (.agg cs)).run P w = putRes (putAt w a cs) (allOne cs && decide (cs.size = n)) ((putRow' t a (.agg cs)).run P w) := by
  cases h : putAt w a cs with
  | none => rfl
  | some w' =>
    cases h1 : allOne cs && decide (cs.size = n) with
    | false => rfl
    | true =>
      simp only [Bool.and_eq_true, decide_eq_true_eq] at h1
      exact run_storeVar_putAt hi h1.2 h1.1 h
theorem splice_all (c cs : Array Value) (h : c.size = cs.size) : splice c 0 cs = cs := by
  unfold splice
  simp [← h]
theorem seg_all (c : Array Value) (n : Nat) (h : c.size = n) : seg c 0 n = some c := by
  unfold seg
  simp [← h]
attribute [go_sem] putRes_some splice_all seg_all

/-- a maximum of two numbers, without a split -/
theorem run_max_nat (P : Program) (w : World) (ts : Array TypeId) (t : TypeId) (k k' : IntKind) (x y : Nat) :
    (Builtin.max_ ts t #[.int k (x : Int), .int k' (y : Int)]).run P w = .ok (.int k ((max x y : Nat) : Int)) w := by
  rw [run_max_int2]
  congr 3
  split <;> omega
theorem run_min_i (P : Program) (w : World) (ts : Array TypeId) (t : TypeId) (k k' : IntKind) (x y : Int) :
    (Builtin.min_ ts t #[.int k x, .int k' y]).run P w = .ok (.int k (min x y)) w := by
  rw [run_min_int2, show (if y < x then y else x) = min x y from by split <;> omega]
attribute [go_sem high] run_max_nat run_min_i

/-! ### a natural number's 33 cells -/

/-- 32 words and their number -/
def cs (f : Nat → Int) (n : Int) : Array Value := ((List.range 32).map fun i => Value.int .u32 (f i)).toArray.push (.int .i64 n)
theorem cs_size (f : Nat → Int) (n : Int) : (cs f n).size = 33 := by simp [cs]
theorem cs_get (f : Nat → Int) (n : Int) (i : Nat) (h : i < 32) : (cs f n)[i]? = some (.int .u32 (f i)) := by
  unfold cs
  rw [Array.getElem?_push, if_neg (by simp; omega)]
  simp [h]
theorem cs_len (f : Nat → Int) (n : Int) : (cs f n)[32]? = some (.int .i64 n) := by
  unfold cs
  rw [Array.getElem?_push, if_pos (by simp)]
theorem cs_one (f : Nat → Int) (n : Int) : allOne (cs f n) = true := by
  unfold allOne
  apply Array.all_eq_true_iff_forall_mem.2
  intro v hv
  simp only [cs, Array.mem_push, List.mem_toArray, List.mem_map] at hv
  rcases hv with ⟨i, _, rfl⟩ | rfl <;> rfl
theorem cs_ext {f g : Nat → Int} {n m : Int} (h : ∀ i, i < 32 → f i = g i) (hn : n = m) : cs f n = cs g m := by
  subst hn
  unfold cs
  congr 2
  exact List.map_congr_left fun i hi => by rw [h i (by simpa using hi)]
/-- f, but v at place k -/
def upd (f : Nat → Int) (k : Nat) (v : Int) : Nat → Int := fun j => if j = k then v else f j
theorem cs_set (f : Nat → Int) (n : Int) (k : Nat) (v : Int) (h : k < 32) : (cs f n).setIfInBounds k (.int .u32 v) = cs (upd f k v) n := by
  apply Array.ext_getElem?
  intro i
  rw [Array.getElem?_setIfInBounds]
  rcases Nat.lt_trichotomy i 32 with hi | hi | hi
  · rw [cs_get _ _ _ hi, cs_get _ _ _ hi, cs_size]
    by_cases hk : k = i
    · subst hk; simp [upd]; omega
    · simp [upd, hk, Ne.symm hk]
  · subst hi
    rw [cs_len, cs_len, if_neg (by omega)]
  · rw [Array.getElem?_eq_none (by rw [cs_size]; omega), Array.getElem?_eq_none (by rw [cs_size]; omega), if_neg (by omega)]
theorem cs_setn (f : Nat → Int) (n m : Int) : (cs f n).setIfInBounds 32 (.int .i64 m) = cs f m := by
  apply Array.ext_getElem?
  intro i
  rw [Array.getElem?_setIfInBounds]
  rcases Nat.lt_trichotomy i 32 with hi | hi | hi
  · rw [cs_get _ _ _ hi, cs_get _ _ _ hi, if_neg (by omega)]
  · subst hi
    rw [cs_len f m, cs_size]; simp
  · rw [Array.getElem?_eq_none (by rw [cs_size]; omega), Array.getElem?_eq_none (by rw [cs_size]; omega), if_neg (by omega)]
theorem cs_get' (f : Nat → Int) (n : Int) (i : Nat) (hi : i < (cs f n).size) (h : i < 32) : (cs f n)[i]'hi = .int .u32 (f i) := by
  have := cs_get f n i h
  rw [Array.getElem?_eq_getElem hi] at this
  exact Option.some.inj this
theorem cs_len' (f : Nat → Int) (n : Int) (hi : 32 < (cs f n).size) : (cs f n)[32]'hi = .int .i64 n := by
  have := cs_len f n
  rw [Array.getElem?_eq_getElem hi] at this
  exact Option.some.inj this
attribute [go_sem] cs_size cs_one cs_get' cs_len' cs_set cs_setn
attribute [go_sem high] cs_get cs_len

/-- word i of x -/
def dgi (x i : Nat) : Int := dg 4294967296 x i
theorem dgi_pos (x i : Nat) : 0 ≤ dgi x i := by unfold dgi; omega
theorem dgi_lt (x i : Nat) : dgi x i < 4294967296 := by unfold dgi; have := dg_lt (by omega : 0 < 4294967296) x i; omega
theorem dgi_ge {x i : Nat} (h : dl 4294967296 x ≤ i) : dgi x i = 0 := by unfold dgi; rw [dg_ge (by omega) h]; rfl
/-- the cells of a natural number -/
def nat (x : Nat) : Array Value := cs (dgi x) (dl 4294967296 x : Nat)
theorem nat_eq {f : Nat → Int} {n : Int} {x : Nat} (hn : n = (dl 4294967296 x : Nat)) (h : ∀ i, i < 32 → f i = dgi x i) : cs f n = nat x := cs_ext h hn

theorem nat_size (x : Nat) : (nat x).size = 33 := cs_size _ _
theorem nat_one (x : Nat) : allOne (nat x) = true := cs_one _ _
theorem nat_len (x : Nat) : (nat x)[32]? = some (.int .i64 (dl 4294967296 x : Nat)) := cs_len _ _
theorem nat_len' (x : Nat) (hi : 32 < (nat x).size) : (nat x)[32]'hi = .int .i64 (dl 4294967296 x : Nat) := cs_len' _ _ hi
theorem nat_get (x i : Nat) (h : i < 32) : (nat x)[i]? = some (.int .u32 (dgi x i)) := cs_get _ _ _ h
theorem nat_get' (x i : Nat) (hi : i < (nat x).size) (h : i < 32) : (nat x)[i]'hi = .int .u32 (dgi x i) := cs_get' _ _ _ hi h
attribute [go_sem] nat_size nat_one nat_len' nat_get'
attribute [go_sem high] nat_len nat_get

theorem results_row {P : Program} {fn : Func} {p : Tmp} {ty : TypeId} {n : Nat} {d : TypeDesc} (h : fn.results = #[.cell p ty]) (hu : P.underlying ty = some d)
    (hd : (match d with | .struct _ | .array _ _ => true | _ => false) = true) (hi : (P.info? ty).map (·.size) = some n)
    {tmps : Array Value} {w : World} {a : Addr} {cs : Array Value} (hp : tmps.getD p undef = .pointer (some a)) (hr : rowAt w a n = some cs) : (results fn tmps).run P w = .ok (.agg cs) w := by
  have hp' : tmps[p]?.getD undef = .pointer (some a) := by simpa using hp
  simp [results, h, hp', asAddr, run_loadVar_rowAt hu hd hi hr]

theorem results_row_tmp {P : Program} {fn : Func} {p u : Tmp} {ty : TypeId} {n : Nat} {d : TypeDesc} (h : fn.results = #[.cell p ty, .tmp u]) (hu : P.underlying ty = some d)
    (hd : (match d with | .struct _ | .array _ _ => true | _ => false) = true) (hi : (P.info? ty).map (·.size) = some n)
    {tmps : Array Value} {w : World} {a : Addr} {cs : Array Value} {v : Value} (hp : tmps.getD p undef = .pointer (some a)) (hq : tmps.getD u undef = v) (hr : rowAt w a n = some cs) : (results fn tmps).run P w = .ok (.tuple #[.agg cs, v]) w := by
  have hp' : tmps[p]?.getD undef = .pointer (some a) := by simpa using hp
  have hq' : tmps[u]?.getD undef = v := by simpa using hq
  simp [results, h, hp', hq', asAddr, run_loadVar_rowAt hu hd hi hr]
theorem results_row_row {P : Program} {fn : Func} {p q : Tmp} {ty ty' : TypeId} {n n' : Nat} {d d' : TypeDesc} (h : fn.results = #[.cell p ty, .cell q ty']) (hu : P.underlying ty = some d)
    (hd : (match d with | .struct _ | .array _ _ => true | _ => false) = true) (hi : (P.info? ty).map (·.size) = some n) (hu' : P.underlying ty' = some d')
    (hd' : (match d' with | .struct _ | .array _ _ => true | _ => false) = true) (hi' : (P.info? ty').map (·.size) = some n')
    {tmps : Array Value} {w : World} {a b : Addr} {cs cs' : Array Value} (hp : tmps.getD p undef = .pointer (some a)) (hq : tmps.getD q undef = .pointer (some b)) (hr : rowAt w a n = some cs) (hr' : rowAt w b n' = some cs') :
    (results fn tmps).run P w = .ok (.tuple #[.agg cs, .agg cs']) w := by
  have hp' : tmps[p]?.getD undef = .pointer (some a) := by simpa using hp
  have hq' : tmps[q]?.getD undef = .pointer (some b) := by simpa using hq
  simp [results, h, hp', hq', asAddr, run_loadVar_rowAt hu hd hi hr, run_loadVar_rowAt hu' hd' hi' hr']

theorem alloc_cs_zero : #[Value.int .u32 0, Value.int .u32 0, Value.int .u32 0, Value.int .u32 0, Value.int .u32 0, Value.int .u32 0, Value.int .u32 0, Value.int .u32 0,
   Value.int .u32 0, Value.int .u32 0, Value.int .u32 0, Value.int .u32 0, Value.int .u32 0, Value.int .u32 0, Value.int .u32 0, Value.int .u32 0,
   Value.int .u32 0, Value.int .u32 0, Value.int .u32 0, Value.int .u32 0, Value.int .u32 0, Value.int .u32 0, Value.int .u32 0, Value.int .u32 0,
   Value.int .u32 0, Value.int .u32 0, Value.int .u32 0, Value.int .u32 0, Value.int .u32 0, Value.int .u32 0, Value.int .u32 0, Value.int .u32 0, Value.int .i64 0] = cs (fun _ => 0) 0 := by rfl
attribute [go_sem] alloc_cs_zero

/-! ### the laws of whole rows, at the types of this program -/
theorem loadVar_nat (a : Addr) : loadVar 110 a = loadRow 110 a := rfl
theorem storeVar_nat (a : Addr) (v : Value) : storeVar 110 a v = putRow 110 a v := rfl
theorem run_load_nat (a : Addr) (w : World) : (loadRow 110 a).run Tryz.prog w = rowRes (rowAt w a 33) w ((loadRow' 110 a).run Tryz.prog w) :=
  run_loadRow (d := (Tryz.prog.underlying 110).getD (.struct #[])) (by kernel_rfl) (by kernel_rfl) (by kernel_rfl) a w
theorem run_store_nat (a : Addr) (cs : Array Value) (w : World) : (putRow 110 a (.agg cs)).run Tryz.prog w = putRes (putAt w a cs) (allOne cs && decide (cs.size = 33)) ((putRow' 110 a (.agg cs)).run Tryz.prog w) :=
  run_putRow (by kernel_rfl) a cs w
attribute [go_sem ↓] loadVar_nat storeVar_nat
attribute [go_sem] run_load_nat run_store_nat
theorem ret_nat {fn : Func} {p : Tmp} (h : fn.results = #[.cell p 110]) {tmps : Array Value} {w : World} {a : Addr} {cs : Array Value} (hp : tmps.getD p undef = .pointer (some a)) (hr : rowAt w a 33 = some cs) :
    (results fn tmps).run Tryz.prog w = .ok (.agg cs) w :=
  results_row (d := (Tryz.prog.underlying 110).getD (.struct #[])) h (by kernel_rfl) (by kernel_rfl) (by kernel_rfl) hp hr
theorem ret_nat_tmp {fn : Func} {p u : Tmp} (h : fn.results = #[.cell p 110, .tmp u]) {tmps : Array Value} {w : World} {a : Addr} {cs : Array Value} {v : Value} (hp : tmps.getD p undef = .pointer (some a)) (hq : tmps.getD u undef = v) (hr : rowAt w a 33 = some cs) :
    (results fn tmps).run Tryz.prog w = .ok (.tuple #[.agg cs, v]) w :=
  results_row_tmp (d := (Tryz.prog.underlying 110).getD (.struct #[])) h (by kernel_rfl) (by kernel_rfl) (by kernel_rfl) hp hq hr
theorem ret_nat_nat {fn : Func} {p q : Tmp} (h : fn.results = #[.cell p 110, .cell q 110]) {tmps : Array Value} {w : World} {a b : Addr} {cs cs' : Array Value} (hp : tmps.getD p undef = .pointer (some a)) (hq : tmps.getD q undef = .pointer (some b))
    (hr : rowAt w a 33 = some cs) (hr' : rowAt w b 33 = some cs') : (results fn tmps).run Tryz.prog w = .ok (.tuple #[.agg cs, .agg cs']) w :=
  results_row_row (d := (Tryz.prog.underlying 110).getD (.struct #[])) (d' := (Tryz.prog.underlying 110).getD (.struct #[])) h (by kernel_rfl) (by kernel_rfl) (by kernel_rfl) (by kernel_rfl) (by kernel_rfl) (by kernel_rfl) hp hq hr hr'

end Go.Proofs.YtnohidkmjclojaaGreatDoor
