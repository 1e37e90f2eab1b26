/- The law's examples of ranges, reckoned: plain. -/
import Derived.Test.YtnohidkmjclojaaGreatDoorLawA
namespace Go.Proofs.YtnohidkmjclojaaGreatDoor
open Go.RowKit

theorem told_lit (m : Bool) (x y a b : Nat) (hx : x / Nat.gcd x y = a) (hy : y / Nat.gcd x y = b) (ha : a < 10) (hb : b < 10) :
    toldS m x y = ((if (m && decide (0 < a)) then [45, UInt8.ofNat (48 + a)] else [UInt8.ofNat (48 + a)], [UInt8.ofNat (48 + b)]), 0) := by
  unfold toldS
  rw [hx, hy, dd_small ha, dd_small hb, if_neg (by simp)]
  unfold sgnText
  rw [dd_small ha]
theorem ofs (a b : Int) (n d : Nat) (m : Bool) (h0 : b ≠ 0) (hm : (decide (a < 0) != decide (b < 0)) = m) (hx : (a.natAbs * 1) / Nat.gcd (a.natAbs * 1) (1 * b.natAbs) = n) (hy : (1 * b.natAbs) / Nat.gcd (a.natAbs * 1) (1 * b.natAbs) = d) (hn : n < 10) (hd : d < 10) :
    ofS a b = ((if (m && decide (0 < n)) then [45, UInt8.ofNat (48 + n)] else [UInt8.ofNat (48 + n)], [UInt8.ofNat (48 + d)]), 0) := by
  unfold ofS
  rw [if_neg h0, hm]
  exact told_lit _ _ _ _ _ hx hy hn hd
theorem of_m1 : ofS (-1) 1 = (([45, 49], [49]), 0) := ofs _ _ 1 1 true (by decide) (by decide) (by decide +kernel) (by decide +kernel) (by decide) (by decide)
theorem of_2 : ofS 2 1 = (([50], [49]), 0) := ofs _ _ 2 1 false (by decide) (by decide) (by decide +kernel) (by decide +kernel) (by decide) (by decide)
theorem of_3 : ofS 3 1 = (([51], [49]), 0) := ofs _ _ 3 1 false (by decide) (by decide) (by decide +kernel) (by decide +kernel) (by decide) (by decide)
theorem of_4 : ofS 4 1 = (([52], [49]), 0) := ofs _ _ 4 1 false (by decide) (by decide) (by decide +kernel) (by decide +kernel) (by decide) (by decide)
theorem of_1 : ofS 1 1 = (([49], [49]), 0) := ofs _ _ 1 1 false (by decide) (by decide) (by decide +kernel) (by decide +kernel) (by decide) (by decide)
theorem of_0 : ofS 0 1 = (([48], [49]), 0) := ofs _ _ 0 1 false (by decide) (by decide) (by decide +kernel) (by decide +kernel) (by decide) (by decide)
theorem of_13 : ofS 1 3 = (([49], [51]), 0) := ofs _ _ 1 3 false (by decide) (by decide) (by decide +kernel) (by decide +kernel) (by decide) (by decide)
theorem of_53 : ofS 5 3 = (([53], [51]), 0) := ofs _ _ 5 3 false (by decide) (by decide) (by decide +kernel) (by decide +kernel) (by decide) (by decide)
theorem of_12 : ofS 1 2 = (([49], [50]), 0) := ofs _ _ 1 2 false (by decide) (by decide) (by decide +kernel) (by decide +kernel) (by decide) (by decide)
theorem of_14 : ofS 1 4 = (([49], [52]), 0) := ofs _ _ 1 4 false (by decide) (by decide) (by decide +kernel) (by decide +kernel) (by decide) (by decide)

theorem ex_times : rangeS mulT [45, 49] [49] [50] [49] [51] [49] [52] [49] = ((([45, 52], [49]), ([56], [49])), 0) := by
  unfold rangeS
  rw [if_neg (by decide +kernel)]
  unfold spanS endsS
  rw [show bestOf ordT (-1) (lowT (mulT (ratT [45, 49] [49]) (ratT [51] [49]))) [lowT (mulT (ratT [45, 49] [49]) (ratT [52] [49])), lowT (mulT (ratT [50] [49]) (ratT [51] [49])), lowT (mulT (ratT [50] [49]) (ratT [52] [49]))] = (true, 4, 1) from by decide +kernel,
    show bestOf ordT 1 (lowT (mulT (ratT [45, 49] [49]) (ratT [51] [49]))) [lowT (mulT (ratT [45, 49] [49]) (ratT [52] [49])), lowT (mulT (ratT [50] [49]) (ratT [51] [49])), lowT (mulT (ratT [50] [49]) (ratT [52] [49]))] = (false, 8, 1) from by decide +kernel]
  unfold toldT
  rw [told_lit true 4 1 4 1 (by decide +kernel) (by decide +kernel) (by decide) (by decide), told_lit false 8 1 8 1 (by decide +kernel) (by decide +kernel) (by decide) (by decide)]
  decide
theorem ex_over : overS [49] [49] [50] [49] [45, 49] [49] [49] [49] = ((([], []), ([], [])), 20) := by
  unfold overS
  rw [if_neg (by decide +kernel), if_pos (by decide +kernel)]
theorem ex_round1 : roundS [49] [51] [49] [50] 1 = (([48], [49]), 0) := by
  unfold roundS
  rw [if_neg (by decide +kernel), if_neg (by decide +kernel)]
  have h : mulT (roundT (quoT (ratT [49] [51]) (ratT [49] [50])) 1) (ratT [49] [50]) = (false, 0, 2) := by decide +kernel
  dsimp only
  rw [h]
  rw [told_lit false 0 2 0 1 (by decide +kernel) (by decide +kernel) (by decide) (by decide)]
  decide
theorem ex_round2 : roundS [53] [51] [49] [50] 2 = (([50], [49]), 0) := by
  unfold roundS
  rw [if_neg (by decide +kernel), if_neg (by decide +kernel)]
  have h : mulT (roundT (quoT (ratT [53] [51]) (ratT [49] [50])) 2) (ratT [49] [50]) = (false, 4, 2) := by decide +kernel
  dsimp only
  rw [h]
  rw [told_lit false 4 2 2 1 (by decide +kernel) (by decide +kernel) (by decide) (by decide)]
  decide
theorem ex_outer : outerS [49] [51] [53] [51] [49] [50] = ((([48], [49]), ([50], [49])), 0) := by
  unfold outerS
  rw [if_neg (by decide +kernel), ex_round1, ex_round2, if_neg (by decide)]
theorem op_add {n d n' d' : List UInt8} {a b : List UInt8} {t : Tri} (hv : (validB n d && validB n' d') = true) (ht : addT (ratT n d) (ratT n' d') = t) (h0 : t.2.2 ≠ 0) (hr : toldS t.1 t.2.1 t.2.2 = ((a, b), 0)) : opS n d n' d' (addT (ratT n d) (ratT n' d')) = ((a, b), 0) := by
  unfold opS bothS
  rw [hv, ht, if_neg (by decide), if_neg h0, hr]
theorem ex_a1 : opS [48] [49] [49] [49] (addT (ratT [48] [49]) (ratT [49] [49])) = (([49], [49]), 0) :=
  op_add (t := (false, 1, 1)) (by decide +kernel) (by decide +kernel) (by decide) ((told_lit false 1 1 1 1 (by decide +kernel) (by decide +kernel) (by decide) (by decide)).trans (by decide))
theorem ex_a2 : opS [49] [49] [49] [49] (addT (ratT [49] [49]) (ratT [49] [49])) = (([50], [49]), 0) :=
  op_add (t := (false, 2, 1)) (by decide +kernel) (by decide +kernel) (by decide) ((told_lit false 2 1 2 1 (by decide +kernel) (by decide +kernel) (by decide) (by decide)).trans (by decide))
theorem ex_a3 : opS [50] [49] [49] [49] (addT (ratT [50] [49]) (ratT [49] [49])) = (([51], [49]), 0) :=
  op_add (t := (false, 3, 1)) (by decide +kernel) (by decide +kernel) (by decide) ((told_lit false 3 1 3 1 (by decide +kernel) (by decide +kernel) (by decide) (by decide)).trans (by decide))
theorem ex_b1 : opS [48] [49] [49] [50] (addT (ratT [48] [49]) (ratT [49] [50])) = (([49], [50]), 0) :=
  op_add (t := (false, 1, 2)) (by decide +kernel) (by decide +kernel) (by decide) ((told_lit false 1 2 1 2 (by decide +kernel) (by decide +kernel) (by decide) (by decide)).trans (by decide))
theorem ex_b2 : opS [49] [50] [49] [52] (addT (ratT [49] [50]) (ratT [49] [52])) = (([51], [52]), 0) :=
  op_add (t := (false, 6, 8)) (by decide +kernel) (by decide +kernel) (by decide) ((told_lit false 6 8 3 4 (by decide +kernel) (by decide +kernel) (by decide) (by decide)).trans (by decide))
theorem ex_b3 : opS [51] [52] [49] [52] (addT (ratT [51] [52]) (ratT [49] [52])) = (([49], [49]), 0) :=
  op_add (t := (false, 16, 16)) (by decide +kernel) (by decide +kernel) (by decide) ((told_lit false 16 16 1 1 (by decide +kernel) (by decide +kernel) (by decide) (by decide)).trans (by decide))
end Go.Proofs.YtnohidkmjclojaaGreatDoor
