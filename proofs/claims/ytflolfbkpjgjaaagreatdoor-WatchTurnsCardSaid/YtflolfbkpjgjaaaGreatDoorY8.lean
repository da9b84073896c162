/- What the proofs lean on, part 8: contracts of the functions that all the laws reach, and the plain words for them. -/
import Derived.Test.YtflolfbkpjgjaaaGreatDoorRows
import Derived.WalkKit
import Derived.ProofKit
import Derived.OpenShut
import Derived.Deep.DeepHandedRow
import Derived.Deep.Matrix
import Derived.Lib.LaidTab
import Derived.Stop.LaidErr
import Derived.MakeChecks
import Derived.Deep.DeepLaidRun
import Derived.Test.YtflolfbkpjgjaaaGreatDoorY7
set_option linter.unusedVariables false
set_option linter.unusedSimpArgs false
section
namespace Go.Proofs.YtflolfbkpjgjaaaGreatDoor
open Go.ChangeShapes Go.WideShapes Go.ChangeAt Go.RowKit Go.Deep Go.Proofs.YtflolfbkpjgjaaaGreatDoorW.PrintWords
theorem cells3 : Tryz.prog.cellsOf 3 = 1 := by kernel_rfl
theorem cells22 : Tryz.prog.cellsOf 22 = 1 := by kernel_rfl
theorem cells23 : Tryz.prog.cellsOf 23 = 1 := by kernel_rfl
theorem cells25 : Tryz.prog.cellsOf 25 = 5 := by kernel_rfl
theorem cells26 : Tryz.prog.cellsOf 26 = 1 := by kernel_rfl
theorem cells45 : Tryz.prog.cellsOf 45 = 6 := by kernel_rfl
theorem maxLen_le : maxLen ≤ 9223372036854775807 := by decide
theorem kC_of {α : Type} {d : Kd α} {W : World} {ad : Addr} {xs : List α} (hb : xs.length ≤ 9223372036854775807)
    (h : ∀ (j : Nat) (p : α), xs[j]? = some p → ∃ c, c.length = d.sz ∧ d.K W p c ∧ ∀ i u, c[i]? = some u → W.cell? (ad.add (j * d.sz + i)) = some u) : Kd.C d W (some ad) xs.length xs :=
  ⟨rfl, hb, fun _ => ⟨ad, rfl, h⟩⟩
theorem ci_of_cells {W : World} {ad : Addr} {xs : List Int} (hb : xs.length ≤ 9223372036854775807) (h : ∀ i, i < xs.length → W.cell? (ad.add i) = some (.int .i64 (xs.getD i 0))) : CI W (some ad) xs.length xs := by
  refine kC_of hb (fun j p hj => ⟨[.int .i64 p], rfl, rfl, fun i u hu => ?_⟩)
  have hi : i = 0 := by
    have := (List.getElem?_eq_some_iff.1 hu).1
    simp at this
    exact this
  subst hi
  have hu' : Value.int .i64 p = u := by simpa using hu
  subst hu'
  rw [show (Kd.int .i64).sz = 1 from rfl, Nat.mul_one, Nat.add_zero]
  have hl := (List.getElem?_eq_some_iff.1 hj).1
  rw [h j hl, List.getD_eq_getElem?_getD, hj]
  rfl
theorem getD_take {xs : List Int} {i n : Nat} (h : i < n) : (xs.take n).getD i 0 = xs.getD i 0 := by
  rw [List.getD_eq_getElem?_getD, List.getD_eq_getElem?_getD, List.getElem?_take, if_pos h]
section
variable {H : Type} {enc : TypeId × Value → H} {W : World} {base : Nat}
theorem ints_of_trod {fuel : Nat} {cs : List Value} {x : DataW H × List MemPlace} (h : DataW.trod enc Tryz.prog W base (fun _ => true) true fuel 26 cs = some x) : ∃ v xs, cs = [v] ∧ IntsAt W v xs := by
  rcases open_ints Tryz.underlying26 Tryz.underlying3 cells3 h with ⟨rfl, _⟩ | ⟨a, len, cap, zs, rfl, _, hl, hm, hz, _, hc, _⟩
  · exact ⟨_, [], rfl, none, 0, rfl, Nat.le_refl _, Kd.C_nil _ W⟩
  · simp only [if_true] at hz
    have hlen : (zs.take len).length = len := by rw [List.length_take]; omega
    have hmx := maxLen_le
    refine ⟨_, zs.take len, rfl, some a, cap, by rw [hlen], by omega, ci_of_cells (by omega) (fun i hi => ?_)⟩
    rw [getD_take (by omega)]
    exact hc i (by omega)
theorem rows_of_trod {fuel : Nat} {cs : List Value} {x : DataW H × List MemPlace} (h : DataW.trod enc Tryz.prog W base (fun _ => true) true fuel 22 cs = some x) :
    ∃ A c xs, cs = [.slice A xs.length c] ∧ xs.length ≤ c ∧ CII W A xs.length xs := by
  rcases open_int_rows Tryz.underlying22 Tryz.underlying26 Tryz.underlying3 cells26 cells3 h with ⟨rfl, _⟩ | ⟨a, len, cap, A, L, C, Z, rfl, _, hl, hm, _, hr⟩
  · exact ⟨none, 0, [], rfl, Nat.le_refl _, Kd.C_nil _ W⟩
  · have hmx := maxLen_le
    have hlen : ((List.range len).map fun r => (Z r).take (L r)).length = len := by simp
    refine ⟨some a, cap, (List.range len).map fun r => (Z r).take (L r), by rw [hlen], by omega, kC_of (by omega) (fun j p hj => ?_)⟩
    have hj' : j < len := by have := (List.getElem?_eq_some_iff.1 hj).1; omega
    have hp : p = (Z j).take (L j) := by
      rw [List.getElem?_map, List.getElem?_range hj'] at hj
      simpa using hj.symm
    subst hp
    obtain ⟨h1, h2, h3, h4, _, h6, h7⟩ := hr j (by omega)
    have hpl : ((Z j).take (L j)).length = L j := by rw [List.length_take]; omega
    refine ⟨[.slice (A j) (L j) (C j)], rfl, ⟨A j, C j, by rw [hpl], by omega, ?_⟩, fun i u hu => ?_⟩
    · cases hA : A j with
      | none =>
        have hz : (Z j).take (L j) = [] := by
          have := h6 hA
          apply List.eq_nil_of_length_eq_zero
          omega
        rw [hz]
        exact Kd.C_nil _ W
      | some a' =>
        refine ci_of_cells (by omega) (fun i hi => ?_)
        rw [getD_take (by omega)]
        exact (h7 a' hA).2 i (by omega)
    · have hi : i = 0 := by
        have := (List.getElem?_eq_some_iff.1 hu).1
        simp at this
        exact this
      subst hi
      have hu' : Value.slice (A j) (L j) (C j) = u := by simpa using hu
      subst hu'
      rw [show (Kd.slice 3 (Kd.int .i64)).sz = 1 from rfl, Nat.mul_one, Nat.add_zero]
      exact h1
theorem int_of_trod {fuel : Nat} {cs : List Value} {x : DataW H × List MemPlace} {sp : Nat → Bool} (h : DataW.trod enc Tryz.prog W base sp true fuel 3 cs = some x) : ∃ n, cs = [.int .i64 n] ∧ (Lit.int .i64 n).wf = true := by
  obtain ⟨n, e, _, hw⟩ := DataW.trod_int Tryz.underlying3 h
  exact ⟨n, e, hw⟩
theorem six {α : Type} {l : List α} (h : l.length = 6) : ∃ a b c d e f, l = [a, b, c, d, e, f] := by
  match l, h with
  | [a, b, c, d, e, f], _ => exact ⟨a, b, c, d, e, f, rfl⟩
theorem five {α : Type} {l : List α} (h : l.length = 5) : ∃ a b c d e, l = [a, b, c, d, e] := by
  match l, h with
  | [a, b, c, d, e], _ => exact ⟨a, b, c, d, e, rfl⟩
set_option maxRecDepth 100000 in
theorem turn_of_trod {fuel : Nat} {cs : List Value} {x : DataW H × List MemPlace} {sp : Nat → Bool} (h : DataW.trod enc Tryz.prog W base sp true fuel 45 cs = some x) :
    ∃ t : Trn, cs = [.int .i64 t.gate, .int .i64 t.clock, .int .i64 t.frm, .int .i64 t.clock2, .int .i64 t.til, .int .i64 t.cost] := by
  obtain ⟨xs, n, _, _, hl, hxl, hf⟩ := DataW.trod_struct Tryz.underlying45 h
  rw [cells45] at hl
  obtain ⟨a0, a1, a2, a3, a4, a5, rfl⟩ := six hl
  obtain ⟨x0, x1, x2, x3, x4, x5, rfl⟩ := six (l := xs) hxl
  have c3 : Tryz.prog.cellsOf 3 = 1 := cells3
  have f0 : DataW.trod enc Tryz.prog W base sp true n 3 [a0] = some x0 := by
    have h := hf 0 _ rfl
    change DataW.trod enc Tryz.prog W base sp true n 3 (([a0, a1, a2, a3, a4, a5].drop 0).take (Tryz.prog.cellsOf 3)) = some x0 at h
    rw [c3] at h
    exact h
  have f1 : DataW.trod enc Tryz.prog W base sp true n 3 [a1] = some x1 := by
    have h := hf 1 _ rfl
    change DataW.trod enc Tryz.prog W base sp true n 3 (([a0, a1, a2, a3, a4, a5].drop 1).take (Tryz.prog.cellsOf 3)) = some x1 at h
    rw [c3] at h
    exact h
  have f2 : DataW.trod enc Tryz.prog W base sp true n 3 [a2] = some x2 := by
    have h := hf 2 _ rfl
    change DataW.trod enc Tryz.prog W base sp true n 3 (([a0, a1, a2, a3, a4, a5].drop 2).take (Tryz.prog.cellsOf 3)) = some x2 at h
    rw [c3] at h
    exact h
  have f3 : DataW.trod enc Tryz.prog W base sp true n 3 [a3] = some x3 := by
    have h := hf 3 _ rfl
    change DataW.trod enc Tryz.prog W base sp true n 3 (([a0, a1, a2, a3, a4, a5].drop 3).take (Tryz.prog.cellsOf 3)) = some x3 at h
    rw [c3] at h
    exact h
  have f4 : DataW.trod enc Tryz.prog W base sp true n 3 [a4] = some x4 := by
    have h := hf 4 _ rfl
    change DataW.trod enc Tryz.prog W base sp true n 3 (([a0, a1, a2, a3, a4, a5].drop 4).take (Tryz.prog.cellsOf 3)) = some x4 at h
    rw [c3] at h
    exact h
  have f5 : DataW.trod enc Tryz.prog W base sp true n 3 [a5] = some x5 := by
    have h := hf 5 _ rfl
    change DataW.trod enc Tryz.prog W base sp true n 3 (([a0, a1, a2, a3, a4, a5].drop 5).take (Tryz.prog.cellsOf 3)) = some x5 at h
    rw [c3] at h
    exact h
  obtain ⟨n0, e0, _⟩ := int_of_trod f0
  obtain ⟨n1, e1, _⟩ := int_of_trod f1
  obtain ⟨n2, e2, _⟩ := int_of_trod f2
  obtain ⟨n3, e3, _⟩ := int_of_trod f3
  obtain ⟨n4, e4, _⟩ := int_of_trod f4
  obtain ⟨n5, e5, _⟩ := int_of_trod f5
  simp only [List.cons.injEq, and_true] at e0 e1 e2 e3 e4 e5
  subst e0 e1 e2 e3 e4 e5
  exact ⟨⟨n0, n1, n2, n3, n4, n5⟩, rfl⟩
instance : Inhabited Trn := ⟨Trn.z⟩
theorem mapM_get {α β : Type} {f : α → Option β} : ∀ {l : List α} {r : List β}, l.mapM f = some r → ∀ (i : Nat) (a : α), l[i]? = some a → ∃ b, r[i]? = some b ∧ f a = some b := Lib.mapM_at
theorem cell_of_cells {a : Addr} {n : Nat} {cs : List Value} (h : W.cells? base a n = some cs) (i : Nat) (u : Value) (hu : cs[i]? = some u) (hi : i < n) : W.cell? (a.add i) = some u := by
  unfold World.cells? at h
  split at h
  · obtain ⟨b, hb, hc⟩ := mapM_get h i i (List.getElem?_range hi)
    rw [hu] at hb
    obtain rfl := Option.some.inj hb
    exact hc
  · simp at h
theorem turns_of_trod {fuel : Nat} {cs : List Value} {x : DataW H × List MemPlace} (h : DataW.trod enc Tryz.prog W base (fun _ => true) true fuel 23 cs = some x) :
    ∃ A c xs, cs = [.slice A xs.length c] ∧ xs.length ≤ c ∧ CT W A xs.length xs := by
  rcases open_slice Tryz.underlying23 h with ⟨rfl, _⟩ | ⟨a, len, cap, m, n, D, Pl, rfl, _, hl, hm, hmm, _, hx⟩
  · exact ⟨none, 0, [], rfl, Nat.le_refl _, Kd.C_nil _ W⟩
  · simp only [if_true] at hmm
    subst hmm
    have hmx := maxLen_le
    rw [cells45] at hx
    have hx' : ∀ i, i < m → ∃ t : Trn, ∀ k u, ([.int .i64 t.gate, .int .i64 t.clock, .int .i64 t.frm, .int .i64 t.clock2, .int .i64 t.til, .int .i64 t.cost] : List Value)[k]? = some u → W.cell? (a.add (i * 6 + k)) = some u := by
      intro i hi
      obtain ⟨cs', h1, h2⟩ := hx i hi
      obtain ⟨t, rfl⟩ := turn_of_trod h2
      refine ⟨t, fun k u hu => ?_⟩
      have hk : k < 6 := by have := (List.getElem?_eq_some_iff.1 hu).1; simpa using this
      have := cell_of_cells h1 k u hu hk
      rwa [show (a.add (i * 6)).add k = a.add (i * 6 + k) from Go.Deep.add_add a (i * 6) k] at this
    obtain ⟨T, hT⟩ := choose_lt hx'
    have hlen : ((List.range len).map T).length = len := by simp
    refine ⟨some a, m, (List.range len).map T, by rw [hlen], by omega, kC_of (by omega) (fun j p hj => ?_)⟩
    have hj' : j < len := by have := (List.getElem?_eq_some_iff.1 hj).1; omega
    have hp : p = T j := by
      rw [List.getElem?_map, List.getElem?_range hj'] at hj
      simpa using hj.symm
    subst hp
    exact ⟨_, rfl, kTrn_mk W (T j), fun i u hu => hT j (by omega) i u hu⟩
set_option maxRecDepth 100000 in
theorem open_ros {b0 : Nat} {v : Value} {d : DataW H} {p : List MemPlace} (hv : Value.okWide Tryz.prog W .any b0 25 v) (h : DataW.Trod enc Tryz.prog W base (fun _ => true) true 25 v d p) : ∃ r, RosAt W v r := by
  obtain ⟨cs, rfl, hsz⟩ := okWide_struct Tryz.underlying25 hv
  rw [cells25] at hsz
  obtain ⟨l⟩ := cs
  obtain ⟨fuel, hf0⟩ := h
  obtain ⟨xs, n, _, _, hl, hxl, hf⟩ := DataW.trod_struct Tryz.underlying25 hf0
  obtain ⟨a0, a1, a2, a3, a4, rfl⟩ := five (l := l) (by simpa using hsz)
  obtain ⟨x0, x1, x2, x3, x4, rfl⟩ := five (l := xs) hxl
  have c3 : Tryz.prog.cellsOf 3 = 1 := cells3
  have c22 : Tryz.prog.cellsOf 22 = 1 := cells22
  have c23 : Tryz.prog.cellsOf 23 = 1 := cells23
  have f0 : DataW.trod enc Tryz.prog W base (fun _ => true) true n 3 [a0] = some x0 := by
    have h := hf 0 _ rfl
    change DataW.trod enc Tryz.prog W base (fun _ => true) true n 3 ((([a0, a1, a2, a3, a4] : List Value).drop 0).take (Tryz.prog.cellsOf 3)) = some x0 at h
    rw [c3] at h
    exact h
  have f1 : DataW.trod enc Tryz.prog W base (fun _ => true) true n 3 [a1] = some x1 := by
    have h := hf 1 _ rfl
    change DataW.trod enc Tryz.prog W base (fun _ => true) true n 3 ((([a0, a1, a2, a3, a4] : List Value).drop 1).take (Tryz.prog.cellsOf 3)) = some x1 at h
    rw [c3] at h
    exact h
  have f2 : DataW.trod enc Tryz.prog W base (fun _ => true) true n 3 [a2] = some x2 := by
    have h := hf 2 _ rfl
    change DataW.trod enc Tryz.prog W base (fun _ => true) true n 3 ((([a0, a1, a2, a3, a4] : List Value).drop 2).take (Tryz.prog.cellsOf 3)) = some x2 at h
    rw [c3] at h
    exact h
  have f3 : DataW.trod enc Tryz.prog W base (fun _ => true) true n 22 [a3] = some x3 := by
    have h := hf 3 _ rfl
    change DataW.trod enc Tryz.prog W base (fun _ => true) true n 22 ((([a0, a1, a2, a3, a4] : List Value).drop 3).take (Tryz.prog.cellsOf 22)) = some x3 at h
    rw [c22] at h
    exact h
  have f4 : DataW.trod enc Tryz.prog W base (fun _ => true) true n 23 [a4] = some x4 := by
    have h := hf 4 _ rfl
    change DataW.trod enc Tryz.prog W base (fun _ => true) true n 23 ((([a0, a1, a2, a3, a4] : List Value).drop 4).take (Tryz.prog.cellsOf 23)) = some x4 at h
    rw [c23] at h
    exact h
  obtain ⟨n0, e0, _⟩ := int_of_trod f0
  obtain ⟨n1, e1, _⟩ := int_of_trod f1
  obtain ⟨n2, e2, _⟩ := int_of_trod f2
  obtain ⟨A, c, ah, e3, h31, h32⟩ := rows_of_trod f3
  obtain ⟨T, d', tu, e4, h41, h42⟩ := turns_of_trod f4
  simp only [List.cons.injEq, and_true] at e0 e1 e2 e3 e4
  subst e0 e1 e2 e3 e4
  exact ⟨⟨n0, n1, n2, ah, tu⟩, A, c, T, d', rfl, h31, h41, h32, h42⟩
set_option maxRecDepth 100000 in
theorem open_intsAt {b0 : Nat} {v : Value} {d : DataW H} {p : List MemPlace} (hv : Value.okWide Tryz.prog W .any b0 26 v) (h : DataW.Trod enc Tryz.prog W base (fun _ => true) true 26 v d p) : ∃ xs, IntsAt W v xs := by
  obtain ⟨a, len, cap, rfl⟩ := okWide_slice Tryz.underlying26 hv
  obtain ⟨fuel, hf⟩ := h
  obtain ⟨v', xs, e, h1⟩ := ints_of_trod hf
  simp only [Value.cells, List.cons.injEq, and_true] at e
  subst e
  exact ⟨xs, h1⟩
end
theorem laid_tab {W : World} (h : laidMetH Tryz.prog [("math/bits.deBruijn32tab", Rows.laid_math_bits_deBruijn32tab), ("math/bits.deBruijn64tab", Rows.laid_math_bits_deBruijn64tab), ("internal/strconv.uint64pow10", Rows.laid_internal_strconv_uint64pow10)] W) : TabP W := by
  rw [MakeChecks.laidMetH_plain _ _ _ (by kernel_rfl)] at h
  exact Lib.tabIs_of_head (rest := []) (g := 2) (t := 191) (e := 158) (n := 20) (by kernel_rfl) (by kernel_rfl) (by kernel_rfl) (by kernel_rfl) (by kernel_rfl) (by kernel_rfl) (h.tail.tail)
end Go.Proofs.YtflolfbkpjgjaaaGreatDoor
end
section
namespace Go.Proofs.YtflolfbkpjgjaaaGreatDoor
open Go.RowKit Go.Proofs.YtflolfbkpjgjaaaGreatDoorW.PrintWords
theorem band {a b : Bool} (ha : a = true) (hb : b = true) : (a && b) = true := by rw [ha, hb]; rfl
def layC (cs : Array Value) : Obj → Obj
  | .cells _ t frozen => .cells cs t frozen
  | o => o
def tab32 : Array Value := #[.int .u8 0, .int .u8 1, .int .u8 28, .int .u8 2, .int .u8 29, .int .u8 14, .int .u8 24, .int .u8 3, .int .u8 30, .int .u8 22, .int .u8 20, .int .u8 15, .int .u8 25, .int .u8 17, .int .u8 4, .int .u8 8, .int .u8 31, .int .u8 27, .int .u8 13, .int .u8 23, .int .u8 21, .int .u8 19, .int .u8 16, .int .u8 7, .int .u8 26, .int .u8 12, .int .u8 18, .int .u8 6, .int .u8 11, .int .u8 5, .int .u8 10, .int .u8 9]
def tab64 : Array Value := #[.int .u8 0, .int .u8 1, .int .u8 56, .int .u8 2, .int .u8 57, .int .u8 49, .int .u8 28, .int .u8 3, .int .u8 61, .int .u8 58, .int .u8 42, .int .u8 50, .int .u8 38, .int .u8 29, .int .u8 17, .int .u8 4, .int .u8 62, .int .u8 47, .int .u8 59, .int .u8 36, .int .u8 45, .int .u8 43, .int .u8 51, .int .u8 22, .int .u8 53, .int .u8 39, .int .u8 33, .int .u8 30, .int .u8 24, .int .u8 18, .int .u8 12, .int .u8 5, .int .u8 63, .int .u8 55, .int .u8 48, .int .u8 27, .int .u8 60, .int .u8 41, .int .u8 37, .int .u8 16, .int .u8 46, .int .u8 35, .int .u8 44, .int .u8 21, .int .u8 52, .int .u8 32, .int .u8 23, .int .u8 11, .int .u8 54, .int .u8 26, .int .u8 40, .int .u8 15, .int .u8 34, .int .u8 20, .int .u8 31, .int .u8 10, .int .u8 25, .int .u8 14, .int .u8 19, .int .u8 9, .int .u8 13, .int .u8 8, .int .u8 7, .int .u8 6]
def tab10 : Array Value := #[.int .u64 1, .int .u64 10, .int .u64 100, .int .u64 1000, .int .u64 10000, .int .u64 100000, .int .u64 1000000, .int .u64 10000000, .int .u64 100000000, .int .u64 1000000000, .int .u64 10000000000, .int .u64 100000000000, .int .u64 1000000000000, .int .u64 10000000000000, .int .u64 100000000000000, .int .u64 1000000000000000, .int .u64 10000000000000000, .int .u64 100000000000000000, .int .u64 1000000000000000000, .int .u64 10000000000000000000]
end Go.Proofs.YtflolfbkpjgjaaaGreatDoor
end
section
namespace Go.Proofs.YtflolfbkpjgjaaaGreatDoor
open Go.RowKit Go.Proofs.YtflolfbkpjgjaaaGreatDoorW.PrintWords Go.Proofs.YtflolfbkpjgjaaaGreatDoorW.PrintMore
theorem below_al {w w' : World} {o : Obj} (h : Below (w.alloc o).heap.size (w.alloc o) w') : Below w.heap.size w w' :=
  below_step (below_alloc (Below.refl w.heap.size w) o) h
end Go.Proofs.YtflolfbkpjgjaaaGreatDoor
end
