/- What the walks are told of slices that came in; small lemmas on worlds and endings that all walks of this claim use. -/
import Derived.Test.YtokmnjepglagjaaProg
import Derived.WalkKit
import Derived.ProofKit
import Derived.OpenShut
import Derived.SliceStrings
import Derived.Deep.Grids
import Derived.Below
import Derived.Test.YtokmnjepglagjaaOwn
namespace Go.Proofs.Ytokmnjepglagjaa.Base
set_option linter.unusedVariables false
set_option linter.unusedSimpArgs false
open Go.RowKit Go.ChangeShapes Go.WideShapes Go.ChangeAt

/-- A slice value of numbers: 'l' are its elements; they lie at ⟨b, off + j⟩. -/
structure IntsAt (k : IntKind) (w : World) (a : Option Addr) (len cap b off : Nat) (l : List Int) : Prop where
  len_eq : len = l.length
  len_cap : len ≤ cap
  cap_max : cap ≤ maxLen
  addr : 0 < len → a = some ⟨b, off, none⟩ ∧ b < w.heap.size
  cell : ∀ j, j < len → w.cell? ⟨b, off + j, none⟩ = some (.int k (l.getD j 0))
  wf : ∀ n ∈ l, (Lit.int k n).wf = true

theorem intsAt_nil (k : IntKind) (w : World) : IntsAt k w none 0 0 0 0 [] :=
  ⟨rfl, Nat.le_refl _, by unfold maxLen; omega, fun h => by omega, fun j h => by omega, fun n h => by simp at h⟩

theorem intsAt_some {k : IntKind} {w : World} {x : Addr} {len cap : Nat} {zs : List Int} (hl : len ≤ cap) (hm : cap ≤ maxLen) (hz : zs.length = cap)
    (hcell : ∀ i, i < zs.length → w.cell? (x.add i) = some (.int k (zs.getD i 0))) (hwf : ∀ n ∈ zs, (Lit.int k n).wf = true) :
    ∃ b off, IntsAt k w (some x) len cap b off (zs.take len) := by
  by_cases h0 : len = 0
  · subst h0
    exact ⟨0, 0, by simp, hl, hm, fun h => by omega, fun j h => by omega, fun n h => by simp at h⟩
  · obtain ⟨b, off, rfl, hc⟩ := ints_at hcell (by omega)
    refine ⟨b, off, by simp; omega, hl, hm, fun _ => ⟨rfl, World.block_lt_of_cell? _ _ (hc 0 (by omega))⟩, fun j h => ?_, fun n h => hwf n (List.mem_of_mem_take h)⟩
    rw [hc j (by omega)]
    simp [List.getD_eq_getElem?_getD, List.getElem?_take, h]

theorem wf_i64_bounds {n : Int} (h : (Lit.int .i64 n).wf = true) : -9223372036854775808 ≤ n ∧ n ≤ 9223372036854775807 := bounds_i64 h
theorem wf_u8_bounds {n : Int} (h : (Lit.int .u8 n).wf = true) : 0 ≤ n ∧ n ≤ 255 := bounds_u8 h

theorem IntsAt.get {k : IntKind} {w : World} {a : Option Addr} {len cap b off : Nat} {l : List Int} (h : IntsAt k w a len cap b off l) {j : Nat} (hj : j < len) :
    ∃ x, l[j]? = some x ∧ (Lit.int k x).wf = true ∧ w.cell? ⟨b, off + j, none⟩ = some (.int k x) ∧ a = some ⟨b, off, none⟩ ∧ b < w.heap.size := by
  have hj' : j < l.length := by have := h.len_eq; omega
  obtain ⟨ha, hb⟩ := h.addr (by omega)
  refine ⟨l[j], List.getElem?_eq_getElem hj', h.wf _ (List.getElem_mem hj'), ?_, ha, hb⟩
  rw [h.cell j hj]
  simp [List.getD_eq_getElem?_getD, List.getElem?_eq_getElem hj']

theorem IntsAt.small {k : IntKind} {w : World} {a : Option Addr} {len cap b off : Nat} {l : List Int} (h : IntsAt k w a len cap b off l) : len ≤ 9223372036854775807 := by
  have h1 := h.len_cap
  have h2 := h.cap_max
  unfold maxLen at h2
  omega

theorem IntsAt.later {k : IntKind} {w w' : World} {a : Option Addr} {len cap b off : Nat} {l : List Int} {B : Nat} (h : IntsAt k w a len cap b off l) (hb : Below B w w') (hB : w.heap.size ≤ B) : IntsAt k w' a len cap b off l :=
  ⟨h.len_eq, h.len_cap, h.cap_max, fun h0 => ⟨(h.addr h0).1, Nat.lt_of_lt_of_le (h.addr h0).2 hb.size⟩, fun j hj => by
    rw [hb.cell (p := ⟨b, off + j, none⟩) (Nat.lt_of_lt_of_le (h.addr (by omega)).2 hB)]; exact h.cell j hj, h.wf⟩

/-- A slice value of bools, of strings. -/
structure BoolsAt (w : World) (a : Option Addr) (len cap b off : Nat) (l : List Bool) : Prop where
  len_eq : len = l.length
  len_cap : len ≤ cap
  cap_max : cap ≤ maxLen
  addr : 0 < len → a = some ⟨b, off, none⟩ ∧ b < w.heap.size
  cell : ∀ (j : Nat) (x : Bool), l[j]? = some x → w.cell? ⟨b, off + j, none⟩ = some (.bool x)
structure StrsAt (w : World) (a : Option Addr) (len cap b off : Nat) (l : List ByteArray) : Prop where
  len_eq : len = l.length
  len_cap : len ≤ cap
  cap_max : cap ≤ maxLen
  addr : 0 < len → a = some ⟨b, off, none⟩ ∧ b < w.heap.size
  cell : ∀ (j : Nat) (x : ByteArray), l[j]? = some x → w.cell? ⟨b, off + j, none⟩ = some (.string x)
  small : ∀ x ∈ l, x.size ≤ maxLen

theorem boolsAt_nil (w : World) : BoolsAt w none 0 0 0 0 [] :=
  ⟨rfl, Nat.le_refl _, by unfold maxLen; omega, fun h => by omega, fun j x h => by simp at h⟩
theorem strsAt_nil (w : World) : StrsAt w none 0 0 0 0 [] :=
  ⟨rfl, Nat.le_refl _, by unfold maxLen; omega, fun h => by omega, fun j x h => by simp at h, fun x h => by simp at h⟩

theorem addr_plain {w : World} {x : Addr} {v : Value} (h : w.cell? (x.add 0) = some v) : ∃ b off, x = ⟨b, off, none⟩ := by
  obtain ⟨b, off, spot⟩ := x
  have hspot : spot = none := by simpa [Addr.add] using World.cell?_spot h
  subst hspot
  exact ⟨b, off, rfl⟩

theorem boolsAt_some {w : World} {x : Addr} {len cap : Nat} {B : Nat → Bool} (hl : len ≤ cap) (hm : cap ≤ maxLen) (hcell : ∀ i, i < cap → w.cell? (x.add i) = some (.bool (B i))) :
    ∃ b off, BoolsAt w (some x) len cap b off ((List.range len).map B) := by
  by_cases h0 : len = 0
  · subst h0
    exact ⟨0, 0, by simp, hl, hm, fun h => by omega, fun j x h => by simp at h⟩
  · obtain ⟨b, off, rfl⟩ := addr_plain (hcell 0 (by omega))
    refine ⟨b, off, by simp, hl, hm, fun _ => ⟨rfl, World.block_lt_of_cell? _ _ (hcell 0 (by omega))⟩, fun j x h => ?_⟩
    have hj : j < len := by have := (List.getElem?_eq_some_iff.1 h).1; simpa using this
    have := hcell j (by omega)
    rw [Addr.add_lit] at this
    rw [this]
    simp [hj] at h
    rw [h]
theorem strsAt_some {w : World} {x : Addr} {len cap : Nat} {ss : List ByteArray} (hl : len ≤ cap) (hm : cap ≤ maxLen) (hz : ss.length = cap)
    (hcell : ∀ i, i < ss.length → w.cell? (x.add i) = some (.string (ss.getD i ByteArray.empty))) (hws : ∀ s ∈ ss, s.size ≤ maxLen) :
    ∃ b off, StrsAt w (some x) len cap b off (ss.take len) := by
  by_cases h0 : len = 0
  · subst h0
    exact ⟨0, 0, by simp, hl, hm, fun h => by omega, fun j x h => by simp at h, fun x h => by simp at h⟩
  · obtain ⟨b, off, rfl⟩ := addr_plain (hcell 0 (by omega))
    refine ⟨b, off, by simp; omega, hl, hm, fun _ => ⟨rfl, World.block_lt_of_cell? _ _ (hcell 0 (by omega))⟩, fun j x h => ?_, fun x h => hws x (List.mem_of_mem_take h)⟩
    have hj : j < len := by have := (List.getElem?_eq_some_iff.1 h).1; simp at this; omega
    have := hcell j (by omega)
    rw [Addr.add_lit] at this
    rw [this]
    rw [List.getElem?_take] at h
    simp [hj] at h
    simp [List.getD_eq_getElem?_getD, h]
theorem BoolsAt.get {w : World} {a : Option Addr} {len cap b off : Nat} {l : List Bool} (h : BoolsAt w a len cap b off l) {j : Nat} (hj : j < len) :
    ∃ x, l[j]? = some x ∧ w.cell? ⟨b, off + j, none⟩ = some (.bool x) ∧ a = some ⟨b, off, none⟩ ∧ b < w.heap.size := by
  obtain ⟨ha, hb⟩ := h.addr (by omega)
  have hj' : j < l.length := by have := h.len_eq; omega
  have hx : l[j]? = some l[j] := List.getElem?_eq_getElem hj'
  exact ⟨_, hx, h.cell j _ hx, ha, hb⟩
theorem StrsAt.get {w : World} {a : Option Addr} {len cap b off : Nat} {l : List ByteArray} (h : StrsAt w a len cap b off l) {j : Nat} (hj : j < len) :
    ∃ x, l[j]? = some x ∧ x.size ≤ maxLen ∧ w.cell? ⟨b, off + j, none⟩ = some (.string x) ∧ a = some ⟨b, off, none⟩ ∧ b < w.heap.size := by
  obtain ⟨ha, hb⟩ := h.addr (by omega)
  have hj' : j < l.length := by have := h.len_eq; omega
  have hx : l[j]? = some l[j] := List.getElem?_eq_getElem hj'
  exact ⟨_, hx, h.small _ (List.getElem_mem _), h.cell j _ hx, ha, hb⟩

theorem ret_int {k : IntKind} {a b : Int} (h : a = b) : Ending.returned (.int k a) = .returned (.int k b) := by rw [h]
theorem ret_bool {a b : Bool} (h : a = b) : Ending.returned (.bool a) = .returned (.bool b) := by rw [h]
theorem val_int {k : IntKind} {a b : Int} (h : a = b) : Value.int k a = .int k b := by rw [h]

theorem IntsAt.at {k : IntKind} {w : World} {a : Option Addr} {len cap b off : Nat} {l : List Int} (h : IntsAt k w a len cap b off l) : Hp.SliceAt w (.slice a len cap) (l.map (Value.int k)) := by
  have h1 := h.len_eq
  have h2 := h.len_cap
  have h3 := h.cap_max
  refine ⟨a, cap, by simp [h1], by simp; omega, ?_⟩
  by_cases h0 : len = 0
  · left
    have : l = [] := List.eq_nil_of_length_eq_zero (by omega)
    simp [this]
  · right
    refine ⟨b, off, (h.addr (by omega)).1, fun j u hu => ?_⟩
    rw [List.getElem?_map] at hu
    cases hl : l[j]? with
    | none => simp [hl] at hu
    | some x =>
      simp [hl] at hu
      subst hu
      have hj : j < l.length := (List.getElem?_eq_some_iff.1 hl).1
      rw [h.cell j (by omega)]
      simp [List.getD_eq_getElem?_getD, hl]

end Go.Proofs.Ytokmnjepglagjaa.Base
