/- Part 2 of the walks over the program's functions, and of the plain laws, that the claim's last text joins: ModSlots ModTurn ModEv ModLeased ModHas Conf Clock ModM RangeC ModFits ModFirst RingBool World WorldNext ModAt Reg LifeMark LifeBrk LifeOpen LifeShut Ref07. -/
import Derived.Test.YtpmkgddjgebojaaGreatDoorA1
import Derived.Test.YtpmkgddjgebojaaGreatDoorProg
import Derived.WalkKit
import Derived.ProofKit
import Derived.Deep.QuietTactic
import Derived.BigQuiet
import Derived.Below
import Derived.Deep.RegionWith
import Derived.Lib.Hide
import Derived.Deep.RegionHeld3
import Derived.Deep.MidRow
import Derived.RegionTactic

namespace Go.Proofs.YtpmkgddjgebojaaGreatDoor.Mod
set_option linter.unusedVariables false
set_option linter.unusedSimpArgs false
open Go.RowKit Hp Slot RowL Life

/-- A row of slots, from a block's start on. -/
def SlotsAt (W : World) (sb : Nat) (ss : List S) : Prop :=
  (∀ (i : Nat) (s : S), ss[i]? = some s → ∀ (j : Nat) (v : Value), s.cells[j]? = some v → W.cell? ⟨sb, i * 9 + j, none⟩ = some v) ∧ (∀ i j : Nat, i < ss.length → j < 9 → W.frozen? ⟨sb, i * 9 + j, none⟩ = false)
/-- The model's slots: its fifth cell tells where they lie. -/
def Hdr (W : World) (mb sb n : Nat) : Prop := W.cell? ⟨mb, 5, none⟩ = some (.slice (some ⟨sb, 0, none⟩) n n)
section
variable {W W' : World} {sb mb n : Nat} {ss : List S}
theorem SlotsAt.stable (h : SlotsAt W sb ss) (hb : W'.heap[sb]? = W.heap[sb]?) : SlotsAt W' sb ss :=
  ⟨fun i s hs j v hv => (World.cell?_of_block (w := W) hb).trans (h.1 i s hs j v hv), fun i j hi hj => (World.frozen?_of_block (w := W) hb).trans (h.2 i j hi hj)⟩
theorem SlotsAt.drew (h : SlotsAt W sb ss) : SlotsAt W.drew sb ss := h.stable rfl
theorem SlotsAt.get (h : SlotsAt W sb ss) {i : Nat} {s : S} (hs : ss[i]? = some s) : W.cell? ⟨sb, i * 9, none⟩ = some (.int .i64 s.state) ∧ W.cell? ⟨sb, i * 9 + 1, none⟩ = some (.int .i64 s.own) ∧ W.cell? ⟨sb, i * 9 + 2, none⟩ = some (.int .i64 s.streams) ∧ W.cell? ⟨sb, i * 9 + 3, none⟩ = some (.bool s.broken) ∧ W.cell? ⟨sb, i * 9 + 4, none⟩ = some (.bool s.marked) ∧ W.cell? ⟨sb, i * 9 + 5, none⟩ = some (.int .i64 s.uses) ∧ W.cell? ⟨sb, i * 9 + 6, none⟩ = some (.int .i64 s.gen) ∧ W.cell? ⟨sb, i * 9 + 7, none⟩ = some (.int .i64 s.epoch) ∧ W.cell? ⟨sb, i * 9 + 8, none⟩ = some (.int .i64 s.version) :=
  ⟨h.1 i s hs 0 _ rfl, h.1 i s hs 1 _ rfl, h.1 i s hs 2 _ rfl, h.1 i s hs 3 _ rfl, h.1 i s hs 4 _ rfl, h.1 i s hs 5 _ rfl, h.1 i s hs 6 _ rfl, h.1 i s hs 7 _ rfl, h.1 i s hs 8 _ rfl⟩
theorem SlotsAt.free (h : SlotsAt W sb ss) {i : Nat} (hi : i < ss.length) : W.frozen? ⟨sb, i * 9, none⟩ = false ∧ W.frozen? ⟨sb, i * 9 + 1, none⟩ = false ∧ W.frozen? ⟨sb, i * 9 + 2, none⟩ = false ∧ W.frozen? ⟨sb, i * 9 + 3, none⟩ = false ∧ W.frozen? ⟨sb, i * 9 + 4, none⟩ = false ∧ W.frozen? ⟨sb, i * 9 + 5, none⟩ = false ∧ W.frozen? ⟨sb, i * 9 + 6, none⟩ = false ∧ W.frozen? ⟨sb, i * 9 + 7, none⟩ = false ∧ W.frozen? ⟨sb, i * 9 + 8, none⟩ = false :=
  ⟨h.2 i 0 hi (by omega), h.2 i 1 hi (by omega), h.2 i 2 hi (by omega), h.2 i 3 hi (by omega), h.2 i 4 hi (by omega), h.2 i 5 hi (by omega), h.2 i 6 hi (by omega), h.2 i 7 hi (by omega), h.2 i 8 hi (by omega)⟩
theorem SlotsAt.lt (h : SlotsAt W sb ss) (hn : 0 < ss.length) : sb < W.heap.size := World.block_lt_of_cell? _ _ (h.1 0 ss[0] (List.getElem?_eq_getElem hn) 0 _ rfl)
/-- One slot is laid anew. -/
theorem SlotsAt.setL (h : SlotsAt W sb ss) {i : Nat} (hi : i < ss.length) (s : S) : SlotsAt (W.setCells sb (i * 9) s.cells.toList) sb (ss.set i s) := by
  obtain ⟨h1, h2⟩ := h
  have hl : s.cells.toList.length = 9 := rfl
  have hlen : ∀ j : Nat, j < s.cells.toList.length → (W.cell? ⟨sb, i * 9 + j, none⟩).isSome = true := fun j hj => by
    rw [h1 i ss[i] (List.getElem?_eq_getElem hi) j _ (Array.getElem?_eq_getElem (by simpa [S.cells] using hj))]; rfl
  refine ⟨fun k t ht j v hv => ?_, fun k j hk hj => ?_⟩
  · have hj : j < 9 := by have := (Array.getElem?_eq_some_iff.1 hv).1; simpa [S.cells] using this
    rw [List.getElem?_set] at ht
    by_cases hki : i = k
    · subst hki
      simp [hi] at ht
      subst ht
      rw [World.cell?_setCells_in sb _ _ _ hlen j (by omega)]
      rw [← hv]
      simp
    · rw [if_neg hki] at ht
      rw [World.cell?_setCells_out sb _ _ _ _ (fun _ _ => by simp only [hl]; omega)]
      exact h1 k t ht j v hv
  · simp at hk
    rw [World.frozen?_setCells]
    exact h2 k j hk hj
theorem SlotsAt.set (h : SlotsAt W sb ss) {i : Nat} (hi : i < ss.length) (s : S) : SlotsAt ((((((((((W.setCell ⟨sb, i * 9, none⟩ (.int .i64 s.state)).setCell ⟨sb, i * 9 + 1, none⟩ (.int .i64 s.own)).setCell ⟨sb, i * 9 + 2, none⟩ (.int .i64 s.streams)).setCell ⟨sb, i * 9 + 3, none⟩ (.bool s.broken)).setCell ⟨sb, i * 9 + 4, none⟩ (.bool s.marked)).setCell ⟨sb, i * 9 + 5, none⟩ (.int .i64 s.uses)).setCell ⟨sb, i * 9 + 6, none⟩ (.int .i64 s.gen)).setCell ⟨sb, i * 9 + 7, none⟩ (.int .i64 s.epoch)).setCell ⟨sb, i * 9 + 8, none⟩ (.int .i64 s.version))) sb (ss.set i s) := h.setL hi s
theorem chg_set {i : Nat} {W0 : World} (h : Chg (fun k => k = sb) W0 W) (a0 a1 a2 a3 a4 a5 a6 a7 a8 : Value) : Chg (fun k => k = sb) W0 ((((((((((W.setCell ⟨sb, i * 9, none⟩ a0).setCell ⟨sb, i * 9 + 1, none⟩ a1).setCell ⟨sb, i * 9 + 2, none⟩ a2).setCell ⟨sb, i * 9 + 3, none⟩ a3).setCell ⟨sb, i * 9 + 4, none⟩ a4).setCell ⟨sb, i * 9 + 5, none⟩ a5).setCell ⟨sb, i * 9 + 6, none⟩ a6).setCell ⟨sb, i * 9 + 7, none⟩ a7).setCell ⟨sb, i * 9 + 8, none⟩ a8)) := by
  iterate 9 refine Chg.setCell ?_ _ _ (fun _ => rfl)
  exact h
end

/-- An emptied slot. -/
def emptied (s : S) : S := { S.zero with gen := s.gen }

set_option maxRecDepth 100000 in
set_option maxHeartbeats 4000000 in
theorem empty_any (W : World) (mb sb : Nat) (ss : List S) (i : Nat) (s : S) (hm : Hdr W mb sb ss.length) (hs : SlotsAt W sb ss) (hi : ss[i]? = some s) (hn : ss.length ≤ 1000) :
    Calls Tryz.prog 82 #[.pointer (some ⟨mb, 0, none⟩), .int .i64 i] W fun e W' => (∃ v, e = .returned v) ∧ SlotsAt W' sb (ss.set i (emptied s)) ∧ Chg (fun k => k = sb) W W' := by
  have hlt : i < ss.length := (List.getElem?_eq_some_iff.1 hi).1
  obtain ⟨c0, c1, c2, c3, c4, c5, c6, c7, c8⟩ := hs.get hi
  obtain ⟨f0, f1, f2, f3, f4, f5, f6, f7, f8⟩ := hs.free hlt
  unfold Hdr at hm
  have hb0 : (0 : Int) ≤ (i : Int) := by omega
  have hb1 : (i : Int) < (ss.length : Int) := by omega
  have hb2 : (i : Int) ≤ (ss.length : Int) - 1 := by omega
  have Hi := Lib.hid hi
  clear hi
  go_enter Tryz.func82, Tryz.ntmps82
  go_wp2
  go_region
  go_wp2
  go_end0
  have h1 := hs.set hlt (emptied s)
  have h2 := chg_set (Chg.refl (fun k => k = sb) W) (i := i) (.int .i64 0) (.int .i64 0) (.int .i64 0) (.bool false) (.bool false) (.int .i64 0) (.int .i64 s.gen) (.int .i64 0) (.int .i64 0)
  exact ⟨⟨_, rfl⟩, h1.drew, h2.drew⟩

end Go.Proofs.YtpmkgddjgebojaaGreatDoor.Mod

namespace Go.Proofs.YtpmkgddjgebojaaGreatDoor.Mod
set_option linter.unusedVariables false
set_option linter.unusedSimpArgs false
open Go.RowKit Hp Slot RowL Life

/-- The slots behind a step. -/
def turned (ss : List S) (i : Nat) (r : Option S) : List S := match r with | some t => ss.set i { t with version := 0 } | none => ss

set_option maxRecDepth 100000 in
set_option maxHeartbeats 8000000 in
theorem turn_any (W : World) (mb sb : Nat) (ss : List S) (i : Nat) (s : S) (own more : Int) (F d : Nat) (t : S) (b : Bool) (hm : Hdr W mb sb ss.length) (hs : SlotsAt W sb ss) (hi : ss[i]? = some s) (hn : ss.length ≤ 1000) (hne : mb ≠ sb)
    (hd : d < 18) (hE : ∀ args w, (callFunc F args).run Tryz.prog w = .ok (.enter F args) w) (hF : acts[d]? = some (.func (.func F) #[] #[])) (hL : Laid W) (hw : s.wf)
    (hac : s.right = true → ∀ W, Calls Tryz.prog F #[cval s own more] W fun e W' => e = .returned (.tuple #[t.val, .bool b]) ∧ Below W.heap.size W W') :
    Calls Tryz.prog 63 #[.pointer (some ⟨mb, 0, none⟩), .int .i64 i, .int .i64 d, .int .i64 own, .int .i64 more] W fun e W' =>
      e = .returned (.bool (nextOf s own t b).isSome) ∧ SlotsAt W' sb (turned ss i (nextOf s own t b)) ∧ Chg (fun k => k = sb) W W' := by
  have hx := next_gen W s own more F d t b hd hE hF hL hw hac
  generalize nextOf s own t b = r at *
  have hlt : i < ss.length := (List.getElem?_eq_some_iff.1 hi).1
  obtain ⟨c0, c1, c2, c3, c4, c5, c6, c7, c8⟩ := hs.get hi
  unfold Hdr at hm
  have hb0 : (0 : Int) ≤ (i : Int) := by omega
  have hb1 : (i : Int) < (ss.length : Int) := by omega
  have hb2 : (i : Int) ≤ (ss.length : Int) - 1 := by omega
  have Hi := Lib.hid hi
  have hlw : sb < W.heap.size := hs.lt (by omega)
  have hlm : mb < W.heap.size := World.block_lt_of_cell? _ _ hm
  clear hi hE hF hac hd
  obtain ⟨q, hq⟩ : ∃ q, q = r.getD S.zero := ⟨_, rfl⟩
  rw [← hq] at hx
  have HQ := Lib.hid hq
  clear hq
  obtain ⟨st', ow', sm', br', ma', us', ge', ep', ve'⟩ := q
  simp only [S.val, S.cells] at hx
  go_enter Tryz.func63, Tryz.ntmps63
  go_wp2_with fail
  refine hx.mono ?_
  rintro e w5 ⟨rfl, hb5⟩
  have hs5 := hs.stable (hb5.block sb hlw)
  have hm5 : ∀ o, (w5.alloc o).cell? ⟨mb, 5, none⟩ = some (.slice (some ⟨sb, 0, none⟩) ss.length ss.length) := fun o => (World.cell?_alloc_lt _ _ _ (Nat.lt_of_lt_of_le hlm hb5.size)).trans (Field.bkeep hb5 hm)
  have hsA : ∀ o, SlotsAt (w5.alloc o) sb ss := fun o => hs5.stable (Below.heap_alloc _ _ _ (Nat.lt_of_lt_of_le hlw hb5.size))
  have d0 : ∀ o, (w5.alloc o).cell? ⟨sb, i * 9, none⟩ = some (.int .i64 s.state) := fun o => ((hsA o).get Hi.out).1
  have f0 : ∀ o, (w5.alloc o).frozen? ⟨sb, i * 9, none⟩ = false := fun o => ((hsA o).free hlt).1
  have d1 : ∀ o, (w5.alloc o).cell? ⟨sb, i * 9 + 1, none⟩ = some (.int .i64 s.own) := fun o => ((hsA o).get Hi.out).2.1
  have f1 : ∀ o, (w5.alloc o).frozen? ⟨sb, i * 9 + 1, none⟩ = false := fun o => ((hsA o).free hlt).2.1
  have d2 : ∀ o, (w5.alloc o).cell? ⟨sb, i * 9 + 2, none⟩ = some (.int .i64 s.streams) := fun o => ((hsA o).get Hi.out).2.2.1
  have f2 : ∀ o, (w5.alloc o).frozen? ⟨sb, i * 9 + 2, none⟩ = false := fun o => ((hsA o).free hlt).2.2.1
  have d3 : ∀ o, (w5.alloc o).cell? ⟨sb, i * 9 + 3, none⟩ = some (.bool s.broken) := fun o => ((hsA o).get Hi.out).2.2.2.1
  have f3 : ∀ o, (w5.alloc o).frozen? ⟨sb, i * 9 + 3, none⟩ = false := fun o => ((hsA o).free hlt).2.2.2.1
  have d4 : ∀ o, (w5.alloc o).cell? ⟨sb, i * 9 + 4, none⟩ = some (.bool s.marked) := fun o => ((hsA o).get Hi.out).2.2.2.2.1
  have f4 : ∀ o, (w5.alloc o).frozen? ⟨sb, i * 9 + 4, none⟩ = false := fun o => ((hsA o).free hlt).2.2.2.2.1
  have d5 : ∀ o, (w5.alloc o).cell? ⟨sb, i * 9 + 5, none⟩ = some (.int .i64 s.uses) := fun o => ((hsA o).get Hi.out).2.2.2.2.2.1
  have f5 : ∀ o, (w5.alloc o).frozen? ⟨sb, i * 9 + 5, none⟩ = false := fun o => ((hsA o).free hlt).2.2.2.2.2.1
  have d6 : ∀ o, (w5.alloc o).cell? ⟨sb, i * 9 + 6, none⟩ = some (.int .i64 s.gen) := fun o => ((hsA o).get Hi.out).2.2.2.2.2.2.1
  have f6 : ∀ o, (w5.alloc o).frozen? ⟨sb, i * 9 + 6, none⟩ = false := fun o => ((hsA o).free hlt).2.2.2.2.2.2.1
  have d7 : ∀ o, (w5.alloc o).cell? ⟨sb, i * 9 + 7, none⟩ = some (.int .i64 s.epoch) := fun o => ((hsA o).get Hi.out).2.2.2.2.2.2.2.1
  have f7 : ∀ o, (w5.alloc o).frozen? ⟨sb, i * 9 + 7, none⟩ = false := fun o => ((hsA o).free hlt).2.2.2.2.2.2.2.1
  have d8 : ∀ o, (w5.alloc o).cell? ⟨sb, i * 9 + 8, none⟩ = some (.int .i64 s.version) := fun o => ((hsA o).get Hi.out).2.2.2.2.2.2.2.2
  have f8 : ∀ o, (w5.alloc o).frozen? ⟨sb, i * 9 + 8, none⟩ = false := fun o => ((hsA o).free hlt).2.2.2.2.2.2.2.2
  have hC5 : ∀ o, Chg (fun k => k = sb) W (w5.alloc o) := fun o => (Chg.ofBelow hb5).alloc o
  clear hm c0 c1 c2 c3 c4 c5 c6 c7 c8 hx hs hs5 hb5
  rcases r with _ | t'
  · go_wp2_with fail
    go_ret
    exact ⟨rfl, hsA _, hC5 _⟩
  · go_wp2_with fail
    go_region
    go_wp2_with fail
    go_ret
    have eq := HQ.out
    simp only [Option.getD_some] at eq
    subst eq
    have k1 := (hsA (.cells #[.int .i64 st', .int .i64 ow', .int .i64 sm', .bool br', .bool ma', .int .i64 us', .int .i64 ge', .int .i64 ep', .int .i64 0] 59)).set hlt ⟨st', ow', sm', br', ma', us', ge', ep', 0⟩
    have k2 := chg_set (hC5 (.cells #[.int .i64 st', .int .i64 ow', .int .i64 sm', .bool br', .bool ma', .int .i64 us', .int .i64 ge', .int .i64 ep', .int .i64 0] 59)) (i := i) (.int .i64 st') (.int .i64 ow') (.int .i64 sm') (.bool br') (.bool ma') (.int .i64 us') (.int .i64 ge') (.int .i64 ep') (.int .i64 0)
    exact ⟨rfl, k1.drew, k2.drew⟩
end Go.Proofs.YtpmkgddjgebojaaGreatDoor.Mod

namespace Go.Proofs.YtpmkgddjgebojaaGreatDoor.Mod
set_option linter.unusedVariables false
set_option linter.unusedSimpArgs false
open Go.RowKit Hp Slot RowL Life

/-- An event: what a worker began, or ended. -/
structure Ask where
  op : Int
  deadline : Int
  wait : Bool
  force : Bool
  slot : Int
  gen : Int
  stream : Int
  deriving DecidableEq
structure Ev where
  ended : Bool
  who : Int
  at' : Int
  ask : Ask
  e : Int
  slot : Int
  gen : Int
  stream : Int
  idle : Int
  leased : Int
  empty : Int
  other : Int
  deriving DecidableEq
def Ask.zero : Ask := ⟨0, 0, false, false, 0, 0, 0⟩
def Ev.zero : Ev := ⟨false, 0, 0, Ask.zero, 0, 0, 0, 0, 0, 0, 0, 0⟩
def Ask.cells (a : Ask) : Array Value := #[.int .i64 a.op, .int .i64 a.deadline, .bool a.wait, .bool a.force, .int .i64 a.slot, .int .i64 a.gen, .int .i64 a.stream]
def Ev.cells (x : Ev) : Array Value := #[.bool x.ended, .int .i64 x.who, .int .i64 x.at', .int .i64 x.ask.op, .int .i64 x.ask.deadline, .bool x.ask.wait, .bool x.ask.force, .int .i64 x.ask.slot, .int .i64 x.ask.gen, .int .i64 x.ask.stream,
  .int .i64 x.e, .int .i64 x.slot, .int .i64 x.gen, .int .i64 x.stream, .int .i64 x.idle, .int .i64 x.leased, .int .i64 x.empty, .int .i64 x.other]
abbrev Ask.val (a : Ask) : Value := .agg a.cells
abbrev Ev.val (x : Ev) : Value := .agg x.cells

set_option maxRecDepth 100000 in
set_option maxHeartbeats 4000000 in
theorem failed_any (W : World) (n : Int) : Calls Tryz.prog 48 #[.int .i64 n] W fun e W' => e = .returned ({ Ev.zero with e := n } : Ev).val ∧ Below W.heap.size W W' := by
  go_enter Tryz.func48, Tryz.ntmps48
  go_wp2
  refine bodyPost_ret (results_row rfl _ _ W.heap.size _ _ _ rfl (heap_alloc_new _ _) Tryz.underlying36 rfl (by kernel_rfl)) rfl ?_
  exact ⟨rfl, (Below.refl _ _).alloc (Nat.le_refl _) _⟩
end Go.Proofs.YtpmkgddjgebojaaGreatDoor.Mod

namespace Go.Proofs.YtpmkgddjgebojaaGreatDoor.Mod
set_option linter.unusedVariables false
set_option linter.unusedSimpArgs false
open Go.RowKit Hp Slot RowL Life

set_option maxRecDepth 100000 in
set_option maxHeartbeats 4000000 in
theorem model_leased (W : World) (mb sb : Nat) (ss : List S) (i : Nat) (s : S) (hm : Hdr W mb sb ss.length) (hs : SlotsAt W sb ss) (hi : ss[i]? = some s) (hn : ss.length ≤ 1000) :
    Calls Tryz.prog 88 #[.pointer (some ⟨mb, 0, none⟩), .int .i64 i] W fun e W' => e = .returned ({ Ev.zero with slot := i, gen := s.gen } : Ev).val ∧ Below W.heap.size W W' := by
  have hlt : i < ss.length := (List.getElem?_eq_some_iff.1 hi).1
  have c6 := (hs.get hi).2.2.2.2.2.2.1
  have hb0 : (0 : Int) ≤ (i : Int) := by omega
  have hb1 : (i : Int) < (ss.length : Int) := by omega
  have hb2 : (i : Int) ≤ (ss.length : Int) - 1 := by omega
  have hlm : mb < W.heap.size := World.block_lt_of_cell? _ _ hm
  have hls : sb < W.heap.size := World.block_lt_of_cell? _ _ c6
  unfold Hdr at hm
  clear hi hs
  go_enter Tryz.func88, Tryz.ntmps88
  go_wp2
  refine bodyPost_ret (results_row rfl _ _ W.heap.size _ _ _ rfl (heap_alloc_new _ _) Tryz.underlying36 rfl (by kernel_rfl)) rfl ?_
  exact ⟨rfl, (Below.refl _ _).alloc (Nat.le_refl _) _⟩
end Go.Proofs.YtpmkgddjgebojaaGreatDoor.Mod

namespace Go.Proofs.YtpmkgddjgebojaaGreatDoor.Mod
set_option linter.unusedVariables false
set_option linter.unusedSimpArgs false
open Go.RowKit Hp Slot RowL Life

/-- The model's workers: its sixth cell tells where they lie. -/
def WHdr (W : World) (mb kb n : Nat) : Prop := W.cell? ⟨mb, 6, none⟩ = some (.slice (some ⟨kb, 0, none⟩) n n)

set_option maxRecDepth 100000 in
set_option maxHeartbeats 1000000 in
theorem has_any (W : World) (mb kb n : Nat) (who : Int) (hm : WHdr W mb kb n) :
    Calls Tryz.prog 39 #[.pointer (some ⟨mb, 0, none⟩), .int .i64 who] W fun e W' => e = .returned (.bool (decide (0 ≤ who ∧ who < n))) ∧ W = W' := by
  unfold WHdr at hm
  go_enter Tryz.func39, Tryz.ntmps39
  by_cases h : 0 ≤ who
  · go_wp2
    go_ret
    exact ⟨Base.ret_bool (by simp [h]), rfl⟩
  · go_wp2
    go_ret
    exact ⟨Base.ret_bool (by simp; omega), rfl⟩
end Go.Proofs.YtpmkgddjgebojaaGreatDoor.Mod

namespace Go.Proofs.YtpmkgddjgebojaaGreatDoor.Conf
set_option linter.unusedVariables false
set_option linter.unusedSimpArgs false
open Go.RowKit Hp

structure Cf where
  workers : Int
  slots : Int
  streams : Int
  waiters : Int
  uses : Int
def Cf.cells (c : Cf) : Array Value := #[.int .i64 c.workers, .int .i64 c.slots, .int .i64 c.streams, .int .i64 c.waiters, .int .i64 c.uses]
abbrev Cf.val (c : Cf) : Value := .agg c.cells
def btw (l n m : Int) : Bool := decide (l ≤ n ∧ n ≤ m)
def Cf.right (c : Cf) : Bool := btw 1 c.workers 8 && (btw 1 c.slots 16 && (btw 0 c.streams 8 && (btw 0 c.waiters 8 && btw 1 c.uses 60)))

set_option maxHeartbeats 400000 in
theorem between_any (w : World) (l n m : Int) : Calls Tryz.prog 64 #[.int .i64 l, .int .i64 n, .int .i64 m] w fun e w' => e = .returned (.bool (btw l n m)) ∧ w = w' := by
  go_enter Tryz.func64, Tryz.ntmps64
  by_cases h : l ≤ n
  · go_wp2
    go_ret
    exact ⟨Base.ret_bool (by simp [btw, h]), rfl⟩
  · go_wp2
    go_ret
    exact ⟨Base.ret_bool (by simp [btw]; omega), rfl⟩

set_option maxRecDepth 100000 in
set_option maxHeartbeats 4000000 in
theorem right_any (w : World) (c : Cf) : Calls Tryz.prog 34 #[c.val] w fun e w' => e = .returned (.bool c.right) ∧ Below w.heap.size w w' := by
  have hb := fun w l n m => between_any w l n m
  have hr : RowKit.Hid (c.right = (btw 1 c.workers 8 && (btw 1 c.slots 16 && (btw 0 c.streams 8 && (btw 0 c.waiters 8 && btw 1 c.uses 60))))) := rfl
  have h1 := fun w => hb w 1 c.workers 8
  have h2 := fun w => hb w 1 c.slots 16
  have h3 := fun w => hb w 0 c.streams 8
  have h4 := fun w => hb w 0 c.waiters 8
  have h5 := fun w => hb w 1 c.uses 60
  clear hb
  generalize btw 1 c.workers 8 = b1 at *
  generalize btw 1 c.slots 16 = b2 at *
  generalize btw 0 c.streams 8 = b3 at *
  generalize btw 0 c.waiters 8 = b4 at *
  generalize btw 1 c.uses 60 = b5 at *
  generalize c.right = r at *
  obtain ⟨c1, c2, c3, c4, c5⟩ := c
  simp only [Cf.val, Cf.cells] at *
  have hB : Below w.heap.size w (w.alloc (.cells #[.int .i64 c1, .int .i64 c2, .int .i64 c3, .int .i64 c4, .int .i64 c5] 23)) := (Below.refl _ _).alloc (Nat.le_refl _) _
  go_enter Tryz.func34, Tryz.ntmps34
  go_wp2_with fail
  refine (h1 _).mono ?_
  rintro e w1 ⟨rfl, rfl⟩
  cases b1
  · go_wp2_with fail
    go_ret
    exact ⟨Base.ret_bool (by rw [hr.out]; rfl), hB⟩
  go_wp2_with fail
  refine (h2 _).mono ?_
  rintro e w1 ⟨rfl, rfl⟩
  cases b2
  · go_wp2_with fail
    go_ret
    exact ⟨Base.ret_bool (by rw [hr.out]; rfl), hB⟩
  go_wp2_with fail
  refine (h3 _).mono ?_
  rintro e w1 ⟨rfl, rfl⟩
  cases b3
  · go_wp2_with fail
    go_ret
    exact ⟨Base.ret_bool (by rw [hr.out]; rfl), hB⟩
  go_wp2_with fail
  refine (h4 _).mono ?_
  rintro e w1 ⟨rfl, rfl⟩
  cases b4
  · go_wp2_with fail
    go_ret
    exact ⟨Base.ret_bool (by rw [hr.out]; rfl), hB⟩
  go_wp2_with fail
  refine (h5 _).mono ?_
  rintro e w1 ⟨rfl, rfl⟩
  cases b5
  all_goals (
    go_wp2_with fail
    go_ret
    exact ⟨Base.ret_bool (by rw [hr.out]; rfl), hB⟩)

set_option maxRecDepth 100000 in
set_option maxHeartbeats 4000000 in
theorem ref_right (w : World) (c : Cf) : Calls Tryz.prog 37 #[c.val] w fun e w' => e = .returned (.bool c.right) ∧ Below w.heap.size w w' := by
  have hr : RowKit.Hid (c.right = decide ((1 ≤ c.workers ∧ c.workers ≤ 8) ∧ (1 ≤ c.slots ∧ c.slots ≤ 16) ∧ (0 ≤ c.streams ∧ c.streams ≤ 8) ∧ (0 ≤ c.waiters ∧ c.waiters ≤ 8) ∧ (1 ≤ c.uses ∧ c.uses ≤ 60))) := by
    show _ = _
    simp only [Cf.right, btw]
    by_cases h1 : (1 ≤ c.workers ∧ c.workers ≤ 8) <;> by_cases h2 : (1 ≤ c.slots ∧ c.slots ≤ 16) <;> by_cases h3 : (0 ≤ c.streams ∧ c.streams ≤ 8) <;> by_cases h4 : (0 ≤ c.waiters ∧ c.waiters ≤ 8) <;> by_cases h5 : (1 ≤ c.uses ∧ c.uses ≤ 60) <;> simp [h1, h2, h3, h4, h5]
  generalize c.right = r at *
  obtain ⟨c1, c2, c3, c4, c5⟩ := c
  simp only [Cf.val, Cf.cells] at *
  have hB : Below w.heap.size w (w.alloc (.cells #[.int .i64 c1, .int .i64 c2, .int .i64 c3, .int .i64 c4, .int .i64 c5] 23)) := (Below.refl _ _).alloc (Nat.le_refl _) _
  go_enter Tryz.func37, Tryz.ntmps37
  by_cases a1 : c1 < 1
  · go_wp2
    go_ret
    exact ⟨Base.ret_bool (by rw [hr.out]; symm; simp; omega), hB⟩
  by_cases a2 : 8 < c1
  · go_wp2
    go_ret
    exact ⟨Base.ret_bool (by rw [hr.out]; symm; simp; omega), hB⟩
  by_cases a3 : c2 < 1
  · go_wp2
    go_ret
    exact ⟨Base.ret_bool (by rw [hr.out]; symm; simp; omega), hB⟩
  by_cases a4 : 16 < c2
  · go_wp2
    go_ret
    exact ⟨Base.ret_bool (by rw [hr.out]; symm; simp; omega), hB⟩
  by_cases a5 : 0 ≤ c3
  · by_cases a6 : c3 ≤ 8
    · by_cases a7 : 0 ≤ c4
      · by_cases a8 : c4 ≤ 8
        · by_cases a9 : 1 ≤ c5
          · by_cases a10 : c5 ≤ 60
            · go_wp2
              go_ret
              exact ⟨Base.ret_bool (by rw [hr.out]; symm; simp; omega), hB⟩
            · go_wp2
              go_ret
              exact ⟨Base.ret_bool (by rw [hr.out]; simp; omega), hB⟩
          · go_wp2
            go_ret
            exact ⟨Base.ret_bool (by rw [hr.out]; simp; omega), hB⟩
        · go_wp2
          go_ret
          exact ⟨Base.ret_bool (by rw [hr.out]; simp; omega), hB⟩
      · go_wp2
        go_ret
        exact ⟨Base.ret_bool (by rw [hr.out]; simp; omega), hB⟩
    · go_wp2
      go_ret
      exact ⟨Base.ret_bool (by rw [hr.out]; simp; omega), hB⟩
  · go_wp2
    go_ret
    exact ⟨Base.ret_bool (by rw [hr.out]; simp; omega), hB⟩
end Go.Proofs.YtpmkgddjgebojaaGreatDoor.Conf

namespace Go.Proofs.YtpmkgddjgebojaaGreatDoor.Clock
set_option linter.unusedVariables false
set_option linter.unusedSimpArgs false
open Go.RowKit

set_option maxHeartbeats 400000 in
theorem new_any (w : World) : Calls Tryz.prog 35 #[] w fun e w' => e = .returned (.pointer (some ⟨w.heap.size, 0, none⟩)) ∧ w' = w.alloc (.cells #[.int .i64 0] 114) := by
  go_enter Tryz.func35, Tryz.ntmps35
  go_wp2
  go_ret
  exact ⟨rfl, rfl⟩

def tick (now n : Int) : Int := now + min (max n 0) (1099511627776 - now)

set_option maxHeartbeats 400000 in
theorem tick_any (w : World) (p : Addr) (now n : Int) (hc : w.cell? p = some (.int .i64 now)) (hf : w.frozen? p = false) (h0 : 0 ≤ now) (h1 : now ≤ 1099511627776)
    (hn : -9223372036854775808 ≤ n) (hn' : n ≤ 9223372036854775807) :
    Calls Tryz.prog 60 #[.pointer (some p), .int .i64 n] w fun e w' => e = .returned (.int .i64 (tick now n)) ∧ w' = (w.setCell p (.int .i64 (tick now n))).drew := by
  go_enter Tryz.func60, Tryz.ntmps60
  go_wp2
  go_region
  all_goals go_wp2
  all_goals go_ret
  all_goals (refine ⟨congrArg (fun k => Ending.returned (.int .i64 k)) ?_, congrArg (fun k => (w.setCell p (.int .i64 k)).drew) ?_⟩ <;> (unfold tick; omega))

set_option maxHeartbeats 400000 in
theorem past_any (w : World) (p : Addr) (now d : Int) (hc : w.cell? p = some (.int .i64 now)) :
    Calls Tryz.prog 50 #[.pointer (some p), .int .i64 d] w fun e w' => e = .returned (.bool (decide (d ≤ now))) ∧ w = w' := by
  go_enter Tryz.func50, Tryz.ntmps50
  go_wp2
  go_ret
  exact ⟨rfl, rfl⟩

end Go.Proofs.YtpmkgddjgebojaaGreatDoor.Clock

namespace Go.Proofs.YtpmkgddjgebojaaGreatDoor.Mod
set_option linter.unusedVariables false
set_option linter.unusedSimpArgs false
open Go.RowKit Hp Slot RowL Life

/-- A worker: what it is at, what it was asked, the slot that it is granted. -/
structure Wk where
  at' : Int
  ask : Ask
  slot : Int
  deriving DecidableEq
def Wk.zero : Wk := ⟨0, Ask.zero, 0⟩
def Wk.cells (k : Wk) : Array Value := #[.int .i64 k.at', .int .i64 k.ask.op, .int .i64 k.ask.deadline, .bool k.ask.wait, .bool k.ask.force, .int .i64 k.ask.slot, .int .i64 k.ask.gen, .int .i64 k.ask.stream, .int .i64 k.slot]

/-- A pool. -/
structure M where
  cf : Conf.Cf
  ss : List S
  ks : List Wk
  line : List Int
  closed : Int
  now : Int
  ahead : List Bool

/-- Has a number a bit? -/
def hasBit (n : Int) (i : Nat) : Bool := n.toNat.testBit i
def lowFree (n : Int) (most : Int) : Option Nat := (List.range (min most 8).toNat).find? fun i => !hasBit n i
def setBit (n : Int) (i : Nat) : Int := ((n.toNat ||| 2 ^ i : Nat) : Int)
def dropBit (n : Int) (i : Nat) : Int := n - 2 ^ i

/-- What is done with a slot: what it is then, but for its Version, and whether it can be done. -/
def act (d : Nat) (s : S) (own more : Int) : S × Bool :=
  match d with
  | 0 => (to s own 1, s.state == 0)
  | 1 => (leased s own, s.state == 1 && s.own == own)
  | 2 => (to s own 0, s.state == 1 && s.own == own)
  | 3 => (leased s own, s.state == 2 && !s.broken)
  | 4 => (to s own 2, (s.state == 3 && s.own == own) && s.streams == 0)
  | 5 => (to s own 4, s.state == 2 && !s.broken)
  | 7 => (to s own 5, s.state == 0)
  | 9 => (to s own 2, s.state == 2)
  | 10 => ({ s with marked := true }, s.state == 2 && !s.marked)
  | 13 => ({ s with broken := true }, !s.broken && (s.state == 2 || (s.state == 3 || s.state == 4)))
  | 14 => if (s.state == 3 && s.own == own) && !s.broken then (match lowFree s.streams more with | some i => ({ s with streams := setBit s.streams i }, true) | none => (s, false)) else (s, false)
  | 15 => if (s.state == 3 && s.own == own) && decide (0 ≤ more ∧ more < 8) && hasBit s.streams more.toNat then ({ s with streams := dropBit s.streams more.toNat }, true) else (s, false)
  | 16 => if s.state == 5 && s.own == own then (to s own 1, true) else (leased s own, s.state == 4 && s.own == own)
  | _ => (s, false)
/-- A slot behind what is done with it; as it is, if that can't be. -/
def next (s : S) (d : Nat) (own more : Int) : Option S := nextOf s own (act d s own more).1 (act d s own more).2
def step (s : S) (d : Nat) (own more : Int) : S := match next s d own more with | some t => { t with version := 0 } | none => s
def turnL (ss : List S) (i : Nat) (d : Nat) (own more : Int) : List S := match ss[i]? with | some s => ss.set i (step s d own more) | none => ss

/-- Where the first slot of a kind stands. -/
def firstAt (kind own : Int) : List S → Option Nat
  | [] => none
  | s :: l => if Find.fits s kind own then some 0 else (firstAt kind own l).map (· + 1)

namespace M
def slot (m : M) (i : Nat) : S := m.ss[i]?.getD S.zero
def turn (m : M) (i d : Nat) (own more : Int) : M := { m with ss := turnL m.ss i d own more }
def empty (m : M) (i : Nat) : M := { m with ss := m.ss.set i (emptied (m.slot i)) }
def first (m : M) (kind own : Int) : Option Nat := firstAt kind own m.ss
def leased (m : M) (i : Nat) : Ev := { Ev.zero with slot := i, gen := (m.slot i).gen }
def failed (n : Int) : Ev := { Ev.zero with e := n }
def next (m : M) : M := { m with ahead := m.ahead.tail }
def good (m : M) : Bool := m.ahead.headD true
def dial (m : M) (i : Nat) (who : Int) : Ev × M :=
  if m.good then ((m.next.turn i 1 who 0).leased i, m.next.turn i 1 who 0) else (failed 6, m.next.turn i 2 who 0)
/-- Each second slot of those of a victim. -/
def moveL (victim who : Int) : Bool → List S → List S
  | _, [] => []
  | b, s :: l => if Find.fits s 0 victim then (if b then step s 9 who 0 else s) :: moveL victim who (!b) l else s :: moveL victim who b l
def move (m : M) (victim who : Int) : M := { m with ss := moveL victim who true m.ss }
def take (m : M) (who : Int) (i : Nat) : Ev × M :=
  let m1 := m.turn i 16 who 0
  let r := if (m1.slot i).state = 1 then m1.dial i who else (m1.leased i, m1)
  if r.1.e = 0 ∧ m.closed ≠ 0 then (failed 5, r.2.empty i) else r
def owns (m : M) (who : Int) (a : Ask) : Int :=
  if m.closed = 2 then 5 else if a.slot < 0 ∨ (m.ss.length : Int) ≤ a.slot then 2
  else if (m.slot a.slot.toNat).state ≠ 3 ∨ (m.slot a.slot.toNat).own ≠ who ∨ (m.slot a.slot.toNat).gen ≠ a.gen then 2 else 0
def get (m : M) (who : Int) (a : Ask) : (Ev × Bool) × M :=
  if m.closed ≠ 0 then ((failed 5, true), m) else
  match m.first 0 who with
  | some i => (((m.turn i 3 who 0).leased i, true), m.turn i 3 who 0)
  | none => match m.first 1 who with
    | some i => let m1 := (m.turn i 3 who 0).move (m.slot i).own who; ((m1.leased i, true), m1)
    | none => match m.first 2 who with
      | some i => let r := (m.turn i 0 who 0).dial i who; ((r.1, true), r.2)
      | none => if !a.wait then ((failed 3, true), m) else if m.cf.waiters ≤ m.line.length then ((failed 7, true), m)
        else ((Ev.zero, false), { m with line := m.line ++ [who], ks := m.ks.set who.toNat ⟨1, a, 0⟩ })
def give (m : M) (who : Int) (a : Ask) (discard : Bool) : Ev × M :=
  if m.owns who a ≠ 0 then (failed (m.owns who a), m)
  else if (m.slot a.slot.toNat).streams ≠ 0 ∧ discard = false then (failed 8, m)
  else (Ev.zero, if discard = true ∨ (m.slot a.slot.toNat).broken = true ∨ m.cf.uses ≤ (m.slot a.slot.toNat).uses ∨ m.closed ≠ 0 then m.empty a.slot.toNat else m.turn a.slot.toNat 4 who 0)
def openS (m : M) (who : Int) (a : Ask) : Ev × M :=
  if m.owns who a ≠ 0 then (failed (m.owns who a), m)
  else if (m.slot a.slot.toNat).broken = true then (failed 9, m)
  else match lowFree (m.slot a.slot.toNat).streams m.cf.streams with
  | some n => ({ Ev.zero with stream := n }, m.turn a.slot.toNat 14 who m.cf.streams)
  | none => (failed 10, m)
def shutS (m : M) (who : Int) (a : Ask) : Ev × M :=
  if m.owns who a ≠ 0 then (failed (m.owns who a), m)
  else if (Mod.next (m.slot a.slot.toNat) 15 who a.stream).isSome then ({ Ev.zero with stream := a.stream }, m.turn a.slot.toNat 15 who a.stream) else (failed 11, m)
/-- What is reaped: the slots, what is still ahead, how many were emptied. -/
def reapL (who : Int) : List Bool → Int → List S → List S × List Bool × Int
  | a, n, [] => ([], a, n)
  | a, n, s :: l => if Find.fits s 6 who then
      (if a.headD true && (!s.marked && !s.broken) then (let r := reapL who a.tail n l; (step s 10 who 0 :: r.1, r.2)) else (let r := reapL who a.tail (n + 1) l; (emptied s :: r.1, r.2)))
    else (let r := reapL who a n l; (s :: r.1, r.2))
def reap (m : M) (who : Int) : Ev × M :=
  let r := reapL who m.ahead 0 m.ss
  ({ Ev.zero with slot := r.2.2 }, { m with ss := r.1, ahead := r.2.1 })
def close (m : M) (force : Bool) : M :=
  { m with closed := if force then 2 else if m.closed = 0 then 1 else m.closed, ks := m.line.foldl (fun ks who => ks.set who.toNat { ks[who.toNat]?.getD Wk.zero with at' := 3 }) m.ks, line := [] }
def countL (p : S → Bool) (l : List S) : Int := (l.filter p).length
def stats (m : M) : Ev :=
  { Ev.zero with
    idle := countL (fun s => s.state == 2) m.ss
    leased := countL (fun s => s.state == 3) m.ss
    empty := countL (fun s => s.state == 0) m.ss
    other := countL (fun s => s.state != 2 && (s.state != 3 && s.state != 0)) m.ss }
def sweep (m : M) : M := { m with ss := m.ss.map fun s => if Find.fits s 4 m.closed then emptied s else s }
/-- Who waits is granted a slot each, while there are some. -/
def grantL : List Int → List S → List Wk → List S × List Wk × List Int
  | [], ss, ks => (ss, ks, [])
  | who :: l, ss, ks => match firstAt 3 0 ss with
    | none => (ss, ks, who :: l)
    | some i => grantL l (turnL ss i (if (ss[i]?.getD S.zero).state = 2 then 5 else 7) who 0) (ks.set who.toNat { ks[who.toNat]?.getD Wk.zero with at' := 2, slot := i })
def grant (m : M) : M := if m.closed = 0 then (let r := grantL m.line m.ss m.ks; { m with ss := r.1, ks := r.2.1, line := r.2.2 }) else m
def tidy (m : M) : M := m.sweep.grant
def has (m : M) (who : Int) : Bool := decide (0 ≤ who ∧ who < m.ks.length)
def worker (m : M) (who : Int) : Wk := m.ks[who.toNat]?.getD Wk.zero
def answered (x : Ev) (who : Int) (a : Ask) : Ev := { x with ended := true, who := who, at' := 0, ask := a }
/-- What is answered at once; whether it is. -/
def does (m : M) (who : Int) (a : Ask) : (Ev × Bool) × M :=
  if a.op = 0 then m.get who a
  else if a.op = 1 then (((m.give who a false).1, true), (m.give who a false).2)
  else if a.op = 2 then (((m.give who a true).1, true), (m.give who a true).2)
  else if a.op = 3 then (((m.openS who a).1, true), (m.openS who a).2)
  else if a.op = 4 then (((m.shutS who a).1, true), (m.shutS who a).2)
  else if a.op = 5 then (((m.reap who).1, true), (m.reap who).2)
  else if a.op = 6 then ((Ev.zero, true), m.close a.force)
  else ((m.stats, true), m)
def can (m : M) (who : Int) (a : Ask) : Bool := decide (0 ≤ a.op ∧ a.op ≤ 7) && m.has who && decide ((m.worker who).at' = 0)
def ask (m : M) (who : Int) (a : Ask) : (Ev × Bool × Bool) × M :=
  if m.can who a then
    let r := m.does who a
    if r.1.2 then ((answered r.1.1 who a, true, true), r.2.tidy) else ((Ev.zero, false, true), r.2.tidy)
  else ((Ev.zero, false, false), m)
def rest (m : M) (who : Int) : M := { m with ks := m.ks.set who.toNat Wk.zero }
def wake (m : M) (who : Int) : (Ev × Bool) × M :=
  if !m.has who then ((Ev.zero, false), m) else
  let k := m.worker who
  if k.at' = 3 then ((answered (failed 5) who k.ask, true), (m.rest who).tidy)
  else if k.at' = 2 then (let r := m.take who k.slot.toNat; ((answered r.1 who k.ask, true), (r.2.rest who).tidy))
  else if k.at' = 1 ∧ k.ask.deadline ≤ m.now then ((answered (failed 4) who k.ask, true), ({ m with line := m.line.filter (fun o => o != who) }.rest who).tidy)
  else ((Ev.zero, false), m)
def tick (m : M) (n : Int) : M := { m with now := Clock.tick m.now n }
def feed (m : M) (b : Bool) : Bool × M := if m.ahead.length < 1000 then (true, { m with ahead := m.ahead ++ [b] }) else (false, m)
def break' (m : M) (i : Int) : Bool × M :=
  if 0 ≤ i ∧ i < m.ss.length then ((Mod.next (m.slot i.toNat) 13 0 0).isSome, m.turn i.toNat 13 0 0) else (false, m)
def new (c : Conf.Cf) : M := ⟨c, List.replicate c.slots.toNat S.zero, List.replicate c.workers.toNat Wk.zero, [], 0, 0, []⟩
end M
end Go.Proofs.YtpmkgddjgebojaaGreatDoor.Mod

namespace Go.Proofs.YtpmkgddjgebojaaGreatDoor.Rng
set_option linter.unusedVariables false
set_option linter.unusedSimpArgs false
open Go.RowKit Hp

/-- The contract of an iterator f = func gf with what it captured, begun in the world W: in state s, what J says of the world being so, it skips to s', or tells x and is in s' behind the round. It writes blocks of Wr alone, and new ones; of what lies there a round changes Ww alone. -/
def SeqC {σ α : Type} (P : Program) (gf : Nat) (lb : Array Value) (encs : α → Array Value) (I : σ → World → Prop) (Ww Wr : Nat → Prop) (Skips : σ → World → σ → Prop) (Yields : σ → World → α → σ → Prop) (Done : σ → World → Prop) (s0 : σ) (W : World) : Prop :=
  ∀ (l : Nat) (J : σ → World → Prop) (Jx : World → Prop),
    (∀ s W, J s W → I s W) → (∀ s W W', J s W → Chg Wr W W' → J s W') → (∀ s s' W, J s W → Skips s W s' → J s' W) →
    (∀ s x s' W, J s W → Yields s W x s' → YieldAt Fence.wide 7 P l (encs x) W fun e W' =>
      (e = .returned (.bool true) ∧ J s' W' ∧ KeepsB Ww W W') ∨ (e = .returned (.bool false) ∧ Jx W')) →
    J s0 W →
    CallsIn Fence.wide 8 P gf (#[.func (.yield l) #[] #[]] ++ lb) W fun e W' => (∃ v, e = .returned v) ∧ ((∃ s, Done s W' ∧ J s W') ∨ Jx W')

theorem wpIn_rangeC {σ α : Type} {P : Program} {g : Operand} {ps : Array Tmp} {assign body : Code} {Q : Exit → Act → World → Prop} {a : Act} {w : World}
    {gf : Nat} {lb : Array Value} (hg : a.eval g = .func (.func gf) #[] lb) (eg : ∀ args w, (callFunc gf args).run P w = .ok (.enter gf args) w)
    {encs : α → Array Value} {I : σ → World → Prop} {Ww Wr : Nat → Prop} {Skips : σ → World → σ → Prop} {Yields : σ → World → α → σ → Prop} {Done : σ → World → Prop} {s0 : σ}
    (hps : ∀ x, (encs x).size = ps.size) (hRd : ∀ k, Ww k ∨ Wr k → k < w.heap.size)
    (hseq : ∀ W1, Turn w.heap.size w W1 → SeqC P gf lb encs I Ww Wr Skips Yields Done s0 W1)
    (K : σ → World → Prop) (Kx : Code → World → Prop)
    (hKI : ∀ s W, K s W → I s W) (hKs : ∀ s W W', K s W → Chg Wr W W' → K s W') (hKk : ∀ s s' W, K s W → Skips s W s' → K s' W)
    (hKt : ∀ s W W', K s W → Turn w.heap.size W W' → K s W') (hKxt : ∀ c W W', Kx c W → Turn w.heap.size W W' → Kx c W') (hYt : ∀ s x s' W W', Yields s W x s' → Turn w.heap.size W W' → Yields s W' x s')
    (hDt : ∀ s W W', Done s W → Turn w.heap.size W W' → Done s W')
    (hYc : ∀ s x s' W W', Yields s W x s' → Chg (fun _ => False) W W' → Yields s W' x s')
    (h0 : K s0 w)
    (hround : ∀ (l : Nat) (s : σ) (x : α) (s' : σ) (W : World), w.heap.size < l → l < W.heap.size → K s W → Yields s W x s' →
      assign.wpIn (Fence.wide.inRound l) 7 P (Exit.then (fun a' W' => Chg (fun _ => False) W W' ∧ ∀ W2 : World, Turn w.heap.size W' W2 → (∃ r, W2.heap[l]? = some (.loop r)) → K s W2 → Yields s W2 x s' →
        body.wpIn (Fence.wide.inRound l) 7 P (roundOutB Ww (K s') Kx W2) a' W2) (fun _ _ _ => False)) { tmps := (ps.zip (encs x)).foldl (fun t (p, v) => t.setIfInBounds p v) a.tmps, defers := [] } W)
    (hdone : ∀ (D : Nat) (s : σ) (W : World), w.heap.size ≤ D → Done s W → K s W → W.heap[D]? = some (.deferred (some [])) → Q .normal { a with defers := { target := .collected D, args := #[] } :: a.defers } W)
    (hstop : ∀ (D : Nat) (c : Code) (W : World), w.heap.size ≤ D → Kx c W → W.heap[D]? = some (.deferred (some [])) → c.wpIn Fence.wide 9 P Q { a with defers := { target := .collected D, args := #[] } :: a.defers } W) :
    (Code.rangeFunc g ps assign body).wpIn Fence.wide 9 P Q a w := by
  refine wpIn_rangeFunc ?_
  intro fn hfn
  obtain ⟨rec, hrec⟩ : ∃ rec : LoopState → Option Code → Loop, rec = fun st pe => { state := st, pending := pe, fn, tmps := a.tmps, params := ps, assign, body, defers := w.heap.size } := ⟨_, rfl⟩
  obtain ⟨W1, hW1⟩ : ∃ W1, (w.alloc (.deferred (some []))).alloc (.loop (rec .ready none)) = W1 := ⟨_, rfl⟩
  have hL1 : W1.heap[w.heap.size + 1]? = some (.loop (rec .ready none)) := by
    rw [← hW1]; have := World.alloc_heap_new (w.alloc (.deferred (some []))) (.loop (rec .ready none)); rwa [World.size_alloc] at this
  have hK1 : W1.heap[w.heap.size]? = some (.deferred (some [])) := by
    rw [← hW1]; exact (Below.heap_alloc _ _ _ (by simp)).trans (World.alloc_heap_new w _)
  have hT1 : Turn w.heap.size w W1 := by rw [← hW1]; exact ((Turn.refl _ _).alloc _).alloc _
  refine ⟨w.heap.size + 1, [{ target := .collected w.heap.size, args := #[] }], W1, { target := .fn (.func gf) lb, args := #[.func (.yield (w.heap.size + 1)) #[] #[]] }, W1, gf,
    #[.func (.yield (w.heap.size + 1)) #[] #[]] ++ lb, W1, ?_, ?_, ?_, ?_, fun h => by simp [Fence.wide] at h, ?_⟩
  · rw [← hW1, hrec]; exact run_enterLoop_outer _ _ _ _ _
  · simp only [resolve, hg]
    simp [go_sem]
  · intro f' hf'; exact trivial
  · simp [invoke, go_sem, eg]
  · refine ((hseq W1 hT1) (w.heap.size + 1)
      (fun s W => K s W ∧ W.heap[w.heap.size + 1]? = some (.loop (rec .ready none)) ∧ W.heap[w.heap.size]? = some (.deferred (some [])))
      (fun W => ∃ c, Kx c W ∧ W.heap[w.heap.size + 1]? = some (.loop (rec .done (some c))) ∧ W.heap[w.heap.size]? = some (.deferred (some [])))
      (fun s W h => hKI s W h.1)
      (fun s W W' h hc => ⟨hKs s W W' h.1 hc, (hc.block _ (Array.getElem?_eq_some_iff.1 h.2.1).1 (fun hw => by have := hRd _ (.inr hw); omega)).trans h.2.1, (hc.block _ (Array.getElem?_eq_some_iff.1 h.2.2).1 (fun hw => by have := hRd _ (.inr hw); omega)).trans h.2.2⟩)
      (fun s s' W h hs => ⟨hKk s s' W h.1 hs, h.2⟩)
      ?_ ⟨hKt _ _ _ h0 hT1, hL1, hK1⟩).mono ?_
    · rintro s x s' W ⟨hi, hl, hk⟩ hyl
      have hlt : w.heap.size + 1 < W.heap.size := (Array.getElem?_eq_some_iff.1 hl).1
      have hy := run_yield (P := P) (args := encs x) hl (by rw [hrec]; exact hps x)
      rw [hrec] at hy
      refine ⟨fn, _, assign, body, hy, roundIn_of_wpIn hfn (wpIn_mono (hround _ s x s' W (by omega) hlt hi hyl) ?_)⟩
      clear hy
      rintro e a' W' he
      cases e with
      | normal => ?_
      | ret => exact he
      | exit id => exact he
      | goto t => exact he
      | panic ch => exact he
      | outgrown => exact he
      obtain ⟨hch, hbody⟩ := he
      have hl0 := hl
      have hl : W'.heap[w.heap.size + 1]? = some (.loop (rec .ready none)) := (hch.block _ hlt id).trans hl0
      have hk : W'.heap[w.heap.size]? = some (.deferred (some [])) := (hch.block _ (by omega) id).trans hk
      have hi : K s W' := hKs s W W' hi (hch.mono fun _ _ h => h.elim)
      have hyl : Yields s W' x s' := hYc _ _ _ _ _ hyl hch
      have hlt0 := hlt
      have hlt : w.heap.size + 1 < W'.heap.size := Nat.lt_of_lt_of_le hlt0 hch.size
      refine ⟨_, run_beginRound hl (by rw [hrec]), ?_⟩
      have hl2 : (W'.putObj (w.heap.size + 1) (.loop { rec .ready none with state := .busy })).heap[w.heap.size + 1]? = some (.loop { rec .ready none with state := .busy }) := World.putObj_heap_same hlt
      have hk2 : (W'.putObj (w.heap.size + 1) (.loop { rec .ready none with state := .busy })).heap[w.heap.size]? = some (.deferred (some [])) := (World.putObj_heap_other (by omega)).trans hk
      have hT2 : Turn w.heap.size W' (W'.putObj (w.heap.size + 1) (.loop { rec .ready none with state := .busy })) := (Turn.refl _ _).putObj _ (by omega) hl rfl
      refine wpIn_mono (hbody _ hT2 ⟨_, hl2⟩ (hKt _ _ _ hi hT2) (hYt _ _ _ _ _ hyl hT2)) ?_
      have fin : ∀ (jump : Option Code) (W3 : World), KeepsB Ww (W'.putObj (w.heap.size + 1) (.loop { rec .ready none with state := .busy })) W3 →
          (Instr.endRound (w.heap.size + 1) jump).run P W3 = .ok (.bool jump.isNone) (W3.putObj (w.heap.size + 1) (.loop (rec (if jump.isNone then .ready else .done) jump))) ∧
          W3.heap[w.heap.size + 1]? = some (.loop { rec .ready none with state := .busy }) ∧
          (W3.putObj (w.heap.size + 1) (.loop (rec (if jump.isNone then .ready else .done) jump))).heap[w.heap.size + 1]? = some (.loop (rec (if jump.isNone then .ready else .done) jump)) ∧
          (W3.putObj (w.heap.size + 1) (.loop (rec (if jump.isNone then .ready else .done) jump))).heap[w.heap.size]? = some (.deferred (some [])) := fun jump W3 hk3 => by
        have hl3 := (hk3.same _ (Array.getElem?_eq_some_iff.1 hl2).1 (fun hw => by have := hRd _ (.inl hw); omega)).trans hl2
        have := run_endRound (P := P) jump hl3
        rw [hrec] at this ⊢
        exact ⟨this, by rw [hrec] at hl3; exact hl3, World.putObj_heap_same (Array.getElem?_eq_some_iff.1 hl3).1, (World.putObj_heap_other (by omega)).trans ((hk3.same _ (Array.getElem?_eq_some_iff.1 hk2).1 (fun hw => by have := hRd _ (.inl hw); omega)).trans hk2)⟩
      rintro e a3 W3 hp
      cases e with
      | normal =>
        obtain ⟨hk3, hi3⟩ := hp
        obtain ⟨hr, hl3, hl4, hk4⟩ := fin none W3 hk3
        refine ⟨_, _, hr, .inl ⟨rfl, ⟨hKt _ _ _ hi3 ((Turn.refl _ _).putObj _ (by omega) hl3 rfl), hl4, hk4⟩, ?_, fun k hkk hn => ?_⟩⟩
        · have := hk3.size; have := hch.size; simp at *; omega
        · by_cases hkl : k = w.heap.size + 1
          · subst hkl
            exact hl4.trans hl0.symm
          · have hkW : k < W'.heap.size := Nat.lt_of_lt_of_le hkk hch.size
            exact (World.putObj_heap_other (by omega)).trans ((hk3.same k (by simpa using hkW) hn).trans ((World.putObj_heap_other (by omega)).trans (hch.block k hkk id)))
      | ret =>
        obtain ⟨hk3, hi3⟩ := hp
        obtain ⟨hr, hl3, hl4, hk4⟩ := fin (some .ret) W3 hk3
        exact ⟨_, _, hr, .inr ⟨rfl, .ret, hKxt _ _ _ hi3 ((Turn.refl _ _).putObj _ (by omega) hl3 rfl), hl4, hk4⟩⟩
      | exit id =>
        obtain ⟨hk3, hi3⟩ := hp
        obtain ⟨hr, hl3, hl4, hk4⟩ := fin (some (.exit id)) W3 hk3
        exact ⟨_, _, hr, .inr ⟨rfl, .exit id, hKxt _ _ _ hi3 ((Turn.refl _ _).putObj _ (by omega) hl3 rfl), hl4, hk4⟩⟩
      | goto t =>
        obtain ⟨hk3, hi3⟩ := hp
        obtain ⟨hr, hl3, hl4, hk4⟩ := fin (some (.goto t)) W3 hk3
        exact ⟨_, _, hr, .inr ⟨rfl, .goto t, hKxt _ _ _ hi3 ((Turn.refl _ _).putObj _ (by omega) hl3 rfl), hl4, hk4⟩⟩
      | panic ch => exact hp.elim
      | outgrown => exact hp.elim
    · rintro e W2 ⟨⟨v, rfl⟩, (⟨s, hD, hi, hl, hk⟩ | ⟨c, hi, hl, hk⟩)⟩
      · have hT : Turn w.heap.size W2 (W2.putObj (w.heap.size + 1) (.loop { rec .ready none with state := .exhausted })) := (Turn.refl _ _).putObj _ (by omega) hl rfl
        exact ⟨none, _, by have := run_endLoop (P := P) hl (by rw [hrec]; simp); rw [hrec] at this; exact this, hdone _ s _ (Nat.le_refl _) (by rw [hrec] at hT; exact hDt _ _ _ hD hT) (by rw [hrec] at hT; exact hKt _ _ _ hi hT) ((World.putObj_heap_other (by omega)).trans hk)⟩
      · have hT : Turn w.heap.size W2 (W2.putObj (w.heap.size + 1) (.loop { rec .done (some c) with state := .exhausted })) := (Turn.refl _ _).putObj _ (by omega) hl rfl
        exact ⟨some c, _, by have := run_endLoop (P := P) hl (by rw [hrec]; simp); rw [hrec] at this; exact this, hstop _ c _ (Nat.le_refl _) (by rw [hrec] at hT; exact hKxt _ _ _ hi hT) ((World.putObj_heap_other (by omega)).trans hk)⟩
end Go.Proofs.YtpmkgddjgebojaaGreatDoor.Rng

namespace Go.Proofs.YtpmkgddjgebojaaGreatDoor.Mod
set_option linter.unusedVariables false
set_option linter.unusedSimpArgs false
open Go.RowKit Go.Shelf Hp Slot RowL Life Rng
attribute [local go_sem] Oper.semAt_some

set_option maxHeartbeats 1000000 in
theorem fits_any (W : World) (mb : Nat) (kind own : Int) : Calls Tryz.prog 81 #[.pointer (some ⟨mb, 0, none⟩), .int .i64 kind, .int .i64 own] W fun e W' =>
    e = .returned (.func (.func 98) #[] #[.pointer (some ⟨W.heap.size, 0, none⟩), .pointer (some ⟨W.heap.size + 1, 0, none⟩), .pointer (some ⟨W.heap.size + 1 + 1, 0, none⟩)]) ∧
    W' = ((W.alloc (.cells #[.pointer (some ⟨mb, 0, none⟩)] 27)).alloc (.cells #[.int .i64 kind] 3)).alloc (.cells #[.int .i64 own] 3) := by
  go_enter Tryz.func81, Tryz.ntmps81
  go_wp2
  go_ret
  exact ⟨rfl, rfl⟩

theorem slots_one {W : World} {sb i : Nat} {ss ss' : List S} {s s' : S} (h : SlotsAt W sb ss) (h' : SlotsAt W sb ss') (hi : ss[i]? = some s) (hi' : ss'[i]? = some s') : s = s' := by
  obtain ⟨a0, a1, a2, a3, a4, a5, a6, a7, a8⟩ := h.get hi
  obtain ⟨b0, b1, b2, b3, b4, b5, b6, b7, b8⟩ := h'.get hi'
  cases s; cases s'
  simp_all

/-- What the iterator goes by: the slots lie there. -/
def fI (sb n : Nat) (_ : Nat) (W : World) : Prop := ∃ ss : List S, ss.length = n ∧ SlotsAt W sb ss
def fTells (sb n : Nat) (kind own : Int) (i : Nat) (W : World) (b : Bool) : Prop := ∃ ss : List S, ss.length = n ∧ SlotsAt W sb ss ∧ ∀ s, ss[i]? = some s → Find.fits s kind own = b
def fSkips (sb n : Nat) (kind own : Int) (i : Nat) (W : World) (i' : Nat) : Prop := i < n ∧ i' = i + 1 ∧ fTells sb n kind own i W false
def fYields (sb n : Nat) (kind own : Int) (i : Nat) (W : World) (x i' : Nat) : Prop := i < n ∧ x = i ∧ i' = i + 1 ∧ fTells sb n kind own i W true

theorem fchg {w w' : World} (hb : Below w.drew.heap.size w.drew w') : Chg (fun _ => False) w w' := ((Chg.refl (fun _ => False) w).drew).trans (Chg.ofBelow (F := fun _ => False) hb) (fun _ _ h => h)
theorem fcomb {e : Ending} {A B : Prop} (h : (e = .returned (.bool true) ∧ A) ∨ (e = .returned (.bool false) ∧ B)) : ∃ b, e = .returned (.bool b) ∧ ((b = true ∧ A) ∨ (b = false ∧ B)) := by
  rcases h with ⟨h, h2⟩ | ⟨h, h2⟩
  · exact ⟨true, h, .inl ⟨rfl, h2⟩⟩
  · exact ⟨false, h, .inr ⟨rfl, h2⟩⟩

set_option maxRecDepth 100000 in
set_option maxHeartbeats 40000000 in
theorem fits_seq (b1 b2 b3 mb sb n : Nat) (kind own : Int) (Ww : Nat → Prop) (W : World) (hk : kind = 0 ∨ kind = 1 ∨ kind = 2 ∨ kind = 3 ∨ kind = 4 ∨ kind = 6) (hn : n ≤ 1000)
    (h1 : W.cell? ⟨b1, 0, none⟩ = some (.pointer (some ⟨mb, 0, none⟩))) (h2 : W.cell? ⟨b2, 0, none⟩ = some (.int .i64 kind)) (h3 : W.cell? ⟨b3, 0, none⟩ = some (.int .i64 own)) (hm : Hdr W mb sb n)
    (n1 : ¬ Ww b1) (n2 : ¬ Ww b2) (n3 : ¬ Ww b3) (nm : ¬ Ww mb) (hW : ∀ k, Ww k → k < W.heap.size) :
    SeqC Tryz.prog 98 #[.pointer (some ⟨b1, 0, none⟩), .pointer (some ⟨b2, 0, none⟩), .pointer (some ⟨b3, 0, none⟩)] (fun x : Nat => #[.int .i64 x]) (fI sb n) Ww (fun _ => False)
      (fSkips sb n kind own) (fYields sb n kind own) (fun i _ => i = n) 0 W := by
  intro L J Jx hJI hJs hJk hY h0
  unfold Hdr at hm
  refine callsIn_of_wp Tryz.func98 rfl trivial ?_ rfl
  simp only [Tryz.ntmps98, List.size_toArray, List.length_cons, List.length_nil, Nat.reduceAdd, Nat.reduceSub, Array.replicate_succ, Array.replicate_zero, List.push_toArray, List.append_toArray, List.nil_append, List.cons_append]
  have hmo : Tryz.prog.follows .mixedOrders = true := by kernel_rfl
  gi_wp2
  gi_loopw [11] (fun i wr => ∃ k : Nat, k ≤ n ∧ i = .int .i64 k ∧ wr.cell? ⟨b1, 0, none⟩ = some (.pointer (some ⟨mb, 0, none⟩)) ∧ wr.cell? ⟨b2, 0, none⟩ = some (.int .i64 kind) ∧ wr.cell? ⟨b3, 0, none⟩ = some (.int .i64 own) ∧
    wr.cell? ⟨mb, 5, none⟩ = some (.slice (some ⟨sb, 0, none⟩) n n) ∧ J k wr ∧ W.heap.size ≤ wr.heap.size) (fun i _ => n - (intOf i).toNat)
  case atStart => exact ⟨0, by omega, rfl, h1, h2, h3, hm, h0, Nat.le_refl _⟩
  case round =>
    obtain ⟨k, hkn, rfl, g1, g2, g3, gm, hj, hsz⟩ := hrel
    by_cases hlt : k < n
    · obtain ⟨ss, hsl, hss⟩ := hJI k wr hj
      obtain ⟨s, hs⟩ : ∃ s, ss[k]? = some s := ⟨_, List.getElem?_eq_getElem (by omega)⟩
      obtain ⟨c0, c1, c2, c3, c4, c5, c6, c7, c8⟩ := hss.get hs
      have hlw : sb < wr.heap.size := hss.lt (by omega)
      have k0 : (0 : Int) ≤ (k : Int) := by omega
      have k1 : (k : Int) < (n : Int) := by omega
      have k2 : (k : Int) ≤ (n : Int) - 1 := by omega
      have hfit := fun W => Find.fits_any W s kind own hk
      have htell : ∀ W', W'.heap[sb]? = wr.heap[sb]? → fTells sb n kind own k W' (Find.fits s kind own) := fun W' hb => ⟨ss, hsl, hss.stable hb, fun s' hs' => by rw [Option.some.inj (hs.symm.trans hs')]⟩
      generalize Find.fits s kind own = b at *
      have Hs := Lib.hid hs
      clear hs
      obtain ⟨st, ow, sm, br, ma, us, ge, ep, ve⟩ := s
      simp only [S.val, S.cells] at hfit c0 c1 c2 c3 c4 c5 c6 c7 c8
      cases b
      · gi_wp2_with fail
        refine wpIn_wide.2 ?_
        refine wp_region_held_drew (S := fun w' => w'.cell? ⟨b1, 0, none⟩ = some (.pointer (some ⟨mb, 0, none⟩)) ∧ w'.cell? ⟨b2, 0, none⟩ = some (.int .i64 kind) ∧ w'.cell? ⟨b3, 0, none⟩ = some (.int .i64 own) ∧ w'.cell? ⟨mb, 5, none⟩ = some (.slice (some ⟨sb, 0, none⟩) n n) ∧ w'.cell? ⟨sb, k * 9, none⟩ = some (.int .i64 st) ∧ w'.cell? ⟨sb, k * 9 + 1, none⟩ = some (.int .i64 ow) ∧ w'.cell? ⟨sb, k * 9 + 2, none⟩ = some (.int .i64 sm) ∧ w'.cell? ⟨sb, k * 9 + 3, none⟩ = some (.bool br) ∧ w'.cell? ⟨sb, k * 9 + 4, none⟩ = some (.bool ma) ∧ w'.cell? ⟨sb, k * 9 + 5, none⟩ = some (.int .i64 us) ∧ w'.cell? ⟨sb, k * 9 + 6, none⟩ = some (.int .i64 ge) ∧ w'.cell? ⟨sb, k * 9 + 7, none⟩ = some (.int .i64 ep) ∧ w'.cell? ⟨sb, k * 9 + 8, none⟩ = some (.int .i64 ve)) (by kernel_rfl) (by exact ⟨g1, g2, g3, gm, c0, c1, c2, c3, c4, c5, c6, c7, c8⟩) (fun hHeld => ?_)
        refine wpAnyH_take (i := 0) (v := ?_) rfl (by kernel_rfl) (by kernel_rfl) (by kernel_rfl) (fun _ _ _ h => h) (Or.inl ⟨rfl, ?_⟩) hHeld ?_
        rotate_left
        · intro w hSw
          try dsimp only at hSw
          go_simp
          try with_reducible rfl
        try simp only [Act.put, List.setIfInBounds_toArray, List.set_cons_zero, List.set_cons_succ]
        refine wpAnyH_take (i := 1) (v := ?_) rfl (by kernel_rfl) (by kernel_rfl) (by kernel_rfl) (fun _ _ _ h => h) (Or.inl ⟨rfl, ?_⟩) hHeld ?_
        rotate_left
        · intro w hSw
          try dsimp only at hSw
          go_simp
          try with_reducible rfl
        try simp only [Act.put, List.setIfInBounds_toArray, List.set_cons_zero, List.set_cons_succ]
        refine wpAnyH_take (i := 2) (v := ?_) rfl (by kernel_rfl) (by kernel_rfl) (by kernel_rfl) (fun _ _ _ h => h) (Or.inl ⟨rfl, ?_⟩) hHeld ?_
        rotate_left
        · intro w hSw
          try dsimp only at hSw
          go_simp
          try with_reducible rfl
        try simp only [Act.put, List.setIfInBounds_toArray, List.set_cons_zero, List.set_cons_succ]
        refine wpAnyH_take (i := 3) (v := ?_) rfl (by kernel_rfl) (by kernel_rfl) (by kernel_rfl) (fun _ _ _ h => h) (Or.inl ⟨rfl, ?_⟩) hHeld ?_
        rotate_left
        · intro w hSw
          try dsimp only at hSw
          go_simp
          try with_reducible rfl
        try simp only [Act.put, List.setIfInBounds_toArray, List.set_cons_zero, List.set_cons_succ]
        refine wpAnyH_take (i := 4) (v := ?_) rfl (by kernel_rfl) (by kernel_rfl) (by kernel_rfl) (fun _ _ _ h => h) (Or.inl ⟨rfl, ?_⟩) hHeld ?_
        rotate_left
        · intro w hSw
          try dsimp only at hSw
          go_simp
          try with_reducible rfl
        try simp only [Act.put, List.setIfInBounds_toArray, List.set_cons_zero, List.set_cons_succ]
        refine wpAnyH_take (i := 5) (v := ?_) rfl (by kernel_rfl) (by kernel_rfl) (by kernel_rfl) (fun _ _ _ h => h) (Or.inl ⟨rfl, ?_⟩) hHeld ?_
        rotate_left
        · intro w hSw
          try dsimp only at hSw
          go_simp
          try with_reducible rfl
        try simp only [Act.put, List.setIfInBounds_toArray, List.set_cons_zero, List.set_cons_succ]
        refine wpAnyH_take (i := 6) (v := ?_) rfl (by kernel_rfl) (by kernel_rfl) (by kernel_rfl) (fun _ _ _ h => h) (Or.inl ⟨rfl, ?_⟩) hHeld ?_
        rotate_left
        · intro w hSw
          try dsimp only at hSw
          go_simp
          try with_reducible rfl
        try simp only [Act.put, List.setIfInBounds_toArray, List.set_cons_zero, List.set_cons_succ]
        refine wpAnyH_take (i := 7) (v := ?_) rfl (by kernel_rfl) (by kernel_rfl) (by kernel_rfl) (fun _ _ _ h => h) (Or.inl ⟨rfl, ?_⟩) hHeld ?_
        rotate_left
        · intro w hSw
          try dsimp only at hSw
          go_simp
          try with_reducible rfl
        try simp only [Act.put, List.setIfInBounds_toArray, List.set_cons_zero, List.set_cons_succ]
        refine wpAnyH_take (i := 8) (v := ?_) rfl (by kernel_rfl) (by kernel_rfl) (by kernel_rfl) (fun _ _ _ h => h) (Or.inl ⟨rfl, ?_⟩) hHeld ?_
        rotate_left
        · intro w hSw
          try dsimp only at hSw
          go_simp
          try with_reducible rfl
        try simp only [Act.put, List.setIfInBounds_toArray, List.set_cons_zero, List.set_cons_succ]
        refine wpAnyH_ready (rs := [9]) (by kernel_rfl) (by simp) ?_
        refine AllReadyH.cons rfl (fun K hK => ?_) AllReadyH.nil
        go_simp
        refine (hfit _).mono ?_
        rintro e w6 ⟨rfl, hb6⟩
        go_simp
        refine hK.out _ _ (by obtain ⟨e1, e2, e3, em, e4⟩ := hHeld; exact ⟨Field.bkeep hb6 e1, Field.bkeep hb6 e2, Field.bkeep hb6 e3, Field.bkeep hb6 em, Field.bkeep hb6 c0, Field.bkeep hb6 c1, Field.bkeep hb6 c2, Field.bkeep hb6 c3, Field.bkeep hb6 c4, Field.bkeep hb6 c5, Field.bkeep hb6 c6, Field.bkeep hb6 c7, Field.bkeep hb6 c8⟩) (fun hHeld2 => ?_)
        clear hK K
        try simp only [Act.put, List.setIfInBounds_toArray, List.set_cons_zero, List.set_cons_succ]
        refine wpAnyH_take (i := 10) (v := ?_) rfl (by kernel_rfl) (by kernel_rfl) (by kernel_rfl) (fun _ _ _ h => h) (Or.inl ⟨rfl, ?_⟩) hHeld2 ?_
        rotate_left
        · intro w hSw
          try dsimp only at hSw
          go_simp
          try with_reducible rfl
        try simp only [Act.put, List.setIfInBounds_toArray, List.set_cons_zero, List.set_cons_succ]
        refine wpAnyH_take (i := 11) (v := undef) rfl (by kernel_rfl) (by kernel_rfl) (by kernel_rfl) (fun _ _ _ h => h) (Or.inr ⟨rfl, rfl⟩) hHeld2 ?_
        try simp only [Act.put, List.setIfInBounds_toArray, List.set_cons_zero, List.set_cons_succ]
        refine wpAnyH_take (i := 12) (v := undef) rfl (by kernel_rfl) (by kernel_rfl) (by kernel_rfl) (fun _ _ _ h => h) (Or.inr ⟨rfl, rfl⟩) hHeld2 ?_
        try simp only [Act.put, List.setIfInBounds_toArray, List.set_cons_zero, List.set_cons_succ]
        refine wpAnyH_take (i := 13) (v := undef) rfl (by kernel_rfl) (by kernel_rfl) (by kernel_rfl) (fun _ _ _ h => h) (Or.inr ⟨rfl, rfl⟩) hHeld2 ?_
        try simp only [Act.put, List.setIfInBounds_toArray, List.set_cons_zero, List.set_cons_succ]
        refine wpAnyH_take (i := 14) (v := undef) rfl (by kernel_rfl) (by kernel_rfl) (by kernel_rfl) (fun _ _ _ h => h) (Or.inr ⟨rfl, rfl⟩) hHeld2 ?_
        try simp only [Act.put, List.setIfInBounds_toArray, List.set_cons_zero, List.set_cons_succ]
        refine wpAnyH_take (i := 15) (v := ?_) rfl (by kernel_rfl) (by kernel_rfl) (by kernel_rfl) (fun _ _ _ h => h) (Or.inl ⟨rfl, ?_⟩) hHeld2 ?_
        rotate_left
        · intro w hSw
          try dsimp only at hSw
          go_simp
          try with_reducible rfl
        try simp only [Act.put, List.setIfInBounds_toArray, List.set_cons_zero, List.set_cons_succ]
        refine wpAnyH_done (by kernel_rfl) ?_ _
        have hC6 : Chg (fun _ => False) wr w6 := ((Chg.refl (fun _ => False) wr).drew).trans (Chg.ofBelow (F := fun _ => False) hb6) (fun _ _ h => h)
        have hj6 := hJk k (k + 1) w6 (hJs _ _ _ hj hC6) ⟨hlt, rfl, htell w6 (hC6.block sb hlw id)⟩
        obtain ⟨e1, e2, e3, em, _⟩ := hHeld2
        have hsz6 := hC6.size
        clear hHeld hfit htell hb6
        go_simp
        gi_wp2
        go_roundw
        case rel => exact ⟨k + 1, by omega, by go_num, e1, e2, e3, em, hj6, by omega⟩
        case measure => simp [intOf]; omega
      · gi_wp2_with fail
        gi_region_with_o (first
          | (refine ⟨trivial, ?_⟩; gi_at_call 99; refine (callsIn_wide.2 (hfit _)).mono ?_; rintro e w6 ⟨rfl, hb6⟩; have hC6 := fchg hb6; have hs6 := hC6.size; have hj6 := hJs _ _ _ hj hC6;
             obtain ⟨fn, tmps, assign, body, hy, hR⟩ := hY k k (k + 1) w6 hj6 ⟨hlt, rfl, rfl, htell w6 (hC6.block sb hlw id)⟩; have e1 := hC6.cell (World.block_lt_of_cell? _ _ g1) id; have e2 := hC6.cell (World.block_lt_of_cell? _ _ g2) id; have e3 := hC6.cell (World.block_lt_of_cell? _ _ g3) id; have em := hC6.cell (World.block_lt_of_cell? _ _ gm) id)
          | (refine hR.mono ?_; rintro e W3 h; obtain ⟨bv, rfl, hp⟩ := fcomb h)
          | (refine ⟨fun h => by cases h, ?_⟩; refine hR.mono ?_; rintro e W3 h; obtain ⟨bv, rfl, hp⟩ := fcomb h))
        all_goals (
          have E1 := e1.trans g1
          have E2 := e2.trans g2
          have E3 := e3.trans g3
          have Em := em.trans gm
          clear hfit htell hy hR c0 c1 c2 c3 c4 c5 c6 c7 c8 e1 e2 e3 em
          rcases hp with ⟨rfl, hJ3, hs3, hk3⟩ | ⟨rfl, hJx3⟩
          · have x1 := (World.cell?_of_block (w := w6) (hk3 b1 (World.block_lt_of_cell? _ _ E1) n1)).trans E1
            have x2 := (World.cell?_of_block (w := w6) (hk3 b2 (World.block_lt_of_cell? _ _ E2) n2)).trans E2
            have x3 := (World.cell?_of_block (w := w6) (hk3 b3 (World.block_lt_of_cell? _ _ E3) n3)).trans E3
            have xm := (World.cell?_of_block (w := w6) (hk3 mb (World.block_lt_of_cell? _ _ Em) nm)).trans Em
            gi_wp2
            go_roundw
            case rel => exact ⟨k + 1, by omega, by go_num, x1, x2, x3, xm, hJ3, by omega⟩
            case measure => simp [intOf]; omega
          · gi_wp2
            refine bodyPost_ret (results_none rfl _ _ _) rfl ?_
            exact ⟨⟨_, rfl⟩, .inr hJx3⟩)
    · gi_wp2
      go_end0
      exact ⟨⟨_, rfl⟩, .inl ⟨k, by omega, hj⟩⟩
end Go.Proofs.YtpmkgddjgebojaaGreatDoor.Mod

namespace Go.Proofs.YtpmkgddjgebojaaGreatDoor.Mod
set_option linter.unusedVariables false
set_option linter.unusedSimpArgs false
open Go.RowKit Go.Shelf Hp Slot RowL Life Rng
attribute [local go_sem] Oper.semAt_some

theorem below_false {W W' : World} (hc : Chg (fun _ => False) W W') : Below W.heap.size W W' := hc.below (Nat.le_refl _) fun _ h => h.elim
theorem slots_turn {B : Nat} {W W' : World} {sb : Nat} {ss : List S} (h : SlotsAt W sb ss) (ht : Turn B W W') : SlotsAt W' sb ss :=
  ⟨fun i s hs j v hv => ht.cell (h.1 i s hs j v hv), fun i j hi hj => (ht.frozen (h.1 i ss[i] (List.getElem?_eq_getElem hi) j _ (Array.getElem?_eq_getElem (by simpa [S.cells] using hj)))).trans (h.2 i j hi hj)⟩
theorem firstAt_none (kind own : Int) : ∀ (ss : List S), (∀ (j : Nat) (s : S), ss[j]? = some s → Find.fits s kind own = false) → firstAt kind own ss = none
  | [], _ => rfl
  | s :: l, h => by
    have h0 : Find.fits s kind own = false := h 0 s rfl
    rw [firstAt, h0, firstAt_none kind own l (fun j t ht => h (j + 1) t (by simpa using ht))]
    rfl
theorem firstAt_some (kind own : Int) : ∀ (ss : List S) (i : Nat), (∃ s, ss[i]? = some s ∧ Find.fits s kind own = true) → (∀ (j : Nat) (s : S), j < i → ss[j]? = some s → Find.fits s kind own = false) → firstAt kind own ss = some i
  | [], _, ⟨_, h, _⟩, _ => by simp at h
  | s :: l, 0, ⟨t, ht, hf⟩, _ => by
    obtain rfl : s = t := by simpa using ht
    rw [firstAt, hf]; rfl
  | s :: l, i + 1, ⟨t, ht, hf⟩, h => by
    have h0 : Find.fits s kind own = false := h 0 s (by omega) rfl
    rw [firstAt, h0, firstAt_some kind own l i ⟨t, by simpa using ht, hf⟩ (fun j u hj hu => h (j + 1) u (by omega) (by simpa using hu))]
    rfl
/-- Behind i slots none of which fits. -/
def firstK (w : World) (sb : Nat) (ss : List S) (kind own : Int) (i : Nat) (W : World) : Prop :=
  (i ≤ ss.length ∧ ∀ (j : Nat) (s : S), j < i → ss[j]? = some s → Find.fits s kind own = false) ∧ SlotsAt W sb ss ∧ Below w.heap.size w W ∧ W.cell? ⟨w.heap.size, 0, none⟩ = some (.int .i64 0) ∧ W.cell? ⟨w.heap.size + 1, 0, none⟩ = some (.bool false) ∧
    W.frozen? ⟨w.heap.size, 0, none⟩ = false ∧ W.frozen? ⟨w.heap.size + 1, 0, none⟩ = false
/-- One was found. -/
def firstX (w : World) (ss : List S) (kind own : Int) (c : Code) (W : World) : Prop :=
  c = .ret ∧ ∃ i : Nat, (∃ s, ss[i]? = some s ∧ Find.fits s kind own = true) ∧ (∀ (j : Nat) (s : S), j < i → ss[j]? = some s → Find.fits s kind own = false) ∧ Below w.heap.size w W ∧
    W.cell? ⟨w.heap.size, 0, none⟩ = some (.int .i64 i) ∧ W.cell? ⟨w.heap.size + 1, 0, none⟩ = some (.bool true)

set_option maxRecDepth 100000 in
set_option maxHeartbeats 4000000 in
theorem first_any (w : World) (mb sb : Nat) (ss : List S) (kind own : Int) (hk : kind = 0 ∨ kind = 1 ∨ kind = 2 ∨ kind = 3 ∨ kind = 4 ∨ kind = 6) (hn : ss.length ≤ 1000) (hm : Hdr w mb sb ss.length) (hs : SlotsAt w sb ss) (hl : sb < w.heap.size) :
    Calls Tryz.prog 83 #[.pointer (some ⟨mb, 0, none⟩), .int .i64 kind, .int .i64 own] w fun e W' =>
      e = .returned (.tuple #[.int .i64 ((firstAt kind own ss).getD 0), .bool (firstAt kind own ss).isSome]) ∧ Below w.heap.size w W' := by
  refine (callsIn_wide (n := 9)).1 ?_
  refine callsIn_of_wp_marks Tryz.func83 rfl trivial ?_
  simp only [Tryz.ntmps83, List.size_toArray, List.length_cons, List.length_nil, Nat.reduceAdd, Nat.reduceSub, Array.replicate_succ, Array.replicate_zero, List.push_toArray, List.append_toArray, List.nil_append, List.cons_append]
  gi_wp2_with (refine ⟨trivial, ?_⟩; gi_at_call 81; refine (callsIn_wide.2 (fits_any _ _ _ _)).mono ?_; rintro e w' ⟨rfl, rfl⟩)
  have hB : Below w.heap.size w (((((w.alloc (.cells #[.int .i64 0] 3)).alloc (.cells #[.bool false] 4)).alloc (.cells #[.pointer (some ⟨mb, 0, none⟩)] 27)).alloc (.cells #[.int .i64 kind] 3)).alloc (.cells #[.int .i64 own] 3)) := (((((Below.refl _ _).alloc (Nat.le_refl _) _).alloc (by simp) _).alloc (by simp; omega) _).alloc (by simp; omega) _).alloc (by simp; omega) _
  have b1 : (((((w.alloc (.cells #[.int .i64 0] 3)).alloc (.cells #[.bool false] 4)).alloc (.cells #[.pointer (some ⟨mb, 0, none⟩)] 27)).alloc (.cells #[.int .i64 kind] 3)).alloc (.cells #[.int .i64 own] 3)).cell? ⟨w.heap.size + 1 + 1, 0, none⟩ = some (.pointer (some ⟨mb, 0, none⟩)) := by go_simp
  have b2 : (((((w.alloc (.cells #[.int .i64 0] 3)).alloc (.cells #[.bool false] 4)).alloc (.cells #[.pointer (some ⟨mb, 0, none⟩)] 27)).alloc (.cells #[.int .i64 kind] 3)).alloc (.cells #[.int .i64 own] 3)).cell? ⟨w.heap.size + 1 + 1 + 1, 0, none⟩ = some (.int .i64 kind) := by go_simp
  have b3 : (((((w.alloc (.cells #[.int .i64 0] 3)).alloc (.cells #[.bool false] 4)).alloc (.cells #[.pointer (some ⟨mb, 0, none⟩)] 27)).alloc (.cells #[.int .i64 kind] 3)).alloc (.cells #[.int .i64 own] 3)).cell? ⟨w.heap.size + 1 + 1 + 1 + 1, 0, none⟩ = some (.int .i64 own) := by go_simp
  have r1 : (((((w.alloc (.cells #[.int .i64 0] 3)).alloc (.cells #[.bool false] 4)).alloc (.cells #[.pointer (some ⟨mb, 0, none⟩)] 27)).alloc (.cells #[.int .i64 kind] 3)).alloc (.cells #[.int .i64 own] 3)).cell? ⟨w.heap.size, 0, none⟩ = some (.int .i64 0) := by go_simp
  have r2 : (((((w.alloc (.cells #[.int .i64 0] 3)).alloc (.cells #[.bool false] 4)).alloc (.cells #[.pointer (some ⟨mb, 0, none⟩)] 27)).alloc (.cells #[.int .i64 kind] 3)).alloc (.cells #[.int .i64 own] 3)).cell? ⟨w.heap.size + 1, 0, none⟩ = some (.bool false) := by go_simp
  have z1 : (((((w.alloc (.cells #[.int .i64 0] 3)).alloc (.cells #[.bool false] 4)).alloc (.cells #[.pointer (some ⟨mb, 0, none⟩)] 27)).alloc (.cells #[.int .i64 kind] 3)).alloc (.cells #[.int .i64 own] 3)).frozen? ⟨w.heap.size, 0, none⟩ = false := by go_simp
  have z2 : (((((w.alloc (.cells #[.int .i64 0] 3)).alloc (.cells #[.bool false] 4)).alloc (.cells #[.pointer (some ⟨mb, 0, none⟩)] 27)).alloc (.cells #[.int .i64 kind] 3)).alloc (.cells #[.int .i64 own] 3)).frozen? ⟨w.heap.size + 1, 0, none⟩ = false := by go_simp
  have hm1 : Hdr (((((w.alloc (.cells #[.int .i64 0] 3)).alloc (.cells #[.bool false] 4)).alloc (.cells #[.pointer (some ⟨mb, 0, none⟩)] 27)).alloc (.cells #[.int .i64 kind] 3)).alloc (.cells #[.int .i64 own] 3)) mb sb ss.length := Field.bkeep hB hm
  have hs1 : SlotsAt (((((w.alloc (.cells #[.int .i64 0] 3)).alloc (.cells #[.bool false] 4)).alloc (.cells #[.pointer (some ⟨mb, 0, none⟩)] 27)).alloc (.cells #[.int .i64 kind] 3)).alloc (.cells #[.int .i64 own] 3)) sb ss := hs.stable (hB.block sb hl)
  try simp only [World.size_alloc]
  generalize ((((w.alloc (.cells #[.int .i64 0] 3)).alloc (.cells #[.bool false] 4)).alloc (.cells #[.pointer (some ⟨mb, 0, none⟩)] 27)).alloc (.cells #[.int .i64 kind] 3)).alloc (.cells #[.int .i64 own] 3) = wq at *
  refine wpIn_rangeC (gf := 98) (lb := #[.pointer (some ⟨w.heap.size + 1 + 1, 0, none⟩), .pointer (some ⟨w.heap.size + 1 + 1 + 1, 0, none⟩), .pointer (some ⟨w.heap.size + 1 + 1 + 1 + 1, 0, none⟩)]) rfl
    (enters_of Tryz.func98 (by kernel_rfl) rfl) (encs := fun x : Nat => #[.int .i64 x]) (I := fI sb ss.length) (Ww := fun k => k = w.heap.size ∨ k = w.heap.size + 1) (Wr := fun _ => False)
    (Skips := fSkips sb ss.length kind own) (Yields := fYields sb ss.length kind own) (Done := fun i _ => i = ss.length) (s0 := 0)
    ?hps ?hRd ?hseq (firstK w sb ss kind own) (firstX w ss kind own) ?hKI ?hKs ?hKk ?hKt ?hKxt ?hYt (fun _ _ _ h _ => h) ?hYc ?h0 ?round ?done ?stop
  case hps => intro x; rfl
  case hKI => exact fun s W h => ⟨ss, rfl, h.2.1⟩
  case hRd =>
    have := World.block_lt_of_cell? _ _ r2
    rintro k ((rfl | rfl) | hk)
    · simp at this; omega
    · simpa using this
    · exact hk.elim
  case hseq =>
    intro W1 hT
    have hsz := hB.size
    have hmw : mb < w.heap.size := World.block_lt_of_cell? _ _ hm
    exact fits_seq _ _ _ mb sb ss.length kind own _ W1 hk hn (hT.cell b1) (hT.cell b2) (hT.cell b3) (hT.cell hm1) (by omega) (by omega) (by omega) (by omega) (fun k hk => by
      have h2 := World.block_lt_of_cell? _ _ (hT.cell r2)
      simp at h2
      rcases hk with rfl | rfl <;> omega)
  case hKs =>
    rintro s W W' ⟨k1, k2, k3, k4, k5, k6, k7⟩ hc
    have hb := below_false hc
    have h2 := World.block_lt_of_cell? _ _ k5
    exact ⟨k1, k2.stable (hc.block sb (by simp at h2; omega) id), k3.trans (hb.mono k3.size), Field.bkeep hb k4, Field.bkeep hb k5, Field.bkeepz hb k4 k6, Field.bkeepz hb k5 k7⟩
  case hKk =>
    rintro s s' W ⟨⟨k0, k1⟩, k2, k3⟩ ⟨q1, rfl, q3⟩
    refine ⟨⟨by omega, fun j t hj ht => ?_⟩, k2, k3⟩
    rcases Nat.lt_succ_iff_lt_or_eq.1 hj with h | rfl
    · exact k1 j t h ht
    · obtain ⟨ss', e1, e2, e3⟩ := q3
      obtain ⟨t', ht'⟩ : ∃ t', ss'[j]? = some t' := ⟨_, List.getElem?_eq_getElem (by omega)⟩
      rw [slots_one k2 e2 ht ht']; exact e3 _ ht'
  case hKt =>
    rintro s W W' ⟨k1, k2, k3, k4, k5, k6, k7⟩ ht
    have hsz := hB.size
    exact ⟨k1, ⟨fun i s hs j v hv => ht.cell (k2.1 i s hs j v hv), fun i j hi hj => (ht.frozen (k2.1 i ss[i] (List.getElem?_eq_getElem hi) j _ (Array.getElem?_eq_getElem (by simpa [S.cells] using hj)))).trans (k2.2 i j hi hj)⟩,
      ht.below k3 hsz (Nat.le_refl _), ht.cell k4, ht.cell k5, (ht.frozen k4).trans k6, (ht.frozen k5).trans k7⟩
  case hKxt =>
    rintro c W W' ⟨rfl, i, k1, k2, k3, k4, k5⟩ ht
    exact ⟨rfl, i, k1, k2, ht.below k3 hB.size (Nat.le_refl _), ht.cell k4, ht.cell k5⟩
  case hYt =>
    rintro s x s' W W' ⟨q1, q2, q3, ss', e1, e2, e3⟩ ht
    exact ⟨q1, q2, q3, ss', e1, slots_turn e2 ht, e3⟩
  case hYc =>
    rintro s x s' W W' ⟨q1, q2, q3, ss', e1, e2, e3⟩ hc
    exact ⟨q1, q2, q3, ss', e1, e2.stable (hc.block sb (e2.lt (by omega)) id), e3⟩
  case h0 => exact ⟨⟨by omega, fun j s hj => absurd hj (by omega)⟩, hs1, hB, r1, r2, z1, z2⟩
  case round =>
    intro L s x s' W hL hLW hk hy
    gi_wp2
    refine ⟨Chg.refl _ _, ?_⟩
    rintro W2 hT2 - ⟨⟨k0, k1⟩, k2, k3, k4, k5, k6, k7⟩ ⟨q1, rfl, rfl, q3⟩
    have hlt := World.block_lt_of_cell? _ _ k5
    clear hT2 hy hk hLW hL
    have KB : KeepsB (fun k => k = w.heap.size ∨ k = w.heap.size + 1) W2 ((W2.setCell ⟨w.heap.size, 0, none⟩ (.int .i64 x)).setCell ⟨w.heap.size + 1, 0, none⟩ (.bool true)) :=
      KeepsB.of_chg (F := fun k => k = w.heap.size ∨ k = w.heap.size + 1) (((Chg.refl _ _).setCell ⟨w.heap.size, 0, none⟩ (.int .i64 x) (fun _ => .inl rfl)).setCell ⟨w.heap.size + 1, 0, none⟩ (.bool true) (fun _ => .inr rfl)) (fun _ _ h => h)
    have hX : firstX w ss kind own .ret ((W2.setCell ⟨w.heap.size, 0, none⟩ (.int .i64 x)).setCell ⟨w.heap.size + 1, 0, none⟩ (.bool true)) := by
      refine ⟨rfl, x, ?_, k1, (k3.setCell (by simp) _).setCell (by simp) _, ?_, ?_⟩
      · obtain ⟨ss', e1, e2, e3⟩ := q3
        obtain ⟨t, ht⟩ : ∃ t, ss[x]? = some t := ⟨_, List.getElem?_eq_getElem q1⟩
        obtain ⟨t', ht'⟩ : ∃ t', ss'[x]? = some t' := ⟨_, List.getElem?_eq_getElem (by omega)⟩
        exact ⟨t, ht, by rw [slots_one k2 e2 ht ht']; exact e3 _ ht'⟩
      · rw [World.cell?_setCell_other _ _ _ _ (by simp)]; exact World.cell?_setCell_same _ _ _ k4
      · exact World.cell?_setCell_same _ _ (.bool true) (by rw [World.cell?_setCell_other _ _ _ _ (by simp)]; exact k5)
    have HX := Lib.hid hX
    have HKB := Lib.hid KB
    clear hX KB q3 k0 k1 k2 k3
    gi_wp2_with fail
    exact ⟨HKB.out, HX.out⟩
  case done =>
    rintro D s W hD rfl ⟨⟨k0, k1⟩, k2, k3, k4, k5, k6, k7⟩ hK
    have hres := firstAt_none kind own ss (fun j t ht => k1 j t (List.getElem?_eq_some_iff.1 ht).1 ht)
    have hsz := World.block_lt_of_cell? _ _ r2
    have HR := Lib.hid hres
    clear hres k0 k1
    gi_wp2
    try simp at hD
    have hK2 : ((W.setCell ⟨w.heap.size, 0, none⟩ (.int .i64 0)).setCell ⟨w.heap.size + 1, 0, none⟩ (.bool false)).heap[D]? = some (.deferred (some [])) := ((Below.heap_setCell _ _ _ _ (by simp; omega)).trans (Below.heap_setCell _ _ _ _ (by simp; omega))).trans hK
    have h7 := (k3.setCell (p := ⟨w.heap.size, 0, none⟩) (by simp) (.int .i64 0)).setCell (p := ⟨w.heap.size + 1, 0, none⟩) (by simp) (.bool false)
    have h8 : ((W.setCell ⟨w.heap.size, 0, none⟩ (.int .i64 0)).setCell ⟨w.heap.size + 1, 0, none⟩ (.bool false)).cell? ⟨w.heap.size, 0, none⟩ = some (.int .i64 0) := by
      rw [World.cell?_setCell_other _ _ _ _ (by simp)]; exact World.cell?_setCell_same _ _ _ k4
    have h9 : ((W.setCell ⟨w.heap.size, 0, none⟩ (.int .i64 0)).setCell ⟨w.heap.size + 1, 0, none⟩ (.bool false)).cell? ⟨w.heap.size + 1, 0, none⟩ = some (.bool false) :=
      World.cell?_setCell_same _ _ (.bool false) (by rw [World.cell?_setCell_other _ _ _ _ (by simp)]; exact k5)
    generalize (W.setCell ⟨w.heap.size, 0, none⟩ (.int .i64 0)).setCell ⟨w.heap.size + 1, 0, none⟩ (.bool false) = W3 at *
    have hT : Turn w.heap.size W3 (W3.putObj D (.deferred none)) := (Turn.refl _ _).putObj _ (by omega) hK2 rfl
    have hc := hT.cell h8
    have hd := hT.cell h9
    refine ⟨by simp, .inl ⟨_, _, rfl, run_takeDeferred hK2, ?_⟩⟩
    exact ⟨.tuple #[.int .i64 0, .bool false], by simp [results, Tryz.results83, go_sem, hc, hd], by rw [HR.out]; rfl, hT.below h7 (Nat.le_refl _) (Nat.le_refl _)⟩
  case stop =>
    rintro D cc W hD ⟨rfl, i, k1, k2, k3, k4, k5⟩ hK
    have hres := firstAt_some kind own ss i k1 k2
    have hsz := World.block_lt_of_cell? _ _ r2
    have HR := Lib.hid hres
    clear hres k1 k2
    gi_wp2
    try simp at hD
    have hT : Turn w.heap.size W (W.putObj D (.deferred none)) := (Turn.refl _ _).putObj _ (by omega) hK rfl
    have hc := hT.cell k4
    have hd := hT.cell k5
    refine ⟨by simp, .inl ⟨_, _, rfl, run_takeDeferred hK, ?_⟩⟩
    exact ⟨.tuple #[.int .i64 i, .bool true], by simp [results, Tryz.results83, go_sem, hc, hd], by rw [HR.out]; rfl, hT.below k3 (Nat.le_refl _) (Nat.le_refl _)⟩
end Go.Proofs.YtpmkgddjgebojaaGreatDoor.Mod

namespace Go.Proofs.YtpmkgddjgebojaaGreatDoor.RingBool
set_option linter.unusedVariables false
set_option linter.unusedSimpArgs false
open Go.RowKit Hp

abbrev El := Bool
abbrev val (x : El) : Value := .bool x
def fp (rb : Nat) (v : Value) (k : Nat) : Prop := k = rb ∨ Fp v k

structure At (w : World) (rb : Nat) (v : Value) (l : List El) (room : Int) : Prop where
  c0 : w.cell? ⟨rb, 0, none⟩ = some v
  c1 : w.cell? ⟨rb, 1, none⟩ = some (.int .i64 room)
  f0 : w.frozen? ⟨rb, 0, none⟩ = false
  own : OwnS w v l.length 1 (l.map val)
  sep : ¬ Fp v rb
  r0 : 0 ≤ room
  r1 : room ≤ 1000000
  fits : (l.length : Int) ≤ room

theorem At.lt {w : World} {rb : Nat} {v : Value} {l : List El} {room : Int} (h : At w rb v l room) {k : Nat} (hk : fp rb v k) : k < w.heap.size := by
  rcases hk with rfl | hk
  · exact World.block_lt_of_cell? _ _ h.c0
  · exact h.own.lt hk
theorem At.stable {w w' : World} {rb : Nat} {v : Value} {l : List El} {room : Int} (h : At w rb v l room) (hs : w.heap.size ≤ w'.heap.size) (hb : ∀ k, fp rb v k → w'.heap[k]? = w.heap[k]?) : At w' rb v l room :=
  ⟨(World.cell?_of_block (w := w) (hb rb (.inl rfl))).trans h.c0, (World.cell?_of_block (w := w) (hb rb (.inl rfl))).trans h.c1, (World.frozen?_of_block (w := w) (hb rb (.inl rfl))).trans h.f0,
    h.own.stable hs fun k hk => hb k (.inr hk), h.sep, h.r0, h.r1, h.fits⟩
theorem At.chg {F : Nat → Prop} {w w' : World} {rb : Nat} {v : Value} {l : List El} {room : Int} (h : At w rb v l room) (hc : Chg F w w') (hf : ∀ k, fp rb v k → ¬ F k) : At w' rb v l room :=
  h.stable hc.size fun k hk => hc.block k (h.lt hk) (hf k hk)
theorem At.drew {w : World} {rb : Nat} {v : Value} {l : List El} {room : Int} (h : At w rb v l room) : At w.drew rb v l room := h.stable (Nat.le_refl _) fun _ _ => rfl

/-- What stands behind a step: the answer, the line, what of memory is touched. -/
def Post (w : World) (rb : Nat) (v : Value) (ans : Value) (l' : List El) (room : Int) (e : Ending) (w' : World) : Prop :=
  e = .returned ans ∧ ∃ v', At w' rb v' l' room ∧ (∀ k, Fp v' k → Fp v k ∨ w.heap.size ≤ k) ∧ Chg (fp rb v) w w'

/-- As Post; no new block is the line's. -/
def PostP (w : World) (rb : Nat) (v : Value) (ans : Value) (l' : List El) (room : Int) (e : Ending) (w' : World) : Prop :=
  e = .returned ans ∧ ∃ v', At w' rb v' l' room ∧ (∀ k, Fp v' k → Fp v k) ∧ Chg (fp rb v) w w'

def clamp (n : Int) : Int := min (max n 0) 1000000
theorem clamp_bd (n : Int) : 0 ≤ clamp n ∧ clamp n ≤ 1000000 := by unfold clamp; omega

set_option maxHeartbeats 400000 in
theorem new_any (w : World) (n : Int) : Calls Tryz.prog 65 #[.int .i64 n] w fun e w' =>
    e = .returned (.pointer (some ⟨w.heap.size, 0, none⟩)) ∧ w' = w.alloc (.cells #[.slice none 0 0, .int .i64 (clamp n)] 133) := by
  go_enter Tryz.func65, Tryz.ntmps65
  go_wp2
  all_goals go_ret
  all_goals (refine ⟨rfl, congrArg (fun k => w.alloc (.cells #[.slice none 0 0, .int .i64 k] 133)) ?_⟩; unfold clamp; omega)

theorem at_new (w : World) (n : Int) : At (w.alloc (.cells #[.slice none 0 0, .int .i64 (clamp n)] 133)) w.heap.size (.slice none 0 0) [] (clamp n) := by
  obtain ⟨h0, h1⟩ := clamp_bd n
  exact ⟨by simp, by simp, by simp, ownS_nil _ _, fp_nil _, h0, h1, by simpa using h0⟩

theorem info : (Tryz.prog.info? 4).map (fun i => (i.zero, i.size, i.bytes)) = some (some (.bool false), 1, 1) := by kernel_rfl

set_option maxHeartbeats 400000 in
theorem push_no (w : World) (rb : Nat) (v : Value) (l : List El) (room : Int) (x : El) (h : At w rb v l room) (hf : room ≤ l.length) :
    Calls Tryz.prog 93 #[.pointer (some ⟨rb, 0, none⟩), val x] w (Post w rb v (.bool false) l room) := by
  obtain ⟨a, c, rfl⟩ := h.own.form
  have h0 := h.c0
  have h1 := h.c1
  have hl := h.own.len
  go_enter Tryz.func93, Tryz.ntmps93
  go_wp2
  go_region
  go_wp2
  go_ret
  exact ⟨rfl, _, h.drew, fun k hk => .inl hk, (Chg.refl _ _).drew⟩

set_option maxRecDepth 100000 in
set_option maxHeartbeats 1000000 in
theorem push_yes (w : World) (rb : Nat) (v : Value) (l : List El) (room : Int) (x : El) (h : At w rb v l room) (hf : l.length < room) :
    Calls Tryz.prog 93 #[.pointer (some ⟨rb, 0, none⟩), val x] w (Post w rb v (.bool true) (l ++ [x]) room) := by
  obtain ⟨a, c, rfl⟩ := h.own.form
  have h0 := h.c0
  have h1 := h.c1
  have hl := h.own.len
  have h2 := h.f0
  have h3 := h.r1
  have hlt : rb < w.heap.size := World.block_lt_of_cell? _ _ h.c0
  have hown : OwnS (w.drew.alloc (.cells #[val x] 4)) (.slice a l.length c) l.length 1 (l.map val) := h.own.drew.alloc _
  obtain ⟨i0, hi, hz0, hz1, hz2⟩ := info_parts info
  go_enter Tryz.func93, Tryz.ntmps93
  go_wp2
  go_region
  go_wp2_with (at_builtin; refine wpList_append _ rfl _ _ 86 rfl 4 i0 (.bool false) 1 1 Tryz.underlying86 hi hz0 hz1 hz2 rfl (by decide) _ _ _ rfl hown ⟨w.heap.size, 0, none⟩ 1 1 [val x] rfl rfl ?c1 ?c2 ?c3 ?c4 ?_)
  case c1 => exact one_new _ _ _
  case c2 => simp [Value.oneCell']
  case c3 => unfold maxLen; omega
  case c4 => omega
  intro a' c' w' hown' hfp hch
  have hch' : Chg (Fp (.slice a l.length c)) w w' := Chg.trans ((Chg.refl _ w).drew.alloc _) hch (fun k _ hk => hk)
  have e0 : w'.cell? ⟨rb, 0, none⟩ = some (.slice a l.length c) := (hch'.cell hlt h.sep).trans h.c0
  have e1 : w'.cell? ⟨rb, 1, none⟩ = some (.int .i64 room) := (hch'.cell hlt h.sep).trans h.c1
  have e2 : w'.frozen? ⟨rb, 0, none⟩ = false := (hch'.frozen hlt h.sep).trans h.f0
  have hw1 : Chg (fp rb (.slice a l.length c)) w w' := hch'.mono fun k _ hk => .inr hk
  have hsz := hw1.size
  have hrb : ¬ Fp (.slice a' (l.length + 1) c') rb := fun hk => by
    rcases hfp rb hk with h' | h'
    · exact h.sep h'
    · first | omega | (simp at h'; omega)
  clear h0 h1 h2
  go_wp2
  go_ret
  refine ⟨rfl, _, ⟨World.cell?_setCell_same _ _ _ e0, ?_, by simp [e2], ?_, hrb, h.r0, h.r1, by simp; omega⟩, fun k hk => ?_, hw1.setCell _ _ (fun _ => .inl rfl)⟩
  · rw [World.cell?_setCell_other _ _ _ _ (by simp)]; exact e1
  · have := hown'.chg (F := fun k => k = rb) ((Chg.refl _ _).setCell ⟨rb, 0, none⟩ (.slice a' (l.length + 1) c') (fun _ => rfl)) (fun k hk e => hrb (e ▸ hk))
    simpa using this
  · rcases hfp k hk with h' | h'
    · exact .inl h'
    · exact .inr (by first | omega | (simp at h'; omega))

set_option maxHeartbeats 400000 in
theorem pop_none (w : World) (rb : Nat) (v : Value) (room : Int) (h : At w rb v [] room) :
    Calls Tryz.prog 104 #[.pointer (some ⟨rb, 0, none⟩)] w fun e w' => e = .returned (.tuple #[(.bool false), .bool false]) ∧ w = w' := by
  obtain ⟨a, c, rfl⟩ := h.own.form
  have h0 := h.c0
  go_enter Tryz.func104, Tryz.ntmps104
  go_wp2
  go_ret2
  exact ⟨rfl, rfl⟩


/-- Behind x := things[0]; things[0] = none; things = things[1:], where something is left. -/
theorem own_tail {w : World} {g off c : Nat} {x : El} {r : List El} (z : Value) (h : OwnS w (.slice (some ⟨g, off, none⟩) (r.length + 1) c) (r.length + 1) 1 ((x :: r).map val)) (h2 : c ≠ 1) (hz : w.cell? ⟨g, off, none⟩ = some (val x)) :
    OwnS (w.setCell ⟨g, off, none⟩ z) (.slice (some ⟨g, off + 1, none⟩) r.length (c - 1)) r.length 1 (r.map val) := by
  obtain ⟨hl, h | ⟨g', off', c', e, h1, h3, h4, h5, h6, h7⟩⟩ := h
  · cases h.1
  · cases e
    refine ⟨by simp, .inr ⟨g, off + 1, c - 1, rfl, by omega, by omega, h4.setCell _ _, fun j hj => ?_, fun j hj => ?_, fun j u hu => ?_⟩⟩
    · rw [World.cell?_setCell_other _ _ _ _ (by simp), show off + 1 + j = off + (j + 1) by omega]; exact h5 _ (by omega)
    · rw [World.frozen?_setCell, show off + 1 + j = off + (j + 1) by omega]; exact h6 _ (by omega)
    · rw [World.cell?_setCell_other _ _ _ _ (by simp), show off + 1 + j = off + (j + 1) by omega]; exact h7 _ _ (by simpa using hu)

set_option maxHeartbeats 1000000 in
theorem pop_somep (w : World) (rb : Nat) (v : Value) (x : El) (r : List El) (room : Int) (h : At w rb v (x :: r) room) :
    Calls Tryz.prog 104 #[.pointer (some ⟨rb, 0, none⟩)] w (PostP w rb v (.tuple #[val x, .bool true]) r room) := by
  have h0 := h.c0
  have h1 := h.c1
  have h2 := h.f0
  have h3 := h.r1
  have h4 := h.sep
  have h5 := h.own
  have h6 := h.fits
  have hlt : rb < w.heap.size := World.block_lt_of_cell? _ _ h.c0
  obtain ⟨g, off, c, rfl, hc1, hc2, hg, hcell, hfrz, hval⟩ := h.own.some (by simp)
  simp only [List.length_cons] at hc1 h5 h6
  have hx : w.cell? ⟨g, off, none⟩ = some (val x) := hval 0 _ (by simp)
  have hfx : w.frozen? ⟨g, off, none⟩ = false := hfrz 0 (by omega)
  rw [fp_some] at h4
  simp only at h4
  have hne : ¬ ((⟨g, off, none⟩ : Addr) = ⟨rb, 0, none⟩) := fun e => h4 (by cases e; rfl)
  have hne' : ¬ ((⟨g, off, none⟩ : Addr) = ⟨rb, 1, none⟩) := fun e => h4 (by cases e; rfl)
  have hrb : (w.setCell ⟨g, off, none⟩ (.bool false)).cell? ⟨rb, 0, none⟩ = some (.slice (some ⟨g, off, none⟩) (r.length + 1) c) := by
    rw [World.cell?_setCell_other _ _ _ _ hne]; exact h0
  have hrb1 : (w.setCell ⟨g, off, none⟩ (.bool false)).cell? ⟨rb, 1, none⟩ = some (.int .i64 room) := by
    rw [World.cell?_setCell_other _ _ _ _ hne']; exact h1
  have hx' : (w.setCell ⟨g, off, none⟩ (.bool false)).cell? ⟨g, off, none⟩ = some (.bool false) := World.cell?_setCell_same _ _ _ hx
  have hch : Chg (fp rb (.slice (some ⟨g, off, none⟩) (r.length + 1) c)) w (w.setCell ⟨g, off, none⟩ (.bool false)) := (Chg.refl _ _).setCell _ _ (fun _ => .inr ((fp_some _ _ _ _).2 rfl))
  by_cases hcap : c = 1
  · subst hcap
    obtain rfl : r = [] := List.eq_nil_of_length_eq_zero (by omega)
    simp only [List.length_nil, Nat.zero_add] at *
    have hrb2 := World.cell?_setCell_same (w.setCell ⟨g, off, none⟩ (.bool false)) ⟨rb, 0, none⟩ (.slice (some ⟨g, off, none⟩) 0 0) hrb
    go_enter Tryz.func104, Tryz.ntmps104
    go_wp2
    go_ret2
    refine ⟨rfl, _, ⟨World.cell?_setCell_same _ _ _ hrb2, ?_, by simp [h2], ownS_nil _ _, fp_nil _, h.r0, h.r1, by have := h.r0; simpa using this⟩, fun k hk => (fp_nil _ hk).elim,
      (hch.setCell _ _ (fun _ => .inl rfl)).setCell _ _ (fun _ => .inl rfl)⟩
    rw [World.cell?_setCell_other _ _ _ _ (by simp), World.cell?_setCell_other _ _ _ _ (by simp)]; exact hrb1
  · have hrb2 := World.cell?_setCell_same (w.setCell ⟨g, off, none⟩ (.bool false)) ⟨rb, 0, none⟩ (.slice (some ⟨g, off + 1, none⟩) r.length (c - 1)) hrb
    cases r with
    | nil =>
      simp only [List.length_nil, Nat.zero_add] at *
      go_enter Tryz.func104, Tryz.ntmps104
      go_wp2
      go_ret2
      refine ⟨rfl, _, ⟨World.cell?_setCell_same _ _ _ hrb2, ?_, by simp [h2], ownS_nil _ _, fp_nil _, h.r0, h.r1, by have := h.r0; simpa using this⟩, fun k hk => (fp_nil _ hk).elim,
        (hch.setCell _ _ (fun _ => .inl rfl)).setCell _ _ (fun _ => .inl rfl)⟩
      rw [World.cell?_setCell_other _ _ _ _ (by simp), World.cell?_setCell_other _ _ _ _ (by simp)]; exact hrb1
    | cons y r =>
      have hot := own_tail (.bool false) h5 hcap hx
      simp only [List.length_cons] at *
      go_enter Tryz.func104, Tryz.ntmps104
      go_wp2
      go_ret2
      refine ⟨rfl, _, ⟨hrb2, ?_, by simp [h2], ?_, ?_, h.r0, h.r1, by simp; omega⟩, fun k hk => ?_, hch.setCell _ _ (fun _ => .inl rfl)⟩
      · rw [World.cell?_setCell_other _ _ _ _ (by simp)]; exact hrb1
      · have := hot.chg (F := fun k => k = rb) ((Chg.refl _ _).setCell ⟨rb, 0, none⟩ (.slice (some ⟨g, off + 1, none⟩) (r.length + 1) (c - 1)) (fun _ => rfl)) (fun k hk e => by rw [fp_some] at hk; simp at hk; omega)
        simpa using this
      · rw [fp_some]; simpa using h4
      · rw [fp_some] at hk; exact (fp_some _ _ _ _).2 hk
theorem pop_some (w : World) (rb : Nat) (v : Value) (x : El) (r : List El) (room : Int) (h : At w rb v (x :: r) room) :
    Calls Tryz.prog 104 #[.pointer (some ⟨rb, 0, none⟩)] w (Post w rb v (.tuple #[val x, .bool true]) r room) :=
  (pop_somep w rb v x r room h).mono fun _ _ ⟨h0, v', h1, h2, h3⟩ => ⟨h0, v', h1, fun k hk => .inl (h2 k hk), h3⟩
end Go.Proofs.YtpmkgddjgebojaaGreatDoor.RingBool

namespace Go.Proofs.YtpmkgddjgebojaaGreatDoor.World11
set_option linter.unusedVariables false
set_option linter.unusedSimpArgs false
open Go.RowKit Hp

def wfp (wb rb : Nat) (v : Value) (k : Nat) : Prop := k = wb ∨ RingBool.fp rb v k

structure WAt (w : World) (wb rb : Nat) (v : Value) (l : List Bool) (g b : Int) : Prop where
  c0 : w.cell? ⟨wb, 0, none⟩ = some (.pointer (some ⟨rb, 0, none⟩))
  c1 : w.cell? ⟨wb, 1, none⟩ = some (.int .i64 g)
  c2 : w.cell? ⟨wb, 2, none⟩ = some (.int .i64 b)
  f1 : w.frozen? ⟨wb, 1, none⟩ = false
  f2 : w.frozen? ⟨wb, 2, none⟩ = false
  ring : RingBool.At w rb v l 1000
  sep : ¬ RingBool.fp rb v wb

theorem WAt.lt {w : World} {wb rb : Nat} {v : Value} {l : List Bool} {g b : Int} (h : WAt w wb rb v l g b) {k : Nat} (hk : wfp wb rb v k) : k < w.heap.size := by
  rcases hk with rfl | hk
  · exact World.block_lt_of_cell? _ _ h.c0
  · exact h.ring.lt hk
theorem WAt.stable {w w' : World} {wb rb : Nat} {v : Value} {l : List Bool} {g b : Int} (h : WAt w wb rb v l g b) (hs : w.heap.size ≤ w'.heap.size) (hb : ∀ k, wfp wb rb v k → w'.heap[k]? = w.heap[k]?) : WAt w' wb rb v l g b :=
  ⟨(World.cell?_of_block (w := w) (hb wb (.inl rfl))).trans h.c0, (World.cell?_of_block (w := w) (hb wb (.inl rfl))).trans h.c1, (World.cell?_of_block (w := w) (hb wb (.inl rfl))).trans h.c2,
    (World.frozen?_of_block (w := w) (hb wb (.inl rfl))).trans h.f1, (World.frozen?_of_block (w := w) (hb wb (.inl rfl))).trans h.f2, h.ring.stable hs fun k hk => hb k (.inr hk), h.sep⟩
theorem WAt.chg {F : Nat → Prop} {w w' : World} {wb rb : Nat} {v : Value} {l : List Bool} {g b : Int} (h : WAt w wb rb v l g b) (hc : Chg F w w') (hf : ∀ k, wfp wb rb v k → ¬ F k) : WAt w' wb rb v l g b :=
  h.stable hc.size fun k hk => hc.block k (h.lt hk) (hf k hk)
theorem WAt.below {w w' : World} {wb rb : Nat} {v : Value} {l : List Bool} {g b : Int} (h : WAt w wb rb v l g b) (hc : Below w.heap.size w w') : WAt w' wb rb v l g b :=
  h.stable hc.size fun k hk => hc.block k (h.lt hk)

/-- What stands behind a step. -/
def Post (w : World) (wb rb : Nat) (v : Value) (ans : Value) (l' : List Bool) (g' b' : Int) (e : Ending) (w' : World) : Prop :=
  e = .returned ans ∧ ∃ v', WAt w' wb rb v' l' g' b' ∧ (∀ k, Fp v' k → Fp v k ∨ w.heap.size ≤ k) ∧ Chg (wfp wb rb v) w w'

theorem WAt.step {w w' : World} {wb rb : Nat} {v ans : Value} {l l' : List Bool} {g b : Int} {e : Ending} (h : WAt w wb rb v l g b) (hp : RingBool.Post w rb v ans l' 1000 e w') : Post w wb rb v ans l' g b e w' := by
  obtain ⟨rfl, v', h1, h2, h3⟩ := hp
  have hlt := World.block_lt_of_cell? _ _ h.c0
  have hb := h3.block wb hlt h.sep
  refine ⟨rfl, v', ⟨(World.cell?_of_block (w := w) hb).trans h.c0, (World.cell?_of_block (w := w) hb).trans h.c1, (World.cell?_of_block (w := w) hb).trans h.c2, (World.frozen?_of_block (w := w) hb).trans h.f1, (World.frozen?_of_block (w := w) hb).trans h.f2, h1, fun hk => ?_⟩, h2, h3.mono fun k _ hk => .inr hk⟩
  rcases hk with e | hk
  · exact h.sep (.inl e)
  · rcases h2 _ hk with h' | h'
    · exact h.sep (.inr h')
    · simp at hlt; omega

theorem WAt.good {w : World} {wb rb : Nat} {v : Value} {l : List Bool} {g b : Int} (h : WAt w wb rb v l g b) (g' : Int) : WAt (w.setCell ⟨wb, 1, none⟩ (.int .i64 g')) wb rb v l g' b := by
  refine ⟨by rw [World.cell?_setCell_other _ _ _ _ (by simp)]; exact h.c0, World.cell?_setCell_same _ _ _ h.c1, by rw [World.cell?_setCell_other _ _ _ _ (by simp)]; exact h.c2, by simp [h.f1], by simp [h.f2],
    h.ring.chg (F := fun k => k = wb) ((Chg.refl _ _).setCell _ _ (fun _ => rfl)) (fun k hk e => h.sep (e ▸ hk)), h.sep⟩
theorem WAt.bad {w : World} {wb rb : Nat} {v : Value} {l : List Bool} {g b : Int} (h : WAt w wb rb v l g b) (b' : Int) : WAt (w.setCell ⟨wb, 2, none⟩ (.int .i64 b')) wb rb v l g b' := by
  refine ⟨by rw [World.cell?_setCell_other _ _ _ _ (by simp)]; exact h.c0, by rw [World.cell?_setCell_other _ _ _ _ (by simp)]; exact h.c1, World.cell?_setCell_same _ _ _ h.c2, by simp [h.f1], by simp [h.f2],
    h.ring.chg (F := fun k => k = wb) ((Chg.refl _ _).setCell _ _ (fun _ => rfl)) (fun k hk e => h.sep (e ▸ hk)), h.sep⟩

set_option maxHeartbeats 400000 in
theorem feed_no (w : World) (wb rb : Nat) (v : Value) (l : List Bool) (g b : Int) (x : Bool) (h : WAt w wb rb v l g b) (hf : 1000 ≤ l.length) :
    Calls Tryz.prog 62 #[.pointer (some ⟨wb, 0, none⟩), .bool x] w (Post w wb rb v (.bool false) l g b) := by
  have h0 := h.c0
  have hp := RingBool.push_no w rb v l 1000 x h.ring (by omega)
  go_enter Tryz.func62, Tryz.ntmps62
  go_wp2_with fail
  refine hp.mono ?_
  intro e w' hp'
  obtain ⟨rfl, hq⟩ := h.step hp'
  go_wp2_with fail
  go_ret
  exact ⟨rfl, hq⟩

set_option maxHeartbeats 400000 in
theorem feed_yes (w : World) (wb rb : Nat) (v : Value) (l : List Bool) (g b : Int) (x : Bool) (h : WAt w wb rb v l g b) (hf : l.length < 1000) :
    Calls Tryz.prog 62 #[.pointer (some ⟨wb, 0, none⟩), .bool x] w (Post w wb rb v (.bool true) (l ++ [x]) g b) := by
  have h0 := h.c0
  have hp := RingBool.push_yes w rb v l 1000 x h.ring (by omega)
  go_enter Tryz.func62, Tryz.ntmps62
  go_wp2_with fail
  refine hp.mono ?_
  intro e w' hp'
  obtain ⟨rfl, hq⟩ := h.step hp'
  go_wp2_with fail
  go_ret
  exact ⟨rfl, hq⟩
end Go.Proofs.YtpmkgddjgebojaaGreatDoor.World11

namespace Go.Proofs.YtpmkgddjgebojaaGreatDoor.World11
set_option linter.unusedVariables false
set_option linter.unusedSimpArgs false
open Go.RowKit Hp

set_option maxHeartbeats 400000 in
theorem new_any (w : World) : Calls Tryz.prog 36 #[] w fun e w' =>
    e = .returned (.pointer (some ⟨w.heap.size + 1, 0, none⟩)) ∧ WAt w' (w.heap.size + 1) w.heap.size (.slice none 0 0) [] 0 0 ∧ Below w.heap.size w w' := by
  go_enter Tryz.func36, Tryz.ntmps36
  go_wp2_with fail
  refine (RingBool.new_any _ _).mono ?_
  rintro e w' ⟨rfl, rfl⟩
  have hA := RingBool.at_new w 1000
  generalize hw1 : w.alloc (.cells #[.slice none 0 0, .int .i64 (RingBool.clamp 1000)] 133) = w1 at *
  have hs1 : w1.heap.size = w.heap.size + 1 := by rw [← hw1]; simp
  have hb1 : Below w.heap.size w w1 := by rw [← hw1]; exact (Below.refl _ _).alloc (Nat.le_refl _) _
  have Hs := Lib.hid hs1
  clear hw1 hs1
  go_wp2_with fail
  go_ret
  have hs1 := Hs.out
  have hC : RingBool.clamp 1000 = 1000 := by decide
  rw [hC] at hA
  refine ⟨by rw [hs1]; rfl, ?_, hb1.alloc (by omega) _⟩
  rw [← hs1]
  exact ⟨by simp, by simp, by simp, by simp, by simp, hA.chg (F := fun _ => False) ((Chg.refl _ _).alloc _) (fun _ _ h => h), fun hk => by
    rcases hk with hk | hk
    · omega
    · exact (fp_nil _ hk).elim⟩

set_option maxHeartbeats 800000 in
theorem next_none (w : World) (wb rb : Nat) (v : Value) (g b : Int) (h : WAt w wb rb v [] g b) (hg : 0 ≤ g ∧ g ≤ 1000000) :
    Calls Tryz.prog 97 #[.pointer (some ⟨wb, 0, none⟩)] w (Post w wb rb v (.bool true) [] (g + 1) b) := by
  obtain ⟨g0, g1⟩ := hg
  have h0 := h.c0
  have h1 := h.c1
  have h2 := h.f1
  go_enter Tryz.func97, Tryz.ntmps97
  go_wp2_with fail
  refine (RingBool.pop_none w rb v 1000 h.ring).mono ?_
  rintro e w' ⟨rfl, rfl⟩
  go_wp2_with fail
  go_ret
  exact ⟨rfl, v, h.good (g + 1), fun k hk => .inl hk, (Chg.refl _ _).setCell _ _ (fun _ => .inl rfl)⟩

set_option maxHeartbeats 800000 in
theorem next_good (w : World) (wb rb : Nat) (v : Value) (l : List Bool) (g b : Int) (h : WAt w wb rb v (true :: l) g b) (hg : 0 ≤ g ∧ g ≤ 1000000) :
    Calls Tryz.prog 97 #[.pointer (some ⟨wb, 0, none⟩)] w (Post w wb rb v (.bool true) l (g + 1) b) := by
  obtain ⟨g0, g1⟩ := hg
  have h0 := h.c0
  have hp := RingBool.pop_some w rb v true l 1000 h.ring
  go_enter Tryz.func97, Tryz.ntmps97
  go_wp2_with fail
  refine hp.mono ?_
  intro e w' hp'
  obtain ⟨rfl, v', hA, hF, hC⟩ := h.step hp'
  clear h0 hp' hp
  have h1 := hA.c1
  have h2 := hA.f1
  go_wp2_with fail
  go_ret
  exact ⟨rfl, v', hA.good (g + 1), hF, hC.setCell _ _ (fun _ => .inl rfl)⟩

set_option maxHeartbeats 800000 in
theorem next_bad (w : World) (wb rb : Nat) (v : Value) (l : List Bool) (g b : Int) (h : WAt w wb rb v (false :: l) g b) (hb : 0 ≤ b ∧ b ≤ 1000000) :
    Calls Tryz.prog 97 #[.pointer (some ⟨wb, 0, none⟩)] w (Post w wb rb v (.bool false) l g (b + 1)) := by
  obtain ⟨g0, g1⟩ := hb
  have h0 := h.c0
  have hp := RingBool.pop_some w rb v false l 1000 h.ring
  go_enter Tryz.func97, Tryz.ntmps97
  go_wp2_with fail
  refine hp.mono ?_
  intro e w' hp'
  obtain ⟨rfl, v', hA, hF, hC⟩ := h.step hp'
  clear h0 hp' hp
  have h1 := hA.c2
  have h2 := hA.f2
  go_wp2_with fail
  go_ret
  exact ⟨rfl, v', hA.bad (b + 1), hF, hC.setCell _ _ (fun _ => .inl rfl)⟩

end Go.Proofs.YtpmkgddjgebojaaGreatDoor.World11

namespace Go.Proofs.YtpmkgddjgebojaaGreatDoor.Mod
set_option linter.unusedVariables false
set_option linter.unusedSimpArgs false
open Go.RowKit Hp Slot RowL Life

/-- A row of workers, from a block's start on. -/
def WorksAt (W : World) (kb : Nat) (ks : List Wk) : Prop :=
  (∀ (i : Nat) (k : Wk), ks[i]? = some k → ∀ (j : Nat) (v : Value), k.cells[j]? = some v → W.cell? ⟨kb, i * 9 + j, none⟩ = some v) ∧ (∀ i j : Nat, i < ks.length → j < 9 → W.frozen? ⟨kb, i * 9 + j, none⟩ = false)
section
variable {W W' : World} {kb : Nat} {ks : List Wk}
theorem WorksAt.stable (h : WorksAt W kb ks) (hb : W'.heap[kb]? = W.heap[kb]?) : WorksAt W' kb ks :=
  ⟨fun i s hs j v hv => (World.cell?_of_block (w := W) hb).trans (h.1 i s hs j v hv), fun i j hi hj => (World.frozen?_of_block (w := W) hb).trans (h.2 i j hi hj)⟩
theorem WorksAt.get (h : WorksAt W kb ks) {i : Nat} {k : Wk} (hs : ks[i]? = some k) : W.cell? ⟨kb, i * 9, none⟩ = some (.int .i64 k.at') ∧ W.cell? ⟨kb, i * 9 + 1, none⟩ = some (.int .i64 k.ask.op) ∧ W.cell? ⟨kb, i * 9 + 2, none⟩ = some (.int .i64 k.ask.deadline) ∧ W.cell? ⟨kb, i * 9 + 3, none⟩ = some (.bool k.ask.wait) ∧ W.cell? ⟨kb, i * 9 + 4, none⟩ = some (.bool k.ask.force) ∧ W.cell? ⟨kb, i * 9 + 5, none⟩ = some (.int .i64 k.ask.slot) ∧ W.cell? ⟨kb, i * 9 + 6, none⟩ = some (.int .i64 k.ask.gen) ∧ W.cell? ⟨kb, i * 9 + 7, none⟩ = some (.int .i64 k.ask.stream) ∧ W.cell? ⟨kb, i * 9 + 8, none⟩ = some (.int .i64 k.slot) :=
  ⟨h.1 i k hs 0 _ rfl, h.1 i k hs 1 _ rfl, h.1 i k hs 2 _ rfl, h.1 i k hs 3 _ rfl, h.1 i k hs 4 _ rfl, h.1 i k hs 5 _ rfl, h.1 i k hs 6 _ rfl, h.1 i k hs 7 _ rfl, h.1 i k hs 8 _ rfl⟩
theorem WorksAt.lt (h : WorksAt W kb ks) (hn : 0 < ks.length) : kb < W.heap.size := World.block_lt_of_cell? _ _ (h.1 0 ks[0] (List.getElem?_eq_getElem hn) 0 _ rfl)
/-- One worker is laid anew. -/
theorem WorksAt.setL (h : WorksAt W kb ks) {i : Nat} (hi : i < ks.length) (k : Wk) : WorksAt (W.setCells kb (i * 9) k.cells.toList) kb (ks.set i k) := by
  obtain ⟨h1, h2⟩ := h
  have hl : k.cells.toList.length = 9 := rfl
  have hlen : ∀ j : Nat, j < k.cells.toList.length → (W.cell? ⟨kb, i * 9 + j, none⟩).isSome = true := fun j hj => by
    rw [h1 i ks[i] (List.getElem?_eq_getElem hi) j _ (Array.getElem?_eq_getElem (by simpa [Wk.cells] using hj))]; rfl
  refine ⟨fun q t ht j v hv => ?_, fun q j hq hj => ?_⟩
  · have hj : j < 9 := by have := (Array.getElem?_eq_some_iff.1 hv).1; simpa [Wk.cells] using this
    rw [List.getElem?_set] at ht
    by_cases hki : i = q
    · subst hki
      simp [hi] at ht
      subst ht
      rw [World.cell?_setCells_in kb _ _ _ hlen j (by omega)]
      rw [← hv]
      simp
    · rw [if_neg hki] at ht
      rw [World.cell?_setCells_out kb _ _ _ _ (fun _ _ => by simp only [hl]; omega)]
      exact h1 q t ht j v hv
  · simp at hq
    rw [World.frozen?_setCells]
    exact h2 q j hq hj
/-- One cell of a worker is laid anew. -/
theorem WorksAt.set1 (h : WorksAt W kb ks) {i : Nat} {k k' : Wk} (hi : ks[i]? = some k) (c : Nat) (hc9 : c < 9) (v : Value) (hc : k'.cells = k.cells.setIfInBounds c v) : WorksAt (W.setCell ⟨kb, i * 9 + c, none⟩ v) kb (ks.set i k') := by
  obtain ⟨h1, h2⟩ := h
  have hil : i < ks.length := (List.getElem?_eq_some_iff.1 hi).1
  refine ⟨fun q t ht j u hu => ?_, fun q j hq hj => ?_⟩
  · have hj : j < 9 := by have := (Array.getElem?_eq_some_iff.1 hu).1; simpa [Wk.cells] using this
    rw [List.getElem?_set] at ht
    by_cases hki : i = q
    · subst hki
      simp [hil] at ht
      subst ht
      rw [hc, Array.getElem?_setIfInBounds] at hu
      by_cases hcj : c = j
      · subst hcj
        simp [Wk.cells, hj] at hu
        subst hu
        exact World.cell?_setCell_same _ _ _ (h1 i k hi c _ (Array.getElem?_eq_getElem (by simpa [Wk.cells] using hj)))
      · rw [if_neg hcj] at hu
        rw [World.cell?_setCell_other _ _ _ _ (by simp <;> omega)]
        exact h1 i k hi j u hu
    · rw [if_neg hki] at ht
      rw [World.cell?_setCell_other _ _ _ _ (by simp <;> omega)]
      exact h1 q t ht j u hu
  · simp at hq
    simp [h2 q j hq hj]
end

/-- Where a pool lies: itself, its slots, its workers, its clock, its world, and that one's ring; its line's row, and the ring's. -/
structure Pl where
  mb : Nat
  sb : Nat
  kb : Nat
  cb : Nat
  wb : Nat
  rb : Nat
  lv : Value
  rv : Value
/-- What is a pool's own. -/
def mfp (p : Pl) (k : Nat) : Prop := k = p.mb ∨ k = p.sb ∨ k = p.kb ∨ k = p.cb ∨ World11.wfp p.wb p.rb p.rv k ∨ Fp p.lv k

/-- What a pool is, whatever it does. -/
structure M.ok (m : M) : Prop where
  conf : m.cf.right = true
  nss : (m.ss.length : Int) = m.cf.slots
  nks : (m.ks.length : Int) = m.cf.workers
  rights : ∀ s ∈ m.ss, s.right = true
  line : ∀ x ∈ m.line, 0 ≤ x ∧ x < m.ks.length
  few : m.line.length ≤ 8
  grants : ∀ k ∈ m.ks, k.at' = 2 → 0 ≤ k.slot ∧ k.slot < m.ss.length
  closed : m.closed = 0 ∨ m.closed = 1 ∨ m.closed = 2
  now : 0 ≤ m.now ∧ m.now ≤ 1099511627776
  ahead : m.ahead.length ≤ 1000
theorem M.ok.ns {m : M} (h : m.ok) : 1 ≤ m.ss.length ∧ m.ss.length ≤ 16 := by
  have h1 := h.nss
  have h2 := h.conf
  simp [Conf.Cf.right, Conf.btw] at h2
  omega
theorem M.ok.nk {m : M} (h : m.ok) : 1 ≤ m.ks.length ∧ m.ks.length ≤ 8 := by
  have h1 := h.nks
  have h2 := h.conf
  simp [Conf.Cf.right, Conf.btw] at h2
  omega

/-- The pool's own block. -/
structure Hd (W : World) (p : Pl) (c : Conf.Cf) (ns nk : Nat) (closed : Int) : Prop where
  c0 : W.cell? ⟨p.mb, 0, none⟩ = some (.int .i64 c.workers)
  c1 : W.cell? ⟨p.mb, 1, none⟩ = some (.int .i64 c.slots)
  c2 : W.cell? ⟨p.mb, 2, none⟩ = some (.int .i64 c.streams)
  c3 : W.cell? ⟨p.mb, 3, none⟩ = some (.int .i64 c.waiters)
  c4 : W.cell? ⟨p.mb, 4, none⟩ = some (.int .i64 c.uses)
  c5 : W.cell? ⟨p.mb, 5, none⟩ = some (.slice (some ⟨p.sb, 0, none⟩) ns ns)
  c6 : W.cell? ⟨p.mb, 6, none⟩ = some (.slice (some ⟨p.kb, 0, none⟩) nk nk)
  c7 : W.cell? ⟨p.mb, 7, none⟩ = some p.lv
  c8 : W.cell? ⟨p.mb, 8, none⟩ = some (.int .i64 closed)
  c9 : W.cell? ⟨p.mb, 9, none⟩ = some (.pointer (some ⟨p.cb, 0, none⟩))
  c10 : W.cell? ⟨p.mb, 10, none⟩ = some (.pointer (some ⟨p.wb, 0, none⟩))
  f7 : W.frozen? ⟨p.mb, 7, none⟩ = false
  f8 : W.frozen? ⟨p.mb, 8, none⟩ = false
theorem Hd.stable {W W' : World} {p : Pl} {c : Conf.Cf} {ns nk : Nat} {closed : Int} (h : Hd W p c ns nk closed) (hb : W'.heap[p.mb]? = W.heap[p.mb]?) : Hd W' p c ns nk closed := by
  have e : ∀ o, W'.cell? ⟨p.mb, o, none⟩ = W.cell? ⟨p.mb, o, none⟩ := fun o => World.cell?_of_block (w := W) hb
  have f : ∀ o, W'.frozen? ⟨p.mb, o, none⟩ = W.frozen? ⟨p.mb, o, none⟩ := fun o => World.frozen?_of_block (w := W) hb
  constructor <;> first | (rw [e]; first | exact h.c0 | exact h.c1 | exact h.c2 | exact h.c3 | exact h.c4 | exact h.c5 | exact h.c6 | exact h.c7 | exact h.c8 | exact h.c9 | exact h.c10) | (rw [f]; first | exact h.f7 | exact h.f8)

theorem Hd.rv {W : World} {p : Pl} {c : Conf.Cf} {ns nk : Nat} {closed : Int} (h : Hd W p c ns nk closed) (v : Value) : Hd W { p with rv := v } c ns nk closed := ⟨h.c0, h.c1, h.c2, h.c3, h.c4, h.c5, h.c6, h.c7, h.c8, h.c9, h.c10, h.f7, h.f8⟩

/-- A pool lies there. -/
structure MAt (W : World) (p : Pl) (m : M) : Prop where
  laid : Laid W
  tag : ∃ t : Nat → Nat, t 0 = 0 ∧ t p.mb = 1 ∧ t p.sb = 2 ∧ t p.kb = 3 ∧ t p.cb = 4 ∧ (∀ k, World11.wfp p.wb p.rb p.rv k → t k = 5) ∧ ∀ k, Fp p.lv k → t k = 6
  hd : Hd W p m.cf m.ss.length m.ks.length m.closed
  slots : SlotsAt W p.sb m.ss
  works : WorksAt W p.kb m.ks
  clk : W.cell? ⟨p.cb, 0, none⟩ = some (.int .i64 m.now)
  clkf : W.frozen? ⟨p.cb, 0, none⟩ = false
  wld : ∃ g b, World11.WAt W p.wb p.rb p.rv m.ahead g b
  own : OwnS W p.lv m.line.length 1 (m.line.map (Value.int .i64))
  ok : m.ok

section
variable {W W' : World} {p : Pl} {m : M}
theorem MAt.lt (h : MAt W p m) {k : Nat} (hk : mfp p k) : k < W.heap.size := by
  obtain ⟨g, b, hw⟩ := h.wld
  rcases hk with rfl | rfl | rfl | rfl | hk | hk
  · exact World.block_lt_of_cell? _ _ h.hd.c0
  · exact h.slots.lt h.ok.ns.1
  · exact h.works.lt h.ok.nk.1
  · exact World.block_lt_of_cell? _ _ h.clk
  · exact hw.lt hk
  · exact h.own.lt hk
theorem MAt.lt0 (h : MAt W p m) : 0 < W.heap.size := h.laid.lt (by decide)
theorem MAt.ne (h : MAt W p m) : ¬ mfp p 0 ∧ p.mb ≠ p.sb ∧ p.mb ≠ p.kb ∧ p.mb ≠ p.cb ∧ p.sb ≠ p.kb ∧ p.sb ≠ p.cb ∧ p.kb ≠ p.cb := by
  obtain ⟨t, t0, t1, t2, t3, t4, t5, t6⟩ := h.tag
  refine ⟨?_, fun e => ?_, fun e => ?_, fun e => ?_, fun e => ?_, fun e => ?_, fun e => ?_⟩
  · rintro (e | e | e | e | e | e)
    · rw [← e] at t1; omega
    · rw [← e] at t2; omega
    · rw [← e] at t3; omega
    · rw [← e] at t4; omega
    · have := t5 _ e; omega
    · have := t6 _ e; omega
  all_goals (have e' := congrArg t e; omega)
/-- Nothing of the pool has changed. -/
theorem MAt.keep (h : MAt W p m) (hs : W.heap.size ≤ W'.heap.size) (hb : ∀ k, mfp p k → W'.heap[k]? = W.heap[k]?) (h0 : W'.heap[0]? = W.heap[0]?) : MAt W' p m := by
  obtain ⟨g, b, hw⟩ := h.wld
  exact ⟨h.laid.stable h0, h.tag, h.hd.stable (hb _ (.inl rfl)), h.slots.stable (hb _ (.inr (.inl rfl))), h.works.stable (hb _ (.inr (.inr (.inl rfl)))),
    (World.cell?_of_block (w := W) (hb p.cb (.inr (.inr (.inr (.inl rfl)))))).trans h.clk, (World.frozen?_of_block (w := W) (hb p.cb (.inr (.inr (.inr (.inl rfl)))))).trans h.clkf,
    ⟨g, b, hw.stable hs fun k hk => hb k (.inr (.inr (.inr (.inr (.inl hk)))))⟩, h.own.stable hs fun k hk => hb k (.inr (.inr (.inr (.inr (.inr hk))))), h.ok⟩
theorem MAt.chg {F : Nat → Prop} (h : MAt W p m) (hc : Chg F W W') (hf : ∀ k, mfp p k → ¬ F k) (h0 : ¬ F 0) : MAt W' p m :=
  h.keep hc.size (fun k hk => hc.block k (h.lt hk) (hf k hk)) (hc.block 0 h.lt0 h0)
theorem MAt.below (h : MAt W p m) (hb : Below W.heap.size W W') : MAt W' p m := h.keep hb.size (fun k hk => hb.block k (h.lt hk)) (hb.block 0 h.lt0)
theorem MAt.drew (h : MAt W p m) : MAt W.drew p m := h.keep (Nat.le_refl _) (fun _ _ => rfl) rfl
theorem MAt.alloc (h : MAt W p m) (o : Obj) : MAt (W.alloc o) p m := h.below ((Below.refl _ _).alloc (Nat.le_refl _) _)

/-- The slots are laid anew. -/
theorem MAt.toSlots (h : MAt W p m) {ss : List S} (hc : Chg (fun k => k = p.sb) W W') (hs : SlotsAt W' p.sb ss) (hl : ss.length = m.ss.length) (hr : ∀ s ∈ ss, s.right = true) : MAt W' p { m with ss := ss } := by
  obtain ⟨t, t0, t1, t2, t3, t4, t5, t6⟩ := h.tag
  obtain ⟨g, b, hw⟩ := h.wld
  have hb : ∀ k, t k ≠ 2 → k < W.heap.size → W'.heap[k]? = W.heap[k]? := fun k hk hlt => hc.block k hlt (fun e => hk (by rw [e]; exact t2))
  have hk := h.ok
  refine ⟨h.laid.stable (hb 0 (by omega) h.lt0), ⟨t, t0, t1, t2, t3, t4, t5, t6⟩, ?_, hs, h.works.stable (hb _ (by omega) (h.lt (.inr (.inr (.inl rfl))))), ?_, ?_, ⟨g, b, hw.stable hc.size fun k hk => hb k (by rw [t5 k hk]; omega) (hw.lt hk)⟩,
    h.own.stable hc.size fun k hk => hb k (by rw [t6 k hk]; omega) (h.own.lt hk), ⟨hk.conf, by simpa [hl] using hk.nss, hk.nks, hr, hk.line, hk.few, by simpa [hl] using hk.grants, hk.closed, hk.now, hk.ahead⟩⟩
  · simpa [hl] using h.hd.stable (hb p.mb (by omega) (h.lt (.inl rfl)))
  · exact (World.cell?_of_block (w := W) (hb p.cb (by omega) (h.lt (.inr (.inr (.inr (.inl rfl))))))).trans h.clk
  · exact (World.frozen?_of_block (w := W) (hb p.cb (by omega) (h.lt (.inr (.inr (.inr (.inl rfl))))))).trans h.clkf
/-- The workers are laid anew. -/
theorem MAt.toWorks (h : MAt W p m) {ks : List Wk} (hc : Chg (fun k => k = p.kb) W W') (hs : WorksAt W' p.kb ks) (hl : ks.length = m.ks.length) (hg : ∀ k ∈ ks, k.at' = 2 → 0 ≤ k.slot ∧ k.slot < m.ss.length) : MAt W' p { m with ks := ks } := by
  obtain ⟨t, t0, t1, t2, t3, t4, t5, t6⟩ := h.tag
  obtain ⟨g, b, hw⟩ := h.wld
  have hb : ∀ k, t k ≠ 3 → k < W.heap.size → W'.heap[k]? = W.heap[k]? := fun k hk hlt => hc.block k hlt (fun e => hk (by rw [e]; exact t3))
  have hk := h.ok
  refine ⟨h.laid.stable (hb 0 (by omega) h.lt0), ⟨t, t0, t1, t2, t3, t4, t5, t6⟩, ?_, h.slots.stable (hb _ (by omega) (h.lt (.inr (.inl rfl)))), hs, ?_, ?_, ⟨g, b, hw.stable hc.size fun k hk => hb k (by rw [t5 k hk]; omega) (hw.lt hk)⟩,
    h.own.stable hc.size fun k hk => hb k (by rw [t6 k hk]; omega) (h.own.lt hk), ⟨hk.conf, hk.nss, by simpa [hl] using hk.nks, hk.rights, by simpa [hl] using hk.line, hk.few, hg, hk.closed, hk.now, hk.ahead⟩⟩
  · simpa [hl] using h.hd.stable (hb p.mb (by omega) (h.lt (.inl rfl)))
  · exact (World.cell?_of_block (w := W) (hb p.cb (by omega) (h.lt (.inr (.inr (.inr (.inl rfl))))))).trans h.clk
  · exact (World.frozen?_of_block (w := W) (hb p.cb (by omega) (h.lt (.inr (.inr (.inr (.inl rfl))))))).trans h.clkf
/-- The world outside has turned. -/
theorem MAt.toWorld (h : MAt W p m) {v' : Value} {l : List Bool} {g b : Int} (hw' : World11.WAt W' p.wb p.rb v' l g b) (hl : l.length ≤ 1000) (hF : ∀ k, Fp v' k → Fp p.rv k ∨ W.heap.size ≤ k) (hc : Chg (World11.wfp p.wb p.rb p.rv) W W') :
    MAt W' { p with rv := v' } { m with ahead := l } := by
  obtain ⟨t, t0, t1, t2, t3, t4, t5, t6⟩ := h.tag
  have hb : ∀ k, t k ≠ 5 → k < W.heap.size → W'.heap[k]? = W.heap[k]? := fun k hk hlt => hc.block k hlt (fun e => hk (t5 k e))
  have hk := h.ok
  have hlt : ∀ k, mfp p k → k < W.heap.size := fun k hk => h.lt hk
  have l1 := hlt p.mb (.inl rfl)
  have l2 := hlt p.sb (.inr (.inl rfl))
  have l3 := hlt p.kb (.inr (.inr (.inl rfl)))
  have l4 := hlt p.cb (.inr (.inr (.inr (.inl rfl))))
  refine ⟨h.laid.stable (hb 0 (by omega) h.lt0), ⟨fun k => if k < W.heap.size then t k else 5, ?_, ?_, ?_, ?_, ?_, ?_, ?_⟩, (h.hd.stable (hb _ (by omega) l1)).rv v', h.slots.stable (hb _ (by omega) l2), h.works.stable (hb _ (by omega) l3),
    (World.cell?_of_block (w := W) (hb p.cb (by omega) l4)).trans h.clk, (World.frozen?_of_block (w := W) (hb p.cb (by omega) l4)).trans h.clkf, ⟨g, b, hw'⟩,
    h.own.stable hc.size fun k hk => hb k (by rw [t6 k hk]; omega) (h.own.lt hk), ⟨hk.conf, hk.nss, hk.nks, hk.rights, hk.line, hk.few, hk.grants, hk.closed, hk.now, hl⟩⟩
  · simp [h.lt0, t0]
  · simp [l1, t1]
  · simp [l2, t2]
  · simp [l3, t3]
  · simp [l4, t4]
  · intro k hk
    show (if k < W.heap.size then t k else 5) = 5
    by_cases hkk : k < W.heap.size
    · rw [if_pos hkk]
      refine t5 k ?_
      rcases hk with rfl | rfl | hk
      · exact .inl rfl
      · exact .inr (.inl rfl)
      · rcases hF k hk with hk | hk
        · exact .inr (.inr hk)
        · omega
    · rw [if_neg hkk]
  · intro k hk
    have := h.own.lt hk
    simp [this, t6 k hk]
/-- The line is laid anew. -/
theorem MAt.toLine (h : MAt W p m) {v' : Value} {l : List Int} (ho : OwnS W' v' l.length 1 (l.map (Value.int .i64))) (hl : l.length ≤ 8) (hx : ∀ x ∈ l, 0 ≤ x ∧ x < m.ks.length) (hF : ∀ k, Fp v' k → Fp p.lv k ∨ W.heap.size ≤ k)
    (hc : Chg (fun k => k = p.mb ∨ Fp p.lv k) W W') (hh : Hd W' { p with lv := v' } m.cf m.ss.length m.ks.length m.closed) : MAt W' { p with lv := v' } { m with line := l } := by
  obtain ⟨t, t0, t1, t2, t3, t4, t5, t6⟩ := h.tag
  obtain ⟨g, b, hw⟩ := h.wld
  have hb : ∀ k, t k ≠ 1 → t k ≠ 6 → k < W.heap.size → W'.heap[k]? = W.heap[k]? := fun k hk hk6 hlt => hc.block k hlt (fun e => by
    rcases e with rfl | e
    · exact hk t1
    · exact hk6 (t6 k e))
  have hk := h.ok
  have hlt : ∀ k, mfp p k → k < W.heap.size := fun k hk => h.lt hk
  have l1 := hlt p.mb (.inl rfl)
  have l2 := hlt p.sb (.inr (.inl rfl))
  have l3 := hlt p.kb (.inr (.inr (.inl rfl)))
  have l4 := hlt p.cb (.inr (.inr (.inr (.inl rfl))))
  refine ⟨h.laid.stable (hb 0 (by omega) (by omega) h.lt0), ⟨fun k => if k < W.heap.size then t k else 6, ?_, ?_, ?_, ?_, ?_, ?_, ?_⟩, hh, h.slots.stable (hb _ (by omega) (by omega) l2), h.works.stable (hb _ (by omega) (by omega) l3),
    (World.cell?_of_block (w := W) (hb p.cb (by omega) (by omega) l4)).trans h.clk, (World.frozen?_of_block (w := W) (hb p.cb (by omega) (by omega) l4)).trans h.clkf,
    ⟨g, b, hw.stable hc.size fun k hk => hb k (by rw [t5 k hk]; omega) (by rw [t5 k hk]; omega) (hw.lt hk)⟩, ho, ⟨hk.conf, hk.nss, hk.nks, hk.rights, hx, hl, hk.grants, hk.closed, hk.now, hk.ahead⟩⟩
  · simp [h.lt0, t0]
  · simp [l1, t1]
  · simp [l2, t2]
  · simp [l3, t3]
  · simp [l4, t4]
  · intro k hk
    have := hw.lt hk
    simp [this, t5 k hk]
  · intro k hk
    show (if k < W.heap.size then t k else 6) = 6
    by_cases hkk : k < W.heap.size
    · rw [if_pos hkk]
      rcases hF k hk with hk | hk
      · exact t6 k hk
      · omega
    · rw [if_neg hkk]
/-- It is closed. -/
theorem MAt.toClosed (h : MAt W p m) (c : Int) (hc : c = 0 ∨ c = 1 ∨ c = 2) : MAt (W.setCell ⟨p.mb, 8, none⟩ (.int .i64 c)) p { m with closed := c } := by
  obtain ⟨t, t0, t1, t2, t3, t4, t5, t6⟩ := h.tag
  obtain ⟨g, b, hw⟩ := h.wld
  have hch : Chg (fun k => k = p.mb) W (W.setCell ⟨p.mb, 8, none⟩ (.int .i64 c)) := (Chg.refl _ _).setCell _ _ (fun _ => rfl)
  have hb : ∀ k, t k ≠ 1 → k < W.heap.size → (W.setCell ⟨p.mb, 8, none⟩ (.int .i64 c)).heap[k]? = W.heap[k]? := fun k hk hlt => hch.block k hlt (fun e => hk (by rw [e]; exact t1))
  have hk := h.ok
  have hh := h.hd
  have hlt : ∀ k, mfp p k → k < W.heap.size := fun k hk => h.lt hk
  refine ⟨h.laid.stable (hb 0 (by omega) h.lt0), ⟨t, t0, t1, t2, t3, t4, t5, t6⟩, ?_, h.slots.stable (hb _ (by omega) (hlt _ (.inr (.inl rfl)))), h.works.stable (hb _ (by omega) (hlt _ (.inr (.inr (.inl rfl))))),
    (World.cell?_of_block (w := W) (hb p.cb (by omega) (hlt _ (.inr (.inr (.inr (.inl rfl))))))).trans h.clk, (World.frozen?_of_block (w := W) (hb p.cb (by omega) (hlt _ (.inr (.inr (.inr (.inl rfl))))))).trans h.clkf,
    ⟨g, b, hw.stable hch.size fun k hk => hb k (by rw [t5 k hk]; omega) (hw.lt hk)⟩, h.own.stable hch.size fun k hk => hb k (by rw [t6 k hk]; omega) (h.own.lt hk), ⟨hk.conf, hk.nss, hk.nks, hk.rights, hk.line, hk.few, hk.grants, hc, hk.now, hk.ahead⟩⟩
  have e : ∀ o, o ≠ 8 → (W.setCell ⟨p.mb, 8, none⟩ (.int .i64 c)).cell? ⟨p.mb, o, none⟩ = W.cell? ⟨p.mb, o, none⟩ := fun o ho => World.cell?_setCell_other _ _ _ _ (by simp <;> omega)
  exact ⟨(e 0 (by omega)).trans hh.c0, (e 1 (by omega)).trans hh.c1, (e 2 (by omega)).trans hh.c2, (e 3 (by omega)).trans hh.c3, (e 4 (by omega)).trans hh.c4, (e 5 (by omega)).trans hh.c5, (e 6 (by omega)).trans hh.c6, (e 7 (by omega)).trans hh.c7,
    World.cell?_setCell_same _ _ _ hh.c8, (e 9 (by omega)).trans hh.c9, (e 10 (by omega)).trans hh.c10, by simp [hh.f7], by simp [hh.f8]⟩
/-- Time has gone by. -/
theorem MAt.toNow (h : MAt W p m) (n : Int) (hn : 0 ≤ n ∧ n ≤ 1099511627776) : MAt (W.setCell ⟨p.cb, 0, none⟩ (.int .i64 n)) p { m with now := n } := by
  obtain ⟨t, t0, t1, t2, t3, t4, t5, t6⟩ := h.tag
  obtain ⟨g, b, hw⟩ := h.wld
  have hch : Chg (fun k => k = p.cb) W (W.setCell ⟨p.cb, 0, none⟩ (.int .i64 n)) := (Chg.refl _ _).setCell _ _ (fun _ => rfl)
  have hb : ∀ k, t k ≠ 4 → k < W.heap.size → (W.setCell ⟨p.cb, 0, none⟩ (.int .i64 n)).heap[k]? = W.heap[k]? := fun k hk hlt => hch.block k hlt (fun e => hk (by rw [e]; exact t4))
  have hk := h.ok
  have hlt : ∀ k, mfp p k → k < W.heap.size := fun k hk => h.lt hk
  exact ⟨h.laid.stable (hb 0 (by omega) h.lt0), ⟨t, t0, t1, t2, t3, t4, t5, t6⟩, h.hd.stable (hb _ (by omega) (hlt _ (.inl rfl))), h.slots.stable (hb _ (by omega) (hlt _ (.inr (.inl rfl)))), h.works.stable (hb _ (by omega) (hlt _ (.inr (.inr (.inl rfl))))),
    World.cell?_setCell_same _ _ _ h.clk, by simp [h.clkf],
    ⟨g, b, hw.stable hch.size fun k hk => hb k (by rw [t5 k hk]; omega) (hw.lt hk)⟩, h.own.stable hch.size fun k hk => hb k (by rw [t6 k hk]; omega) (h.own.lt hk), ⟨hk.conf, hk.nss, hk.nks, hk.rights, hk.line, hk.few, hk.grants, hk.closed, hn, hk.ahead⟩⟩
end

/-- What stands behind a call of a pool. -/
def MPost (W : World) (p : Pl) (ans : Value) (m' : M) (e : Ending) (W' : World) : Prop :=
  e = .returned ans ∧ ∃ lv rv, MAt W' { p with lv := lv, rv := rv } m' ∧ (∀ k, Fp lv k → Fp p.lv k ∨ W.heap.size ≤ k) ∧ (∀ k, Fp rv k → Fp p.rv k ∨ W.heap.size ≤ k) ∧ Chg (mfp p) W W'
end Go.Proofs.YtpmkgddjgebojaaGreatDoor.Mod

namespace Go.Proofs.YtpmkgddjgebojaaGreatDoor.RowL
set_option linter.unusedVariables false
set_option linter.unusedSimpArgs false
open Go.RowKit Hp
section
variable {P : Program} {ops : Array Oper} {Q : Exit → Act → World → Prop} {md : Region.Mode} {S : World → Prop}

theorem op_of {i : Nat} {d : Option Tmp} {op : Op} {g : Option (Nat × Bool)} (ho : (ops[i]?).map (fun o => (o.dst, o.op, o.guard)) = some (d, op, g)) : ∃ o, ops[i]? = some o ∧ o.dst = d ∧ o.op = op ∧ o.guard = g := by
  cases h : ops[i]? with
  | none => rw [h] at ho; cases ho
  | some o =>
    rw [h] at ho
    simp only [Option.map_some, Option.some.injEq, Prod.mk.injEq] at ho
    exact ⟨o, rfl, ho.1, ho.2.1, ho.2.2⟩
theorem ready_store_row {i fuel : Nat} {listed : Array Bool} {a : Act} {w : World} (hr : Region.ready md ops listed = [i]) (T : TypeId) (x y : Operand)
    (ho : (ops[i]?).map (fun o => (o.dst, o.op, o.guard)) = some (none, Op.store T x y, none))
    (g : Nat) (t : TypeId) (Z cs : Array Value) (hx : a.eval x = .pointer (some ⟨g, 0, none⟩)) (hy : a.eval y = .agg cs)
    (ht : RowAt w g Z t) (hsz : Z.size = cs.size) (hi : (P.info? T).map (·.size) = some cs.size) (h1 : cs.all (·.oneCell') = true)
    (hS : S (w.setRow g cs)) (h : S (w.setRow g cs) → wpAnyH P md ops Q S fuel (listed.setIfInBounds i true) a (w.setRow g cs)) : wpAnyH P md ops Q S (fuel + 1) listed a w := by
  obtain ⟨o, h1o, h2o, h3o, h4o⟩ := op_of ho
  refine wpAnyH_ready hr (by simp) (AllReadyH.cons h1o (fun K hK => ?_) AllReadyH.nil)
  rw [if_pos (by simp [Region.wanted, h4o])]
  refine wp_store_row T x y h3o g t Z cs hx hy ht hsz hi h1 ?_
  rw [h2o]
  exact hK.out _ _ hS h
theorem ready_store_mid {i fuel : Nat} {listed : Array Bool} {a : Act} {w : World} (hr : Region.ready md ops listed = [i]) (T : TypeId) (x y : Operand)
    (ho : (ops[i]?).map (fun o => (o.dst, o.op, o.guard)) = some (none, Op.store T x y, none))
    (g off : Nat) (cs : Array Value) (hx : a.eval x = .pointer (some ⟨g, off, none⟩)) (hy : a.eval y = .agg cs)
    (ht : w.there g off cs.size) (hi : (P.info? T).map (·.size) = some cs.size) (h1 : cs.all (·.oneCell') = true)
    (hS : S (w.setCells g off cs.toList)) (h : S (w.setCells g off cs.toList) → wpAnyH P md ops Q S fuel (listed.setIfInBounds i true) a (w.setCells g off cs.toList)) : wpAnyH P md ops Q S (fuel + 1) listed a w := by
  obtain ⟨o, h1o, h2o, h3o, h4o⟩ := op_of ho
  refine wpAnyH_ready hr (by simp) (AllReadyH.cons h1o (fun K hK => ?_) AllReadyH.nil)
  rw [if_pos (by simp [Region.wanted, h4o])]
  refine wp_store_mid T x y h3o g off cs hx hy ht hi h1 ?_
  rw [h2o]
  exact hK.out _ _ hS h
theorem take_of {i fuel : Nat} {listed : Array Bool} {a : Act} {w : World} {d : Option Tmp} {op : Op} {gd : Option (Nat × Bool)} {v : Value} (ho : (ops[i]?).map (fun o => (o.dst, o.op, o.guard)) = some (d, op, gd))
    (hs : Region.noSelect ops = true) (hf : Region.free md ops listed i = true) (hr : (Region.ready md ops listed).contains i = true)
    (hQ : ∀ c a w, Q (.panic c) (a.put d v) w → Q (.panic c) a w)
    (hw : (ops[i]?).map (fun o => Region.wanted o (yielded ops a.tmps)) = some true) (hy : ∀ o : Oper, o.op = op → ∀ w, S w → (execOp a.eval o).run P w = .ok (.value v) w) (hS : S w)
    (h : wpAnyH P md ops Q S fuel (listed.setIfInBounds i true) (a.put d v) w) : wpAnyH P md ops Q S (fuel + 1) listed a w := by
  obtain ⟨o, h1o, h2o, h3o, h4o⟩ := op_of ho
  subst h2o
  rw [h1o] at hw
  exact wpAnyH_take h1o hs hf hr hQ (Or.inl ⟨by simpa using hw, hy o h3o⟩) hS h
theorem takeg {i fuel : Nat} {listed : Array Bool} {a : Act} {w : World} {d : Option Tmp} {v : Value} (ho : (ops[i]?).map (fun o => o.dst) = some d)
    (hs : Region.noSelect ops = true) (hf : Region.free md ops listed i = true) (hr : (Region.ready md ops listed).contains i = true)
    (hQ : ∀ c a w, Q (.panic c) (a.put d v) w → Q (.panic c) a w)
    (hw : (ops[i]?).map (fun o => Region.wanted o (yielded ops a.tmps)) = some true) (hy : ∀ w, S w → ((ops[i]?).map fun o => (execOp a.eval o).run P w) = some (.ok (.value v) w)) (hS : S w)
    (h : wpAnyH P md ops Q S fuel (listed.setIfInBounds i true) (a.put d v) w) : wpAnyH P md ops Q S (fuel + 1) listed a w := by
  cases h1 : ops[i]? with
  | none => rw [h1] at ho; cases ho
  | some o =>
    rw [h1] at ho hw
    simp only [Option.map_some, Option.some.injEq] at ho hw
    subst ho
    exact wpAnyH_take h1 hs hf hr hQ (Or.inl ⟨hw, fun w h => by have := hy w h; rw [h1] at this; simpa using this⟩) hS h
theorem skip_of {i fuel : Nat} {listed : Array Bool} {a : Act} {w : World} {d : Option Tmp} (ho : (ops[i]?).map (fun o => o.dst) = some d)
    (hs : Region.noSelect ops = true) (hf : Region.free md ops listed i = true) (hr : (Region.ready md ops listed).contains i = true)
    (hQ : ∀ c a w, Q (.panic c) (a.put d undef) w → Q (.panic c) a w)
    (hw : (ops[i]?).map (fun o => Region.wanted o (yielded ops a.tmps)) = some false) (hS : S w)
    (h : wpAnyH P md ops Q S fuel (listed.setIfInBounds i true) (a.put d undef) w) : wpAnyH P md ops Q S (fuel + 1) listed a w := by
  cases h1 : ops[i]? with
  | none => rw [h1] at ho; cases ho
  | some o =>
    rw [h1] at ho hw
    simp only [Option.map_some, Option.some.injEq] at ho hw
    subst ho
    exact wpAnyH_take h1 hs hf hr hQ (Or.inr ⟨hw, rfl⟩) hS h
/-- The load of a struct that fills a block. -/
theorem run_load_row {a : Act} (T : TypeId) (x : Operand) (g : Nat) (t : TypeId) (cs : Array Value) (d : TypeDesc) (hx : a.eval x = .pointer (some ⟨g, 0, none⟩)) (hu : P.underlying T = some d)
    (hd : (match d with | .struct _ | .array _ _ => true | _ => false) = true) (hi : (P.info? T).map (·.size) = some cs.size) (hg : ∀ w, S w → RowAt w g cs t) :
    ∀ o : Oper, o.op = Op.load T x → ∀ w, S w → (execOp a.eval o).run P w = .ok (.value (.agg cs)) w := by
  intro o ho w hS
  have hl := run_loadVar_row (P := P) w g t T cs (0, 0) d (hg w hS) hu hd hi
  unfold execOp
  simp only [ho, hx]
  simp only [Instr.loadAt, Instr.sureAddr, Sem.run_bind, Sem.run_pure, Result.andThen_ok, hl]
theorem run_move_of {a : Act} (x : Operand) (v : Value) (hx : a.eval x = v) : ∀ o : Oper, o.op = Op.move x → ∀ w, S w → (execOp a.eval o).run P w = .ok (.value v) w := by
  intro o ho w _; unfold execOp; simp only [ho, hx, Sem.run_pure]
theorem run_assign_of {a : Act} (x : Operand) (v : Value) (hx : a.eval x = v) : ∀ o : Oper, o.op = Op.assign x → ∀ w, S w → (execOp a.eval o).run P w = .ok (.value v) w := by
  intro o ho w _; unfold execOp; simp only [ho, hx, Sem.run_pure]
theorem run_pick_of {a : Act} (c x y : Operand) (b : Bool) (v : Value) (hc : a.eval c = .bool b) (hx : (if b then a.eval x else a.eval y) = v) : ∀ o : Oper, o.op = Op.pick c x y → ∀ w, S w → (execOp a.eval o).run P w = .ok (.value v) w := by
  intro o ho w _
  have hA : ∀ b : Bool, (asBool (.bool b)).run P w = .ok b w := fun _ => rfl
  cases b
  · have hx' : a.eval y = v := hx
    unfold execOp; simp only [ho, hc, Sem.run_bind, hA, Result.andThen_ok, Sem.run_pure, Bool.false_eq_true, if_false, hx']
  · have hx' : a.eval x = v := hx
    unfold execOp; simp only [ho, hc, Sem.run_bind, hA, Result.andThen_ok, Sem.run_pure, if_true, hx']
theorem run_not_of {a : Act} (T : TypeId) (x : Operand) (b : Bool) (hx : a.eval x = .bool b) : ∀ o : Oper, o.op = Op.unOp .not T x → ∀ w, S w → (execOp a.eval o).run P w = .ok (.value (.bool (!b))) w := by
  intro o ho w _; unfold execOp; simp only [ho, hx]; simp [go_sem, Op.unary]
theorem wpList_load_row {rest : List Oper} {op : Oper} {a : Act} {w : World} (hgd : op.guard = none) (T : TypeId) (x : Operand) (ho : op.op = .load T x)
    (g : Nat) (t : TypeId) (cs : Array Value) (d : TypeDesc) (hx : a.eval x = .pointer (some ⟨g, 0, none⟩)) (hg : RowAt w g cs t) (hu : P.underlying T = some d)
    (hd : (match d with | .struct _ | .array _ _ => true | _ => false) = true) (hi : (P.info? T).map (·.size) = some cs.size)
    (h : wpList P ops Q rest (a.put op.dst (.agg cs)) w) : wpList P ops Q (op :: rest) a w :=
  wpList_plain hgd fun _ hK => by
    have hl := run_load_row (P := P) (S := fun w' => w' = w) (a := a) T x g t cs d hx hu hd hi (fun w' e => by rw [e]; exact hg) op ho w rfl
    unfold Oper.wp
    rw [hl]
    exact hK _ _ h
/-- A call of a Go function, as the only operation that may come up. -/
theorem ready_call {i fuel : Nat} {listed : Array Bool} {a : Act} {w : World} (hr : Region.ready md ops listed = [i]) (F : Nat) (args : Array Operand) (ats : Array TypeId) (d : Option Tmp) (gd : Option (Nat × Bool))
    (ho : (ops[i]?).map (fun o => (o.dst, o.op, o.guard)) = some (d, Op.call { callee := Callee.value (Operand.func F), args := args, argTypes := ats }, gd))
    (hw : (ops[i]?).map (fun o => Region.wanted o (yielded ops a.tmps)) = some true)
    (vals : Array Value) (hv : args.map a.eval = vals) (hE : ∀ args w, (callFunc F args).run P w = .ok (.enter F args) w)
    (h : Calls P F vals w fun e w' => ∃ v, e = .returned v ∧ S w' ∧ (S w' → wpAnyH P md ops Q S fuel (listed.setIfInBounds i true) (a.put d v) w')) : wpAnyH P md ops Q S (fuel + 1) listed a w := by
  obtain ⟨o, h1o, h2o, h3o, h4o⟩ := op_of ho
  refine wpAnyH_ready hr (by simp) (AllReadyH.cons h1o (fun K hK => ?_) AllReadyH.nil)
  rw [h1o] at hw
  rw [if_pos (by simpa using hw)]
  have hx : (execOp a.eval o).run P w = .ok (.enter F vals) w := by
    unfold execOp
    simp only [h3o, resolve]
    simp [go_sem, hv, hE, Act.eval, invoke, Deferred.ofValue]
  unfold Oper.wp
  rw [hx, Oper.upon_enter]
  refine h.mono ?_
  rintro e w' ⟨v, rfl, hS, hk⟩
  dsimp only
  rw [h2o]
  exact hK.out _ _ hS hk
end
end Go.Proofs.YtpmkgddjgebojaaGreatDoor.RowL

namespace Go.Proofs.YtpmkgddjgebojaaGreatDoor.Life
set_option linter.unusedVariables false
set_option linter.unusedSimpArgs false
open Go.RowKit Hp Slot RowL

set_option maxRecDepth 100000 in
set_option maxHeartbeats 8000000 in
theorem mark_any (w : World) (s : S) (own more : Int) : Calls Tryz.prog 121 #[cval s own more] w fun e w' => e = .returned (.tuple #[({ s with marked := true } : S).val, .bool (s.state == 2 && !s.marked)]) ∧ Below w.heap.size w w' := by
  have hi := fun W => is_any W s own more 2
  generalize hb : (s.state == 2) = b at *
  clear hb
  obtain ⟨st, ow, sm, br, ma, us, ge, ep, ve⟩ := s
  simp only [cval] at hi
  have hA : Below w.heap.size w (((w.alloc (.cells #[.int .i64 st, .int .i64 ow, .int .i64 sm, .bool br, .bool ma, .int .i64 us, .int .i64 ge, .int .i64 ep, .int .i64 ve, .int .i64 own, .int .i64 more] 141)).alloc (.cells zero9 59)).alloc (.cells #[.int .i64 st, .int .i64 ow, .int .i64 sm, .bool br, .bool true, .int .i64 us, .int .i64 ge, .int .i64 ep, .int .i64 ve] 59)) := (((Below.refl _ _).alloc (Nat.le_refl _) _).alloc (by simp) _).alloc (by simp; omega) _
  have hK : Kp (((w.alloc (.cells #[.int .i64 st, .int .i64 ow, .int .i64 sm, .bool br, .bool ma, .int .i64 us, .int .i64 ge, .int .i64 ep, .int .i64 ve, .int .i64 own, .int .i64 more] 141)).alloc (.cells zero9 59)).alloc (.cells #[.int .i64 st, .int .i64 ow, .int .i64 sm, .bool br, .bool true, .int .i64 us, .int .i64 ge, .int .i64 ep, .int .i64 ve] 59)) (w.heap.size + 1) (((w.alloc (.cells #[.int .i64 st, .int .i64 ow, .int .i64 sm, .bool br, .bool ma, .int .i64 us, .int .i64 ge, .int .i64 ep, .int .i64 ve, .int .i64 own, .int .i64 more] 141)).alloc (.cells zero9 59)).alloc (.cells #[.int .i64 st, .int .i64 ow, .int .i64 sm, .bool br, .bool true, .int .i64 us, .int .i64 ge, .int .i64 ep, .int .i64 ve] 59)) := ⟨Chg.refl _ _, zero9, rfl, heap_alloc3_mid w _ _ _⟩
  have R1 : RowAt (((w.alloc (.cells #[.int .i64 st, .int .i64 ow, .int .i64 sm, .bool br, .bool ma, .int .i64 us, .int .i64 ge, .int .i64 ep, .int .i64 ve, .int .i64 own, .int .i64 more] 141)).alloc (.cells zero9 59)).alloc (.cells #[.int .i64 st, .int .i64 ow, .int .i64 sm, .bool br, .bool true, .int .i64 us, .int .i64 ge, .int .i64 ep, .int .i64 ve] 59)) w.heap.size #[.int .i64 st, .int .i64 ow, .int .i64 sm, .bool br, .bool ma, .int .i64 us, .int .i64 ge, .int .i64 ep, .int .i64 ve, .int .i64 own, .int .i64 more] 141 := by rw [RowAt, Below.heap_alloc _ _ _ (by simp; omega)]; exact heap_alloc2_old w _ _
  have R3 : RowAt (((w.alloc (.cells #[.int .i64 st, .int .i64 ow, .int .i64 sm, .bool br, .bool ma, .int .i64 us, .int .i64 ge, .int .i64 ep, .int .i64 ve, .int .i64 own, .int .i64 more] 141)).alloc (.cells zero9 59)).alloc (.cells #[.int .i64 st, .int .i64 ow, .int .i64 sm, .bool br, .bool true, .int .i64 us, .int .i64 ge, .int .i64 ep, .int .i64 ve] 59)) (w.heap.size + 1 + 1) #[.int .i64 st, .int .i64 ow, .int .i64 sm, .bool br, .bool true, .int .i64 us, .int .i64 ge, .int .i64 ep, .int .i64 ve] 59 := by have := heap_alloc_new ((w.alloc (.cells #[.int .i64 st, .int .i64 ow, .int .i64 sm, .bool br, .bool ma, .int .i64 us, .int .i64 ge, .int .i64 ep, .int .i64 ve, .int .i64 own, .int .i64 more] 141)).alloc (.cells zero9 59)) (.cells #[.int .i64 st, .int .i64 ow, .int .i64 sm, .bool br, .bool true, .int .i64 us, .int .i64 ge, .int .i64 ep, .int .i64 ve] 59); simpa [RowAt] using this
  have rC : ∀ w', Kp (((w.alloc (.cells #[.int .i64 st, .int .i64 ow, .int .i64 sm, .bool br, .bool ma, .int .i64 us, .int .i64 ge, .int .i64 ep, .int .i64 ve, .int .i64 own, .int .i64 more] 141)).alloc (.cells zero9 59)).alloc (.cells #[.int .i64 st, .int .i64 ow, .int .i64 sm, .bool br, .bool true, .int .i64 us, .int .i64 ge, .int .i64 ep, .int .i64 ve] 59)) (w.heap.size + 1) w' → RowAt w' w.heap.size #[.int .i64 st, .int .i64 ow, .int .i64 sm, .bool br, .bool ma, .int .i64 us, .int .i64 ge, .int .i64 ep, .int .i64 ve, .int .i64 own, .int .i64 more] 141 := fun w' h => R1.chg h.1 (by simp)
  have rS : ∀ w', Kp (((w.alloc (.cells #[.int .i64 st, .int .i64 ow, .int .i64 sm, .bool br, .bool ma, .int .i64 us, .int .i64 ge, .int .i64 ep, .int .i64 ve, .int .i64 own, .int .i64 more] 141)).alloc (.cells zero9 59)).alloc (.cells #[.int .i64 st, .int .i64 ow, .int .i64 sm, .bool br, .bool true, .int .i64 us, .int .i64 ge, .int .i64 ep, .int .i64 ve] 59)) (w.heap.size + 1) w' → RowAt w' (w.heap.size + 1 + 1) #[.int .i64 st, .int .i64 ow, .int .i64 sm, .bool br, .bool true, .int .i64 us, .int .i64 ge, .int .i64 ep, .int .i64 ve] 59 := fun w' h => R3.chg h.1 (by simp)
  have l4 : ∀ w', Kp (((w.alloc (.cells #[.int .i64 st, .int .i64 ow, .int .i64 sm, .bool br, .bool ma, .int .i64 us, .int .i64 ge, .int .i64 ep, .int .i64 ve, .int .i64 own, .int .i64 more] 141)).alloc (.cells zero9 59)).alloc (.cells #[.int .i64 st, .int .i64 ow, .int .i64 sm, .bool br, .bool true, .int .i64 us, .int .i64 ge, .int .i64 ep, .int .i64 ve] 59)) (w.heap.size + 1) w' → w'.cell? ⟨w.heap.size, 4, none⟩ = some (.bool ma) := fun w' h => h.cell (by simp) (R1.cell 4)
  clear R1 R3
  go_enter Tryz.func121, Tryz.ntmps121
  go_wp2_with fail
  generalize (((w.alloc (.cells #[.int .i64 st, .int .i64 ow, .int .i64 sm, .bool br, .bool ma, .int .i64 us, .int .i64 ge, .int .i64 ep, .int .i64 ve, .int .i64 own, .int .i64 more] 141)).alloc (.cells zero9 59)).alloc (.cells #[.int .i64 st, .int .i64 ow, .int .i64 sm, .bool br, .bool true, .int .i64 us, .int .i64 ge, .int .i64 ep, .int .i64 ve] 59)) = wa at *
  have hKd := hK.drew
  cases b
  · have : True := trivial
    refine wp_region_held_drew (S := fun w' => Kp wa (w.heap.size + 1) w') (by kernel_rfl) (by exact hKd) (fun hHeld => ?_)
    refine take_of (i := 0) (d := some 8) (op := .load 59 (.tmp 4)) (gd := none) (v := .agg #[.int .i64 st, .int .i64 ow, .int .i64 sm, .bool br, .bool true, .int .i64 us, .int .i64 ge, .int .i64 ep, .int .i64 ve]) (by kernel_rfl) (by kernel_rfl) (by kernel_rfl) (by kernel_rfl) (fun _ _ _ h => h) (by kernel_rfl) (run_load_row 59 (.tmp 4) (w.heap.size + 1 + 1) 59 #[.int .i64 st, .int .i64 ow, .int .i64 sm, .bool br, .bool true, .int .i64 us, .int .i64 ge, .int .i64 ep, .int .i64 ve] _ (by kernel_rfl) Tryz.underlying59 rfl (by kernel_rfl) rS) hHeld ?_
    try simp only [Act.put, List.setIfInBounds_toArray, List.set_cons_zero, List.set_cons_succ]
    refine take_of (i := 1) (d := some 9) (op := .load 141 (.tmp 1)) (gd := none) (v := .agg #[.int .i64 st, .int .i64 ow, .int .i64 sm, .bool br, .bool ma, .int .i64 us, .int .i64 ge, .int .i64 ep, .int .i64 ve, .int .i64 own, .int .i64 more]) (by kernel_rfl) (by kernel_rfl) (by kernel_rfl) (by kernel_rfl) (fun _ _ _ h => h) (by kernel_rfl) (run_load_row 141 (.tmp 1) (w.heap.size) 141 #[.int .i64 st, .int .i64 ow, .int .i64 sm, .bool br, .bool ma, .int .i64 us, .int .i64 ge, .int .i64 ep, .int .i64 ve, .int .i64 own, .int .i64 more] _ (by kernel_rfl) Tryz.underlying141 rfl (by kernel_rfl) rC) hHeld ?_
    try simp only [Act.put, List.setIfInBounds_toArray, List.set_cons_zero, List.set_cons_succ]
    refine wpAnyH_ready (rs := [2]) (by kernel_rfl) (by simp) ?_
    refine AllReadyH.cons rfl (fun K hK => ?_) AllReadyH.nil -- r2
    go_simp
    refine (hi _).mono ?_
    rintro e w6 ⟨rfl, hb6⟩
    go_simp
    refine hK.out _ _ (by exact hHeld.later hb6) (fun hHeld2 => ?_)
    clear hK K
    try simp only [Act.put, List.setIfInBounds_toArray, List.set_cons_zero, List.set_cons_succ]
    refine wpAnyH_take (i := 3) (v := ?_) rfl (by kernel_rfl) (by kernel_rfl) (by kernel_rfl) (fun _ _ _ h => h) (Or.inl ⟨rfl, ?_⟩) hHeld2 ?_
    rotate_left
    · intro w hSw
      try dsimp only at hSw
      go_simp
      try with_reducible rfl
    try simp only [Act.put, List.setIfInBounds_toArray, List.set_cons_zero, List.set_cons_succ]
    refine wpAnyH_take (i := 4) (v := undef) rfl (by kernel_rfl) (by kernel_rfl) (by kernel_rfl) (fun _ _ _ h => h) (Or.inr ⟨rfl, rfl⟩) hHeld2 ?_
    try simp only [Act.put, List.setIfInBounds_toArray, List.set_cons_zero, List.set_cons_succ]
    refine wpAnyH_take (i := 5) (v := undef) rfl (by kernel_rfl) (by kernel_rfl) (by kernel_rfl) (fun _ _ _ h => h) (Or.inr ⟨rfl, rfl⟩) hHeld2 ?_
    try simp only [Act.put, List.setIfInBounds_toArray, List.set_cons_zero, List.set_cons_succ]
    refine wpAnyH_take (i := 6) (v := undef) rfl (by kernel_rfl) (by kernel_rfl) (by kernel_rfl) (fun _ _ _ h => h) (Or.inr ⟨rfl, rfl⟩) hHeld2 ?_
    try simp only [Act.put, List.setIfInBounds_toArray, List.set_cons_zero, List.set_cons_succ]
    refine wpAnyH_take (i := 7) (v := undef) rfl (by kernel_rfl) (by kernel_rfl) (by kernel_rfl) (fun _ _ _ h => h) (Or.inr ⟨rfl, rfl⟩) hHeld2 ?_
    try simp only [Act.put, List.setIfInBounds_toArray, List.set_cons_zero, List.set_cons_succ]
    refine wpAnyH_take (i := 8) (v := ?_) rfl (by kernel_rfl) (by kernel_rfl) (by kernel_rfl) (fun _ _ _ h => h) (Or.inl ⟨rfl, ?_⟩) hHeld2 ?_
    rotate_left
    · intro w hSw
      try dsimp only at hSw
      go_simp
      try with_reducible rfl
    try simp only [Act.put, List.setIfInBounds_toArray, List.set_cons_zero, List.set_cons_succ]
    obtain ⟨kp1, Z, kp2, kp3⟩ := hHeld2
    refine ready_store_row (i := 9) (by kernel_rfl) 59 (.tmp 2) (.tmp 8) (by kernel_rfl) (w.heap.size + 1) _ _ #[.int .i64 st, .int .i64 ow, .int .i64 sm, .bool br, .bool true, .int .i64 us, .int .i64 ge, .int .i64 ep, .int .i64 ve] (by kernel_rfl) (by kernel_rfl) kp3 kp2 (by kernel_rfl) (by kernel_rfl) (Kp.set ⟨kp1, Z, kp2, kp3⟩ ⟨st, ow, sm, br, true, us, ge, ep, ve⟩) (fun hHeld3 => ?_)
    try simp only [Act.put, List.setIfInBounds_toArray, List.set_cons_zero, List.set_cons_succ]
    refine wpAnyH_take (i := 10) (v := ?_) rfl (by kernel_rfl) (by kernel_rfl) (by kernel_rfl) (fun _ _ _ h => h) (Or.inl ⟨rfl, ?_⟩) hHeld3 ?_
    rotate_left
    · intro w hSw
      try dsimp only at hSw
      go_simp
      try with_reducible rfl
    try simp only [Act.put, List.setIfInBounds_toArray, List.set_cons_zero, List.set_cons_succ]
    refine wpAnyH_done (by kernel_rfl) ?_ _
    go_simp
    clear rC rS
    go_wp2_with fail
    refine bodyPost_ret (results_row2 rfl _ _ (w.heap.size + 1) _ _ _ rfl (Kp.row ⟨kp1, Z, kp2, kp3⟩ ⟨st, ow, sm, br, true, us, ge, ep, ve⟩) Tryz.underlying59 rfl (by kernel_rfl)) rfl ?_
    exact ⟨rfl, Kp.below hHeld3 hA (by omega)⟩
  · have : True := trivial
    refine wp_region_held_drew (S := fun w' => Kp wa (w.heap.size + 1) w') (by kernel_rfl) (by exact hKd) (fun hHeld => ?_)
    refine take_of (i := 0) (d := some 8) (op := .load 59 (.tmp 4)) (gd := none) (v := .agg #[.int .i64 st, .int .i64 ow, .int .i64 sm, .bool br, .bool true, .int .i64 us, .int .i64 ge, .int .i64 ep, .int .i64 ve]) (by kernel_rfl) (by kernel_rfl) (by kernel_rfl) (by kernel_rfl) (fun _ _ _ h => h) (by kernel_rfl) (run_load_row 59 (.tmp 4) (w.heap.size + 1 + 1) 59 #[.int .i64 st, .int .i64 ow, .int .i64 sm, .bool br, .bool true, .int .i64 us, .int .i64 ge, .int .i64 ep, .int .i64 ve] _ (by kernel_rfl) Tryz.underlying59 rfl (by kernel_rfl) rS) hHeld ?_
    try simp only [Act.put, List.setIfInBounds_toArray, List.set_cons_zero, List.set_cons_succ]
    refine take_of (i := 1) (d := some 9) (op := .load 141 (.tmp 1)) (gd := none) (v := .agg #[.int .i64 st, .int .i64 ow, .int .i64 sm, .bool br, .bool ma, .int .i64 us, .int .i64 ge, .int .i64 ep, .int .i64 ve, .int .i64 own, .int .i64 more]) (by kernel_rfl) (by kernel_rfl) (by kernel_rfl) (by kernel_rfl) (fun _ _ _ h => h) (by kernel_rfl) (run_load_row 141 (.tmp 1) (w.heap.size) 141 #[.int .i64 st, .int .i64 ow, .int .i64 sm, .bool br, .bool ma, .int .i64 us, .int .i64 ge, .int .i64 ep, .int .i64 ve, .int .i64 own, .int .i64 more] _ (by kernel_rfl) Tryz.underlying141 rfl (by kernel_rfl) rC) hHeld ?_
    try simp only [Act.put, List.setIfInBounds_toArray, List.set_cons_zero, List.set_cons_succ]
    refine wpAnyH_ready (rs := [2]) (by kernel_rfl) (by simp) ?_
    refine AllReadyH.cons rfl (fun K hK => ?_) AllReadyH.nil -- r2
    go_simp
    refine (hi _).mono ?_
    rintro e w6 ⟨rfl, hb6⟩
    go_simp
    refine hK.out _ _ (by exact hHeld.later hb6) (fun hHeld2 => ?_)
    clear hK K
    try simp only [Act.put, List.setIfInBounds_toArray, List.set_cons_zero, List.set_cons_succ]
    refine wpAnyH_take (i := 3) (v := ?_) rfl (by kernel_rfl) (by kernel_rfl) (by kernel_rfl) (fun _ _ _ h => h) (Or.inl ⟨rfl, ?_⟩) hHeld2 ?_
    rotate_left
    · intro w hSw
      try dsimp only at hSw
      go_simp
      try with_reducible rfl
    try simp only [Act.put, List.setIfInBounds_toArray, List.set_cons_zero, List.set_cons_succ]
    refine wpAnyH_take (i := 4) (v := ?_) rfl (by kernel_rfl) (by kernel_rfl) (by kernel_rfl) (fun _ _ _ h => h) (Or.inl ⟨rfl, ?_⟩) hHeld2 ?_
    rotate_left
    · intro w hSw
      try dsimp only at hSw
      go_simp
      try with_reducible rfl
    try simp only [Act.put, List.setIfInBounds_toArray, List.set_cons_zero, List.set_cons_succ]
    refine wpAnyH_take (i := 5) (v := ?_) rfl (by kernel_rfl) (by kernel_rfl) (by kernel_rfl) (fun _ _ _ h => h) (Or.inl ⟨rfl, ?_⟩) hHeld2 ?_
    rotate_left
    · intro w hSw
      try dsimp only at hSw
      go_simp
      try with_reducible rfl
    try simp only [Act.put, List.setIfInBounds_toArray, List.set_cons_zero, List.set_cons_succ]
    refine wpAnyH_take (i := 6) (v := ?_) rfl (by kernel_rfl) (by kernel_rfl) (by kernel_rfl) (fun _ _ _ h => h) (Or.inl ⟨rfl, ?_⟩) hHeld2 ?_
    rotate_left
    · intro w hSw
      try dsimp only at hSw
      go_simp
      try with_reducible rfl
    try simp only [Act.put, List.setIfInBounds_toArray, List.set_cons_zero, List.set_cons_succ]
    refine wpAnyH_take (i := 7) (v := ?_) rfl (by kernel_rfl) (by kernel_rfl) (by kernel_rfl) (fun _ _ _ h => h) (Or.inl ⟨rfl, ?_⟩) hHeld2 ?_
    rotate_left
    · intro w hSw
      try dsimp only at hSw
      go_simp
      try with_reducible rfl
    try simp only [Act.put, List.setIfInBounds_toArray, List.set_cons_zero, List.set_cons_succ]
    refine wpAnyH_take (i := 8) (v := ?_) rfl (by kernel_rfl) (by kernel_rfl) (by kernel_rfl) (fun _ _ _ h => h) (Or.inl ⟨rfl, ?_⟩) hHeld2 ?_
    rotate_left
    · intro w hSw
      try dsimp only at hSw
      go_simp
      try with_reducible rfl
    try simp only [Act.put, List.setIfInBounds_toArray, List.set_cons_zero, List.set_cons_succ]
    obtain ⟨kp1, Z, kp2, kp3⟩ := hHeld2
    refine ready_store_row (i := 9) (by kernel_rfl) 59 (.tmp 2) (.tmp 8) (by kernel_rfl) (w.heap.size + 1) _ _ #[.int .i64 st, .int .i64 ow, .int .i64 sm, .bool br, .bool true, .int .i64 us, .int .i64 ge, .int .i64 ep, .int .i64 ve] (by kernel_rfl) (by kernel_rfl) kp3 kp2 (by kernel_rfl) (by kernel_rfl) (Kp.set ⟨kp1, Z, kp2, kp3⟩ ⟨st, ow, sm, br, true, us, ge, ep, ve⟩) (fun hHeld3 => ?_)
    try simp only [Act.put, List.setIfInBounds_toArray, List.set_cons_zero, List.set_cons_succ]
    refine wpAnyH_take (i := 10) (v := ?_) rfl (by kernel_rfl) (by kernel_rfl) (by kernel_rfl) (fun _ _ _ h => h) (Or.inl ⟨rfl, ?_⟩) hHeld3 ?_
    rotate_left
    · intro w hSw
      try dsimp only at hSw
      go_simp
      try with_reducible rfl
    try simp only [Act.put, List.setIfInBounds_toArray, List.set_cons_zero, List.set_cons_succ]
    refine wpAnyH_done (by kernel_rfl) ?_ _
    go_simp
    clear rC rS
    go_wp2_with fail
    refine bodyPost_ret (results_row2 rfl _ _ (w.heap.size + 1) _ _ _ rfl (Kp.row ⟨kp1, Z, kp2, kp3⟩ ⟨st, ow, sm, br, true, us, ge, ep, ve⟩) Tryz.underlying59 rfl (by kernel_rfl)) rfl ?_
    exact ⟨rfl, Kp.below hHeld3 hA (by omega)⟩
end Go.Proofs.YtpmkgddjgebojaaGreatDoor.Life

namespace Go.Proofs.YtpmkgddjgebojaaGreatDoor.Life
set_option linter.unusedVariables false
set_option linter.unusedSimpArgs false
open Go.RowKit Hp Slot RowL

set_option maxRecDepth 100000 in
set_option maxHeartbeats 8000000 in
theorem broken_any (w : World) (s : S) (own more : Int) : Calls Tryz.prog 124 #[cval s own more] w fun e w' => e = .returned (.tuple #[({ s with broken := true } : S).val, .bool (!s.broken && (s.state == 2 || (s.state == 3 || s.state == 4)))]) ∧ Below w.heap.size w w' := by
  have h2 := fun W => is_any W s own more 2
  have h3 := fun W => is_any W s own more 3
  have h4 := fun W => is_any W s own more 4
  generalize hb2 : (s.state == 2) = b2 at *
  generalize hb3 : (s.state == 3) = b3 at *
  generalize hb4 : (s.state == 4) = b4 at *
  clear hb2 hb3 hb4
  obtain ⟨st, ow, sm, br, ma, us, ge, ep, ve⟩ := s
  simp only [cval] at h2 h3 h4
  have hA : Below w.heap.size w (((w.alloc (.cells #[.int .i64 st, .int .i64 ow, .int .i64 sm, .bool br, .bool ma, .int .i64 us, .int .i64 ge, .int .i64 ep, .int .i64 ve, .int .i64 own, .int .i64 more] 141)).alloc (.cells zero9 59)).alloc (.cells #[.int .i64 st, .int .i64 ow, .int .i64 sm, .bool true, .bool ma, .int .i64 us, .int .i64 ge, .int .i64 ep, .int .i64 ve] 59)) := (((Below.refl _ _).alloc (Nat.le_refl _) _).alloc (by simp) _).alloc (by simp; omega) _
  have hK : Kp (((w.alloc (.cells #[.int .i64 st, .int .i64 ow, .int .i64 sm, .bool br, .bool ma, .int .i64 us, .int .i64 ge, .int .i64 ep, .int .i64 ve, .int .i64 own, .int .i64 more] 141)).alloc (.cells zero9 59)).alloc (.cells #[.int .i64 st, .int .i64 ow, .int .i64 sm, .bool true, .bool ma, .int .i64 us, .int .i64 ge, .int .i64 ep, .int .i64 ve] 59)) (w.heap.size + 1) (((w.alloc (.cells #[.int .i64 st, .int .i64 ow, .int .i64 sm, .bool br, .bool ma, .int .i64 us, .int .i64 ge, .int .i64 ep, .int .i64 ve, .int .i64 own, .int .i64 more] 141)).alloc (.cells zero9 59)).alloc (.cells #[.int .i64 st, .int .i64 ow, .int .i64 sm, .bool true, .bool ma, .int .i64 us, .int .i64 ge, .int .i64 ep, .int .i64 ve] 59)) := ⟨Chg.refl _ _, zero9, rfl, heap_alloc3_mid w _ _ _⟩
  have R1 : RowAt (((w.alloc (.cells #[.int .i64 st, .int .i64 ow, .int .i64 sm, .bool br, .bool ma, .int .i64 us, .int .i64 ge, .int .i64 ep, .int .i64 ve, .int .i64 own, .int .i64 more] 141)).alloc (.cells zero9 59)).alloc (.cells #[.int .i64 st, .int .i64 ow, .int .i64 sm, .bool true, .bool ma, .int .i64 us, .int .i64 ge, .int .i64 ep, .int .i64 ve] 59)) w.heap.size #[.int .i64 st, .int .i64 ow, .int .i64 sm, .bool br, .bool ma, .int .i64 us, .int .i64 ge, .int .i64 ep, .int .i64 ve, .int .i64 own, .int .i64 more] 141 := by rw [RowAt, Below.heap_alloc _ _ _ (by simp; omega)]; exact heap_alloc2_old w _ _
  have R3 : RowAt (((w.alloc (.cells #[.int .i64 st, .int .i64 ow, .int .i64 sm, .bool br, .bool ma, .int .i64 us, .int .i64 ge, .int .i64 ep, .int .i64 ve, .int .i64 own, .int .i64 more] 141)).alloc (.cells zero9 59)).alloc (.cells #[.int .i64 st, .int .i64 ow, .int .i64 sm, .bool true, .bool ma, .int .i64 us, .int .i64 ge, .int .i64 ep, .int .i64 ve] 59)) (w.heap.size + 1 + 1) #[.int .i64 st, .int .i64 ow, .int .i64 sm, .bool true, .bool ma, .int .i64 us, .int .i64 ge, .int .i64 ep, .int .i64 ve] 59 := by have := heap_alloc_new ((w.alloc (.cells #[.int .i64 st, .int .i64 ow, .int .i64 sm, .bool br, .bool ma, .int .i64 us, .int .i64 ge, .int .i64 ep, .int .i64 ve, .int .i64 own, .int .i64 more] 141)).alloc (.cells zero9 59)) (.cells #[.int .i64 st, .int .i64 ow, .int .i64 sm, .bool true, .bool ma, .int .i64 us, .int .i64 ge, .int .i64 ep, .int .i64 ve] 59); simpa [RowAt] using this
  have rC : ∀ w', Kp (((w.alloc (.cells #[.int .i64 st, .int .i64 ow, .int .i64 sm, .bool br, .bool ma, .int .i64 us, .int .i64 ge, .int .i64 ep, .int .i64 ve, .int .i64 own, .int .i64 more] 141)).alloc (.cells zero9 59)).alloc (.cells #[.int .i64 st, .int .i64 ow, .int .i64 sm, .bool true, .bool ma, .int .i64 us, .int .i64 ge, .int .i64 ep, .int .i64 ve] 59)) (w.heap.size + 1) w' → RowAt w' w.heap.size #[.int .i64 st, .int .i64 ow, .int .i64 sm, .bool br, .bool ma, .int .i64 us, .int .i64 ge, .int .i64 ep, .int .i64 ve, .int .i64 own, .int .i64 more] 141 := fun w' h => R1.chg h.1 (by simp)
  have rS : ∀ w', Kp (((w.alloc (.cells #[.int .i64 st, .int .i64 ow, .int .i64 sm, .bool br, .bool ma, .int .i64 us, .int .i64 ge, .int .i64 ep, .int .i64 ve, .int .i64 own, .int .i64 more] 141)).alloc (.cells zero9 59)).alloc (.cells #[.int .i64 st, .int .i64 ow, .int .i64 sm, .bool true, .bool ma, .int .i64 us, .int .i64 ge, .int .i64 ep, .int .i64 ve] 59)) (w.heap.size + 1) w' → RowAt w' (w.heap.size + 1 + 1) #[.int .i64 st, .int .i64 ow, .int .i64 sm, .bool true, .bool ma, .int .i64 us, .int .i64 ge, .int .i64 ep, .int .i64 ve] 59 := fun w' h => R3.chg h.1 (by simp)
  have l3 : ∀ w', Kp (((w.alloc (.cells #[.int .i64 st, .int .i64 ow, .int .i64 sm, .bool br, .bool ma, .int .i64 us, .int .i64 ge, .int .i64 ep, .int .i64 ve, .int .i64 own, .int .i64 more] 141)).alloc (.cells zero9 59)).alloc (.cells #[.int .i64 st, .int .i64 ow, .int .i64 sm, .bool true, .bool ma, .int .i64 us, .int .i64 ge, .int .i64 ep, .int .i64 ve] 59)) (w.heap.size + 1) w' → w'.cell? ⟨w.heap.size, 3, none⟩ = some (.bool br) := fun w' h => h.cell (by simp) (R1.cell 3)
  clear R1 R3
  go_enter Tryz.func124, Tryz.ntmps124
  go_wp2_with fail
  generalize (((w.alloc (.cells #[.int .i64 st, .int .i64 ow, .int .i64 sm, .bool br, .bool ma, .int .i64 us, .int .i64 ge, .int .i64 ep, .int .i64 ve, .int .i64 own, .int .i64 more] 141)).alloc (.cells zero9 59)).alloc (.cells #[.int .i64 st, .int .i64 ow, .int .i64 sm, .bool true, .bool ma, .int .i64 us, .int .i64 ge, .int .i64 ep, .int .i64 ve] 59)) = wa at *
  have hKd := hK.drew
  cases br
  · cases b2
    · cases b3
      · have : True := trivial
        refine wp_region_held_drew (S := fun w' => Kp wa (w.heap.size + 1) w') (by kernel_rfl) (by exact hKd) (fun hHeld => ?_)
        refine take_of (i := 0) (d := some 8) (op := .load 59 (.tmp 4)) (gd := none) (v := .agg #[.int .i64 st, .int .i64 ow, .int .i64 sm, .bool true, .bool ma, .int .i64 us, .int .i64 ge, .int .i64 ep, .int .i64 ve]) (by kernel_rfl) (by kernel_rfl) (by kernel_rfl) (by kernel_rfl) (fun _ _ _ h => h) (by kernel_rfl) (run_load_row 59 (.tmp 4) (w.heap.size + 1 + 1) 59 #[.int .i64 st, .int .i64 ow, .int .i64 sm, .bool true, .bool ma, .int .i64 us, .int .i64 ge, .int .i64 ep, .int .i64 ve] _ (by kernel_rfl) Tryz.underlying59 rfl (by kernel_rfl) rS) hHeld ?_
        try simp only [Act.put, List.setIfInBounds_toArray, List.set_cons_zero, List.set_cons_succ]
        refine takeg (i := 1) (d := some 9) (v := ?_) (by kernel_rfl) (by kernel_rfl) (by kernel_rfl) (by kernel_rfl) (fun _ _ _ h => h) (by kernel_rfl) ?_ hHeld ?_
        rotate_left
        · intro w hSw
          try dsimp only at hSw
          go_simp
          try with_reducible rfl
        try simp only [Act.put, List.setIfInBounds_toArray, List.set_cons_zero, List.set_cons_succ]
        refine takeg (i := 2) (d := some 10) (v := ?_) (by kernel_rfl) (by kernel_rfl) (by kernel_rfl) (by kernel_rfl) (fun _ _ _ h => h) (by kernel_rfl) ?_ hHeld ?_
        rotate_left
        · intro w hSw
          try dsimp only at hSw
          go_simp
          try with_reducible rfl
        try simp only [Act.put, List.setIfInBounds_toArray, List.set_cons_zero, List.set_cons_succ]
        refine takeg (i := 3) (d := some 11) (v := ?_) (by kernel_rfl) (by kernel_rfl) (by kernel_rfl) (by kernel_rfl) (fun _ _ _ h => h) (by kernel_rfl) ?_ hHeld ?_
        rotate_left
        · intro w hSw
          try dsimp only at hSw
          go_simp
          try with_reducible rfl
        try simp only [Act.put, List.setIfInBounds_toArray, List.set_cons_zero, List.set_cons_succ]
        refine takeg (i := 4) (d := some 12) (v := ?_) (by kernel_rfl) (by kernel_rfl) (by kernel_rfl) (by kernel_rfl) (fun _ _ _ h => h) (by kernel_rfl) ?_ hHeld ?_
        rotate_left
        · intro w hSw
          try dsimp only at hSw
          go_simp
          try with_reducible rfl
        try simp only [Act.put, List.setIfInBounds_toArray, List.set_cons_zero, List.set_cons_succ]
        refine takeg (i := 5) (d := some 13) (v := ?_) (by kernel_rfl) (by kernel_rfl) (by kernel_rfl) (by kernel_rfl) (fun _ _ _ h => h) (by kernel_rfl) ?_ hHeld ?_
        rotate_left
        · intro w hSw
          try dsimp only at hSw
          go_simp
          try with_reducible rfl
        try simp only [Act.put, List.setIfInBounds_toArray, List.set_cons_zero, List.set_cons_succ]
        refine take_of (i := 6) (d := some 14) (op := .load 141 (.tmp 1)) (gd := some (5, true)) (v := .agg #[.int .i64 st, .int .i64 ow, .int .i64 sm, .bool false, .bool ma, .int .i64 us, .int .i64 ge, .int .i64 ep, .int .i64 ve, .int .i64 own, .int .i64 more]) (by kernel_rfl) (by kernel_rfl) (by kernel_rfl) (by kernel_rfl) (fun _ _ _ h => h) (by kernel_rfl) (run_load_row 141 (.tmp 1) (w.heap.size) 141 #[.int .i64 st, .int .i64 ow, .int .i64 sm, .bool false, .bool ma, .int .i64 us, .int .i64 ge, .int .i64 ep, .int .i64 ve, .int .i64 own, .int .i64 more] _ (by kernel_rfl) Tryz.underlying141 rfl (by kernel_rfl) rC) hHeld ?_
        try simp only [Act.put, List.setIfInBounds_toArray, List.set_cons_zero, List.set_cons_succ]
        refine ready_call (i := 7) (by kernel_rfl) 138 #[.tmp 14, .const (.int .i64 2)] #[141, 3] (some 15) (some (5, true)) (by kernel_rfl) (by kernel_rfl) #[.agg #[.int .i64 st, .int .i64 ow, .int .i64 sm, .bool false, .bool ma, .int .i64 us, .int .i64 ge, .int .i64 ep, .int .i64 ve, .int .i64 own, .int .i64 more], .int .i64 2] (by kernel_rfl) (enters_of Tryz.func138 (by kernel_rfl) rfl) ?_
        refine (h2 _).mono ?_
        rintro e w6 ⟨rfl, hb6⟩
        refine ⟨_, rfl, hHeld.later hb6, fun hH2 => ?_⟩
        try simp only [Act.put, List.setIfInBounds_toArray, List.set_cons_zero, List.set_cons_succ]
        refine take_of (i := 8) (d := some 16) (op := .move (.tmp 15)) (gd := some (5, true)) (v := (.bool false)) (by kernel_rfl) (by kernel_rfl) (by kernel_rfl) (by kernel_rfl) (fun _ _ _ h => h) (by kernel_rfl) (run_move_of (.tmp 15) (.bool false) (by kernel_rfl)) hH2 ?_
        try simp only [Act.put, List.setIfInBounds_toArray, List.set_cons_zero, List.set_cons_succ]
        refine take_of (i := 9) (d := some 17) (op := .load 141 (.tmp 1)) (gd := some (8, false)) (v := .agg #[.int .i64 st, .int .i64 ow, .int .i64 sm, .bool false, .bool ma, .int .i64 us, .int .i64 ge, .int .i64 ep, .int .i64 ve, .int .i64 own, .int .i64 more]) (by kernel_rfl) (by kernel_rfl) (by kernel_rfl) (by kernel_rfl) (fun _ _ _ h => h) (by kernel_rfl) (run_load_row 141 (.tmp 1) (w.heap.size) 141 #[.int .i64 st, .int .i64 ow, .int .i64 sm, .bool false, .bool ma, .int .i64 us, .int .i64 ge, .int .i64 ep, .int .i64 ve, .int .i64 own, .int .i64 more] _ (by kernel_rfl) Tryz.underlying141 rfl (by kernel_rfl) rC) hH2 ?_
        try simp only [Act.put, List.setIfInBounds_toArray, List.set_cons_zero, List.set_cons_succ]
        refine ready_call (i := 10) (by kernel_rfl) 138 #[.tmp 17, .const (.int .i64 3)] #[141, 3] (some 18) (some (8, false)) (by kernel_rfl) (by kernel_rfl) #[.agg #[.int .i64 st, .int .i64 ow, .int .i64 sm, .bool false, .bool ma, .int .i64 us, .int .i64 ge, .int .i64 ep, .int .i64 ve, .int .i64 own, .int .i64 more], .int .i64 3] (by kernel_rfl) (enters_of Tryz.func138 (by kernel_rfl) rfl) ?_
        refine (h3 _).mono ?_
        rintro e w6 ⟨rfl, hb6⟩
        refine ⟨_, rfl, hH2.later hb6, fun hH3 => ?_⟩
        try simp only [Act.put, List.setIfInBounds_toArray, List.set_cons_zero, List.set_cons_succ]
        refine take_of (i := 11) (d := some 19) (op := .pick (.tmp 16) (.const (.bool true)) (.tmp 18)) (gd := some (5, true)) (v := (.bool false)) (by kernel_rfl) (by kernel_rfl) (by kernel_rfl) (by kernel_rfl) (fun _ _ _ h => h) (by kernel_rfl) (run_pick_of (.tmp 16) (.const (.bool true)) (.tmp 18) false (.bool false) (by kernel_rfl) (by kernel_rfl)) hH3 ?_
        try simp only [Act.put, List.setIfInBounds_toArray, List.set_cons_zero, List.set_cons_succ]
        refine take_of (i := 12) (d := some 20) (op := .move (.tmp 19)) (gd := some (5, true)) (v := (.bool false)) (by kernel_rfl) (by kernel_rfl) (by kernel_rfl) (by kernel_rfl) (fun _ _ _ h => h) (by kernel_rfl) (run_move_of (.tmp 19) (.bool false) (by kernel_rfl)) hH3 ?_
        try simp only [Act.put, List.setIfInBounds_toArray, List.set_cons_zero, List.set_cons_succ]
        refine take_of (i := 13) (d := some 21) (op := .load 141 (.tmp 1)) (gd := some (12, false)) (v := .agg #[.int .i64 st, .int .i64 ow, .int .i64 sm, .bool false, .bool ma, .int .i64 us, .int .i64 ge, .int .i64 ep, .int .i64 ve, .int .i64 own, .int .i64 more]) (by kernel_rfl) (by kernel_rfl) (by kernel_rfl) (by kernel_rfl) (fun _ _ _ h => h) (by kernel_rfl) (run_load_row 141 (.tmp 1) (w.heap.size) 141 #[.int .i64 st, .int .i64 ow, .int .i64 sm, .bool false, .bool ma, .int .i64 us, .int .i64 ge, .int .i64 ep, .int .i64 ve, .int .i64 own, .int .i64 more] _ (by kernel_rfl) Tryz.underlying141 rfl (by kernel_rfl) rC) hH3 ?_
        try simp only [Act.put, List.setIfInBounds_toArray, List.set_cons_zero, List.set_cons_succ]
        refine ready_call (i := 14) (by kernel_rfl) 138 #[.tmp 21, .const (.int .i64 4)] #[141, 3] (some 22) (some (12, false)) (by kernel_rfl) (by kernel_rfl) #[.agg #[.int .i64 st, .int .i64 ow, .int .i64 sm, .bool false, .bool ma, .int .i64 us, .int .i64 ge, .int .i64 ep, .int .i64 ve, .int .i64 own, .int .i64 more], .int .i64 4] (by kernel_rfl) (enters_of Tryz.func138 (by kernel_rfl) rfl) ?_
        refine (h4 _).mono ?_
        rintro e w6 ⟨rfl, hb6⟩
        refine ⟨_, rfl, hH3.later hb6, fun hH4 => ?_⟩
        try simp only [Act.put, List.setIfInBounds_toArray, List.set_cons_zero, List.set_cons_succ]
        refine take_of (i := 15) (d := some 23) (op := .pick (.tmp 20) (.const (.bool true)) (.tmp 22)) (gd := some (5, true)) (v := (.bool b4)) (by kernel_rfl) (by kernel_rfl) (by kernel_rfl) (by kernel_rfl) (fun _ _ _ h => h) (by kernel_rfl) (run_pick_of (.tmp 20) (.const (.bool true)) (.tmp 22) false (.bool b4) (by kernel_rfl) (by kernel_rfl)) hH4 ?_
        try simp only [Act.put, List.setIfInBounds_toArray, List.set_cons_zero, List.set_cons_succ]
        refine take_of (i := 16) (d := some 24) (op := .pick (.tmp 13) (.tmp 23) (.const (.bool false))) (gd := none) (v := (.bool b4)) (by kernel_rfl) (by kernel_rfl) (by kernel_rfl) (by kernel_rfl) (fun _ _ _ h => h) (by kernel_rfl) (run_pick_of (.tmp 13) (.tmp 23) (.const (.bool false)) true (.bool b4) (by kernel_rfl) (by kernel_rfl)) hH4 ?_
        try simp only [Act.put, List.setIfInBounds_toArray, List.set_cons_zero, List.set_cons_succ]
        obtain ⟨kp1, Z, kp2, kp3⟩ := hH4
        refine ready_store_row (i := 17) (by kernel_rfl) 59 (.tmp 2) (.tmp 8) (by kernel_rfl) (w.heap.size + 1) _ _ #[.int .i64 st, .int .i64 ow, .int .i64 sm, .bool true, .bool ma, .int .i64 us, .int .i64 ge, .int .i64 ep, .int .i64 ve] (by kernel_rfl) (by kernel_rfl) kp3 kp2 (by kernel_rfl) (by kernel_rfl) (Kp.set ⟨kp1, Z, kp2, kp3⟩ ⟨st, ow, sm, true, ma, us, ge, ep, ve⟩) (fun hHeld9 => ?_)
        try simp only [Act.put, List.setIfInBounds_toArray, List.set_cons_zero, List.set_cons_succ]
        refine take_of (i := 18) (d := some 3) (op := .assign (.tmp 24)) (gd := none) (v := (.bool b4)) (by kernel_rfl) (by kernel_rfl) (by kernel_rfl) (by kernel_rfl) (fun _ _ _ h => h) (by kernel_rfl) (run_assign_of (.tmp 24) (.bool b4) (by kernel_rfl)) hHeld9 ?_
        try simp only [Act.put, List.setIfInBounds_toArray, List.set_cons_zero, List.set_cons_succ]
        refine wpAnyH_done (by kernel_rfl) ?_ _
        go_simp
        clear rC rS
        go_wp2_with fail
        refine bodyPost_ret (results_row2 rfl _ _ (w.heap.size + 1) _ _ _ rfl (Kp.row ⟨kp1, Z, kp2, kp3⟩ ⟨st, ow, sm, true, ma, us, ge, ep, ve⟩) Tryz.underlying59 rfl (by kernel_rfl)) rfl ?_
        exact ⟨rfl, Kp.below hHeld9 hA (by omega)⟩
      · have : True := trivial
        refine wp_region_held_drew (S := fun w' => Kp wa (w.heap.size + 1) w') (by kernel_rfl) (by exact hKd) (fun hHeld => ?_)
        refine take_of (i := 0) (d := some 8) (op := .load 59 (.tmp 4)) (gd := none) (v := .agg #[.int .i64 st, .int .i64 ow, .int .i64 sm, .bool true, .bool ma, .int .i64 us, .int .i64 ge, .int .i64 ep, .int .i64 ve]) (by kernel_rfl) (by kernel_rfl) (by kernel_rfl) (by kernel_rfl) (fun _ _ _ h => h) (by kernel_rfl) (run_load_row 59 (.tmp 4) (w.heap.size + 1 + 1) 59 #[.int .i64 st, .int .i64 ow, .int .i64 sm, .bool true, .bool ma, .int .i64 us, .int .i64 ge, .int .i64 ep, .int .i64 ve] _ (by kernel_rfl) Tryz.underlying59 rfl (by kernel_rfl) rS) hHeld ?_
        try simp only [Act.put, List.setIfInBounds_toArray, List.set_cons_zero, List.set_cons_succ]
        refine takeg (i := 1) (d := some 9) (v := ?_) (by kernel_rfl) (by kernel_rfl) (by kernel_rfl) (by kernel_rfl) (fun _ _ _ h => h) (by kernel_rfl) ?_ hHeld ?_
        rotate_left
        · intro w hSw
          try dsimp only at hSw
          go_simp
          try with_reducible rfl
        try simp only [Act.put, List.setIfInBounds_toArray, List.set_cons_zero, List.set_cons_succ]
        refine takeg (i := 2) (d := some 10) (v := ?_) (by kernel_rfl) (by kernel_rfl) (by kernel_rfl) (by kernel_rfl) (fun _ _ _ h => h) (by kernel_rfl) ?_ hHeld ?_
        rotate_left
        · intro w hSw
          try dsimp only at hSw
          go_simp
          try with_reducible rfl
        try simp only [Act.put, List.setIfInBounds_toArray, List.set_cons_zero, List.set_cons_succ]
        refine takeg (i := 3) (d := some 11) (v := ?_) (by kernel_rfl) (by kernel_rfl) (by kernel_rfl) (by kernel_rfl) (fun _ _ _ h => h) (by kernel_rfl) ?_ hHeld ?_
        rotate_left
        · intro w hSw
          try dsimp only at hSw
          go_simp
          try with_reducible rfl
        try simp only [Act.put, List.setIfInBounds_toArray, List.set_cons_zero, List.set_cons_succ]
        refine takeg (i := 4) (d := some 12) (v := ?_) (by kernel_rfl) (by kernel_rfl) (by kernel_rfl) (by kernel_rfl) (fun _ _ _ h => h) (by kernel_rfl) ?_ hHeld ?_
        rotate_left
        · intro w hSw
          try dsimp only at hSw
          go_simp
          try with_reducible rfl
        try simp only [Act.put, List.setIfInBounds_toArray, List.set_cons_zero, List.set_cons_succ]
        refine takeg (i := 5) (d := some 13) (v := ?_) (by kernel_rfl) (by kernel_rfl) (by kernel_rfl) (by kernel_rfl) (fun _ _ _ h => h) (by kernel_rfl) ?_ hHeld ?_
        rotate_left
        · intro w hSw
          try dsimp only at hSw
          go_simp
          try with_reducible rfl
        try simp only [Act.put, List.setIfInBounds_toArray, List.set_cons_zero, List.set_cons_succ]
        refine take_of (i := 6) (d := some 14) (op := .load 141 (.tmp 1)) (gd := some (5, true)) (v := .agg #[.int .i64 st, .int .i64 ow, .int .i64 sm, .bool false, .bool ma, .int .i64 us, .int .i64 ge, .int .i64 ep, .int .i64 ve, .int .i64 own, .int .i64 more]) (by kernel_rfl) (by kernel_rfl) (by kernel_rfl) (by kernel_rfl) (fun _ _ _ h => h) (by kernel_rfl) (run_load_row 141 (.tmp 1) (w.heap.size) 141 #[.int .i64 st, .int .i64 ow, .int .i64 sm, .bool false, .bool ma, .int .i64 us, .int .i64 ge, .int .i64 ep, .int .i64 ve, .int .i64 own, .int .i64 more] _ (by kernel_rfl) Tryz.underlying141 rfl (by kernel_rfl) rC) hHeld ?_
        try simp only [Act.put, List.setIfInBounds_toArray, List.set_cons_zero, List.set_cons_succ]
        refine ready_call (i := 7) (by kernel_rfl) 138 #[.tmp 14, .const (.int .i64 2)] #[141, 3] (some 15) (some (5, true)) (by kernel_rfl) (by kernel_rfl) #[.agg #[.int .i64 st, .int .i64 ow, .int .i64 sm, .bool false, .bool ma, .int .i64 us, .int .i64 ge, .int .i64 ep, .int .i64 ve, .int .i64 own, .int .i64 more], .int .i64 2] (by kernel_rfl) (enters_of Tryz.func138 (by kernel_rfl) rfl) ?_
        refine (h2 _).mono ?_
        rintro e w6 ⟨rfl, hb6⟩
        refine ⟨_, rfl, hHeld.later hb6, fun hH2 => ?_⟩
        try simp only [Act.put, List.setIfInBounds_toArray, List.set_cons_zero, List.set_cons_succ]
        refine take_of (i := 8) (d := some 16) (op := .move (.tmp 15)) (gd := some (5, true)) (v := (.bool false)) (by kernel_rfl) (by kernel_rfl) (by kernel_rfl) (by kernel_rfl) (fun _ _ _ h => h) (by kernel_rfl) (run_move_of (.tmp 15) (.bool false) (by kernel_rfl)) hH2 ?_
        try simp only [Act.put, List.setIfInBounds_toArray, List.set_cons_zero, List.set_cons_succ]
        refine take_of (i := 9) (d := some 17) (op := .load 141 (.tmp 1)) (gd := some (8, false)) (v := .agg #[.int .i64 st, .int .i64 ow, .int .i64 sm, .bool false, .bool ma, .int .i64 us, .int .i64 ge, .int .i64 ep, .int .i64 ve, .int .i64 own, .int .i64 more]) (by kernel_rfl) (by kernel_rfl) (by kernel_rfl) (by kernel_rfl) (fun _ _ _ h => h) (by kernel_rfl) (run_load_row 141 (.tmp 1) (w.heap.size) 141 #[.int .i64 st, .int .i64 ow, .int .i64 sm, .bool false, .bool ma, .int .i64 us, .int .i64 ge, .int .i64 ep, .int .i64 ve, .int .i64 own, .int .i64 more] _ (by kernel_rfl) Tryz.underlying141 rfl (by kernel_rfl) rC) hH2 ?_
        try simp only [Act.put, List.setIfInBounds_toArray, List.set_cons_zero, List.set_cons_succ]
        refine ready_call (i := 10) (by kernel_rfl) 138 #[.tmp 17, .const (.int .i64 3)] #[141, 3] (some 18) (some (8, false)) (by kernel_rfl) (by kernel_rfl) #[.agg #[.int .i64 st, .int .i64 ow, .int .i64 sm, .bool false, .bool ma, .int .i64 us, .int .i64 ge, .int .i64 ep, .int .i64 ve, .int .i64 own, .int .i64 more], .int .i64 3] (by kernel_rfl) (enters_of Tryz.func138 (by kernel_rfl) rfl) ?_
        refine (h3 _).mono ?_
        rintro e w6 ⟨rfl, hb6⟩
        refine ⟨_, rfl, hH2.later hb6, fun hH3 => ?_⟩
        try simp only [Act.put, List.setIfInBounds_toArray, List.set_cons_zero, List.set_cons_succ]
        refine take_of (i := 11) (d := some 19) (op := .pick (.tmp 16) (.const (.bool true)) (.tmp 18)) (gd := some (5, true)) (v := (.bool true)) (by kernel_rfl) (by kernel_rfl) (by kernel_rfl) (by kernel_rfl) (fun _ _ _ h => h) (by kernel_rfl) (run_pick_of (.tmp 16) (.const (.bool true)) (.tmp 18) false (.bool true) (by kernel_rfl) (by kernel_rfl)) hH3 ?_
        try simp only [Act.put, List.setIfInBounds_toArray, List.set_cons_zero, List.set_cons_succ]
        refine take_of (i := 12) (d := some 20) (op := .move (.tmp 19)) (gd := some (5, true)) (v := (.bool true)) (by kernel_rfl) (by kernel_rfl) (by kernel_rfl) (by kernel_rfl) (fun _ _ _ h => h) (by kernel_rfl) (run_move_of (.tmp 19) (.bool true) (by kernel_rfl)) hH3 ?_
        try simp only [Act.put, List.setIfInBounds_toArray, List.set_cons_zero, List.set_cons_succ]
        refine skip_of (i := 13) (d := some 21) (by kernel_rfl) (by kernel_rfl) (by kernel_rfl) (by kernel_rfl) (fun _ _ _ h => h) (by kernel_rfl) hH3 ?_
        try simp only [Act.put, List.setIfInBounds_toArray, List.set_cons_zero, List.set_cons_succ]
        refine skip_of (i := 14) (d := some 22) (by kernel_rfl) (by kernel_rfl) (by kernel_rfl) (by kernel_rfl) (fun _ _ _ h => h) (by kernel_rfl) hH3 ?_
        try simp only [Act.put, List.setIfInBounds_toArray, List.set_cons_zero, List.set_cons_succ]
        refine take_of (i := 15) (d := some 23) (op := .pick (.tmp 20) (.const (.bool true)) (.tmp 22)) (gd := some (5, true)) (v := (.bool true)) (by kernel_rfl) (by kernel_rfl) (by kernel_rfl) (by kernel_rfl) (fun _ _ _ h => h) (by kernel_rfl) (run_pick_of (.tmp 20) (.const (.bool true)) (.tmp 22) true (.bool true) (by kernel_rfl) (by kernel_rfl)) hH3 ?_
        try simp only [Act.put, List.setIfInBounds_toArray, List.set_cons_zero, List.set_cons_succ]
        refine take_of (i := 16) (d := some 24) (op := .pick (.tmp 13) (.tmp 23) (.const (.bool false))) (gd := none) (v := (.bool true)) (by kernel_rfl) (by kernel_rfl) (by kernel_rfl) (by kernel_rfl) (fun _ _ _ h => h) (by kernel_rfl) (run_pick_of (.tmp 13) (.tmp 23) (.const (.bool false)) true (.bool true) (by kernel_rfl) (by kernel_rfl)) hH3 ?_
        try simp only [Act.put, List.setIfInBounds_toArray, List.set_cons_zero, List.set_cons_succ]
        obtain ⟨kp1, Z, kp2, kp3⟩ := hH3
        refine ready_store_row (i := 17) (by kernel_rfl) 59 (.tmp 2) (.tmp 8) (by kernel_rfl) (w.heap.size + 1) _ _ #[.int .i64 st, .int .i64 ow, .int .i64 sm, .bool true, .bool ma, .int .i64 us, .int .i64 ge, .int .i64 ep, .int .i64 ve] (by kernel_rfl) (by kernel_rfl) kp3 kp2 (by kernel_rfl) (by kernel_rfl) (Kp.set ⟨kp1, Z, kp2, kp3⟩ ⟨st, ow, sm, true, ma, us, ge, ep, ve⟩) (fun hHeld9 => ?_)
        try simp only [Act.put, List.setIfInBounds_toArray, List.set_cons_zero, List.set_cons_succ]
        refine take_of (i := 18) (d := some 3) (op := .assign (.tmp 24)) (gd := none) (v := (.bool true)) (by kernel_rfl) (by kernel_rfl) (by kernel_rfl) (by kernel_rfl) (fun _ _ _ h => h) (by kernel_rfl) (run_assign_of (.tmp 24) (.bool true) (by kernel_rfl)) hHeld9 ?_
        try simp only [Act.put, List.setIfInBounds_toArray, List.set_cons_zero, List.set_cons_succ]
        refine wpAnyH_done (by kernel_rfl) ?_ _
        go_simp
        clear rC rS
        go_wp2_with fail
        refine bodyPost_ret (results_row2 rfl _ _ (w.heap.size + 1) _ _ _ rfl (Kp.row ⟨kp1, Z, kp2, kp3⟩ ⟨st, ow, sm, true, ma, us, ge, ep, ve⟩) Tryz.underlying59 rfl (by kernel_rfl)) rfl ?_
        exact ⟨rfl, Kp.below hHeld9 hA (by omega)⟩
    · have : True := trivial
      refine wp_region_held_drew (S := fun w' => Kp wa (w.heap.size + 1) w') (by kernel_rfl) (by exact hKd) (fun hHeld => ?_)
      refine take_of (i := 0) (d := some 8) (op := .load 59 (.tmp 4)) (gd := none) (v := .agg #[.int .i64 st, .int .i64 ow, .int .i64 sm, .bool true, .bool ma, .int .i64 us, .int .i64 ge, .int .i64 ep, .int .i64 ve]) (by kernel_rfl) (by kernel_rfl) (by kernel_rfl) (by kernel_rfl) (fun _ _ _ h => h) (by kernel_rfl) (run_load_row 59 (.tmp 4) (w.heap.size + 1 + 1) 59 #[.int .i64 st, .int .i64 ow, .int .i64 sm, .bool true, .bool ma, .int .i64 us, .int .i64 ge, .int .i64 ep, .int .i64 ve] _ (by kernel_rfl) Tryz.underlying59 rfl (by kernel_rfl) rS) hHeld ?_
      try simp only [Act.put, List.setIfInBounds_toArray, List.set_cons_zero, List.set_cons_succ]
      refine takeg (i := 1) (d := some 9) (v := ?_) (by kernel_rfl) (by kernel_rfl) (by kernel_rfl) (by kernel_rfl) (fun _ _ _ h => h) (by kernel_rfl) ?_ hHeld ?_
      rotate_left
      · intro w hSw
        try dsimp only at hSw
        go_simp
        try with_reducible rfl
      try simp only [Act.put, List.setIfInBounds_toArray, List.set_cons_zero, List.set_cons_succ]
      refine takeg (i := 2) (d := some 10) (v := ?_) (by kernel_rfl) (by kernel_rfl) (by kernel_rfl) (by kernel_rfl) (fun _ _ _ h => h) (by kernel_rfl) ?_ hHeld ?_
      rotate_left
      · intro w hSw
        try dsimp only at hSw
        go_simp
        try with_reducible rfl
      try simp only [Act.put, List.setIfInBounds_toArray, List.set_cons_zero, List.set_cons_succ]
      refine takeg (i := 3) (d := some 11) (v := ?_) (by kernel_rfl) (by kernel_rfl) (by kernel_rfl) (by kernel_rfl) (fun _ _ _ h => h) (by kernel_rfl) ?_ hHeld ?_
      rotate_left
      · intro w hSw
        try dsimp only at hSw
        go_simp
        try with_reducible rfl
      try simp only [Act.put, List.setIfInBounds_toArray, List.set_cons_zero, List.set_cons_succ]
      refine takeg (i := 4) (d := some 12) (v := ?_) (by kernel_rfl) (by kernel_rfl) (by kernel_rfl) (by kernel_rfl) (fun _ _ _ h => h) (by kernel_rfl) ?_ hHeld ?_
      rotate_left
      · intro w hSw
        try dsimp only at hSw
        go_simp
        try with_reducible rfl
      try simp only [Act.put, List.setIfInBounds_toArray, List.set_cons_zero, List.set_cons_succ]
      refine takeg (i := 5) (d := some 13) (v := ?_) (by kernel_rfl) (by kernel_rfl) (by kernel_rfl) (by kernel_rfl) (fun _ _ _ h => h) (by kernel_rfl) ?_ hHeld ?_
      rotate_left
      · intro w hSw
        try dsimp only at hSw
        go_simp
        try with_reducible rfl
      try simp only [Act.put, List.setIfInBounds_toArray, List.set_cons_zero, List.set_cons_succ]
      refine take_of (i := 6) (d := some 14) (op := .load 141 (.tmp 1)) (gd := some (5, true)) (v := .agg #[.int .i64 st, .int .i64 ow, .int .i64 sm, .bool false, .bool ma, .int .i64 us, .int .i64 ge, .int .i64 ep, .int .i64 ve, .int .i64 own, .int .i64 more]) (by kernel_rfl) (by kernel_rfl) (by kernel_rfl) (by kernel_rfl) (fun _ _ _ h => h) (by kernel_rfl) (run_load_row 141 (.tmp 1) (w.heap.size) 141 #[.int .i64 st, .int .i64 ow, .int .i64 sm, .bool false, .bool ma, .int .i64 us, .int .i64 ge, .int .i64 ep, .int .i64 ve, .int .i64 own, .int .i64 more] _ (by kernel_rfl) Tryz.underlying141 rfl (by kernel_rfl) rC) hHeld ?_
      try simp only [Act.put, List.setIfInBounds_toArray, List.set_cons_zero, List.set_cons_succ]
      refine ready_call (i := 7) (by kernel_rfl) 138 #[.tmp 14, .const (.int .i64 2)] #[141, 3] (some 15) (some (5, true)) (by kernel_rfl) (by kernel_rfl) #[.agg #[.int .i64 st, .int .i64 ow, .int .i64 sm, .bool false, .bool ma, .int .i64 us, .int .i64 ge, .int .i64 ep, .int .i64 ve, .int .i64 own, .int .i64 more], .int .i64 2] (by kernel_rfl) (enters_of Tryz.func138 (by kernel_rfl) rfl) ?_
      refine (h2 _).mono ?_
      rintro e w6 ⟨rfl, hb6⟩
      refine ⟨_, rfl, hHeld.later hb6, fun hH2 => ?_⟩
      try simp only [Act.put, List.setIfInBounds_toArray, List.set_cons_zero, List.set_cons_succ]
      refine take_of (i := 8) (d := some 16) (op := .move (.tmp 15)) (gd := some (5, true)) (v := (.bool true)) (by kernel_rfl) (by kernel_rfl) (by kernel_rfl) (by kernel_rfl) (fun _ _ _ h => h) (by kernel_rfl) (run_move_of (.tmp 15) (.bool true) (by kernel_rfl)) hH2 ?_
      try simp only [Act.put, List.setIfInBounds_toArray, List.set_cons_zero, List.set_cons_succ]
      refine skip_of (i := 9) (d := some 17) (by kernel_rfl) (by kernel_rfl) (by kernel_rfl) (by kernel_rfl) (fun _ _ _ h => h) (by kernel_rfl) hH2 ?_
      try simp only [Act.put, List.setIfInBounds_toArray, List.set_cons_zero, List.set_cons_succ]
      refine skip_of (i := 10) (d := some 18) (by kernel_rfl) (by kernel_rfl) (by kernel_rfl) (by kernel_rfl) (fun _ _ _ h => h) (by kernel_rfl) hH2 ?_
      try simp only [Act.put, List.setIfInBounds_toArray, List.set_cons_zero, List.set_cons_succ]
      refine take_of (i := 11) (d := some 19) (op := .pick (.tmp 16) (.const (.bool true)) (.tmp 18)) (gd := some (5, true)) (v := (.bool true)) (by kernel_rfl) (by kernel_rfl) (by kernel_rfl) (by kernel_rfl) (fun _ _ _ h => h) (by kernel_rfl) (run_pick_of (.tmp 16) (.const (.bool true)) (.tmp 18) true (.bool true) (by kernel_rfl) (by kernel_rfl)) hH2 ?_
      try simp only [Act.put, List.setIfInBounds_toArray, List.set_cons_zero, List.set_cons_succ]
      refine take_of (i := 12) (d := some 20) (op := .move (.tmp 19)) (gd := some (5, true)) (v := (.bool true)) (by kernel_rfl) (by kernel_rfl) (by kernel_rfl) (by kernel_rfl) (fun _ _ _ h => h) (by kernel_rfl) (run_move_of (.tmp 19) (.bool true) (by kernel_rfl)) hH2 ?_
      try simp only [Act.put, List.setIfInBounds_toArray, List.set_cons_zero, List.set_cons_succ]
      refine skip_of (i := 13) (d := some 21) (by kernel_rfl) (by kernel_rfl) (by kernel_rfl) (by kernel_rfl) (fun _ _ _ h => h) (by kernel_rfl) hH2 ?_
      try simp only [Act.put, List.setIfInBounds_toArray, List.set_cons_zero, List.set_cons_succ]
      refine skip_of (i := 14) (d := some 22) (by kernel_rfl) (by kernel_rfl) (by kernel_rfl) (by kernel_rfl) (fun _ _ _ h => h) (by kernel_rfl) hH2 ?_
      try simp only [Act.put, List.setIfInBounds_toArray, List.set_cons_zero, List.set_cons_succ]
      refine take_of (i := 15) (d := some 23) (op := .pick (.tmp 20) (.const (.bool true)) (.tmp 22)) (gd := some (5, true)) (v := (.bool true)) (by kernel_rfl) (by kernel_rfl) (by kernel_rfl) (by kernel_rfl) (fun _ _ _ h => h) (by kernel_rfl) (run_pick_of (.tmp 20) (.const (.bool true)) (.tmp 22) true (.bool true) (by kernel_rfl) (by kernel_rfl)) hH2 ?_
      try simp only [Act.put, List.setIfInBounds_toArray, List.set_cons_zero, List.set_cons_succ]
      refine take_of (i := 16) (d := some 24) (op := .pick (.tmp 13) (.tmp 23) (.const (.bool false))) (gd := none) (v := (.bool true)) (by kernel_rfl) (by kernel_rfl) (by kernel_rfl) (by kernel_rfl) (fun _ _ _ h => h) (by kernel_rfl) (run_pick_of (.tmp 13) (.tmp 23) (.const (.bool false)) true (.bool true) (by kernel_rfl) (by kernel_rfl)) hH2 ?_
      try simp only [Act.put, List.setIfInBounds_toArray, List.set_cons_zero, List.set_cons_succ]
      obtain ⟨kp1, Z, kp2, kp3⟩ := hH2
      refine ready_store_row (i := 17) (by kernel_rfl) 59 (.tmp 2) (.tmp 8) (by kernel_rfl) (w.heap.size + 1) _ _ #[.int .i64 st, .int .i64 ow, .int .i64 sm, .bool true, .bool ma, .int .i64 us, .int .i64 ge, .int .i64 ep, .int .i64 ve] (by kernel_rfl) (by kernel_rfl) kp3 kp2 (by kernel_rfl) (by kernel_rfl) (Kp.set ⟨kp1, Z, kp2, kp3⟩ ⟨st, ow, sm, true, ma, us, ge, ep, ve⟩) (fun hHeld9 => ?_)
      try simp only [Act.put, List.setIfInBounds_toArray, List.set_cons_zero, List.set_cons_succ]
      refine take_of (i := 18) (d := some 3) (op := .assign (.tmp 24)) (gd := none) (v := (.bool true)) (by kernel_rfl) (by kernel_rfl) (by kernel_rfl) (by kernel_rfl) (fun _ _ _ h => h) (by kernel_rfl) (run_assign_of (.tmp 24) (.bool true) (by kernel_rfl)) hHeld9 ?_
      try simp only [Act.put, List.setIfInBounds_toArray, List.set_cons_zero, List.set_cons_succ]
      refine wpAnyH_done (by kernel_rfl) ?_ _
      go_simp
      clear rC rS
      go_wp2_with fail
      refine bodyPost_ret (results_row2 rfl _ _ (w.heap.size + 1) _ _ _ rfl (Kp.row ⟨kp1, Z, kp2, kp3⟩ ⟨st, ow, sm, true, ma, us, ge, ep, ve⟩) Tryz.underlying59 rfl (by kernel_rfl)) rfl ?_
      exact ⟨rfl, Kp.below hHeld9 hA (by omega)⟩
  · have : True := trivial
    refine wp_region_held_drew (S := fun w' => Kp wa (w.heap.size + 1) w') (by kernel_rfl) (by exact hKd) (fun hHeld => ?_)
    refine take_of (i := 0) (d := some 8) (op := .load 59 (.tmp 4)) (gd := none) (v := .agg #[.int .i64 st, .int .i64 ow, .int .i64 sm, .bool true, .bool ma, .int .i64 us, .int .i64 ge, .int .i64 ep, .int .i64 ve]) (by kernel_rfl) (by kernel_rfl) (by kernel_rfl) (by kernel_rfl) (fun _ _ _ h => h) (by kernel_rfl) (run_load_row 59 (.tmp 4) (w.heap.size + 1 + 1) 59 #[.int .i64 st, .int .i64 ow, .int .i64 sm, .bool true, .bool ma, .int .i64 us, .int .i64 ge, .int .i64 ep, .int .i64 ve] _ (by kernel_rfl) Tryz.underlying59 rfl (by kernel_rfl) rS) hHeld ?_
    try simp only [Act.put, List.setIfInBounds_toArray, List.set_cons_zero, List.set_cons_succ]
    refine takeg (i := 1) (d := some 9) (v := ?_) (by kernel_rfl) (by kernel_rfl) (by kernel_rfl) (by kernel_rfl) (fun _ _ _ h => h) (by kernel_rfl) ?_ hHeld ?_
    rotate_left
    · intro w hSw
      try dsimp only at hSw
      go_simp
      try with_reducible rfl
    try simp only [Act.put, List.setIfInBounds_toArray, List.set_cons_zero, List.set_cons_succ]
    refine takeg (i := 2) (d := some 10) (v := ?_) (by kernel_rfl) (by kernel_rfl) (by kernel_rfl) (by kernel_rfl) (fun _ _ _ h => h) (by kernel_rfl) ?_ hHeld ?_
    rotate_left
    · intro w hSw
      try dsimp only at hSw
      go_simp
      try with_reducible rfl
    try simp only [Act.put, List.setIfInBounds_toArray, List.set_cons_zero, List.set_cons_succ]
    refine takeg (i := 3) (d := some 11) (v := ?_) (by kernel_rfl) (by kernel_rfl) (by kernel_rfl) (by kernel_rfl) (fun _ _ _ h => h) (by kernel_rfl) ?_ hHeld ?_
    rotate_left
    · intro w hSw
      try dsimp only at hSw
      go_simp
      try with_reducible rfl
    try simp only [Act.put, List.setIfInBounds_toArray, List.set_cons_zero, List.set_cons_succ]
    refine takeg (i := 4) (d := some 12) (v := ?_) (by kernel_rfl) (by kernel_rfl) (by kernel_rfl) (by kernel_rfl) (fun _ _ _ h => h) (by kernel_rfl) ?_ hHeld ?_
    rotate_left
    · intro w hSw
      try dsimp only at hSw
      go_simp
      try with_reducible rfl
    try simp only [Act.put, List.setIfInBounds_toArray, List.set_cons_zero, List.set_cons_succ]
    refine takeg (i := 5) (d := some 13) (v := ?_) (by kernel_rfl) (by kernel_rfl) (by kernel_rfl) (by kernel_rfl) (fun _ _ _ h => h) (by kernel_rfl) ?_ hHeld ?_
    rotate_left
    · intro w hSw
      try dsimp only at hSw
      go_simp
      try with_reducible rfl
    try simp only [Act.put, List.setIfInBounds_toArray, List.set_cons_zero, List.set_cons_succ]
    refine skip_of (i := 6) (d := some 14) (by kernel_rfl) (by kernel_rfl) (by kernel_rfl) (by kernel_rfl) (fun _ _ _ h => h) (by kernel_rfl) hHeld ?_
    try simp only [Act.put, List.setIfInBounds_toArray, List.set_cons_zero, List.set_cons_succ]
    refine skip_of (i := 7) (d := some 15) (by kernel_rfl) (by kernel_rfl) (by kernel_rfl) (by kernel_rfl) (fun _ _ _ h => h) (by kernel_rfl) hHeld ?_
    try simp only [Act.put, List.setIfInBounds_toArray, List.set_cons_zero, List.set_cons_succ]
    refine skip_of (i := 8) (d := some 16) (by kernel_rfl) (by kernel_rfl) (by kernel_rfl) (by kernel_rfl) (fun _ _ _ h => h) (by kernel_rfl) hHeld ?_
    try simp only [Act.put, List.setIfInBounds_toArray, List.set_cons_zero, List.set_cons_succ]
    refine skip_of (i := 9) (d := some 17) (by kernel_rfl) (by kernel_rfl) (by kernel_rfl) (by kernel_rfl) (fun _ _ _ h => h) (by kernel_rfl) hHeld ?_
    try simp only [Act.put, List.setIfInBounds_toArray, List.set_cons_zero, List.set_cons_succ]
    refine skip_of (i := 10) (d := some 18) (by kernel_rfl) (by kernel_rfl) (by kernel_rfl) (by kernel_rfl) (fun _ _ _ h => h) (by kernel_rfl) hHeld ?_
    try simp only [Act.put, List.setIfInBounds_toArray, List.set_cons_zero, List.set_cons_succ]
    refine skip_of (i := 11) (d := some 19) (by kernel_rfl) (by kernel_rfl) (by kernel_rfl) (by kernel_rfl) (fun _ _ _ h => h) (by kernel_rfl) hHeld ?_
    try simp only [Act.put, List.setIfInBounds_toArray, List.set_cons_zero, List.set_cons_succ]
    refine skip_of (i := 12) (d := some 20) (by kernel_rfl) (by kernel_rfl) (by kernel_rfl) (by kernel_rfl) (fun _ _ _ h => h) (by kernel_rfl) hHeld ?_
    try simp only [Act.put, List.setIfInBounds_toArray, List.set_cons_zero, List.set_cons_succ]
    refine skip_of (i := 13) (d := some 21) (by kernel_rfl) (by kernel_rfl) (by kernel_rfl) (by kernel_rfl) (fun _ _ _ h => h) (by kernel_rfl) hHeld ?_
    try simp only [Act.put, List.setIfInBounds_toArray, List.set_cons_zero, List.set_cons_succ]
    refine skip_of (i := 14) (d := some 22) (by kernel_rfl) (by kernel_rfl) (by kernel_rfl) (by kernel_rfl) (fun _ _ _ h => h) (by kernel_rfl) hHeld ?_
    try simp only [Act.put, List.setIfInBounds_toArray, List.set_cons_zero, List.set_cons_succ]
    refine skip_of (i := 15) (d := some 23) (by kernel_rfl) (by kernel_rfl) (by kernel_rfl) (by kernel_rfl) (fun _ _ _ h => h) (by kernel_rfl) hHeld ?_
    try simp only [Act.put, List.setIfInBounds_toArray, List.set_cons_zero, List.set_cons_succ]
    refine take_of (i := 16) (d := some 24) (op := .pick (.tmp 13) (.tmp 23) (.const (.bool false))) (gd := none) (v := (.bool false)) (by kernel_rfl) (by kernel_rfl) (by kernel_rfl) (by kernel_rfl) (fun _ _ _ h => h) (by kernel_rfl) (run_pick_of (.tmp 13) (.tmp 23) (.const (.bool false)) false (.bool false) (by kernel_rfl) (by kernel_rfl)) hHeld ?_
    try simp only [Act.put, List.setIfInBounds_toArray, List.set_cons_zero, List.set_cons_succ]
    obtain ⟨kp1, Z, kp2, kp3⟩ := hHeld
    refine ready_store_row (i := 17) (by kernel_rfl) 59 (.tmp 2) (.tmp 8) (by kernel_rfl) (w.heap.size + 1) _ _ #[.int .i64 st, .int .i64 ow, .int .i64 sm, .bool true, .bool ma, .int .i64 us, .int .i64 ge, .int .i64 ep, .int .i64 ve] (by kernel_rfl) (by kernel_rfl) kp3 kp2 (by kernel_rfl) (by kernel_rfl) (Kp.set ⟨kp1, Z, kp2, kp3⟩ ⟨st, ow, sm, true, ma, us, ge, ep, ve⟩) (fun hHeld9 => ?_)
    try simp only [Act.put, List.setIfInBounds_toArray, List.set_cons_zero, List.set_cons_succ]
    refine take_of (i := 18) (d := some 3) (op := .assign (.tmp 24)) (gd := none) (v := (.bool false)) (by kernel_rfl) (by kernel_rfl) (by kernel_rfl) (by kernel_rfl) (fun _ _ _ h => h) (by kernel_rfl) (run_assign_of (.tmp 24) (.bool false) (by kernel_rfl)) hHeld9 ?_
    try simp only [Act.put, List.setIfInBounds_toArray, List.set_cons_zero, List.set_cons_succ]
    refine wpAnyH_done (by kernel_rfl) ?_ _
    go_simp
    clear rC rS
    go_wp2_with fail
    refine bodyPost_ret (results_row2 rfl _ _ (w.heap.size + 1) _ _ _ rfl (Kp.row ⟨kp1, Z, kp2, kp3⟩ ⟨st, ow, sm, true, ma, us, ge, ep, ve⟩) Tryz.underlying59 rfl (by kernel_rfl)) rfl ?_
    exact ⟨rfl, Kp.below hHeld9 hA (by omega)⟩

end Go.Proofs.YtpmkgddjgebojaaGreatDoor.Life

namespace Go.Proofs.YtpmkgddjgebojaaGreatDoor.Life
set_option linter.unusedVariables false
set_option linter.unusedSimpArgs false
set_option linter.ambiguousOpen false
open Go.RowKit Hp Slot RowL Mod

theorem bit_and (n : Int) (k : Nat) (h0 : 0 ≤ n ∧ n ≤ 255) (hk : k < 8) : bits .and .i64 n (2 ^ k) = if hasBit n k then 2 ^ k else 0 := by
  have h : ∀ (m : Fin 256) (j : Fin 8), bits .and .i64 (m.val : Int) (2 ^ j.val) = if m.val.testBit j.val then 2 ^ j.val else 0 := by decide +kernel
  obtain ⟨m, rfl⟩ := Int.eq_ofNat_of_zero_le h0.1
  exact h ⟨m, by omega⟩ ⟨k, hk⟩
theorem bit_or (n : Int) (k : Nat) (h0 : 0 ≤ n ∧ n ≤ 255) (hk : k < 8) : bits .or .i64 n (2 ^ k) = setBit n k := by
  have h : ∀ (m : Fin 256) (j : Fin 8), bits .or .i64 (m.val : Int) (2 ^ j.val) = ((m.val ||| 2 ^ j.val : Nat) : Int) := by decide +kernel
  obtain ⟨m, rfl⟩ := Int.eq_ofNat_of_zero_le h0.1
  exact h ⟨m, by omega⟩ ⟨k, hk⟩
theorem bit_drop (n : Int) (k : Nat) (h0 : 0 ≤ n ∧ n ≤ 255) (hk : k < 8) (hb : hasBit n k = true) : bits .andNot .i64 n (2 ^ k) = dropBit n k := by
  have h : ∀ (m : Fin 256) (j : Fin 8), m.val.testBit j.val = true → bits .andNot .i64 (m.val : Int) (2 ^ j.val) = (m.val : Int) - 2 ^ j.val := by decide +kernel
  obtain ⟨m, rfl⟩ := Int.eq_ofNat_of_zero_le h0.1
  exact h ⟨m, by omega⟩ ⟨k, hk⟩ hb
theorem pow_val (k : Nat) (hk : k < 8) : (0 : Int) < 2 ^ k ∧ (2 : Int) ^ k ≤ 128 := by
  have h : ∀ j : Fin 8, (0 : Int) < 2 ^ j.val ∧ (2 : Int) ^ j.val ≤ 128 := by decide +kernel
  exact h ⟨k, hk⟩
theorem lowFree_some (n most : Int) (k : Nat) (hk : (k : Int) < min most 8) (hb : hasBit n k = false) (hall : ∀ j, j < k → hasBit n j = true) : lowFree n most = some k := by
  unfold lowFree
  rw [List.find?_eq_some_iff_getElem]
  refine ⟨by simp [hb], k, by simp; omega, by simp, fun j hj => ?_⟩
  simp [hall j hj]
theorem lowFree_none (n most : Int) (k : Nat) (hk : min most 8 ≤ (k : Int)) (hall : ∀ j, j < k → hasBit n j = true) : lowFree n most = none := by
  unfold lowFree
  rw [List.find?_eq_none]
  intro j hj
  simp at hj
  simp [hall j (by omega)]

set_option maxRecDepth 100000 in
set_option maxHeartbeats 8000000 in
theorem open_any (w : World) (s : S) (own more : Int) (hs : 0 ≤ s.streams ∧ s.streams ≤ 255) : Calls Tryz.prog 125 #[cval s own more] w fun e w' => e = .returned (.tuple #[(act 14 s own more).1.val, .bool (act 14 s own more).2]) ∧ Below w.heap.size w w' := by
  have hi := fun W => mine_any W s own more 3
  have ha : act 14 s own more = if (s.state == 3 && s.own == own) && !s.broken then (match lowFree s.streams more with | some i => ({ s with streams := setBit s.streams i }, true) | none => (s, false)) else (s, false) := rfl
  generalize act 14 s own more = res at *
  generalize hb : (s.state == 3 && s.own == own) = b at *
  clear hb
  have HA := Lib.hid ha
  clear ha
  obtain ⟨st, ow, sm, br, ma, us, ge, ep, ve⟩ := s
  simp only [cval] at hi hs
  obtain ⟨hs0, hs1⟩ := hs
  have hB : Below w.heap.size w (((w.alloc (.cells #[.int .i64 st, .int .i64 ow, .int .i64 sm, .bool br, .bool ma, .int .i64 us, .int .i64 ge, .int .i64 ep, .int .i64 ve, .int .i64 own, .int .i64 more] 141)).alloc (.cells zero9 59)).alloc (.cells #[.int .i64 st, .int .i64 ow, .int .i64 sm, .bool br, .bool ma, .int .i64 us, .int .i64 ge, .int .i64 ep, .int .i64 ve] 59)) := (((Below.refl _ _).alloc (Nat.le_refl _) _).alloc (by simp) _).alloc (by simp; omega) _
  go_enter Tryz.func125, Tryz.ntmps125
  go_wp2_with fail
  refine (hi _).mono ?_
  rintro e w5 ⟨rfl, hb5⟩
  have r1 : RowAt w5 w.heap.size #[.int .i64 st, .int .i64 ow, .int .i64 sm, .bool br, .bool ma, .int .i64 us, .int .i64 ge, .int .i64 ep, .int .i64 ve, .int .i64 own, .int .i64 more] 141 := RowAt.below (by rw [RowAt, Below.heap_alloc _ _ _ (by simp; omega)]; exact heap_alloc2_old w _ _) hb5
  have r2 : RowAt w5 (w.heap.size + 1) zero9 59 := RowAt.below (heap_alloc3_mid w _ _ _) hb5
  have r3 : RowAt w5 (w.heap.size + 1 + 1) #[.int .i64 st, .int .i64 ow, .int .i64 sm, .bool br, .bool ma, .int .i64 us, .int .i64 ge, .int .i64 ep, .int .i64 ve] 59 := RowAt.below (by have := heap_alloc_new ((w.alloc (.cells #[.int .i64 st, .int .i64 ow, .int .i64 sm, .bool br, .bool ma, .int .i64 us, .int .i64 ge, .int .i64 ep, .int .i64 ve, .int .i64 own, .int .i64 more] 141)).alloc (.cells zero9 59)) (.cells #[.int .i64 st, .int .i64 ow, .int .i64 sm, .bool br, .bool ma, .int .i64 us, .int .i64 ge, .int .i64 ep, .int .i64 ve] 59); simpa [RowAt] using this) hb5
  have HB := Lib.hid (hB.trans (hb5.mono (by simp; omega)))
  have c10 : w5.cell? ⟨w.heap.size, 10, none⟩ = some (.int .i64 more) := r1.cell 10
  have q0 : w5.cell? ⟨w.heap.size + 1, 0, none⟩ = some (.int .i64 0) := r2.cell 0
  have f0 : w5.frozen? ⟨w.heap.size + 1, 0, none⟩ = false := r2.frozen 0
  have s0 : w5.cell? ⟨w.heap.size + 1 + 1, 0, none⟩ = some (.int .i64 st) := r3.cell 0
  have q1 : w5.cell? ⟨w.heap.size + 1, 1, none⟩ = some (.int .i64 0) := r2.cell 1
  have f1 : w5.frozen? ⟨w.heap.size + 1, 1, none⟩ = false := r2.frozen 1
  have s1 : w5.cell? ⟨w.heap.size + 1 + 1, 1, none⟩ = some (.int .i64 ow) := r3.cell 1
  have q2 : w5.cell? ⟨w.heap.size + 1, 2, none⟩ = some (.int .i64 0) := r2.cell 2
  have f2 : w5.frozen? ⟨w.heap.size + 1, 2, none⟩ = false := r2.frozen 2
  have s2 : w5.cell? ⟨w.heap.size + 1 + 1, 2, none⟩ = some (.int .i64 sm) := r3.cell 2
  have q3 : w5.cell? ⟨w.heap.size + 1, 3, none⟩ = some (.bool false) := r2.cell 3
  have f3 : w5.frozen? ⟨w.heap.size + 1, 3, none⟩ = false := r2.frozen 3
  have s3 : w5.cell? ⟨w.heap.size + 1 + 1, 3, none⟩ = some (.bool br) := r3.cell 3
  have q4 : w5.cell? ⟨w.heap.size + 1, 4, none⟩ = some (.bool false) := r2.cell 4
  have f4 : w5.frozen? ⟨w.heap.size + 1, 4, none⟩ = false := r2.frozen 4
  have s4 : w5.cell? ⟨w.heap.size + 1 + 1, 4, none⟩ = some (.bool ma) := r3.cell 4
  have q5 : w5.cell? ⟨w.heap.size + 1, 5, none⟩ = some (.int .i64 0) := r2.cell 5
  have f5 : w5.frozen? ⟨w.heap.size + 1, 5, none⟩ = false := r2.frozen 5
  have s5 : w5.cell? ⟨w.heap.size + 1 + 1, 5, none⟩ = some (.int .i64 us) := r3.cell 5
  have q6 : w5.cell? ⟨w.heap.size + 1, 6, none⟩ = some (.int .i64 0) := r2.cell 6
  have f6 : w5.frozen? ⟨w.heap.size + 1, 6, none⟩ = false := r2.frozen 6
  have s6 : w5.cell? ⟨w.heap.size + 1 + 1, 6, none⟩ = some (.int .i64 ge) := r3.cell 6
  have q7 : w5.cell? ⟨w.heap.size + 1, 7, none⟩ = some (.int .i64 0) := r2.cell 7
  have f7 : w5.frozen? ⟨w.heap.size + 1, 7, none⟩ = false := r2.frozen 7
  have s7 : w5.cell? ⟨w.heap.size + 1 + 1, 7, none⟩ = some (.int .i64 ep) := r3.cell 7
  have q8 : w5.cell? ⟨w.heap.size + 1, 8, none⟩ = some (.int .i64 0) := r2.cell 8
  have f8 : w5.frozen? ⟨w.heap.size + 1, 8, none⟩ = false := r2.frozen 8
  have s8 : w5.cell? ⟨w.heap.size + 1 + 1, 8, none⟩ = some (.int .i64 ve) := r3.cell 8
  have g2 : w5.frozen? ⟨w.heap.size + 1 + 1, 2, none⟩ = false := r3.frozen 2
  have R2 := Lib.hid r2
  have R3 := Lib.hid r3
  clear r1 r2 r3 hb5 hB hi
  cases b
  · go_wp2_with fail
    refine bodyPost_ret (results_row2 rfl _ _ (w.heap.size + 1) _ _ _ rfl (((((((((R2.out.setc 0 _).setc 1 _).setc 2 _).setc 3 _).setc 4 _).setc 5 _).setc 6 _).setc 7 _).setc 8 _) Tryz.underlying59 rfl (by kernel_rfl)) rfl ?_
    refine ⟨by rw [HA.out]; simp [S.val, S.cells], ?_⟩
    iterate 9 refine Below.setCell ?_ (by simp) _
    exact HB.out
  cases br
  rotate_left
  · go_wp2_with fail
    refine bodyPost_ret (results_row2 rfl _ _ (w.heap.size + 1) _ _ _ rfl (((((((((R2.out.setc 0 _).setc 1 _).setc 2 _).setc 3 _).setc 4 _).setc 5 _).setc 6 _).setc 7 _).setc 8 _) Tryz.underlying59 rfl (by kernel_rfl)) rfl ?_
    refine ⟨by rw [HA.out]; simp [S.val, S.cells], ?_⟩
    iterate 9 refine Below.setCell ?_ (by simp) _
    exact HB.out
  have hmm : more ≤ 8 ∨ 8 < more := by omega
  rcases hmm with hm | hm
  all_goals (
    go_wp2_with fail
    clear q0 f0 s0 q1 f1 s1 q2 f2 s2 q3 f3 s3 q4 f4 s4 q5 f5 s5 q6 f6 s6 q7 f7 s7 q8 f8 s8 g2
    have r2 := R2.out
    have r3 := R3.out
    have hB := HB.out
    clear R2 R3 HB)
  · go_loopw [19] (fun i wr => ∃ k : Nat, (k = 0 ∨ (k : Int) ≤ min more 8) ∧ i = .int .i64 k ∧ (∀ j, j < k → hasBit sm j = true) ∧ RowAt wr (w.heap.size + 1) zero9 59 ∧ RowAt wr (w.heap.size + 1 + 1) #[.int .i64 st, .int .i64 ow, .int .i64 sm, .bool false, .bool ma, .int .i64 us, .int .i64 ge, .int .i64 ep, .int .i64 ve] 59 ∧ Below w.heap.size w wr) (fun i _ => 8 - (intOf i).toNat)
    case atStart => exact ⟨0, .inl rfl, rfl, fun j hj => absurd hj (by omega), r2, r3, hB⟩
    case round =>
      clear r2 r3 hB
      obtain ⟨k, hk, rfl, hall, r2, r3, hB⟩ := hrel
      have R2 := Lib.hid r2
      have R3 := Lib.hid r3
      have HB := Lib.hid hB
      have HALL := Lib.hid hall
      have l0 : (0 : Int) ≤ (k : Int) := by omega
      have q0 : wr.cell? ⟨w.heap.size + 1, 0, none⟩ = some (.int .i64 0) := r2.cell 0
      have f0 : wr.frozen? ⟨w.heap.size + 1, 0, none⟩ = false := r2.frozen 0
      have s0 : wr.cell? ⟨w.heap.size + 1 + 1, 0, none⟩ = some (.int .i64 st) := r3.cell 0
      have q1 : wr.cell? ⟨w.heap.size + 1, 1, none⟩ = some (.int .i64 0) := r2.cell 1
      have f1 : wr.frozen? ⟨w.heap.size + 1, 1, none⟩ = false := r2.frozen 1
      have s1 : wr.cell? ⟨w.heap.size + 1 + 1, 1, none⟩ = some (.int .i64 ow) := r3.cell 1
      have q2 : wr.cell? ⟨w.heap.size + 1, 2, none⟩ = some (.int .i64 0) := r2.cell 2
      have f2 : wr.frozen? ⟨w.heap.size + 1, 2, none⟩ = false := r2.frozen 2
      have s2 : wr.cell? ⟨w.heap.size + 1 + 1, 2, none⟩ = some (.int .i64 sm) := r3.cell 2
      have q3 : wr.cell? ⟨w.heap.size + 1, 3, none⟩ = some (.bool false) := r2.cell 3
      have f3 : wr.frozen? ⟨w.heap.size + 1, 3, none⟩ = false := r2.frozen 3
      have s3 : wr.cell? ⟨w.heap.size + 1 + 1, 3, none⟩ = some (.bool false) := r3.cell 3
      have q4 : wr.cell? ⟨w.heap.size + 1, 4, none⟩ = some (.bool false) := r2.cell 4
      have f4 : wr.frozen? ⟨w.heap.size + 1, 4, none⟩ = false := r2.frozen 4
      have s4 : wr.cell? ⟨w.heap.size + 1 + 1, 4, none⟩ = some (.bool ma) := r3.cell 4
      have q5 : wr.cell? ⟨w.heap.size + 1, 5, none⟩ = some (.int .i64 0) := r2.cell 5
      have f5 : wr.frozen? ⟨w.heap.size + 1, 5, none⟩ = false := r2.frozen 5
      have s5 : wr.cell? ⟨w.heap.size + 1 + 1, 5, none⟩ = some (.int .i64 us) := r3.cell 5
      have q6 : wr.cell? ⟨w.heap.size + 1, 6, none⟩ = some (.int .i64 0) := r2.cell 6
      have f6 : wr.frozen? ⟨w.heap.size + 1, 6, none⟩ = false := r2.frozen 6
      have s6 : wr.cell? ⟨w.heap.size + 1 + 1, 6, none⟩ = some (.int .i64 ge) := r3.cell 6
      have q7 : wr.cell? ⟨w.heap.size + 1, 7, none⟩ = some (.int .i64 0) := r2.cell 7
      have f7 : wr.frozen? ⟨w.heap.size + 1, 7, none⟩ = false := r2.frozen 7
      have s7 : wr.cell? ⟨w.heap.size + 1 + 1, 7, none⟩ = some (.int .i64 ep) := r3.cell 7
      have q8 : wr.cell? ⟨w.heap.size + 1, 8, none⟩ = some (.int .i64 0) := r2.cell 8
      have f8 : wr.frozen? ⟨w.heap.size + 1, 8, none⟩ = false := r2.frozen 8
      have s8 : wr.cell? ⟨w.heap.size + 1 + 1, 8, none⟩ = some (.int .i64 ve) := r3.cell 8
      have g2 : wr.frozen? ⟨w.heap.size + 1 + 1, 2, none⟩ = false := r3.frozen 2
      clear r2 r3 hB hall
      by_cases hlt : (k : Int) < min more 8
      · have l1 : (k : Int) < more := by omega
        have l2 : k < 8 := by omega
        have hp1 := (pow_val k l2).1
        have hp2 := (pow_val k l2).2
        have hne : ((2 : Int) ^ k == 0) = false := by simp; omega
        have hnd := bit_and sm k ⟨hs0, hs1⟩ l2
        have hor := bit_or sm k ⟨hs0, hs1⟩ l2
        have HL := Lib.hid (lowFree_some sm more k hlt)
        clear hlt hk
        cases hb : hasBit sm k
        · rw [hb] at hnd
          simp only [Bool.false_eq_true, if_false] at hnd
          have HR := Lib.hid (HL.out hb HALL.out)
          clear hb HL
          go_wp2_with fail
          go_region
          go_wp2_with fail
          go_region
          go_wp2_with fail
          refine bodyPost_ret (results_row2 rfl _ _ (w.heap.size + 1) _ _ _ rfl ((((((((((setOther R2.out _ (by simp)).setc 0 _).setc 1 _).setc 2 _).setc 3 _).setc 4 _).setc 5 _).setc 6 _).setc 7 _).setc 8 _).drew.drew Tryz.underlying59 rfl (by kernel_rfl)) rfl ?_
          refine ⟨by rw [HA.out]; simp [S.val, S.cells, HR.out], ?_⟩
          refine Below.drew (Below.drew ?_)
          iterate 9 refine Below.setCell ?_ (by simp) _
          exact HB.out.setCell (by simp; omega) _
        · rw [hb] at hnd
          simp only [if_true] at hnd
          have HALL2 : RowKit.Hid (∀ j, j < k + 1 → hasBit sm j = true) := Lib.hid (fun j hj => by
            rcases Nat.lt_succ_iff_lt_or_eq.1 hj with h | rfl
            · exact HALL.out j h
            · exact hb)
          clear hb HL hor
          go_wp2_with fail
          go_region
          go_wp2_with fail
          go_roundw
          case rel => exact ⟨k + 1, .inr (by omega), by go_num, HALL2.out, R2.out.drew, R3.out.drew, HB.out.drew⟩
          case measure => simp [intOf]; omega
      · have l1 : ¬ ((k : Int) < more) := by omega
        have HR := Lib.hid (lowFree_none sm more k (by omega) HALL.out)
        clear hlt hk
        go_wp2_with fail
        refine bodyPost_ret (results_row2 rfl _ _ (w.heap.size + 1) _ _ _ rfl (((((((((R2.out.setc 0 _).setc 1 _).setc 2 _).setc 3 _).setc 4 _).setc 5 _).setc 6 _).setc 7 _).setc 8 _) Tryz.underlying59 rfl (by kernel_rfl)) rfl ?_
        refine ⟨by rw [HA.out, HR.out]; simp [S.val, S.cells], ?_⟩
        iterate 9 refine Below.setCell ?_ (by simp) _
        exact HB.out
  · go_loopw [19] (fun i wr => ∃ k : Nat, (k = 0 ∨ (k : Int) ≤ min more 8) ∧ i = .int .i64 k ∧ (∀ j, j < k → hasBit sm j = true) ∧ RowAt wr (w.heap.size + 1) zero9 59 ∧ RowAt wr (w.heap.size + 1 + 1) #[.int .i64 st, .int .i64 ow, .int .i64 sm, .bool false, .bool ma, .int .i64 us, .int .i64 ge, .int .i64 ep, .int .i64 ve] 59 ∧ Below w.heap.size w wr) (fun i _ => 8 - (intOf i).toNat)
    case atStart => exact ⟨0, .inl rfl, rfl, fun j hj => absurd hj (by omega), r2, r3, hB⟩
    case round =>
      clear r2 r3 hB
      obtain ⟨k, hk, rfl, hall, r2, r3, hB⟩ := hrel
      have R2 := Lib.hid r2
      have R3 := Lib.hid r3
      have HB := Lib.hid hB
      have HALL := Lib.hid hall
      have l0 : (0 : Int) ≤ (k : Int) := by omega
      have q0 : wr.cell? ⟨w.heap.size + 1, 0, none⟩ = some (.int .i64 0) := r2.cell 0
      have f0 : wr.frozen? ⟨w.heap.size + 1, 0, none⟩ = false := r2.frozen 0
      have s0 : wr.cell? ⟨w.heap.size + 1 + 1, 0, none⟩ = some (.int .i64 st) := r3.cell 0
      have q1 : wr.cell? ⟨w.heap.size + 1, 1, none⟩ = some (.int .i64 0) := r2.cell 1
      have f1 : wr.frozen? ⟨w.heap.size + 1, 1, none⟩ = false := r2.frozen 1
      have s1 : wr.cell? ⟨w.heap.size + 1 + 1, 1, none⟩ = some (.int .i64 ow) := r3.cell 1
      have q2 : wr.cell? ⟨w.heap.size + 1, 2, none⟩ = some (.int .i64 0) := r2.cell 2
      have f2 : wr.frozen? ⟨w.heap.size + 1, 2, none⟩ = false := r2.frozen 2
      have s2 : wr.cell? ⟨w.heap.size + 1 + 1, 2, none⟩ = some (.int .i64 sm) := r3.cell 2
      have q3 : wr.cell? ⟨w.heap.size + 1, 3, none⟩ = some (.bool false) := r2.cell 3
      have f3 : wr.frozen? ⟨w.heap.size + 1, 3, none⟩ = false := r2.frozen 3
      have s3 : wr.cell? ⟨w.heap.size + 1 + 1, 3, none⟩ = some (.bool false) := r3.cell 3
      have q4 : wr.cell? ⟨w.heap.size + 1, 4, none⟩ = some (.bool false) := r2.cell 4
      have f4 : wr.frozen? ⟨w.heap.size + 1, 4, none⟩ = false := r2.frozen 4
      have s4 : wr.cell? ⟨w.heap.size + 1 + 1, 4, none⟩ = some (.bool ma) := r3.cell 4
      have q5 : wr.cell? ⟨w.heap.size + 1, 5, none⟩ = some (.int .i64 0) := r2.cell 5
      have f5 : wr.frozen? ⟨w.heap.size + 1, 5, none⟩ = false := r2.frozen 5
      have s5 : wr.cell? ⟨w.heap.size + 1 + 1, 5, none⟩ = some (.int .i64 us) := r3.cell 5
      have q6 : wr.cell? ⟨w.heap.size + 1, 6, none⟩ = some (.int .i64 0) := r2.cell 6
      have f6 : wr.frozen? ⟨w.heap.size + 1, 6, none⟩ = false := r2.frozen 6
      have s6 : wr.cell? ⟨w.heap.size + 1 + 1, 6, none⟩ = some (.int .i64 ge) := r3.cell 6
      have q7 : wr.cell? ⟨w.heap.size + 1, 7, none⟩ = some (.int .i64 0) := r2.cell 7
      have f7 : wr.frozen? ⟨w.heap.size + 1, 7, none⟩ = false := r2.frozen 7
      have s7 : wr.cell? ⟨w.heap.size + 1 + 1, 7, none⟩ = some (.int .i64 ep) := r3.cell 7
      have q8 : wr.cell? ⟨w.heap.size + 1, 8, none⟩ = some (.int .i64 0) := r2.cell 8
      have f8 : wr.frozen? ⟨w.heap.size + 1, 8, none⟩ = false := r2.frozen 8
      have s8 : wr.cell? ⟨w.heap.size + 1 + 1, 8, none⟩ = some (.int .i64 ve) := r3.cell 8
      have g2 : wr.frozen? ⟨w.heap.size + 1 + 1, 2, none⟩ = false := r3.frozen 2
      clear r2 r3 hB hall
      by_cases hlt : (k : Int) < min more 8
      · have l1 : (k : Int) < more := by omega
        have l2 : k < 8 := by omega
        have hp1 := (pow_val k l2).1
        have hp2 := (pow_val k l2).2
        have hne : ((2 : Int) ^ k == 0) = false := by simp; omega
        have hnd := bit_and sm k ⟨hs0, hs1⟩ l2
        have hor := bit_or sm k ⟨hs0, hs1⟩ l2
        have HL := Lib.hid (lowFree_some sm more k hlt)
        clear hlt hk
        cases hb : hasBit sm k
        · rw [hb] at hnd
          simp only [Bool.false_eq_true, if_false] at hnd
          have HR := Lib.hid (HL.out hb HALL.out)
          clear hb HL
          go_wp2_with fail
          go_region
          go_wp2_with fail
          go_region
          go_wp2_with fail
          refine bodyPost_ret (results_row2 rfl _ _ (w.heap.size + 1) _ _ _ rfl ((((((((((setOther R2.out _ (by simp)).setc 0 _).setc 1 _).setc 2 _).setc 3 _).setc 4 _).setc 5 _).setc 6 _).setc 7 _).setc 8 _).drew.drew Tryz.underlying59 rfl (by kernel_rfl)) rfl ?_
          refine ⟨by rw [HA.out]; simp [S.val, S.cells, HR.out], ?_⟩
          refine Below.drew (Below.drew ?_)
          iterate 9 refine Below.setCell ?_ (by simp) _
          exact HB.out.setCell (by simp; omega) _
        · rw [hb] at hnd
          simp only [if_true] at hnd
          have HALL2 : RowKit.Hid (∀ j, j < k + 1 → hasBit sm j = true) := Lib.hid (fun j hj => by
            rcases Nat.lt_succ_iff_lt_or_eq.1 hj with h | rfl
            · exact HALL.out j h
            · exact hb)
          clear hb HL hor
          go_wp2_with fail
          go_region
          go_wp2_with fail
          go_roundw
          case rel => exact ⟨k + 1, .inr (by omega), by go_num, HALL2.out, R2.out.drew, R3.out.drew, HB.out.drew⟩
          case measure => simp [intOf]; omega
      · have l1 : ¬ ((k : Int) < 8) := by omega
        have HR := Lib.hid (lowFree_none sm more k (by omega) HALL.out)
        clear hlt hk
        go_wp2_with fail
        refine bodyPost_ret (results_row2 rfl _ _ (w.heap.size + 1) _ _ _ rfl (((((((((R2.out.setc 0 _).setc 1 _).setc 2 _).setc 3 _).setc 4 _).setc 5 _).setc 6 _).setc 7 _).setc 8 _) Tryz.underlying59 rfl (by kernel_rfl)) rfl ?_
        refine ⟨by rw [HA.out, HR.out]; simp [S.val, S.cells], ?_⟩
        iterate 9 refine Below.setCell ?_ (by simp) _
        exact HB.out
end Go.Proofs.YtpmkgddjgebojaaGreatDoor.Life

namespace Go.Proofs.YtpmkgddjgebojaaGreatDoor.Life
set_option linter.unusedVariables false
set_option linter.unusedSimpArgs false
set_option linter.ambiguousOpen false
open Go.RowKit Hp Slot RowL Mod

set_option maxRecDepth 100000 in
set_option maxHeartbeats 8000000 in
theorem shut_any (w : World) (s : S) (own more : Int) (hs : 0 ≤ s.streams ∧ s.streams ≤ 255) : Calls Tryz.prog 126 #[cval s own more] w fun e w' => e = .returned (.tuple #[(act 15 s own more).1.val, .bool (act 15 s own more).2]) ∧ Below w.heap.size w w' := by
  have hi := fun W => mine_any W s own more 3
  have ha : act 15 s own more = if (s.state == 3 && s.own == own) && decide (0 ≤ more ∧ more < 8) && hasBit s.streams more.toNat then ({ s with streams := dropBit s.streams more.toNat }, true) else (s, false) := rfl
  generalize act 15 s own more = res at *
  generalize hb : (s.state == 3 && s.own == own) = b at *
  clear hb
  have HA := Lib.hid ha
  clear ha
  obtain ⟨st, ow, sm, br, ma, us, ge, ep, ve⟩ := s
  simp only [cval] at hi hs
  obtain ⟨hs0, hs1⟩ := hs
  have hA : Below w.heap.size w (((w.alloc (.cells #[.int .i64 st, .int .i64 ow, .int .i64 sm, .bool br, .bool ma, .int .i64 us, .int .i64 ge, .int .i64 ep, .int .i64 ve, .int .i64 own, .int .i64 more] 141)).alloc (.cells zero9 59)).alloc (.cells #[.int .i64 st, .int .i64 ow, .int .i64 sm, .bool br, .bool ma, .int .i64 us, .int .i64 ge, .int .i64 ep, .int .i64 ve] 59)) := (((Below.refl _ _).alloc (Nat.le_refl _) _).alloc (by simp) _).alloc (by simp; omega) _
  have r1 : RowAt (((w.alloc (.cells #[.int .i64 st, .int .i64 ow, .int .i64 sm, .bool br, .bool ma, .int .i64 us, .int .i64 ge, .int .i64 ep, .int .i64 ve, .int .i64 own, .int .i64 more] 141)).alloc (.cells zero9 59)).alloc (.cells #[.int .i64 st, .int .i64 ow, .int .i64 sm, .bool br, .bool ma, .int .i64 us, .int .i64 ge, .int .i64 ep, .int .i64 ve] 59)) w.heap.size #[.int .i64 st, .int .i64 ow, .int .i64 sm, .bool br, .bool ma, .int .i64 us, .int .i64 ge, .int .i64 ep, .int .i64 ve, .int .i64 own, .int .i64 more] 141 := by rw [RowAt, Below.heap_alloc _ _ _ (by simp; omega)]; exact heap_alloc2_old w _ _
  have r2 : RowAt (((w.alloc (.cells #[.int .i64 st, .int .i64 ow, .int .i64 sm, .bool br, .bool ma, .int .i64 us, .int .i64 ge, .int .i64 ep, .int .i64 ve, .int .i64 own, .int .i64 more] 141)).alloc (.cells zero9 59)).alloc (.cells #[.int .i64 st, .int .i64 ow, .int .i64 sm, .bool br, .bool ma, .int .i64 us, .int .i64 ge, .int .i64 ep, .int .i64 ve] 59)) (w.heap.size + 1) zero9 59 := heap_alloc3_mid w _ _ _
  have r3 : RowAt (((w.alloc (.cells #[.int .i64 st, .int .i64 ow, .int .i64 sm, .bool br, .bool ma, .int .i64 us, .int .i64 ge, .int .i64 ep, .int .i64 ve, .int .i64 own, .int .i64 more] 141)).alloc (.cells zero9 59)).alloc (.cells #[.int .i64 st, .int .i64 ow, .int .i64 sm, .bool br, .bool ma, .int .i64 us, .int .i64 ge, .int .i64 ep, .int .i64 ve] 59)) (w.heap.size + 1 + 1) #[.int .i64 st, .int .i64 ow, .int .i64 sm, .bool br, .bool ma, .int .i64 us, .int .i64 ge, .int .i64 ep, .int .i64 ve] 59 := by have := heap_alloc_new ((w.alloc (.cells #[.int .i64 st, .int .i64 ow, .int .i64 sm, .bool br, .bool ma, .int .i64 us, .int .i64 ge, .int .i64 ep, .int .i64 ve, .int .i64 own, .int .i64 more] 141)).alloc (.cells zero9 59)) (.cells #[.int .i64 st, .int .i64 ow, .int .i64 sm, .bool br, .bool ma, .int .i64 us, .int .i64 ge, .int .i64 ep, .int .i64 ve] 59); simpa [RowAt] using this
  go_enter Tryz.func126, Tryz.ntmps126
  go_wp2_with fail
  generalize (((w.alloc (.cells #[.int .i64 st, .int .i64 ow, .int .i64 sm, .bool br, .bool ma, .int .i64 us, .int .i64 ge, .int .i64 ep, .int .i64 ve, .int .i64 own, .int .i64 more] 141)).alloc (.cells zero9 59)).alloc (.cells #[.int .i64 st, .int .i64 ow, .int .i64 sm, .bool br, .bool ma, .int .i64 us, .int .i64 ge, .int .i64 ep, .int .i64 ve] 59)) = wa at *
  have hKd : Below wa.heap.size wa wa.drew := (Below.refl _ _).drew
  have rC : ∀ w', Below wa.heap.size wa w' → RowAt w' w.heap.size #[.int .i64 st, .int .i64 ow, .int .i64 sm, .bool br, .bool ma, .int .i64 us, .int .i64 ge, .int .i64 ep, .int .i64 ve, .int .i64 own, .int .i64 more] 141 := fun w' h => r1.below h
  have l10 : ∀ w', Below wa.heap.size wa w' → w'.cell? ⟨w.heap.size, 10, none⟩ = some (.int .i64 more) := fun w' h => (r1.below h).cell 10
  have l2 : ∀ w', Below wa.heap.size wa w' → w'.cell? ⟨w.heap.size + 1 + 1, 2, none⟩ = some (.int .i64 sm) := fun w' h => (r3.below h).cell 2
  cases b
  · have HRES : RowKit.Hid (res = (⟨st, ow, sm, br, ma, us, ge, ep, ve⟩, false)) := Lib.hid (by rw [HA.out]; simp)
    clear HA
    refine wp_region_held_drew (S := fun w' => Below wa.heap.size wa w') (by kernel_rfl) (by exact hKd) (fun hHeld => ?_)
    refine take_of (i := 0) (d := some 7) (op := .load 141 (.tmp 1)) (gd := none) (v := .agg #[.int .i64 st, .int .i64 ow, .int .i64 sm, .bool br, .bool ma, .int .i64 us, .int .i64 ge, .int .i64 ep, .int .i64 ve, .int .i64 own, .int .i64 more]) (by kernel_rfl) (by kernel_rfl) (by kernel_rfl) (by kernel_rfl) (fun _ _ _ h => h) (by kernel_rfl) (run_load_row 141 (.tmp 1) (w.heap.size) 141 #[.int .i64 st, .int .i64 ow, .int .i64 sm, .bool br, .bool ma, .int .i64 us, .int .i64 ge, .int .i64 ep, .int .i64 ve, .int .i64 own, .int .i64 more] _ (by kernel_rfl) Tryz.underlying141 rfl (by kernel_rfl) rC) hHeld ?_
    try simp only [Act.put, List.setIfInBounds_toArray, List.set_cons_zero, List.set_cons_succ]
    refine ready_call (i := 1) (by kernel_rfl) 140 #[.tmp 7, .const (.int .i64 3)] #[141, 3] (some 8) (none) (by kernel_rfl) (by kernel_rfl) #[.agg #[.int .i64 st, .int .i64 ow, .int .i64 sm, .bool br, .bool ma, .int .i64 us, .int .i64 ge, .int .i64 ep, .int .i64 ve, .int .i64 own, .int .i64 more], .int .i64 3] (by kernel_rfl) (enters_of Tryz.func140 (by kernel_rfl) rfl) ?_
    refine (hi _).mono ?_
    rintro e w6 ⟨rfl, hb6⟩
    refine ⟨_, rfl, hHeld.trans (hb6.mono hHeld.size), fun hH2 => ?_⟩
    try simp only [Act.put, List.setIfInBounds_toArray, List.set_cons_zero, List.set_cons_succ]
    refine take_of (i := 2) (d := some 9) (op := .unOp .not 4 (.tmp 8)) (gd := none) (v := (.bool (!false))) (by kernel_rfl) (by kernel_rfl) (by kernel_rfl) (by kernel_rfl) (fun _ _ _ h => h) (by kernel_rfl) (run_not_of 4 (.tmp 8) false (by kernel_rfl)) hH2 ?_
    try simp only [Act.put, List.setIfInBounds_toArray, List.set_cons_zero, List.set_cons_succ]
    refine take_of (i := 3) (d := some 10) (op := .move (.tmp 9)) (gd := none) (v := (.bool true)) (by kernel_rfl) (by kernel_rfl) (by kernel_rfl) (by kernel_rfl) (fun _ _ _ h => h) (by kernel_rfl) (run_move_of (.tmp 9) (.bool true) (by kernel_rfl)) hH2 ?_
    try simp only [Act.put, List.setIfInBounds_toArray, List.set_cons_zero, List.set_cons_succ]
    refine skip_of (i := 4) (d := some 11) (by kernel_rfl) (by kernel_rfl) (by kernel_rfl) (by kernel_rfl) (fun _ _ _ h => h) (by kernel_rfl) hH2 ?_
    try simp only [Act.put, List.setIfInBounds_toArray, List.set_cons_zero, List.set_cons_succ]
    refine skip_of (i := 5) (d := some 12) (by kernel_rfl) (by kernel_rfl) (by kernel_rfl) (by kernel_rfl) (fun _ _ _ h => h) (by kernel_rfl) hH2 ?_
    try simp only [Act.put, List.setIfInBounds_toArray, List.set_cons_zero, List.set_cons_succ]
    refine skip_of (i := 6) (d := some 13) (by kernel_rfl) (by kernel_rfl) (by kernel_rfl) (by kernel_rfl) (fun _ _ _ h => h) (by kernel_rfl) hH2 ?_
    try simp only [Act.put, List.setIfInBounds_toArray, List.set_cons_zero, List.set_cons_succ]
    refine take_of (i := 7) (d := some 14) (op := .pick (.tmp 10) (.const (.bool true)) (.tmp 13)) (gd := none) (v := (.bool true)) (by kernel_rfl) (by kernel_rfl) (by kernel_rfl) (by kernel_rfl) (fun _ _ _ h => h) (by kernel_rfl) (run_pick_of (.tmp 10) (.const (.bool true)) (.tmp 13) true (.bool true) (by kernel_rfl) (by kernel_rfl)) hH2 ?_
    try simp only [Act.put, List.setIfInBounds_toArray, List.set_cons_zero, List.set_cons_succ]
    refine take_of (i := 8) (d := some 15) (op := .move (.tmp 14)) (gd := none) (v := (.bool true)) (by kernel_rfl) (by kernel_rfl) (by kernel_rfl) (by kernel_rfl) (fun _ _ _ h => h) (by kernel_rfl) (run_move_of (.tmp 14) (.bool true) (by kernel_rfl)) hH2 ?_
    try simp only [Act.put, List.setIfInBounds_toArray, List.set_cons_zero, List.set_cons_succ]
    refine skip_of (i := 9) (d := some 16) (by kernel_rfl) (by kernel_rfl) (by kernel_rfl) (by kernel_rfl) (fun _ _ _ h => h) (by kernel_rfl) hH2 ?_
    try simp only [Act.put, List.setIfInBounds_toArray, List.set_cons_zero, List.set_cons_succ]
    refine skip_of (i := 10) (d := some 17) (by kernel_rfl) (by kernel_rfl) (by kernel_rfl) (by kernel_rfl) (fun _ _ _ h => h) (by kernel_rfl) hH2 ?_
    try simp only [Act.put, List.setIfInBounds_toArray, List.set_cons_zero, List.set_cons_succ]
    refine skip_of (i := 11) (d := some 18) (by kernel_rfl) (by kernel_rfl) (by kernel_rfl) (by kernel_rfl) (fun _ _ _ h => h) (by kernel_rfl) hH2 ?_
    try simp only [Act.put, List.setIfInBounds_toArray, List.set_cons_zero, List.set_cons_succ]
    refine take_of (i := 12) (d := some 19) (op := .pick (.tmp 15) (.const (.bool true)) (.tmp 18)) (gd := none) (v := (.bool true)) (by kernel_rfl) (by kernel_rfl) (by kernel_rfl) (by kernel_rfl) (fun _ _ _ h => h) (by kernel_rfl) (run_pick_of (.tmp 15) (.const (.bool true)) (.tmp 18) true (.bool true) (by kernel_rfl) (by kernel_rfl)) hH2 ?_
    try simp only [Act.put, List.setIfInBounds_toArray, List.set_cons_zero, List.set_cons_succ]
    refine take_of (i := 13) (d := some 20) (op := .move (.tmp 19)) (gd := none) (v := (.bool true)) (by kernel_rfl) (by kernel_rfl) (by kernel_rfl) (by kernel_rfl) (fun _ _ _ h => h) (by kernel_rfl) (run_move_of (.tmp 19) (.bool true) (by kernel_rfl)) hH2 ?_
    try simp only [Act.put, List.setIfInBounds_toArray, List.set_cons_zero, List.set_cons_succ]
    refine skip_of (i := 14) (d := some 21) (by kernel_rfl) (by kernel_rfl) (by kernel_rfl) (by kernel_rfl) (fun _ _ _ h => h) (by kernel_rfl) hH2 ?_
    try simp only [Act.put, List.setIfInBounds_toArray, List.set_cons_zero, List.set_cons_succ]
    refine skip_of (i := 15) (d := some 22) (by kernel_rfl) (by kernel_rfl) (by kernel_rfl) (by kernel_rfl) (fun _ _ _ h => h) (by kernel_rfl) hH2 ?_
    try simp only [Act.put, List.setIfInBounds_toArray, List.set_cons_zero, List.set_cons_succ]
    refine skip_of (i := 16) (d := some 23) (by kernel_rfl) (by kernel_rfl) (by kernel_rfl) (by kernel_rfl) (fun _ _ _ h => h) (by kernel_rfl) hH2 ?_
    try simp only [Act.put, List.setIfInBounds_toArray, List.set_cons_zero, List.set_cons_succ]
    refine skip_of (i := 17) (d := some 24) (by kernel_rfl) (by kernel_rfl) (by kernel_rfl) (by kernel_rfl) (fun _ _ _ h => h) (by kernel_rfl) hH2 ?_
    try simp only [Act.put, List.setIfInBounds_toArray, List.set_cons_zero, List.set_cons_succ]
    refine skip_of (i := 18) (d := some 25) (by kernel_rfl) (by kernel_rfl) (by kernel_rfl) (by kernel_rfl) (fun _ _ _ h => h) (by kernel_rfl) hH2 ?_
    try simp only [Act.put, List.setIfInBounds_toArray, List.set_cons_zero, List.set_cons_succ]
    refine skip_of (i := 19) (d := some 26) (by kernel_rfl) (by kernel_rfl) (by kernel_rfl) (by kernel_rfl) (fun _ _ _ h => h) (by kernel_rfl) hH2 ?_
    try simp only [Act.put, List.setIfInBounds_toArray, List.set_cons_zero, List.set_cons_succ]
    refine skip_of (i := 20) (d := some 27) (by kernel_rfl) (by kernel_rfl) (by kernel_rfl) (by kernel_rfl) (fun _ _ _ h => h) (by kernel_rfl) hH2 ?_
    try simp only [Act.put, List.setIfInBounds_toArray, List.set_cons_zero, List.set_cons_succ]
    refine take_of (i := 21) (d := some 28) (op := .pick (.tmp 20) (.const (.bool true)) (.tmp 27)) (gd := none) (v := (.bool true)) (by kernel_rfl) (by kernel_rfl) (by kernel_rfl) (by kernel_rfl) (fun _ _ _ h => h) (by kernel_rfl) (run_pick_of (.tmp 20) (.const (.bool true)) (.tmp 27) true (.bool true) (by kernel_rfl) (by kernel_rfl)) hH2 ?_
    try simp only [Act.put, List.setIfInBounds_toArray, List.set_cons_zero, List.set_cons_succ]
    refine wpAnyH_done (by kernel_rfl) ?_ _
    clear l2 l10 rC
    have HB := Lib.hid (hA.trans (hH2.mono hA.size))
    have r2 := r2.below hH2
    have r3 := r3.below hH2
    have c10 : w6.cell? ⟨w.heap.size, 10, none⟩ = some (.int .i64 more) := (r1.below hH2).cell 10
    have q0 : w6.cell? ⟨w.heap.size + 1, 0, none⟩ = some (.int .i64 0) := r2.cell 0
    have f0 : w6.frozen? ⟨w.heap.size + 1, 0, none⟩ = false := r2.frozen 0
    have s0 : w6.cell? ⟨w.heap.size + 1 + 1, 0, none⟩ = some (.int .i64 st) := r3.cell 0
    have q1 : w6.cell? ⟨w.heap.size + 1, 1, none⟩ = some (.int .i64 0) := r2.cell 1
    have f1 : w6.frozen? ⟨w.heap.size + 1, 1, none⟩ = false := r2.frozen 1
    have s1 : w6.cell? ⟨w.heap.size + 1 + 1, 1, none⟩ = some (.int .i64 ow) := r3.cell 1
    have q2 : w6.cell? ⟨w.heap.size + 1, 2, none⟩ = some (.int .i64 0) := r2.cell 2
    have f2 : w6.frozen? ⟨w.heap.size + 1, 2, none⟩ = false := r2.frozen 2
    have s2 : w6.cell? ⟨w.heap.size + 1 + 1, 2, none⟩ = some (.int .i64 sm) := r3.cell 2
    have q3 : w6.cell? ⟨w.heap.size + 1, 3, none⟩ = some (.bool false) := r2.cell 3
    have f3 : w6.frozen? ⟨w.heap.size + 1, 3, none⟩ = false := r2.frozen 3
    have s3 : w6.cell? ⟨w.heap.size + 1 + 1, 3, none⟩ = some (.bool br) := r3.cell 3
    have q4 : w6.cell? ⟨w.heap.size + 1, 4, none⟩ = some (.bool false) := r2.cell 4
    have f4 : w6.frozen? ⟨w.heap.size + 1, 4, none⟩ = false := r2.frozen 4
    have s4 : w6.cell? ⟨w.heap.size + 1 + 1, 4, none⟩ = some (.bool ma) := r3.cell 4
    have q5 : w6.cell? ⟨w.heap.size + 1, 5, none⟩ = some (.int .i64 0) := r2.cell 5
    have f5 : w6.frozen? ⟨w.heap.size + 1, 5, none⟩ = false := r2.frozen 5
    have s5 : w6.cell? ⟨w.heap.size + 1 + 1, 5, none⟩ = some (.int .i64 us) := r3.cell 5
    have q6 : w6.cell? ⟨w.heap.size + 1, 6, none⟩ = some (.int .i64 0) := r2.cell 6
    have f6 : w6.frozen? ⟨w.heap.size + 1, 6, none⟩ = false := r2.frozen 6
    have s6 : w6.cell? ⟨w.heap.size + 1 + 1, 6, none⟩ = some (.int .i64 ge) := r3.cell 6
    have q7 : w6.cell? ⟨w.heap.size + 1, 7, none⟩ = some (.int .i64 0) := r2.cell 7
    have f7 : w6.frozen? ⟨w.heap.size + 1, 7, none⟩ = false := r2.frozen 7
    have s7 : w6.cell? ⟨w.heap.size + 1 + 1, 7, none⟩ = some (.int .i64 ep) := r3.cell 7
    have q8 : w6.cell? ⟨w.heap.size + 1, 8, none⟩ = some (.int .i64 0) := r2.cell 8
    have f8 : w6.frozen? ⟨w.heap.size + 1, 8, none⟩ = false := r2.frozen 8
    have s8 : w6.cell? ⟨w.heap.size + 1 + 1, 8, none⟩ = some (.int .i64 ve) := r3.cell 8
    have g2 : w6.frozen? ⟨w.heap.size + 1 + 1, 2, none⟩ = false := r3.frozen 2
    have R2 := Lib.hid r2
    clear r2 r3 r1 hHeld hH2 hA hKd hb6 hi
    go_wp2_with fail
    refine bodyPost_ret (results_row2 rfl _ _ (w.heap.size + 1) _ _ _ rfl ((((((((((R2.out).setc 0 _).setc 1 _).setc 2 _).setc 3 _).setc 4 _).setc 5 _).setc 6 _).setc 7 _).setc 8 _) Tryz.underlying59 rfl (by kernel_rfl)) rfl ?_
    refine ⟨by rw [HRES.out]; simp [S.val, S.cells], ?_⟩
    iterate 9 refine Below.setCell ?_ (by simp) _
    exact HB.out
  by_cases h1 : more < 0
  · have HRES : RowKit.Hid (res = (⟨st, ow, sm, br, ma, us, ge, ep, ve⟩, false)) := Lib.hid (by rw [HA.out, if_neg]; simp; omega)
    have d1 : decide (more < 0) = true := by simpa using h1
    clear HA
    refine wp_region_held_drew (S := fun w' => Below wa.heap.size wa w') (by kernel_rfl) (by exact hKd) (fun hHeld => ?_)
    refine take_of (i := 0) (d := some 7) (op := .load 141 (.tmp 1)) (gd := none) (v := .agg #[.int .i64 st, .int .i64 ow, .int .i64 sm, .bool br, .bool ma, .int .i64 us, .int .i64 ge, .int .i64 ep, .int .i64 ve, .int .i64 own, .int .i64 more]) (by kernel_rfl) (by kernel_rfl) (by kernel_rfl) (by kernel_rfl) (fun _ _ _ h => h) (by kernel_rfl) (run_load_row 141 (.tmp 1) (w.heap.size) 141 #[.int .i64 st, .int .i64 ow, .int .i64 sm, .bool br, .bool ma, .int .i64 us, .int .i64 ge, .int .i64 ep, .int .i64 ve, .int .i64 own, .int .i64 more] _ (by kernel_rfl) Tryz.underlying141 rfl (by kernel_rfl) rC) hHeld ?_
    try simp only [Act.put, List.setIfInBounds_toArray, List.set_cons_zero, List.set_cons_succ]
    refine ready_call (i := 1) (by kernel_rfl) 140 #[.tmp 7, .const (.int .i64 3)] #[141, 3] (some 8) (none) (by kernel_rfl) (by kernel_rfl) #[.agg #[.int .i64 st, .int .i64 ow, .int .i64 sm, .bool br, .bool ma, .int .i64 us, .int .i64 ge, .int .i64 ep, .int .i64 ve, .int .i64 own, .int .i64 more], .int .i64 3] (by kernel_rfl) (enters_of Tryz.func140 (by kernel_rfl) rfl) ?_
    refine (hi _).mono ?_
    rintro e w6 ⟨rfl, hb6⟩
    refine ⟨_, rfl, hHeld.trans (hb6.mono hHeld.size), fun hH2 => ?_⟩
    try simp only [Act.put, List.setIfInBounds_toArray, List.set_cons_zero, List.set_cons_succ]
    refine take_of (i := 2) (d := some 9) (op := .unOp .not 4 (.tmp 8)) (gd := none) (v := (.bool (!true))) (by kernel_rfl) (by kernel_rfl) (by kernel_rfl) (by kernel_rfl) (fun _ _ _ h => h) (by kernel_rfl) (run_not_of 4 (.tmp 8) true (by kernel_rfl)) hH2 ?_
    try simp only [Act.put, List.setIfInBounds_toArray, List.set_cons_zero, List.set_cons_succ]
    refine take_of (i := 3) (d := some 10) (op := .move (.tmp 9)) (gd := none) (v := (.bool false)) (by kernel_rfl) (by kernel_rfl) (by kernel_rfl) (by kernel_rfl) (fun _ _ _ h => h) (by kernel_rfl) (run_move_of (.tmp 9) (.bool false) (by kernel_rfl)) hH2 ?_
    try simp only [Act.put, List.setIfInBounds_toArray, List.set_cons_zero, List.set_cons_succ]
    refine takeg (i := 4) (d := some 11) (v := ?_) (by kernel_rfl) (by kernel_rfl) (by kernel_rfl) (by kernel_rfl) (fun _ _ _ h => h) (by kernel_rfl) ?_ hH2 ?_
    rotate_left
    · intro w hSw
      try dsimp only at hSw
      go_simp
      try with_reducible rfl
    try simp only [Act.put, List.setIfInBounds_toArray, List.set_cons_zero, List.set_cons_succ]
    refine takeg (i := 5) (d := some 12) (v := ?_) (by kernel_rfl) (by kernel_rfl) (by kernel_rfl) (by kernel_rfl) (fun _ _ _ h => h) (by kernel_rfl) ?_ hH2 ?_
    rotate_left
    · intro w hSw
      try dsimp only at hSw
      go_simp
      try with_reducible rfl
    try simp only [Act.put, List.setIfInBounds_toArray, List.set_cons_zero, List.set_cons_succ]
    refine takeg (i := 6) (d := some 13) (v := ?_) (by kernel_rfl) (by kernel_rfl) (by kernel_rfl) (by kernel_rfl) (fun _ _ _ h => h) (by kernel_rfl) ?_ hH2 ?_
    rotate_left
    · intro w hSw
      try dsimp only at hSw
      go_simp
      try with_reducible rfl
    try simp only [Act.put, List.setIfInBounds_toArray, List.set_cons_zero, List.set_cons_succ]
    refine take_of (i := 7) (d := some 14) (op := .pick (.tmp 10) (.const (.bool true)) (.tmp 13)) (gd := none) (v := (.bool true)) (by kernel_rfl) (by kernel_rfl) (by kernel_rfl) (by kernel_rfl) (fun _ _ _ h => h) (by kernel_rfl) (run_pick_of (.tmp 10) (.const (.bool true)) (.tmp 13) false (.bool true) (by kernel_rfl) (by kernel_rfl)) hH2 ?_
    try simp only [Act.put, List.setIfInBounds_toArray, List.set_cons_zero, List.set_cons_succ]
    refine take_of (i := 8) (d := some 15) (op := .move (.tmp 14)) (gd := none) (v := (.bool true)) (by kernel_rfl) (by kernel_rfl) (by kernel_rfl) (by kernel_rfl) (fun _ _ _ h => h) (by kernel_rfl) (run_move_of (.tmp 14) (.bool true) (by kernel_rfl)) hH2 ?_
    try simp only [Act.put, List.setIfInBounds_toArray, List.set_cons_zero, List.set_cons_succ]
    refine skip_of (i := 9) (d := some 16) (by kernel_rfl) (by kernel_rfl) (by kernel_rfl) (by kernel_rfl) (fun _ _ _ h => h) (by kernel_rfl) hH2 ?_
    try simp only [Act.put, List.setIfInBounds_toArray, List.set_cons_zero, List.set_cons_succ]
    refine skip_of (i := 10) (d := some 17) (by kernel_rfl) (by kernel_rfl) (by kernel_rfl) (by kernel_rfl) (fun _ _ _ h => h) (by kernel_rfl) hH2 ?_
    try simp only [Act.put, List.setIfInBounds_toArray, List.set_cons_zero, List.set_cons_succ]
    refine skip_of (i := 11) (d := some 18) (by kernel_rfl) (by kernel_rfl) (by kernel_rfl) (by kernel_rfl) (fun _ _ _ h => h) (by kernel_rfl) hH2 ?_
    try simp only [Act.put, List.setIfInBounds_toArray, List.set_cons_zero, List.set_cons_succ]
    refine take_of (i := 12) (d := some 19) (op := .pick (.tmp 15) (.const (.bool true)) (.tmp 18)) (gd := none) (v := (.bool true)) (by kernel_rfl) (by kernel_rfl) (by kernel_rfl) (by kernel_rfl) (fun _ _ _ h => h) (by kernel_rfl) (run_pick_of (.tmp 15) (.const (.bool true)) (.tmp 18) true (.bool true) (by kernel_rfl) (by kernel_rfl)) hH2 ?_
    try simp only [Act.put, List.setIfInBounds_toArray, List.set_cons_zero, List.set_cons_succ]
    refine take_of (i := 13) (d := some 20) (op := .move (.tmp 19)) (gd := none) (v := (.bool true)) (by kernel_rfl) (by kernel_rfl) (by kernel_rfl) (by kernel_rfl) (fun _ _ _ h => h) (by kernel_rfl) (run_move_of (.tmp 19) (.bool true) (by kernel_rfl)) hH2 ?_
    try simp only [Act.put, List.setIfInBounds_toArray, List.set_cons_zero, List.set_cons_succ]
    refine skip_of (i := 14) (d := some 21) (by kernel_rfl) (by kernel_rfl) (by kernel_rfl) (by kernel_rfl) (fun _ _ _ h => h) (by kernel_rfl) hH2 ?_
    try simp only [Act.put, List.setIfInBounds_toArray, List.set_cons_zero, List.set_cons_succ]
    refine skip_of (i := 15) (d := some 22) (by kernel_rfl) (by kernel_rfl) (by kernel_rfl) (by kernel_rfl) (fun _ _ _ h => h) (by kernel_rfl) hH2 ?_
    try simp only [Act.put, List.setIfInBounds_toArray, List.set_cons_zero, List.set_cons_succ]
    refine skip_of (i := 16) (d := some 23) (by kernel_rfl) (by kernel_rfl) (by kernel_rfl) (by kernel_rfl) (fun _ _ _ h => h) (by kernel_rfl) hH2 ?_
    try simp only [Act.put, List.setIfInBounds_toArray, List.set_cons_zero, List.set_cons_succ]
    refine skip_of (i := 17) (d := some 24) (by kernel_rfl) (by kernel_rfl) (by kernel_rfl) (by kernel_rfl) (fun _ _ _ h => h) (by kernel_rfl) hH2 ?_
    try simp only [Act.put, List.setIfInBounds_toArray, List.set_cons_zero, List.set_cons_succ]
    refine skip_of (i := 18) (d := some 25) (by kernel_rfl) (by kernel_rfl) (by kernel_rfl) (by kernel_rfl) (fun _ _ _ h => h) (by kernel_rfl) hH2 ?_
    try simp only [Act.put, List.setIfInBounds_toArray, List.set_cons_zero, List.set_cons_succ]
    refine skip_of (i := 19) (d := some 26) (by kernel_rfl) (by kernel_rfl) (by kernel_rfl) (by kernel_rfl) (fun _ _ _ h => h) (by kernel_rfl) hH2 ?_
    try simp only [Act.put, List.setIfInBounds_toArray, List.set_cons_zero, List.set_cons_succ]
    refine skip_of (i := 20) (d := some 27) (by kernel_rfl) (by kernel_rfl) (by kernel_rfl) (by kernel_rfl) (fun _ _ _ h => h) (by kernel_rfl) hH2 ?_
    try simp only [Act.put, List.setIfInBounds_toArray, List.set_cons_zero, List.set_cons_succ]
    refine take_of (i := 21) (d := some 28) (op := .pick (.tmp 20) (.const (.bool true)) (.tmp 27)) (gd := none) (v := (.bool true)) (by kernel_rfl) (by kernel_rfl) (by kernel_rfl) (by kernel_rfl) (fun _ _ _ h => h) (by kernel_rfl) (run_pick_of (.tmp 20) (.const (.bool true)) (.tmp 27) true (.bool true) (by kernel_rfl) (by kernel_rfl)) hH2 ?_
    try simp only [Act.put, List.setIfInBounds_toArray, List.set_cons_zero, List.set_cons_succ]
    refine wpAnyH_done (by kernel_rfl) ?_ _
    clear l2 l10 rC
    have HB := Lib.hid (hA.trans (hH2.mono hA.size))
    have r2 := r2.below hH2
    have r3 := r3.below hH2
    have c10 : w6.cell? ⟨w.heap.size, 10, none⟩ = some (.int .i64 more) := (r1.below hH2).cell 10
    have q0 : w6.cell? ⟨w.heap.size + 1, 0, none⟩ = some (.int .i64 0) := r2.cell 0
    have f0 : w6.frozen? ⟨w.heap.size + 1, 0, none⟩ = false := r2.frozen 0
    have s0 : w6.cell? ⟨w.heap.size + 1 + 1, 0, none⟩ = some (.int .i64 st) := r3.cell 0
    have q1 : w6.cell? ⟨w.heap.size + 1, 1, none⟩ = some (.int .i64 0) := r2.cell 1
    have f1 : w6.frozen? ⟨w.heap.size + 1, 1, none⟩ = false := r2.frozen 1
    have s1 : w6.cell? ⟨w.heap.size + 1 + 1, 1, none⟩ = some (.int .i64 ow) := r3.cell 1
    have q2 : w6.cell? ⟨w.heap.size + 1, 2, none⟩ = some (.int .i64 0) := r2.cell 2
    have f2 : w6.frozen? ⟨w.heap.size + 1, 2, none⟩ = false := r2.frozen 2
    have s2 : w6.cell? ⟨w.heap.size + 1 + 1, 2, none⟩ = some (.int .i64 sm) := r3.cell 2
    have q3 : w6.cell? ⟨w.heap.size + 1, 3, none⟩ = some (.bool false) := r2.cell 3
    have f3 : w6.frozen? ⟨w.heap.size + 1, 3, none⟩ = false := r2.frozen 3
    have s3 : w6.cell? ⟨w.heap.size + 1 + 1, 3, none⟩ = some (.bool br) := r3.cell 3
    have q4 : w6.cell? ⟨w.heap.size + 1, 4, none⟩ = some (.bool false) := r2.cell 4
    have f4 : w6.frozen? ⟨w.heap.size + 1, 4, none⟩ = false := r2.frozen 4
    have s4 : w6.cell? ⟨w.heap.size + 1 + 1, 4, none⟩ = some (.bool ma) := r3.cell 4
    have q5 : w6.cell? ⟨w.heap.size + 1, 5, none⟩ = some (.int .i64 0) := r2.cell 5
    have f5 : w6.frozen? ⟨w.heap.size + 1, 5, none⟩ = false := r2.frozen 5
    have s5 : w6.cell? ⟨w.heap.size + 1 + 1, 5, none⟩ = some (.int .i64 us) := r3.cell 5
    have q6 : w6.cell? ⟨w.heap.size + 1, 6, none⟩ = some (.int .i64 0) := r2.cell 6
    have f6 : w6.frozen? ⟨w.heap.size + 1, 6, none⟩ = false := r2.frozen 6
    have s6 : w6.cell? ⟨w.heap.size + 1 + 1, 6, none⟩ = some (.int .i64 ge) := r3.cell 6
    have q7 : w6.cell? ⟨w.heap.size + 1, 7, none⟩ = some (.int .i64 0) := r2.cell 7
    have f7 : w6.frozen? ⟨w.heap.size + 1, 7, none⟩ = false := r2.frozen 7
    have s7 : w6.cell? ⟨w.heap.size + 1 + 1, 7, none⟩ = some (.int .i64 ep) := r3.cell 7
    have q8 : w6.cell? ⟨w.heap.size + 1, 8, none⟩ = some (.int .i64 0) := r2.cell 8
    have f8 : w6.frozen? ⟨w.heap.size + 1, 8, none⟩ = false := r2.frozen 8
    have s8 : w6.cell? ⟨w.heap.size + 1 + 1, 8, none⟩ = some (.int .i64 ve) := r3.cell 8
    have g2 : w6.frozen? ⟨w.heap.size + 1 + 1, 2, none⟩ = false := r3.frozen 2
    have R2 := Lib.hid r2
    clear r2 r3 r1 hHeld hH2 hA hKd hb6 hi
    go_wp2_with fail
    refine bodyPost_ret (results_row2 rfl _ _ (w.heap.size + 1) _ _ _ rfl ((((((((((R2.out).setc 0 _).setc 1 _).setc 2 _).setc 3 _).setc 4 _).setc 5 _).setc 6 _).setc 7 _).setc 8 _) Tryz.underlying59 rfl (by kernel_rfl)) rfl ?_
    refine ⟨by rw [HRES.out]; simp [S.val, S.cells], ?_⟩
    iterate 9 refine Below.setCell ?_ (by simp) _
    exact HB.out
  have d1 : decide (more < 0) = false := by simpa using h1
  by_cases h2 : 8 ≤ more
  · have HRES : RowKit.Hid (res = (⟨st, ow, sm, br, ma, us, ge, ep, ve⟩, false)) := Lib.hid (by rw [HA.out, if_neg]; simp; omega)
    have d2 : decide (8 ≤ more) = true := by simpa using h2
    clear HA
    refine wp_region_held_drew (S := fun w' => Below wa.heap.size wa w') (by kernel_rfl) (by exact hKd) (fun hHeld => ?_)
    refine take_of (i := 0) (d := some 7) (op := .load 141 (.tmp 1)) (gd := none) (v := .agg #[.int .i64 st, .int .i64 ow, .int .i64 sm, .bool br, .bool ma, .int .i64 us, .int .i64 ge, .int .i64 ep, .int .i64 ve, .int .i64 own, .int .i64 more]) (by kernel_rfl) (by kernel_rfl) (by kernel_rfl) (by kernel_rfl) (fun _ _ _ h => h) (by kernel_rfl) (run_load_row 141 (.tmp 1) (w.heap.size) 141 #[.int .i64 st, .int .i64 ow, .int .i64 sm, .bool br, .bool ma, .int .i64 us, .int .i64 ge, .int .i64 ep, .int .i64 ve, .int .i64 own, .int .i64 more] _ (by kernel_rfl) Tryz.underlying141 rfl (by kernel_rfl) rC) hHeld ?_
    try simp only [Act.put, List.setIfInBounds_toArray, List.set_cons_zero, List.set_cons_succ]
    refine ready_call (i := 1) (by kernel_rfl) 140 #[.tmp 7, .const (.int .i64 3)] #[141, 3] (some 8) (none) (by kernel_rfl) (by kernel_rfl) #[.agg #[.int .i64 st, .int .i64 ow, .int .i64 sm, .bool br, .bool ma, .int .i64 us, .int .i64 ge, .int .i64 ep, .int .i64 ve, .int .i64 own, .int .i64 more], .int .i64 3] (by kernel_rfl) (enters_of Tryz.func140 (by kernel_rfl) rfl) ?_
    refine (hi _).mono ?_
    rintro e w6 ⟨rfl, hb6⟩
    refine ⟨_, rfl, hHeld.trans (hb6.mono hHeld.size), fun hH2 => ?_⟩
    try simp only [Act.put, List.setIfInBounds_toArray, List.set_cons_zero, List.set_cons_succ]
    refine take_of (i := 2) (d := some 9) (op := .unOp .not 4 (.tmp 8)) (gd := none) (v := (.bool (!true))) (by kernel_rfl) (by kernel_rfl) (by kernel_rfl) (by kernel_rfl) (fun _ _ _ h => h) (by kernel_rfl) (run_not_of 4 (.tmp 8) true (by kernel_rfl)) hH2 ?_
    try simp only [Act.put, List.setIfInBounds_toArray, List.set_cons_zero, List.set_cons_succ]
    refine take_of (i := 3) (d := some 10) (op := .move (.tmp 9)) (gd := none) (v := (.bool false)) (by kernel_rfl) (by kernel_rfl) (by kernel_rfl) (by kernel_rfl) (fun _ _ _ h => h) (by kernel_rfl) (run_move_of (.tmp 9) (.bool false) (by kernel_rfl)) hH2 ?_
    try simp only [Act.put, List.setIfInBounds_toArray, List.set_cons_zero, List.set_cons_succ]
    refine takeg (i := 4) (d := some 11) (v := ?_) (by kernel_rfl) (by kernel_rfl) (by kernel_rfl) (by kernel_rfl) (fun _ _ _ h => h) (by kernel_rfl) ?_ hH2 ?_
    rotate_left
    · intro w hSw
      try dsimp only at hSw
      go_simp
      try with_reducible rfl
    try simp only [Act.put, List.setIfInBounds_toArray, List.set_cons_zero, List.set_cons_succ]
    refine takeg (i := 5) (d := some 12) (v := ?_) (by kernel_rfl) (by kernel_rfl) (by kernel_rfl) (by kernel_rfl) (fun _ _ _ h => h) (by kernel_rfl) ?_ hH2 ?_
    rotate_left
    · intro w hSw
      try dsimp only at hSw
      go_simp
      try with_reducible rfl
    try simp only [Act.put, List.setIfInBounds_toArray, List.set_cons_zero, List.set_cons_succ]
    refine takeg (i := 6) (d := some 13) (v := ?_) (by kernel_rfl) (by kernel_rfl) (by kernel_rfl) (by kernel_rfl) (fun _ _ _ h => h) (by kernel_rfl) ?_ hH2 ?_
    rotate_left
    · intro w hSw
      try dsimp only at hSw
      go_simp
      try with_reducible rfl
    try simp only [Act.put, List.setIfInBounds_toArray, List.set_cons_zero, List.set_cons_succ]
    refine take_of (i := 7) (d := some 14) (op := .pick (.tmp 10) (.const (.bool true)) (.tmp 13)) (gd := none) (v := (.bool false)) (by kernel_rfl) (by kernel_rfl) (by kernel_rfl) (by kernel_rfl) (fun _ _ _ h => h) (by kernel_rfl) (run_pick_of (.tmp 10) (.const (.bool true)) (.tmp 13) false (.bool false) (by kernel_rfl) (by kernel_rfl)) hH2 ?_
    try simp only [Act.put, List.setIfInBounds_toArray, List.set_cons_zero, List.set_cons_succ]
    refine take_of (i := 8) (d := some 15) (op := .move (.tmp 14)) (gd := none) (v := (.bool false)) (by kernel_rfl) (by kernel_rfl) (by kernel_rfl) (by kernel_rfl) (fun _ _ _ h => h) (by kernel_rfl) (run_move_of (.tmp 14) (.bool false) (by kernel_rfl)) hH2 ?_
    try simp only [Act.put, List.setIfInBounds_toArray, List.set_cons_zero, List.set_cons_succ]
    refine takeg (i := 9) (d := some 16) (v := ?_) (by kernel_rfl) (by kernel_rfl) (by kernel_rfl) (by kernel_rfl) (fun _ _ _ h => h) (by kernel_rfl) ?_ hH2 ?_
    rotate_left
    · intro w hSw
      try dsimp only at hSw
      go_simp
      try with_reducible rfl
    try simp only [Act.put, List.setIfInBounds_toArray, List.set_cons_zero, List.set_cons_succ]
    refine takeg (i := 10) (d := some 17) (v := ?_) (by kernel_rfl) (by kernel_rfl) (by kernel_rfl) (by kernel_rfl) (fun _ _ _ h => h) (by kernel_rfl) ?_ hH2 ?_
    rotate_left
    · intro w hSw
      try dsimp only at hSw
      go_simp
      try with_reducible rfl
    try simp only [Act.put, List.setIfInBounds_toArray, List.set_cons_zero, List.set_cons_succ]
    refine takeg (i := 11) (d := some 18) (v := ?_) (by kernel_rfl) (by kernel_rfl) (by kernel_rfl) (by kernel_rfl) (fun _ _ _ h => h) (by kernel_rfl) ?_ hH2 ?_
    rotate_left
    · intro w hSw
      try dsimp only at hSw
      go_simp
      try with_reducible rfl
    try simp only [Act.put, List.setIfInBounds_toArray, List.set_cons_zero, List.set_cons_succ]
    refine take_of (i := 12) (d := some 19) (op := .pick (.tmp 15) (.const (.bool true)) (.tmp 18)) (gd := none) (v := (.bool true)) (by kernel_rfl) (by kernel_rfl) (by kernel_rfl) (by kernel_rfl) (fun _ _ _ h => h) (by kernel_rfl) (run_pick_of (.tmp 15) (.const (.bool true)) (.tmp 18) false (.bool true) (by kernel_rfl) (by kernel_rfl)) hH2 ?_
    try simp only [Act.put, List.setIfInBounds_toArray, List.set_cons_zero, List.set_cons_succ]
    refine take_of (i := 13) (d := some 20) (op := .move (.tmp 19)) (gd := none) (v := (.bool true)) (by kernel_rfl) (by kernel_rfl) (by kernel_rfl) (by kernel_rfl) (fun _ _ _ h => h) (by kernel_rfl) (run_move_of (.tmp 19) (.bool true) (by kernel_rfl)) hH2 ?_
    try simp only [Act.put, List.setIfInBounds_toArray, List.set_cons_zero, List.set_cons_succ]
    refine skip_of (i := 14) (d := some 21) (by kernel_rfl) (by kernel_rfl) (by kernel_rfl) (by kernel_rfl) (fun _ _ _ h => h) (by kernel_rfl) hH2 ?_
    try simp only [Act.put, List.setIfInBounds_toArray, List.set_cons_zero, List.set_cons_succ]
    refine skip_of (i := 15) (d := some 22) (by kernel_rfl) (by kernel_rfl) (by kernel_rfl) (by kernel_rfl) (fun _ _ _ h => h) (by kernel_rfl) hH2 ?_
    try simp only [Act.put, List.setIfInBounds_toArray, List.set_cons_zero, List.set_cons_succ]
    refine skip_of (i := 16) (d := some 23) (by kernel_rfl) (by kernel_rfl) (by kernel_rfl) (by kernel_rfl) (fun _ _ _ h => h) (by kernel_rfl) hH2 ?_
    try simp only [Act.put, List.setIfInBounds_toArray, List.set_cons_zero, List.set_cons_succ]
    refine skip_of (i := 17) (d := some 24) (by kernel_rfl) (by kernel_rfl) (by kernel_rfl) (by kernel_rfl) (fun _ _ _ h => h) (by kernel_rfl) hH2 ?_
    try simp only [Act.put, List.setIfInBounds_toArray, List.set_cons_zero, List.set_cons_succ]
    refine skip_of (i := 18) (d := some 25) (by kernel_rfl) (by kernel_rfl) (by kernel_rfl) (by kernel_rfl) (fun _ _ _ h => h) (by kernel_rfl) hH2 ?_
    try simp only [Act.put, List.setIfInBounds_toArray, List.set_cons_zero, List.set_cons_succ]
    refine skip_of (i := 19) (d := some 26) (by kernel_rfl) (by kernel_rfl) (by kernel_rfl) (by kernel_rfl) (fun _ _ _ h => h) (by kernel_rfl) hH2 ?_
    try simp only [Act.put, List.setIfInBounds_toArray, List.set_cons_zero, List.set_cons_succ]
    refine skip_of (i := 20) (d := some 27) (by kernel_rfl) (by kernel_rfl) (by kernel_rfl) (by kernel_rfl) (fun _ _ _ h => h) (by kernel_rfl) hH2 ?_
    try simp only [Act.put, List.setIfInBounds_toArray, List.set_cons_zero, List.set_cons_succ]
    refine take_of (i := 21) (d := some 28) (op := .pick (.tmp 20) (.const (.bool true)) (.tmp 27)) (gd := none) (v := (.bool true)) (by kernel_rfl) (by kernel_rfl) (by kernel_rfl) (by kernel_rfl) (fun _ _ _ h => h) (by kernel_rfl) (run_pick_of (.tmp 20) (.const (.bool true)) (.tmp 27) true (.bool true) (by kernel_rfl) (by kernel_rfl)) hH2 ?_
    try simp only [Act.put, List.setIfInBounds_toArray, List.set_cons_zero, List.set_cons_succ]
    refine wpAnyH_done (by kernel_rfl) ?_ _
    clear l2 l10 rC
    have HB := Lib.hid (hA.trans (hH2.mono hA.size))
    have r2 := r2.below hH2
    have r3 := r3.below hH2
    have c10 : w6.cell? ⟨w.heap.size, 10, none⟩ = some (.int .i64 more) := (r1.below hH2).cell 10
    have q0 : w6.cell? ⟨w.heap.size + 1, 0, none⟩ = some (.int .i64 0) := r2.cell 0
    have f0 : w6.frozen? ⟨w.heap.size + 1, 0, none⟩ = false := r2.frozen 0
    have s0 : w6.cell? ⟨w.heap.size + 1 + 1, 0, none⟩ = some (.int .i64 st) := r3.cell 0
    have q1 : w6.cell? ⟨w.heap.size + 1, 1, none⟩ = some (.int .i64 0) := r2.cell 1
    have f1 : w6.frozen? ⟨w.heap.size + 1, 1, none⟩ = false := r2.frozen 1
    have s1 : w6.cell? ⟨w.heap.size + 1 + 1, 1, none⟩ = some (.int .i64 ow) := r3.cell 1
    have q2 : w6.cell? ⟨w.heap.size + 1, 2, none⟩ = some (.int .i64 0) := r2.cell 2
    have f2 : w6.frozen? ⟨w.heap.size + 1, 2, none⟩ = false := r2.frozen 2
    have s2 : w6.cell? ⟨w.heap.size + 1 + 1, 2, none⟩ = some (.int .i64 sm) := r3.cell 2
    have q3 : w6.cell? ⟨w.heap.size + 1, 3, none⟩ = some (.bool false) := r2.cell 3
    have f3 : w6.frozen? ⟨w.heap.size + 1, 3, none⟩ = false := r2.frozen 3
    have s3 : w6.cell? ⟨w.heap.size + 1 + 1, 3, none⟩ = some (.bool br) := r3.cell 3
    have q4 : w6.cell? ⟨w.heap.size + 1, 4, none⟩ = some (.bool false) := r2.cell 4
    have f4 : w6.frozen? ⟨w.heap.size + 1, 4, none⟩ = false := r2.frozen 4
    have s4 : w6.cell? ⟨w.heap.size + 1 + 1, 4, none⟩ = some (.bool ma) := r3.cell 4
    have q5 : w6.cell? ⟨w.heap.size + 1, 5, none⟩ = some (.int .i64 0) := r2.cell 5
    have f5 : w6.frozen? ⟨w.heap.size + 1, 5, none⟩ = false := r2.frozen 5
    have s5 : w6.cell? ⟨w.heap.size + 1 + 1, 5, none⟩ = some (.int .i64 us) := r3.cell 5
    have q6 : w6.cell? ⟨w.heap.size + 1, 6, none⟩ = some (.int .i64 0) := r2.cell 6
    have f6 : w6.frozen? ⟨w.heap.size + 1, 6, none⟩ = false := r2.frozen 6
    have s6 : w6.cell? ⟨w.heap.size + 1 + 1, 6, none⟩ = some (.int .i64 ge) := r3.cell 6
    have q7 : w6.cell? ⟨w.heap.size + 1, 7, none⟩ = some (.int .i64 0) := r2.cell 7
    have f7 : w6.frozen? ⟨w.heap.size + 1, 7, none⟩ = false := r2.frozen 7
    have s7 : w6.cell? ⟨w.heap.size + 1 + 1, 7, none⟩ = some (.int .i64 ep) := r3.cell 7
    have q8 : w6.cell? ⟨w.heap.size + 1, 8, none⟩ = some (.int .i64 0) := r2.cell 8
    have f8 : w6.frozen? ⟨w.heap.size + 1, 8, none⟩ = false := r2.frozen 8
    have s8 : w6.cell? ⟨w.heap.size + 1 + 1, 8, none⟩ = some (.int .i64 ve) := r3.cell 8
    have g2 : w6.frozen? ⟨w.heap.size + 1 + 1, 2, none⟩ = false := r3.frozen 2
    have R2 := Lib.hid r2
    clear r2 r3 r1 hHeld hH2 hA hKd hb6 hi
    go_wp2_with fail
    refine bodyPost_ret (results_row2 rfl _ _ (w.heap.size + 1) _ _ _ rfl ((((((((((R2.out).setc 0 _).setc 1 _).setc 2 _).setc 3 _).setc 4 _).setc 5 _).setc 6 _).setc 7 _).setc 8 _) Tryz.underlying59 rfl (by kernel_rfl)) rfl ?_
    refine ⟨by rw [HRES.out]; simp [S.val, S.cells], ?_⟩
    iterate 9 refine Below.setCell ?_ (by simp) _
    exact HB.out
  have d2 : decide (8 ≤ more) = false := by simpa using h2
  obtain ⟨k, rfl⟩ := Int.eq_ofNat_of_zero_le (show 0 ≤ more by omega)
  have l0 : (0 : Int) ≤ (k : Int) := by omega
  have hk : k < 8 := by omega
  have hp1 := (pow_val k hk).1
  have hp2 := (pow_val k hk).2
  have hne : ((2 : Int) ^ k == 0) = false := by simp; omega
  have hwr : IntKind.i64.wrap ((2 : Int) ^ k) = 2 ^ k := by
    generalize (2 : Int) ^ k = p at *
    rw [IntKind.wrap_i64]; omega
  have hnd := bit_and sm k ⟨hs0, hs1⟩ hk
  have hor := bit_drop sm k ⟨hs0, hs1⟩ hk
  clear h1 h2
  cases hb : hasBit sm k
  · rw [hb] at hnd
    simp only [Bool.false_eq_true, if_false] at hnd
    have HRES : RowKit.Hid (res = (⟨st, ow, sm, br, ma, us, ge, ep, ve⟩, false)) := Lib.hid (by rw [HA.out, if_neg]; simp [hb])
    clear HA hb hor
    refine wp_region_held_drew (S := fun w' => Below wa.heap.size wa w') (by kernel_rfl) (by exact hKd) (fun hHeld => ?_)
    refine take_of (i := 0) (d := some 7) (op := .load 141 (.tmp 1)) (gd := none) (v := .agg #[.int .i64 st, .int .i64 ow, .int .i64 sm, .bool br, .bool ma, .int .i64 us, .int .i64 ge, .int .i64 ep, .int .i64 ve, .int .i64 own, .int .i64 k]) (by kernel_rfl) (by kernel_rfl) (by kernel_rfl) (by kernel_rfl) (fun _ _ _ h => h) (by kernel_rfl) (run_load_row 141 (.tmp 1) (w.heap.size) 141 #[.int .i64 st, .int .i64 ow, .int .i64 sm, .bool br, .bool ma, .int .i64 us, .int .i64 ge, .int .i64 ep, .int .i64 ve, .int .i64 own, .int .i64 k] _ (by kernel_rfl) Tryz.underlying141 rfl (by kernel_rfl) rC) hHeld ?_
    try simp only [Act.put, List.setIfInBounds_toArray, List.set_cons_zero, List.set_cons_succ]
    refine ready_call (i := 1) (by kernel_rfl) 140 #[.tmp 7, .const (.int .i64 3)] #[141, 3] (some 8) (none) (by kernel_rfl) (by kernel_rfl) #[.agg #[.int .i64 st, .int .i64 ow, .int .i64 sm, .bool br, .bool ma, .int .i64 us, .int .i64 ge, .int .i64 ep, .int .i64 ve, .int .i64 own, .int .i64 k], .int .i64 3] (by kernel_rfl) (enters_of Tryz.func140 (by kernel_rfl) rfl) ?_
    refine (hi _).mono ?_
    rintro e w6 ⟨rfl, hb6⟩
    refine ⟨_, rfl, hHeld.trans (hb6.mono hHeld.size), fun hH2 => ?_⟩
    try simp only [Act.put, List.setIfInBounds_toArray, List.set_cons_zero, List.set_cons_succ]
    refine take_of (i := 2) (d := some 9) (op := .unOp .not 4 (.tmp 8)) (gd := none) (v := (.bool (!true))) (by kernel_rfl) (by kernel_rfl) (by kernel_rfl) (by kernel_rfl) (fun _ _ _ h => h) (by kernel_rfl) (run_not_of 4 (.tmp 8) true (by kernel_rfl)) hH2 ?_
    try simp only [Act.put, List.setIfInBounds_toArray, List.set_cons_zero, List.set_cons_succ]
    refine take_of (i := 3) (d := some 10) (op := .move (.tmp 9)) (gd := none) (v := (.bool false)) (by kernel_rfl) (by kernel_rfl) (by kernel_rfl) (by kernel_rfl) (fun _ _ _ h => h) (by kernel_rfl) (run_move_of (.tmp 9) (.bool false) (by kernel_rfl)) hH2 ?_
    try simp only [Act.put, List.setIfInBounds_toArray, List.set_cons_zero, List.set_cons_succ]
    refine takeg (i := 4) (d := some 11) (v := ?_) (by kernel_rfl) (by kernel_rfl) (by kernel_rfl) (by kernel_rfl) (fun _ _ _ h => h) (by kernel_rfl) ?_ hH2 ?_
    rotate_left
    · intro w hSw
      try dsimp only at hSw
      go_simp
      try with_reducible rfl
    try simp only [Act.put, List.setIfInBounds_toArray, List.set_cons_zero, List.set_cons_succ]
    refine takeg (i := 5) (d := some 12) (v := ?_) (by kernel_rfl) (by kernel_rfl) (by kernel_rfl) (by kernel_rfl) (fun _ _ _ h => h) (by kernel_rfl) ?_ hH2 ?_
    rotate_left
    · intro w hSw
      try dsimp only at hSw
      go_simp
      try with_reducible rfl
    try simp only [Act.put, List.setIfInBounds_toArray, List.set_cons_zero, List.set_cons_succ]
    refine takeg (i := 6) (d := some 13) (v := ?_) (by kernel_rfl) (by kernel_rfl) (by kernel_rfl) (by kernel_rfl) (fun _ _ _ h => h) (by kernel_rfl) ?_ hH2 ?_
    rotate_left
    · intro w hSw
      try dsimp only at hSw
      go_simp
      try with_reducible rfl
    try simp only [Act.put, List.setIfInBounds_toArray, List.set_cons_zero, List.set_cons_succ]
    refine take_of (i := 7) (d := some 14) (op := .pick (.tmp 10) (.const (.bool true)) (.tmp 13)) (gd := none) (v := (.bool false)) (by kernel_rfl) (by kernel_rfl) (by kernel_rfl) (by kernel_rfl) (fun _ _ _ h => h) (by kernel_rfl) (run_pick_of (.tmp 10) (.const (.bool true)) (.tmp 13) false (.bool false) (by kernel_rfl) (by kernel_rfl)) hH2 ?_
    try simp only [Act.put, List.setIfInBounds_toArray, List.set_cons_zero, List.set_cons_succ]
    refine take_of (i := 8) (d := some 15) (op := .move (.tmp 14)) (gd := none) (v := (.bool false)) (by kernel_rfl) (by kernel_rfl) (by kernel_rfl) (by kernel_rfl) (fun _ _ _ h => h) (by kernel_rfl) (run_move_of (.tmp 14) (.bool false) (by kernel_rfl)) hH2 ?_
    try simp only [Act.put, List.setIfInBounds_toArray, List.set_cons_zero, List.set_cons_succ]
    refine takeg (i := 9) (d := some 16) (v := ?_) (by kernel_rfl) (by kernel_rfl) (by kernel_rfl) (by kernel_rfl) (fun _ _ _ h => h) (by kernel_rfl) ?_ hH2 ?_
    rotate_left
    · intro w hSw
      try dsimp only at hSw
      go_simp
      try with_reducible rfl
    try simp only [Act.put, List.setIfInBounds_toArray, List.set_cons_zero, List.set_cons_succ]
    refine takeg (i := 10) (d := some 17) (v := ?_) (by kernel_rfl) (by kernel_rfl) (by kernel_rfl) (by kernel_rfl) (fun _ _ _ h => h) (by kernel_rfl) ?_ hH2 ?_
    rotate_left
    · intro w hSw
      try dsimp only at hSw
      go_simp
      try with_reducible rfl
    try simp only [Act.put, List.setIfInBounds_toArray, List.set_cons_zero, List.set_cons_succ]
    refine takeg (i := 11) (d := some 18) (v := ?_) (by kernel_rfl) (by kernel_rfl) (by kernel_rfl) (by kernel_rfl) (fun _ _ _ h => h) (by kernel_rfl) ?_ hH2 ?_
    rotate_left
    · intro w hSw
      try dsimp only at hSw
      go_simp
      try with_reducible rfl
    try simp only [Act.put, List.setIfInBounds_toArray, List.set_cons_zero, List.set_cons_succ]
    refine take_of (i := 12) (d := some 19) (op := .pick (.tmp 15) (.const (.bool true)) (.tmp 18)) (gd := none) (v := (.bool false)) (by kernel_rfl) (by kernel_rfl) (by kernel_rfl) (by kernel_rfl) (fun _ _ _ h => h) (by kernel_rfl) (run_pick_of (.tmp 15) (.const (.bool true)) (.tmp 18) false (.bool false) (by kernel_rfl) (by kernel_rfl)) hH2 ?_
    try simp only [Act.put, List.setIfInBounds_toArray, List.set_cons_zero, List.set_cons_succ]
    refine take_of (i := 13) (d := some 20) (op := .move (.tmp 19)) (gd := none) (v := (.bool false)) (by kernel_rfl) (by kernel_rfl) (by kernel_rfl) (by kernel_rfl) (fun _ _ _ h => h) (by kernel_rfl) (run_move_of (.tmp 19) (.bool false) (by kernel_rfl)) hH2 ?_
    try simp only [Act.put, List.setIfInBounds_toArray, List.set_cons_zero, List.set_cons_succ]
    refine takeg (i := 14) (d := some 21) (v := ?_) (by kernel_rfl) (by kernel_rfl) (by kernel_rfl) (by kernel_rfl) (fun _ _ _ h => h) (by kernel_rfl) ?_ hH2 ?_
    rotate_left
    · intro w hSw
      try dsimp only at hSw
      go_simp
      try with_reducible rfl
    try simp only [Act.put, List.setIfInBounds_toArray, List.set_cons_zero, List.set_cons_succ]
    refine takeg (i := 15) (d := some 22) (v := ?_) (by kernel_rfl) (by kernel_rfl) (by kernel_rfl) (by kernel_rfl) (fun _ _ _ h => h) (by kernel_rfl) ?_ hH2 ?_
    rotate_left
    · intro w hSw
      try dsimp only at hSw
      go_simp
      try with_reducible rfl
    try simp only [Act.put, List.setIfInBounds_toArray, List.set_cons_zero, List.set_cons_succ]
    refine takeg (i := 16) (d := some 23) (v := ?_) (by kernel_rfl) (by kernel_rfl) (by kernel_rfl) (by kernel_rfl) (fun _ _ _ h => h) (by kernel_rfl) ?_ hH2 ?_
    rotate_left
    · intro w hSw
      try dsimp only at hSw
      go_simp
      try with_reducible rfl
    try simp only [Act.put, List.setIfInBounds_toArray, List.set_cons_zero, List.set_cons_succ]
    refine takeg (i := 17) (d := some 24) (v := ?_) (by kernel_rfl) (by kernel_rfl) (by kernel_rfl) (by kernel_rfl) (fun _ _ _ h => h) (by kernel_rfl) ?_ hH2 ?_
    rotate_left
    · intro w hSw
      try dsimp only at hSw
      go_simp
      try with_reducible rfl
    try simp only [Act.put, List.setIfInBounds_toArray, List.set_cons_zero, List.set_cons_succ]
    refine takeg (i := 18) (d := some 25) (v := ?_) (by kernel_rfl) (by kernel_rfl) (by kernel_rfl) (by kernel_rfl) (fun _ _ _ h => h) (by kernel_rfl) ?_ hH2 ?_
    rotate_left
    · intro w hSw
      try dsimp only at hSw
      go_simp
      try with_reducible rfl
    try simp only [Act.put, List.setIfInBounds_toArray, List.set_cons_zero, List.set_cons_succ]
    refine takeg (i := 19) (d := some 26) (v := ?_) (by kernel_rfl) (by kernel_rfl) (by kernel_rfl) (by kernel_rfl) (fun _ _ _ h => h) (by kernel_rfl) ?_ hH2 ?_
    rotate_left
    · intro w hSw
      try dsimp only at hSw
      go_simp
      try with_reducible rfl
    try simp only [Act.put, List.setIfInBounds_toArray, List.set_cons_zero, List.set_cons_succ]
    refine takeg (i := 20) (d := some 27) (v := ?_) (by kernel_rfl) (by kernel_rfl) (by kernel_rfl) (by kernel_rfl) (fun _ _ _ h => h) (by kernel_rfl) ?_ hH2 ?_
    rotate_left
    · intro w hSw
      try dsimp only at hSw
      go_simp
      try with_reducible rfl
    try simp only [Act.put, List.setIfInBounds_toArray, List.set_cons_zero, List.set_cons_succ]
    refine take_of (i := 21) (d := some 28) (op := .pick (.tmp 20) (.const (.bool true)) (.tmp 27)) (gd := none) (v := (.bool true)) (by kernel_rfl) (by kernel_rfl) (by kernel_rfl) (by kernel_rfl) (fun _ _ _ h => h) (by kernel_rfl) (run_pick_of (.tmp 20) (.const (.bool true)) (.tmp 27) false (.bool true) (by kernel_rfl) (by kernel_rfl)) hH2 ?_
    try simp only [Act.put, List.setIfInBounds_toArray, List.set_cons_zero, List.set_cons_succ]
    refine wpAnyH_done (by kernel_rfl) ?_ _
    clear l2 l10 rC
    have HB := Lib.hid (hA.trans (hH2.mono hA.size))
    have r2 := r2.below hH2
    have r3 := r3.below hH2
    have c10 : w6.cell? ⟨w.heap.size, 10, none⟩ = some (.int .i64 k) := (r1.below hH2).cell 10
    have q0 : w6.cell? ⟨w.heap.size + 1, 0, none⟩ = some (.int .i64 0) := r2.cell 0
    have f0 : w6.frozen? ⟨w.heap.size + 1, 0, none⟩ = false := r2.frozen 0
    have s0 : w6.cell? ⟨w.heap.size + 1 + 1, 0, none⟩ = some (.int .i64 st) := r3.cell 0
    have q1 : w6.cell? ⟨w.heap.size + 1, 1, none⟩ = some (.int .i64 0) := r2.cell 1
    have f1 : w6.frozen? ⟨w.heap.size + 1, 1, none⟩ = false := r2.frozen 1
    have s1 : w6.cell? ⟨w.heap.size + 1 + 1, 1, none⟩ = some (.int .i64 ow) := r3.cell 1
    have q2 : w6.cell? ⟨w.heap.size + 1, 2, none⟩ = some (.int .i64 0) := r2.cell 2
    have f2 : w6.frozen? ⟨w.heap.size + 1, 2, none⟩ = false := r2.frozen 2
    have s2 : w6.cell? ⟨w.heap.size + 1 + 1, 2, none⟩ = some (.int .i64 sm) := r3.cell 2
    have q3 : w6.cell? ⟨w.heap.size + 1, 3, none⟩ = some (.bool false) := r2.cell 3
    have f3 : w6.frozen? ⟨w.heap.size + 1, 3, none⟩ = false := r2.frozen 3
    have s3 : w6.cell? ⟨w.heap.size + 1 + 1, 3, none⟩ = some (.bool br) := r3.cell 3
    have q4 : w6.cell? ⟨w.heap.size + 1, 4, none⟩ = some (.bool false) := r2.cell 4
    have f4 : w6.frozen? ⟨w.heap.size + 1, 4, none⟩ = false := r2.frozen 4
    have s4 : w6.cell? ⟨w.heap.size + 1 + 1, 4, none⟩ = some (.bool ma) := r3.cell 4
    have q5 : w6.cell? ⟨w.heap.size + 1, 5, none⟩ = some (.int .i64 0) := r2.cell 5
    have f5 : w6.frozen? ⟨w.heap.size + 1, 5, none⟩ = false := r2.frozen 5
    have s5 : w6.cell? ⟨w.heap.size + 1 + 1, 5, none⟩ = some (.int .i64 us) := r3.cell 5
    have q6 : w6.cell? ⟨w.heap.size + 1, 6, none⟩ = some (.int .i64 0) := r2.cell 6
    have f6 : w6.frozen? ⟨w.heap.size + 1, 6, none⟩ = false := r2.frozen 6
    have s6 : w6.cell? ⟨w.heap.size + 1 + 1, 6, none⟩ = some (.int .i64 ge) := r3.cell 6
    have q7 : w6.cell? ⟨w.heap.size + 1, 7, none⟩ = some (.int .i64 0) := r2.cell 7
    have f7 : w6.frozen? ⟨w.heap.size + 1, 7, none⟩ = false := r2.frozen 7
    have s7 : w6.cell? ⟨w.heap.size + 1 + 1, 7, none⟩ = some (.int .i64 ep) := r3.cell 7
    have q8 : w6.cell? ⟨w.heap.size + 1, 8, none⟩ = some (.int .i64 0) := r2.cell 8
    have f8 : w6.frozen? ⟨w.heap.size + 1, 8, none⟩ = false := r2.frozen 8
    have s8 : w6.cell? ⟨w.heap.size + 1 + 1, 8, none⟩ = some (.int .i64 ve) := r3.cell 8
    have g2 : w6.frozen? ⟨w.heap.size + 1 + 1, 2, none⟩ = false := r3.frozen 2
    have R2 := Lib.hid r2
    clear r2 r3 r1 hHeld hH2 hA hKd hb6 hi
    go_wp2_with fail
    refine bodyPost_ret (results_row2 rfl _ _ (w.heap.size + 1) _ _ _ rfl ((((((((((R2.out).setc 0 _).setc 1 _).setc 2 _).setc 3 _).setc 4 _).setc 5 _).setc 6 _).setc 7 _).setc 8 _) Tryz.underlying59 rfl (by kernel_rfl)) rfl ?_
    refine ⟨by rw [HRES.out]; simp [S.val, S.cells], ?_⟩
    iterate 9 refine Below.setCell ?_ (by simp) _
    exact HB.out
  · rw [hb] at hnd
    simp only [if_true] at hnd
    have hor := hor hb
    have HRES : RowKit.Hid (res = (⟨st, ow, dropBit sm k, br, ma, us, ge, ep, ve⟩, true)) := Lib.hid (by rw [HA.out, if_pos]; rfl; simp [hb]; omega)
    clear HA hb
    refine wp_region_held_drew (S := fun w' => Below wa.heap.size wa w') (by kernel_rfl) (by exact hKd) (fun hHeld => ?_)
    refine take_of (i := 0) (d := some 7) (op := .load 141 (.tmp 1)) (gd := none) (v := .agg #[.int .i64 st, .int .i64 ow, .int .i64 sm, .bool br, .bool ma, .int .i64 us, .int .i64 ge, .int .i64 ep, .int .i64 ve, .int .i64 own, .int .i64 k]) (by kernel_rfl) (by kernel_rfl) (by kernel_rfl) (by kernel_rfl) (fun _ _ _ h => h) (by kernel_rfl) (run_load_row 141 (.tmp 1) (w.heap.size) 141 #[.int .i64 st, .int .i64 ow, .int .i64 sm, .bool br, .bool ma, .int .i64 us, .int .i64 ge, .int .i64 ep, .int .i64 ve, .int .i64 own, .int .i64 k] _ (by kernel_rfl) Tryz.underlying141 rfl (by kernel_rfl) rC) hHeld ?_
    try simp only [Act.put, List.setIfInBounds_toArray, List.set_cons_zero, List.set_cons_succ]
    refine ready_call (i := 1) (by kernel_rfl) 140 #[.tmp 7, .const (.int .i64 3)] #[141, 3] (some 8) (none) (by kernel_rfl) (by kernel_rfl) #[.agg #[.int .i64 st, .int .i64 ow, .int .i64 sm, .bool br, .bool ma, .int .i64 us, .int .i64 ge, .int .i64 ep, .int .i64 ve, .int .i64 own, .int .i64 k], .int .i64 3] (by kernel_rfl) (enters_of Tryz.func140 (by kernel_rfl) rfl) ?_
    refine (hi _).mono ?_
    rintro e w6 ⟨rfl, hb6⟩
    refine ⟨_, rfl, hHeld.trans (hb6.mono hHeld.size), fun hH2 => ?_⟩
    try simp only [Act.put, List.setIfInBounds_toArray, List.set_cons_zero, List.set_cons_succ]
    refine take_of (i := 2) (d := some 9) (op := .unOp .not 4 (.tmp 8)) (gd := none) (v := (.bool (!true))) (by kernel_rfl) (by kernel_rfl) (by kernel_rfl) (by kernel_rfl) (fun _ _ _ h => h) (by kernel_rfl) (run_not_of 4 (.tmp 8) true (by kernel_rfl)) hH2 ?_
    try simp only [Act.put, List.setIfInBounds_toArray, List.set_cons_zero, List.set_cons_succ]
    refine take_of (i := 3) (d := some 10) (op := .move (.tmp 9)) (gd := none) (v := (.bool false)) (by kernel_rfl) (by kernel_rfl) (by kernel_rfl) (by kernel_rfl) (fun _ _ _ h => h) (by kernel_rfl) (run_move_of (.tmp 9) (.bool false) (by kernel_rfl)) hH2 ?_
    try simp only [Act.put, List.setIfInBounds_toArray, List.set_cons_zero, List.set_cons_succ]
    refine takeg (i := 4) (d := some 11) (v := ?_) (by kernel_rfl) (by kernel_rfl) (by kernel_rfl) (by kernel_rfl) (fun _ _ _ h => h) (by kernel_rfl) ?_ hH2 ?_
    rotate_left
    · intro w hSw
      try dsimp only at hSw
      go_simp
      try with_reducible rfl
    try simp only [Act.put, List.setIfInBounds_toArray, List.set_cons_zero, List.set_cons_succ]
    refine takeg (i := 5) (d := some 12) (v := ?_) (by kernel_rfl) (by kernel_rfl) (by kernel_rfl) (by kernel_rfl) (fun _ _ _ h => h) (by kernel_rfl) ?_ hH2 ?_
    rotate_left
    · intro w hSw
      try dsimp only at hSw
      go_simp
      try with_reducible rfl
    try simp only [Act.put, List.setIfInBounds_toArray, List.set_cons_zero, List.set_cons_succ]
    refine takeg (i := 6) (d := some 13) (v := ?_) (by kernel_rfl) (by kernel_rfl) (by kernel_rfl) (by kernel_rfl) (fun _ _ _ h => h) (by kernel_rfl) ?_ hH2 ?_
    rotate_left
    · intro w hSw
      try dsimp only at hSw
      go_simp
      try with_reducible rfl
    try simp only [Act.put, List.setIfInBounds_toArray, List.set_cons_zero, List.set_cons_succ]
    refine take_of (i := 7) (d := some 14) (op := .pick (.tmp 10) (.const (.bool true)) (.tmp 13)) (gd := none) (v := (.bool false)) (by kernel_rfl) (by kernel_rfl) (by kernel_rfl) (by kernel_rfl) (fun _ _ _ h => h) (by kernel_rfl) (run_pick_of (.tmp 10) (.const (.bool true)) (.tmp 13) false (.bool false) (by kernel_rfl) (by kernel_rfl)) hH2 ?_
    try simp only [Act.put, List.setIfInBounds_toArray, List.set_cons_zero, List.set_cons_succ]
    refine take_of (i := 8) (d := some 15) (op := .move (.tmp 14)) (gd := none) (v := (.bool false)) (by kernel_rfl) (by kernel_rfl) (by kernel_rfl) (by kernel_rfl) (fun _ _ _ h => h) (by kernel_rfl) (run_move_of (.tmp 14) (.bool false) (by kernel_rfl)) hH2 ?_
    try simp only [Act.put, List.setIfInBounds_toArray, List.set_cons_zero, List.set_cons_succ]
    refine takeg (i := 9) (d := some 16) (v := ?_) (by kernel_rfl) (by kernel_rfl) (by kernel_rfl) (by kernel_rfl) (fun _ _ _ h => h) (by kernel_rfl) ?_ hH2 ?_
    rotate_left
    · intro w hSw
      try dsimp only at hSw
      go_simp
      try with_reducible rfl
    try simp only [Act.put, List.setIfInBounds_toArray, List.set_cons_zero, List.set_cons_succ]
    refine takeg (i := 10) (d := some 17) (v := ?_) (by kernel_rfl) (by kernel_rfl) (by kernel_rfl) (by kernel_rfl) (fun _ _ _ h => h) (by kernel_rfl) ?_ hH2 ?_
    rotate_left
    · intro w hSw
      try dsimp only at hSw
      go_simp
      try with_reducible rfl
    try simp only [Act.put, List.setIfInBounds_toArray, List.set_cons_zero, List.set_cons_succ]
    refine takeg (i := 11) (d := some 18) (v := ?_) (by kernel_rfl) (by kernel_rfl) (by kernel_rfl) (by kernel_rfl) (fun _ _ _ h => h) (by kernel_rfl) ?_ hH2 ?_
    rotate_left
    · intro w hSw
      try dsimp only at hSw
      go_simp
      try with_reducible rfl
    try simp only [Act.put, List.setIfInBounds_toArray, List.set_cons_zero, List.set_cons_succ]
    refine take_of (i := 12) (d := some 19) (op := .pick (.tmp 15) (.const (.bool true)) (.tmp 18)) (gd := none) (v := (.bool false)) (by kernel_rfl) (by kernel_rfl) (by kernel_rfl) (by kernel_rfl) (fun _ _ _ h => h) (by kernel_rfl) (run_pick_of (.tmp 15) (.const (.bool true)) (.tmp 18) false (.bool false) (by kernel_rfl) (by kernel_rfl)) hH2 ?_
    try simp only [Act.put, List.setIfInBounds_toArray, List.set_cons_zero, List.set_cons_succ]
    refine take_of (i := 13) (d := some 20) (op := .move (.tmp 19)) (gd := none) (v := (.bool false)) (by kernel_rfl) (by kernel_rfl) (by kernel_rfl) (by kernel_rfl) (fun _ _ _ h => h) (by kernel_rfl) (run_move_of (.tmp 19) (.bool false) (by kernel_rfl)) hH2 ?_
    try simp only [Act.put, List.setIfInBounds_toArray, List.set_cons_zero, List.set_cons_succ]
    refine takeg (i := 14) (d := some 21) (v := ?_) (by kernel_rfl) (by kernel_rfl) (by kernel_rfl) (by kernel_rfl) (fun _ _ _ h => h) (by kernel_rfl) ?_ hH2 ?_
    rotate_left
    · intro w hSw
      try dsimp only at hSw
      go_simp
      try with_reducible rfl
    try simp only [Act.put, List.setIfInBounds_toArray, List.set_cons_zero, List.set_cons_succ]
    refine takeg (i := 15) (d := some 22) (v := ?_) (by kernel_rfl) (by kernel_rfl) (by kernel_rfl) (by kernel_rfl) (fun _ _ _ h => h) (by kernel_rfl) ?_ hH2 ?_
    rotate_left
    · intro w hSw
      try dsimp only at hSw
      go_simp
      try with_reducible rfl
    try simp only [Act.put, List.setIfInBounds_toArray, List.set_cons_zero, List.set_cons_succ]
    refine takeg (i := 16) (d := some 23) (v := ?_) (by kernel_rfl) (by kernel_rfl) (by kernel_rfl) (by kernel_rfl) (fun _ _ _ h => h) (by kernel_rfl) ?_ hH2 ?_
    rotate_left
    · intro w hSw
      try dsimp only at hSw
      go_simp
      try with_reducible rfl
    try simp only [Act.put, List.setIfInBounds_toArray, List.set_cons_zero, List.set_cons_succ]
    refine takeg (i := 17) (d := some 24) (v := ?_) (by kernel_rfl) (by kernel_rfl) (by kernel_rfl) (by kernel_rfl) (fun _ _ _ h => h) (by kernel_rfl) ?_ hH2 ?_
    rotate_left
    · intro w hSw
      try dsimp only at hSw
      go_simp
      try with_reducible rfl
    try simp only [Act.put, List.setIfInBounds_toArray, List.set_cons_zero, List.set_cons_succ]
    refine takeg (i := 18) (d := some 25) (v := ?_) (by kernel_rfl) (by kernel_rfl) (by kernel_rfl) (by kernel_rfl) (fun _ _ _ h => h) (by kernel_rfl) ?_ hH2 ?_
    rotate_left
    · intro w hSw
      try dsimp only at hSw
      go_simp
      try with_reducible rfl
    try simp only [Act.put, List.setIfInBounds_toArray, List.set_cons_zero, List.set_cons_succ]
    refine takeg (i := 19) (d := some 26) (v := ?_) (by kernel_rfl) (by kernel_rfl) (by kernel_rfl) (by kernel_rfl) (fun _ _ _ h => h) (by kernel_rfl) ?_ hH2 ?_
    rotate_left
    · intro w hSw
      try dsimp only at hSw
      go_simp
      try with_reducible rfl
    try simp only [Act.put, List.setIfInBounds_toArray, List.set_cons_zero, List.set_cons_succ]
    refine takeg (i := 20) (d := some 27) (v := ?_) (by kernel_rfl) (by kernel_rfl) (by kernel_rfl) (by kernel_rfl) (fun _ _ _ h => h) (by kernel_rfl) ?_ hH2 ?_
    rotate_left
    · intro w hSw
      try dsimp only at hSw
      go_simp
      try with_reducible rfl
    try simp only [Act.put, List.setIfInBounds_toArray, List.set_cons_zero, List.set_cons_succ]
    refine take_of (i := 21) (d := some 28) (op := .pick (.tmp 20) (.const (.bool true)) (.tmp 27)) (gd := none) (v := (.bool false)) (by kernel_rfl) (by kernel_rfl) (by kernel_rfl) (by kernel_rfl) (fun _ _ _ h => h) (by kernel_rfl) (run_pick_of (.tmp 20) (.const (.bool true)) (.tmp 27) false (.bool false) (by kernel_rfl) (by kernel_rfl)) hH2 ?_
    try simp only [Act.put, List.setIfInBounds_toArray, List.set_cons_zero, List.set_cons_succ]
    refine wpAnyH_done (by kernel_rfl) ?_ _
    clear l2 l10 rC
    have HB := Lib.hid (hA.trans (hH2.mono hA.size))
    have r2 := r2.below hH2
    have r3 := r3.below hH2
    have c10 : w6.cell? ⟨w.heap.size, 10, none⟩ = some (.int .i64 k) := (r1.below hH2).cell 10
    have q0 : w6.cell? ⟨w.heap.size + 1, 0, none⟩ = some (.int .i64 0) := r2.cell 0
    have f0 : w6.frozen? ⟨w.heap.size + 1, 0, none⟩ = false := r2.frozen 0
    have s0 : w6.cell? ⟨w.heap.size + 1 + 1, 0, none⟩ = some (.int .i64 st) := r3.cell 0
    have q1 : w6.cell? ⟨w.heap.size + 1, 1, none⟩ = some (.int .i64 0) := r2.cell 1
    have f1 : w6.frozen? ⟨w.heap.size + 1, 1, none⟩ = false := r2.frozen 1
    have s1 : w6.cell? ⟨w.heap.size + 1 + 1, 1, none⟩ = some (.int .i64 ow) := r3.cell 1
    have q2 : w6.cell? ⟨w.heap.size + 1, 2, none⟩ = some (.int .i64 0) := r2.cell 2
    have f2 : w6.frozen? ⟨w.heap.size + 1, 2, none⟩ = false := r2.frozen 2
    have s2 : w6.cell? ⟨w.heap.size + 1 + 1, 2, none⟩ = some (.int .i64 sm) := r3.cell 2
    have q3 : w6.cell? ⟨w.heap.size + 1, 3, none⟩ = some (.bool false) := r2.cell 3
    have f3 : w6.frozen? ⟨w.heap.size + 1, 3, none⟩ = false := r2.frozen 3
    have s3 : w6.cell? ⟨w.heap.size + 1 + 1, 3, none⟩ = some (.bool br) := r3.cell 3
    have q4 : w6.cell? ⟨w.heap.size + 1, 4, none⟩ = some (.bool false) := r2.cell 4
    have f4 : w6.frozen? ⟨w.heap.size + 1, 4, none⟩ = false := r2.frozen 4
    have s4 : w6.cell? ⟨w.heap.size + 1 + 1, 4, none⟩ = some (.bool ma) := r3.cell 4
    have q5 : w6.cell? ⟨w.heap.size + 1, 5, none⟩ = some (.int .i64 0) := r2.cell 5
    have f5 : w6.frozen? ⟨w.heap.size + 1, 5, none⟩ = false := r2.frozen 5
    have s5 : w6.cell? ⟨w.heap.size + 1 + 1, 5, none⟩ = some (.int .i64 us) := r3.cell 5
    have q6 : w6.cell? ⟨w.heap.size + 1, 6, none⟩ = some (.int .i64 0) := r2.cell 6
    have f6 : w6.frozen? ⟨w.heap.size + 1, 6, none⟩ = false := r2.frozen 6
    have s6 : w6.cell? ⟨w.heap.size + 1 + 1, 6, none⟩ = some (.int .i64 ge) := r3.cell 6
    have q7 : w6.cell? ⟨w.heap.size + 1, 7, none⟩ = some (.int .i64 0) := r2.cell 7
    have f7 : w6.frozen? ⟨w.heap.size + 1, 7, none⟩ = false := r2.frozen 7
    have s7 : w6.cell? ⟨w.heap.size + 1 + 1, 7, none⟩ = some (.int .i64 ep) := r3.cell 7
    have q8 : w6.cell? ⟨w.heap.size + 1, 8, none⟩ = some (.int .i64 0) := r2.cell 8
    have f8 : w6.frozen? ⟨w.heap.size + 1, 8, none⟩ = false := r2.frozen 8
    have s8 : w6.cell? ⟨w.heap.size + 1 + 1, 8, none⟩ = some (.int .i64 ve) := r3.cell 8
    have g2 : w6.frozen? ⟨w.heap.size + 1 + 1, 2, none⟩ = false := r3.frozen 2
    have R2 := Lib.hid r2
    clear r2 r3 r1 hHeld hH2 hA hKd hb6 hi
    go_wp2_with fail
    go_region
    go_wp2_with fail
    refine bodyPost_ret (results_row2 rfl _ _ (w.heap.size + 1) _ _ _ rfl ((((((((((setOther R2.out _ (by simp)).setc 0 _).setc 1 _).setc 2 _).setc 3 _).setc 4 _).setc 5 _).setc 6 _).setc 7 _).setc 8 _).drew Tryz.underlying59 rfl (by kernel_rfl)) rfl ?_
    refine ⟨by rw [HRES.out]; simp [S.val, S.cells], ?_⟩
    refine Below.drew ?_
    iterate 9 refine Below.setCell ?_ (by simp) _
    exact HB.out.setCell (by simp; omega) _
end Go.Proofs.YtpmkgddjgebojaaGreatDoor.Life

namespace Go.Proofs.YtpmkgddjgebojaaGreatDoor.Slot
set_option linter.unusedVariables false
set_option linter.unusedSimpArgs false
open Go.RowKit Hp Life

theorem right_iff (s : S) : s.right = true ↔ ((0 ≤ s.state ∧ s.state ≤ 6) ∧ (0 ≤ s.own ∧ s.own ≤ 15) ∧ (0 ≤ s.streams ∧ s.streams ≤ 255) ∧ (0 ≤ s.uses ∧ s.uses ≤ 63) ∧ (0 ≤ s.gen ∧ s.gen ≤ 4095) ∧ (0 ≤ s.epoch ∧ s.epoch ≤ 4095) ∧ (0 ≤ s.version ∧ s.version ≤ 32767)) ∧
    (s.state = 3 ∨ s.streams = 0) ∧ (s.state = 2 ∨ s.marked = false) ∧ ((s.state = 2 ∨ s.state = 3 ∨ s.state = 4) ∨ (s.broken = false ∧ s.uses = 0)) ∧ (s.state = 6 ∨ s.epoch = 0) ∧ ((s.state ≠ 0 ∧ s.state ≠ 6) ∨ s.own = 0) := by
  have m3 : (Field.mx 3 : Int) = 7 := rfl
  have m4 : (Field.mx 4 : Int) = 15 := rfl
  have m8 : (Field.mx 8 : Int) = 255 := rfl
  have m1 : (Field.mx 1 : Int) = 1 := rfl
  have m6 : (Field.mx 6 : Int) = 63 := rfl
  have m12 : (Field.mx 12 : Int) = 4095 := rfl
  have m15 : (Field.mx 15 : Int) = 32767 := rfl
  have hb : ∀ b, 0 ≤ bit b ∧ bit b ≤ 1 := fun b => by cases b <;> decide
  obtain ⟨st, ow, sm, br, ma, us, ge, ep, ve⟩ := s
  have hb1 := hb br
  have hb2 := hb ma
  simp only [S.right, S.bare, Field.packOk, fields9, S.nums, Bool.and_eq_true, decide_eq_true_eq, m3, m4, m8, m6, m12, m15, m1, S.mk.injEq, true_and, and_true]
  constructor
  · rintro ⟨h6, ⟨e1, e2, e3, e4, e5, e6⟩, h⟩
    refine ⟨by omega, ?_, ?_, ?_, ?_, ?_⟩
    · by_cases h3 : st = 3
      · exact .inl h3
      · rw [if_neg h3] at e2; exact .inr e2
    · by_cases h3 : st = 2
      · exact .inl h3
      · rw [if_neg h3] at e4; exact .inr e4
    · by_cases h3 : st = 2 ∨ st = 3 ∨ st = 4
      · exact .inl h3
      · rw [if_neg h3] at e3 e5; exact .inr ⟨e3, e5⟩
    · by_cases h3 : st = 6
      · exact .inl h3
      · rw [if_neg h3] at e6; exact .inr e6
    · by_cases h3 : st = 0 ∨ st = 6
      · rw [if_pos h3] at e1; exact .inr e1
      · exact .inl (by omega)
  · rintro ⟨h, a1, a2, a3, a4, a5⟩
    refine ⟨by omega, ⟨?_, ?_, ?_, ?_, ?_, ?_⟩, by omega⟩
    · by_cases h3 : st = 0 ∨ st = 6
      · rw [if_pos h3]; omega
      · rw [if_neg h3]
    · by_cases h3 : st = 3
      · rw [if_pos h3]
      · rw [if_neg h3]; omega
    · by_cases h3 : st = 2 ∨ st = 3 ∨ st = 4
      · rw [if_pos h3]
      · rw [if_neg h3]; rcases a3 with a3 | a3; exact absurd a3 h3; exact a3.1
    · by_cases h3 : st = 2
      · rw [if_pos h3]
      · rw [if_neg h3]; rcases a2 with a2 | a2; exact absurd a2 h3; exact a2
    · by_cases h3 : st = 2 ∨ st = 3 ∨ st = 4
      · rw [if_pos h3]
      · rw [if_neg h3]; rcases a3 with a3 | a3; exact absurd a3 h3; exact a3.2
    · by_cases h3 : st = 6
      · rw [if_pos h3]
      · rw [if_neg h3]; omega

def from0 (n m : Int) : Bool := decide (0 ≤ n ∧ n ≤ m)
set_option maxHeartbeats 400000 in
theorem from0_any (w : World) (n m : Int) : Calls Tryz.prog 106 #[.int .i64 n, .int .i64 m] w fun e w' => e = .returned (.bool (from0 n m)) ∧ w = w' := by
  go_enter Tryz.func106, Tryz.ntmps106
  by_cases h : 0 ≤ n
  · go_wp2
    go_ret
    exact ⟨Base.ret_bool (by simp [from0, h]), rfl⟩
  · go_wp2
    go_ret
    exact ⟨Base.ret_bool (by simp [from0]; omega), rfl⟩
end Go.Proofs.YtpmkgddjgebojaaGreatDoor.Slot
