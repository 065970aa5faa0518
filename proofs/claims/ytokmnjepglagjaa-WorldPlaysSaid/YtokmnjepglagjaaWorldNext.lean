/- Package world: New, Next, Ahead, Asked. -/
import Derived.Test.YtokmnjepglagjaaWorld
namespace Go.Proofs.Ytokmnjepglagjaa.World11
set_option linter.unusedVariables false
set_option linter.unusedSimpArgs false
open Go.RowKit Hp

set_option maxHeartbeats 400000 in
theorem new_any (w : World) : Calls Try.prog 8 #[] w fun e w' =>
    e = .returned (.pointer (some ⟨w.heap.size + 1, 0, none⟩)) ∧ WAt w' (w.heap.size + 1) w.heap.size (.slice none 0 0) [] 0 0 ∧ Below w.heap.size w w' := by
  go_enter Try.func8, Try.ntmps8
  go_wp2_with fail
  refine (RingBool.new_any _ _).mono ?_
  rintro e w' ⟨rfl, rfl⟩
  have hA := RingBool.at_new w 1000
  generalize hw1 : w.alloc (.cells #[.slice none 0 0, .int .i64 (RingBool.clamp 1000)] 50) = w1 at *
  have hs1 : w1.heap.size = w.heap.size + 1 := by rw [← hw1]; simp
  have hb1 : Below w.heap.size w w1 := by rw [← hw1]; exact (Below.refl _ _).alloc (Nat.le_refl _) _
  have Hs := Lib.hid hs1
  clear hw1 hs1
  go_wp2_with fail
  go_ret
  have hs1 := Hs.out
  have hC : RingBool.clamp 1000 = 1000 := by decide
  rw [hC] at hA
  refine ⟨by rw [hs1]; rfl, ?_, hb1.alloc (by omega) _⟩
  rw [← hs1]
  exact ⟨by simp, by simp, by simp, by simp, by simp, hA.chg (F := fun _ => False) ((Chg.refl _ _).alloc _) (fun _ _ h => h), fun hk => by
    rcases hk with hk | hk
    · omega
    · exact (fp_nil _ hk).elim⟩

set_option maxHeartbeats 800000 in
theorem next_none (w : World) (wb rb : Nat) (v : Value) (g b : Int) (h : WAt w wb rb v [] g b) (hg : 0 ≤ g ∧ g ≤ 1000000) :
    Calls Try.prog 10 #[.pointer (some ⟨wb, 0, none⟩)] w (Post w wb rb v (.bool true) [] (g + 1) b) := by
  obtain ⟨g0, g1⟩ := hg
  have h0 := h.c0
  have h1 := h.c1
  have h2 := h.f1
  go_enter Try.func10, Try.ntmps10
  go_wp2_with fail
  refine (RingBool.pop_none w rb v 1000 h.ring).mono ?_
  rintro e w' ⟨rfl, rfl⟩
  go_wp2_with fail
  go_ret
  exact ⟨rfl, v, h.good (g + 1), fun k hk => .inl hk, (Chg.refl _ _).setCell _ _ (fun _ => .inl rfl)⟩

set_option maxHeartbeats 800000 in
theorem next_good (w : World) (wb rb : Nat) (v : Value) (l : List Bool) (g b : Int) (h : WAt w wb rb v (true :: l) g b) (hg : 0 ≤ g ∧ g ≤ 1000000) :
    Calls Try.prog 10 #[.pointer (some ⟨wb, 0, none⟩)] w (Post w wb rb v (.bool true) l (g + 1) b) := by
  obtain ⟨g0, g1⟩ := hg
  have h0 := h.c0
  have hp := RingBool.pop_some w rb v true l 1000 h.ring
  go_enter Try.func10, Try.ntmps10
  go_wp2_with fail
  refine hp.mono ?_
  intro e w' hp'
  obtain ⟨rfl, v', hA, hF, hC⟩ := h.step hp'
  clear h0 hp' hp
  have h1 := hA.c1
  have h2 := hA.f1
  go_wp2_with fail
  go_ret
  exact ⟨rfl, v', hA.good (g + 1), hF, hC.setCell _ _ (fun _ => .inl rfl)⟩

set_option maxHeartbeats 800000 in
theorem next_bad (w : World) (wb rb : Nat) (v : Value) (l : List Bool) (g b : Int) (h : WAt w wb rb v (false :: l) g b) (hb : 0 ≤ b ∧ b ≤ 1000000) :
    Calls Try.prog 10 #[.pointer (some ⟨wb, 0, none⟩)] w (Post w wb rb v (.bool false) l g (b + 1)) := by
  obtain ⟨g0, g1⟩ := hb
  have h0 := h.c0
  have hp := RingBool.pop_some w rb v false l 1000 h.ring
  go_enter Try.func10, Try.ntmps10
  go_wp2_with fail
  refine hp.mono ?_
  intro e w' hp'
  obtain ⟨rfl, v', hA, hF, hC⟩ := h.step hp'
  clear h0 hp' hp
  have h1 := hA.c2
  have h2 := hA.f2
  go_wp2_with fail
  go_ret
  exact ⟨rfl, v', hA.bad (b + 1), hF, hC.setCell _ _ (fun _ => .inl rfl)⟩

set_option maxHeartbeats 800000 in
theorem asked_any (w : World) (wb rb : Nat) (v : Value) (l : List Bool) (g b : Int) (h : WAt w wb rb v l g b) :
    Calls Try.prog 15 #[.pointer (some ⟨wb, 0, none⟩)] w fun e w' => e = .returned (.tuple #[.int .i64 g, .int .i64 b]) ∧ w' = w.drew := by
  have h1 := h.c1
  have h2 := h.c2
  go_enter Try.func15, Try.ntmps15
  go_wp2
  go_region
  go_wp2
  go_ret2
  exact ⟨rfl, rfl⟩

set_option maxHeartbeats 800000 in
theorem ahead_any (w : World) (wb rb : Nat) (v : Value) (l : List Bool) (g b : Int) (h : WAt w wb rb v l g b) :
    Calls Try.prog 11 #[.pointer (some ⟨wb, 0, none⟩)] w (WorldAll.Fresh w (l.map RingBool.val)) := by
  have h0 := h.c0
  go_enter Try.func11, Try.ntmps11
  go_wp2_with fail
  refine (RingBool.all_any w rb).mono ?_
  rintro e w' ⟨rfl, rfl⟩
  have hA : RingBool.At (w.alloc (.cells #[.pointer (some ⟨rb, 0, none⟩)] 39)) rb v l 1000 := h.ring.chg (F := fun _ => False) ((Chg.refl _ _).alloc _) (fun _ _ h => h)
  have hS := WorldAll.collect_any _ w.heap.size rb v l 1000 hA (by simp)
  go_wp2_with fail
  refine hS.mono ?_
  rintro e w' ⟨a, c, rfl, h1, h2, h3⟩
  go_wp2_with fail
  go_ret
  exact ⟨a, c, by simp, h1, fun k hk => by have := h2 k hk; simp at this; omega, ((Below.refl _ _).alloc (Nat.le_refl _) _).trans (h3.mono (by simp))⟩
end Go.Proofs.Ytokmnjepglagjaa.World11
