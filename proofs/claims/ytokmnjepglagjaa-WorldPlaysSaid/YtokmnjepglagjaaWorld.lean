/- Package world over a world of which the places are known. -/
import Derived.Test.YtokmnjepglagjaaWorldAll
namespace Go.Proofs.Ytokmnjepglagjaa.World11
set_option linter.unusedVariables false
set_option linter.unusedSimpArgs false
open Go.RowKit Hp

def wfp (wb rb : Nat) (v : Value) (k : Nat) : Prop := k = wb ∨ RingBool.fp rb v k

structure WAt (w : World) (wb rb : Nat) (v : Value) (l : List Bool) (g b : Int) : Prop where
  c0 : w.cell? ⟨wb, 0, none⟩ = some (.pointer (some ⟨rb, 0, none⟩))
  c1 : w.cell? ⟨wb, 1, none⟩ = some (.int .i64 g)
  c2 : w.cell? ⟨wb, 2, none⟩ = some (.int .i64 b)
  f1 : w.frozen? ⟨wb, 1, none⟩ = false
  f2 : w.frozen? ⟨wb, 2, none⟩ = false
  ring : RingBool.At w rb v l 1000
  sep : ¬ RingBool.fp rb v wb

theorem WAt.lt {w : World} {wb rb : Nat} {v : Value} {l : List Bool} {g b : Int} (h : WAt w wb rb v l g b) {k : Nat} (hk : wfp wb rb v k) : k < w.heap.size := by
  rcases hk with rfl | hk
  · exact World.block_lt_of_cell? _ _ h.c0
  · exact h.ring.lt hk
theorem WAt.stable {w w' : World} {wb rb : Nat} {v : Value} {l : List Bool} {g b : Int} (h : WAt w wb rb v l g b) (hs : w.heap.size ≤ w'.heap.size) (hb : ∀ k, wfp wb rb v k → w'.heap[k]? = w.heap[k]?) : WAt w' wb rb v l g b :=
  ⟨(World.cell?_of_block (w := w) (hb wb (.inl rfl))).trans h.c0, (World.cell?_of_block (w := w) (hb wb (.inl rfl))).trans h.c1, (World.cell?_of_block (w := w) (hb wb (.inl rfl))).trans h.c2,
    (World.frozen?_of_block (w := w) (hb wb (.inl rfl))).trans h.f1, (World.frozen?_of_block (w := w) (hb wb (.inl rfl))).trans h.f2, h.ring.stable hs fun k hk => hb k (.inr hk), h.sep⟩
theorem WAt.chg {F : Nat → Prop} {w w' : World} {wb rb : Nat} {v : Value} {l : List Bool} {g b : Int} (h : WAt w wb rb v l g b) (hc : Chg F w w') (hf : ∀ k, wfp wb rb v k → ¬ F k) : WAt w' wb rb v l g b :=
  h.stable hc.size fun k hk => hc.block k (h.lt hk) (hf k hk)
theorem WAt.below {w w' : World} {wb rb : Nat} {v : Value} {l : List Bool} {g b : Int} (h : WAt w wb rb v l g b) (hc : Below w.heap.size w w') : WAt w' wb rb v l g b :=
  h.stable hc.size fun k hk => hc.block k (h.lt hk)

/-- What stands behind a step. -/
def Post (w : World) (wb rb : Nat) (v : Value) (ans : Value) (l' : List Bool) (g' b' : Int) (e : Ending) (w' : World) : Prop :=
  e = .returned ans ∧ ∃ v', WAt w' wb rb v' l' g' b' ∧ (∀ k, Fp v' k → Fp v k ∨ w.heap.size ≤ k) ∧ Chg (wfp wb rb v) w w'

theorem WAt.step {w w' : World} {wb rb : Nat} {v ans : Value} {l l' : List Bool} {g b : Int} {e : Ending} (h : WAt w wb rb v l g b) (hp : RingBool.Post w rb v ans l' 1000 e w') : Post w wb rb v ans l' g b e w' := by
  obtain ⟨rfl, v', h1, h2, h3⟩ := hp
  have hlt := World.block_lt_of_cell? _ _ h.c0
  have hb := h3.block wb hlt h.sep
  refine ⟨rfl, v', ⟨(World.cell?_of_block (w := w) hb).trans h.c0, (World.cell?_of_block (w := w) hb).trans h.c1, (World.cell?_of_block (w := w) hb).trans h.c2, (World.frozen?_of_block (w := w) hb).trans h.f1, (World.frozen?_of_block (w := w) hb).trans h.f2, h1, fun hk => ?_⟩, h2, h3.mono fun k _ hk => .inr hk⟩
  rcases hk with e | hk
  · exact h.sep (.inl e)
  · rcases h2 _ hk with h' | h'
    · exact h.sep (.inr h')
    · simp at hlt; omega

theorem WAt.good {w : World} {wb rb : Nat} {v : Value} {l : List Bool} {g b : Int} (h : WAt w wb rb v l g b) (g' : Int) : WAt (w.setCell ⟨wb, 1, none⟩ (.int .i64 g')) wb rb v l g' b := by
  refine ⟨by rw [World.cell?_setCell_other _ _ _ _ (by simp)]; exact h.c0, World.cell?_setCell_same _ _ _ h.c1, by rw [World.cell?_setCell_other _ _ _ _ (by simp)]; exact h.c2, by simp [h.f1], by simp [h.f2],
    h.ring.chg (F := fun k => k = wb) ((Chg.refl _ _).setCell _ _ (fun _ => rfl)) (fun k hk e => h.sep (e ▸ hk)), h.sep⟩
theorem WAt.bad {w : World} {wb rb : Nat} {v : Value} {l : List Bool} {g b : Int} (h : WAt w wb rb v l g b) (b' : Int) : WAt (w.setCell ⟨wb, 2, none⟩ (.int .i64 b')) wb rb v l g b' := by
  refine ⟨by rw [World.cell?_setCell_other _ _ _ _ (by simp)]; exact h.c0, by rw [World.cell?_setCell_other _ _ _ _ (by simp)]; exact h.c1, World.cell?_setCell_same _ _ _ h.c2, by simp [h.f1], by simp [h.f2],
    h.ring.chg (F := fun k => k = wb) ((Chg.refl _ _).setCell _ _ (fun _ => rfl)) (fun k hk e => h.sep (e ▸ hk)), h.sep⟩

set_option maxHeartbeats 400000 in
theorem feed_no (w : World) (wb rb : Nat) (v : Value) (l : List Bool) (g b : Int) (x : Bool) (h : WAt w wb rb v l g b) (hf : 1000 ≤ l.length) :
    Calls Try.prog 9 #[.pointer (some ⟨wb, 0, none⟩), .bool x] w (Post w wb rb v (.bool false) l g b) := by
  have h0 := h.c0
  have hp := RingBool.push_no w rb v l 1000 x h.ring (by omega)
  go_enter Try.func9, Try.ntmps9
  go_wp2_with fail
  refine hp.mono ?_
  intro e w' hp'
  obtain ⟨rfl, hq⟩ := h.step hp'
  go_wp2_with fail
  go_ret
  exact ⟨rfl, hq⟩

set_option maxHeartbeats 400000 in
theorem feed_yes (w : World) (wb rb : Nat) (v : Value) (l : List Bool) (g b : Int) (x : Bool) (h : WAt w wb rb v l g b) (hf : l.length < 1000) :
    Calls Try.prog 9 #[.pointer (some ⟨wb, 0, none⟩), .bool x] w (Post w wb rb v (.bool true) (l ++ [x]) g b) := by
  have h0 := h.c0
  have hp := RingBool.push_yes w rb v l 1000 x h.ring (by omega)
  go_enter Try.func9, Try.ntmps9
  go_wp2_with fail
  refine hp.mono ?_
  intro e w' hp'
  obtain ⟨rfl, hq⟩ := h.step hp'
  go_wp2_with fail
  go_ret
  exact ⟨rfl, hq⟩
end Go.Proofs.Ytokmnjepglagjaa.World11
