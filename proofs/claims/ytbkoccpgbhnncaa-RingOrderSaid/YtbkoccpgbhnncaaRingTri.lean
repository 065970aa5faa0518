/- A ring and two lists of its own, side by side, that a law has made. -/
import Derived.Test.YtbkoccpgbhnncaaRingKept
import Derived.Test.YtbkoccpgbhnncaaRef01
namespace Go.Proofs.Ytbkoccpgbhnncaa.RingLaws
set_option linter.unusedVariables false
set_option linter.unusedSimpArgs false
open Go.RowKit Hp

structure TriAt (w : World) (rb : Nat) (v vi vo : Value) (il ol l : List Int) (room : Int) (W : World) : Prop where
  ring : RingInt.At W rb v l room
  ins : OwnS W vi il.length 1 (il.map (Value.int .i64))
  outs : OwnS W vo ol.length 1 (ol.map (Value.int .i64))
  s1 : ∀ k, RingInt.fp rb v k → ¬ Fp vi k
  s2 : ∀ k, RingInt.fp rb v k → ¬ Fp vo k
  s3 : ∀ k, Fp vi k → ¬ Fp vo k
  g1 : ∀ k, RingInt.fp rb v k → w.heap.size ≤ k
  g2 : ∀ k, Fp vi k → w.heap.size ≤ k
  g3 : ∀ k, Fp vo k → w.heap.size ≤ k
  bel : Below w.heap.size w W

def Tri (w : World) (rb : Nat) (vi vo : Value) (il ol l : List Int) (room : Int) (W : World) : Prop := ∃ v, TriAt w rb v vi vo il ol l room W

section
variable {w : World} {rb : Nat} {v vi vo : Value} {il ol l : List Int} {room : Int} {W : World}
theorem Tri.below (h : Tri w rb vi vo il ol l room W) : Below w.heap.size w W := h.elim fun _ h => h.bel
theorem Tri.drewN (h : Tri w rb vi vo il ol l room W) (n : Nat) : Tri w rb vi vo il ol l room (W.drewN n) := by
  obtain ⟨v, h⟩ := h
  exact ⟨v, h.ring.stable (Nat.le_refl _) fun _ _ => rfl, h.ins.stable (Nat.le_refl _) fun _ _ => rfl, h.outs.stable (Nat.le_refl _) fun _ _ => rfl, h.s1, h.s2, h.s3, h.g1, h.g2, h.g3, ⟨h.bel.os, h.bel.tape, h.bel.output, h.bel.size, h.bel.block⟩⟩
theorem Tri.alloc (h : Tri w rb vi vo il ol l room W) (o : Obj) : Tri w rb vi vo il ol l room (W.alloc o) := by
  obtain ⟨v, h⟩ := h
  exact ⟨v, h.ring.chg (F := fun _ => False) ((Chg.refl _ _).alloc o) (fun _ _ => id), h.ins.alloc o, h.outs.alloc o, h.s1, h.s2, h.s3, h.g1, h.g2, h.g3, h.bel.alloc h.bel.size o⟩
theorem TriAt.swap (h : TriAt w rb v vi vo il ol l room W) : TriAt w rb v vo vi ol il l room W :=
  ⟨h.ring, h.outs, h.ins, h.s2, h.s1, fun k a b => h.s3 k b a, h.g1, h.g3, h.g2, h.bel⟩
theorem TriAt.step (h : TriAt w rb v vi vo il ol l room W) {ans : Value} {l' : List Int} {e : Ending} {W' : World} (hp : RingInt.Post W rb v ans l' room e W') : e = .returned ans ∧ Tri w rb vi vo il ol l' room W' := by
  obtain ⟨rfl, v1, q1, q2, q3⟩ := hp
  have hlt : ∀ u, (∀ k, Fp u k → k < W.heap.size) → (∀ k, RingInt.fp rb v k → ¬ Fp u k) → ∀ k, RingInt.fp rb v1 k → ¬ Fp u k := by
    intro u h1 h2 k hk hu
    rcases hk with rfl | hk
    · exact h2 _ (.inl rfl) hu
    · rcases q2 k hk with h' | h'
      · exact h2 k (.inr h') hu
      · have := h1 k hu; omega
  exact ⟨rfl, v1, q1, h.ins.chg q3 (fun k a b => h.s1 k b a), h.outs.chg q3 (fun k a b => h.s2 k b a), hlt vi (fun k => h.ins.lt) h.s1, hlt vo (fun k => h.outs.lt) h.s2, h.s3, fp_new _ _ q2 h.g1 h.bel.size, h.g2, h.g3, h.bel.trans (q3.below h.bel.size h.g1)⟩
theorem TriAt.app (h : TriAt w rb v vi vo il ol l room W) {x : Int} {v' : Value} {W' : World} (h1 : OwnS W' v' (il.length + 1) 1 (il.map (Value.int .i64) ++ [.int .i64 x])) (h2 : ∀ k, Fp v' k → Fp vi k ∨ W.heap.size ≤ k)
    (h3 : Chg (Fp vi) W W') : TriAt w rb v v' vo (il ++ [x]) ol l room W' :=
  ⟨h.ring.chg h3 (fun k a b => h.s1 k a b), by simpa using h1, h.outs.chg h3 (fun k a b => h.s3 k b a), fun k a b => by
    rcases h2 k b with h' | h'
    · exact h.s1 k a h'
    · have := h.ring.lt a; omega, h.s2, fun k a b => by
    rcases h2 k a with h' | h'
    · exact h.s3 k h' b
    · have := h.outs.lt b; omega, h.g1, fun k a => by
    rcases h2 k a with h' | h'
    · exact h.g2 k h'
    · have := h.bel.size; omega, h.g3, h.bel.trans (h3.below h.bel.size h.g2)⟩
theorem Tri.app_in (h : Tri w rb vi vo il ol l room W) {x : Int} {v' : Value} {W' : World} (h1 : OwnS W' v' (il.length + 1) 1 (il.map (Value.int .i64) ++ [.int .i64 x])) (h2 : ∀ k, Fp v' k → Fp vi k ∨ W.heap.size ≤ k)
    (h3 : Chg (Fp vi) W W') : Tri w rb v' vo (il ++ [x]) ol l room W' := h.elim fun v h => ⟨v, h.app h1 h2 h3⟩
theorem Tri.app_out (h : Tri w rb vi vo il ol l room W) {x : Int} {v' : Value} {W' : World} (h1 : OwnS W' v' (ol.length + 1) 1 (ol.map (Value.int .i64) ++ [.int .i64 x])) (h2 : ∀ k, Fp v' k → Fp vo k ∨ W.heap.size ≤ k)
    (h3 : Chg (Fp vo) W W') : Tri w rb vi v' il (ol ++ [x]) l room W' := h.elim fun v h => ⟨v, (h.swap.app h1 h2 h3).swap⟩
theorem Tri.in_own (h : Tri w rb vi vo il ol l room W) : OwnS W vi il.length 1 (il.map (Value.int .i64)) := h.elim fun v h => h.ins
theorem Tri.out_own (h : Tri w rb vi vo il ol l room W) : OwnS W vo ol.length 1 (ol.map (Value.int .i64)) := h.elim fun v h => h.outs
theorem Tri.fits (h : Tri w rb vi vo il ol l room W) : (l.length : Int) ≤ room ∧ room ≤ 1000000 := h.elim fun v h => ⟨h.ring.fits, h.ring.r1⟩
theorem Tri.push_yes (h : Tri w rb vi vo il ol l room W) (x : Int) (hl : (l.length : Int) < room) : Calls Try.prog 11 #[.pointer (some ⟨rb, 0, none⟩), .int .i64 x] W fun e W' => e = .returned (.bool true) ∧ Tri w rb vi vo il ol (l ++ [x]) room W' := by
  obtain ⟨v, h⟩ := h
  exact (RingInt.push_yes W rb v l room x h.ring hl).mono fun e W' hp => h.step hp
theorem Tri.push_no (h : Tri w rb vi vo il ol l room W) (x : Int) (hl : room ≤ (l.length : Int)) : Calls Try.prog 11 #[.pointer (some ⟨rb, 0, none⟩), .int .i64 x] W fun e W' => e = .returned (.bool false) ∧ Tri w rb vi vo il ol l room W' := by
  obtain ⟨v, h⟩ := h
  exact (RingInt.push_no W rb v l room x h.ring hl).mono fun e W' hp => h.step hp
theorem Tri.pop_some {x : Int} (h : Tri w rb vi vo il ol (x :: l) room W) : Calls Try.prog 12 #[.pointer (some ⟨rb, 0, none⟩)] W fun e W' => e = .returned (.tuple #[.int .i64 x, .bool true]) ∧ Tri w rb vi vo il ol l room W' := by
  obtain ⟨v, h⟩ := h
  exact (RingInt.pop_some W rb v x l room h.ring).mono fun e W' hp => h.step hp
theorem Tri.pop_none (h : Tri w rb vi vo il ol [] room W) : Calls Try.prog 12 #[.pointer (some ⟨rb, 0, none⟩)] W fun e W' => e = .returned (.tuple #[.int .i64 0, .bool false]) ∧ Tri w rb vi vo il ol [] room W' := by
  have h0 := h
  obtain ⟨v, h⟩ := h
  exact (RingInt.pop_none W rb v room h.ring).mono fun e W' ⟨he, hw⟩ => ⟨he, hw ▸ h0⟩
theorem Tri.len (h : Tri w rb vi vo il ol l room W) : Calls Try.prog 13 #[.pointer (some ⟨rb, 0, none⟩)] W fun e W' => e = .returned (.int .i64 l.length) ∧ W = W' := by
  obtain ⟨v, h⟩ := h
  exact RingInt.len_any W rb v l room h.ring
theorem Tri.roomy (h : Tri w rb vi vo il ol l room W) : Calls Try.prog 14 #[.pointer (some ⟨rb, 0, none⟩)] W fun e W' => e = .returned (.int .i64 room) ∧ W = W' := by
  obtain ⟨v, h⟩ := h
  exact RingInt.room_any W rb v l room h.ring
end
theorem Tri.new {w W : World} (hb : Below w.heap.size w W) (n : Int) :
    Calls Try.prog 10 #[.int .i64 n] W fun e W' => e = .returned (.pointer (some ⟨W.heap.size, 0, none⟩)) ∧ Tri w W.heap.size (.slice none 0 0) (.slice none 0 0) [] [] [] (RingInt.clamp n) W' := by
  refine (RingInt.new_any W n).mono ?_
  rintro e w1 ⟨rfl, rfl⟩
  refine ⟨rfl, _, RingInt.at_new W n, ownS_nil _ _, ownS_nil _ _, fun k _ => fp_nil k, fun k _ => fp_nil k, fun k _ => fp_nil k, fun k hk => ?_, fun k hk => (fp_nil _ hk).elim, fun k hk => (fp_nil _ hk).elim, hb.alloc hb.size _⟩
  rcases hk with rfl | hk
  · exact hb.size
  · exact (fp_nil _ hk).elim
end Go.Proofs.Ytbkoccpgbhnncaa.RingLaws
