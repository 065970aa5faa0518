/- The ring that a law has made, by contracts over its line alone. -/
import Derived.Test.YtbkoccpgbhnncaaRingAwake
namespace Go.Proofs.Ytbkoccpgbhnncaa.RingLaws
set_option linter.unusedVariables false
set_option linter.unusedSimpArgs false
open Go.RowKit Hp

/-- The law's own ring: its line, its room; nothing that was there before the law has changed. -/
def R (w : World) (rb : Nat) (l : List Int) (room : Int) (W : World) : Prop :=
  ∃ v, RingInt.At W rb v l room ∧ (∀ k, RingInt.fp rb v k → w.heap.size ≤ k) ∧ Below w.heap.size w W

theorem R.below {w : World} {rb : Nat} {l : List Int} {room : Int} {W : World} (h : R w rb l room W) : Below w.heap.size w W := h.elim fun _ h => h.2.2
theorem R.drewN {w : World} {rb : Nat} {l : List Int} {room : Int} {W : World} (h : R w rb l room W) (n : Nat) : R w rb l room (W.drewN n) := by
  obtain ⟨v, h1, h2, h3⟩ := h
  exact ⟨v, h1.stable (Nat.le_refl _) fun _ _ => rfl, h2, ⟨h3.os, h3.tape, h3.output, h3.size, h3.block⟩⟩
theorem R.drew {w : World} {rb : Nat} {l : List Int} {room : Int} {W : World} (h : R w rb l room W) : R w rb l room W.drew := h.drewN 1
theorem R.fits {w : World} {rb : Nat} {l : List Int} {room : Int} {W : World} (h : R w rb l room W) : (l.length : Int) ≤ room ∧ room ≤ 1000000 := by
  obtain ⟨v, h1, h2, h3⟩ := h
  exact ⟨h1.fits, h1.r1⟩

theorem R.new {w W : World} (hb : Below w.heap.size w W) (n : Int) :
    Calls Try.prog 10 #[.int .i64 n] W fun e W' => e = .returned (.pointer (some ⟨W.heap.size, 0, none⟩)) ∧ R w W.heap.size [] (RingInt.clamp n) W' := by
  refine (RingInt.new_any W n).mono ?_
  rintro e w1 ⟨rfl, rfl⟩
  refine ⟨rfl, _, RingInt.at_new W n, fun k hk => ?_, hb.alloc hb.size _⟩
  rcases hk with rfl | hk
  · exact hb.size
  · exact (fp_nil _ hk).elim

theorem R.chg {w W W' : World} {rb : Nat} {l : List Int} {v : Value} {e : Ending} {ans : Value} {room : Int} (hf : ∀ k, RingInt.fp rb v k → w.heap.size ≤ k) (hb : Below w.heap.size w W)
    (h : RingInt.Post W rb v ans l room e W') : e = .returned ans ∧ R w rb l room W' := by
  obtain ⟨rfl, v', h1, h2, h3⟩ := h
  exact ⟨rfl, v', h1, fp_new _ _ h2 hf hb.size, hb.trans (h3.below hb.size hf)⟩

theorem R.push_yes {w W : World} {rb : Nat} {l : List Int} {room : Int} (h : R w rb l room W) (x : Int) (hl : (l.length : Int) < room) :
    Calls Try.prog 11 #[.pointer (some ⟨rb, 0, none⟩), .int .i64 x] W fun e W' => e = .returned (.bool true) ∧ R w rb (l ++ [x]) room W' := by
  obtain ⟨v, h1, h2, h3⟩ := h
  exact (RingInt.push_yes W rb v l room x h1 hl).mono fun e W' hp => R.chg h2 h3 hp
theorem R.push_no {w W : World} {rb : Nat} {l : List Int} {room : Int} (h : R w rb l room W) (x : Int) (hl : room ≤ l.length) :
    Calls Try.prog 11 #[.pointer (some ⟨rb, 0, none⟩), .int .i64 x] W fun e W' => e = .returned (.bool false) ∧ R w rb l room W' := by
  obtain ⟨v, h1, h2, h3⟩ := h
  exact (RingInt.push_no W rb v l room x h1 hl).mono fun e W' hp => R.chg h2 h3 hp
theorem R.pop_some {w W : World} {rb : Nat} {x : Int} {l : List Int} {room : Int} (h : R w rb (x :: l) room W) :
    Calls Try.prog 12 #[.pointer (some ⟨rb, 0, none⟩)] W fun e W' => e = .returned (.tuple #[.int .i64 x, .bool true]) ∧ R w rb l room W' := by
  obtain ⟨v, h1, h2, h3⟩ := h
  exact (RingInt.pop_some W rb v x l room h1).mono fun e W' hp => R.chg h2 h3 hp
theorem R.pop_none {w W : World} {rb : Nat} {room : Int} (h : R w rb [] room W) :
    Calls Try.prog 12 #[.pointer (some ⟨rb, 0, none⟩)] W fun e W' => e = .returned (.tuple #[.int .i64 0, .bool false]) ∧ R w rb [] room W' := by
  obtain ⟨v, h1, h2, h3⟩ := h
  exact (RingInt.pop_none W rb v room h1).mono fun e W' ⟨he, hw⟩ => ⟨he, hw ▸ ⟨v, h1, h2, h3⟩⟩
theorem R.len {w W : World} {rb : Nat} {l : List Int} {room : Int} (h : R w rb l room W) :
    Calls Try.prog 13 #[.pointer (some ⟨rb, 0, none⟩)] W fun e W' => e = .returned (.int .i64 l.length) ∧ W = W' := by
  obtain ⟨v, h1, h2, h3⟩ := h
  exact RingInt.len_any W rb v l room h1
theorem R.room {w W : World} {rb : Nat} {l : List Int} {room : Int} (h : R w rb l room W) :
    Calls Try.prog 14 #[.pointer (some ⟨rb, 0, none⟩)] W fun e W' => e = .returned (.int .i64 room) ∧ W = W' := by
  obtain ⟨v, h1, h2, h3⟩ := h
  exact RingInt.room_any W rb v l room h1

/-- What 'all' hands back, and that the ring is as it was. -/
def Told (w W : World) (rb : Nat) (l : List Int) (room : Int) (xs : List Int) (e : Ending) (W' : World) : Prop :=
  ∃ a c, e = .returned (.slice a xs.length c) ∧ SliceAt W' (.slice a xs.length c) (xs.map (Value.int .i64)) ∧ xs.length ≤ c ∧ (∀ k, Fp (.slice a xs.length c) k → w.heap.size ≤ k) ∧ R w rb l room W' ∧ Below W.heap.size W W'
theorem R.all {w W : World} {rb : Nat} {l : List Int} {room : Int} (h : R w rb l room W) (lim : Nat) (hl : lim ≤ 1000) :
    Calls Try.prog 25 #[.pointer (some ⟨rb, 0, none⟩), .int .i64 lim] W (Told w W rb l room (l.take lim)) := by
  obtain ⟨v, h1, h2, h3⟩ := h
  refine (all_any W rb v l room lim h1 hl).mono ?_
  rintro e W' ⟨a, c, he, ho, hf, hb⟩
  have hlen : ((l.take lim).map RingInt.val).length = (l.take lim).length := by simp
  rw [hlen] at he ho hf
  refine ⟨a, c, he, ho.at, ?_, fun k hk => Nat.le_trans h3.size (hf k hk), ⟨v, h1.stable hb.size fun k hk => hb.block k (h1.lt hk), h2, h3.trans (hb.mono h3.size)⟩, hb⟩
  rcases ho.2 with ⟨h5, h6⟩ | ⟨g, off, cap, h5, h6, _⟩
  · omega
  · injection h5 with _ _ h7; omega
end Go.Proofs.Ytbkoccpgbhnncaa.RingLaws
