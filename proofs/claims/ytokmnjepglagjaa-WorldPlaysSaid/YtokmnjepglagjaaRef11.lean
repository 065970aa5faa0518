/- The reference's world: Feed, Next, over a line of which the place is known. -/
import Derived.Test.YtokmnjepglagjaaWorldLists
namespace Go.Proofs.Ytokmnjepglagjaa.Ref11
set_option linter.unusedVariables false
set_option linter.unusedSimpArgs false
open Go.RowKit Hp

abbrev fp (rb : Nat) (v : Value) (k : Nat) : Prop := RingBool.fp rb v k
abbrev val (x : Bool) : Value := .bool x

structure RAt (w : World) (rb : Nat) (v : Value) (l : List Bool) (g b : Int) : Prop where
  c0 : w.cell? ⟨rb, 0, none⟩ = some v
  c1 : w.cell? ⟨rb, 1, none⟩ = some (.int .i64 g)
  c2 : w.cell? ⟨rb, 2, none⟩ = some (.int .i64 b)
  f0 : w.frozen? ⟨rb, 0, none⟩ = false
  f1 : w.frozen? ⟨rb, 1, none⟩ = false
  f2 : w.frozen? ⟨rb, 2, none⟩ = false
  own : OwnS w v l.length 1 (l.map val)
  sep : ¬ Fp v rb

def RPost (w : World) (rb : Nat) (v : Value) (ans : Value) (l' : List Bool) (g' b' : Int) (e : Ending) (w' : World) : Prop :=
  e = .returned ans ∧ ∃ v', RAt w' rb v' l' g' b' ∧ (∀ k, Fp v' k → Fp v k ∨ w.heap.size ≤ k) ∧ Chg (fp rb v) w w'
section
variable {w w' : World} {rb : Nat} {v : Value} {l : List Bool} {g b : Int}
theorem RAt.lt (h : RAt w rb v l g b) {k : Nat} (hk : fp rb v k) : k < w.heap.size := by
  rcases hk with rfl | hk
  · exact World.block_lt_of_cell? _ _ h.c0
  · exact h.own.lt hk
theorem RAt.stable (h : RAt w rb v l g b) (hs : w.heap.size ≤ w'.heap.size) (hb : ∀ k, fp rb v k → w'.heap[k]? = w.heap[k]?) : RAt w' rb v l g b :=
  have hc : ∀ i : Nat, w'.cell? ⟨rb, i, none⟩ = w.cell? ⟨rb, i, none⟩ := fun i => World.cell?_of_block (w := w) (hb rb (.inl rfl))
  have hf : ∀ i : Nat, w'.frozen? ⟨rb, i, none⟩ = w.frozen? ⟨rb, i, none⟩ := fun i => World.frozen?_of_block (w := w) (hb rb (.inl rfl))
  ⟨(hc 0).trans h.c0, (hc 1).trans h.c1, (hc 2).trans h.c2, (hf 0).trans h.f0, (hf 1).trans h.f1, (hf 2).trans h.f2, h.own.stable hs fun k hk => hb k (.inr hk), h.sep⟩
theorem RAt.chg {F : Nat → Prop} (h : RAt w rb v l g b) (hc : Chg F w w') (hf : ∀ k, fp rb v k → ¬ F k) : RAt w' rb v l g b :=
  h.stable hc.size fun k hk => hc.block k (h.lt hk) (hf k hk)
theorem RAt.drew (h : RAt w rb v l g b) : RAt w.drew rb v l g b := h.stable (Nat.le_refl _) fun _ _ => rfl
theorem own_set {n : Nat} {xs : List Value} (h : OwnS w v n 1 xs) (hs : ¬ Fp v rb) (i : Nat) (u : Value) : OwnS (w.setCell ⟨rb, i, none⟩ u) v n 1 xs :=
  h.chg (F := fun k => k = rb) ((Chg.refl _ _).setCell _ _ (fun _ => rfl)) (fun k hk e => hs (e ▸ hk))
theorem RAt.good (h : RAt w rb v l g b) (g' : Int) : RAt (w.setCell ⟨rb, 1, none⟩ (.int .i64 g')) rb v l g' b :=
  ⟨by rw [World.cell?_setCell_other _ _ _ _ (by simp)]; exact h.c0, World.cell?_setCell_same _ _ _ h.c1, by rw [World.cell?_setCell_other _ _ _ _ (by simp)]; exact h.c2, by simp [h.f0], by simp [h.f1], by simp [h.f2], own_set h.own h.sep _ _, h.sep⟩
theorem RAt.bad (h : RAt w rb v l g b) (b' : Int) : RAt (w.setCell ⟨rb, 2, none⟩ (.int .i64 b')) rb v l g b' :=
  ⟨by rw [World.cell?_setCell_other _ _ _ _ (by simp)]; exact h.c0, by rw [World.cell?_setCell_other _ _ _ _ (by simp)]; exact h.c1, World.cell?_setCell_same _ _ _ h.c2, by simp [h.f0], by simp [h.f1], by simp [h.f2], own_set h.own h.sep _ _, h.sep⟩
theorem RAt.line (h : RAt w rb v l g b) {v' : Value} {l' : List Bool} (ho : OwnS w v' l'.length 1 (l'.map val)) (hs : ¬ Fp v' rb) : RAt (w.setCell ⟨rb, 0, none⟩ v') rb v' l' g b :=
  ⟨World.cell?_setCell_same _ _ _ h.c0, by rw [World.cell?_setCell_other _ _ _ _ (by simp)]; exact h.c1, by rw [World.cell?_setCell_other _ _ _ _ (by simp)]; exact h.c2, by simp [h.f0], by simp [h.f1], by simp [h.f2], own_set ho hs _ _, hs⟩
end

theorem own_rest {w : World} {g off c : Nat} {x : Bool} {r : List Bool} (h : OwnS w (.slice (some ⟨g, off, none⟩) (r.length + 1) c) (r.length + 1) 1 ((x :: r).map val)) (h2 : c ≠ 1) :
    OwnS w (.slice (some ⟨g, off + 1, none⟩) r.length (c - 1)) r.length 1 (r.map val) := by
  obtain ⟨hl, h | ⟨g', off', c', e, h1, h3, h4, h5, h6, h7⟩⟩ := h
  · cases h.1
  · cases e
    refine ⟨by simp, .inr ⟨g, off + 1, c - 1, rfl, by omega, by omega, h4, fun j hj => ?_, fun j hj => ?_, fun j u hu => ?_⟩⟩
    · rw [show off + 1 + j = off + (j + 1) by omega]; exact h5 _ (by omega)
    · rw [show off + 1 + j = off + (j + 1) by omega]; exact h6 _ (by omega)
    · rw [show off + 1 + j = off + (j + 1) by omega]; exact h7 _ _ (by simpa using hu)
theorem own_zero {w : World} {g off : Nat} {x : Bool} (h : OwnS w (.slice (some ⟨g, off, none⟩) 1 1) 1 1 [val x]) : OwnS w (.slice (some ⟨g, off, none⟩) 0 0) 0 1 [] := by
  obtain ⟨hl, h | ⟨g', off', c', e, h1, h3, h4, h5, h6, h7⟩⟩ := h
  · cases h.1
  · cases e
    exact ⟨by simp, .inr ⟨g, off, 0, rfl, by omega, by omega, h4, fun j hj => by omega, fun j hj => by omega, fun j u hu => by simp at hu⟩⟩

set_option maxHeartbeats 1000000 in
theorem feed_yes (w : World) (rb : Nat) (v : Value) (l : List Bool) (g b : Int) (x : Bool) (h : RAt w rb v l g b) (hf : l.length < 1000) :
    Calls Try.prog 13 #[.pointer (some ⟨rb, 0, none⟩), val x] w (RPost w rb v (.bool true) (l ++ [x]) g b) := by
  obtain ⟨a, c, rfl⟩ := h.own.form
  have h0 := h.c0
  have h2 := h.f0
  have hl := h.own.len
  have hlt : rb < w.heap.size := World.block_lt_of_cell? _ _ h.c0
  have hown : OwnS (w.alloc (.cells #[val x] 4)) (.slice a l.length c) l.length 1 (l.map val) := h.own.alloc _
  obtain ⟨i0, hi, hz0, hz1, hz2⟩ := info_parts RingBool.info
  have hf' : ¬ ((1000 : Int) ≤ (l.length : Int)) := by omega
  have Hf := Lib.hid hf
  clear hf
  go_enter Try.func13, Try.ntmps13
  go_wp2_with (at_builtin; refine wpList_append _ rfl _ _ 26 rfl 4 i0 (.bool false) 1 1 Try.underlying26 hi hz0 hz1 hz2 rfl (by decide) _ _ _ rfl hown ⟨w.heap.size, 0, none⟩ 1 1 [val x] rfl rfl ?c1 ?c2 ?c3 ?c4 ?_)
  all_goals try (case c1 => exact one_new _ _ _)
  case c2 => simp [Value.oneCell']
  case c3 => unfold maxLen; omega
  case c4 => omega
  intro a' c' w' hown' hfp hch
  have hch' : Chg (Fp (.slice a l.length c)) w w' := Chg.trans ((Chg.refl _ w).alloc _) hch (fun k _ hk => hk)
  have e0 : w'.cell? ⟨rb, 0, none⟩ = some (.slice a l.length c) := (hch'.cell hlt h.sep).trans h.c0
  have e1 : w'.cell? ⟨rb, 1, none⟩ = some (.int .i64 g) := (hch'.cell hlt h.sep).trans h.c1
  have e2 : w'.cell? ⟨rb, 2, none⟩ = some (.int .i64 b) := (hch'.cell hlt h.sep).trans h.c2
  have f0 : w'.frozen? ⟨rb, 0, none⟩ = false := (hch'.frozen hlt h.sep).trans h.f0
  have f1 : w'.frozen? ⟨rb, 1, none⟩ = false := (hch'.frozen hlt h.sep).trans h.f1
  have f2 : w'.frozen? ⟨rb, 2, none⟩ = false := (hch'.frozen hlt h.sep).trans h.f2
  have hw1 : Chg (fp rb (.slice a l.length c)) w w' := hch'.mono fun k _ hk => .inr hk
  have hrb : ¬ Fp (.slice a' (l.length + 1) c') rb := fun hk => by
    rcases hfp rb hk with h' | h'
    · exact h.sep h'
    · first | omega | (simp at h'; omega)
  clear h0 h2
  go_wp2
  go_ret
  refine ⟨rfl, _, ⟨World.cell?_setCell_same _ _ _ e0, ?_, ?_, by simp [f0], by simp [f1], by simp [f2], ?_, hrb⟩, fun k hk => ?_, hw1.setCell _ _ (fun _ => .inl rfl)⟩
  · rw [World.cell?_setCell_other _ _ _ _ (by simp)]; exact e1
  · rw [World.cell?_setCell_other _ _ _ _ (by simp)]; exact e2
  · have := own_set (rb := rb) hown' hrb 0 (.slice a' (l.length + 1) c')
    simpa using this
  · rcases hfp k hk with h' | h'
    · exact .inl h'
    · exact .inr (by first | omega | (simp at h'; omega))

set_option maxHeartbeats 800000 in
theorem next_none (w : World) (rb : Nat) (v : Value) (g b : Int) (h : RAt w rb v [] g b) (hg : 0 ≤ g ∧ g ≤ 1000000) :
    Calls Try.prog 14 #[.pointer (some ⟨rb, 0, none⟩)] w (RPost w rb v (.bool true) [] (g + 1) b) := by
  obtain ⟨g0, g1⟩ := hg
  obtain ⟨a, c, rfl⟩ := h.own.form
  have h0 := h.c0
  have h1 := h.c1
  have h2 := h.f1
  go_enter Try.func14, Try.ntmps14
  go_wp2
  go_ret
  exact ⟨rfl, _, h.good (g + 1), fun k hk => .inl hk, (Chg.refl _ _).setCell _ _ (fun _ => .inl rfl)⟩

theorem next_some (x : Bool) (w : World) (rb : Nat) (v : Value) (l : List Bool) (g b : Int) (h : RAt w rb v (x :: l) g b) (hg : 0 ≤ g ∧ g ≤ 1000000) (hb : 0 ≤ b ∧ b ≤ 1000000) :
    Calls Try.prog 14 #[.pointer (some ⟨rb, 0, none⟩)] w (RPost w rb v (.bool x) l (if x then g + 1 else g) (if x then b else b + 1)) := by
  obtain ⟨g0, g1⟩ := hg
  obtain ⟨b0, b1⟩ := hb
  have h0 := h.c0
  have h3 := h.f0
  have h5 := h.own
  have h6 := h.sep
  obtain ⟨gg, off, c, rfl, hc1, hc2, hgg, hcell, hfrz, hval⟩ := h.own.some (by simp)
  simp only [List.length_cons] at hc1 h5 h6 h0
  have hx : w.cell? ⟨gg, off, none⟩ = some (val x) := hval 0 _ (by simp)
  rw [fp_some] at h6
  simp only at h6
  have hl1 : l.length + 1 ≤ 9223372036854775807 := h5.len
  by_cases hcap : c = 1
  · subst hcap
    obtain rfl : l = [] := List.eq_nil_of_length_eq_zero (by omega)
    simp only [List.length_nil, Nat.zero_add] at *
    have hz := own_zero h5
    have hn : ¬ Fp (.slice (some ⟨gg, off, none⟩) 0 0) rb := by rw [fp_some]; exact h6
    have hL := h.line (l' := []) hz hn
    have k1 := hL.c1
    have k2 := hL.c2
    have k3 := hL.f1
    have k4 := hL.f2
    have hF : ∀ k, Fp (.slice (some ⟨gg, off, none⟩) 0 0) k → Fp (.slice (some ⟨gg, off, none⟩) 1 1) k := fun k hk => by rw [fp_some] at hk ⊢; exact hk
    clear hcell hfrz hval
    go_enter Try.func14, Try.ntmps14
    cases x
    · go_wp2
      go_ret
      exact ⟨rfl, _, hL.bad (b + 1), fun k hk => .inl (hF k hk), ((Chg.refl _ _).setCell _ _ (fun _ => .inl rfl)).setCell _ _ (fun _ => .inl rfl)⟩
    · go_wp2
      go_ret
      exact ⟨rfl, _, hL.good (g + 1), fun k hk => .inl (hF k hk), ((Chg.refl _ _).setCell _ _ (fun _ => .inl rfl)).setCell _ _ (fun _ => .inl rfl)⟩
  · have hot := own_rest h5 hcap
    have hn : ¬ Fp (.slice (some ⟨gg, off + 1, none⟩) l.length (c - 1)) rb := by rw [fp_some]; exact h6
    have hL := h.line hot hn
    simp only [List.length_cons] at *
    have k1 := hL.c1
    have k2 := hL.c2
    have k3 := hL.f1
    have k4 := hL.f2
    have hF : ∀ k, Fp (.slice (some ⟨gg, off + 1, none⟩) l.length (c - 1)) k → Fp (.slice (some ⟨gg, off, none⟩) (l.length + 1) c) k := fun k hk => by rw [fp_some] at hk ⊢; exact hk
    clear hcell hfrz hval
    go_enter Try.func14, Try.ntmps14
    cases x
    · go_wp2
      go_ret
      exact ⟨rfl, _, hL.bad (b + 1), fun k hk => .inl (hF k hk), ((Chg.refl _ _).setCell _ _ (fun _ => .inl rfl)).setCell _ _ (fun _ => .inl rfl)⟩
    · go_wp2
      go_ret
      exact ⟨rfl, _, hL.good (g + 1), fun k hk => .inl (hF k hk), ((Chg.refl _ _).setCell _ _ (fun _ => .inl rfl)).setCell _ _ (fun _ => .inl rfl)⟩
end Go.Proofs.Ytokmnjepglagjaa.Ref11
