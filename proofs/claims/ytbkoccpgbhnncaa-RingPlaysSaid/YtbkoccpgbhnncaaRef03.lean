/- The reference's line: New, Push, Pop, over the same words as package ring's. -/
import Derived.Test.YtbkoccpgbhnncaaRingKept
namespace Go.Proofs.Ytbkoccpgbhnncaa.Ref03
set_option linter.unusedVariables false
set_option linter.unusedSimpArgs false
open Go.RowKit Hp RingInt

set_option maxHeartbeats 400000 in
theorem new_any (w : World) (n : Int) : Calls Try.prog 22 #[.int .i64 n] w fun e w' =>
    e = .returned (.pointer (some ⟨w.heap.size, 0, none⟩)) ∧ w' = w.alloc (.cells #[.slice none 0 0, .int .i64 (clamp n)] 47) := by
  go_enter Try.func22, Try.ntmps22
  go_wp2
  all_goals go_ret
  all_goals (refine ⟨rfl, congrArg (fun k => w.alloc (.cells #[.slice none 0 0, .int .i64 k] 47)) ?_⟩; unfold clamp; omega)

set_option maxHeartbeats 400000 in
theorem push_no (w : World) (rb : Nat) (v : Value) (l : List El) (room : Int) (x : El) (h : At w rb v l room) (hf : room ≤ l.length) :
    Calls Try.prog 24 #[.pointer (some ⟨rb, 0, none⟩), val x] w (Post w rb v (.bool false) l room) := by
  obtain ⟨a, c, rfl⟩ := h.own.form
  have h0 := h.c0
  have h1 := h.c1
  have hl := h.own.len
  go_enter Try.func24, Try.ntmps24
  go_wp2
  go_region
  go_wp2
  go_ret
  exact ⟨rfl, _, h.drew, fun k hk => .inl hk, (Chg.refl _ _).drew⟩

set_option maxHeartbeats 1000000 in
theorem push_yes (w : World) (rb : Nat) (v : Value) (l : List El) (room : Int) (x : El) (h : At w rb v l room) (hf : l.length < room) :
    Calls Try.prog 24 #[.pointer (some ⟨rb, 0, none⟩), val x] w (Post w rb v (.bool true) (l ++ [x]) room) := by
  obtain ⟨a, c, rfl⟩ := h.own.form
  have h0 := h.c0
  have h1 := h.c1
  have hl := h.own.len
  have h2 := h.f0
  have h3 := h.r1
  have hlt : rb < w.heap.size := World.block_lt_of_cell? _ _ h.c0
  have hown : OwnS (w.drew.alloc (.cells #[val x] 3)) (.slice a l.length c) l.length 1 (l.map val) := h.own.drew.alloc _
  obtain ⟨i0, hi, hz0, hz1, hz2⟩ := info_parts info
  go_enter Try.func24, Try.ntmps24
  go_wp2
  go_region
  go_wp2_with (at_builtin; refine wpList_append _ rfl _ _ 22 rfl 3 i0 (.int .i64 0) 1 8 Try.underlying22 hi hz0 hz1 hz2 rfl (by decide) _ _ _ rfl hown ⟨w.heap.size, 0, none⟩ 1 1 [val x] rfl rfl ?c1 ?c2 ?c3 ?c4 ?_)
  case c1 => exact one_new _ _ _
  case c2 => simp [Value.oneCell']
  case c3 => unfold maxLen; omega
  case c4 => omega
  intro a' c' w' hown' hfp hch
  have hch' : Chg (Fp (.slice a l.length c)) w w' := Chg.trans ((Chg.refl _ w).drew.alloc _) hch (fun k _ hk => hk)
  have e0 : w'.cell? ⟨rb, 0, none⟩ = some (.slice a l.length c) := (hch'.cell hlt h.sep).trans h.c0
  have e1 : w'.cell? ⟨rb, 1, none⟩ = some (.int .i64 room) := (hch'.cell hlt h.sep).trans h.c1
  have e2 : w'.frozen? ⟨rb, 0, none⟩ = false := (hch'.frozen hlt h.sep).trans h.f0
  have hw1 : Chg (fp rb (.slice a l.length c)) w w' := hch'.mono fun k _ hk => .inr hk
  have hsz := hw1.size
  have hrb : ¬ Fp (.slice a' (l.length + 1) c') rb := fun hk => by
    rcases hfp rb hk with h' | h'
    · exact h.sep h'
    · first | omega | (simp at h'; omega)
  clear h0 h1 h2
  go_wp2
  go_ret
  refine ⟨rfl, _, ⟨World.cell?_setCell_same _ _ _ e0, ?_, by simp [e2], ?_, hrb, h.r0, h.r1, by simp; omega⟩, fun k hk => ?_, hw1.setCell _ _ (fun _ => .inl rfl)⟩
  · rw [World.cell?_setCell_other _ _ _ _ (by simp)]; exact e1
  · have := hown'.chg (F := fun k => k = rb) ((Chg.refl _ _).setCell ⟨rb, 0, none⟩ (.slice a' (l.length + 1) c') (fun _ => rfl)) (fun k hk e => hrb (e ▸ hk))
    simpa using this
  · rcases hfp k hk with h' | h'
    · exact .inl h'
    · exact .inr (by first | omega | (simp at h'; omega))

set_option maxHeartbeats 400000 in
theorem pop_none (w : World) (rb : Nat) (v : Value) (room : Int) (h : At w rb v [] room) :
    Calls Try.prog 23 #[.pointer (some ⟨rb, 0, none⟩)] w fun e w' => e = .returned (.tuple #[(.int .i64 0), .bool false]) ∧ w = w' := by
  obtain ⟨a, c, rfl⟩ := h.own.form
  have h0 := h.c0
  go_enter Try.func23, Try.ntmps23
  go_wp2
  go_ret2
  exact ⟨rfl, rfl⟩



theorem own_rest {w : World} {g off c : Nat} {x : Int} {r : List Int} (h : OwnS w (.slice (some ⟨g, off, none⟩) (r.length + 1) c) (r.length + 1) 1 ((x :: r).map val)) (h2 : c ≠ 1) :
    OwnS w (.slice (some ⟨g, off + 1, none⟩) r.length (c - 1)) r.length 1 (r.map val) := by
  obtain ⟨hl, h | ⟨g', off', c', e, h1, h3, h4, h5, h6, h7⟩⟩ := h
  · cases h.1
  · cases e
    refine ⟨by simp, .inr ⟨g, off + 1, c - 1, rfl, by omega, by omega, h4, fun j hj => ?_, fun j hj => ?_, fun j u hu => ?_⟩⟩
    · rw [show off + 1 + j = off + (j + 1) by omega]; exact h5 _ (by omega)
    · rw [show off + 1 + j = off + (j + 1) by omega]; exact h6 _ (by omega)
    · rw [show off + 1 + j = off + (j + 1) by omega]; exact h7 _ _ (by simpa using hu)

theorem own_zero {w : World} {g off c : Nat} {x : Int} (h : OwnS w (.slice (some ⟨g, off, none⟩) 1 1) 1 1 [val x]) : OwnS w (.slice (some ⟨g, off, none⟩) 0 0) 0 1 [] := by
  obtain ⟨hl, h | ⟨g', off', c', e, h1, h3, h4, h5, h6, h7⟩⟩ := h
  · cases h.1
  · cases e
    exact ⟨by simp, .inr ⟨g, off, 0, rfl, by omega, by omega, h4, fun j hj => by omega, fun j hj => by omega, fun j u hu => by simp at hu⟩⟩

set_option maxHeartbeats 1000000 in
theorem pop_some (w : World) (rb : Nat) (v : Value) (x : Int) (r : List Int) (room : Int) (h : At w rb v (x :: r) room) :
    Calls Try.prog 23 #[.pointer (some ⟨rb, 0, none⟩)] w (Post w rb v (.tuple #[val x, .bool true]) r room) := by
  have h0 := h.c0
  have h1 := h.c1
  have h2 := h.f0
  have h3 := h.r1
  have h4 := h.sep
  have h5 := h.own
  have h6 := h.fits
  obtain ⟨g, off, c, rfl, hc1, hc2, hg, hcell, hfrz, hval⟩ := h.own.some (by simp)
  simp only [List.length_cons] at hc1 h5 h6
  have hx : w.cell? ⟨g, off, none⟩ = some (val x) := hval 0 _ (by simp)
  rw [fp_some] at h4
  simp only at h4
  by_cases hcap : c = 1
  · subst hcap
    obtain rfl : r = [] := List.eq_nil_of_length_eq_zero (by omega)
    simp only [List.length_nil, Nat.zero_add] at *
    have hz := own_zero (c := 1) h5
    go_enter Try.func23, Try.ntmps23
    go_wp2
    go_ret2
    refine ⟨rfl, _, ⟨World.cell?_setCell_same _ _ _ h0, ?_, by simp [h2], ?_, ?_, h.r0, h.r1, by have := h.r0; simpa using this⟩, fun k hk => .inl ?_, (Chg.refl _ _).setCell _ _ (fun _ => .inl rfl)⟩
    · rw [World.cell?_setCell_other _ _ _ _ (by simp)]; exact h1
    · have := hz.chg (F := fun k => k = rb) ((Chg.refl _ _).setCell ⟨rb, 0, none⟩ (.slice (some ⟨g, off, none⟩) 0 0) (fun _ => rfl)) (fun k hk e => by rw [fp_some] at hk; simp at hk; omega)
      simpa using this
    · rw [fp_some]; simpa using h4
    · rw [fp_some] at hk ⊢; exact hk
  · have hot := own_rest h5 hcap
    simp only [List.length_cons] at *
    go_enter Try.func23, Try.ntmps23
    go_wp2
    go_ret2
    refine ⟨rfl, _, ⟨World.cell?_setCell_same _ _ _ h0, ?_, by simp [h2], ?_, ?_, h.r0, h.r1, by omega⟩, fun k hk => .inl ?_, (Chg.refl _ _).setCell _ _ (fun _ => .inl rfl)⟩
    · rw [World.cell?_setCell_other _ _ _ _ (by simp)]; exact h1
    · have := hot.chg (F := fun k => k = rb) ((Chg.refl _ _).setCell ⟨rb, 0, none⟩ (.slice (some ⟨g, off + 1, none⟩) r.length (c - 1)) (fun _ => rfl)) (fun k hk e => by rw [fp_some] at hk; simp at hk; omega)
      simpa using this
    · rw [fp_some]; simpa using h4
    · rw [fp_some] at hk ⊢; exact hk

end Go.Proofs.Ytbkoccpgbhnncaa.Ref03
