/- Package ring at one element type: New, Push, Pop, Len, Room over a line of which the place is known. */
-/
import Derived.Test.YtokmnjepglagjaaOwn
import Derived.Test.YtokmnjepglagjaaBase
import Derived.Lib.Hide
namespace Go.Proofs.Ytokmnjepglagjaa.RingBool
set_option linter.unusedVariables false
set_option linter.unusedSimpArgs false
open Go.RowKit Hp

abbrev El := Bool
abbrev val (x : El) : Value := .bool x
def fp (rb : Nat) (v : Value) (k : Nat) : Prop := k = rb ∨ Fp v k

structure At (w : World) (rb : Nat) (v : Value) (l : List El) (room : Int) : Prop where
  c0 : w.cell? ⟨rb, 0, none⟩ = some v
  c1 : w.cell? ⟨rb, 1, none⟩ = some (.int .i64 room)
  f0 : w.frozen? ⟨rb, 0, none⟩ = false
  own : OwnS w v l.length 1 (l.map val)
  sep : ¬ Fp v rb
  r0 : 0 ≤ room
  r1 : room ≤ 1000000
  fits : (l.length : Int) ≤ room

theorem At.lt {w : World} {rb : Nat} {v : Value} {l : List El} {room : Int} (h : At w rb v l room) {k : Nat} (hk : fp rb v k) : k < w.heap.size := by
  rcases hk with rfl | hk
  · exact World.block_lt_of_cell? _ _ h.c0
  · exact h.own.lt hk
theorem At.stable {w w' : World} {rb : Nat} {v : Value} {l : List El} {room : Int} (h : At w rb v l room) (hs : w.heap.size ≤ w'.heap.size) (hb : ∀ k, fp rb v k → w'.heap[k]? = w.heap[k]?) : At w' rb v l room :=
  ⟨(World.cell?_of_block (w := w) (hb rb (.inl rfl))).trans h.c0, (World.cell?_of_block (w := w) (hb rb (.inl rfl))).trans h.c1, (World.frozen?_of_block (w := w) (hb rb (.inl rfl))).trans h.f0,
    h.own.stable hs fun k hk => hb k (.inr hk), h.sep, h.r0, h.r1, h.fits⟩
theorem At.chg {F : Nat → Prop} {w w' : World} {rb : Nat} {v : Value} {l : List El} {room : Int} (h : At w rb v l room) (hc : Chg F w w') (hf : ∀ k, fp rb v k → ¬ F k) : At w' rb v l room :=
  h.stable hc.size fun k hk => hc.block k (h.lt hk) (hf k hk)
theorem At.drew {w : World} {rb : Nat} {v : Value} {l : List El} {room : Int} (h : At w rb v l room) : At w.drew rb v l room := h.stable (Nat.le_refl _) fun _ _ => rfl

/-- What stands behind a step: the answer, the line, what of memory is touched. -/
def Post (w : World) (rb : Nat) (v : Value) (ans : Value) (l' : List El) (room : Int) (e : Ending) (w' : World) : Prop :=
  e = .returned ans ∧ ∃ v', At w' rb v' l' room ∧ (∀ k, Fp v' k → Fp v k ∨ w.heap.size ≤ k) ∧ Chg (fp rb v) w w'

def clamp (n : Int) : Int := min (max n 0) 1000000
theorem clamp_bd (n : Int) : 0 ≤ clamp n ∧ clamp n ≤ 1000000 := by unfold clamp; omega

set_option maxHeartbeats 400000 in
theorem new_any (w : World) (n : Int) : Calls Try.prog 16 #[.int .i64 n] w fun e w' =>
    e = .returned (.pointer (some ⟨w.heap.size, 0, none⟩)) ∧ w' = w.alloc (.cells #[.slice none 0 0, .int .i64 (clamp n)] 50) := by
  go_enter Try.func16, Try.ntmps16
  go_wp2
  all_goals go_ret
  all_goals (refine ⟨rfl, congrArg (fun k => w.alloc (.cells #[.slice none 0 0, .int .i64 k] 50)) ?_⟩; unfold clamp; omega)

theorem at_new (w : World) (n : Int) : At (w.alloc (.cells #[.slice none 0 0, .int .i64 (clamp n)] 50)) w.heap.size (.slice none 0 0) [] (clamp n) := by
  obtain ⟨h0, h1⟩ := clamp_bd n
  exact ⟨by simp, by simp, by simp, ownS_nil _ _, fp_nil _, h0, h1, by simpa using h0⟩

theorem info : (Try.prog.info? 4).map (fun i => (i.zero, i.size, i.bytes)) = some (some (.bool false), 1, 1) := by kernel_rfl

set_option maxHeartbeats 400000 in
theorem push_no (w : World) (rb : Nat) (v : Value) (l : List El) (room : Int) (x : El) (h : At w rb v l room) (hf : room ≤ l.length) :
    Calls Try.prog 17 #[.pointer (some ⟨rb, 0, none⟩), val x] w (Post w rb v (.bool false) l room) := by
  obtain ⟨a, c, rfl⟩ := h.own.form
  have h0 := h.c0
  have h1 := h.c1
  have hl := h.own.len
  go_enter Try.func17, Try.ntmps17
  go_wp2
  go_region
  go_wp2
  go_ret
  exact ⟨rfl, _, h.drew, fun k hk => .inl hk, (Chg.refl _ _).drew⟩

set_option maxHeartbeats 1000000 in
theorem push_yes (w : World) (rb : Nat) (v : Value) (l : List El) (room : Int) (x : El) (h : At w rb v l room) (hf : l.length < room) :
    Calls Try.prog 17 #[.pointer (some ⟨rb, 0, none⟩), val x] w (Post w rb v (.bool true) (l ++ [x]) room) := by
  obtain ⟨a, c, rfl⟩ := h.own.form
  have h0 := h.c0
  have h1 := h.c1
  have hl := h.own.len
  have h2 := h.f0
  have h3 := h.r1
  have hlt : rb < w.heap.size := World.block_lt_of_cell? _ _ h.c0
  have hown : OwnS (w.drew.alloc (.cells #[val x] 4)) (.slice a l.length c) l.length 1 (l.map val) := h.own.drew.alloc _
  obtain ⟨i0, hi, hz0, hz1, hz2⟩ := info_parts info
  go_enter Try.func17, Try.ntmps17
  go_wp2
  go_region
  go_wp2_with (at_builtin; refine wpList_append _ rfl _ _ 26 rfl 4 i0 (.bool false) 1 1 Try.underlying26 hi hz0 hz1 hz2 rfl (by decide) _ _ _ rfl hown ⟨w.heap.size, 0, none⟩ 1 1 [val x] rfl rfl ?c1 ?c2 ?c3 ?c4 ?_)
  case c1 => exact one_new _ _ _
  case c2 => simp [Value.oneCell']
  case c3 => unfold maxLen; omega
  case c4 => omega
  intro a' c' w' hown' hfp hch
  have hch' : Chg (Fp (.slice a l.length c)) w w' := Chg.trans ((Chg.refl _ w).drew.alloc _) hch (fun k _ hk => hk)
  have e0 : w'.cell? ⟨rb, 0, none⟩ = some (.slice a l.length c) := (hch'.cell hlt h.sep).trans h.c0
  have e1 : w'.cell? ⟨rb, 1, none⟩ = some (.int .i64 room) := (hch'.cell hlt h.sep).trans h.c1
  have e2 : w'.frozen? ⟨rb, 0, none⟩ = false := (hch'.frozen hlt h.sep).trans h.f0
  have hw1 : Chg (fp rb (.slice a l.length c)) w w' := hch'.mono fun k _ hk => .inr hk
  have hsz := hw1.size
  have hrb : ¬ Fp (.slice a' (l.length + 1) c') rb := fun hk => by
    rcases hfp rb hk with h' | h'
    · exact h.sep h'
    · first | omega | (simp at h'; omega)
  clear h0 h1 h2
  go_wp2
  go_ret
  refine ⟨rfl, _, ⟨World.cell?_setCell_same _ _ _ e0, ?_, by simp [e2], ?_, hrb, h.r0, h.r1, by simp; omega⟩, fun k hk => ?_, hw1.setCell _ _ (fun _ => .inl rfl)⟩
  · rw [World.cell?_setCell_other _ _ _ _ (by simp)]; exact e1
  · have := hown'.chg (F := fun k => k = rb) ((Chg.refl _ _).setCell ⟨rb, 0, none⟩ (.slice a' (l.length + 1) c') (fun _ => rfl)) (fun k hk e => hrb (e ▸ hk))
    simpa using this
  · rcases hfp k hk with h' | h'
    · exact .inl h'
    · exact .inr (by first | omega | (simp at h'; omega))

set_option maxHeartbeats 400000 in
theorem pop_none (w : World) (rb : Nat) (v : Value) (room : Int) (h : At w rb v [] room) :
    Calls Try.prog 18 #[.pointer (some ⟨rb, 0, none⟩)] w fun e w' => e = .returned (.tuple #[(.bool false), .bool false]) ∧ w = w' := by
  obtain ⟨a, c, rfl⟩ := h.own.form
  have h0 := h.c0
  go_enter Try.func18, Try.ntmps18
  go_wp2
  go_ret2
  exact ⟨rfl, rfl⟩


/-- Behind x := things[0]; things[0] = none; things = things[1:], where something is left. -/
theorem own_tail {w : World} {g off c : Nat} {x : El} {r : List El} (z : Value) (h : OwnS w (.slice (some ⟨g, off, none⟩) (r.length + 1) c) (r.length + 1) 1 ((x :: r).map val)) (h2 : c ≠ 1) (hz : w.cell? ⟨g, off, none⟩ = some (val x)) :
    OwnS (w.setCell ⟨g, off, none⟩ z) (.slice (some ⟨g, off + 1, none⟩) r.length (c - 1)) r.length 1 (r.map val) := by
  obtain ⟨hl, h | ⟨g', off', c', e, h1, h3, h4, h5, h6, h7⟩⟩ := h
  · cases h.1
  · cases e
    refine ⟨by simp, .inr ⟨g, off + 1, c - 1, rfl, by omega, by omega, h4.setCell _ _, fun j hj => ?_, fun j hj => ?_, fun j u hu => ?_⟩⟩
    · rw [World.cell?_setCell_other _ _ _ _ (by simp), show off + 1 + j = off + (j + 1) by omega]; exact h5 _ (by omega)
    · rw [World.frozen?_setCell, show off + 1 + j = off + (j + 1) by omega]; exact h6 _ (by omega)
    · rw [World.cell?_setCell_other _ _ _ _ (by simp), show off + 1 + j = off + (j + 1) by omega]; exact h7 _ _ (by simpa using hu)

set_option maxHeartbeats 1000000 in
theorem pop_some (w : World) (rb : Nat) (v : Value) (x : El) (r : List El) (room : Int) (h : At w rb v (x :: r) room) :
    Calls Try.prog 18 #[.pointer (some ⟨rb, 0, none⟩)] w (Post w rb v (.tuple #[val x, .bool true]) r room) := by
  have h0 := h.c0
  have h1 := h.c1
  have h2 := h.f0
  have h3 := h.r1
  have h4 := h.sep
  have h5 := h.own
  have h6 := h.fits
  have hlt : rb < w.heap.size := World.block_lt_of_cell? _ _ h.c0
  obtain ⟨g, off, c, rfl, hc1, hc2, hg, hcell, hfrz, hval⟩ := h.own.some (by simp)
  simp only [List.length_cons] at hc1 h5 h6
  have hx : w.cell? ⟨g, off, none⟩ = some (val x) := hval 0 _ (by simp)
  have hfx : w.frozen? ⟨g, off, none⟩ = false := hfrz 0 (by omega)
  rw [fp_some] at h4
  simp only at h4
  have hne : ¬ ((⟨g, off, none⟩ : Addr) = ⟨rb, 0, none⟩) := fun e => h4 (by cases e; rfl)
  have hne' : ¬ ((⟨g, off, none⟩ : Addr) = ⟨rb, 1, none⟩) := fun e => h4 (by cases e; rfl)
  have hrb : (w.setCell ⟨g, off, none⟩ (.bool false)).cell? ⟨rb, 0, none⟩ = some (.slice (some ⟨g, off, none⟩) (r.length + 1) c) := by
    rw [World.cell?_setCell_other _ _ _ _ hne]; exact h0
  have hrb1 : (w.setCell ⟨g, off, none⟩ (.bool false)).cell? ⟨rb, 1, none⟩ = some (.int .i64 room) := by
    rw [World.cell?_setCell_other _ _ _ _ hne']; exact h1
  have hx' : (w.setCell ⟨g, off, none⟩ (.bool false)).cell? ⟨g, off, none⟩ = some (.bool false) := World.cell?_setCell_same _ _ _ hx
  have hch : Chg (fp rb (.slice (some ⟨g, off, none⟩) (r.length + 1) c)) w (w.setCell ⟨g, off, none⟩ (.bool false)) := (Chg.refl _ _).setCell _ _ (fun _ => .inr ((fp_some _ _ _ _).2 rfl))
  by_cases hcap : c = 1
  · subst hcap
    obtain rfl : r = [] := List.eq_nil_of_length_eq_zero (by omega)
    simp only [List.length_nil, Nat.zero_add] at *
    have hrb2 := World.cell?_setCell_same (w.setCell ⟨g, off, none⟩ (.bool false)) ⟨rb, 0, none⟩ (.slice (some ⟨g, off, none⟩) 0 0) hrb
    go_enter Try.func18, Try.ntmps18
    go_wp2
    go_ret2
    refine ⟨rfl, _, ⟨World.cell?_setCell_same _ _ _ hrb2, ?_, by simp [h2], ownS_nil _ _, fp_nil _, h.r0, h.r1, by have := h.r0; simpa using this⟩, fun k hk => (fp_nil _ hk).elim,
      (hch.setCell _ _ (fun _ => .inl rfl)).setCell _ _ (fun _ => .inl rfl)⟩
    rw [World.cell?_setCell_other _ _ _ _ (by simp), World.cell?_setCell_other _ _ _ _ (by simp)]; exact hrb1
  · have hrb2 := World.cell?_setCell_same (w.setCell ⟨g, off, none⟩ (.bool false)) ⟨rb, 0, none⟩ (.slice (some ⟨g, off + 1, none⟩) r.length (c - 1)) hrb
    cases r with
    | nil =>
      simp only [List.length_nil, Nat.zero_add] at *
      go_enter Try.func18, Try.ntmps18
      go_wp2
      go_ret2
      refine ⟨rfl, _, ⟨World.cell?_setCell_same _ _ _ hrb2, ?_, by simp [h2], ownS_nil _ _, fp_nil _, h.r0, h.r1, by have := h.r0; simpa using this⟩, fun k hk => (fp_nil _ hk).elim,
        (hch.setCell _ _ (fun _ => .inl rfl)).setCell _ _ (fun _ => .inl rfl)⟩
      rw [World.cell?_setCell_other _ _ _ _ (by simp), World.cell?_setCell_other _ _ _ _ (by simp)]; exact hrb1
    | cons y r =>
      have hot := own_tail (.bool false) h5 hcap hx
      simp only [List.length_cons] at *
      go_enter Try.func18, Try.ntmps18
      go_wp2
      go_ret2
      refine ⟨rfl, _, ⟨hrb2, ?_, by simp [h2], ?_, ?_, h.r0, h.r1, by simp; omega⟩, fun k hk => ?_, hch.setCell _ _ (fun _ => .inl rfl)⟩
      · rw [World.cell?_setCell_other _ _ _ _ (by simp)]; exact hrb1
      · have := hot.chg (F := fun k => k = rb) ((Chg.refl _ _).setCell ⟨rb, 0, none⟩ (.slice (some ⟨g, off + 1, none⟩) (r.length + 1) (c - 1)) (fun _ => rfl)) (fun k hk e => by rw [fp_some] at hk; simp at hk; omega)
        simpa using this
      · rw [fp_some]; simpa using h4
      · rw [fp_some] at hk; exact .inl ((fp_some _ _ _ _).2 hk)

end Go.Proofs.Ytokmnjepglagjaa.RingBool
