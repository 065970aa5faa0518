/- Walks of package pin: Free, Least. -/
import Derived.Test.YtmblcdbpjdjcpaaPinFree
namespace Go.Proofs.Ytmblcdbpjdjcpaa.Pin
set_option linter.unusedVariables false
set_option linter.unusedSimpArgs false
open Go.RowKit Go.Shelf Hp Rng
attribute [local go_sem] Oper.semAt_some

set_option maxHeartbeats 1000000 in
theorem free_any (w : World) (a : Option Addr) (c : Nat) (l : List Int) (self e : Int) (h : SliceAt w (.slice a l.length c) (l.map (Value.int .i64))) (hw : ∀ x ∈ l, W64 x) :
    Calls Try.prog 14 #[.slice a l.length c, .int .i64 self, .int .i64 e] w fun r w' => r = .returned (.bool (!blockedB l self e)) ∧ Below w.heap.size w w' := by
  have hb := (Below.refl w.heap.size w).alloc (Nat.le_refl _) (.cells #[.slice a l.length c] 22)
  have h2 := h.below hb
  go_enter Try.func14, Try.ntmps14
  go_wp2_with fail
  refine (pinned_any _ _ _ _).mono ?_
  rintro r w1 ⟨rfl, rfl⟩
  go_wp2_with fail
  refine (blocked_any _ _ a c l self e h2 hw (by simp)).mono ?_
  rintro r w2 ⟨rfl, hb2⟩
  go_wp2_with fail
  go_ret
  exact ⟨rfl, hb.trans (hb2.mono (by simp))⟩

def lstK (w : World) (l : List Int) (i : Nat) (W : World) : Prop :=
  W.cell? ⟨w.heap.size, 0, none⟩ = some (.int .i64 (lst (l.take i)).1) ∧ W.cell? ⟨w.heap.size + 1, 0, none⟩ = some (.bool (lst (l.take i)).2) ∧
    W.frozen? ⟨w.heap.size, 0, none⟩ = false ∧ W.frozen? ⟨w.heap.size + 1, 0, none⟩ = false ∧ Below w.heap.size w W

set_option maxHeartbeats 2000000 in
theorem least_any (w : World) (a : Option Addr) (c : Nat) (l : List Int) (h : SliceAt w (.slice a l.length c) (l.map (Value.int .i64))) (hw : ∀ x ∈ l, W64 x) :
    Calls Try.prog 12 #[.slice a l.length c] w fun r w' => r = .returned (.tuple #[.int .i64 (lst l).1, .bool (lst l).2]) ∧ Below w.heap.size w w' := by
  have hrd : ∀ k, Rd a l.length c k → k < w.heap.size := fun k hk => rd_lt h hk
  refine (callsIn_wide (n := 9)).1 ?_
  refine callsIn_of_wp_marks Try.func12 rfl trivial ?_
  simp only [Try.ntmps12, List.size_toArray, List.length_cons, List.length_nil, Nat.reduceAdd, Nat.reduceSub, Array.replicate_succ, Array.replicate_zero, List.push_toArray, List.append_toArray, List.nil_append, List.cons_append]
  gi_wp2_with fail
  refine ⟨trivial, (callsIn_wide.2 (pinned_any _ _ _ _)).mono ?_⟩
  rintro r w' ⟨rfl, rfl⟩
  gi_wp2_with fail
  refine wpIn_range (gf := 19) (lb := #[.pointer (some ⟨w.heap.size + 2, 0, none⟩)]) rfl (enters_of Try.func19 (by kernel_rfl) rfl) (encs := fun x : Nat × Int => #[.int .i64 (x.1 : Int), .int .i64 x.2]) (I := fun _ _ => True)
    (Rd := Rd a l.length c) (Wr := fun _ => False) (Skips := Skips l) (Yields := Yields l) (Done := fun i _ => i = l.length) (s0 := 0)
    ?hps ?hRd ?hseq (lstK w l) (fun _ _ => False) (fun _ _ _ => trivial) ?hKs ?hKk ?hKt (fun _ _ _ h _ => h) (fun _ _ _ _ _ h _ => h) (fun _ _ _ h _ => h) ?h0 ?round ?done (fun _ _ _ _ h _ => h.elim)
  case hps => intro x; rfl
  case hRd =>
    intro k hk
    rcases hk with hk | hk
    · have := hrd k hk; simp; omega
    · exact hk.elim
  case hseq =>
    intro W1 hT
    have hb0 : Below w.heap.size w (((w.alloc (.cells #[.int .i64 0] 3)).alloc (.cells #[.bool false] 4)).alloc (.cells #[.slice a l.length c] 22)) := ((Below.refl _ _).alloc (Nat.le_refl _) _).alloc (by simp) _ |>.alloc (by simp; omega) _
    exact pinned_seq _ a c l W1 ((h.below hb0).turn hT) hw (hT.cell (by go_simp))
  case hKs =>
    rintro s W W' ⟨h1, h2, h3, h4, h5⟩ hc
    have b1 := World.block_lt_of_cell? _ _ h1
    have b2 := World.block_lt_of_cell? _ _ h2
    exact ⟨(hc.cell b1 id).trans h1, (hc.cell b2 id).trans h2, (hc.frozen (p := ⟨w.heap.size, 0, none⟩) b1 id).trans h3, (hc.frozen (p := ⟨w.heap.size + 1, 0, none⟩) b2 id).trans h4, h5.trans (hc.below h5.size (fun _ h => h.elim))⟩
  case hKk =>
    rintro s s' W h1 ⟨rfl, x, hx, hx0⟩
    unfold lstK at h1 ⊢
    rw [lst_take_succ hx, lstStep, if_pos hx0]
    exact h1
  case hKt =>
    rintro s W W' ⟨h1, h2, h3, h4, h5⟩ ht
    exact ⟨ht.cell h1, ht.cell h2, (ht.frozen h1).trans h3, (ht.frozen h2).trans h4, ht.below h5 (by simp; omega) (Nat.le_refl _)⟩
  case h0 => exact ⟨by go_simp; rfl, by go_simp; rfl, by go_simp, by go_simp, ((Below.refl _ _).alloc (Nat.le_refl _) _).alloc (by simp) _ |>.alloc (by simp; omega) _⟩
  case round =>
    rintro L s ⟨j, y⟩ s' W hL
    gi_wp2
    refine ⟨trivial, ?_⟩
    rintro W2 ⟨r, hr⟩ hK ⟨rfl, rfl, hx, hy⟩
    have hsz : w.heap.size + 3 ≤ W2.heap.size := by
      have := (Array.getElem?_eq_some_iff.1 hr).1
      simp at hL; omega
    have hy1 : y ≤ 9223372036854775807 := (hw y (List.mem_of_getElem? hx)).2
    have Hst := Lib.hid (lst_take_succ hx)
    dsimp only at hx hy
    clear hx
    have hr2 : ∀ k, Rd a l.length c k ∨ False → k < W2.heap.size ∧ ¬ (k = w.heap.size ∨ k = w.heap.size + 1) := fun k hk => by
      rcases hk with hk | hk
      · have := hrd k hk; omega
      · exact hk.elim
    unfold lstK at hK ⊢
    rw [Hst.out]
    obtain ⟨h1, h2, h3, h4, h5⟩ := hK
    generalize lst (l.take j) = r0 at *
    obtain ⟨m, ok⟩ := r0
    dsimp only at h1 h2 ⊢
    clear Hst
    have hny : ¬ y < 1 := by omega
    have hch : Chg (fun k => k = w.heap.size ∨ k = w.heap.size + 1) W2 ((W2.setCell ⟨w.heap.size, 0, none⟩ (.int .i64 (y - 1))).setCell ⟨w.heap.size + 1, 0, none⟩ (.bool true)) := ((Chg.refl _ _).setCell _ _ (fun _ => .inl rfl)).setCell _ _ (fun _ => .inr rfl)
    have g1 : ((W2.setCell ⟨w.heap.size, 0, none⟩ (.int .i64 (y - 1))).setCell ⟨w.heap.size + 1, 0, none⟩ (.bool true)).cell? ⟨w.heap.size, 0, none⟩ = some (.int .i64 (y - 1)) := by
      rw [World.cell?_setCell_other _ _ _ _ (by simp)]; exact World.cell?_setCell_same _ _ _ h1
    have g2 : ((W2.setCell ⟨w.heap.size, 0, none⟩ (.int .i64 (y - 1))).setCell ⟨w.heap.size + 1, 0, none⟩ (.bool true)).cell? ⟨w.heap.size + 1, 0, none⟩ = some (.bool true) :=
      World.cell?_setCell_same (u := .bool ok) _ _ _ (by rw [World.cell?_setCell_other _ _ _ _ (by simp)]; exact h2)
    have g3 : (W2.setCell ⟨w.heap.size, 0, none⟩ (.int .i64 (y - 1))).cell? ⟨w.heap.size + 1, 0, none⟩ = some (.bool ok) := by
      rw [World.cell?_setCell_other _ _ _ _ (by simp)]; exact h2
    have hK1 : Keeps (w.heap.size + 3) (fun k => Rd a l.length c k ∨ False) W2 W2 := Keeps.of_chg (F := fun _ => False) (Chg.refl _ _) (fun _ _ h => h.elim) (fun k hk => ⟨(hr2 k hk).1, id⟩)
    have hK2 : Keeps (w.heap.size + 3) (fun k => Rd a l.length c k ∨ False) W2 ((W2.setCell ⟨w.heap.size, 0, none⟩ (.int .i64 (y - 1))).setCell ⟨w.heap.size + 1, 0, none⟩ (.bool true)) := Keeps.of_chg hch (fun k _ hk => .inl (by omega)) hr2
    have h5' : Below w.heap.size w ((W2.setCell ⟨w.heap.size, 0, none⟩ (.int .i64 (y - 1))).setCell ⟨w.heap.size + 1, 0, none⟩ (.bool true)) := (h5.setCell (p := ⟨w.heap.size, 0, none⟩) (Nat.le_refl _) _).setCell (p := ⟨w.heap.size + 1, 0, none⟩) (by simp) _
    have e1 : ∀ b : Bool, (!ok || decide (y - 1 < m)) = b → lstStep (m, ok) y = if b then (y - 1, true) else (m, ok) := fun b hb => by
      unfold lstStep; rw [if_neg hny]; simp only [hb]
    cases ok
    · rw [e1 true (by simp)]
      clear e1
      gi_wp2_with fail
      refine ⟨trivial, (callsIn_wide.2 (epoch_yes _ _ hy hy1)).mono ?_⟩
      rintro r w' ⟨rfl, rfl⟩
      gi_wp2_with fail
      exact ⟨hK2, g1, g2, by simp [h3], by simp [h4], h5'⟩
    · by_cases hb : y - 1 < m
      · rw [e1 true (by simp; omega)]
        clear e1
        gi_wp2_with fail
        refine ⟨trivial, (callsIn_wide.2 (epoch_yes _ _ hy hy1)).mono ?_⟩
        rintro r w' ⟨rfl, rfl⟩
        gi_wp2_with fail
        exact ⟨hK2, g1, g2, by simp [h3], by simp [h4], h5'⟩
      · rw [e1 false (by simp; omega)]
        clear e1
        gi_wp2_with fail
        refine ⟨trivial, (callsIn_wide.2 (epoch_yes _ _ hy hy1)).mono ?_⟩
        rintro r w' ⟨rfl, rfl⟩
        gi_wp2_with fail
        exact ⟨hK1, h1, h2, h3, h4, h5⟩
  case done =>
    rintro D s W hD rfl ⟨h1, h2, h3, h4, h5⟩ hK
    rw [List.take_length] at h1 h2
    gi_wp2
    refine wpIn_wide.2 ?_
    go_region
    go_wp2
    gi_wp2
    simp at hD
    have hK2 : W.drew.heap[D]? = some (.deferred (some [])) := hK
    have h6 : Below w.heap.size w W.drew := h5.drew
    generalize W.drew = W3 at *
    have hT : Turn w.heap.size W3 (W3.putObj D (.deferred none)) := (Turn.refl _ _).putObj _ (by omega) hK2 rfl
    refine ⟨by simp, .inl ⟨_, _, rfl, run_takeDeferred hK2, ?_⟩⟩
    exact ⟨.tuple #[.int .i64 (lst l).1, .bool (lst l).2], by simp [results, Try.results12, go_sem], rfl, hT.below h6 (Nat.le_refl _) (Nat.le_refl _)⟩
end Go.Proofs.Ytmblcdbpjdjcpaa.Pin
