/- Walks of package pin: blocked, Free, Least. -/
import Derived.Test.YtmblcdbpjdjcpaaPin
namespace Go.Proofs.Ytmblcdbpjdjcpaa.Pin
set_option linter.unusedVariables false
set_option linter.unusedSimpArgs false
open Go.RowKit Go.Shelf Hp Rng
attribute [local go_sem] Oper.semAt_some

theorem rd_lt {w : World} {a : Option Addr} {c : Nat} {l : List Int} (h : SliceAt w (.slice a l.length c) (l.map (Value.int .i64))) {k : Nat} (hk : Rd a l.length c k) : k < w.heap.size := by
  obtain ⟨h0, a1, n1, c1, he, rfl⟩ := hk
  obtain ⟨a2, c2, he2, _, h2⟩ := h
  injection he with e1 _ _
  injection he2 with e3 _ _
  subst e1
  rcases h2 with h2 | ⟨g, off, e4, h3⟩
  · simp at h2; subst h2; simp at h0
  · rw [← e3] at e4
    cases e4
    exact World.block_lt_of_cell? _ _ (h3 0 (.int .i64 l[0]) (by simp [h0]))
def blkK (w : World) (l : List Int) (self e : Int) (i : Nat) (W : World) : Prop :=
  ¬ Blocked l self e i ∧ W.cell? ⟨w.heap.size, 0, none⟩ = some (.int .i64 self) ∧ W.cell? ⟨w.heap.size + 1, 0, none⟩ = some (.int .i64 e) ∧ W.cell? ⟨w.heap.size + 2, 0, none⟩ = some (.bool false) ∧
    W.frozen? ⟨w.heap.size + 2, 0, none⟩ = false ∧ Below w.heap.size w W
def blkX (w : World) (l : List Int) (self e : Int) (c : Code) (W : World) : Prop :=
  c = .ret ∧ (∃ i, Blocked l self e i) ∧ W.cell? ⟨w.heap.size + 2, 0, none⟩ = some (.bool true) ∧ Below w.heap.size w W

set_option maxHeartbeats 2000000 in
theorem blocked_any (w : World) (bx : Nat) (a : Option Addr) (c : Nat) (l : List Int) (self e : Int) (h : SliceAt w (.slice a l.length c) (l.map (Value.int .i64))) (hw : ∀ x ∈ l, W64 x) (hb : w.cell? ⟨bx, 0, none⟩ = some (.slice a l.length c)) :
    Calls Try.prog 18 #[.func (.func 19) #[] #[.pointer (some ⟨bx, 0, none⟩)], .int .i64 self, .int .i64 e] w fun r w' => r = .returned (.bool (blockedB l self e)) ∧ Below w.heap.size w w' := by
  have hbx := World.block_lt_of_cell? _ _ hb
  simp only at hbx
  have hrd : ∀ k, Rd a l.length c k → k < w.heap.size := fun k hk => rd_lt h hk
  refine (callsIn_wide (n := 9)).1 ?_
  refine callsIn_of_wp_marks Try.func18 rfl trivial ?_
  simp only [Try.ntmps18, List.size_toArray, List.length_cons, List.length_nil, Nat.reduceAdd, Nat.reduceSub, Array.replicate_succ, Array.replicate_zero, List.push_toArray, List.append_toArray, List.nil_append, List.cons_append]
  gi_wp2
  refine wpIn_range (gf := 19) (lb := #[.pointer (some ⟨bx, 0, none⟩)]) rfl (enters_of Try.func19 (by kernel_rfl) rfl) (encs := fun x : Nat × Int => #[.int .i64 (x.1 : Int), .int .i64 x.2]) (I := fun _ _ => True)
    (Rd := Rd a l.length c) (Wr := fun _ => False) (Skips := Skips l) (Yields := Yields l) (Done := fun i _ => i = l.length) (s0 := 0)
    ?hps ?hRd ?hseq (blkK w l self e) (blkX w l self e) (fun _ _ _ => trivial) ?hKs ?hKk ?hKt ?hKxt (fun _ _ _ _ _ h _ => h) (fun _ _ _ h _ => h) ?h0 ?round ?done ?stop
  case hps => intro x; rfl
  case hRd =>
    intro k hk
    rcases hk with hk | hk
    · have := hrd k hk; simp; omega
    · exact hk.elim
  case hseq =>
    intro W1 hT
    have hb0 : Below w.heap.size w (((w.alloc (.cells #[.int .i64 self] 3)).alloc (.cells #[.int .i64 e] 3)).alloc (.cells #[.bool false] 4)) := ((Below.refl _ _).alloc (Nat.le_refl _) _).alloc (by simp) _ |>.alloc (by simp; omega) _
    exact pinned_seq bx a c l W1 ((h.below hb0).turn hT) hw (hT.cell ((hb0.cell (p := ⟨bx, 0, none⟩) hbx).trans hb))
  case hKs =>
    rintro s W W' ⟨h1, h2, h3, h4, h5, h6⟩ hc
    have b1 := World.block_lt_of_cell? _ _ h2
    have b2 := World.block_lt_of_cell? _ _ h3
    have b3 := World.block_lt_of_cell? _ _ h4
    exact ⟨h1, (hc.cell b1 id).trans h2, (hc.cell b2 id).trans h3, (hc.cell b3 id).trans h4, (hc.frozen (p := ⟨w.heap.size + 2, 0, none⟩) b3 id).trans h5, h6.trans (hc.below h6.size (fun _ h => h.elim))⟩
  case hKk =>
    rintro s s' W ⟨h1, h2⟩ ⟨rfl, x, hx, hx0⟩
    refine ⟨?_, h2⟩
    rw [Blocked.step hx]
    rintro (h | ⟨_, h⟩)
    · exact h1 h
    · rw [blk_iff] at h; omega
  case hKt =>
    rintro s W W' ⟨h1, h2, h3, h4, h5, h6⟩ ht
    exact ⟨h1, ht.cell h2, ht.cell h3, ht.cell h4, (ht.frozen h4).trans h5, ht.below h6 (by simp; omega) (Nat.le_refl _)⟩
  case hKxt =>
    rintro cc W W' ⟨h1, h2, h3, h4⟩ ht
    exact ⟨h1, h2, ht.cell h3, ht.below h4 (by simp; omega) (Nat.le_refl _)⟩
  case h0 =>
    refine ⟨?_, by go_simp, by go_simp, by go_simp, by go_simp, ((Below.refl _ _).alloc (Nat.le_refl _) _).alloc (by simp) _ |>.alloc (by simp; omega) _⟩
    rintro ⟨j, x, hj, _⟩
    omega
  case round =>
    rintro L s ⟨j, y⟩ s' W hL
    gi_wp2
    refine ⟨trivial, ?_⟩
    rintro W2 ⟨r, hr⟩ ⟨h1, h2, h3, h4, h5, h6⟩ ⟨rfl, rfl, hx, hy⟩
    have hsz : w.heap.size + 3 ≤ W2.heap.size := by
      have := (Array.getElem?_eq_some_iff.1 hr).1
      simp at hL; omega
    have hy1 : y ≤ 9223372036854775807 := (hw y (List.mem_of_getElem? hx)).2
    have Hst := Lib.hid (Blocked.step (self := self) (e := e) hx)
    have Hx := Lib.hid hx
    dsimp only at hx hy
    clear hx
    have hr2 : ∀ k, Rd a l.length c k ∨ False → k < W2.heap.size ∧ ¬ (k = w.heap.size + 2) := fun k hk => by
      rcases hk with hk | hk
      · have := hrd k hk; omega
      · exact hk.elim
    by_cases hse : (j : Int) = self
    · have hne : ((j : Int) != self) = false := by simp [hse]
      have Hse := Lib.hid hse
      clear hse
      gi_wp2_with fail
      refine ⟨trivial, ?_⟩
      gi_wp2
      refine ⟨Keeps.of_chg (F := fun _ => False) (Chg.refl _ _) (fun _ _ h => h.elim) (fun k hk => ⟨(hr2 k hk).1, id⟩), ?_, h2, h3, h4, h5, h6⟩
      rw [Hst.out]
      rintro (h | ⟨h, _⟩)
      · exact h1 h
      · exact h Hse.out
    · have hne : ((j : Int) != self) = true := by simp [hse]
      cases hbk : blk y e
      · gi_wp2_with fail
        refine ⟨trivial, (callsIn_wide.2 (blocks_any _ _ _ hy1)).mono ?_⟩
        rintro r w' ⟨rfl, rfl⟩
        rw [hbk]
        gi_wp2_with fail
        refine ⟨Keeps.of_chg (F := fun _ => False) (Chg.refl _ _) (fun _ _ h => h.elim) (fun k hk => ⟨(hr2 k hk).1, id⟩), ?_, h2, h3, h4, h5, h6⟩
        rw [Hst.out]
        rintro (h | ⟨_, h⟩)
        · exact h1 h
        · rw [hbk] at h; cases h
      · gi_wp2_with fail
        refine ⟨trivial, (callsIn_wide.2 (blocks_any _ _ _ hy1)).mono ?_⟩
        rintro r w' ⟨rfl, rfl⟩
        rw [hbk]
        gi_wp2_with fail
        have hch : Chg (fun k => k = w.heap.size + 2) W2 (W2.setCell ⟨w.heap.size + 2, 0, none⟩ (.bool true)) := (Chg.refl _ _).setCell _ _ (fun _ => rfl)
        exact ⟨Keeps.of_chg hch (fun k _ hk => by subst hk; left; omega) (fun k hk => hk.elim), rfl, ⟨j + 1, Hst.out.2 (.inr ⟨hse, hbk⟩)⟩, World.cell?_setCell_same _ _ _ h4, h6.setCell (by simp; omega) _⟩
  case done =>
    rintro D s W hD rfl ⟨h1, h2, h3, h4, h5, h6⟩ hK
    have hres := blockedB_false h1
    gi_wp2
    simp at hD
    have hK2 : (W.setCell ⟨w.heap.size + 1 + 1, 0, none⟩ (.bool false)).heap[D]? = some (.deferred (some [])) := (Below.heap_setCell _ _ _ _ (by simp; omega)).trans hK
    have h7 := h6.setCell (p := ⟨w.heap.size + 1 + 1, 0, none⟩) (by simp; omega) (.bool false)
    have h8 := World.cell?_setCell_same _ _ (.bool false) h4
    generalize W.setCell ⟨w.heap.size + 1 + 1, 0, none⟩ (.bool false) = W3 at *
    have hT : Turn w.heap.size W3 (W3.putObj D (.deferred none)) := (Turn.refl _ _).putObj _ (by omega) hK2 rfl
    have hc := hT.cell h8
    refine ⟨by simp, .inl ⟨_, _, rfl, run_takeDeferred hK2, ?_⟩⟩
    refine ⟨.bool false, by simp [results, Try.results18, go_sem, hc], by rw [hres], hT.below h7 (Nat.le_refl _) (Nat.le_refl _)⟩
  case stop =>
    rintro D cc W hD ⟨rfl, ⟨i, h2⟩, h3, h4⟩ hK
    have hres := blockedB_true h2
    gi_wp2
    simp at hD
    have hT : Turn w.heap.size W (W.putObj D (.deferred none)) := (Turn.refl _ _).putObj _ (by omega) hK rfl
    have hc := hT.cell h3
    refine ⟨by simp, .inl ⟨_, _, rfl, run_takeDeferred hK, ?_⟩⟩
    refine ⟨.bool true, by simp [results, Try.results18, go_sem, hc], by rw [hres], hT.below h4 (Nat.le_refl _) (Nat.le_refl _)⟩
end Go.Proofs.Ytmblcdbpjdjcpaa.Pin
