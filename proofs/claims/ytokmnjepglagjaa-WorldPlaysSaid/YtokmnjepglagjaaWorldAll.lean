/- slices.Collect over a line of bools: AppendSeq, Collect. -/
import Derived.Test.YtokmnjepglagjaaRingBoolAll
namespace Go.Proofs.Ytokmnjepglagjaa.WorldAll
set_option linter.unusedVariables false
set_option linter.unusedSimpArgs false
open Go.RowKit Go.Shelf Hp Rng
attribute [local go_sem] Oper.semAt_some

/-- A slice of its own that reads as xs, in new memory. -/
def Fresh (w : World) (xs : List Value) (e : Ending) (w' : World) : Prop :=
  ∃ a c, e = .returned (.slice a xs.length c) ∧ OwnS w' (.slice a xs.length c) xs.length 1 xs ∧ (∀ k, Fp (.slice a xs.length c) k → w.heap.size ≤ k) ∧ Below w.heap.size w w'

def outAt (w : World) (l : List Bool) (i : Nat) (W : World) : Prop :=
  i ≤ l.length ∧ W.frozen? ⟨w.heap.size, 0, none⟩ = false ∧ Below w.heap.size w W ∧
  ∃ a c, W.cell? ⟨w.heap.size, 0, none⟩ = some (.slice a i c) ∧ OwnS W (.slice a i c) i 1 ((l.take i).map RingBool.val) ∧ ∀ k, Fp (.slice a i c) k → w.heap.size < k

theorem outAt_chg {w : World} {l : List Bool} {i : Nat} {W W' : World} (h : outAt w l i W) (hc : Chg (fun _ => False) W W') : outAt w l i W' := by
  obtain ⟨h1, h3, h4, a, c, h5, h6, h7⟩ := h
  have b2 := World.block_lt_of_cell? _ _ h5
  exact ⟨h1, (hc.frozen (p := ⟨w.heap.size, 0, none⟩) b2 id).trans h3, h4.trans (hc.below h4.size (fun _ h => h.elim)), a, c, (hc.cell b2 id).trans h5, h6.chg hc (fun _ _ => id), h7⟩
theorem outAt_turn {w : World} {l : List Bool} {i B : Nat} {W W' : World} (h : outAt w l i W) (ht : Turn B W W') (hB : w.heap.size ≤ B) : outAt w l i W' := by
  obtain ⟨h1, h3, h4, a, c, h5, h6, h7⟩ := h
  exact ⟨h1, (ht.frozen h5).trans h3, ht.below h4 hB (Nat.le_refl _), a, c, ht.cell h5, ht.own h6, h7⟩

set_option maxHeartbeats 2000000 in
theorem appendSeq_any (w : World) (bx rb : Nat) (v : Value) (l : List Bool) (room : Int) (h : RingBool.At w rb v l room) (hbx : w.cell? ⟨bx, 0, none⟩ = some (.pointer (some ⟨rb, 0, none⟩))) :
    Calls Try.prog 21 #[.slice none 0 0, .func (.func 22) #[] #[.pointer (some ⟨bx, 0, none⟩)]] w (Fresh w (l.map RingBool.val)) := by
  have hrb : ∀ k, RingBool.fp rb v k → k < w.heap.size := fun k hk => h.lt hk
  have hbl : bx < w.heap.size := World.block_lt_of_cell? _ _ hbx
  have hroom := h.fits
  have hr1 := h.r1
  obtain ⟨i0, hi, hz0, hz1, hz2⟩ := info_parts RingBool.info
  refine (callsIn_wide (n := 9)).1 ?_
  refine callsIn_of_wp_marks Try.func21 rfl trivial ?_
  simp only [Try.ntmps21, List.size_toArray, List.length_cons, List.length_nil, Nat.reduceAdd, Nat.reduceSub, Array.replicate_succ, Array.replicate_zero, List.push_toArray, List.append_toArray, List.nil_append, List.cons_append]
  gi_wp2
  refine wpIn_range (gf := 22) (lb := #[.pointer (some ⟨bx, 0, none⟩)]) rfl (enters_of Try.func22 (by kernel_rfl) rfl) (encs := fun x : Bool => #[RingBool.val x]) (I := fun _ _ => True)
    (Rd := RingBool.allRd bx rb v) (Wr := fun _ => False) (Skips := fun _ _ _ => False) (Yields := fun i _ x i' => l[i]? = some x ∧ i' = i + 1) (Done := fun i _ => i = l.length) (s0 := 0)
    ?hps ?hRd ?hseq (outAt w l) (fun c W => False) (fun _ _ _ => trivial) ?hKs (fun _ _ _ _ h => h.elim) ?hKt ?hKxt (fun _ _ _ _ _ h _ => h) (fun _ _ _ h _ => h) ?h0
    ?round ?done ?stop
  case round =>
    intro L s x s' W hL
    gi_wp2
    refine ⟨trivial, ?_⟩
    rintro W2 ⟨r, hr⟩ ⟨h1, h3, h4, a, c, h5, h6, h7⟩ ⟨hx, rfl⟩
    have hlt : s < l.length := (List.getElem?_eq_some_iff.1 hx).1
    have Hx := Lib.hid hx
    clear hx
    have hsz : w.heap.size + 1 ≤ W2.heap.size := by
      have := (Array.getElem?_eq_some_iff.1 hr).1
      simp at hL; omega
    gi_wp2_with (gi_at_builtin; refine wpListIn_append _ rfl _ _ 26 rfl 4 i0 (.bool false) 1 1 Try.underlying26 hi hz0 hz1 hz2 rfl (by decide) _ _ _ rfl (h6.alloc _) ⟨W2.heap.size, 0, none⟩ 1 1 [RingBool.val x] rfl rfl ?c1 ?c2 ?c3 ?c4 ?_)
    case c1 => exact one_new _ _ _
    case c2 => simp [Value.oneCell']
    case c3 => unfold maxLen; omega
    case c4 => omega
    intro a' c' w' hown' hfp hch
    have hob : ¬ Fp (.slice a s c) w.heap.size := fun hk => by have := h7 _ hk; omega
    have hch' : Chg (Fp (.slice a s c)) W2 w' := Chg.trans ((Chg.refl _ W2).alloc _) hch (fun k _ hk => hk)
    have e0 : w'.cell? ⟨w.heap.size, 0, none⟩ = some (.slice a s c) := (hch'.cell (p := ⟨w.heap.size, 0, none⟩) (by simp; omega) hob).trans h5
    have e1 : w'.frozen? ⟨w.heap.size, 0, none⟩ = false := (hch'.frozen (p := ⟨w.heap.size, 0, none⟩) (by simp; omega) hob).trans h3
    have hfp' : ∀ k, Fp (.slice a' (s + 1) c') k → w.heap.size < k := fun k hk => by
      rcases hfp k hk with h | h
      · exact h7 k h
      · omega
    clear h3 h5
    gi_wp2
    have hall : Chg (fun k => k = w.heap.size ∨ Fp (.slice a s c) k) W2 (w'.setCell ⟨w.heap.size, 0, none⟩ (.slice a' (s + 1) c')) := (hch'.mono fun k _ hk => .inr hk).setCell _ _ (fun _ => .inl rfl)
    have hbel : Below w.heap.size w (w'.setCell ⟨w.heap.size, 0, none⟩ (.slice a' (s + 1) c')) := h4.trans (hall.below (by omega) (fun k hk => by
      rcases hk with rfl | hk
      · omega
      · have := h7 k hk; omega))
    refine ⟨Keeps.of_chg hall (fun k _ hk => ?_) (fun k hk => ?_), by omega, by simp [e1], hbel, a', c', World.cell?_setCell_same _ _ _ e0, ?_, hfp'⟩
    · rcases hk with rfl | hk
      · left; simp
      · exact .inr (h6.isC hk)
    · simp only [or_false] at hk
      rcases hk with rfl | hk
      · refine ⟨by omega, fun hk => ?_⟩
        rcases hk with h | h
        · omega
        · have := h7 _ h; omega
      · have hk2 := hrb k hk
        refine ⟨by omega, fun hk => ?_⟩
        rcases hk with h | h
        · omega
        · have := h7 _ h; omega
    · have h8 := hown'.chg (F := fun k => k = w.heap.size) ((Chg.refl _ _).setCell ⟨w.heap.size, 0, none⟩ (.slice a' (s + 1) c') (fun _ => rfl)) (fun k hk e => by have := hfp' k hk; omega)
      have h9 : (l.take (s + 1)).map RingBool.val = (l.take s).map RingBool.val ++ [RingBool.val x] := by
        rw [List.take_add_one, Hx.out]; simp
      rw [h9]; simpa using h8
  case hps => intro x; rfl
  case hRd =>
    intro k hk
    rcases hk with (rfl | hk) | hk
    · simp; omega
    · have := hrb k hk; simp; omega
    · exact hk.elim
  case hseq =>
    intro W1 hT
    have hat : RingBool.At W1 rb v l room := RingBool.At.turn (h.stable (by simp) fun k hk => by
      have := hrb k hk
      rw [Below.heap_alloc _ _ _ (by omega)]) hT
    exact RingBool.all_seq bx rb v l room W1 hat (hT.cell (by
      rw [World.cell?_alloc_lt _ _ _ (by exact hbl)]; exact hbx))
  case hKs => exact fun s W W' h hc => outAt_chg h hc
  case hKt => exact fun s W W' h ht => outAt_turn h ht (by simp)
  case hKxt => exact fun c W W' h ht => h.elim
  case h0 => exact ⟨by omega, by go_simp, ((Below.refl _ _).alloc (Nat.le_refl _) _), none, 0, by go_simp, by simpa using ownS_nil _ _, fun k hk => (fp_nil _ hk).elim⟩
  case done =>
    rintro D s W hD rfl ⟨h1, h3, h4, a, c, h5, h6, h7⟩ hK
    have hL2 := Lib.hid (List.take_length (l := l))
    gi_wp2
    refine ⟨by simp, .inl ⟨_, _, rfl, run_takeDeferred hK, ?_⟩⟩
    simp at hD
    have hT : Turn w.heap.size W (W.putObj D (.deferred none)) := (Turn.refl _ _).putObj _ (by omega) hK rfl
    refine ⟨_, results_tmp rfl _ _ _, a, c, ?_⟩
    rw [hL2.out] at h6
    refine ⟨by simp, ?_, fun k hk => ?_, hT.below h4 (Nat.le_refl _) (Nat.le_refl _)⟩
    · simpa using hT.own h6
    · have := h7 k (by simpa using hk); omega
  case stop => exact fun D c W hD h hK => h.elim

set_option maxHeartbeats 400000 in
theorem collect_any (w : World) (bx rb : Nat) (v : Value) (l : List Bool) (room : Int) (h : RingBool.At w rb v l room) (hbx : w.cell? ⟨bx, 0, none⟩ = some (.pointer (some ⟨rb, 0, none⟩))) :
    Calls Try.prog 19 #[.func (.func 22) #[] #[.pointer (some ⟨bx, 0, none⟩)]] w (Fresh w (l.map RingBool.val)) := by
  have hp := appendSeq_any w bx rb v l room h hbx
  go_enter Try.func19, Try.ntmps19
  go_wp2_with fail
  refine hp.mono ?_
  rintro e w' ⟨a, c, rfl, h1, h2, h3⟩
  go_wp2_with fail
  go_ret
  exact ⟨a, c, by simp, h1, h2, h3⟩
end Go.Proofs.Ytokmnjepglagjaa.WorldAll
