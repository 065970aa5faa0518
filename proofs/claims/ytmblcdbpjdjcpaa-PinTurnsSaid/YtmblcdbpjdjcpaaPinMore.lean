/- More on pins in plain Lean, and package pin's Free and Least over any list that a law holds. -/
import Derived.Test.YtmblcdbpjdjcpaaPinAwake
namespace Go.Proofs.Ytmblcdbpjdjcpaa.Pin
set_option linter.unusedVariables false
set_option linter.unusedSimpArgs false
open Go.RowKit Hp

theorem out_neg (l : List Int) : ∀ j : Nat, j < l.length → (j : Int) ≠ -1 := fun j _ => by omega
theorem bool_eq_of_iff {a b : Bool} (h : a = true ↔ b = true) : a = b := by cases a <;> cases b <;> simp_all
theorem blk_mono {x e f : Int} (h : e ≤ f) (hb : blk x e = true) : blk x f = true := by rw [blk_iff] at hb ⊢; omega
theorem blockedB_mono {l : List Int} {s e f : Int} (h : e ≤ f) (hb : blockedB l s e = true) : blockedB l s f = true := by
  rw [blockedB_iff] at hb ⊢
  obtain ⟨j, x, a, b, c, d⟩ := hb
  exact ⟨j, x, a, b, c, blk_mono h d⟩
theorem blockedB_none {l : List Int} {e : Int} (h : (lst l).2 = false) : blockedB l (-1) e = false := by
  rw [← Bool.not_eq_true, blockedB_out (out_neg l)]
  rintro ⟨x, hx, hb⟩
  rw [blk_iff] at hb
  rcases lst_isLeast l with ⟨_, h2⟩ | ⟨m, h2, _⟩
  · have := h2 x hx; omega
  · rw [h2] at h; cases h
theorem blockedB_some {l : List Int} {e : Int} (h : (lst l).2 = true) : blockedB l (-1) e = decide ((lst l).1 ≤ e) := by
  apply bool_eq_of_iff
  rw [blockedB_out (out_neg l), decide_eq_true_eq]
  rcases lst_isLeast l with ⟨h2, _⟩ | ⟨m, h2, h3, h4, h5⟩
  · rw [h2] at h; cases h
  · rw [h2]
    constructor
    · rintro ⟨x, hx, hb⟩
      rw [blk_iff] at hb
      have := h5 x hx hb.1
      simp only; omega
    · intro hm
      exact ⟨m, h3, by rw [blk_iff]; simp only at hm; omega⟩
theorem blockedB_set {l : List Int} {k : Nat} {e : Int} (hk : k < l.length) : blockedB (l.set k 0) (-1) e = blockedB l k e := by
  apply bool_eq_of_iff
  rw [blockedB_iff, blockedB_iff]
  constructor
  · rintro ⟨j, x, a, b, c, d⟩
    rw [List.getElem?_set] at b
    by_cases hjk : k = j
    · subst hjk
      simp [hk] at b
      subst b
      rw [blk_iff] at d; omega
    · rw [if_neg hjk] at b
      exact ⟨j, x, by simpa using a, b, by omega, d⟩
  · rintro ⟨j, x, a, b, c, d⟩
    refine ⟨j, x, by simpa using a, ?_, by omega, d⟩
    rw [List.getElem?_set, if_neg (by omega)]
    exact b
theorem blockedB_le {l : List Int} {s e : Int} (h : blockedB l s e = true) : blockedB l (-1) e = true := by
  rw [blockedB_iff] at h
  obtain ⟨j, x, a, b, c, d⟩ := h
  rw [blockedB_iff]
  exact ⟨j, x, a, b, by omega, d⟩
theorem lst_mem {l l' : List Int} (h : ∀ x, x ∈ l ↔ x ∈ l') : lst l = lst l' := by
  refine (lst_isLeast l).unique ?_
  rcases lst_isLeast l' with ⟨h1, h2⟩ | ⟨m, h1, h2, h3, h4⟩
  · exact .inl ⟨h1, fun x hx => h2 x ((h x).1 hx)⟩
  · exact .inr ⟨m, h1, (h m).2 h2, h3, fun x hx => h4 x ((h x).1 hx)⟩
theorem blockedB_mem {l l' : List Int} {e : Int} (h : ∀ x, x ∈ l ↔ x ∈ l') : blockedB l (-1) e = blockedB l' (-1) e := by
  apply bool_eq_of_iff
  rw [blockedB_out (out_neg l), blockedB_out (out_neg l')]
  exact ⟨fun ⟨x, hx, hb⟩ => ⟨x, (h x).1 hx, hb⟩, fun ⟨x, hx, hb⟩ => ⟨x, (h x).2 hx, hb⟩⟩
theorem lst_more {l : List Int} {d : Int} (h : (lst l).2 = true) (hd : 0 ≤ d) : lst (l ++ [(lst l).1 + d + 1]) = lst l := by
  rw [lst_append, lstStep]
  split
  · rfl
  · rw [if_neg]
    rw [h]; simp; omega
theorem blockedB_more {l : List Int} {x e : Int} : blockedB (l ++ [x]) l.length e = blockedB l (-1) e := by
  apply bool_eq_of_iff
  rw [blockedB_iff, blockedB_out (out_neg l)]
  constructor
  · rintro ⟨j, y, a, b, c, d⟩
    simp at a
    have hj : j < l.length := by omega
    rw [List.getElem?_append_left hj] at b
    exact ⟨y, List.mem_of_getElem? b, d⟩
  · rintro ⟨y, hy, d⟩
    obtain ⟨j, hj⟩ := List.getElem?_of_mem hy
    have hlt := (List.getElem?_eq_some_iff.1 hj).1
    exact ⟨j, y, by simp; omega, by rw [List.getElem?_append_left hlt]; exact hj, by omega, d⟩

/-- A store into a slice of the call's own. -/
theorem own_set {w : World} {g off n c : Nat} {xs : List Value} {k : Nat} {z : Value} (h : OwnS w (.slice (some ⟨g, off, none⟩) n c) n 1 xs) (hk : k < n) : OwnS (w.setCell ⟨g, off + k, none⟩ z) (.slice (some ⟨g, off, none⟩) n c) n 1 (xs.set k z) := by
  obtain ⟨hl, h | ⟨g', off', c', e, h1, h3, h4, h5, h6, h7⟩⟩ := h
  · cases h.1
  · cases e
    refine ⟨by simpa using hl, .inr ⟨g, off, c, rfl, h1, h3, h4.setCell _ _, fun j hj => ?_, fun j hj => ?_, fun j u hu => ?_⟩⟩
    · by_cases e : j = k
      · subst e
        obtain ⟨u, hu⟩ := Option.isSome_iff_exists.1 (h5 j hj)
        rw [World.cell?_setCell_same _ _ _ hu]; rfl
      · rw [World.cell?_setCell_other _ _ _ _ (by simp)]; exact h5 j hj
    · rw [World.frozen?_setCell]; exact h6 j hj
    · rw [List.getElem?_set] at hu
      by_cases e : k = j
      · subst e
        have hlt : k < xs.length := by omega
        simp [hlt] at hu
        subst hu
        obtain ⟨u, hu⟩ := Option.isSome_iff_exists.1 (h5 k (by omega))
        exact World.cell?_setCell_same _ _ _ hu
      · rw [if_neg e] at hu
        rw [World.cell?_setCell_other _ _ _ _ (by simp)]; exact h7 j u hu

/-- What a law knows of the world as it goes: nothing old has changed; a list of its own reads as xs. -/
def Cur (w : World) (v : Value) (xs : List Int) (W : World) : Prop := Below w.heap.size w W ∧ SliceAt W v (xs.map (Value.int .i64))
theorem Cur.free {w W : World} {a : Option Addr} {c : Nat} {xs : List Int} (h : Cur w (.slice a xs.length c) xs W) (hw : ∀ x ∈ xs, W64 x) (self e : Int) :
    Calls Try.prog 14 #[.slice a xs.length c, .int .i64 self, .int .i64 e] W fun r w' => r = .returned (.bool (!blockedB xs self e)) ∧ Cur w (.slice a xs.length c) xs w' :=
  (free_any W a c xs self e h.2 hw).mono fun r w' ⟨h1, h2⟩ => ⟨h1, h.1.trans (h2.mono h.1.size), h.2.below h2⟩
/-- .. of an argument, beside it. -/
theorem Cur.free0 {w W : World} {v : Value} {xs : List Int} (h : Cur w v xs W) {a : Option Addr} {c : Nat} {l : List Int} (hl : SliceAt w (.slice a l.length c) (l.map (Value.int .i64))) (hw : ∀ x ∈ l, W64 x) (self e : Int) :
    Calls Try.prog 14 #[.slice a l.length c, .int .i64 self, .int .i64 e] W fun r w' => r = .returned (.bool (!blockedB l self e)) ∧ Cur w v xs w' :=
  (free_any W a c l self e (hl.below h.1) hw).mono fun r w' ⟨h1, h2⟩ => ⟨h1, h.1.trans (h2.mono h.1.size), h.2.below h2⟩
theorem Cur.least {w W : World} {a : Option Addr} {c : Nat} {xs : List Int} (h : Cur w (.slice a xs.length c) xs W) (hw : ∀ x ∈ xs, W64 x) :
    Calls Try.prog 12 #[.slice a xs.length c] W fun r w' => r = .returned (.tuple #[.int .i64 (lst xs).1, .bool (lst xs).2]) ∧ Cur w (.slice a xs.length c) xs w' :=
  (least_any W a c xs h.2 hw).mono fun r w' ⟨h1, h2⟩ => ⟨h1, h.1.trans (h2.mono h.1.size), h.2.below h2⟩
theorem Cur.least0 {w W : World} {v : Value} {xs : List Int} (h : Cur w v xs W) {a : Option Addr} {c : Nat} {l : List Int} (hl : SliceAt w (.slice a l.length c) (l.map (Value.int .i64))) (hw : ∀ x ∈ l, W64 x) :
    Calls Try.prog 12 #[.slice a l.length c] W fun r w' => r = .returned (.tuple #[.int .i64 (lst l).1, .bool (lst l).2]) ∧ Cur w v xs w' :=
  (least_any W a c l (hl.below h.1) hw).mono fun r w' ⟨h1, h2⟩ => ⟨h1, h.1.trans (h2.mono h.1.size), h.2.below h2⟩
theorem info : (Try.prog.info? 3).map (fun i => (i.zero, i.size, i.bytes)) = some (some (.int .i64 0), 1, 8) := by kernel_rfl

theorem own_new (w : World) (T : TypeId) : OwnS (w.alloc (.cells #[] T)) (.slice (some ⟨w.heap.size, 0, none⟩) 0 0) 0 1 [] := by
  refine ⟨rfl, .inr ⟨w.heap.size, 0, 0, rfl, Nat.le_refl _, by decide, ⟨.cells #[] T, by rw [← World.alloc_eq]; simp, rfl⟩, ?_, ?_, ?_⟩⟩
  · intro j hj; omega
  · intro j hj; omega
  · intro j u hu; simp at hu
/-- A list copied into memory of its own, and changed there at one place. -/
theorem Cur.copied {w W : World} {v : Value} {xs : List Int} (h : Cur w v xs W) (T : TypeId) {a' : Option Addr} {c' : Nat} {w' : World} {k : Nat} {l : List Int}
    (hown : OwnS w' (.slice a' l.length c') l.length 1 (l.map (Value.int .i64))) (hfp : ∀ k, Fp (.slice a' l.length c') k → Fp (.slice (some ⟨W.heap.size, 0, none⟩) 0 0) k ∨ W.heap.size + 1 ≤ k)
    (hch : Chg (Fp (.slice (some ⟨W.heap.size, 0, none⟩) 0 0)) (W.alloc (.cells #[] T)) w') (hk : k < l.length) :
    ∃ g off u, a' = some ⟨g, off, none⟩ ∧ w'.cell? ⟨g, off + k, none⟩ = some u ∧ w'.frozen? ⟨g, off + k, none⟩ = false ∧ Cur w (.slice (some ⟨g, off, none⟩) l.length c') (l.set k 0) (w'.setCell ⟨g, off + k, none⟩ (.int .i64 0)) := by
  obtain ⟨g, off, c, e, h1, h2, h3, h4, h5, h6⟩ := hown.some (by omega)
  injection e with e1 e2 e3
  subst e1 e3
  obtain ⟨u, hu⟩ := Option.isSome_iff_exists.1 (h4 k (by omega))
  have hg : W.heap.size ≤ g := by
    rcases hfp g ((fp_some _ _ _ _).2 rfl) with h' | h'
    · exact Nat.le_of_eq ((fp_some _ _ _ _).1 h')
    · omega
  have hs := h.1.size
  refine ⟨g, off, u, rfl, hu, h5 k (by omega), ?_, ?_⟩
  · have b1 : Chg (fun i => W.heap.size ≤ i) W w' := Chg.trans ((Chg.refl _ W).alloc (.cells #[] T)) hch (fun i hi hF => by
      have := (fp_some _ _ _ _).1 hF
      simp at this; omega)
    have b2 := b1.setCell ⟨g, off + k, none⟩ (.int .i64 0) (fun _ => hg)
    exact h.1.trans ((Chg.below b2 (Nat.le_refl _) fun i hi => hi).mono hs)
  · have := (own_set (k := k) (z := .int .i64 0) hown hk).at
    rw [show (l.set k 0).map (Value.int .i64) = (l.map (Value.int .i64)).set k (.int .i64 0) by simp [List.map_set]]
    exact this
theorem Cur.free_set {w W : World} {a : Option Addr} {c k : Nat} {l : List Int} (h : Cur w (.slice a l.length c) (l.set k 0) W) (hw : ∀ x ∈ l, W64 x) (hk : k < l.length) (e : Int) :
    Calls Try.prog 14 #[.slice a l.length c, .int .i64 (-1), .int .i64 e] W fun r w' => r = .returned (.bool (!blockedB l k e)) ∧ Cur w (.slice a l.length c) (l.set k 0) w' := by
  have hl : (l.set k 0).length = l.length := by simp
  have h2 := Cur.free (xs := l.set k 0) (a := a) (c := c) (by rw [hl]; exact h) (fun x hx => by
    rcases List.mem_or_eq_of_mem_set hx with h' | h'
    · exact hw x h'
    · subst h'; unfold W64; omega) (-1) e
  rw [hl, blockedB_set hk] at h2
  exact h2
end Go.Proofs.Ytmblcdbpjdjcpaa.Pin
