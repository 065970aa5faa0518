/- Part 3 of the walks over the program's functions, and of the plain laws, that the claim's last text joins: ModAct Pool Pool2 Plain ModNext ModRe ModDial ModMove Reg2 ModClose ModOwns ModGet ModReap Reg3 ModTidy. -/
import Derived.Test.YtpmkgddjgebojaaGreatDoorA2
import Derived.Deep.DeepCutAuto
import Derived.Deep.QuietTactic
import Derived.BigQuiet
import Derived.Sort.CutIn
import Derived.Deep.LoopGhost

namespace Go.Proofs.YtpmkgddjgebojaaGreatDoor.Mod
set_option linter.unusedVariables false
set_option linter.unusedSimpArgs false
open Go.RowKit Hp Slot RowL Life

/-- What this package has done with slots. -/
def Done (d : Nat) : Prop := d = 0 ∨ d = 1 ∨ d = 2 ∨ d = 3 ∨ d = 4 ∨ d = 5 ∨ d = 7 ∨ d = 9 ∨ d = 10 ∨ d = 13 ∨ d = 14 ∨ d = 15 ∨ d = 16

theorem setBit_bd {n : Int} {k : Nat} (h : 0 ≤ n ∧ n ≤ 255) (hk : k < 8) : 0 ≤ setBit n k ∧ setBit n k ≤ 255 := by
  have h' : ∀ (m : Fin 256) (j : Fin 8), ((m.val ||| 2 ^ j.val : Nat) : Int) ≤ 255 := by decide +kernel
  obtain ⟨m, rfl⟩ := Int.eq_ofNat_of_zero_le h.1
  exact ⟨by unfold setBit; omega, h' ⟨m, by omega⟩ ⟨k, hk⟩⟩
theorem dropBit_bd {n : Int} {k : Nat} (h : 0 ≤ n ∧ n ≤ 255) (hk : k < 8) (hb : hasBit n k = true) : 0 ≤ dropBit n k ∧ dropBit n k ≤ 255 := by
  have h' : ∀ (m : Fin 256) (j : Fin 8), m.val.testBit j.val = true → 0 ≤ (m.val : Int) - 2 ^ j.val ∧ (m.val : Int) - 2 ^ j.val ≤ 255 := by decide +kernel
  obtain ⟨m, rfl⟩ := Int.eq_ofNat_of_zero_le h.1
  exact h' ⟨m, by omega⟩ ⟨k, hk⟩ hb
theorem lowFree_lt {n most : Int} {k : Nat} (h : lowFree n most = some k) : k < 8 := by
  unfold lowFree at h
  have := List.mem_of_find?_eq_some h
  simp at this
  omega

theorem leased_right {s : S} {own : Int} (h : s.right = true) (ho : 0 ≤ own ∧ own ≤ 15) : ({ leased s own with version := 0 } : S).right = true := by
  rw [right_iff] at h ⊢
  obtain ⟨⟨q1, q2, q3, q4, q5, q6, q7⟩, a1, a2, a3, a4, a5⟩ := h
  simp only [leased, «to»]
  simp
  omega
theorem to_right {s : S} {own k : Int} (h : s.right = true) (ho : 0 ≤ own ∧ own ≤ 15) (hk : k = 0 ∨ k = 1 ∨ k = 2 ∨ k = 4 ∨ k = 5) : ({ «to» s own k with version := 0 } : S).right = true := by
  rw [right_iff] at h ⊢
  obtain ⟨⟨q1, q2, q3, q4, q5, q6, q7⟩, a1, a2, a3, a4, a5⟩ := h
  rcases hk with rfl | rfl | rfl | rfl | rfl <;> simp [«to»] <;> omega
theorem act_right {d : Nat} (hd : Done d) {s : S} {own more : Int} (h : s.right = true) (ho : 0 ≤ own ∧ own ≤ 15) (hb : (act d s own more).2 = true) : ({ (act d s own more).1 with version := 0 } : S).right = true := by
  rcases hd with rfl | rfl | rfl | rfl | rfl | rfl | rfl | rfl | rfl | rfl | rfl | rfl | rfl
  · exact to_right h ho (by simp)
  · exact leased_right h ho
  · exact to_right h ho (by simp)
  · exact leased_right h ho
  · exact to_right h ho (by simp)
  · exact to_right h ho (by simp)
  · exact to_right h ho (by simp)
  · exact to_right h ho (by simp)
  · simp only [act] at hb ⊢
    simp at hb
    rw [right_iff] at h ⊢
    simp only
    omega
  · simp only [act] at hb ⊢
    simp at hb
    rw [right_iff] at h ⊢
    obtain ⟨⟨q1, q2, q3, q4, q5, q6, q7⟩, a1, a2, a3, a4, a5⟩ := h
    exact ⟨⟨q1, q2, q3, q4, q5, q6, by simp⟩, a1, a2, .inl hb.2, a4, a5⟩
  · simp only [act] at hb ⊢
    split at hb
    · rename_i hc
      rw [if_pos hc]
      simp at hc
      cases hf : lowFree s.streams more with
      | none => rw [hf] at hb; simp at hb
      | some k =>
        rw [right_iff] at h ⊢
        obtain ⟨⟨q1, q2, q3, q4, q5, q6, q7⟩, a1, a2, a3, a4, a5⟩ := h
        exact ⟨⟨q1, q2, setBit_bd q3 (lowFree_lt hf), q4, q5, q6, by simp⟩, .inl hc.1.1, a2, a3, a4, a5⟩
    · simp at hb
  · simp only [act] at hb ⊢
    split at hb
    · rename_i hc
      rw [if_pos hc]
      simp at hc
      rw [right_iff] at h ⊢
      obtain ⟨⟨q1, q2, q3, q4, q5, q6, q7⟩, a1, a2, a3, a4, a5⟩ := h
      exact ⟨⟨q1, q2, dropBit_bd q3 (show more.toNat < 8 by omega) hc.2, q4, q5, q6, by simp⟩, .inl hc.1.1.1, a2, a3, a4, a5⟩
    · simp at hb
  · simp only [act] at hb ⊢
    split
    · exact to_right h ho (by simp)
    · exact leased_right h ho
theorem step_right {d : Nat} (hd : Done d) {s : S} {own more : Int} (h : s.right = true) : (step s d own more).right = true := by
  unfold step
  cases hn : next s d own more with
  | none => exact h
  | some t =>
    unfold next nextOf at hn
    split at hn
    · rename_i hc
      have := act_right hd h ⟨hc.2.1, hc.2.2.1⟩ hc.2.2.2 (more := more)
      cases hn
      exact this
    · cases hn
theorem right_wf {s : S} (h : s.right = true) : s.wf := by
  rw [right_iff] at h
  obtain ⟨⟨q1, q2, q3, q4, q5, q6, q7⟩, _⟩ := h
  intro x hx
  have hb : ∀ b : Bool, bit b = 0 ∨ bit b = 1 := by decide
  have h1 := hb s.broken
  have h2 := hb s.marked
  simp only [S.nums, List.mem_cons, List.not_mem_nil, or_false] at hx
  omega
theorem zero_right : S.zero.right = true := by decide
theorem emptied_right {s : S} (h : s.right = true) : (emptied s).right = true := by
  rw [right_iff] at h ⊢
  simp [emptied, S.zero]
  omega
theorem turned_eq (ss : List S) (i d : Nat) (s : S) (own more : Int) (hi : ss[i]? = some s) : turned ss i (nextOf s own (act d s own more).1 (act d s own more).2) = turnL ss i d own more := by
  unfold turnL
  rw [hi]
  show turned ss i (next s d own more) = ss.set i (step s d own more)
  unfold step turned
  cases next s d own more with
  | some t => rfl
  | none =>
    obtain ⟨hl, hi⟩ := List.getElem?_eq_some_iff.1 hi
    subst hi
    simp
theorem turnL_len (ss : List S) (i d : Nat) (own more : Int) : (turnL ss i d own more).length = ss.length := by unfold turnL; split <;> simp
theorem turnL_right {ss : List S} {i d : Nat} {own more : Int} (hd : Done d) (h : ∀ s ∈ ss, s.right = true) : ∀ s ∈ turnL ss i d own more, s.right = true := by
  unfold turnL
  split
  · rename_i s hi
    intro x hx
    rcases List.mem_or_eq_of_mem_set hx with hx | rfl
    · exact h x hx
    · exact step_right hd (h s (List.mem_of_getElem? hi))
  · exact h

theorem act_any (d : Nat) (hd : Done d) (s : S) (own more : Int) : ∃ F, (∀ args w, (callFunc F args).run Tryz.prog w = .ok (.enter F args) w) ∧ acts[d]? = some (.func (.func F) #[] #[]) ∧
    (s.right = true → ∀ W, Calls Tryz.prog F #[cval s own more] W fun e W' => e = .returned (.tuple #[(act d s own more).1.val, .bool (act d s own more).2]) ∧ Below W.heap.size W W') := by
  have hu := fun h => (right_bounds (s := s) h).2.1
  have hg := fun h => (right_bounds (s := s) h).2.2.1
  have hm := fun h => (right_bounds (s := s) h).2.2.2.2.2
  rcases hd with rfl | rfl | rfl | rfl | rfl | rfl | rfl | rfl | rfl | rfl | rfl | rfl | rfl
  · exact ⟨_, enters_of Tryz.func111 (by kernel_rfl) rfl, rfl, fun h W => dial_any W s own more⟩
  · exact ⟨_, enters_of Tryz.func112 (by kernel_rfl) rfl, rfl, fun h W => up_any W s own more (hu h) (hg h)⟩
  · exact ⟨_, enters_of Tryz.func113 (by kernel_rfl) rfl, rfl, fun h W => fail_any W s own more⟩
  · exact ⟨_, enters_of Tryz.func114 (by kernel_rfl) rfl, rfl, fun h W => lease_any W s own more (hu h) (hg h)⟩
  · exact ⟨_, enters_of Tryz.func115 (by kernel_rfl) rfl, rfl, fun h W => rest_any W s own more⟩
  · exact ⟨_, enters_of Tryz.func116 (by kernel_rfl) rfl, rfl, fun h W => keep_any W s own more⟩
  · exact ⟨_, enters_of Tryz.func118 (by kernel_rfl) rfl, rfl, fun h W => hold_any W s own more⟩
  · exact ⟨_, enters_of Tryz.func120 (by kernel_rfl) rfl, rfl, fun h W => move_any W s own more⟩
  · exact ⟨_, enters_of Tryz.func121 (by kernel_rfl) rfl, rfl, fun h W => mark_any W s own more⟩
  · exact ⟨_, enters_of Tryz.func124 (by kernel_rfl) rfl, rfl, fun h W => broken_any W s own more⟩
  · exact ⟨_, enters_of Tryz.func125 (by kernel_rfl) rfl, rfl, fun h W => open_any W s own more (hm h)⟩
  · exact ⟨_, enters_of Tryz.func126 (by kernel_rfl) rfl, rfl, fun h W => shut_any W s own more (hm h)⟩
  · refine ⟨_, enters_of Tryz.func127 (by kernel_rfl) rfl, rfl, fun h W => (take_any W s own more (hu h) (hg h)).mono ?_⟩
    rintro e W' ⟨rfl, hb⟩
    refine ⟨?_, hb⟩
    simp only [act]
    split <;> rfl

/-- Next, of package life. -/
theorem life_next (W : World) (s : S) (d : Nat) (dz own more : Int) (hd : Done d) (hdz : dz = d) (hr : s.right = true) (hL : Laid W) : Calls Tryz.prog 94 #[s.val, .int .i64 dz, .int .i64 own, .int .i64 more] W fun e W' =>
    e = .returned (.tuple #[((next s d own more).getD S.zero).val, .bool (next s d own more).isSome]) ∧ Below W.heap.size W W' := by
  subst hdz
  obtain ⟨F, h1, h2, h3⟩ := act_any d hd s own more
  exact next_gen W s own more F d _ _ (by unfold Done at hd; omega) h1 h2 hL (right_wf hr) h3
section
variable {W : World} {p : Pl} {m : M}
theorem MAt.hdr (h : MAt W p m) : Hdr W p.mb p.sb m.ss.length := h.hd.c5
theorem MAt.whdr (h : MAt W p m) : WHdr W p.mb p.kb m.ks.length := h.hd.c6
theorem MAt.post0 (h : MAt W p m) {W' : World} {m' : M} {ans : Value} (h' : MAt W' p m') (hc : Chg (mfp p) W W') : MPost W p ans m' (.returned ans) W' :=
  ⟨rfl, p.lv, p.rv, h', fun _ h => .inl h, fun _ h => .inl h, hc⟩
theorem m_turn (h : MAt W p m) (i d : Nat) (iz dz own more : Int) (s : S) (hi : m.ss[i]? = some s) (hiz : iz = i) (hdz : dz = d) (hd : Done d) :
    Calls Tryz.prog 63 #[.pointer (some ⟨p.mb, 0, none⟩), .int .i64 iz, .int .i64 dz, .int .i64 own, .int .i64 more] W (MPost W p (.bool (next s d own more).isSome) (m.turn i d own more)) := by
  subst hiz hdz
  have hr := h.ok.rights s (List.mem_of_getElem? hi)
  obtain ⟨F, h1, h2, h3⟩ := act_any d hd s own more
  refine (turn_any W p.mb p.sb m.ss i s own more F d _ _ h.hdr h.slots hi (by have := h.ok.ns; omega) h.ne.2.1 (by unfold Done at hd; omega) h1 h2 h.laid (right_wf hr) h3).mono ?_
  rintro e W' ⟨rfl, hs, hc⟩
  rw [turned_eq _ _ _ _ _ _ hi] at hs
  exact h.post0 (h.toSlots hc hs (turnL_len _ _ _ _ _) (turnL_right hd h.ok.rights)) (hc.mono fun k _ e => .inr (.inl e))
theorem set_right {ss : List S} {i : Nat} {s : S} (h : ∀ s ∈ ss, s.right = true) (hs : s.right = true) : ∀ x ∈ ss.set i s, x.right = true := by
  intro x hx
  rcases List.mem_or_eq_of_mem_set hx with hx | rfl
  · exact h x hx
  · exact hs
theorem M.slot_of {i : Nat} {s : S} (hi : m.ss[i]? = some s) : m.slot i = s := by unfold M.slot; rw [hi]; rfl
theorem m_empty (h : MAt W p m) (i : Nat) (iz : Int) (s : S) (hi : m.ss[i]? = some s) (hiz : iz = i) :
    Calls Tryz.prog 82 #[.pointer (some ⟨p.mb, 0, none⟩), .int .i64 iz] W fun e W' => (∃ v, e = .returned v) ∧ MAt W' p (m.empty i) ∧ Chg (fun k => k = p.sb) W W' := by
  subst hiz
  refine (empty_any W p.mb p.sb m.ss i s h.hdr h.slots hi (by have := h.ok.ns; omega)).mono ?_
  rintro e W' ⟨hv, hs, hc⟩
  refine ⟨hv, ?_, hc⟩
  have := h.toSlots hc hs (by simp) (set_right h.ok.rights (emptied_right (h.ok.rights s (List.mem_of_getElem? hi))))
  rw [← M.slot_of hi] at this
  exact this
theorem m_leased (h : MAt W p m) (i : Nat) (iz : Int) (s : S) (hi : m.ss[i]? = some s) (hiz : iz = i) :
    Calls Tryz.prog 88 #[.pointer (some ⟨p.mb, 0, none⟩), .int .i64 iz] W fun e W' => e = .returned (m.leased i).val ∧ Below W.heap.size W W' := by
  subst hiz
  refine (model_leased W p.mb p.sb m.ss i s h.hdr h.slots hi (by have := h.ok.ns; omega)).mono ?_
  rintro e W' ⟨rfl, hb⟩
  exact ⟨by unfold M.leased; rw [M.slot_of hi], hb⟩
theorem m_first (h : MAt W p m) (kind own : Int) (hk : kind = 0 ∨ kind = 1 ∨ kind = 2 ∨ kind = 3 ∨ kind = 4 ∨ kind = 6) :
    Calls Tryz.prog 83 #[.pointer (some ⟨p.mb, 0, none⟩), .int .i64 kind, .int .i64 own] W fun e W' =>
      e = .returned (.tuple #[.int .i64 ((m.first kind own).getD 0), .bool (m.first kind own).isSome]) ∧ Below W.heap.size W W' :=
  first_any W p.mb p.sb m.ss kind own hk (by have := h.ok.ns; omega) h.hdr h.slots (h.lt (.inr (.inl rfl)))
theorem m_has (h : MAt W p m) (who : Int) : Calls Tryz.prog 39 #[.pointer (some ⟨p.mb, 0, none⟩), .int .i64 who] W fun e W' => e = .returned (.bool (m.has who)) ∧ W = W' := has_any W p.mb p.kb m.ks.length who h.whdr
end
end Go.Proofs.YtpmkgddjgebojaaGreatDoor.Mod

namespace Go.Proofs.YtpmkgddjgebojaaGreatDoor.Mod
set_option linter.unusedVariables false
set_option linter.unusedSimpArgs false
open Go.RowKit Hp Slot RowL Life

theorem step_eq {d : Nat} {s : S} {own more : Int} (h : s.right = true) (ho : 0 ≤ own ∧ own ≤ 15) : step s d own more = if (act d s own more).2 = true then { (act d s own more).1 with version := 0 } else s := by
  unfold step next nextOf
  cases hb : (act d s own more).2
  · simp
  · simp [h, ho.1, ho.2]
theorem step_lease {s : S} {own more : Int} (h : s.right = true) (ho : 0 ≤ own ∧ own ≤ 15) (h2 : s.state = 2) (hb : s.broken = false) : step s 3 own more = { leased s own with version := 0 } := by
  rw [step_eq h ho]; simp [act, h2, hb]
theorem step_rest {s : S} {own more : Int} (h : s.right = true) (ho : 0 ≤ own ∧ own ≤ 15) (h2 : s.state = 3) (hb : s.own = own) (hs : s.streams = 0) : step s 4 own more = { «to» s own 2 with version := 0 } := by
  rw [step_eq h ho]; simp [act, h2, hb, hs]
theorem step_keep {s : S} {own more : Int} (h : s.right = true) (ho : 0 ≤ own ∧ own ≤ 15) (h2 : s.state = 2) (hb : s.broken = false) : step s 5 own more = { «to» s own 4 with version := 0 } := by
  rw [step_eq h ho]; simp [act, h2, hb]
theorem step_hold {s : S} {own more : Int} (h : s.right = true) (ho : 0 ≤ own ∧ own ≤ 15) (h2 : s.state = 0) : step s 7 own more = { «to» s own 5 with version := 0 } := by
  rw [step_eq h ho]; simp [act, h2]
theorem step_move {s : S} {own more : Int} (h : s.right = true) (ho : 0 ≤ own ∧ own ≤ 15) (h2 : s.state = 2) : step s 9 own more = { «to» s own 2 with version := 0 } := by
  rw [step_eq h ho]; simp [act, h2]
theorem step_mark {s : S} {own more : Int} (h : s.right = true) (ho : 0 ≤ own ∧ own ≤ 15) (h2 : s.state = 2) (hm : s.marked = false) : step s 10 own more = { s with marked := true, version := 0 } := by
  rw [step_eq h ho]; simp [act, h2, hm]
theorem step_dial {s : S} {own more : Int} (h : s.right = true) (ho : 0 ≤ own ∧ own ≤ 15) (h2 : s.state = 0) : step s 0 own more = { «to» s own 1 with version := 0 } := by
  rw [step_eq h ho]; simp [act, h2]
theorem step_up {s : S} {own more : Int} (h : s.right = true) (ho : 0 ≤ own ∧ own ≤ 15) (h2 : s.state = 1) (hb : s.own = own) : step s 1 own more = { leased s own with version := 0 } := by
  rw [step_eq h ho]; simp [act, h2, hb]
theorem step_fail {s : S} {own more : Int} (h : s.right = true) (ho : 0 ≤ own ∧ own ≤ 15) (h2 : s.state = 1) (hb : s.own = own) : step s 2 own more = { «to» s own 0 with version := 0 } := by
  rw [step_eq h ho]; simp [act, h2, hb]
theorem step_take4 {s : S} {own more : Int} (h : s.right = true) (ho : 0 ≤ own ∧ own ≤ 15) (h2 : s.state = 4) (hb : s.own = own) : step s 16 own more = { leased s own with version := 0 } := by
  rw [step_eq h ho]; simp [act, h2, hb]
theorem step_take5 {s : S} {own more : Int} (h : s.right = true) (ho : 0 ≤ own ∧ own ≤ 15) (h2 : s.state = 5) (hb : s.own = own) : step s 16 own more = { «to» s own 1 with version := 0 } := by
  rw [step_eq h ho]; simp [act, h2, hb]
/-- What breaks is at what it was, and whose it was. -/
theorem step_break {s : S} {own more : Int} : (step s 13 own more).state = s.state ∧ (step s 13 own more).own = s.own ∧ (step s 13 own more).gen = s.gen ∧ (s.broken = true → (step s 13 own more).broken = true) ∧ (step s 13 own more).marked = s.marked := by
  unfold step next nextOf
  split
  · rename_i hx
    split at hx
    · cases hx; simp [act]
    · cases hx
  · simp
theorem step_open {s : S} {own more : Int} : (step s 14 own more).state = s.state ∧ (step s 14 own more).own = s.own ∧ (step s 14 own more).gen = s.gen := by
  unfold step next nextOf
  split
  · rename_i hx
    split at hx
    · cases hx
      simp only [act]
      split
      · split <;> simp
      · simp
    · cases hx
  · simp
theorem step_shut {s : S} {own more : Int} : (step s 15 own more).state = s.state ∧ (step s 15 own more).own = s.own ∧ (step s 15 own more).gen = s.gen := by
  unfold step next nextOf
  split
  · rename_i hx
    split at hx
    · cases hx
      simp only [act]
      split <;> simp
    · cases hx
  · simp

/-- A slot that is nobody's to take: Empty, Idle, or Leased. -/
def nf (s : S) : Prop := s.state = 0 ∨ s.state = 2 ∨ s.state = 3
def For (s : S) (w : Nat) : Prop := (s.state = 4 ∨ s.state = 5) ∧ s.own = (w : Int)
def Gr (ks : List Wk) (w i : Nat) : Prop := ∃ k, ks[w]? = some k ∧ k.at' = 2 ∧ k.slot = (i : Int)
theorem nf_for {s : S} {w : Nat} (h : nf s) : ¬ For s w := by unfold nf For at *; omega

/-- What always holds but where it isn't tidied up. -/
structure Mid (m : M) : Prop where
  nk : m.ks.length ≤ 8
  ns : m.ss.length ≤ 16
  rt : ∀ s ∈ m.ss, s.right = true
  lb : ∀ x ∈ m.line, 0 ≤ x ∧ x < (m.ks.length : Int)
  cls : m.closed = 0 ∨ m.closed = 1 ∨ m.closed = 2
  sts : ∀ s ∈ m.ss, nf s ∨ s.state = 4 ∨ s.state = 5
  fw : ∀ (i : Nat) (s : S), m.ss[i]? = some s → ∀ w : Nat, For s w ↔ Gr m.ks w i
  gi : ∀ (w : Nat) (k : Wk), m.ks[w]? = some k → k.at' = 2 → ∃ i : Nat, k.slot = (i : Int) ∧ i < m.ss.length
  ats : ∀ k ∈ m.ks, k.at' = 0 ∨ k.at' = 1 ∨ k.at' = 2 ∨ k.at' = 3
  ln : ∀ (w : Nat) (k : Wk), m.ks[w]? = some k → (k.at' = 1 ↔ (w : Int) ∈ m.line)
  nd : m.line.Nodup
  dl : ∀ k ∈ m.ks, k.ask.deadline ≤ 255
  cap : m.line.length ≤ m.cf.waiters
  cl : m.closed ≠ 0 → m.line = []
/-- What holds where it is tidied up. -/
structure Tidied (m : M) : Prop where
  fair : m.line ≠ [] → ∀ s ∈ m.ss, Find.fits s 3 0 = false
  cl1 : m.closed ≠ 0 → ∀ s ∈ m.ss, s.state ≠ 2
  cl2 : m.closed = 2 → ∀ s ∈ m.ss, s.state ≠ 3

/-- Of slots some are turned. -/
def Upd (R : Nat → S → S → Prop) (ss ss' : List S) : Prop := ss'.length = ss.length ∧ ∀ (i : Nat) (s : S), ss[i]? = some s → ∃ s', ss'[i]? = some s' ∧ R i s s'
theorem Upd.back {R : Nat → S → S → Prop} {ss ss' : List S} (h : Upd R ss ss') {i : Nat} {s' : S} (hi : ss'[i]? = some s') : ∃ s, ss[i]? = some s ∧ R i s s' := by
  have hl : i < ss.length := by have := (List.getElem?_eq_some_iff.1 hi).1; have := h.1; omega
  obtain ⟨t, h1, h2⟩ := h.2 i ss[i] (List.getElem?_eq_getElem hl)
  rw [hi] at h1
  cases h1
  exact ⟨_, List.getElem?_eq_getElem hl, h2⟩
theorem Upd.mono {R R' : Nat → S → S → Prop} {ss ss' : List S} (h : Upd R ss ss') (hR : ∀ i s s', ss[i]? = some s → R i s s' → R' i s s') : Upd R' ss ss' :=
  ⟨h.1, fun i s hi => by obtain ⟨s', h1, h2⟩ := h.2 i s hi; exact ⟨s', h1, hR i s s' hi h2⟩⟩
theorem Upd.trans {R R' Q : Nat → S → S → Prop} {a b c : List S} (h : Upd R a b) (k : Upd R' b c) (hQ : ∀ i s t u, a[i]? = some s → R i s t → R' i t u → Q i s u) : Upd Q a c :=
  ⟨k.1.trans h.1, fun i s hi => by
    obtain ⟨t, h1, h2⟩ := h.2 i s hi
    obtain ⟨u, h3, h4⟩ := k.2 i t h1
    exact ⟨u, h3, hQ i s t u hi h2 h4⟩⟩
theorem Upd.refl (ss : List S) : Upd (fun _ s s' => s' = s) ss ss := ⟨rfl, fun i s h => ⟨s, h, rfl⟩⟩
theorem upd_set {ss : List S} {i : Nat} {t : S} : Upd (fun j s s' => (j = i ∧ s' = t) ∨ (j ≠ i ∧ s' = s)) ss (ss.set i t) := by
  refine ⟨by simp, fun j s hj => ?_⟩
  have hl := (List.getElem?_eq_some_iff.1 hj).1
  rw [List.getElem?_set]
  by_cases h : i = j
  · subst h; simp [hl]
  · rw [if_neg h]; exact ⟨s, hj, .inr ⟨fun e => h e.symm, rfl⟩⟩
theorem upd_turn {ss : List S} {i d : Nat} {own more : Int} : Upd (fun j s s' => (j = i ∧ s' = step s d own more) ∨ (j ≠ i ∧ s' = s)) ss (turnL ss i d own more) := by
  unfold turnL
  cases hs : ss[i]? with
  | none => exact (Upd.refl ss).mono fun j s s' hj h => .inr ⟨fun e => (by rw [e, hs] at hj; cases hj), h⟩
  | some t =>
    refine upd_set.mono fun j s s' hj h => ?_
    rcases h with ⟨rfl, h⟩ | h
    · rw [hs] at hj; cases hj; exact .inl ⟨rfl, h⟩
    · exact .inr h
theorem upd_map {ss : List S} {f : S → S} : Upd (fun _ s s' => s' = f s) ss (ss.map f) := ⟨by simp, fun i s h => ⟨f s, by simp [h], rfl⟩⟩
theorem upd_move {victim who : Int} : ∀ (b : Bool) (ss : List S), Upd (fun _ s s' => s' = s ∨ (Find.fits s 0 victim = true ∧ s' = step s 9 who 0)) ss (M.moveL victim who b ss)
  | _, [] => ⟨rfl, fun i s h => by simp at h⟩
  | b, s :: l => by
    unfold M.moveL
    split
    · rename_i hf
      obtain ⟨h1, h2⟩ := upd_move (victim := victim) (who := who) (!b) l
      refine ⟨by simp [h1], fun i t hi => ?_⟩
      cases i with
      | zero =>
        obtain rfl : s = t := by simpa using hi
        refine ⟨_, rfl, ?_⟩
        cases b
        · exact .inl rfl
        · exact .inr ⟨hf, rfl⟩
      | succ i => simpa using h2 i t (by simpa using hi)
    · obtain ⟨h1, h2⟩ := upd_move (victim := victim) (who := who) b l
      refine ⟨by simp [h1], fun i t hi => ?_⟩
      cases i with
      | zero => obtain rfl : s = t := by simpa using hi
                exact ⟨_, rfl, .inl rfl⟩
      | succ i => simpa using h2 i t (by simpa using hi)
theorem upd_reap {who : Int} : ∀ (a : List Bool) (n : Int) (ss : List S), Upd (fun _ s s' => (Find.fits s 6 who = false ∧ s' = s) ∨ (Find.fits s 6 who = true ∧ ((s.marked = false ∧ s.broken = false ∧ s' = step s 10 who 0) ∨ s' = emptied s))) ss (M.reapL who a n ss).1
  | _, _, [] => ⟨rfl, fun i s h => by simp at h⟩
  | a, n, s :: l => by
    unfold M.reapL
    split
    · rename_i hf
      split
      · rename_i hc
        obtain ⟨h1, h2⟩ := upd_reap (who := who) a.tail n l
        refine ⟨by simp [h1], fun i t hi => ?_⟩
        cases i with
        | zero =>
          obtain rfl : s = t := by simpa using hi
          simp at hc
          exact ⟨_, rfl, .inr ⟨hf, .inl ⟨hc.2.1, hc.2.2, rfl⟩⟩⟩
        | succ i => simpa using h2 i t (by simpa using hi)
      · obtain ⟨h1, h2⟩ := upd_reap (who := who) a.tail (n + 1) l
        refine ⟨by simp [h1], fun i t hi => ?_⟩
        cases i with
        | zero =>
          obtain rfl : s = t := by simpa using hi
          exact ⟨_, rfl, .inr ⟨hf, .inr rfl⟩⟩
        | succ i => simpa using h2 i t (by simpa using hi)
    · rename_i hf
      obtain ⟨h1, h2⟩ := upd_reap (who := who) a n l
      refine ⟨by simp [h1], fun i t hi => ?_⟩
      cases i with
      | zero => obtain rfl : s = t := by simpa using hi
                exact ⟨_, rfl, .inl ⟨by simpa using hf, rfl⟩⟩
      | succ i => simpa using h2 i t (by simpa using hi)

theorem mem_get {α : Type} {l : List α} {x : α} (h : x ∈ l) : ∃ i : Nat, l[i]? = some x := List.getElem?_of_mem h
theorem get_mem {α : Type} {l : List α} {x : α} {i : Nat} (h : l[i]? = some x) : x ∈ l := List.mem_of_getElem? h

/-- Slots are turned, but of who may take which nothing is. -/
def quiet (s s' : S) : Prop := s'.right = true ∧ ((s'.state = s.state ∧ s'.own = s.own) ∨ (nf s ∧ nf s'))
theorem quiet.trans {a b c : S} (h : quiet a b) (k : quiet b c) : quiet a c := by
  refine ⟨k.1, ?_⟩
  have h2 := h.2
  have k2 := k.2
  unfold nf at *
  rcases h2 with h2 | h2 <;> rcases k2 with k2 | k2
  · exact .inl ⟨k2.1.trans h2.1, k2.2.trans h2.2⟩
  · exact .inr (by omega)
  · exact .inr (by omega)
  · exact .inr (by omega)
theorem quiet.refl {s : S} (h : s.right = true) : quiet s s := ⟨h, .inl ⟨rfl, rfl⟩⟩
theorem Mid.slots {m : M} (h : Mid m) {ss' : List S} (hu : Upd (fun _ s s' => quiet s s') m.ss ss') : Mid { m with ss := ss' } := by
  refine ⟨h.nk, by have := hu.1; have := h.ns; simp only; omega, fun s' hs' => ?_, h.lb, h.cls, fun s' hs' => ?_, fun i s' hi w => ?_, fun w k hk h2 => ?_, h.ats, h.ln, h.nd, h.dl, h.cap, h.cl⟩
  · obtain ⟨i, hi⟩ := mem_get hs'
    obtain ⟨s, h1, h2⟩ := hu.back hi
    exact h2.1
  · obtain ⟨i, hi⟩ := mem_get hs'
    obtain ⟨s, h1, h2⟩ := hu.back hi
    have h3 := h.sts s (get_mem h1)
    have h4 := h2.2
    unfold nf at *
    omega
  · obtain ⟨s, h1, h2⟩ := hu.back hi
    rw [← h.fw i s h1 w]
    have h4 := h2.2
    unfold nf For at *
    omega
  · obtain ⟨i, h3, h4⟩ := h.gi w k hk h2
    exact ⟨i, h3, by simpa [hu.1] using h4⟩

theorem emptied_nf (s : S) : nf (emptied s) := .inl rfl
theorem swept_nf {s : S} {c : Int} (h : Find.fits s 4 c = true) : nf s := by
  simp [Find.fits, Find.swept] at h
  unfold nf
  split at h
  · rename_i hs; exact .inr (.inl (by simpa using hs))
  · exact .inr (.inr h.1)
theorem Mid.sweep {m : M} (h : Mid m) : Mid m.sweep := by
  refine h.slots (upd_map.mono fun i s s' hi e => ?_)
  have hr := h.rt s (get_mem hi)
  subst e
  split
  · rename_i hf; exact ⟨emptied_right hr, .inr ⟨swept_nf hf, emptied_nf s⟩⟩
  · exact quiet.refl hr

theorem first_some' {kind own : Int} : ∀ {ss : List S} {i : Nat}, firstAt kind own ss = some i → ∃ s, ss[i]? = some s ∧ Find.fits s kind own = true
  | [], i, h => by cases h
  | s :: l, i, h => by
    rw [firstAt] at h
    split at h
    · rename_i hf; cases h; exact ⟨s, rfl, hf⟩
    · cases hx : firstAt kind own l with
      | none => rw [hx] at h; cases h
      | some j =>
        rw [hx] at h
        simp at h
        subst h
        obtain ⟨t, h1, h2⟩ := first_some' hx
        exact ⟨t, by simpa using h1, h2⟩
theorem first_none' {kind own : Int} : ∀ {ss : List S}, firstAt kind own ss = none → ∀ s ∈ ss, Find.fits s kind own = false
  | [], _, s, hs => by cases hs
  | t :: l, h, s, hs => by
    rw [firstAt] at h
    split at h
    · cases h
    · rename_i hf
      have hx : firstAt kind own l = none := by simpa using h
      rcases List.mem_cons.1 hs with rfl | hs
      · simpa using hf
      · exact first_none' hx s hs
theorem some_fits {s : S} (h : Find.fits s 3 0 = true) : (s.state = 2 ∧ s.broken = false) ∨ s.state = 0 := by
  simpa [Find.fits, Find.sound] using h

/-- A worker in the line is granted a slot. -/
theorem Mid.grant1 {m : M} (h : Mid m) {who : Int} {l : List Int} (hl : m.line = who :: l) {i : Nat} {s : S} (hi : m.ss[i]? = some s) (hf : Find.fits s 3 0 = true) :
    Mid { m with line := l, ss := turnL m.ss i (if (m.ss[i]?.getD S.zero).state = 2 then 5 else 7) who 0, ks := m.ks.set who.toNat { m.ks[who.toNat]?.getD Wk.zero with at' := 2, slot := i } } := by
  obtain ⟨hw0, hw1⟩ := h.lb who (by rw [hl]; simp)
  obtain ⟨n, rfl⟩ := Int.eq_ofNat_of_zero_le hw0
  have hnl : n < m.ks.length := by omega
  have hnk := h.nk
  have hr := h.rt s (get_mem hi)
  have ho : (0 : Int) ≤ (n : Int) ∧ (n : Int) ≤ 15 := by omega
  obtain ⟨k0, hk0⟩ : ∃ k, m.ks[n]? = some k := ⟨_, List.getElem?_eq_getElem hnl⟩
  have hk1 : k0.at' = 1 := (h.ln n k0 hk0).2 (by rw [hl]; simp)
  have hil : i < m.ss.length := (List.getElem?_eq_some_iff.1 hi).1
  simp only [hi, Option.getD_some, Int.toNat_natCast, hk0]
  have hst : (step s (if s.state = 2 then 5 else 7) n 0).right = true ∧ ((step s (if s.state = 2 then 5 else 7) n 0).state = 4 ∨ (step s (if s.state = 2 then 5 else 7) n 0).state = 5) ∧ (step s (if s.state = 2 then 5 else 7) n 0).own = (n : Int) := by
    refine ⟨step_right (by split <;> simp [Done]) hr, ?_⟩
    rcases some_fits hf with ⟨h2, hb⟩ | h0
    · rw [if_pos h2, step_keep hr ho h2 hb]; simp [«to»]
    · rw [if_neg (by omega), step_hold hr ho h0]; simp [«to»]
  have hup : Upd (fun j u u' => (j = i ∧ u' = step s (if s.state = 2 then 5 else 7) n 0) ∨ (j ≠ i ∧ u' = u)) m.ss (turnL m.ss i (if s.state = 2 then 5 else 7) n 0) := upd_turn.mono fun j u u' hj e => by
    rcases e with ⟨rfl, e⟩ | e
    · rw [hi] at hj; cases hj; exact .inl ⟨rfl, e⟩
    · exact .inr e
  have hnd : (n : Int) ∉ l ∧ l.Nodup := by have := h.nd; rw [hl] at this; simpa using this
  have hcl : m.closed = 0 := Classical.byContradiction fun hc => by have := h.cl hc; rw [hl] at this; cases this
  have hnfs : nf s := by rcases some_fits hf with ⟨h2, hb⟩ | h0; exact .inr (.inl h2); exact .inl h0
  generalize step s (if s.state = 2 then 5 else 7) n 0 = t at *
  have hget : ∀ (w : Nat) (k : Wk), (m.ks.set n { k0 with at' := 2, slot := (i : Int) })[w]? = some k → (w = n ∧ k = { k0 with at' := 2, slot := (i : Int) }) ∨ (w ≠ n ∧ m.ks[w]? = some k) := fun w k hk => by
    rw [List.getElem?_set] at hk
    by_cases e : n = w
    · subst e; simp [hnl] at hk; exact .inl ⟨rfl, hk.symm⟩
    · rw [if_neg e] at hk; exact .inr ⟨fun h => e h.symm, hk⟩
  have hput : ∀ (w : Nat) (k : Wk), w ≠ n → m.ks[w]? = some k → (m.ks.set n { k0 with at' := 2, slot := (i : Int) })[w]? = some k := fun w k hw hk => by
    rw [List.getElem?_set, if_neg (fun e => hw e.symm)]; exact hk
  have hputn : (m.ks.set n { k0 with at' := 2, slot := (i : Int) })[n]? = some { k0 with at' := 2, slot := (i : Int) } := by rw [List.getElem?_set]; simp [hnl]
  refine ⟨by simpa using h.nk, by have := hup.1; have := h.ns; simp only; omega, fun s' hs' => ?_, fun x hx => ?_, h.cls, fun s' hs' => ?_, fun j s' hj w => ?_, fun w k hk h2 => ?_, fun k hk => ?_, fun w k hk => ?_, hnd.2, fun k hk => ?_, ?_, fun hc => absurd hcl hc⟩
  · obtain ⟨j, hj⟩ := mem_get hs'
    obtain ⟨u, h1, h2⟩ := hup.back hj
    rcases h2 with ⟨rfl, rfl⟩ | ⟨_, rfl⟩
    · rw [hi] at h1; cases h1; exact hst.1
    · exact h.rt _ (get_mem h1)
  · simpa using h.lb x (by rw [hl]; simp [hx])
  · obtain ⟨j, hj⟩ := mem_get hs'
    obtain ⟨u, h1, h2⟩ := hup.back hj
    rcases h2 with ⟨rfl, rfl⟩ | ⟨_, rfl⟩
    · rw [hi] at h1; cases h1; exact .inr hst.2.1
    · exact h.sts _ (get_mem h1)
  · obtain ⟨u, h1, h2⟩ := hup.back hj
    rcases h2 with ⟨rfl, e⟩ | ⟨hne, rfl⟩
    · rw [hi] at h1
      cases h1
      subst e
      constructor
      · rintro ⟨h3, h4⟩
        rw [hst.2.2] at h4
        obtain rfl : n = w := by omega
        exact ⟨_, hputn, rfl, rfl⟩
      · rintro ⟨k, hk, hk2, hk3⟩
        rcases hget w k hk with ⟨rfl, _⟩ | ⟨hw, hk'⟩
        · exact ⟨hst.2.1, hst.2.2⟩
        · exact absurd ((h.fw _ _ hi w).2 ⟨k, hk', hk2, hk3⟩) (nf_for hnfs)
    · rw [h.fw j s' h1 w]
      constructor
      · rintro ⟨k, hk, hk2, hk3⟩
        refine ⟨k, hput w k (fun e => ?_) hk, hk2, hk3⟩
        subst e
        rw [hk0] at hk; cases hk; omega
      · rintro ⟨k, hk, hk2, hk3⟩
        rcases hget w k hk with ⟨rfl, rfl⟩ | ⟨hw, hk'⟩
        · simp only at hk3; omega
        · exact ⟨k, hk', hk2, hk3⟩
  · rcases hget w k hk with ⟨rfl, rfl⟩ | ⟨hw, hk'⟩
    · exact ⟨i, rfl, by simpa [hup.1] using hil⟩
    · obtain ⟨j, h3, h4⟩ := h.gi w k hk' h2
      exact ⟨j, h3, by simpa [hup.1] using h4⟩
  · obtain ⟨w, hw⟩ := mem_get hk
    rcases hget w k hw with ⟨rfl, rfl⟩ | ⟨_, hk'⟩
    · exact .inr (.inr (.inl rfl))
    · exact h.ats k (get_mem hk')
  · rcases hget w k hk with ⟨rfl, rfl⟩ | ⟨hw, hk'⟩
    · simp only
      constructor
      · intro h; omega
      · intro hm; exact absurd hm hnd.1
    · rw [h.ln w k hk', hl]
      simp
      omega
  · obtain ⟨w, hw⟩ := mem_get hk
    rcases hget w k hw with ⟨rfl, rfl⟩ | ⟨_, hk'⟩
    · exact h.dl k0 (get_mem hk0)
    · exact h.dl k (get_mem hk')
  · have := h.cap; rw [hl] at this; simp at this ⊢; omega

theorem grantL_mid : ∀ (l : List Int) (m : M), m.line = l → Mid m → Mid { m with ss := (M.grantL l m.ss m.ks).1, ks := (M.grantL l m.ss m.ks).2.1, line := (M.grantL l m.ss m.ks).2.2 }
  | [], m, hl, h => by simpa [M.grantL, ← hl] using h
  | who :: l, m, hl, h => by
    unfold M.grantL
    split
    · simpa [← hl] using h
    · rename_i i hi
      obtain ⟨s, h1, h2⟩ := first_some' hi
      exact grantL_mid l _ rfl (h.grant1 hl h1 h2)
theorem Mid.grant {m : M} (h : Mid m) : Mid m.grant := by
  unfold M.grant
  split
  · exact grantL_mid _ m rfl h
  · exact h
theorem Mid.tidy {m : M} (h : Mid m) : Mid m.tidy := h.sweep.grant
theorem grantL_end : ∀ (l : List Int) (ss : List S) (ks : List Wk), (M.grantL l ss ks).2.2 = [] ∨ ∀ s ∈ (M.grantL l ss ks).1, Find.fits s 3 0 = false
  | [], ss, ks => .inl rfl
  | who :: l, ss, ks => by
    unfold M.grantL
    split
    · rename_i hn; exact .inr (first_none' hn)
    · exact grantL_end l _ _
theorem Mid.tidied {m : M} (h : Mid m) : Tidied m.tidy := by
  have hc := h.cls
  have hcl := h.cl
  refine ⟨fun hl => ?_, fun h1 s hs => ?_, fun h2 s hs => ?_⟩
  · unfold M.tidy M.grant at hl ⊢
    split at hl
    · rename_i h0
      rw [if_pos h0]
      exact (grantL_end _ _ _).resolve_left hl
    · rename_i h0
      exact absurd (hcl h0) hl
  · have hcm : m.closed ≠ 0 := by unfold M.tidy M.grant at h1; split at h1 <;> exact h1
    have he : m.tidy.ss = m.sweep.ss := by unfold M.tidy M.grant; rw [if_neg (show ¬ m.sweep.closed = 0 from hcm)]
    rw [he] at hs
    simp only [M.sweep, List.mem_map] at hs
    obtain ⟨t, ht, rfl⟩ := hs
    split
    · simp [emptied, S.zero]
    · rename_i hf
      intro e
      apply hf
      rcases hc with hc | hc | hc
      · exact absurd hc hcm
      · simp [Find.fits, Find.swept, e, hc]
      · simp [Find.fits, Find.swept, e, hc]
  · have hcm : m.closed = 2 := by unfold M.tidy M.grant at h2; split at h2 <;> exact h2
    have he : m.tidy.ss = m.sweep.ss := by unfold M.tidy M.grant; rw [if_neg (show ¬ m.sweep.closed = 0 from fun e => by rw [show m.sweep.closed = m.closed from rfl] at e; omega)]
    rw [he] at hs
    simp only [M.sweep, List.mem_map] at hs
    obtain ⟨t, ht, rfl⟩ := hs
    split
    · simp [emptied, S.zero]
    · rename_i hf
      intro e
      apply hf
      simp [Find.fits, Find.swept, e, hcm]
/-- What always holds. -/
structure Inv (m : M) : Prop extends Mid m, Tidied m
theorem Mid.inv {m : M} (h : Mid m) : Inv m.tidy := { toMid := h.tidy, toTidied := h.tidied }
theorem tidy_cf (m : M) : m.tidy.cf = m.cf := by unfold M.tidy M.grant; split <;> rfl
theorem tidy_closed (m : M) : m.tidy.closed = m.closed := by unfold M.tidy M.grant; split <;> rfl
theorem tidy_now (m : M) : m.tidy.now = m.now := by unfold M.tidy M.grant; split <;> rfl
theorem tidy_ahead (m : M) : m.tidy.ahead = m.ahead := by unfold M.tidy M.grant; split <;> rfl
end Go.Proofs.YtpmkgddjgebojaaGreatDoor.Mod

namespace Go.Proofs.YtpmkgddjgebojaaGreatDoor.Mod
set_option linter.unusedVariables false
set_option linter.unusedSimpArgs false
open Go.RowKit Hp Slot RowL Life

theorem Mid.out {m : M} (h : Mid m) (a : List Bool) (n : Int) : Mid { m with ahead := a, now := n } :=
  ⟨h.nk, h.ns, h.rt, h.lb, h.cls, h.sts, h.fw, h.gi, h.ats, h.ln, h.nd, h.dl, h.cap, h.cl⟩
theorem turnL_set {ss : List S} {i d : Nat} {own more : Int} {s : S} (hi : ss[i]? = some s) : turnL ss i d own more = ss.set i (step s d own more) := by unfold turnL; rw [hi]
theorem set_get {ss : List S} {i : Nat} {s t : S} (hi : ss[i]? = some s) : (ss.set i t)[i]? = some t := by
  have := (List.getElem?_eq_some_iff.1 hi).1
  simp [this]
theorem slot_of {m : M} {i : Nat} {s : S} (hi : m.ss[i]? = some s) : m.slot i = s := by unfold M.slot; rw [hi]; rfl
theorem Mid.set1 {m : M} (h : Mid m) {i : Nat} {s t : S} (hi : m.ss[i]? = some s) (hq : quiet s t) : Mid { m with ss := m.ss.set i t } :=
  h.slots (upd_set.mono fun j u u' hj e => by
    rcases e with ⟨rfl, rfl⟩ | ⟨_, rfl⟩
    · rw [hi] at hj; cases hj; exact hq
    · exact quiet.refl (h.rt _ (get_mem hj)))
theorem Mid.own {m : M} (h : Mid m) {n : Nat} (hn : n < m.ks.length) : (0 : Int) ≤ (n : Int) ∧ (n : Int) ≤ 15 := by have := h.nk; omega
theorem has_nat {m : M} {who : Int} (h : m.has who = true) : ∃ n : Nat, who = (n : Int) ∧ n < m.ks.length := by
  simp [M.has] at h
  obtain ⟨n, hn⟩ := Int.eq_ofNat_of_zero_le h.1
  exact ⟨n, hn, by omega⟩
theorem worker_of {m : M} {n : Nat} {k : Wk} (h : m.ks[n]? = some k) : m.worker n = k := by unfold M.worker; simp [h]

/-- What comes of dialing. -/
theorem dial_view {m : M} {i : Nat} {u : S} {who : Int} (hi : m.ss[i]? = some u) (hr : u.right = true) (ho : 0 ≤ who ∧ who ≤ 15) (h1 : u.state = 1) (hw : u.own = who) :
    m.dial i who = if m.good then ({ Ev.zero with slot := (i : Int), gen := (u.gen + 1) % 4096 }, { m with ss := m.ss.set i { leased u who with version := 0 }, ahead := m.ahead.tail })
      else (M.failed 6, { m with ss := m.ss.set i { «to» u who 0 with version := 0 }, ahead := m.ahead.tail }) := by
  unfold M.dial
  have e1 : m.next.turn i 1 who 0 = { m with ss := m.ss.set i { leased u who with version := 0 }, ahead := m.ahead.tail } := by
    unfold M.turn M.next
    rw [turnL_set (by simpa using hi), step_up hr ho h1 hw]
  have e2 : m.next.turn i 2 who 0 = { m with ss := m.ss.set i { «to» u who 0 with version := 0 }, ahead := m.ahead.tail } := by
    unfold M.turn M.next
    rw [turnL_set (by simpa using hi), step_fail hr ho h1 hw]
  rw [e1, e2]
  split
  · refine Prod.ext ?_ rfl
    unfold M.leased
    rw [slot_of (m := { m with ss := m.ss.set i { leased u who with version := 0 }, ahead := m.ahead.tail }) (set_get hi)]
    simp [leased]
  · rfl
theorem leased_nf (s : S) (w : Int) : nf { leased s w with version := 0 } := .inr (.inr rfl)
theorem to0_nf (s : S) (w : Int) : nf { «to» s w 0 with version := 0 } := .inl rfl

/-- What is dialed from Empty. -/
theorem dial0_view {m : M} {i : Nat} {s : S} {who : Int} (hi : m.ss[i]? = some s) (hr : s.right = true) (ho : 0 ≤ who ∧ who ≤ 15) (h0 : s.state = 0) :
    ∃ t : S, t.right = true ∧ ((m.turn i 0 who 0).dial i who).2 = { m with ss := m.ss.set i t, ahead := m.ahead.tail } ∧
      ((t.state = 3 ∧ t.own = who ∧ t.gen = (s.gen + 1) % 4096 ∧ ((m.turn i 0 who 0).dial i who).1 = { Ev.zero with slot := (i : Int), gen := t.gen }) ∨ (t.state = 0 ∧ t.gen = s.gen ∧ ((m.turn i 0 who 0).dial i who).1 = M.failed 6)) := by
  have e0 : m.turn i 0 who 0 = { m with ss := m.ss.set i { «to» s who 1 with version := 0 } } := by unfold M.turn; rw [turnL_set hi, step_dial hr ho h0]
  have hru : ({ «to» s who 1 with version := 0 } : S).right = true := by
    have := step_right (d := 0) (own := who) (more := 0) (by simp [Done]) hr
    rwa [step_dial hr ho h0] at this
  have hgu : (m.ss.set i { «to» s who 1 with version := 0 })[i]? = some { «to» s who 1 with version := 0 } := set_get hi
  rw [e0, dial_view (m := { m with ss := m.ss.set i { «to» s who 1 with version := 0 } }) hgu hru ho rfl (by simp [«to»])]
  split
  · refine ⟨{ leased { «to» s who 1 with version := 0 } who with version := 0 }, leased_right hru ho, by simp, .inl ⟨rfl, by simp [leased, «to»], by simp [leased, «to»], by simp [leased, «to»]⟩⟩
  · refine ⟨{ «to» { «to» s who 1 with version := 0 } who 0 with version := 0 }, to_right hru ho (by simp), by simp, .inr ⟨rfl, by simp [«to»], rfl⟩⟩

theorem take_by {m m1 : M} {i : Nat} {who : Int} {r : Ev × M} (h1 : m.turn i 16 who 0 = m1) (h2 : (if (m1.slot i).state = 1 then m1.dial i who else (m1.leased i, m1)) = r) :
    m.take who i = if r.1.e = 0 ∧ m.closed ≠ 0 then (M.failed 5, r.2.empty i) else r := by subst h1 h2; rfl
/-- What comes of who was granted a slot. -/
theorem take_view {m : M} {i n : Nat} {s : S} (hi : m.ss[i]? = some s) (hr : s.right = true) (hn : n < 9) (h45 : s.state = 4 ∨ s.state = 5) (hw : s.own = (n : Int)) :
    ∃ (t : S) (a : List Bool), t.right = true ∧ (m.take n i).2 = { m with ss := m.ss.set i t, ahead := a } ∧
      ((m.closed = 0 ∧ t.state = 3 ∧ t.own = (n : Int) ∧ t.gen = (s.gen + 1) % 4096 ∧ (m.take n i).1 = { Ev.zero with slot := (i : Int), gen := t.gen }) ∨
       (t.state = 0 ∧ (t.gen = s.gen ∨ t.gen = (s.gen + 1) % 4096) ∧ (((m.take n i).1 = M.failed 5 ∧ m.closed ≠ 0) ∨ (m.take n i).1 = M.failed 6))) := by
  have ho : (0 : Int) ≤ (n : Int) ∧ (n : Int) ≤ 15 := by omega
  have key : ∀ (u : S) (a : List Bool) (r : Ev × M), u.right = true → u.state = 3 → u.own = (n : Int) → u.gen = (s.gen + 1) % 4096 → r = ({ Ev.zero with slot := (i : Int), gen := u.gen }, { m with ss := m.ss.set i u, ahead := a }) →
      m.take n i = (if r.1.e = 0 ∧ m.closed ≠ 0 then (M.failed 5, r.2.empty i) else r) → ∃ (t : S) (a : List Bool), t.right = true ∧ (m.take n i).2 = { m with ss := m.ss.set i t, ahead := a } ∧
      ((m.closed = 0 ∧ t.state = 3 ∧ t.own = (n : Int) ∧ t.gen = (s.gen + 1) % 4096 ∧ (m.take n i).1 = { Ev.zero with slot := (i : Int), gen := t.gen }) ∨
       (t.state = 0 ∧ (t.gen = s.gen ∨ t.gen = (s.gen + 1) % 4096) ∧ (((m.take n i).1 = M.failed 5 ∧ m.closed ≠ 0) ∨ (m.take n i).1 = M.failed 6))) := by
    intro u a r h1 h2 h3 h4 h5 h6
    rw [h6, h5]
    by_cases hc : m.closed = 0
    · rw [if_neg (fun e => e.2 hc)]
      exact ⟨u, a, h1, rfl, .inl ⟨hc, h2, h3, h4, rfl⟩⟩
    · rw [if_pos ⟨rfl, hc⟩]
      refine ⟨emptied u, a, emptied_right h1, ?_, .inr ⟨rfl, .inr h4, .inl ⟨rfl, hc⟩⟩⟩
      simp only [M.empty, List.set_set]
      rw [slot_of (m := { m with ss := m.ss.set i u, ahead := a }) (set_get hi)]
  rcases h45 with h4 | h5
  · have e1 : m.turn i 16 n 0 = { m with ss := m.ss.set i { leased s n with version := 0 } } := by unfold M.turn; rw [turnL_set hi, step_take4 hr ho h4 hw]
    have hsl : M.slot { m with ss := m.ss.set i { leased s n with version := 0 } } i = { leased s n with version := 0 } := slot_of (set_get hi)
    refine key { leased s n with version := 0 } m.ahead _ (leased_right hr ho) rfl rfl rfl ?_ (take_by e1 rfl)
    rw [hsl, if_neg (by simp [leased, «to»])]
    unfold M.leased
    rw [hsl]
  · have e1 : m.turn i 16 n 0 = { m with ss := m.ss.set i { «to» s n 1 with version := 0 } } := by unfold M.turn; rw [turnL_set hi, step_take5 hr ho h5 hw]
    have hg : (m.ss.set i { «to» s n 1 with version := 0 })[i]? = some { «to» s n 1 with version := 0 } := set_get hi
    have hsl : M.slot { m with ss := m.ss.set i { «to» s n 1 with version := 0 } } i = { «to» s n 1 with version := 0 } := slot_of hg
    have hlr : ({ «to» s n 1 with version := 0 } : S).right = true := to_right hr ho (by simp)
    have h6 := take_by e1 rfl
    have h7 : (if (M.slot { m with ss := m.ss.set i { «to» s n 1 with version := 0 } } i).state = 1 then M.dial { m with ss := m.ss.set i { «to» s n 1 with version := 0 } } i n else (M.leased { m with ss := m.ss.set i { «to» s n 1 with version := 0 } } i, { m with ss := m.ss.set i { «to» s n 1 with version := 0 } })) = M.dial { m with ss := m.ss.set i { «to» s n 1 with version := 0 } } i n := if_pos (by rw [hsl]; rfl)
    rw [h7] at h6
    have h8 := dial_view (m := { m with ss := m.ss.set i { «to» s n 1 with version := 0 } }) hg hlr ho rfl rfl
    cases hgd : M.good { m with ss := m.ss.set i { «to» s n 1 with version := 0 } }
    · rw [hgd, if_neg (by simp)] at h8
      rw [h8, if_neg (fun e => by have := e.1; simp [M.failed] at this)] at h6
      rw [h6]
      exact ⟨{ «to» { «to» s n 1 with version := 0 } n 0 with version := 0 }, m.ahead.tail, to_right hlr ho (by simp), by simp, .inr ⟨rfl, .inl rfl, .inr rfl⟩⟩
    · rw [hgd, if_pos rfl] at h8
      refine key { leased { «to» s n 1 with version := 0 } n with version := 0 } m.ahead.tail _ (leased_right hlr ho) rfl rfl rfl ?_ h6
      rw [h8]
      simp [leased, «to»]

/-- A worker rests again. -/
theorem rest_get {m : M} {n w : Nat} {k : Wk} (hn : n < m.ks.length) (h : (m.ks.set n Wk.zero)[w]? = some k) : (w = n ∧ k = Wk.zero) ∨ (w ≠ n ∧ m.ks[w]? = some k) := by
  rw [List.getElem?_set] at h
  by_cases e : n = w
  · subst e; simp [hn] at h; exact .inl ⟨rfl, h.symm⟩
  · rw [if_neg e] at h; exact .inr ⟨fun h => e h.symm, h⟩
theorem rest_put {m : M} {n w : Nat} {k : Wk} (hw : w ≠ n) (h : m.ks[w]? = some k) : (m.ks.set n Wk.zero)[w]? = some k := by
  rw [List.getElem?_set, if_neg (fun e => hw e.symm)]; exact h
/-- Who was told, or is out of time, rests. -/
theorem Mid.rest {m : M} (h : Mid m) {n : Nat} {k0 : Wk} (hk0 : m.ks[n]? = some k0) (h2 : k0.at' ≠ 2) : Mid { m with line := m.line.filter (fun o => o != (n : Int)), ks := m.ks.set n Wk.zero } := by
  have hn := (List.getElem?_eq_some_iff.1 hk0).1
  refine ⟨by simpa using h.nk, h.ns, h.rt, fun x hx => ?_, h.cls, h.sts, fun i s hi w => ?_, fun w k hk hk2 => ?_, fun k hk => ?_, fun w k hk => ?_, ?_, fun k hk => ?_, ?_, fun hc => ?_⟩
  · have := h.lb x (List.mem_filter.1 hx).1; simpa using this
  · rw [h.fw i s hi w]
    constructor
    · rintro ⟨k, hk, hk2, hk3⟩
      exact ⟨k, rest_put (fun e => by subst e; rw [hk0] at hk; cases hk; exact h2 hk2) hk, hk2, hk3⟩
    · rintro ⟨k, hk, hk2, hk3⟩
      rcases rest_get hn hk with ⟨rfl, rfl⟩ | ⟨_, hk'⟩
      · cases hk2
      · exact ⟨k, hk', hk2, hk3⟩
  · rcases rest_get hn hk with ⟨rfl, rfl⟩ | ⟨_, hk'⟩
    · cases hk2
    · exact h.gi w k hk' hk2
  · obtain ⟨w, hw⟩ := mem_get hk
    rcases rest_get hn hw with ⟨rfl, rfl⟩ | ⟨_, hk'⟩
    · exact .inl rfl
    · exact h.ats k (get_mem hk')
  · rcases rest_get hn hk with ⟨rfl, rfl⟩ | ⟨hne, hk'⟩
    · simp [Wk.zero]
    · rw [h.ln w k hk']
      simp; omega
  · exact h.nd.filter _
  · obtain ⟨w, hw⟩ := mem_get hk
    rcases rest_get hn hw with ⟨rfl, rfl⟩ | ⟨_, hk'⟩
    · simp [Wk.zero, Ask.zero]
    · exact h.dl k (get_mem hk')
  · have := h.cap
    have h3 := List.length_filter_le (fun o => o != (n : Int)) m.line
    simp only
    omega
  · simp only; rw [h.cl hc]; rfl
theorem filter_none {l : List Int} {n : Int} (h : n ∉ l) : l.filter (fun o => o != n) = l := by
  rw [List.filter_eq_self]
  intro x hx
  simp
  rintro rfl
  exact h hx
/-- Who took what it was granted rests. -/
theorem Mid.took {m : M} (h : Mid m) {n i : Nat} {k0 : Wk} (hk0 : m.ks[n]? = some k0) (h2 : k0.at' = 2) (hs : k0.slot = (i : Int)) {t : S} (ht : t.right = true) (hnf : nf t) : Mid { m with ss := m.ss.set i t, ks := m.ks.set n Wk.zero } := by
  have hn := (List.getElem?_eq_some_iff.1 hk0).1
  have hup := @upd_set m.ss i t
  refine ⟨by simpa using h.nk, by simpa using h.ns, fun s' hs' => ?_, fun x hx => by simpa using h.lb x hx, h.cls, fun s' hs' => ?_, fun j s' hj w => ?_, fun w k hk hk2 => ?_, fun k hk => ?_, fun w k hk => ?_, h.nd, fun k hk => ?_, h.cap, h.cl⟩
  · rcases List.mem_or_eq_of_mem_set hs' with hs' | rfl
    · exact h.rt _ hs'
    · exact ht
  · rcases List.mem_or_eq_of_mem_set hs' with hs' | rfl
    · exact h.sts _ hs'
    · exact .inl hnf
  · obtain ⟨u, h1, e⟩ := hup.back hj
    rcases e with ⟨rfl, rfl⟩ | ⟨hne, rfl⟩
    · refine ⟨fun hf => absurd hf (nf_for hnf), ?_⟩
      rintro ⟨k, hk, hk2, hk3⟩
      rcases rest_get hn hk with ⟨rfl, rfl⟩ | ⟨hw, hk'⟩
      · cases hk2
      · have f1 := (h.fw j u h1 w).2 ⟨k, hk', hk2, hk3⟩
        have f2 := (h.fw j u h1 n).2 ⟨k0, hk0, h2, hs⟩
        have := f1.2.symm.trans f2.2
        omega
    · rw [h.fw j s' h1 w]
      constructor
      · rintro ⟨k, hk, hk2, hk3⟩
        refine ⟨k, rest_put (fun e => ?_) hk, hk2, hk3⟩
        subst e
        rw [hk0] at hk; cases hk
        omega
      · rintro ⟨k, hk, hk2, hk3⟩
        rcases rest_get hn hk with ⟨rfl, rfl⟩ | ⟨_, hk'⟩
        · cases hk2
        · exact ⟨k, hk', hk2, hk3⟩
  · rcases rest_get hn hk with ⟨rfl, rfl⟩ | ⟨_, hk'⟩
    · cases hk2
    · obtain ⟨j, h3, h4⟩ := h.gi w k hk' hk2
      exact ⟨j, h3, by simpa using h4⟩
  · obtain ⟨w, hw⟩ := mem_get hk
    rcases rest_get hn hw with ⟨rfl, rfl⟩ | ⟨_, hk'⟩
    · exact .inl rfl
    · exact h.ats k (get_mem hk')
  · rcases rest_get hn hk with ⟨rfl, rfl⟩ | ⟨hne, hk'⟩
    · simp [Wk.zero]
      intro hm
      have := (h.ln w k0 hk0).2 hm
      omega
    · exact h.ln w k hk'
  · obtain ⟨w, hw⟩ := mem_get hk
    rcases rest_get hn hw with ⟨rfl, rfl⟩ | ⟨_, hk'⟩
    · simp [Wk.zero, Ask.zero]
    · exact h.dl k (get_mem hk')
/-- Who gets nothing waits. -/
theorem Mid.waits {m : M} (h : Mid m) {n : Nat} {k0 : Wk} (hk0 : m.ks[n]? = some k0) (h2 : k0.at' = 0) (a : Ask) (ha : a.deadline ≤ 255) (hc : m.closed = 0) (hcap : (m.line.length : Int) < m.cf.waiters) :
    Mid { m with line := m.line ++ [(n : Int)], ks := m.ks.set n ⟨1, a, 0⟩ } := by
  have hn := (List.getElem?_eq_some_iff.1 hk0).1
  have hget : ∀ (w : Nat) (k : Wk), (m.ks.set n ⟨1, a, 0⟩)[w]? = some k → (w = n ∧ k = ⟨1, a, 0⟩) ∨ (w ≠ n ∧ m.ks[w]? = some k) := fun w k hk => by
    rw [List.getElem?_set] at hk
    by_cases e : n = w
    · subst e; simp [hn] at hk; exact .inl ⟨rfl, hk.symm⟩
    · rw [if_neg e] at hk; exact .inr ⟨fun h => e h.symm, hk⟩
  have hput : ∀ (w : Nat) (k : Wk), w ≠ n → m.ks[w]? = some k → (m.ks.set n ⟨1, a, 0⟩)[w]? = some k := fun w k hw hk => by
    rw [List.getElem?_set, if_neg (fun e => hw e.symm)]; exact hk
  have hnl : (n : Int) ∉ m.line := fun hm => by have := (h.ln n k0 hk0).2 hm; omega
  refine ⟨by simpa using h.nk, h.ns, h.rt, fun x hx => ?_, h.cls, h.sts, fun i s hi w => ?_, fun w k hk hk2 => ?_, fun k hk => ?_, fun w k hk => ?_, ?_, fun k hk => ?_, ?_, fun h => absurd hc h⟩
  · simp at hx
    rcases hx with hx | rfl
    · simpa using h.lb x hx
    · simp; omega
  · rw [h.fw i s hi w]
    constructor
    · rintro ⟨k, hk, hk2, hk3⟩
      exact ⟨k, hput w k (fun e => by subst e; rw [hk0] at hk; cases hk; omega) hk, hk2, hk3⟩
    · rintro ⟨k, hk, hk2, hk3⟩
      rcases hget w k hk with ⟨rfl, rfl⟩ | ⟨_, hk'⟩
      · cases hk2
      · exact ⟨k, hk', hk2, hk3⟩
  · rcases hget w k hk with ⟨rfl, rfl⟩ | ⟨_, hk'⟩
    · cases hk2
    · exact h.gi w k hk' hk2
  · obtain ⟨w, hw⟩ := mem_get hk
    rcases hget w k hw with ⟨rfl, rfl⟩ | ⟨_, hk'⟩
    · exact .inr (.inl rfl)
    · exact h.ats k (get_mem hk')
  · rcases hget w k hk with ⟨rfl, rfl⟩ | ⟨hne, hk'⟩
    · simp
    · rw [h.ln w k hk']
      simp; omega
  · rw [List.nodup_append]
    refine ⟨h.nd, by simp, ?_⟩
    intro x hx y hy e
    simp at hy
    subst hy e
    exact hnl hx
  · obtain ⟨w, hw⟩ := mem_get hk
    rcases hget w k hw with ⟨rfl, rfl⟩ | ⟨_, hk'⟩
    · exact ha
    · exact h.dl k (get_mem hk')
  · simp; omega
/-- It is closed: who waits is told. -/
theorem told_get (l : List Int) : ∀ (ks : List Wk), (∀ x ∈ l, 0 ≤ x) → (l.foldl (fun ks who => ks.set who.toNat { ks[who.toNat]?.getD Wk.zero with at' := 3 }) ks).length = ks.length ∧
    ∀ (w : Nat) (k : Wk), ks[w]? = some k → (l.foldl (fun ks who => ks.set who.toNat { ks[who.toNat]?.getD Wk.zero with at' := 3 }) ks)[w]? = some (if (w : Int) ∈ l then { k with at' := 3 } else k) := by
  induction l with
  | nil => intro ks _; simp
  | cons x l ih =>
    intro ks hx
    obtain ⟨n, rfl⟩ := Int.eq_ofNat_of_zero_le (hx x (by simp))
    have ih' := ih (ks.set n { ks[n]?.getD Wk.zero with at' := 3 }) (fun y hy => hx y (by simp [hy]))
    simp only [List.foldl_cons, Int.toNat_natCast]
    refine ⟨by rw [ih'.1]; simp, fun w k hk => ?_⟩
    have hwl := (List.getElem?_eq_some_iff.1 hk).1
    by_cases e : n = w
    · subst e
      have h1 : (ks.set n { ks[n]?.getD Wk.zero with at' := 3 })[n]? = some { k with at' := 3 } := by simp only [hk, Option.getD_some]; simp [hwl]
      rw [ih'.2 n _ h1]
      simp
    · have h1 : (ks.set n { ks[n]?.getD Wk.zero with at' := 3 })[w]? = some k := by rw [List.getElem?_set, if_neg e]; exact hk
      rw [ih'.2 w _ h1]
      have : ((w : Int) ∈ (n : Int) :: l) ↔ (w : Int) ∈ l := by simp; omega
      simp only [this]
theorem Mid.close {m : M} (h : Mid m) (force : Bool) : Mid (m.close force) := by
  obtain ⟨t1, t2⟩ := told_get m.line m.ks (fun x hx => (h.lb x hx).1)
  unfold M.close
  generalize m.line.foldl (fun ks who => ks.set who.toNat { ks[who.toNat]?.getD Wk.zero with at' := 3 }) m.ks = ks' at *
  have hback : ∀ (w : Nat) (k : Wk), ks'[w]? = some k → ∃ k0, m.ks[w]? = some k0 ∧ k = if (w : Int) ∈ m.line then { k0 with at' := 3 } else k0 := fun w k hk => by
    have hw := (List.getElem?_eq_some_iff.1 hk).1
    have h1 := t2 w m.ks[w] (List.getElem?_eq_getElem (by omega))
    rw [hk] at h1
    exact ⟨_, List.getElem?_eq_getElem (by omega), by cases h1; rfl⟩
  refine ⟨by simpa [t1] using h.nk, h.ns, h.rt, fun x hx => by simp at hx, ?_, h.sts, fun i s hi w => ?_, fun w k hk hk2 => ?_, fun k hk => ?_, fun w k hk => ?_, by simp, fun k hk => ?_, ?_, fun _ => rfl⟩
  · have := h.cls
    simp only
    split
    · omega
    · split <;> omega
  · rw [h.fw i s hi w]
    constructor
    · rintro ⟨k, hk, hk2, hk3⟩
      refine ⟨k, ?_, hk2, hk3⟩
      have h1 := t2 w k hk
      rw [if_neg (fun hm => by have := (h.ln w k hk).2 hm; omega)] at h1
      exact h1
    · rintro ⟨k, hk, hk2, hk3⟩
      obtain ⟨k0, h1, rfl⟩ := hback w k hk
      split at hk2
      · cases hk2
      · rename_i hm
        rw [if_neg hm] at hk3
        exact ⟨k0, h1, hk2, hk3⟩
  · obtain ⟨k0, h1, rfl⟩ := hback w k hk
    split at hk2
    · cases hk2
    · rename_i hm
      rw [if_neg hm]
      exact h.gi w k0 h1 hk2
  · obtain ⟨w, hw⟩ := mem_get hk
    obtain ⟨k0, h1, rfl⟩ := hback w k hw
    split
    · exact .inr (.inr (.inr rfl))
    · exact h.ats k0 (get_mem h1)
  · obtain ⟨k0, h1, rfl⟩ := hback w k hk
    simp
    split
    · simp
    · rename_i hm
      intro e
      exact hm ((h.ln w k0 h1).1 e)
  · obtain ⟨w, hw⟩ := mem_get hk
    obtain ⟨k0, h1, rfl⟩ := hback w k hw
    split
    · exact h.dl k0 (get_mem h1)
    · exact h.dl k0 (get_mem h1)
  · have := h.cap; simp only [List.length_nil]; omega

theorem own_fits {s : S} {who : Int} (h : Find.fits s 0 who = true) : s.state = 2 ∧ s.broken = false ∧ s.own = who := by simp [Find.fits, Find.sound] at h; exact ⟨h.1.1, h.1.2, h.2⟩
theorem any_fits {s : S} {who : Int} (h : Find.fits s 1 who = true) : s.state = 2 ∧ s.broken = false := by simpa [Find.fits, Find.sound] using h
theorem free_fits {s : S} {who : Int} (h : Find.fits s 2 who = true) : s.state = 0 := by simpa [Find.fits] using h
theorem rest_fits {s : S} {who : Int} (h : Find.fits s 6 who = true) : s.state = 2 := by simpa [Find.fits] using h
theorem quiet_turn {m : M} (h : Mid m) {i d : Nat} {own more : Int} {s : S} (hi : m.ss[i]? = some s) (hq : quiet s (step s d own more)) : Mid (m.turn i d own more) := by
  have := h.set1 hi hq
  rw [← turnL_set hi] at this
  exact this
theorem quiet_step {s : S} {d : Nat} {own more : Int} (hd : Done d) (hr : s.right = true) (hs : (step s d own more).state = s.state ∧ (step s d own more).own = s.own) : quiet s (step s d own more) := ⟨step_right hd hr, .inl hs⟩

theorem Mid.get {m : M} (h : Mid m) {n : Nat} {k0 : Wk} (hk0 : m.ks[n]? = some k0) (h0 : k0.at' = 0) (a : Ask) (ha : a.deadline ≤ 255) : Mid (m.get n a).2 := by
  have ho := h.own (List.getElem?_eq_some_iff.1 hk0).1
  unfold M.get
  split
  · exact h
  rename_i hc
  have hc : m.closed = 0 := by simpa using hc
  split
  · rename_i i hi
    obtain ⟨s, h1, h2⟩ := first_some' hi
    obtain ⟨f1, f2, f3⟩ := own_fits h2
    have hr := h.rt s (get_mem h1)
    exact quiet_turn h h1 (by rw [step_lease hr ho f1 f2]; exact ⟨leased_right hr ho, .inr ⟨.inr (.inl f1), leased_nf _ _⟩⟩)
  split
  · rename_i i hi
    obtain ⟨s, h1, h2⟩ := first_some' hi
    obtain ⟨f1, f2⟩ := any_fits h2
    have hr := h.rt s (get_mem h1)
    have hm : Mid (m.turn i 3 n 0) := quiet_turn h h1 (by rw [step_lease hr ho f1 f2]; exact ⟨leased_right hr ho, .inr ⟨.inr (.inl f1), leased_nf _ _⟩⟩)
    refine hm.slots ((upd_move _ _).mono fun j u u' hj e => ?_)
    have hru := hm.rt u (get_mem hj)
    rcases e with rfl | ⟨hf, rfl⟩
    · exact quiet.refl hru
    · obtain ⟨q1, q2, q3⟩ := own_fits hf
      rw [step_move hru ho q1]
      exact ⟨to_right hru ho (by simp), .inr ⟨.inr (.inl q1), .inr (.inl rfl)⟩⟩
  split
  · rename_i i hi
    obtain ⟨s, h1, h2⟩ := first_some' hi
    have f1 := free_fits h2
    have hr := h.rt s (get_mem h1)
    obtain ⟨t, t1, t2, t3⟩ := dial0_view h1 hr ho f1
    simp only
    rw [t2]
    refine (h.set1 h1 ⟨t1, .inr ⟨.inl f1, ?_⟩⟩).out _ _
    rcases t3 with t3 | t3
    · exact .inr (.inr t3.1)
    · exact .inl t3.1
  split
  · exact h
  split
  · exact h
  · rename_i hcap
    exact h.waits hk0 h0 a ha hc (by omega)
theorem owns_of {m : M} {who : Int} {a : Ask} (h : m.owns who a = 0) : m.closed ≠ 2 ∧ ∃ (i : Nat) (s : S), a.slot = (i : Int) ∧ m.ss[i]? = some s ∧ s.state = 3 ∧ s.own = who ∧ s.gen = a.gen := by
  unfold M.owns at h
  split at h
  · cases h
  rename_i h1
  split at h
  · cases h
  rename_i h2
  split at h
  · cases h
  rename_i h3
  obtain ⟨n, hn⟩ := Int.eq_ofNat_of_zero_le (show 0 ≤ a.slot by omega)
  obtain ⟨s, hs⟩ : ∃ s, m.ss[n]? = some s := ⟨_, List.getElem?_eq_getElem (by omega)⟩
  rw [hn, Int.toNat_natCast, slot_of hs] at h3
  exact ⟨h1, n, s, hn, hs, by omega, by omega, by omega⟩
theorem Mid.give {m : M} (h : Mid m) {n : Nat} (hn : n < m.ks.length) (a : Ask) (d : Bool) : Mid (m.give n a d).2 := by
  have ho := h.own hn
  unfold M.give
  split
  · exact h
  rename_i hw
  obtain ⟨_, i, s, e1, hi, q1, q2, q3⟩ := owns_of (Classical.byContradiction fun e => hw e)
  have hr := h.rt s (get_mem hi)
  rw [e1, Int.toNat_natCast, slot_of hi]
  split
  · exact h
  rename_i hst
  simp only
  split
  · unfold M.empty
    rw [slot_of hi]
    exact h.set1 hi ⟨emptied_right hr, .inr ⟨.inr (.inr q1), emptied_nf s⟩⟩
  · rename_i hd
    refine quiet_turn h hi ?_
    rw [step_rest hr ho q1 q2 (Classical.byContradiction fun e => hst ⟨e, by cases d <;> simp_all⟩)]
    exact ⟨to_right hr ho (by simp), .inr ⟨.inr (.inr q1), .inr (.inl rfl)⟩⟩
theorem Mid.openS {m : M} (h : Mid m) {n : Nat} (a : Ask) : Mid (m.openS n a).2 := by
  unfold M.openS
  split
  · exact h
  rename_i hw
  obtain ⟨_, i, s, e1, hi, q1, q2, q3⟩ := owns_of (Classical.byContradiction fun e => hw e)
  rw [e1, Int.toNat_natCast, slot_of hi]
  split
  · exact h
  split
  · exact quiet_turn h hi (quiet_step (by simp [Done]) (h.rt s (get_mem hi)) ⟨step_open.1, step_open.2.1⟩)
  · exact h
theorem Mid.shutS {m : M} (h : Mid m) {n : Nat} (a : Ask) : Mid (m.shutS n a).2 := by
  unfold M.shutS
  split
  · exact h
  rename_i hw
  obtain ⟨_, i, s, e1, hi, q1, q2, q3⟩ := owns_of (Classical.byContradiction fun e => hw e)
  rw [e1, Int.toNat_natCast, slot_of hi]
  split
  · exact quiet_turn h hi (quiet_step (by simp [Done]) (h.rt s (get_mem hi)) ⟨step_shut.1, step_shut.2.1⟩)
  · exact h
theorem Mid.reap {m : M} (h : Mid m) {n : Nat} (hn : n < m.ks.length) : Mid (m.reap n).2 := by
  have ho := h.own hn
  refine (h.slots ((upd_reap m.ahead 0 m.ss).mono fun j s s' hj e => ?_)).out _ m.now
  have hr := h.rt s (get_mem hj)
  rcases e with ⟨_, rfl⟩ | ⟨hf, ⟨e1, e2, rfl⟩ | rfl⟩
  · exact quiet.refl hr
  · have f := rest_fits hf
    refine ⟨step_right (by simp [Done]) hr, .inl ?_⟩
    rw [step_mark hr ho f e1]
    exact ⟨rfl, rfl⟩
  · exact ⟨emptied_right hr, .inr ⟨.inr (.inl (rest_fits hf)), emptied_nf s⟩⟩
theorem Mid.does {m : M} (h : Mid m) {n : Nat} {k0 : Wk} (hk0 : m.ks[n]? = some k0) (h0 : k0.at' = 0) (a : Ask) (ha : a.deadline ≤ 255) : Mid (m.does n a).2 := by
  have hn := (List.getElem?_eq_some_iff.1 hk0).1
  unfold M.does
  split
  · exact h.get hk0 h0 a ha
  split
  · exact h.give hn a _
  split
  · exact h.give hn a _
  split
  · exact h.openS a
  split
  · exact h.shutS a
  split
  · exact h.reap hn
  split
  · exact h.close _
  · exact h
theorem can_of {m : M} {who : Int} {a : Ask} (h : m.can who a = true) : (0 ≤ a.op ∧ a.op ≤ 7) ∧ ∃ (n : Nat) (k : Wk), who = (n : Int) ∧ m.ks[n]? = some k ∧ k.at' = 0 := by
  simp [M.can] at h
  obtain ⟨⟨h1, h2⟩, h3⟩ := h
  obtain ⟨n, rfl, hn⟩ := has_nat h2
  have hk : m.ks[n]? = some m.ks[n] := List.getElem?_eq_getElem hn
  rw [worker_of hk] at h3
  exact ⟨h1, n, _, rfl, hk, h3⟩
theorem Inv.ask {m : M} (h : Inv m) (who : Int) (a : Ask) (ha : a.deadline ≤ 255) : Inv (m.ask who a).2 := by
  unfold M.ask
  split
  · rename_i hc
    obtain ⟨ho, n, k, rfl, hk, h0⟩ := can_of hc
    have hm := (h.toMid.does hk h0 a ha).inv
    simp only
    split <;> exact hm
  · exact h
/-- Who is granted a slot, and what comes of it. -/
theorem Mid.granted {m : M} (h : Mid m) {n : Nat} {k : Wk} (hk : m.ks[n]? = some k) (h2 : k.at' = 2) : ∃ (i : Nat) (s : S), k.slot = (i : Int) ∧ m.ss[i]? = some s ∧ (s.state = 4 ∨ s.state = 5) ∧ s.own = (n : Int) ∧ s.right = true ∧ n < 9 := by
  obtain ⟨i, h3, h4⟩ := h.gi n k hk h2
  have hs : m.ss[i]? = some m.ss[i] := List.getElem?_eq_getElem h4
  have hf := (h.fw i _ hs n).2 ⟨k, hk, h2, h3⟩
  have := (List.getElem?_eq_some_iff.1 hk).1
  have := h.nk
  exact ⟨i, _, h3, hs, hf.1, hf.2, h.rt _ (get_mem hs), by omega⟩
theorem Inv.wake {m : M} (h : Inv m) (who : Int) : Inv (m.wake who).2 := by
  unfold M.wake
  split
  · exact h
  rename_i hh
  obtain ⟨n, rfl, hn⟩ := has_nat (by simpa using hh)
  have hk : m.ks[n]? = some m.ks[n] := List.getElem?_eq_getElem hn
  simp only [worker_of hk]
  have hr := fun h2 => h.toMid.rest hk h2
  simp only [M.rest, Int.toNat_natCast]
  split
  · rename_i h3
    have hm := hr (by omega)
    rw [filter_none (fun hx => by have := (h.ln n _ hk).2 hx; omega)] at hm
    exact hm.inv
  split
  · rename_i h2
    obtain ⟨i, s, e1, hi, h45, hw, hrt, hn9⟩ := h.toMid.granted hk h2
    rw [e1, Int.toNat_natCast]
    obtain ⟨t, a, t1, t2, t3⟩ := take_view hi hrt hn9 h45 hw
    simp only
    rw [t2]
    have hm := (h.toMid.took hk h2 e1 t1 (by rcases t3 with t3 | t3; exact .inr (.inr t3.2.1); exact .inl t3.1)).out a m.now
    exact hm.inv
  split
  · rename_i h1
    exact (hr (by omega)).inv
  · exact h
theorem Inv.tick {m : M} (h : Inv m) (n : Int) : Inv (m.tick n) := { toMid := h.toMid.out m.ahead (Clock.tick m.now n), toTidied := ⟨h.fair, h.cl1, h.cl2⟩ }
theorem Inv.feed {m : M} (h : Inv m) (b : Bool) : Inv (m.feed b).2 := by
  unfold M.feed
  split
  · exact { toMid := h.toMid.out _ m.now, toTidied := ⟨h.fair, h.cl1, h.cl2⟩ }
  · exact h
theorem Inv.break {m : M} (h : Inv m) (i : Int) : Inv (m.break' i).2 := by
  unfold M.break'
  split
  · rename_i hi
    obtain ⟨n, rfl⟩ := Int.eq_ofNat_of_zero_le hi.1
    simp only [Int.toNat_natCast]
    have hs : m.ss[n]? = some m.ss[n] := List.getElem?_eq_getElem (by omega)
    have hb := @step_break m.ss[n] 0 0
    have hup := @upd_turn m.ss n 13 0 0
    refine { toMid := quiet_turn h.toMid hs (quiet_step (by simp [Done]) (h.rt _ (get_mem hs)) ⟨hb.1, hb.2.1⟩), toTidied := ⟨fun hl s' hs' => ?_, fun hc s' hs' => ?_, fun hc s' hs' => ?_⟩ }
    all_goals (
      obtain ⟨j, hj⟩ := mem_get hs'
      obtain ⟨s, h1, e⟩ := hup.back hj)
    · have hf := h.fair hl s (get_mem h1)
      rcases e with ⟨rfl, rfl⟩ | ⟨_, rfl⟩
      · rw [hs] at h1
        cases h1
        simp [Find.fits, Find.sound] at hf ⊢
        rw [hb.1]
        exact ⟨fun h2 => hb.2.2.2.1 (hf.1 h2), hf.2⟩
      · exact hf
    · have hf := h.cl1 hc s (get_mem h1)
      rcases e with ⟨rfl, rfl⟩ | ⟨_, rfl⟩
      · rw [hs] at h1; cases h1; rw [hb.1]; exact hf
      · exact hf
    · have hf := h.cl2 hc s (get_mem h1)
      rcases e with ⟨rfl, rfl⟩ | ⟨_, rfl⟩
      · rw [hs] at h1; cases h1; rw [hb.1]; exact hf
      · exact hf
  · exact h
theorem Inv.new {c : Conf.Cf} (hc : c.right = true) : Inv (M.new c) := by
  simp [Conf.Cf.right, Conf.btw] at hc
  have hz : ∀ s ∈ (M.new c).ss, s = S.zero := fun s hs => by simpa [M.new] using (List.mem_replicate.1 hs).2
  have hk : ∀ k ∈ (M.new c).ks, k = Wk.zero := fun s hs => by simpa [M.new] using (List.mem_replicate.1 hs).2
  refine { toMid := ⟨by simp [M.new]; omega, by simp [M.new]; omega, fun s hs => by rw [hz s hs]; exact zero_right, fun x hx => by simp [M.new] at hx, .inl rfl, fun s hs => by rw [hz s hs]; exact .inl (.inl rfl), fun i s hi w => ?_, fun w k hw h2 => ?_, fun k h => by rw [hk k h]; exact .inl rfl, fun w k hw => ?_, by simp [M.new], fun k h => by rw [hk k h]; simp [Wk.zero, Ask.zero], by simp [M.new]; omega, fun h => rfl⟩, toTidied := ⟨fun h => absurd rfl h, fun h => absurd rfl h, fun h => by cases h⟩ }
  · rw [hz s (get_mem hi)]
    constructor
    · rintro ⟨h, _⟩; simp [S.zero] at h
    · rintro ⟨k, hw, h2, _⟩
      rw [hk k (get_mem hw)] at h2
      cases h2
  · rw [hk k (get_mem hw)] at h2
    cases h2
  · rw [hk k (get_mem hw)]
    simp [Wk.zero, M.new]
end Go.Proofs.YtpmkgddjgebojaaGreatDoor.Mod

namespace Go.Proofs.YtpmkgddjgebojaaGreatDoor.Mod
set_option linter.unusedVariables false
set_option linter.unusedSimpArgs false
open Go.RowKit Hp Slot RowL Life

/-- An entry of a script. -/
structure En where
  kind : Int
  who : Int
  ask : Ask
  n : Int
  good : Bool
def En.cells (x : En) : Array Value := #[.int .i64 x.kind, .int .i64 x.who, .int .i64 x.ask.op, .int .i64 x.ask.deadline, .bool x.ask.wait, .bool x.ask.force, .int .i64 x.ask.slot, .int .i64 x.ask.gen, .int .i64 x.ask.stream, .int .i64 x.n, .bool x.good]
abbrev En.val (x : En) : Value := .agg x.cells
def En.ok (x : En) : Prop := (0 ≤ x.ask.deadline ∧ x.ask.deadline ≤ 255) ∧ 0 ≤ x.n ∧ x.n ≤ 15

/-- How many slots are at a state. -/
def countAt (ss : List S) (at' : Int) : Nat := ss.countP (fun s => s.state == at')
theorem countAt_step {ss : List S} {k : Nat} {s : S} (h : ss[k]? = some s) (at' : Int) : countAt (ss.take (k + 1)) at' = countAt (ss.take k) at' + (if s.state == at' then 1 else 0) := by
  unfold countAt
  rw [List.take_add_one, h, List.countP_append]
  simp [List.countP_cons]
theorem countAt_le (ss : List S) (at' : Int) : countAt ss at' ≤ ss.length := List.countP_le_length


def dropped (l : List Int) (x : Int) : List Int := l.filter (fun y => y != x)
theorem dropped_step {l : List Int} {k : Nat} {y : Int} (h : l[k]? = some y) (x : Int) : dropped (l.take (k + 1)) x = dropped (l.take k) x ++ (if y != x then [y] else []) := by
  unfold dropped
  rw [List.take_add_one, h, List.filter_append]
  simp [List.filter_cons]
theorem dropped_le (l : List Int) (x : Int) : (dropped l x).length ≤ l.length := List.length_filter_le _ _

/-- A turn: six small numbers. -/
structure Tn where
  k : Int
  w : Int
  o : Int
  s : Int
  g : Int
  n : Int
def Tn.cells (t : Tn) : Array Value := #[.int .u8 t.k, .int .u8 t.w, .int .u8 t.o, .int .u8 t.s, .int .u8 t.g, .int .u8 t.n]
abbrev Tn.val (t : Tn) : Value := .agg t.cells
def Tn.ok (t : Tn) : Prop := (0 ≤ t.k ∧ t.k < 256) ∧ (0 ≤ t.w ∧ t.w < 256) ∧ (0 ≤ t.o ∧ t.o < 256) ∧ (0 ≤ t.s ∧ t.s < 256) ∧ (0 ≤ t.g ∧ t.g < 256) ∧ (0 ≤ t.n ∧ t.n < 256)
/-- Turns that lie there. -/
def TurnsAt (W : World) (v : Value) (l : List Tn) : Prop :=
  ∃ a c, v = .slice a l.length c ∧ (∀ t ∈ l, t.ok) ∧ (l = [] ∨ ∃ g off, a = some ⟨g, off, none⟩ ∧ ∀ (i : Nat) (t : Tn), l[i]? = some t → ∀ (j : Nat) (u : Value), t.cells[j]? = some u → W.cell? ⟨g, off + i * 6 + j, none⟩ = some u)
theorem TurnsAt.below {W W' : World} {v : Value} {l : List Tn} (h : TurnsAt W v l) (hb : Below W.heap.size W W') : TurnsAt W' v l := by
  obtain ⟨a, c, rfl, h1, h2⟩ := h
  refine ⟨a, c, rfl, h1, h2.imp id ?_⟩
  rintro ⟨g, off, rfl, h3⟩
  refine ⟨g, off, rfl, fun i t hi j u hu => ?_⟩
  have h4 := h3 i t hi j u hu
  exact (World.cell?_of_block (w := W) (hb.block g (World.block_lt_of_cell? _ _ h4))).trans h4

/-- What an entry does to a pool: the event that ended, if one did; the pool. -/
def M.entry (m : M) (x : En) : Option Ev × M :=
  if x.kind = 0 then (if (m.ask x.who x.ask).1.2.1 then some (m.ask x.who x.ask).1.1 else none, (m.ask x.who x.ask).2)
  else if x.kind = 1 then (if (m.wake x.who).1.2 then some (m.wake x.who).1.1 else none, (m.wake x.who).2)
  else if x.kind = 2 then (none, m.tick x.n)
  else if x.kind = 3 then (none, (m.feed x.good).2)
  else if x.kind = 4 then (none, (m.break' x.ask.slot).2)
  else (none, m)
theorem Inv.entry {m : M} (h : Inv m) {x : En} (hx : x.ok) : Inv (m.entry x).2 := by
  unfold M.entry
  split
  · exact h.ask _ _ hx.1.2
  split
  · exact h.wake _
  split
  · exact h.tick _
  split
  · exact h.feed _
  split
  · exact h.break _
  · exact h
/-- The events behind an entry. -/
def told (evs : List Ev) (o : Option Ev) : List Ev := evs ++ o.toList
theorem told_len (evs : List Ev) (o : Option Ev) : (told evs o).length ≤ evs.length + 1 := by cases o <;> simp [told]

/-- Pools that come of a conf by entries: n of them. -/
inductive Played (c : Conf.Cf) : Nat → M → List Ev → Prop
  | new : Played c 0 (M.new c) []
  | step {n : Nat} {m : M} {evs : List Ev} (h : Played c n m evs) (x : En) (hx : x.ok) : Played c (n + 1) (m.entry x).2 (told evs (m.entry x).1)
theorem Played.inv {c : Conf.Cf} (hc : c.right = true) {n : Nat} {m : M} {evs : List Ev} (h : Played c n m evs) : Inv m := by
  induction h with
  | new => exact Inv.new hc
  | step h x hx ih => exact ih.entry hx
theorem Played.len {c : Conf.Cf} {n : Nat} {m : M} {evs : List Ev} (h : Played c n m evs) : evs.length ≤ n := by
  induction h with
  | new => simp
  | step h x hx ih => have := told_len ‹List Ev› (M.entry ‹M› x).1; omega
end Go.Proofs.YtpmkgddjgebojaaGreatDoor.Mod

namespace Go.Proofs.YtpmkgddjgebojaaGreatDoor.World11
set_option linter.unusedVariables false
set_option linter.unusedSimpArgs false
open Go.RowKit Hp

/-- What is asked outside: nothing new is the world's. -/
def NextP (w : World) (wb rb : Nat) (v : Value) (l : List Bool) (e : Ending) (w' : World) : Prop :=
  e = .returned (.bool (l.headD true)) ∧ ∃ v' g' b', WAt w' wb rb v' l.tail g' b' ∧ (∀ k, Fp v' k → Fp v k) ∧ Chg (wfp wb rb v) w w'
theorem WAt.stepp {w w' : World} {wb rb : Nat} {v ans : Value} {l l' : List Bool} {g b : Int} {e : Ending} (h : WAt w wb rb v l g b) (hp : RingBool.PostP w rb v ans l' 1000 e w') : e = .returned ans ∧ ∃ v', WAt w' wb rb v' l' g b ∧ (∀ k, Fp v' k → Fp v k) ∧ Chg (wfp wb rb v) w w' := by
  obtain ⟨rfl, v', h1, h2, h3⟩ := hp
  have hlt := World.block_lt_of_cell? _ _ h.c0
  have hb := h3.block wb hlt h.sep
  refine ⟨rfl, v', ⟨(World.cell?_of_block (w := w) hb).trans h.c0, (World.cell?_of_block (w := w) hb).trans h.c1, (World.cell?_of_block (w := w) hb).trans h.c2, (World.frozen?_of_block (w := w) hb).trans h.f1, (World.frozen?_of_block (w := w) hb).trans h.f2, h1, fun hk => ?_⟩, h2, h3.mono fun k _ hk => .inr hk⟩
  rcases hk with e | hk
  · exact h.sep (.inl e)
  · exact h.sep (.inr (h2 _ hk))

set_option maxHeartbeats 800000 in
theorem wnext_none (w : World) (wb rb : Nat) (v : Value) (g b : Int) (h : WAt w wb rb v [] g b) :
    Calls Tryz.prog 97 #[.pointer (some ⟨wb, 0, none⟩)] w (NextP w wb rb v []) := by
  have h0 := h.c0
  have h1 := h.c1
  have h2 := h.f1
  go_enter Tryz.func97, Tryz.ntmps97
  go_wp2_with fail
  refine (RingBool.pop_none w rb v 1000 h.ring).mono ?_
  rintro e w' ⟨rfl, rfl⟩
  go_wp2_with fail
  go_ret
  exact ⟨rfl, v, _, _, h.good _, fun k hk => hk, (Chg.refl _ _).setCell _ _ (fun _ => .inl rfl)⟩
set_option maxHeartbeats 800000 in
theorem wnext_good (w : World) (wb rb : Nat) (v : Value) (l : List Bool) (g b : Int) (h : WAt w wb rb v (true :: l) g b) :
    Calls Tryz.prog 97 #[.pointer (some ⟨wb, 0, none⟩)] w (NextP w wb rb v (true :: l)) := by
  have h0 := h.c0
  have hp := RingBool.pop_somep w rb v true l 1000 h.ring
  go_enter Tryz.func97, Tryz.ntmps97
  go_wp2_with fail
  refine hp.mono ?_
  intro e w' hp'
  obtain ⟨rfl, v', hA, hF, hC⟩ := h.stepp hp'
  clear h0 hp' hp
  have h1 := hA.c1
  have h2 := hA.f1
  go_wp2_with fail
  go_ret
  exact ⟨rfl, v', _, _, hA.good _, hF, hC.setCell _ _ (fun _ => .inl rfl)⟩
set_option maxHeartbeats 800000 in
theorem wnext_bad (w : World) (wb rb : Nat) (v : Value) (l : List Bool) (g b : Int) (h : WAt w wb rb v (false :: l) g b) :
    Calls Tryz.prog 97 #[.pointer (some ⟨wb, 0, none⟩)] w (NextP w wb rb v (false :: l)) := by
  have h0 := h.c0
  have hp := RingBool.pop_somep w rb v false l 1000 h.ring
  go_enter Tryz.func97, Tryz.ntmps97
  go_wp2_with fail
  refine hp.mono ?_
  intro e w' hp'
  obtain ⟨rfl, v', hA, hF, hC⟩ := h.stepp hp'
  clear h0 hp' hp
  have h1 := hA.c2
  have h2 := hA.f2
  go_wp2_with fail
  go_ret
  exact ⟨rfl, v', _, _, hA.bad _, hF, hC.setCell _ _ (fun _ => .inl rfl)⟩
theorem wnext_any (w : World) (wb rb : Nat) (v : Value) (l : List Bool) (g b : Int) (h : WAt w wb rb v l g b) :
    Calls Tryz.prog 97 #[.pointer (some ⟨wb, 0, none⟩)] w (NextP w wb rb v l) := by
  cases l with
  | nil => exact wnext_none w wb rb v g b h
  | cons x l => cases x with
    | true => exact wnext_good w wb rb v l g b h
    | false => exact wnext_bad w wb rb v l g b h
end Go.Proofs.YtpmkgddjgebojaaGreatDoor.World11

namespace Go.Proofs.YtpmkgddjgebojaaGreatDoor.Mod
set_option linter.unusedVariables false
set_option linter.unusedSimpArgs false
open Go.RowKit Hp Slot RowL Life
section
variable {W : World} {p : Pl} {m : M}
/-- As MPost; nothing new is the pool's. -/
def MPostP (W : World) (p : Pl) (ans : Value) (m' : M) (e : Ending) (W' : World) : Prop :=
  e = .returned ans ∧ ∃ rv, MAt W' { p with rv := rv } m' ∧ (∀ k, Fp rv k → Fp p.rv k) ∧ Chg (mfp p) W W'
theorem MPostP.post {ans : Value} {m' : M} {e : Ending} {W' : World} (h : MPostP W p ans m' e W') : MPost W p ans m' e W' := by
  obtain ⟨h0, rv, h1, h2, h3⟩ := h
  exact ⟨h0, p.lv, rv, h1, fun k hk => .inl hk, fun k hk => .inl (h2 k hk), h3⟩
theorem MAt.postP (h : MAt W p m) {W' : World} {m' : M} {ans : Value} (h' : MAt W' p m') (hc : Chg (mfp p) W W') : MPostP W p ans m' (.returned ans) W' :=
  ⟨rfl, p.rv, h', fun _ h => h, hc⟩
theorem m_wnext (h : MAt W p m) : Calls Tryz.prog 97 #[.pointer (some ⟨p.wb, 0, none⟩)] W (MPostP W p (.bool m.good) m.next) := by
  obtain ⟨g, b, hw⟩ := h.wld
  refine (World11.wnext_any W p.wb p.rb p.rv m.ahead g b hw).mono ?_
  rintro e W' ⟨rfl, v', g', b', h1, h2, h3⟩
  refine ⟨rfl, v', h.toWorld h1 ?_ (fun k hk => .inl (h2 k hk)) h3, h2, h3.mono fun k _ hk => .inr (.inr (.inr (.inr (.inl hk))))⟩
  have := h.ok.ahead
  simp; omega
end
end Go.Proofs.YtpmkgddjgebojaaGreatDoor.Mod

namespace Go.Proofs.YtpmkgddjgebojaaGreatDoor.Mod
set_option linter.unusedVariables false
set_option linter.unusedSimpArgs false
open Go.RowKit Hp Slot RowL Life

section
variable {W : World} {p : Pl} {m : M}
theorem m_turn' (h : MAt W p m) (i d : Nat) (iz dz own more : Int) (s : S) (hi : m.ss[i]? = some s) (hiz : iz = i) (hdz : dz = d) (hd : Done d) :
    Calls Tryz.prog 63 #[.pointer (some ⟨p.mb, 0, none⟩), .int .i64 iz, .int .i64 dz, .int .i64 own, .int .i64 more] W fun e W' => e = .returned (.bool (next s d own more).isSome) ∧ MAt W' p (m.turn i d own more) ∧ Chg (fun k => k = p.sb) W W' := by
  subst hiz hdz
  have hr := h.ok.rights s (List.mem_of_getElem? hi)
  obtain ⟨F, h1, h2, h3⟩ := act_any d hd s own more
  refine (turn_any W p.mb p.sb m.ss i s own more F d _ _ h.hdr h.slots hi (by have := h.ok.ns; omega) h.ne.2.1 (by unfold Done at hd; omega) h1 h2 h.laid (right_wf hr) h3).mono ?_
  rintro e W' ⟨rfl, hs, hc⟩
  rw [turned_eq _ _ _ _ _ _ hi] at hs
  exact ⟨rfl, h.toSlots hc hs (turnL_len _ _ _ _ _) (turnL_right hd h.ok.rights), hc⟩

theorem Fp_lv (h : MAt W p m) : ∀ k, mfp p k → k < W.heap.size := fun k hk => h.lt hk
end

/-- A method of the pool at p, begun with B blocks, in W0 behind its own boxes: it stands in w now. -/
structure Re (B : Nat) (W0 : World) (p : Pl) (w : World) (p' : Pl) (m' : M) : Prop where
  at' : MAt w p' m'
  old : ∀ k, mfp p k → k < B
  le : B ≤ W0.heap.size
  same : ∃ lv rv, p' = { p with lv := lv, rv := rv }
  lvs : ∀ k, Fp p'.lv k → Fp p.lv k ∨ W0.heap.size ≤ k
  rvs : ∀ k, Fp p'.rv k → Fp p.rv k ∨ W0.heap.size ≤ k
  chg : Chg (fun k => mfp p k ∨ B ≤ k) W0 w
section
variable {B : Nat} {W0 w w' : World} {p p' : Pl} {m' m'' : M}
theorem Re.begin {W : World} {m : M} (h : MAt W p m) (hb : Below W.heap.size W W0) : Re W.heap.size W0 p W0 p m :=
  ⟨h.below hb, fun k hk => h.lt hk, hb.size, ⟨p.lv, p.rv, rfl⟩, fun _ h => .inl h, fun _ h => .inl h, Chg.refl _ _⟩
theorem Re.mine (r : Re B W0 p w p' m') {k : Nat} (hk : mfp p' k) : mfp p k ∨ W0.heap.size ≤ k := by
  obtain ⟨lv, rv, h⟩ := r.same
  have e1 := r.lvs
  have e2 := r.rvs
  subst h
  rcases hk with hk | hk | hk | hk | (hk | hk | hk) | hk
  · exact .inl (.inl hk)
  · exact .inl (.inr (.inl hk))
  · exact .inl (.inr (.inr (.inl hk)))
  · exact .inl (.inr (.inr (.inr (.inl hk))))
  · exact .inl (.inr (.inr (.inr (.inr (.inl (.inl hk))))))
  · exact .inl (.inr (.inr (.inr (.inr (.inl (.inr (.inl hk)))))))
  · exact (e2 k hk).imp (fun h => .inr (.inr (.inr (.inr (.inl (.inr (.inr h))))))) id
  · exact (e1 k hk).imp (fun h => .inr (.inr (.inr (.inr (.inr h))))) id
theorem Re.not (r : Re B W0 p w p' m') {g : Nat} (h1 : B ≤ g) (h2 : g < W0.heap.size) : ¬ mfp p' g := fun h => by
  rcases r.mine h with h | h
  · have := r.old g h; omega
  · omega
theorem Re.not' (r : Re B W0 p w p' m') {g : Nat} (h1 : ¬ mfp p g) (h2 : g < W0.heap.size) : ¬ mfp p' g := fun h => by
  rcases r.mine h with h | h
  · exact h1 h
  · omega
theorem Re.pos (r : Re B W0 p w p' m') : 0 < B := by have := r.old p.mb (.inl rfl); omega
theorem Re.size (r : Re B W0 p w p' m') : W0.heap.size ≤ w.heap.size := r.chg.size
theorem Re.below (r : Re B W0 p w p' m') (hb : Below w.heap.size w w') : Re B W0 p w' p' m' :=
  ⟨r.at'.below hb, r.old, r.le, r.same, r.lvs, r.rvs, r.chg.trans (Chg.ofBelow (F := fun _ => False) hb) (fun _ _ h => h.elim)⟩
theorem Re.drew (r : Re B W0 p w p' m') : Re B W0 p w.drew p' m' := ⟨r.at'.drew, r.old, r.le, r.same, r.lvs, r.rvs, r.chg.drew⟩
theorem Re.alloc (r : Re B W0 p w p' m') (o : Obj) : Re B W0 p (w.alloc o) p' m' := r.below ((Below.refl _ _).alloc (Nat.le_refl _) _)
/-- The pool has turned, in its own blocks. -/
theorem Re.turn (r : Re B W0 p w p' m') (h : MAt w' p' m'') (hc : Chg (mfp p') w w') : Re B W0 p w' p' m'' :=
  ⟨h, r.old, r.le, r.same, r.lvs, r.rvs, r.chg.trans hc (fun k _ hk => (r.mine hk).imp id (fun h => Nat.le_trans r.le h))⟩
theorem Re.slots (r : Re B W0 p w p' m') (h : MAt w' p' m'') (hc : Chg (fun k => k = p'.sb) w w') : Re B W0 p w' p' m'' := r.turn h (hc.mono fun k _ e => .inr (.inl e))
theorem Re.works (r : Re B W0 p w p' m') (h : MAt w' p' m'') (hc : Chg (fun k => k = p'.kb) w w') : Re B W0 p w' p' m'' := r.turn h (hc.mono fun k _ e => .inr (.inr (.inl e)))
theorem Re.post (r : Re B W0 p w p' m') {ans : Value} {e : Ending} (h : MPost w p' ans m'' e w') : e = .returned ans ∧ ∃ p'', Re B W0 p w' p'' m'' ∧ Chg (mfp p') w w' := by
  obtain ⟨h0, lv, rv, h1, h2, h3, h4⟩ := h
  refine ⟨h0, _, ⟨h1, r.old, r.le, ?_, fun k hk => ?_, fun k hk => ?_, r.chg.trans h4 (fun k _ hk => (r.mine hk).imp id (fun h => Nat.le_trans r.le h))⟩, h4⟩
  · obtain ⟨l, v, h⟩ := r.same
    exact ⟨lv, rv, by rw [h]⟩
  · rcases h2 k hk with h | h
    · exact r.lvs k h
    · exact .inr (Nat.le_trans r.size h)
  · rcases h3 k hk with h | h
    · exact r.rvs k h
    · exact .inr (Nat.le_trans r.size h)
/-- A box of the method's own has turned. -/
theorem Re.box (r : Re B W0 p w p' m') {g : Nat} (h1 : B ≤ g) (h2 : g < W0.heap.size) (hc : Chg (fun k => k = g) w w') : Re B W0 p w' p' m' := by
  have hp := r.pos
  exact ⟨r.at'.chg hc (fun k hk e => r.not h1 h2 (e ▸ hk)) (by omega), r.old, r.le, r.same, r.lvs, r.rvs, r.chg.trans hc (fun k _ e => .inr (by rw [e]; exact h1))⟩
theorem Re.row (r : Re B W0 p w p' m') {g : Nat} (h1 : B ≤ g) (h2 : g < W0.heap.size) (cs : Array Value) : Re B W0 p (w.setRow g cs) p' m' :=
  r.box h1 h2 (chg_setRow (Chg.refl _ _) _ _ (fun _ => rfl))
theorem Re.mb (r : Re B W0 p w p' m') : p'.mb = p.mb := by obtain ⟨_, _, h⟩ := r.same; rw [h]
theorem Re.sb (r : Re B W0 p w p' m') : p'.sb = p.sb := by obtain ⟨_, _, h⟩ := r.same; rw [h]
/-- The method is through. -/
theorem Re.fin {W : World} (r : Re W.heap.size W0 p w p' m') (hb : Below W.heap.size W W0) (ans : Value) : MPost W p ans m' (.returned ans) w := by
  obtain ⟨lv, rv, h⟩ := r.same
  have h1 := r.lvs
  have h2 := r.rvs
  have h3 := r.at'
  subst h
  refine ⟨rfl, lv, rv, h3, fun k hk => (h1 k hk).imp id (Nat.le_trans hb.size), fun k hk => (h2 k hk).imp id (Nat.le_trans hb.size), ?_⟩
  exact (Chg.trans (Chg.ofBelow hb) r.chg (fun k hk h => h.elim id (fun h => by omega)))
theorem RowAt.kept {g : Nat} {cs : Array Value} {t : TypeId} (h : RowAt w g cs t) (r : Re B W0 p w p' m') (h1 : B ≤ g) (h2 : g < W0.heap.size) (hc : Chg (mfp p') w w') : RowAt w' g cs t := h.chg hc (r.not h1 h2)
theorem RowAt.slotsKept {g : Nat} {cs : Array Value} {t : TypeId} (h : RowAt w g cs t) (r : Re B W0 p w p' m') (h1 : B ≤ g) (h2 : g < W0.heap.size) (hc : Chg (fun k => k = p'.sb) w w') : RowAt w' g cs t :=
  h.chg hc (fun e => r.not h1 h2 (.inr (.inl e)))
end

theorem ev_store {w : World} {g : Nat} {Z : Array Value} {t : TypeId} (h : RowAt w g Z t) (hz : Z.size = 18) (x : Ev) : (storeCells ⟨g, 0, none⟩ x.cells.toList 0).run Tryz.prog w = .ok () (w.setRow g x.cells) := by
  have h4 := run_storeCells_from (P := Tryz.prog) g t x.cells.toList 0 Z w h (by simp [Ev.cells, hz]) (fun v hv => by simp [Ev.cells] at hv; rcases hv with rfl | rfl | rfl | rfl | rfl | rfl | rfl | rfl | rfl | rfl | rfl | rfl | rfl | rfl | rfl | rfl | rfl | rfl <;> rfl)
  simpa using h4
abbrev ev0 : Array Value := Ev.zero.cells

/-- A result block that holds eighteen cells. -/
def ERow (w : World) (g : Nat) : Prop := ∃ Z : Array Value, Z.size = 18 ∧ RowAt w g Z 36
theorem ERow.store {w : World} {g : Nat} (h : ERow w g) (x : Ev) : (storeCells ⟨g, 0, none⟩ x.cells.toList 0).run Tryz.prog w = .ok () (w.setRow g x.cells) := by
  obtain ⟨Z, h1, h2⟩ := h
  exact ev_store h2 h1 x
theorem ERow.set {w : World} {g : Nat} (h : ERow w g) (x : Ev) : RowAt (w.setRow g x.cells) g x.cells 36 := by
  obtain ⟨Z, h1, h2⟩ := h
  exact h2.set _
theorem ERow.chg {w w' : World} {g : Nat} {F : Nat → Prop} (h : ERow w g) (hc : Chg F w w') (hf : ¬ F g) : ERow w' g := by
  obtain ⟨Z, h1, h2⟩ := h
  exact ⟨Z, h1, h2.chg hc hf⟩
theorem ERow.below {w w' : World} {g : Nat} (h : ERow w g) (hc : Below w.heap.size w w') : ERow w' g := by
  obtain ⟨Z, h1, h2⟩ := h
  exact ⟨Z, h1, h2.below hc⟩
theorem ev_one (x : Ev) : (x.cells.all fun v => v.oneCell') = true := by simp [Ev.cells, Value.oneCell']
theorem ev_size (x : Ev) : x.cells.size = 18 := rfl

end Go.Proofs.YtpmkgddjgebojaaGreatDoor.Mod

namespace Go.Proofs.YtpmkgddjgebojaaGreatDoor.Mod
set_option linter.unusedVariables false
set_option linter.unusedSimpArgs false
open Go.RowKit Hp Slot RowL Life

theorem turnL_get {ss : List S} {i d : Nat} {own more : Int} {s : S} (hi : ss[i]? = some s) : (turnL ss i d own more)[i]? = some (step s d own more) := by
  unfold turnL
  rw [hi]
  have := (List.getElem?_eq_some_iff.1 hi).1
  simp [this]

set_option maxRecDepth 100000 in
set_option maxHeartbeats 4000000 in
theorem m_dial {W : World} {p : Pl} {m : M} (h : MAt W p m) (i : Nat) (iz who : Int) (s : S) (hi : m.ss[i]? = some s) (hiz : iz = i) :
    Calls Tryz.prog 89 #[.pointer (some ⟨p.mb, 0, none⟩), .int .i64 iz, .int .i64 who] W (MPost W p (m.dial i who).1.val (m.dial i who).2) := by
  have hlt : p.mb < W.heap.size := h.lt (.inl rfl)
  have c10 := h.hd.c10
  have hB : Below W.heap.size W (W.alloc (.cells ev0 36)) := (Below.refl _ _).alloc (Nat.le_refl _) _
  have r0 : Re W.heap.size (W.alloc (.cells ev0 36)) p (W.alloc (.cells ev0 36)) p m := Re.begin h hB
  have e0 : ERow (W.alloc (.cells ev0 36)) W.heap.size := ⟨ev0, rfl, RowAt.new _ _ _⟩
  have hg1 : W.heap.size < (W.alloc (.cells ev0 36)).heap.size := by simp
  have HS : RowKit.Hid (m.next.ss[i]? = some s) := Lib.hid hi
  have HIZ := Lib.hid hiz
  have hn := m_wnext (h.alloc (.cells ev0 36))
  have hfl := fun W => failed_any W 6
  have hf6 : M.failed 6 = { Ev.zero with e := 6 } := rfl
  unfold M.dial
  rw [← hf6] at hfl
  generalize M.failed 6 = x6 at *
  cases hg : m.good
  · rw [hg] at hn
    simp only [Bool.false_eq_true, if_false]
    clear hg hf6 hi hiz
    go_enter Tryz.func89, Tryz.ntmps89
    go_wp2_with fail
    refine hn.mono ?_
    rintro e w1 hp
    obtain ⟨rfl, p1, r1, hc1⟩ := r0.post hp.post
    have e1 := e0.chg hc1 (r0.not (Nat.le_refl _) hg1)
    clear hp hn hc1 c10
    have ht := m_turn' r1.at' i 2 iz 2 who 0 s HS.out HIZ.out rfl (by simp [Done])
    rw [r1.mb] at ht
    go_wp2_with fail
    refine ht.mono ?_
    rintro e w2 ⟨rfl, h2, hc2⟩
    have r2 := r1.slots h2 hc2
    have e2 := e1.chg hc2 (fun e => r1.not (Nat.le_refl _) hg1 (.inr (.inl e)))
    clear ht h2 hc2 r1 e1
    go_wp2_with fail
    refine (hfl _).mono ?_
    rintro e w3 ⟨rfl, hb3⟩
    have r3 := r2.below hb3
    have e3 := e2.below hb3
    have hst := e3.store x6
    have hsz := ev_size x6
    clear hfl hb3 r2 e2
    go_wp2_with fail
    refine bodyPost_ret (results_row rfl _ _ W.heap.size _ _ _ rfl (e3.set x6) Tryz.underlying36 rfl (by kernel_rfl)) rfl ?_
    exact (r3.row (Nat.le_refl _) hg1 x6.cells).fin hB _
  · rw [hg] at hn
    simp only [if_true]
    clear hg hf6 hi hiz hfl
    go_enter Tryz.func89, Tryz.ntmps89
    go_wp2_with fail
    refine hn.mono ?_
    rintro e w1 hp
    obtain ⟨rfl, p1, r1, hc1⟩ := r0.post hp.post
    have e1 := e0.chg hc1 (r0.not (Nat.le_refl _) hg1)
    clear hp hn hc1 c10
    have ht := m_turn' r1.at' i 1 iz 1 who 0 s HS.out HIZ.out rfl (by simp [Done])
    rw [r1.mb] at ht
    go_wp2_with fail
    refine ht.mono ?_
    rintro e w2 ⟨rfl, h2, hc2⟩
    have r2 := r1.slots h2 hc2
    have e2 := e1.chg hc2 (fun e => r1.not (Nat.le_refl _) hg1 (.inr (.inl e)))
    have hle := m_leased h2 i iz (step s 1 who 0) (turnL_get HS.out) HIZ.out
    rw [r1.mb] at hle
    clear ht h2 hc2 r1 e1
    generalize (m.next.turn i 1 who 0).leased i = x6 at *
    go_wp2_with fail
    refine hle.mono ?_
    rintro e w3 ⟨rfl, hb3⟩
    have r3 := r2.below hb3
    have e3 := e2.below hb3
    have hst := e3.store x6
    have hsz := ev_size x6
    clear hle hb3 r2 e2
    go_wp2_with fail
    refine bodyPost_ret (results_row rfl _ _ W.heap.size _ _ _ rfl (e3.set x6) Tryz.underlying36 rfl (by kernel_rfl)) rfl ?_
    exact (r3.row (Nat.le_refl _) hg1 x6.cells).fin hB _
end Go.Proofs.YtpmkgddjgebojaaGreatDoor.Mod

namespace Go.Proofs.YtpmkgddjgebojaaGreatDoor.Mod
set_option linter.unusedVariables false
set_option linter.unusedSimpArgs false
open Go.RowKit Go.Shelf Hp Slot RowL Life Rng
attribute [local go_sem] Oper.semAt_some

/-- One slot more is gone through. -/
def mvStep (victim who : Int) (i : Nat) (r : List S × Bool) : List S × Bool :=
  match r.1[i]? with
  | some s => if Find.fits s 0 victim then (if r.2 then r.1.set i (step s 9 who 0) else r.1, !r.2) else r
  | none => r
def mvN (victim who : Int) : Nat → List S × Bool → List S × Bool
  | 0, r => r
  | i + 1, r => mvStep victim who i (mvN victim who i r)
theorem mvStep_len (victim who : Int) (i : Nat) (r : List S × Bool) : (mvStep victim who i r).1.length = r.1.length := by
  unfold mvStep
  split
  · split
    · split <;> simp
    · rfl
  · rfl
theorem mvN_len (victim who : Int) : ∀ (i : Nat) (r : List S × Bool), (mvN victim who i r).1.length = r.1.length
  | 0, _ => rfl
  | i + 1, r => by rw [mvN, mvStep_len, mvN_len victim who i r]
/-- Behind a part that is through, the rest goes as moveL says. -/
theorem mvN_cons (victim who : Int) (s : S) : ∀ (i : Nat) (l : List S) (b : Bool), mvN victim who (i + 1) (s :: l, b) =
    (let r := mvN victim who i (l, if Find.fits s 0 victim then !b else b); ((if Find.fits s 0 victim then (if b then step s 9 who 0 else s) else s) :: r.1, r.2))
  | 0, l, b => by
    simp only [mvN, mvStep, List.getElem?_cons_zero]
    cases Find.fits s 0 victim <;> cases b <;> simp
  | i + 1, l, b => by
    rw [mvN, mvN_cons victim who s i l b]
    simp only [mvN]
    generalize mvN victim who i (l, if Find.fits s 0 victim = true then !b else b) = r
    simp only [mvStep, List.getElem?_cons_succ]
    cases hr : r.1[i]? with
    | none => simp
    | some t =>
      cases hf : Find.fits t 0 victim <;> cases hb : r.2 <;> simp [hb, hf]
theorem mvN_all (victim who : Int) : ∀ (l : List S) (b : Bool), (mvN victim who l.length (l, b)).1 = M.moveL victim who b l
  | [], b => rfl
  | s :: l, b => by
    rw [List.length_cons, mvN_cons]
    simp only [M.moveL]
    cases Find.fits s 0 victim <;> simp [mvN_all victim who l]
theorem mvN_right (victim who : Int) : ∀ (i : Nat) (r : List S × Bool), (∀ s ∈ r.1, s.right = true) → ∀ s ∈ (mvN victim who i r).1, s.right = true
  | 0, _, h => h
  | i + 1, r, h => by
    have h' := mvN_right victim who i r h
    rw [mvN]
    generalize mvN victim who i r = q at *
    unfold mvStep
    split
    · rename_i s hs
      split
      · split
        · exact set_right h' (step_right (by simp [Mod.Done]) (h' s (List.mem_of_getElem? hs)))
        · exact h'
      · exact h'
    · exact h'

theorem MAt.turned {W W' : World} {p : Pl} {m : M} {B : Nat} (h : MAt W p m) (ht : Turn B W W') (hB : ∀ k, mfp p k → k < B) (h0 : 0 < B) : MAt W' p m :=
  h.keep ht.size (fun k hk => ht.block k (hB k hk) (h.lt hk)) (ht.block 0 h0 h.lt0)
theorem mv_next {victim who : Int} {i : Nat} {r : List S × Bool} {t : S} (ht : (mvN victim who i r).1[i]? = some t) (hf : Find.fits t 0 victim = true) :
    mvN victim who (i + 1) r = (if (mvN victim who i r).2 then (mvN victim who i r).1.set i (step t 9 who 0) else (mvN victim who i r).1, !(mvN victim who i r).2) := by
  rw [mvN, mvStep, ht]; simp [hf]
theorem mv_skip {victim who : Int} {i : Nat} {r : List S × Bool} {t : S} (ht : (mvN victim who i r).1[i]? = some t) (hf : Find.fits t 0 victim = false) : mvN victim who (i + 1) r = mvN victim who i r := by
  rw [mvN, mvStep, ht]; simp [hf]

/-- Behind i slots. -/
structure mvK (w : World) (p : Pl) (m : M) (victim who : Int) (i : Nat) (W : World) : Prop where
  le : i ≤ m.ss.length
  at' : MAt W p { m with ss := (mvN victim who i (m.ss, true)).1 }
  chg : Chg (fun k => k = p.sb ∨ w.heap.size ≤ k) w W
  c0 : W.cell? ⟨w.heap.size, 0, none⟩ = some (.pointer (some ⟨p.mb, 0, none⟩))
  c1 : W.cell? ⟨w.heap.size + 1, 0, none⟩ = some (.int .i64 who)
  c2 : W.cell? ⟨w.heap.size + 1 + 1, 0, none⟩ = some (.bool (mvN victim who i (m.ss, true)).2)
  f2 : W.frozen? ⟨w.heap.size + 1 + 1, 0, none⟩ = false
theorem mvK.later {w : World} {p : Pl} {m : M} {victim who : Int} {i : Nat} {W W' : World} (h : mvK w p m victim who i W) (hb : Below W.heap.size W W') : mvK w p m victim who i W' :=
  ⟨h.le, h.at'.below hb, h.chg.trans (Chg.ofBelow (F := fun _ => False) hb) (fun _ _ h => h.elim), Field.bkeep hb h.c0, Field.bkeep hb h.c1, Field.bkeep hb h.c2, Field.bkeepz hb h.c2 h.f2⟩

theorem mvK_mk {w : World} {p : Pl} {m : M} {victim who : Int} {i : Nat} {W : World} {l : List S} {b : Bool} (hn : mvN victim who i (m.ss, true) = (l, b)) (le : i ≤ m.ss.length) (hat : MAt W p { m with ss := l }) (chg : Chg (fun k => k = p.sb ∨ w.heap.size ≤ k) w W)
    (c0 : W.cell? ⟨w.heap.size, 0, none⟩ = some (.pointer (some ⟨p.mb, 0, none⟩))) (c1 : W.cell? ⟨w.heap.size + 1, 0, none⟩ = some (.int .i64 who)) (c2 : W.cell? ⟨w.heap.size + 1 + 1, 0, none⟩ = some (.bool b)) (f2 : W.frozen? ⟨w.heap.size + 1 + 1, 0, none⟩ = false) : mvK w p m victim who i W :=
  ⟨le, by rw [hn]; exact hat, chg, c0, c1, by rw [hn]; exact c2, f2⟩

set_option maxRecDepth 100000 in
set_option maxHeartbeats 8000000 in
theorem m_move {w : World} {p : Pl} {m : M} (h : MAt w p m) (victim who : Int) :
    Calls Tryz.prog 95 #[.pointer (some ⟨p.mb, 0, none⟩), .int .i64 victim, .int .i64 who] w fun e W' => (∃ v, e = .returned v) ∧ MAt W' p (m.move victim who) ∧ Chg (fun k => k = p.sb) w W' := by
  have hlm : p.mb < w.heap.size := h.lt (.inl rfl)
  have hls : p.sb < w.heap.size := h.lt (.inr (.inl rfl))
  have hns := h.ok.ns
  refine (callsIn_wide (n := 9)).1 ?_
  refine callsIn_of_wp_marks Tryz.func95 rfl trivial ?_
  simp only [Tryz.ntmps95, List.size_toArray, List.length_cons, List.length_nil, Nat.reduceAdd, Nat.reduceSub, Array.replicate_succ, Array.replicate_zero, List.push_toArray, List.append_toArray, List.nil_append, List.cons_append]
  gi_wp2_with (refine ⟨trivial, ?_⟩; gi_at_call 81; refine (callsIn_wide.2 (fits_any _ _ _ _)).mono ?_; rintro e w' ⟨rfl, rfl⟩)
  have hB : Below w.heap.size w ((((((w.alloc (.cells #[.pointer (some ⟨p.mb, 0, none⟩)] 27)).alloc (.cells #[.int .i64 who] 3)).alloc (.cells #[.bool true] 4)).alloc (.cells #[.pointer (some ⟨p.mb, 0, none⟩)] 27)).alloc (.cells #[.int .i64 0] 3)).alloc (.cells #[.int .i64 victim] 3)) := ((((((Below.refl _ _).alloc (Nat.le_refl _) _).alloc (by simp) _).alloc (by simp; omega) _).alloc (by simp; omega) _).alloc (by simp; omega) _).alloc (by simp; omega) _
  have b1 : ((((((w.alloc (.cells #[.pointer (some ⟨p.mb, 0, none⟩)] 27)).alloc (.cells #[.int .i64 who] 3)).alloc (.cells #[.bool true] 4)).alloc (.cells #[.pointer (some ⟨p.mb, 0, none⟩)] 27)).alloc (.cells #[.int .i64 0] 3)).alloc (.cells #[.int .i64 victim] 3)).cell? ⟨w.heap.size + 1 + 1 + 1, 0, none⟩ = some (.pointer (some ⟨p.mb, 0, none⟩)) := by go_simp
  have b2 : ((((((w.alloc (.cells #[.pointer (some ⟨p.mb, 0, none⟩)] 27)).alloc (.cells #[.int .i64 who] 3)).alloc (.cells #[.bool true] 4)).alloc (.cells #[.pointer (some ⟨p.mb, 0, none⟩)] 27)).alloc (.cells #[.int .i64 0] 3)).alloc (.cells #[.int .i64 victim] 3)).cell? ⟨w.heap.size + 1 + 1 + 1 + 1, 0, none⟩ = some (.int .i64 0) := by go_simp
  have b3 : ((((((w.alloc (.cells #[.pointer (some ⟨p.mb, 0, none⟩)] 27)).alloc (.cells #[.int .i64 who] 3)).alloc (.cells #[.bool true] 4)).alloc (.cells #[.pointer (some ⟨p.mb, 0, none⟩)] 27)).alloc (.cells #[.int .i64 0] 3)).alloc (.cells #[.int .i64 victim] 3)).cell? ⟨w.heap.size + 1 + 1 + 1 + 1 + 1, 0, none⟩ = some (.int .i64 victim) := by go_simp
  have r0 : ((((((w.alloc (.cells #[.pointer (some ⟨p.mb, 0, none⟩)] 27)).alloc (.cells #[.int .i64 who] 3)).alloc (.cells #[.bool true] 4)).alloc (.cells #[.pointer (some ⟨p.mb, 0, none⟩)] 27)).alloc (.cells #[.int .i64 0] 3)).alloc (.cells #[.int .i64 victim] 3)).cell? ⟨w.heap.size, 0, none⟩ = some (.pointer (some ⟨p.mb, 0, none⟩)) := by go_simp
  have r1 : ((((((w.alloc (.cells #[.pointer (some ⟨p.mb, 0, none⟩)] 27)).alloc (.cells #[.int .i64 who] 3)).alloc (.cells #[.bool true] 4)).alloc (.cells #[.pointer (some ⟨p.mb, 0, none⟩)] 27)).alloc (.cells #[.int .i64 0] 3)).alloc (.cells #[.int .i64 victim] 3)).cell? ⟨w.heap.size + 1, 0, none⟩ = some (.int .i64 who) := by go_simp
  have r2 : ((((((w.alloc (.cells #[.pointer (some ⟨p.mb, 0, none⟩)] 27)).alloc (.cells #[.int .i64 who] 3)).alloc (.cells #[.bool true] 4)).alloc (.cells #[.pointer (some ⟨p.mb, 0, none⟩)] 27)).alloc (.cells #[.int .i64 0] 3)).alloc (.cells #[.int .i64 victim] 3)).cell? ⟨w.heap.size + 1 + 1, 0, none⟩ = some (.bool true) := by go_simp
  have z2 : ((((((w.alloc (.cells #[.pointer (some ⟨p.mb, 0, none⟩)] 27)).alloc (.cells #[.int .i64 who] 3)).alloc (.cells #[.bool true] 4)).alloc (.cells #[.pointer (some ⟨p.mb, 0, none⟩)] 27)).alloc (.cells #[.int .i64 0] 3)).alloc (.cells #[.int .i64 victim] 3)).frozen? ⟨w.heap.size + 1 + 1, 0, none⟩ = false := by go_simp
  have hK0 : mvK w p m victim who 0 ((((((w.alloc (.cells #[.pointer (some ⟨p.mb, 0, none⟩)] 27)).alloc (.cells #[.int .i64 who] 3)).alloc (.cells #[.bool true] 4)).alloc (.cells #[.pointer (some ⟨p.mb, 0, none⟩)] 27)).alloc (.cells #[.int .i64 0] 3)).alloc (.cells #[.int .i64 victim] 3)) := ⟨by omega, h.below hB, Chg.ofBelow hB, r0, r1, r2, z2⟩
  have hold : ∀ k, mfp p k → k < w.heap.size := fun k hk => h.lt hk
  have hp0 : 0 < w.heap.size := h.lt0
  have hms : p.mb ≠ p.sb := h.ne.2.1
  try simp only [World.size_alloc]
  generalize hwq : ((((((w.alloc (.cells #[.pointer (some ⟨p.mb, 0, none⟩)] 27)).alloc (.cells #[.int .i64 who] 3)).alloc (.cells #[.bool true] 4)).alloc (.cells #[.pointer (some ⟨p.mb, 0, none⟩)] 27)).alloc (.cells #[.int .i64 0] 3)).alloc (.cells #[.int .i64 victim] 3)) = wq at *
  clear hwq
  have hsz : w.heap.size + 1 + 1 + 1 + 1 + 1 < wq.heap.size := World.block_lt_of_cell? _ _ b3
  refine wpIn_rangeC (gf := 98) (lb := #[.pointer (some ⟨w.heap.size + 1 + 1 + 1, 0, none⟩), .pointer (some ⟨w.heap.size + 1 + 1 + 1 + 1, 0, none⟩), .pointer (some ⟨w.heap.size + 1 + 1 + 1 + 1 + 1, 0, none⟩)]) rfl
    (enters_of Tryz.func98 (by kernel_rfl) rfl) (encs := fun x : Nat => #[.int .i64 x]) (I := fI p.sb m.ss.length) (Ww := fun k => k = p.sb ∨ k = w.heap.size + 1 + 1) (Wr := fun _ => False)
    (Skips := fSkips p.sb m.ss.length 0 victim) (Yields := fYields p.sb m.ss.length 0 victim) (Done := fun i _ => i = m.ss.length) (s0 := 0)
    ?hps ?hRd ?hseq (mvK w p m victim who) (fun _ _ => False) ?hKI ?hKs ?hKk ?hKt (fun _ _ _ h _ => h) ?hYt (fun _ _ _ h _ => h) ?hYc ?h0 ?round ?done ?stop
  case hps => intro x; rfl
  case hKI => exact fun s W h => ⟨_, mvN_len _ _ _ _, h.at'.slots⟩
  case hRd => rintro k ((rfl | rfl) | hk); omega; omega; exact hk.elim
  case hseq =>
    intro W1 hT
    refine fits_seq _ _ _ p.mb p.sb m.ss.length 0 victim _ W1 (.inl rfl) (by omega) (hT.cell b1) (hT.cell b2) (hT.cell b3) (hT.cell (Field.bkeep hB h.hdr)) (by omega) (by omega) (by omega) (by omega) (fun k hk => ?_)
    have := hT.size
    rcases hk with rfl | rfl <;> omega
  case hKs => exact fun s W W' h hc => h.later (below_false hc)
  case hKk =>
    rintro s s' W hk ⟨q1, rfl, ss', e1, e2, e3⟩
    obtain ⟨t, ht⟩ : ∃ t, (mvN victim who s (m.ss, true)).1[s]? = some t := ⟨_, List.getElem?_eq_getElem (by rw [mvN_len]; exact q1)⟩
    obtain ⟨t', ht'⟩ : ∃ t', ss'[s]? = some t' := ⟨_, List.getElem?_eq_getElem (by omega)⟩
    have hf := e3 _ ht'
    rw [← slots_one hk.at'.slots e2 ht ht'] at hf
    have hn := mv_skip ht hf
    exact ⟨by omega, by rw [hn]; exact hk.at', hk.chg, hk.c0, hk.c1, by rw [hn]; exact hk.c2, hk.f2⟩
  case hKt =>
    rintro s W W' hk ht
    exact ⟨hk.le, hk.at'.turned ht (fun k h => by have := hold k h; omega) (by omega), ht.chg hk.chg (by omega), ht.cell hk.c0, ht.cell hk.c1, ht.cell hk.c2, (ht.frozen hk.c2).trans hk.f2⟩
  case hYt =>
    rintro s x s' W W' ⟨q1, q2, q3, ss', e1, e2, e3⟩ ht
    exact ⟨q1, q2, q3, ss', e1, slots_turn e2 ht, e3⟩
  case hYc =>
    rintro s x s' W W' ⟨q1, q2, q3, ss', e1, e2, e3⟩ hc
    exact ⟨q1, q2, q3, ss', e1, e2.stable (hc.block p.sb (e2.lt (by omega)) id), e3⟩
  case h0 => exact hK0
  case round =>
    intro L s x s' W hL hLW hk hy
    gi_wp2
    refine ⟨Chg.refl _ _, ?_⟩
    rintro W2 hT2 - hk2 ⟨q1, rfl, rfl, ss', e1, e2, e3⟩
    obtain ⟨t, ht⟩ : ∃ t, (mvN victim who x (m.ss, true)).1[x]? = some t := ⟨_, List.getElem?_eq_getElem (by rw [mvN_len]; exact q1)⟩
    obtain ⟨t', ht'⟩ : ∃ t', ss'[x]? = some t' := ⟨_, List.getElem?_eq_getElem (by omega)⟩
    have hf := e3 _ ht'
    rw [← slots_one hk2.at'.slots e2 ht ht'] at hf
    have HN := Lib.hid (mv_next ht hf)
    have hAT := hk2.at'
    have hCH := hk2.chg
    have g0 := hk2.c0
    have g1 := hk2.c1
    have g2 := hk2.c2
    have z2' := hk2.f2
    have hltW : w.heap.size + 1 + 1 < W2.heap.size := World.block_lt_of_cell? _ _ g2
    have htn := m_turn' (m := { m with ss := (mvN victim who x (m.ss, true)).1 }) hAT x 9 x 9 who 0 t ht rfl rfl (by simp [Mod.Done])
    have htl : (M.turn { m with ss := (mvN victim who x (m.ss, true)).1 } x 9 who 0) = { m with ss := (mvN victim who x (m.ss, true)).1.set x (step t 9 who 0) } := by
      unfold M.turn turnL
      simp only [ht]
    rw [htl] at htn
    clear htl ht ht' hf e1 e2 e3 hk2 hT2 hy hk hLW hL r0 r1 r2 z2 b1 b2 b3 hK0 hB
    have HLE : RowKit.Hid (x + 1 ≤ m.ss.length) := Lib.hid q1
    generalize mvN victim who x (m.ss, true) = r at *
    obtain ⟨rl, rb⟩ := r
    have HN2 := Lib.hid HN.out
    simp only at HN2 hAT g2 htn
    clear HN
    have hst : ∀ (Wx : World) (b : Bool), MAt Wx p { m with ss := rl } → MAt (Wx.setCell ⟨w.heap.size + 1 + 1, 0, none⟩ (.bool b)) p { m with ss := rl } := fun Wx b h => h.chg (F := fun k => k = w.heap.size + 1 + 1) ((Chg.refl _ _).setCell _ _ (fun _ => rfl)) (fun k hk e => by have := hold k hk; omega) (by omega)
    cases rb
    · have hn : RowKit.Hid (mvN victim who (x + 1) (m.ss, true) = (rl, true)) := Lib.hid (by rw [HN2.out]; rfl)
      have hA4 := hst W2 true hAT
      have g4 := World.cell?_setCell_same W2 ⟨w.heap.size + 1 + 1, 0, none⟩ (.bool true) g2
      have HF : RowKit.Hid (KeepsB (fun k => k = p.sb ∨ k = w.heap.size + 1 + 1) W2 (W2.setCell ⟨w.heap.size + 1 + 1, 0, none⟩ (.bool true)) ∧ mvK w p m victim who (x + 1) (W2.setCell ⟨w.heap.size + 1 + 1, 0, none⟩ (.bool true))) :=
        Lib.hid ⟨KeepsB.of_chg (F := fun k => k = w.heap.size + 1 + 1) ((Chg.refl _ _).setCell _ _ (fun _ => rfl)) (fun _ _ h => .inr h), mvK_mk hn.out HLE.out hA4 (hCH.setCell _ _ (fun h => by simp at h; omega))
          ((World.cell?_setCell_other _ _ _ _ (by simp <;> omega)).trans g0) ((World.cell?_setCell_other _ _ _ _ (by simp)).trans g1) g4 (by simp [z2'])⟩
      clear hA4 g4 hst htn hAT hCH
      gi_wp2_with fail
      exact HF.out
    · have hn : RowKit.Hid (mvN victim who (x + 1) (m.ss, true) = (rl.set x (step t 9 who 0), false)) := Lib.hid (by rw [HN2.out]; rfl)
      clear hst
      gi_wp2_with fail
      refine ⟨trivial, ?_⟩
      gi_at_call 63
      refine (CallsIn.inRound L (callsIn_wide.2 htn)).mono ?_
      rintro e w6 ⟨rfl, h6, hc6⟩
      have y0 := (hc6.cell (p := ⟨w.heap.size, 0, none⟩) (by simp; omega) (by simp; omega)).trans g0
      have y1 := (hc6.cell (p := ⟨w.heap.size + 1, 0, none⟩) (by simp; omega) (by simp; omega)).trans g1
      have y2 := (hc6.cell (p := ⟨w.heap.size + 1 + 1, 0, none⟩) (by simpa using hltW) (by simp; omega)).trans g2
      have y3 := (hc6.frozen (p := ⟨w.heap.size + 1 + 1, 0, none⟩) (by simpa using hltW) (by simp; omega)).trans z2'
      have hA4 : MAt (w6.setCell ⟨w.heap.size + 1 + 1, 0, none⟩ (.bool false)) p { m with ss := rl.set x (step t 9 who 0) } := h6.chg (F := fun k => k = w.heap.size + 1 + 1) ((Chg.refl _ _).setCell _ _ (fun _ => rfl)) (fun k hk e => by have := hold k hk; omega) (by omega)
      have hC6 := hCH.trans hc6 (fun _ _ h => .inl h)
      have g4 := World.cell?_setCell_same w6 ⟨w.heap.size + 1 + 1, 0, none⟩ (.bool false) y2
      have HF : RowKit.Hid (KeepsB (fun k => k = p.sb ∨ k = w.heap.size + 1 + 1) W2 (w6.setCell ⟨w.heap.size + 1 + 1, 0, none⟩ (.bool false)) ∧ mvK w p m victim who (x + 1) (w6.setCell ⟨w.heap.size + 1 + 1, 0, none⟩ (.bool false))) :=
        Lib.hid ⟨KeepsB.of_chg (F := fun k => k = p.sb ∨ k = w.heap.size + 1 + 1) ((hc6.mono (fun _ _ h => .inl h)).setCell _ _ (fun _ => .inr rfl)) (fun _ _ h => h), mvK_mk hn.out HLE.out hA4 (hC6.setCell _ _ (fun h => by simp at h; omega))
          ((World.cell?_setCell_other _ _ _ _ (by simp <;> omega)).trans y0) ((World.cell?_setCell_other _ _ _ _ (by simp)).trans y1) g4 (by simp [y3])⟩
      clear hA4 g4 h6 hc6 htn hAT hCH hC6 g0 g1 g2 z2' y0 y1
      gi_wp2_with fail
      exact HF.out
  case done =>
    rintro D s W hD rfl hk hKD
    have hat := hk.at'
    rw [mvN_all] at hat
    have hch := hk.chg
    clear hk
    have hT : Turn wq.heap.size W (W.putObj D (.deferred none)) := (Turn.refl _ _).putObj _ hD hKD rfl
    have hat2 := hat.turned hT (fun k h => by have := hold k h; omega) (by omega)
    have hch2 : Chg (fun k => k = p.sb) w (W.putObj D (.deferred none)) := by
      have := hT.chg hch (by omega)
      exact ⟨this.os, this.tape, this.output, this.size, fun k hk hf => this.block k hk (fun h => h.elim hf (fun h => by omega))⟩
    gi_wp2
    refine ⟨by simp, .inl ⟨_, _, rfl, run_takeDeferred hKD, ?_⟩⟩
    exact ⟨_, results_none rfl _ _ _, ⟨_, rfl⟩, hat2, hch2⟩
  case stop => exact fun D c W hD h hK => h.elim
end Go.Proofs.YtpmkgddjgebojaaGreatDoor.Mod

namespace Go.Proofs.YtpmkgddjgebojaaGreatDoor.RowL
open Go.RowKit Hp
/-- A new block that is laid anew is a new block. -/
theorem setRow_new (w : World) (cs cs' : Array Value) (t : TypeId) : (w.alloc (.cells cs t)).setRow w.heap.size cs' = w.alloc (.cells cs' t) := by
  have h1 : ((w.alloc (.cells cs t)).setRow w.heap.size cs').heap = (w.alloc (.cells cs' t)).heap := by
    apply Array.ext_getElem?
    intro i
    by_cases h : i = w.heap.size
    · subst h
      exact (setRow_heap _ _ cs cs' t (0, 0) (heap_alloc_new w _)).trans (heap_alloc_new w _).symm
    · rw [setRow_other _ _ _ _ h]
      simp only [World.alloc, Array.getElem?_push]
      split
      · rename_i e; exact absurd e h
      · rfl
  have h2 : ∀ a b : World, a.heap = b.heap → { a with heap := b.heap } = a := fun a b e => by rw [← e]
  have h3 := h2 _ _ h1
  rw [← h3]
  rfl
/-- An operation that yields a value, in a plain region. -/
theorem wpList_run {P : Program} {ops : Array Oper} {rest : List Oper} {o : Oper} {a : Act} {w : World} {Q : Exit → Act → World → Prop} (hg : o.guard = none) (v : Value)
    (hr : (execOp a.eval o).run P w = .ok (.value v) w) (h : wpList P ops Q rest (a.put o.dst v) w) : wpList P ops Q (o :: rest) a w :=
  wpList_plain hg fun K hK => by
    unfold Oper.wp
    rw [hr]
    exact hK _ _ h
section
variable {P : Program} {ops : Array Oper} {Q : Exit → Act → World → Prop} {md : Region.Mode} {S : World → Prop}
/-- What is to be shown where operation i comes up. -/
def OpStep (P : Program) (md : Region.Mode) (ops : Array Oper) (Q : Exit → Act → World → Prop) (S : World → Prop) (fuel : Nat) (listed : Array Bool) (a : Act) (w : World) (i : Nat) : Prop :=
  wpOp P ops Q i (fun a' w' => S w' ∧ wpAnyH P md ops Q S fuel (listed.setIfInBounds i true) a' w') a w
theorem ready1 {i fuel : Nat} {listed : Array Bool} {a : Act} {w : World} (hr : Region.ready md ops listed = [i]) (h : OpStep P md ops Q S fuel listed a w i) : wpAnyH P md ops Q S (fuel + 1) listed a w :=
  wpAnyH_all hr (by simp) fun j hj => by obtain rfl : j = i := by simpa using hj
                                         exact h
theorem ready2 {i k fuel : Nat} {listed : Array Bool} {a : Act} {w : World} (hr : Region.ready md ops listed = [i, k]) (h : OpStep P md ops Q S fuel listed a w i) (h2 : OpStep P md ops Q S fuel listed a w k) : wpAnyH P md ops Q S (fuel + 1) listed a w :=
  wpAnyH_all hr (by simp) fun j hj => by
    simp only [List.mem_cons, List.not_mem_nil, or_false] at hj
    rcases hj with rfl | rfl
    · exact h
    · exact h2
theorem step_call {i fuel : Nat} {listed : Array Bool} {a : Act} {w : World} (F : Nat) (args : Array Operand) (ats : Array TypeId) (d : Option Tmp) (gd : Option (Nat × Bool))
    (ho : (ops[i]?).map (fun o => (o.dst, o.op, o.guard)) = some (d, Op.call { callee := Callee.value (Operand.func F), args := args, argTypes := ats }, gd))
    (hw : (ops[i]?).map (fun o => Region.wanted o (yielded ops a.tmps)) = some true)
    (vals : Array Value) (hv : args.map a.eval = vals) (hE : ∀ args w, (callFunc F args).run P w = .ok (.enter F args) w)
    (h : Calls P F vals w fun e w' => ∃ v, e = .returned v ∧ S w' ∧ (S w' → wpAnyH P md ops Q S fuel (listed.setIfInBounds i true) (a.put d v) w')) : OpStep P md ops Q S fuel listed a w i := by
  obtain ⟨o, h1o, h2o, h3o, h4o⟩ := op_of ho
  rw [h1o] at hw
  refine wpOp_step h1o fun K hK => ?_
  rw [if_pos (by simpa using hw)]
  have hx : (execOp a.eval o).run P w = .ok (.enter F vals) w := by
    unfold execOp
    simp only [h3o, resolve]
    simp [go_sem, hv, hE, Act.eval, invoke, Deferred.ofValue]
  unfold Oper.wp
  rw [hx, Oper.upon_enter]
  refine h.mono ?_
  rintro e w' ⟨v, rfl, hS, hk⟩
  dsimp only
  rw [h2o]
  exact hK _ _ ⟨hS, hk hS⟩
theorem step_store_row {i fuel : Nat} {listed : Array Bool} {a : Act} {w : World} (T : TypeId) (x y : Operand)
    (ho : (ops[i]?).map (fun o => (o.dst, o.op, o.guard)) = some (none, Op.store T x y, none))
    (g : Nat) (t : TypeId) (Z cs : Array Value) (hx : a.eval x = .pointer (some ⟨g, 0, none⟩)) (hy : a.eval y = .agg cs)
    (ht : RowAt w g Z t) (hsz : Z.size = cs.size) (hi : (P.info? T).map (·.size) = some cs.size) (h1 : cs.all (·.oneCell') = true)
    (hS : S (w.setRow g cs)) (h : S (w.setRow g cs) → wpAnyH P md ops Q S fuel (listed.setIfInBounds i true) a (w.setRow g cs)) : OpStep P md ops Q S fuel listed a w i := by
  obtain ⟨o, h1o, h2o, h3o, h4o⟩ := op_of ho
  refine wpOp_step h1o fun K hK => ?_
  rw [if_pos (by simp [Region.wanted, h4o])]
  refine wp_store_row T x y h3o g t Z cs hx hy ht hsz hi h1 ?_
  rw [h2o]
  exact hK _ _ ⟨hS, h hS⟩
theorem step_run {i fuel : Nat} {listed : Array Bool} {a : Act} {w w' : World} (d : Option Tmp) (v : Value) (ho : (ops[i]?).map (fun o => o.dst) = some d)
    (hw : (ops[i]?).map (fun o => Region.wanted o (yielded ops a.tmps)) = some true) (hr : ((ops[i]?).map fun o => (execOp a.eval o).run P w) = some (.ok (.value v) w'))
    (hS : S w') (h : S w' → wpAnyH P md ops Q S fuel (listed.setIfInBounds i true) (a.put d v) w') : OpStep P md ops Q S fuel listed a w i := by
  cases h1 : ops[i]? with
  | none => rw [h1] at ho; cases ho
  | some o =>
    rw [h1] at ho hw hr
    simp only [Option.map_some, Option.some.injEq] at ho hw hr
    subst ho
    refine wpOp_step h1 fun K hK => ?_
    rw [if_pos hw]
    unfold Oper.wp
    rw [hr]
    exact hK _ _ ⟨hS, h hS⟩
theorem step_store {i fuel : Nat} {listed : Array Bool} {a : Act} {w w' : World} (ho : (ops[i]?).map (fun o => o.dst) = some none)
    (hw : (ops[i]?).map (fun o => Region.wanted o (yielded ops a.tmps)) = some true) (hr : ((ops[i]?).map fun o => (execOp a.eval o).run P w) = some (.ok .skip w'))
    (hS : S w') (h : S w' → wpAnyH P md ops Q S fuel (listed.setIfInBounds i true) a w') : OpStep P md ops Q S fuel listed a w i := by
  cases h1 : ops[i]? with
  | none => rw [h1] at ho; cases ho
  | some o =>
    rw [h1] at ho hw hr
    simp only [Option.map_some, Option.some.injEq] at ho hw hr
    refine wpOp_step h1 fun K hK => ?_
    rw [if_pos hw]
    unfold Oper.wp
    rw [hr, Oper.upon_skip, ho]
    exact hK _ _ ⟨hS, h hS⟩
theorem ready3 {i j k fuel : Nat} {listed : Array Bool} {a : Act} {w : World} (hr : Region.ready md ops listed = [i, j, k]) (h : OpStep P md ops Q S fuel listed a w i) (h2 : OpStep P md ops Q S fuel listed a w j) (h3 : OpStep P md ops Q S fuel listed a w k) : wpAnyH P md ops Q S (fuel + 1) listed a w :=
  wpAnyH_all hr (by simp) fun n hn => by
    simp only [List.mem_cons, List.not_mem_nil, or_false] at hn
    rcases hn with rfl | rfl | rfl
    · exact h
    · exact h2
    · exact h3
theorem ready4 {i j k l fuel : Nat} {listed : Array Bool} {a : Act} {w : World} (hr : Region.ready md ops listed = [i, j, k, l]) (h : OpStep P md ops Q S fuel listed a w i) (h2 : OpStep P md ops Q S fuel listed a w j) (h3 : OpStep P md ops Q S fuel listed a w k) (h4 : OpStep P md ops Q S fuel listed a w l) : wpAnyH P md ops Q S (fuel + 1) listed a w :=
  wpAnyH_all hr (by simp) fun n hn => by
    simp only [List.mem_cons, List.not_mem_nil, or_false] at hn
    rcases hn with rfl | rfl | rfl | rfl
    · exact h
    · exact h2
    · exact h3
    · exact h4
theorem there_row {w : World} {g : Nat} {Z : Array Value} {t : TypeId} (ht : RowAt w g Z t) {o n : Nat} (h : o + n ≤ Z.size) : w.there g o n := by
  intro j hj
  refine ⟨?_, ht.frozen _⟩
  rw [ht.cell, Array.getElem?_eq_getElem (by omega)]
  rfl
/-- A store of one cell into a block that is known. -/
theorem step_store_cell {i fuel : Nat} {listed : Array Bool} {a : Act} {w : World} (T : TypeId) (x y : Operand)
    (ho : (ops[i]?).map (fun o => (o.dst, o.op, o.guard)) = some (none, Op.store T x y, none)) (g off : Nat) (v : Value) (hx : a.eval x = .pointer (some ⟨g, off, none⟩)) (hy : a.eval y = v)
    (hv : ∀ u, (Instr.storeAt T (.pointer (some ⟨g, off, none⟩)) v).run P w = .ok u (w.setCell ⟨g, off, none⟩ v))
    (hS : S (w.setCell ⟨g, off, none⟩ v)) (h : S (w.setCell ⟨g, off, none⟩ v) → wpAnyH P md ops Q S fuel (listed.setIfInBounds i true) a (w.setCell ⟨g, off, none⟩ v)) : OpStep P md ops Q S fuel listed a w i := by
  obtain ⟨o, h1o, h2o, h3o, h4o⟩ := op_of ho
  refine wpOp_step h1o fun K hK => ?_
  rw [if_pos (by simp [Region.wanted, h4o])]
  unfold Oper.wp execOp
  simp only [h3o, hx, hy, Sem.run_bind, Sem.run_pure, hv (), Result.andThen_ok, Oper.upon_skip]
  rw [h2o]
  exact hK _ _ ⟨hS, h hS⟩
theorem step_store_mid {i fuel : Nat} {listed : Array Bool} {a : Act} {w : World} (T : TypeId) (x y : Operand)
    (ho : (ops[i]?).map (fun o => (o.dst, o.op, o.guard)) = some (none, Op.store T x y, none))
    (g off : Nat) (cs : Array Value) (hx : a.eval x = .pointer (some ⟨g, off, none⟩)) (hy : a.eval y = .agg cs)
    (ht : w.there g off cs.size) (hi : (P.info? T).map (·.size) = some cs.size) (h1 : cs.all (·.oneCell') = true)
    (hS : S (w.setCells g off cs.toList)) (h : S (w.setCells g off cs.toList) → wpAnyH P md ops Q S fuel (listed.setIfInBounds i true) a (w.setCells g off cs.toList)) : OpStep P md ops Q S fuel listed a w i := by
  obtain ⟨o, h1o, h2o, h3o, h4o⟩ := op_of ho
  refine wpOp_step h1o fun K hK => ?_
  rw [if_pos (by simp [Region.wanted, h4o])]
  refine wp_store_mid T x y h3o g off cs hx hy ht hi h1 ?_
  rw [h2o]
  exact hK _ _ ⟨hS, h hS⟩
end
end Go.Proofs.YtpmkgddjgebojaaGreatDoor.RowL

namespace Go.Proofs.YtpmkgddjgebojaaGreatDoor.Mod
set_option linter.unusedVariables false
set_option linter.unusedSimpArgs false
open Go.RowKit Hp Slot RowL Life

def tell (ks : List Wk) (who : Int) : List Wk := ks.set who.toNat { ks[who.toNat]?.getD Wk.zero with at' := 3 }
theorem tell_len (ks : List Wk) (who : Int) : (tell ks who).length = ks.length := by unfold tell; simp
def tellN (l : List Int) (ks : List Wk) (k : Nat) : List Wk := (l.take k).foldl tell ks
theorem tellN_len (l : List Int) (ks : List Wk) : ∀ k, (tellN l ks k).length = ks.length := by
  intro k
  unfold tellN
  generalize l.take k = q
  induction q generalizing ks with
  | nil => rfl
  | cons x q ih => rw [List.foldl_cons, ih, tell_len]
theorem tellN_succ {l : List Int} {ks : List Wk} {k : Nat} {x : Int} (h : l[k]? = some x) : tellN l ks (k + 1) = tell (tellN l ks k) x := by
  unfold tellN
  obtain ⟨hl, h⟩ := List.getElem?_eq_some_iff.1 h
  rw [List.take_succ_eq_append_getElem hl, List.foldl_append, h]
  rfl
theorem tellN_all (l : List Int) (ks : List Wk) : tellN l ks l.length = l.foldl tell ks := by unfold tellN; rw [List.take_length]
theorem tell_grants {ks : List Wk} {n : Nat} (h : ∀ k ∈ ks, k.at' = 2 → 0 ≤ k.slot ∧ k.slot < n) (who : Int) : ∀ k ∈ tell ks who, k.at' = 2 → 0 ≤ k.slot ∧ k.slot < n := by
  intro k hk h2
  rcases List.mem_or_eq_of_mem_set hk with hk | rfl
  · exact h k hk h2
  · simp at h2
theorem tellN_grants {ks : List Wk} {n : Nat} (h : ∀ k ∈ ks, k.at' = 2 → 0 ≤ k.slot ∧ k.slot < n) (l : List Int) : ∀ i, ∀ k ∈ tellN l ks i, k.at' = 2 → 0 ≤ k.slot ∧ k.slot < n := by
  intro i
  unfold tellN
  generalize l.take i = q
  induction q generalizing ks with
  | nil => exact h
  | cons x q ih => exact ih (tell_grants h x)

theorem hd_line {W : World} {p : Pl} {c : Conf.Cf} {ns nk : Nat} {closed : Int} (h : Hd W p c ns nk closed) (v : Value) : Hd (W.setCell ⟨p.mb, 7, none⟩ v) { p with lv := v } c ns nk closed := by
  have e : ∀ o, o ≠ 7 → (W.setCell ⟨p.mb, 7, none⟩ v).cell? ⟨p.mb, o, none⟩ = W.cell? ⟨p.mb, o, none⟩ := fun o ho => World.cell?_setCell_other _ _ _ _ (by simp <;> omega)
  exact ⟨(e 0 (by omega)).trans h.c0, (e 1 (by omega)).trans h.c1, (e 2 (by omega)).trans h.c2, (e 3 (by omega)).trans h.c3, (e 4 (by omega)).trans h.c4, (e 5 (by omega)).trans h.c5, (e 6 (by omega)).trans h.c6,
    World.cell?_setCell_same _ _ _ h.c7, (e 8 (by omega)).trans h.c8, (e 9 (by omega)).trans h.c9, (e 10 (by omega)).trans h.c10, by simp [h.f7], by simp [h.f8]⟩
theorem MPost.pre {W W1 w : World} {p : Pl} {ans : Value} {m' : M} {e : Ending} (hc : Chg (mfp p) W W1) (hs : W1.heap.size = W.heap.size) (h : MPost W1 p ans m' e w) : MPost W p ans m' e w := by
  obtain ⟨h0, lv, rv, h1, h2, h3, h4⟩ := h
  exact ⟨h0, lv, rv, h1, fun k hk => by rw [← hs]; exact h2 k hk, fun k hk => by rw [← hs]; exact h3 k hk, hc.trans h4 (fun _ _ h => h)⟩

set_option maxRecDepth 100000 in
set_option maxHeartbeats 8000000 in
theorem m_close {W : World} {p : Pl} {m : M} (h : MAt W p m) (force : Bool) :
    Calls Tryz.prog 78 #[.pointer (some ⟨p.mb, 0, none⟩), .bool force] W (MPost W p Ev.zero.val (m.close force)) := by
  have hlt : p.mb < W.heap.size := h.lt (.inl rfl)
  have c8 := h.hd.c8
  have f8 := h.hd.f8
  have hR : RowKit.Hid (m.close force = { m with closed := (if force then 2 else if m.closed = 0 then 1 else m.closed), ks := m.line.foldl tell m.ks, line := [] }) := rfl
  generalize m.close force = R at *
  obtain ⟨la, lc, hlv⟩ := h.own.form
  have HLV := Lib.hid hlv
  have hfew := h.ok.few
  have HGR := Lib.hid h.ok.grants
  clear hlv
  cases force
  · by_cases hc0 : m.closed = 0
    · have hc0' : (m.closed == 0) = true := by simp [hc0]
      have HR2 : RowKit.Hid (R = { m with closed := 1, ks := m.line.foldl tell m.ks, line := [] }) := Lib.hid (by rw [hR.out]; simp [hc0])
      have h1 := h.toClosed 1 (by simp)
      have hC0 : Chg (mfp p) W (W.setCell ⟨p.mb, 8, none⟩ (.int .i64 1)) := (Chg.refl _ _).setCell _ _ (fun _ => .inl rfl)
      have hsz : (W.setCell ⟨p.mb, 8, none⟩ (.int .i64 1)).heap.size = W.heap.size := by simp
      clear hc0 hR
      go_enter Tryz.func78, Tryz.ntmps78
      have HSZ := Lib.hid hsz
      clear hsz
      have hB : Below (W.setCell ⟨p.mb, 8, none⟩ (.int .i64 1)).heap.size (W.setCell ⟨p.mb, 8, none⟩ (.int .i64 1)) ((W.setCell ⟨p.mb, 8, none⟩ (.int .i64 1)).alloc (.cells #[.bool false, .int .i64 0, .int .i64 0, .int .i64 0, .int .i64 0, .bool false, .bool false, .int .i64 0, .int .i64 0, .int .i64 0, .int .i64 0, .int .i64 0, .int .i64 0, .int .i64 0, .int .i64 0, .int .i64 0, .int .i64 0, .int .i64 0] 36)) := (Below.refl _ _).alloc (Nat.le_refl _) _
      have r1 : Re (W.setCell ⟨p.mb, 8, none⟩ (.int .i64 1)).heap.size ((W.setCell ⟨p.mb, 8, none⟩ (.int .i64 1)).alloc (.cells #[.bool false, .int .i64 0, .int .i64 0, .int .i64 0, .int .i64 0, .bool false, .bool false, .int .i64 0, .int .i64 0, .int .i64 0, .int .i64 0, .int .i64 0, .int .i64 0, .int .i64 0, .int .i64 0, .int .i64 0, .int .i64 0, .int .i64 0] 36)) p ((W.setCell ⟨p.mb, 8, none⟩ (.int .i64 1)).alloc (.cells #[.bool false, .int .i64 0, .int .i64 0, .int .i64 0, .int .i64 0, .bool false, .bool false, .int .i64 0, .int .i64 0, .int .i64 0, .int .i64 0, .int .i64 0, .int .i64 0, .int .i64 0, .int .i64 0, .int .i64 0, .int .i64 0, .int .i64 0] 36)) p { m with closed := 1 } := Re.begin h1 hB
      have e1 : ERow ((W.setCell ⟨p.mb, 8, none⟩ (.int .i64 1)).alloc (.cells #[.bool false, .int .i64 0, .int .i64 0, .int .i64 0, .int .i64 0, .bool false, .bool false, .int .i64 0, .int .i64 0, .int .i64 0, .int .i64 0, .int .i64 0, .int .i64 0, .int .i64 0, .int .i64 0, .int .i64 0, .int .i64 0, .int .i64 0] 36)) W.heap.size := ⟨#[.bool false, .int .i64 0, .int .i64 0, .int .i64 0, .int .i64 0, .bool false, .bool false, .int .i64 0, .int .i64 0, .int .i64 0, .int .i64 0, .int .i64 0, .int .i64 0, .int .i64 0, .int .i64 0, .int .i64 0, .int .i64 0, .int .i64 0], rfl, by rw [← HSZ.out]; exact RowAt.new (W.setCell ⟨p.mb, 8, none⟩ (.int .i64 1)) #[.bool false, .int .i64 0, .int .i64 0, .int .i64 0, .int .i64 0, .bool false, .bool false, .int .i64 0, .int .i64 0, .int .i64 0, .int .i64 0, .int .i64 0, .int .i64 0, .int .i64 0, .int .i64 0, .int .i64 0, .int .i64 0, .int .i64 0] 36⟩
      have hg1 : W.heap.size < ((W.setCell ⟨p.mb, 8, none⟩ (.int .i64 1)).alloc (.cells #[.bool false, .int .i64 0, .int .i64 0, .int .i64 0, .int .i64 0, .bool false, .bool false, .int .i64 0, .int .i64 0, .int .i64 0, .int .i64 0, .int .i64 0, .int .i64 0, .int .i64 0, .int .i64 0, .int .i64 0, .int .i64 0, .int .i64 0] 36)).heap.size := by rw [← HSZ.out]; simp
      go_upto_region 5 with (fail)
      generalize hwz : ((W.setCell ⟨p.mb, 8, none⟩ (.int .i64 1)).alloc (.cells #[.bool false, .int .i64 0, .int .i64 0, .int .i64 0, .int .i64 0, .bool false, .bool false, .int .i64 0, .int .i64 0, .int .i64 0, .int .i64 0, .int .i64 0, .int .i64 0, .int .i64 0, .int .i64 0, .int .i64 0, .int .i64 0, .int .i64 0] 36)) = w0 at *
      clear hwz
      have c7 := r1.at'.hd.c7
      rw [HLV.out] at c7
      have R1 := Lib.hid r1
      have E1 := Lib.hid e1
      clear c8 f8 h1 r1 e1 h
      go_wp2_with fail
      clear c7
      go_loopw [24] (fun i wr => ∃ k : Nat, k ≤ m.line.length ∧ i = .int .i64 k ∧ Re (W.setCell ⟨p.mb, 8, none⟩ (.int .i64 1)).heap.size w0 p wr p { m with closed := 1, ks := tellN m.line m.ks k } ∧ ERow wr W.heap.size) (fun i _ => m.line.length - (intOf i).toNat)
      case atStart => exact ⟨0, by omega, rfl, R1.out, E1.out⟩
      case round =>
        clear R1 E1
        obtain ⟨k, hk, rfl, r2, e2⟩ := hrel
        have k0 : (0 : Int) ≤ (k : Int) := by omega
        have R2 := Lib.hid r2
        have E2 := Lib.hid e2
        by_cases hlt : k < m.line.length
        · obtain ⟨x, hx⟩ : ∃ x, m.line[k]? = some x := ⟨_, List.getElem?_eq_getElem hlt⟩
          obtain ⟨g, off, cap, hl, hcap, -, -, -, -, hcell⟩ := r2.at'.own.some (by simpa using (show 0 < m.line.length by omega))
          simp only at hl hcell
          obtain ⟨rfl, rfl⟩ : la = some ⟨g, off, none⟩ ∧ lc = cap := by have := HLV.out.symm.trans hl; cases this; exact ⟨rfl, rfl⟩
          have hcx := hcell k (.int .i64 x) (by simp [hx])
          have hxb := r2.at'.ok.line x (List.mem_of_getElem? hx)
          simp only [tellN_len] at hxb
          obtain ⟨j, rfl⟩ := Int.eq_ofNat_of_zero_le hxb.1
          have c6 := r2.at'.hd.c6
          simp only [tellN_len] at c6
          obtain ⟨kk, hkk⟩ : ∃ kk, (tellN m.line m.ks k)[j]? = some kk := ⟨_, List.getElem?_eq_getElem (by rw [tellN_len]; omega)⟩
          have d0 := (r2.at'.works.get hkk).1
          have f0 := r2.at'.works.2 j 0 (by simp only [tellN_len]; omega) (by omega)
          simp only [Nat.add_zero] at f0
          have hw1 := r2.at'.works.set1 (k' := { kk with at' := 3 }) hkk 0 (by omega) (.int .i64 3) rfl
          have hset : (tellN m.line m.ks k).set j { kk with at' := 3 } = tellN m.line m.ks (k + 1) := by
            rw [tellN_succ hx]; unfold tell; simp only [Int.toNat_natCast, hkk, Option.getD_some]
          rw [hset] at hw1
          have hMA := r2.at'.toWorks ((Chg.refl _ _).setCell ⟨p.kb, j * 9 + 0, none⟩ (.int .i64 3) (fun _ => rfl)) hw1 (by simp only [tellN_len]) (tellN_grants HGR.out m.line (k + 1))
          have r3 := r2.works hMA ((Chg.refl _ _).setCell ⟨p.kb, j * 9 + 0, none⟩ (.int .i64 3) (fun _ => rfl))
          have e3 := e2.chg (F := fun k => k = p.kb) ((Chg.refl _ _).setCell ⟨p.kb, j * 9 + 0, none⟩ (.int .i64 3) (fun _ => rfl)) (fun e => r2.not (Nat.le_of_eq HSZ.out) hg1 (.inr (.inr (.inl e))))
          have R3 := Lib.hid r3
          have E3 := Lib.hid e3
          have q1 : (k : Int) < (m.line.length : Int) := by omega
          have q2 : (k : Int) ≤ (m.line.length : Int) - 1 := by omega
          obtain ⟨q3, q4⟩ := hxb
          have q5 : (j : Int) ≤ (m.ks.length : Int) - 1 := by omega
          have hnk := r2.at'.ok.nk
          simp only [tellN_len] at hnk
          clear hset hMA hw1 hkk hx hl hcell r3 e3 r2 e2
          go_wp2_with fail
          go_roundw
          case rel => exact ⟨k + 1, by omega, by go_num, R3.out, E3.out⟩
          case measure => simp [intOf]; omega
        · have hkk : k = m.line.length := by omega
          have HR3 : RowKit.Hid (R = { m with closed := 1, ks := tellN m.line m.ks k, line := [] }) := Lib.hid (by rw [HR2.out, hkk, tellN_all])
          have HR2 := HR3
          have c7 := r2.at'.hd.c7
          have f7 := r2.at'.hd.f7
          have hML := r2.at'.toLine (v' := .slice none 0 0) (l := []) (ownS_nil _ _) (by simp) (by simp) (fun k hk => (fp_nil k hk).elim) ((Chg.refl _ _).setCell ⟨p.mb, 7, none⟩ (.slice none 0 0) (fun _ => .inl rfl)) (hd_line r2.at'.hd _)
          have hp : MPost wr p Ev.zero.val _ (.returned Ev.zero.val) (wr.setCell ⟨p.mb, 7, none⟩ (.slice none 0 0)) := ⟨rfl, .slice none 0 0, p.rv, hML, fun k hk => (fp_nil k hk).elim, fun k hk => .inl hk, (Chg.refl _ _).setCell _ _ (fun _ => .inl rfl)⟩
          obtain ⟨-, p5, r5, hc5⟩ := r2.post hp
          have e5 := e2.chg hc5 (r2.not (Nat.le_of_eq HSZ.out) hg1)
          clear hML hp hc5 r2 e2 hkk
          go_upto_region 11 with (fail)
          obtain ⟨Z, z1, z2⟩ := e5
          refine wp_region_lit ?_
          refine RowL.wpList_run rfl (Ev.zero).val (by go_simp; try rfl) ?_
          refine RowL.wpList_store_row rfl 36 (.tmp 4) (.tmp 39) rfl W.heap.size _ Z (Ev.zero).cells rfl rfl z2 z1 (by kernel_rfl) (ev_one _) ?_
          go_wp2_with fail
          refine bodyPost_ret (results_row rfl _ _ W.heap.size _ _ _ rfl (z2.set _) Tryz.underlying36 rfl (by kernel_rfl)) rfl ?_
          rw [HR2.out]
          exact MPost.pre hC0 HSZ.out ((r5.row (Nat.le_of_eq HSZ.out) hg1 _).fin hB _)
    · have hc0' : (m.closed == 0) = false := by simp [hc0]
      have HR2 : RowKit.Hid (R = { m with closed := m.closed, ks := m.line.foldl tell m.ks, line := [] }) := Lib.hid (by rw [hR.out]; simp [hc0])
      have h1 : MAt W p { m with closed := m.closed } := h
      have hC0 : Chg (mfp p) W W := Chg.refl _ _
      have hsz : W.heap.size = W.heap.size := rfl
      clear hc0 hR
      go_enter Tryz.func78, Tryz.ntmps78
      have HSZ := Lib.hid hsz
      clear hsz
      have hB : Below W.heap.size W (W.alloc (.cells #[.bool false, .int .i64 0, .int .i64 0, .int .i64 0, .int .i64 0, .bool false, .bool false, .int .i64 0, .int .i64 0, .int .i64 0, .int .i64 0, .int .i64 0, .int .i64 0, .int .i64 0, .int .i64 0, .int .i64 0, .int .i64 0, .int .i64 0] 36)) := (Below.refl _ _).alloc (Nat.le_refl _) _
      have r1 : Re W.heap.size (W.alloc (.cells #[.bool false, .int .i64 0, .int .i64 0, .int .i64 0, .int .i64 0, .bool false, .bool false, .int .i64 0, .int .i64 0, .int .i64 0, .int .i64 0, .int .i64 0, .int .i64 0, .int .i64 0, .int .i64 0, .int .i64 0, .int .i64 0, .int .i64 0] 36)) p (W.alloc (.cells #[.bool false, .int .i64 0, .int .i64 0, .int .i64 0, .int .i64 0, .bool false, .bool false, .int .i64 0, .int .i64 0, .int .i64 0, .int .i64 0, .int .i64 0, .int .i64 0, .int .i64 0, .int .i64 0, .int .i64 0, .int .i64 0, .int .i64 0] 36)) p { m with closed := m.closed } := Re.begin h1 hB
      have e1 : ERow (W.alloc (.cells #[.bool false, .int .i64 0, .int .i64 0, .int .i64 0, .int .i64 0, .bool false, .bool false, .int .i64 0, .int .i64 0, .int .i64 0, .int .i64 0, .int .i64 0, .int .i64 0, .int .i64 0, .int .i64 0, .int .i64 0, .int .i64 0, .int .i64 0] 36)) W.heap.size := ⟨#[.bool false, .int .i64 0, .int .i64 0, .int .i64 0, .int .i64 0, .bool false, .bool false, .int .i64 0, .int .i64 0, .int .i64 0, .int .i64 0, .int .i64 0, .int .i64 0, .int .i64 0, .int .i64 0, .int .i64 0, .int .i64 0, .int .i64 0], rfl, by rw [← (Eq.refl W.heap.size)]; exact RowAt.new W #[.bool false, .int .i64 0, .int .i64 0, .int .i64 0, .int .i64 0, .bool false, .bool false, .int .i64 0, .int .i64 0, .int .i64 0, .int .i64 0, .int .i64 0, .int .i64 0, .int .i64 0, .int .i64 0, .int .i64 0, .int .i64 0, .int .i64 0] 36⟩
      have hg1 : W.heap.size < (W.alloc (.cells #[.bool false, .int .i64 0, .int .i64 0, .int .i64 0, .int .i64 0, .bool false, .bool false, .int .i64 0, .int .i64 0, .int .i64 0, .int .i64 0, .int .i64 0, .int .i64 0, .int .i64 0, .int .i64 0, .int .i64 0, .int .i64 0, .int .i64 0] 36)).heap.size := by rw [← (Eq.refl W.heap.size)]; simp
      go_upto_region 5 with (fail)
      generalize hwz : (W.alloc (.cells #[.bool false, .int .i64 0, .int .i64 0, .int .i64 0, .int .i64 0, .bool false, .bool false, .int .i64 0, .int .i64 0, .int .i64 0, .int .i64 0, .int .i64 0, .int .i64 0, .int .i64 0, .int .i64 0, .int .i64 0, .int .i64 0, .int .i64 0] 36)) = w0 at *
      clear hwz
      have c7 := r1.at'.hd.c7
      rw [HLV.out] at c7
      have R1 := Lib.hid r1
      have E1 := Lib.hid e1
      clear c8 f8 h1 r1 e1 h
      go_wp2_with fail
      clear c7
      go_loopw [24] (fun i wr => ∃ k : Nat, k ≤ m.line.length ∧ i = .int .i64 k ∧ Re W.heap.size w0 p wr p { m with closed := m.closed, ks := tellN m.line m.ks k } ∧ ERow wr W.heap.size) (fun i _ => m.line.length - (intOf i).toNat)
      case atStart => exact ⟨0, by omega, rfl, R1.out, E1.out⟩
      case round =>
        clear R1 E1
        obtain ⟨k, hk, rfl, r2, e2⟩ := hrel
        have k0 : (0 : Int) ≤ (k : Int) := by omega
        have R2 := Lib.hid r2
        have E2 := Lib.hid e2
        by_cases hlt : k < m.line.length
        · obtain ⟨x, hx⟩ : ∃ x, m.line[k]? = some x := ⟨_, List.getElem?_eq_getElem hlt⟩
          obtain ⟨g, off, cap, hl, hcap, -, -, -, -, hcell⟩ := r2.at'.own.some (by simpa using (show 0 < m.line.length by omega))
          simp only at hl hcell
          obtain ⟨rfl, rfl⟩ : la = some ⟨g, off, none⟩ ∧ lc = cap := by have := HLV.out.symm.trans hl; cases this; exact ⟨rfl, rfl⟩
          have hcx := hcell k (.int .i64 x) (by simp [hx])
          have hxb := r2.at'.ok.line x (List.mem_of_getElem? hx)
          simp only [tellN_len] at hxb
          obtain ⟨j, rfl⟩ := Int.eq_ofNat_of_zero_le hxb.1
          have c6 := r2.at'.hd.c6
          simp only [tellN_len] at c6
          obtain ⟨kk, hkk⟩ : ∃ kk, (tellN m.line m.ks k)[j]? = some kk := ⟨_, List.getElem?_eq_getElem (by rw [tellN_len]; omega)⟩
          have d0 := (r2.at'.works.get hkk).1
          have f0 := r2.at'.works.2 j 0 (by simp only [tellN_len]; omega) (by omega)
          simp only [Nat.add_zero] at f0
          have hw1 := r2.at'.works.set1 (k' := { kk with at' := 3 }) hkk 0 (by omega) (.int .i64 3) rfl
          have hset : (tellN m.line m.ks k).set j { kk with at' := 3 } = tellN m.line m.ks (k + 1) := by
            rw [tellN_succ hx]; unfold tell; simp only [Int.toNat_natCast, hkk, Option.getD_some]
          rw [hset] at hw1
          have hMA := r2.at'.toWorks ((Chg.refl _ _).setCell ⟨p.kb, j * 9 + 0, none⟩ (.int .i64 3) (fun _ => rfl)) hw1 (by simp only [tellN_len]) (tellN_grants HGR.out m.line (k + 1))
          have r3 := r2.works hMA ((Chg.refl _ _).setCell ⟨p.kb, j * 9 + 0, none⟩ (.int .i64 3) (fun _ => rfl))
          have e3 := e2.chg (F := fun k => k = p.kb) ((Chg.refl _ _).setCell ⟨p.kb, j * 9 + 0, none⟩ (.int .i64 3) (fun _ => rfl)) (fun e => r2.not (Nat.le_of_eq (Eq.refl W.heap.size)) hg1 (.inr (.inr (.inl e))))
          have R3 := Lib.hid r3
          have E3 := Lib.hid e3
          have q1 : (k : Int) < (m.line.length : Int) := by omega
          have q2 : (k : Int) ≤ (m.line.length : Int) - 1 := by omega
          obtain ⟨q3, q4⟩ := hxb
          have q5 : (j : Int) ≤ (m.ks.length : Int) - 1 := by omega
          have hnk := r2.at'.ok.nk
          simp only [tellN_len] at hnk
          clear hset hMA hw1 hkk hx hl hcell r3 e3 r2 e2
          go_wp2_with fail
          go_roundw
          case rel => exact ⟨k + 1, by omega, by go_num, R3.out, E3.out⟩
          case measure => simp [intOf]; omega
        · have hkk : k = m.line.length := by omega
          have HR3 : RowKit.Hid (R = { m with closed := m.closed, ks := tellN m.line m.ks k, line := [] }) := Lib.hid (by rw [HR2.out, hkk, tellN_all])
          have HR2 := HR3
          have c7 := r2.at'.hd.c7
          have f7 := r2.at'.hd.f7
          have hML := r2.at'.toLine (v' := .slice none 0 0) (l := []) (ownS_nil _ _) (by simp) (by simp) (fun k hk => (fp_nil k hk).elim) ((Chg.refl _ _).setCell ⟨p.mb, 7, none⟩ (.slice none 0 0) (fun _ => .inl rfl)) (hd_line r2.at'.hd _)
          have hp : MPost wr p Ev.zero.val _ (.returned Ev.zero.val) (wr.setCell ⟨p.mb, 7, none⟩ (.slice none 0 0)) := ⟨rfl, .slice none 0 0, p.rv, hML, fun k hk => (fp_nil k hk).elim, fun k hk => .inl hk, (Chg.refl _ _).setCell _ _ (fun _ => .inl rfl)⟩
          obtain ⟨-, p5, r5, hc5⟩ := r2.post hp
          have e5 := e2.chg hc5 (r2.not (Nat.le_of_eq (Eq.refl W.heap.size)) hg1)
          clear hML hp hc5 r2 e2 hkk
          go_upto_region 11 with (fail)
          obtain ⟨Z, z1, z2⟩ := e5
          refine wp_region_lit ?_
          refine RowL.wpList_run rfl (Ev.zero).val (by go_simp; try rfl) ?_
          refine RowL.wpList_store_row rfl 36 (.tmp 4) (.tmp 39) rfl W.heap.size _ Z (Ev.zero).cells rfl rfl z2 z1 (by kernel_rfl) (ev_one _) ?_
          go_wp2_with fail
          refine bodyPost_ret (results_row rfl _ _ W.heap.size _ _ _ rfl (z2.set _) Tryz.underlying36 rfl (by kernel_rfl)) rfl ?_
          rw [HR2.out]
          exact MPost.pre hC0 (Eq.refl W.heap.size) ((r5.row (Nat.le_of_eq (Eq.refl W.heap.size)) hg1 _).fin hB _)
  · have HR2 : RowKit.Hid (R = { m with closed := 2, ks := m.line.foldl tell m.ks, line := [] }) := Lib.hid (by rw [hR.out]; simp)
    have h1 := h.toClosed 2 (by simp)
    have hC0 : Chg (mfp p) W (W.setCell ⟨p.mb, 8, none⟩ (.int .i64 2)) := (Chg.refl _ _).setCell _ _ (fun _ => .inl rfl)
    have hsz : (W.setCell ⟨p.mb, 8, none⟩ (.int .i64 2)).heap.size = W.heap.size := by simp
    clear hR
    go_enter Tryz.func78, Tryz.ntmps78
    have HSZ := Lib.hid hsz
    clear hsz
    have hB : Below (W.setCell ⟨p.mb, 8, none⟩ (.int .i64 2)).heap.size (W.setCell ⟨p.mb, 8, none⟩ (.int .i64 2)) ((W.setCell ⟨p.mb, 8, none⟩ (.int .i64 2)).alloc (.cells #[.bool false, .int .i64 0, .int .i64 0, .int .i64 0, .int .i64 0, .bool false, .bool false, .int .i64 0, .int .i64 0, .int .i64 0, .int .i64 0, .int .i64 0, .int .i64 0, .int .i64 0, .int .i64 0, .int .i64 0, .int .i64 0, .int .i64 0] 36)) := (Below.refl _ _).alloc (Nat.le_refl _) _
    have r1 : Re (W.setCell ⟨p.mb, 8, none⟩ (.int .i64 2)).heap.size ((W.setCell ⟨p.mb, 8, none⟩ (.int .i64 2)).alloc (.cells #[.bool false, .int .i64 0, .int .i64 0, .int .i64 0, .int .i64 0, .bool false, .bool false, .int .i64 0, .int .i64 0, .int .i64 0, .int .i64 0, .int .i64 0, .int .i64 0, .int .i64 0, .int .i64 0, .int .i64 0, .int .i64 0, .int .i64 0] 36)) p ((W.setCell ⟨p.mb, 8, none⟩ (.int .i64 2)).alloc (.cells #[.bool false, .int .i64 0, .int .i64 0, .int .i64 0, .int .i64 0, .bool false, .bool false, .int .i64 0, .int .i64 0, .int .i64 0, .int .i64 0, .int .i64 0, .int .i64 0, .int .i64 0, .int .i64 0, .int .i64 0, .int .i64 0, .int .i64 0] 36)) p { m with closed := 2 } := Re.begin h1 hB
    have e1 : ERow ((W.setCell ⟨p.mb, 8, none⟩ (.int .i64 2)).alloc (.cells #[.bool false, .int .i64 0, .int .i64 0, .int .i64 0, .int .i64 0, .bool false, .bool false, .int .i64 0, .int .i64 0, .int .i64 0, .int .i64 0, .int .i64 0, .int .i64 0, .int .i64 0, .int .i64 0, .int .i64 0, .int .i64 0, .int .i64 0] 36)) W.heap.size := ⟨#[.bool false, .int .i64 0, .int .i64 0, .int .i64 0, .int .i64 0, .bool false, .bool false, .int .i64 0, .int .i64 0, .int .i64 0, .int .i64 0, .int .i64 0, .int .i64 0, .int .i64 0, .int .i64 0, .int .i64 0, .int .i64 0, .int .i64 0], rfl, by rw [← HSZ.out]; exact RowAt.new (W.setCell ⟨p.mb, 8, none⟩ (.int .i64 2)) #[.bool false, .int .i64 0, .int .i64 0, .int .i64 0, .int .i64 0, .bool false, .bool false, .int .i64 0, .int .i64 0, .int .i64 0, .int .i64 0, .int .i64 0, .int .i64 0, .int .i64 0, .int .i64 0, .int .i64 0, .int .i64 0, .int .i64 0] 36⟩
    have hg1 : W.heap.size < ((W.setCell ⟨p.mb, 8, none⟩ (.int .i64 2)).alloc (.cells #[.bool false, .int .i64 0, .int .i64 0, .int .i64 0, .int .i64 0, .bool false, .bool false, .int .i64 0, .int .i64 0, .int .i64 0, .int .i64 0, .int .i64 0, .int .i64 0, .int .i64 0, .int .i64 0, .int .i64 0, .int .i64 0, .int .i64 0] 36)).heap.size := by rw [← HSZ.out]; simp
    go_upto_region 5 with (fail)
    generalize hwz : ((W.setCell ⟨p.mb, 8, none⟩ (.int .i64 2)).alloc (.cells #[.bool false, .int .i64 0, .int .i64 0, .int .i64 0, .int .i64 0, .bool false, .bool false, .int .i64 0, .int .i64 0, .int .i64 0, .int .i64 0, .int .i64 0, .int .i64 0, .int .i64 0, .int .i64 0, .int .i64 0, .int .i64 0, .int .i64 0] 36)) = w0 at *
    clear hwz
    have c7 := r1.at'.hd.c7
    rw [HLV.out] at c7
    have R1 := Lib.hid r1
    have E1 := Lib.hid e1
    clear c8 f8 h1 r1 e1 h
    go_wp2_with fail
    clear c7
    go_loopw [24] (fun i wr => ∃ k : Nat, k ≤ m.line.length ∧ i = .int .i64 k ∧ Re (W.setCell ⟨p.mb, 8, none⟩ (.int .i64 2)).heap.size w0 p wr p { m with closed := 2, ks := tellN m.line m.ks k } ∧ ERow wr W.heap.size) (fun i _ => m.line.length - (intOf i).toNat)
    case atStart => exact ⟨0, by omega, rfl, R1.out, E1.out⟩
    case round =>
      clear R1 E1
      obtain ⟨k, hk, rfl, r2, e2⟩ := hrel
      have k0 : (0 : Int) ≤ (k : Int) := by omega
      have R2 := Lib.hid r2
      have E2 := Lib.hid e2
      by_cases hlt : k < m.line.length
      · obtain ⟨x, hx⟩ : ∃ x, m.line[k]? = some x := ⟨_, List.getElem?_eq_getElem hlt⟩
        obtain ⟨g, off, cap, hl, hcap, -, -, -, -, hcell⟩ := r2.at'.own.some (by simpa using (show 0 < m.line.length by omega))
        simp only at hl hcell
        obtain ⟨rfl, rfl⟩ : la = some ⟨g, off, none⟩ ∧ lc = cap := by have := HLV.out.symm.trans hl; cases this; exact ⟨rfl, rfl⟩
        have hcx := hcell k (.int .i64 x) (by simp [hx])
        have hxb := r2.at'.ok.line x (List.mem_of_getElem? hx)
        simp only [tellN_len] at hxb
        obtain ⟨j, rfl⟩ := Int.eq_ofNat_of_zero_le hxb.1
        have c6 := r2.at'.hd.c6
        simp only [tellN_len] at c6
        obtain ⟨kk, hkk⟩ : ∃ kk, (tellN m.line m.ks k)[j]? = some kk := ⟨_, List.getElem?_eq_getElem (by rw [tellN_len]; omega)⟩
        have d0 := (r2.at'.works.get hkk).1
        have f0 := r2.at'.works.2 j 0 (by simp only [tellN_len]; omega) (by omega)
        simp only [Nat.add_zero] at f0
        have hw1 := r2.at'.works.set1 (k' := { kk with at' := 3 }) hkk 0 (by omega) (.int .i64 3) rfl
        have hset : (tellN m.line m.ks k).set j { kk with at' := 3 } = tellN m.line m.ks (k + 1) := by
          rw [tellN_succ hx]; unfold tell; simp only [Int.toNat_natCast, hkk, Option.getD_some]
        rw [hset] at hw1
        have hMA := r2.at'.toWorks ((Chg.refl _ _).setCell ⟨p.kb, j * 9 + 0, none⟩ (.int .i64 3) (fun _ => rfl)) hw1 (by simp only [tellN_len]) (tellN_grants HGR.out m.line (k + 1))
        have r3 := r2.works hMA ((Chg.refl _ _).setCell ⟨p.kb, j * 9 + 0, none⟩ (.int .i64 3) (fun _ => rfl))
        have e3 := e2.chg (F := fun k => k = p.kb) ((Chg.refl _ _).setCell ⟨p.kb, j * 9 + 0, none⟩ (.int .i64 3) (fun _ => rfl)) (fun e => r2.not (Nat.le_of_eq HSZ.out) hg1 (.inr (.inr (.inl e))))
        have R3 := Lib.hid r3
        have E3 := Lib.hid e3
        have q1 : (k : Int) < (m.line.length : Int) := by omega
        have q2 : (k : Int) ≤ (m.line.length : Int) - 1 := by omega
        obtain ⟨q3, q4⟩ := hxb
        have q5 : (j : Int) ≤ (m.ks.length : Int) - 1 := by omega
        have hnk := r2.at'.ok.nk
        simp only [tellN_len] at hnk
        clear hset hMA hw1 hkk hx hl hcell r3 e3 r2 e2
        go_wp2_with fail
        go_roundw
        case rel => exact ⟨k + 1, by omega, by go_num, R3.out, E3.out⟩
        case measure => simp [intOf]; omega
      · have hkk : k = m.line.length := by omega
        have HR3 : RowKit.Hid (R = { m with closed := 2, ks := tellN m.line m.ks k, line := [] }) := Lib.hid (by rw [HR2.out, hkk, tellN_all])
        have HR2 := HR3
        have c7 := r2.at'.hd.c7
        have f7 := r2.at'.hd.f7
        have hML := r2.at'.toLine (v' := .slice none 0 0) (l := []) (ownS_nil _ _) (by simp) (by simp) (fun k hk => (fp_nil k hk).elim) ((Chg.refl _ _).setCell ⟨p.mb, 7, none⟩ (.slice none 0 0) (fun _ => .inl rfl)) (hd_line r2.at'.hd _)
        have hp : MPost wr p Ev.zero.val _ (.returned Ev.zero.val) (wr.setCell ⟨p.mb, 7, none⟩ (.slice none 0 0)) := ⟨rfl, .slice none 0 0, p.rv, hML, fun k hk => (fp_nil k hk).elim, fun k hk => .inl hk, (Chg.refl _ _).setCell _ _ (fun _ => .inl rfl)⟩
        obtain ⟨-, p5, r5, hc5⟩ := r2.post hp
        have e5 := e2.chg hc5 (r2.not (Nat.le_of_eq HSZ.out) hg1)
        clear hML hp hc5 r2 e2 hkk
        go_upto_region 11 with (fail)
        obtain ⟨Z, z1, z2⟩ := e5
        refine wp_region_lit ?_
        refine RowL.wpList_run rfl (Ev.zero).val (by go_simp; try rfl) ?_
        refine RowL.wpList_store_row rfl 36 (.tmp 4) (.tmp 39) rfl W.heap.size _ Z (Ev.zero).cells rfl rfl z2 z1 (by kernel_rfl) (ev_one _) ?_
        go_wp2_with fail
        refine bodyPost_ret (results_row rfl _ _ W.heap.size _ _ _ rfl (z2.set _) Tryz.underlying36 rfl (by kernel_rfl)) rfl ?_
        rw [HR2.out]
        exact MPost.pre hC0 HSZ.out ((r5.row (Nat.le_of_eq HSZ.out) hg1 _).fin hB _)
end Go.Proofs.YtpmkgddjgebojaaGreatDoor.Mod

namespace Go.Proofs.YtpmkgddjgebojaaGreatDoor.Mod
set_option linter.unusedVariables false
set_option linter.unusedSimpArgs false
open Go.RowKit Hp Slot RowL Life

theorem bdrewN {B : Nat} {a w : World} (h : Below B a w) (n : Nat) : Below B a (w.drewN n) := ⟨h.os, h.tape, h.output, h.size, h.block⟩

set_option maxRecDepth 100000 in
set_option maxHeartbeats 8000000 in
theorem m_owns {W : World} {p : Pl} {m : M} (h : MAt W p m) (who : Int) (a : Ask) :
    Calls Tryz.prog 96 #[.pointer (some ⟨p.mb, 0, none⟩), .int .i64 who, a.val] W fun e W' => e = .returned (.int .i64 (m.owns who a)) ∧ Below W.heap.size W W' := by
  have hlt : p.mb < W.heap.size := h.lt (.inl rfl)
  have hls : p.sb < W.heap.size := h.lt (.inr (.inl rfl))
  have c8 := h.hd.c8
  have c5 := h.hd.c5
  have hns := h.ok.ns
  have HR : RowKit.Hid (m.owns who a = if m.closed = 2 then 5 else if a.slot < 0 ∨ (m.ss.length : Int) ≤ a.slot then 2
    else if (m.slot a.slot.toNat).state ≠ 3 ∨ (m.slot a.slot.toNat).own ≠ who ∨ (m.slot a.slot.toNat).gen ≠ a.gen then 2 else 0) := rfl
  generalize m.owns who a = R at *
  have HS : RowKit.Hid (∀ i s, m.ss[i]? = some s → m.slot i = s) := fun i s hi => M.slot_of hi
  have HG : RowKit.Hid (∀ i s, m.ss[i]? = some s → (∀ j v, (S.cells s)[j]? = some v → W.cell? ⟨p.sb, i * 9 + j, none⟩ = some v)) := fun i s hi => h.slots.1 i s hi
  obtain ⟨op, dl, wt, fo, sl, ge, st⟩ := a
  simp only [Ask.val, Ask.cells] at *
  have hB : Below W.heap.size W (W.alloc (.cells #[.int .i64 op, .int .i64 dl, .bool wt, .bool fo, .int .i64 sl, .int .i64 ge, .int .i64 st] 25)) := (Below.refl _ _).alloc (Nat.le_refl _) _
  by_cases h2 : m.closed = 2
  · have h2' : (m.closed == 2) = true := by simpa using h2
    have HR2 : RowKit.Hid (R = 5) := Lib.hid (by rw [HR.out, if_pos h2])
    clear h2 HR h
    go_enter Tryz.func96, Tryz.ntmps96
    go_wp2_with fail
    go_ret
    exact ⟨by rw [HR2.out]; rfl, hB⟩
  have h2' : (m.closed == 2) = false := by simpa using h2
  by_cases h3 : sl < 0
  · have h3' : decide (sl < 0) = true := by simpa using h3
    have HR2 : RowKit.Hid (R = 2) := Lib.hid (by rw [HR.out, if_neg h2, if_pos (.inl h3)])
    clear h2 HR h h3
    go_enter Tryz.func96, Tryz.ntmps96
    go_wp2_with fail
    go_quiet (fail)
    go_wp2_with fail
    go_ret
    exact ⟨by rw [HR2.out]; rfl, bdrewN hB _⟩
  have h3' : decide (sl < 0) = false := by simpa using h3
  obtain ⟨n, rfl⟩ := Int.eq_ofNat_of_zero_le (show 0 ≤ sl by omega)
  by_cases h4 : m.ss.length ≤ n
  · have h4' : decide ((m.ss.length : Int) ≤ (n : Int)) = true := by simp; omega
    have HR2 : RowKit.Hid (R = 2) := Lib.hid (by rw [HR.out, if_neg h2, if_pos (.inr (by omega))])
    clear h2 HR h h3
    go_enter Tryz.func96, Tryz.ntmps96
    go_wp2_with fail
    go_quiet (fail)
    go_wp2_with fail
    go_ret
    exact ⟨by rw [HR2.out]; rfl, bdrewN hB _⟩
  have h4' : decide ((m.ss.length : Int) ≤ (n : Int)) = false := by simp; omega
  obtain ⟨s, hs⟩ : ∃ s, m.ss[n]? = some s := ⟨_, List.getElem?_eq_getElem (by omega)⟩
  have HR2 : RowKit.Hid (R = if s.state ≠ 3 ∨ s.own ≠ who ∨ s.gen ≠ ge then 2 else 0) := Lib.hid (by rw [HR.out, if_neg h2, if_neg (by omega)]; simp only [Int.toNat_natCast, HS.out n s hs])
  have hc := HG.out n s hs
  have d0 := hc 0 _ rfl
  have d1 := hc 1 _ rfl
  have d2 := hc 2 _ rfl
  have d3 := hc 3 _ rfl
  have d4 := hc 4 _ rfl
  have d5 := hc 5 _ rfl
  have d6 := hc 6 _ rfl
  have d7 := hc 7 _ rfl
  have d8 := hc 8 _ rfl
  have b0 : (0 : Int) ≤ (n : Int) := by omega
  have b1 : (n : Int) < (m.ss.length : Int) := by omega
  have b2 : (n : Int) ≤ (m.ss.length : Int) - 1 := by omega
  clear h2 HR h h3 h4 hs hc HS HG
  obtain ⟨s0, s1, s2, s3, s4, s5, s6, s7, s8⟩ := s
  simp only at HR2
  go_enter Tryz.func96, Tryz.ntmps96
  go_wp2_with fail
  go_quiet (fail)
  go_wp2_with fail
  have hB1 := bdrewN hB nq
  have k5 := Field.bkeep hB1 c5
  have kA : ((W.alloc (.cells #[.int .i64 op, .int .i64 dl, .bool wt, .bool fo, .int .i64 n, .int .i64 ge, .int .i64 st] 25)).drewN nq).cell? ⟨W.heap.size, 4, none⟩ = some (.int .i64 n) := by go_simp
  have kG : ((W.alloc (.cells #[.int .i64 op, .int .i64 dl, .bool wt, .bool fo, .int .i64 n, .int .i64 ge, .int .i64 st] 25)).drewN nq).cell? ⟨W.heap.size, 5, none⟩ = some (.int .i64 ge) := by go_simp
  have ks0 := Field.bkeep hB1 d0
  have ks1 := Field.bkeep hB1 d1
  have ks2 := Field.bkeep hB1 d2
  have ks3 := Field.bkeep hB1 d3
  have ks4 := Field.bkeep hB1 d4
  have ks5 := Field.bkeep hB1 d5
  have ks6 := Field.bkeep hB1 d6
  have ks7 := Field.bkeep hB1 d7
  have ks8 := Field.bkeep hB1 d8
  simp only [Nat.add_zero] at ks0
  clear c8 c5 d0 d1 d2 d3 d4 d5 d6 d7 d8 hB
  generalize hwz : ((W.alloc (.cells #[.int .i64 op, .int .i64 dl, .bool wt, .bool fo, .int .i64 n, .int .i64 ge, .int .i64 st] 25)).drewN nq) = w1 at *
  clear hwz
  have L5 : ∀ w', Below w1.heap.size w1 w' → w'.cell? ⟨p.mb, 5, none⟩ = some (.slice (some ⟨p.sb, 0, none⟩) m.ss.length m.ss.length) := fun w' h => Field.bkeep h k5
  have LA : ∀ w', Below w1.heap.size w1 w' → w'.cell? ⟨W.heap.size, 4, none⟩ = some (.int .i64 n) := fun w' h => Field.bkeep h kA
  have Ls0 : ∀ w', Below w1.heap.size w1 w' → w'.cell? ⟨p.sb, n * 9, none⟩ = some (.int .i64 s0) := fun w' h => Field.bkeep h ks0
  have Ls1 : ∀ w', Below w1.heap.size w1 w' → w'.cell? ⟨p.sb, n * 9 + 1, none⟩ = some (.int .i64 s1) := fun w' h => Field.bkeep h ks1
  have Ls2 : ∀ w', Below w1.heap.size w1 w' → w'.cell? ⟨p.sb, n * 9 + 2, none⟩ = some (.int .i64 s2) := fun w' h => Field.bkeep h ks2
  have Ls3 : ∀ w', Below w1.heap.size w1 w' → w'.cell? ⟨p.sb, n * 9 + 3, none⟩ = some (.bool s3) := fun w' h => Field.bkeep h ks3
  have Ls4 : ∀ w', Below w1.heap.size w1 w' → w'.cell? ⟨p.sb, n * 9 + 4, none⟩ = some (.bool s4) := fun w' h => Field.bkeep h ks4
  have Ls5 : ∀ w', Below w1.heap.size w1 w' → w'.cell? ⟨p.sb, n * 9 + 5, none⟩ = some (.int .i64 s5) := fun w' h => Field.bkeep h ks5
  have Ls6 : ∀ w', Below w1.heap.size w1 w' → w'.cell? ⟨p.sb, n * 9 + 6, none⟩ = some (.int .i64 s6) := fun w' h => Field.bkeep h ks6
  have Ls7 : ∀ w', Below w1.heap.size w1 w' → w'.cell? ⟨p.sb, n * 9 + 7, none⟩ = some (.int .i64 s7) := fun w' h => Field.bkeep h ks7
  have Ls8 : ∀ w', Below w1.heap.size w1 w' → w'.cell? ⟨p.sb, n * 9 + 8, none⟩ = some (.int .i64 s8) := fun w' h => Field.bkeep h ks8
  have hKd : Below w1.heap.size w1 w1.drew := (Below.refl _ _).drew
  have hlA : W.heap.size < w1.heap.size := World.block_lt_of_cell? _ _ kA
  clear ks0 ks1 ks2 ks3 ks4 ks5 ks6 ks7 ks8 kA k5
  go_region_held3 (fun w' => Below w1.heap.size w1 w') (first | assumption | exact ((Below.refl _ _).alloc (Nat.le_refl _) _) | exact ((Below.refl _ _).alloc (Nat.le_refl _) _).drew | exact ((Below.refl _ _).drew.alloc (Nat.le_refl _) _)) (fail)
  clear L5 LA Ls0 Ls1 Ls2 Ls3 Ls4 Ls5 Ls6 Ls7 Ls8 b0 b1 b2 hKd
  have hfin : Below W.heap.size W ((w1.alloc (.cells #[.int .i64 s0, .int .i64 s1, .int .i64 s2, .bool s3, .bool s4, .int .i64 s5, .int .i64 s6, .int .i64 s7, .int .i64 s8] 59)).drew) := (hB1.alloc hB1.size _).drew
  by_cases e0 : s0 = 3
  · have e0' : (s0 != 3) = false := by simp [e0]
    by_cases e1 : s1 = who
    · have e1' : (s1 != who) = false := by simp [e1]
      by_cases e2 : s6 = ge
      · have e2' : (s6 != ge) = false := by simp [e2]
        have HR3 : RowKit.Hid (R = 0) := Lib.hid (by rw [HR2.out, if_neg]; simp [e0, e1, e2])
        clear e0 e1 e2
        go_wp2_with fail
        go_ret
        exact ⟨by rw [HR3.out]; rfl, hfin⟩
      · have e2' : (s6 != ge) = true := by simp [e2]
        have HR3 : RowKit.Hid (R = 2) := Lib.hid (by rw [HR2.out, if_pos]; simp [e2])
        clear e0 e1 e2
        go_wp2_with fail
        go_ret
        exact ⟨by rw [HR3.out]; rfl, hfin⟩
    · have e1' : (s1 != who) = true := by simp [e1]
      have HR3 : RowKit.Hid (R = 2) := Lib.hid (by rw [HR2.out, if_pos]; simp [e1])
      clear e0 e1
      go_wp2_with fail
      go_ret
      exact ⟨by rw [HR3.out]; rfl, hfin⟩
  · have e0' : (s0 != 3) = true := by simp [e0]
    have HR3 : RowKit.Hid (R = 2) := Lib.hid (by rw [HR2.out, if_pos]; simp [e0])
    clear e0
    go_wp2_with fail
    go_ret
    exact ⟨by rw [HR3.out]; rfl, hfin⟩
end Go.Proofs.YtpmkgddjgebojaaGreatDoor.Mod

namespace Go.Proofs.YtpmkgddjgebojaaGreatDoor.Mod
set_option linter.unusedVariables false
set_option linter.unusedSimpArgs false
open Go.RowKit Hp Slot RowL Life

theorem first_some {m : M} {kind own : Int} {i : Nat} (h : m.first kind own = some i) : ∃ s, m.ss[i]? = some s ∧ Find.fits s kind own = true := by
  unfold M.first at h
  generalize m.ss = l at h
  induction l generalizing i with
  | nil => cases h
  | cons s l ih =>
    rw [firstAt] at h
    split at h
    · rename_i hf; cases h; exact ⟨s, rfl, hf⟩
    · cases hx : firstAt kind own l with
      | none => rw [hx] at h; cases h
      | some j =>
        rw [hx] at h
        simp at h
        subst h
        obtain ⟨t, h1, h2⟩ := ih hx
        exact ⟨t, by simpa using h1, h2⟩

theorem Re.line {B : Nat} {W0 w w' : World} {p p' : Pl} {m' : M} (r : Re B W0 p w p' m') {v' : Value} {l : List Int} (h : MAt w' { p' with lv := v' } { m' with line := l }) (hF : ∀ k, Fp v' k → Fp p'.lv k ∨ w.heap.size ≤ k) (hc : Chg (fun k => k = p'.mb ∨ Fp p'.lv k) w w') :
    Re B W0 p w' { p' with lv := v' } { m' with line := l } := by
  refine ⟨h, r.old, r.le, ?_, fun k hk => ?_, r.rvs, r.chg.trans hc (fun k _ hk => ?_)⟩
  · obtain ⟨lv, rv, e⟩ := r.same
    exact ⟨v', rv, by rw [e]⟩
  · rcases hF k hk with h | h
    · exact r.lvs k h
    · exact .inr (Nat.le_trans r.size h)
  · have : mfp p' k := by
      rcases hk with rfl | hk
      · exact .inl rfl
      · exact .inr (.inr (.inr (.inr (.inr hk))))
    exact (r.mine this).imp id (fun h => Nat.le_trans r.le h)
theorem WorksAt.there {W : World} {kb : Nat} {ks : List Wk} (h : WorksAt W kb ks) {i : Nat} (hi : i < ks.length) : W.there kb (i * 9) 9 := by
  intro j hj
  refine ⟨?_, h.2 i j hi hj⟩
  have := h.1 i ks[i] (List.getElem?_eq_getElem hi) j _ (Array.getElem?_eq_getElem (by simpa [Wk.cells] using hj))
  rw [this]; rfl

theorem int_info : (Tryz.prog.info? 3).map (fun i => (i.zero, i.size, i.bytes)) = some (some (.int .i64 0), 1, 8) := by kernel_rfl

set_option maxRecDepth 100000 in
set_option maxHeartbeats 8000000 in
theorem m_get {W : World} {p : Pl} {m : M} (h : MAt W p m) (who : Int) (a : Ask) (hw : m.has who = true) :
    Calls Tryz.prog 67 #[.pointer (some ⟨p.mb, 0, none⟩), .int .i64 who, a.val] W (MPost W p (.tuple #[(m.get who a).1.1.val, .bool (m.get who a).1.2]) (m.get who a).2) := by
  have hR : RowKit.Hid (m.get who a = if m.closed ≠ 0 then ((M.failed 5, true), m) else
    match m.first 0 who with
    | some i => (((m.turn i 3 who 0).leased i, true), m.turn i 3 who 0)
    | none => match m.first 1 who with
      | some i => ((((m.turn i 3 who 0).move (m.slot i).own who).leased i, true), (m.turn i 3 who 0).move (m.slot i).own who)
      | none => match m.first 2 who with
        | some i => ((((m.turn i 0 who 0).dial i who).1, true), ((m.turn i 0 who 0).dial i who).2)
        | none => if (!a.wait) = true then ((M.failed 3, true), m) else if m.cf.waiters ≤ m.line.length then ((M.failed 7, true), m)
          else ((Ev.zero, false), { m with line := m.line ++ [who], ks := m.ks.set who.toNat ⟨1, a, 0⟩ })) := rfl
  generalize m.get who a = R at *
  have hlt : p.mb < W.heap.size := h.lt (.inl rfl)
  obtain ⟨op, dl, wt, fo, sl, ge, st⟩ := a
  simp only [Ask.val, Ask.cells] at *
  have hB : Below W.heap.size W ((W.alloc (.cells #[.int .i64 op, .int .i64 dl, .bool wt, .bool fo, .int .i64 sl, .int .i64 ge, .int .i64 st] 25)).alloc (.cells ev0 36)) := ((Below.refl _ _).alloc (Nat.le_refl _) _).alloc (by simp) _
  have r0 : Re W.heap.size ((W.alloc (.cells #[.int .i64 op, .int .i64 dl, .bool wt, .bool fo, .int .i64 sl, .int .i64 ge, .int .i64 st] 25)).alloc (.cells ev0 36)) p ((W.alloc (.cells #[.int .i64 op, .int .i64 dl, .bool wt, .bool fo, .int .i64 sl, .int .i64 ge, .int .i64 st] 25)).alloc (.cells ev0 36)) p m := Re.begin h hB
  have e0 : ERow ((W.alloc (.cells #[.int .i64 op, .int .i64 dl, .bool wt, .bool fo, .int .i64 sl, .int .i64 ge, .int .i64 st] 25)).alloc (.cells ev0 36)) (W.heap.size + 1) := ⟨ev0, rfl, by have := RowAt.new (W.alloc (.cells #[.int .i64 op, .int .i64 dl, .bool wt, .bool fo, .int .i64 sl, .int .i64 ge, .int .i64 st] 25)) ev0 36; simpa using this⟩
  have hg1 : W.heap.size + 1 < ((W.alloc (.cells #[.int .i64 op, .int .i64 dl, .bool wt, .bool fo, .int .i64 sl, .int .i64 ge, .int .i64 st] 25)).alloc (.cells ev0 36)).heap.size := by simp
  have hg0 : W.heap.size ≤ W.heap.size + 1 := by omega
  have a0 : RowAt ((W.alloc (.cells #[.int .i64 op, .int .i64 dl, .bool wt, .bool fo, .int .i64 sl, .int .i64 ge, .int .i64 st] 25)).alloc (.cells ev0 36)) W.heap.size #[.int .i64 op, .int .i64 dl, .bool wt, .bool fo, .int .i64 sl, .int .i64 ge, .int .i64 st] 25 := heap_alloc2_old W _ _
  have c8 := h.hd.c8
  by_cases hc : m.closed = 0
  rotate_left
  · have hc' : (m.closed != 0) = true := by simp [hc]
    have HR2 : RowKit.Hid (R = ((M.failed 5, true), m)) := Lib.hid (by rw [hR.out, if_pos hc])
    clear hc hR h
    go_enter Tryz.func67, Tryz.ntmps67
    have hfl := fun W => failed_any W 5
    have hf : M.failed 5 = { Ev.zero with e := 5 } := rfl
    rw [← hf] at hfl
    generalize M.failed 5 = x at *
    clear hf
    go_wp2_with fail
    refine (hfl _).mono ?_
    rintro e w2 ⟨rfl, hb2⟩
    have r2 := r0.below hb2
    have e2 := e0.below hb2
    have hst := e2.store x
    have hsz := ev_size x
    clear hfl hb2
    go_wp2_with fail
    refine bodyPost_ret (results_row2 rfl _ _ (W.heap.size + 1) _ _ _ rfl (e2.set x) Tryz.underlying36 rfl (by kernel_rfl)) rfl ?_
    rw [HR2.out]
    exact (r2.row hg0 hg1 x.cells).fin hB _
  have hc' : (m.closed != 0) = false := by simp [hc]
  have hR := Lib.hid (hR.out.trans (if_neg (by simp [hc])))
  clear hc
  cases hf0 : m.first 0 who with
  | some i =>
    rw [hf0] at hR
    obtain ⟨s, hs, -⟩ := first_some hf0
    have HS := Lib.hid hs
    have HR2 : RowKit.Hid (R = (((m.turn i 3 who 0).leased i, true), m.turn i 3 who 0)) := Lib.hid hR.out
    have hfi := m_first r0.at' 0 who (by simp)
    rw [hf0] at hfi
    simp only [Option.getD_some, Option.isSome_some] at hfi
    clear hR hs h hf0
    go_enter Tryz.func67, Tryz.ntmps67
    go_wp2_with fail
    refine hfi.mono ?_
    rintro e w1 ⟨rfl, hb1⟩
    have r1 := r0.below hb1
    have e1 := e0.below hb1
    have ht := m_turn' r1.at' i 3 i 3 who 0 s HS.out rfl rfl (by simp [Done])
    rw [r1.mb] at ht
    clear hfi hb1 r0 e0 a0 c8
    go_wp2_with fail
    refine ht.mono ?_
    rintro e w2 ⟨rfl, h2, hc2⟩
    have r2 := r1.slots h2 hc2
    have e2 := e1.chg hc2 (fun e => r1.not hg0 hg1 (.inr (.inl e)))
    have hle := m_leased r2.at' i i _ (turnL_get HS.out) rfl
    rw [r2.mb] at hle
    clear ht h2 hc2 r1 e1
    generalize (m.turn i 3 who 0).leased i = x at *
    go_wp2_with fail
    refine hle.mono ?_
    rintro e w3 ⟨rfl, hb3⟩
    have r3 := r2.below hb3
    have e3 := e2.below hb3
    have hst := e3.store x
    have hsz := ev_size x
    clear hle hb3 r2 e2
    go_wp2_with fail
    refine bodyPost_ret (results_row2 rfl _ _ (W.heap.size + 1) _ _ _ rfl (e3.set x) Tryz.underlying36 rfl (by kernel_rfl)) rfl ?_
    rw [HR2.out]
    exact (r3.row hg0 hg1 x.cells).fin hB _
  | none =>
    rw [hf0] at hR
    have hfi := m_first r0.at' 0 who (by simp)
    rw [hf0] at hfi
    simp only [Option.getD_none, Option.isSome_none] at hfi
    have hf1 := fun (w : World) (h : MAt w p m) => m_first h 1 who (by simp)
    have hf2 := fun (w : World) (h : MAt w p m) => m_first h 2 who (by simp)
    clear hf0
    cases hx1 : m.first 1 who with
    | some i =>
      rw [hx1] at hR
      simp only [hx1, Option.getD_some, Option.isSome_some] at hf1
      obtain ⟨s, hs, -⟩ := first_some hx1
      have hsl : m.slot i = s := M.slot_of hs
      have HS := Lib.hid hs
      have HR2 : RowKit.Hid (R = ((((m.turn i 3 who 0).move s.own who).leased i, true), (m.turn i 3 who 0).move s.own who)) := Lib.hid (by rw [← hsl]; exact hR.out)
      have hil : i < m.ss.length := (List.getElem?_eq_some_iff.1 hs).1
      have hns := r0.at'.ok.ns
      have b0 : (0 : Int) ≤ (i : Int) := by omega
      have b1 : (i : Int) < (m.ss.length : Int) := by omega
      have b2 : (i : Int) ≤ (m.ss.length : Int) - 1 := by omega
      clear hR hs h hx1 hsl hf2 hil
      go_enter Tryz.func67, Tryz.ntmps67
      go_wp2_with fail
      refine hfi.mono ?_
      rintro e w1 ⟨rfl, hb1⟩
      have r1 := r0.below hb1
      have e1 := e0.below hb1
      have hy := hf1 w1 r1.at'
      clear hfi hb1 r0 e0 a0 c8 hf1
      go_wp2_with fail
      refine hy.mono ?_
      rintro e w2 ⟨rfl, hb2⟩
      have r2 := r1.below hb2
      have e2 := e1.below hb2
      have c5 := r2.at'.hd.c5
      have cO := (r2.at'.slots.get HS.out).2.1
      have ht := m_turn' r2.at' i 3 i 3 who 0 s HS.out rfl rfl (by simp [Done])
      clear hy hb2 r1 e1
      go_wp2_with fail
      refine ht.mono ?_
      rintro e w3 ⟨rfl, h3, hc3⟩
      have r3 := r2.slots h3 hc3
      have e3 := e2.chg hc3 (fun e => r2.not hg0 hg1 (.inr (.inl e)))
      have hmv := m_move h3 s.own who
      clear ht h3 hc3 r2 e2 c5 cO b0 b1 b2
      go_wp2_with fail
      refine hmv.mono ?_
      rintro e w4 ⟨⟨v4, rfl⟩, h4, hc4⟩
      have r4 := r3.slots h4 hc4
      have e4 := e3.chg hc4 (fun e => r3.not hg0 hg1 (.inr (.inl e)))
      obtain ⟨s9, hs9⟩ : ∃ s9, ((m.turn i 3 who 0).move s.own who).ss[i]? = some s9 := ⟨_, List.getElem?_eq_getElem (by
        have h1 : ((m.turn i 3 who 0).move s.own who).ss.length = m.ss.length := by
          show (M.moveL s.own who true (turnL m.ss i 3 who 0)).length = _
          rw [← mvN_all, mvN_len, turnL_len]
        rw [h1]; exact (List.getElem?_eq_some_iff.1 HS.out).1)⟩
      have hle := m_leased r4.at' i i _ hs9 rfl
      clear hmv h4 hc4 r3 e3 hs9
      generalize ((m.turn i 3 who 0).move s.own who).leased i = x at *
      go_wp2_with fail
      refine hle.mono ?_
      rintro e w5 ⟨rfl, hb5⟩
      have r5 := r4.below hb5
      have e5 := e4.below hb5
      have hst := e5.store x
      have hsz := ev_size x
      clear hle hb5 r4 e4
      go_wp2_with fail
      refine bodyPost_ret (results_row2 rfl _ _ (W.heap.size + 1) _ _ _ rfl (e5.set x) Tryz.underlying36 rfl (by kernel_rfl)) rfl ?_
      rw [HR2.out]
      exact (r5.row hg0 hg1 x.cells).fin hB _
    | none =>
      rw [hx1] at hR
      simp only [hx1, Option.getD_none, Option.isSome_none] at hf1
      cases hx2 : m.first 2 who with
      | some i =>
        rw [hx2] at hR
        simp only [hx2, Option.getD_some, Option.isSome_some] at hf2
        obtain ⟨s, hs, -⟩ := first_some hx2
        have HS := Lib.hid hs
        have HR2 : RowKit.Hid (R = ((((m.turn i 0 who 0).dial i who).1, true), ((m.turn i 0 who 0).dial i who).2)) := Lib.hid hR.out
        clear hR hs h hx1 hx2
        go_enter Tryz.func67, Tryz.ntmps67
        go_wp2_with fail
        refine hfi.mono ?_
        rintro e w1 ⟨rfl, hb1⟩
        have r1 := r0.below hb1
        have e1 := e0.below hb1
        have hy := hf1 w1 r1.at'
        clear hfi hb1 r0 e0 a0 c8 hf1
        go_wp2_with fail
        refine hy.mono ?_
        rintro e w2 ⟨rfl, hb2⟩
        have r2 := r1.below hb2
        have e2 := e1.below hb2
        have hy := hf2 w2 r2.at'
        clear hb2 r1 e1 hf2
        go_wp2_with fail
        refine hy.mono ?_
        rintro e w3 ⟨rfl, hb3⟩
        have r3 := r2.below hb3
        have e3 := e2.below hb3
        have ht := m_turn' r3.at' i 0 i 0 who 0 s HS.out rfl rfl (by simp [Done])
        clear hy hb3 r2 e2
        go_wp2_with fail
        refine ht.mono ?_
        rintro e w4 ⟨rfl, h4, hc4⟩
        have r4 := r3.slots h4 hc4
        have e4 := e3.chg hc4 (fun e => r3.not hg0 hg1 (.inr (.inl e)))
        have hdi := m_dial h4 i i who _ (turnL_get HS.out) rfl
        clear ht h4 hc4 r3 e3
        generalize (m.turn i 0 who 0).dial i who = rd at *
        obtain ⟨x, md⟩ := rd
        simp only at hdi HR2
        go_wp2_with fail
        refine hdi.mono ?_
        rintro e w5 hp
        obtain ⟨rfl, p5, r5, hc5⟩ := r4.post hp
        have e5 := e4.chg hc5 (r4.not hg0 hg1)
        have hst := e5.store x
        have hsz := ev_size x
        clear hdi hp hc5 r4 e4
        go_wp2_with fail
        refine bodyPost_ret (results_row2 rfl _ _ (W.heap.size + 1) _ _ _ rfl (e5.set x) Tryz.underlying36 rfl (by kernel_rfl)) rfl ?_
        rw [HR2.out]
        exact (r5.row hg0 hg1 x.cells).fin hB _
      | none =>
        rw [hx2] at hR
        simp only [hx2, Option.getD_none, Option.isSome_none] at hf2
        have HR := Lib.hid hR.out
        clear hR hx1 hx2
        go_enter Tryz.func67, Tryz.ntmps67
        go_wp2_with fail
        refine hfi.mono ?_
        rintro e w1 ⟨rfl, hb1⟩
        have r1 := r0.below hb1
        have e1 := e0.below hb1
        have a1 := a0.below hb1
        have hy := hf1 w1 r1.at'
        clear hfi hb1 r0 e0 a0 c8 hf1
        go_wp2_with fail
        refine hy.mono ?_
        rintro e w2 ⟨rfl, hb2⟩
        have r2 := r1.below hb2
        have e2 := e1.below hb2
        have a2 := a1.below hb2
        have hy := hf2 w2 r2.at'
        clear hb2 r1 e1 a1 hf2
        go_wp2_with fail
        refine hy.mono ?_
        rintro e w3 ⟨rfl, hb3⟩
        have r3 := r2.below hb3
        have e3 := e2.below hb3
        have a3 := a2.below hb3
        clear hy hb3 r2 e2 a2
        cases wt
        · have HR2 : RowKit.Hid (R = ((M.failed 3, true), m)) := Lib.hid (by rw [HR.out]; exact if_pos rfl)
          have cw : w3.cell? ⟨W.heap.size, 2, none⟩ = some (.bool false) := a3.cell 2
          clear HR h
          have hfl := fun W => failed_any W 3
          have hf : M.failed 3 = { Ev.zero with e := 3 } := rfl
          rw [← hf] at hfl
          generalize M.failed 3 = x at *
          clear hf
          go_wp2_with fail
          refine (hfl _).mono ?_
          rintro e w4 ⟨rfl, hb4⟩
          have r4 := r3.below hb4
          have e4 := e3.below hb4
          have hst := e4.store x
          have hsz := ev_size x
          clear hfl hb4
          go_wp2_with fail
          refine bodyPost_ret (results_row2 rfl _ _ (W.heap.size + 1) _ _ _ rfl (e4.set x) Tryz.underlying36 rfl (by kernel_rfl)) rfl ?_
          rw [HR2.out]
          exact (r4.row hg0 hg1 x.cells).fin hB _
        have HR := Lib.hid (HR.out.trans (if_neg (by simp)))
        have cw : w3.cell? ⟨W.heap.size, 2, none⟩ = some (.bool true) := a3.cell 2
        have c3 := r3.at'.hd.c3
        have c7 := r3.at'.hd.c7
        obtain ⟨la, lc, hlv⟩ := r3.at'.own.form
        rw [hlv] at c7
        have HLV := Lib.hid hlv
        have hfew := r3.at'.ok.few
        clear hlv h
        by_cases hfull : m.cf.waiters ≤ m.line.length
        · have HR2 : RowKit.Hid (R = ((M.failed 7, true), m)) := Lib.hid (by rw [HR.out]; exact if_pos hfull)
          have d1 : decide (m.cf.waiters ≤ (m.line.length : Int)) = true := by simpa using hfull
          clear HR hfull
          go_wp2_with fail
          go_quiet (fail)
          have hbq : Below w3.heap.size w3 (w3.drewN nq) := bdrewN (Below.refl _ _) nq
          have r3 := r3.below hbq
          have e3 := e3.below hbq
          generalize hwz : w3.drewN nq = w3q at *
          clear hwz hbq cw c3 c7
          have hfl := fun W => failed_any W 7
          have hf : M.failed 7 = { Ev.zero with e := 7 } := rfl
          rw [← hf] at hfl
          generalize M.failed 7 = x at *
          clear hf
          go_wp2_with fail
          refine (hfl _).mono ?_
          rintro e w4 ⟨rfl, hb4⟩
          have r4 := r3.below hb4
          have e4 := e3.below hb4
          have hst := e4.store x
          have hsz := ev_size x
          clear hfl hb4
          go_wp2_with fail
          refine bodyPost_ret (results_row2 rfl _ _ (W.heap.size + 1) _ _ _ rfl (e4.set x) Tryz.underlying36 rfl (by kernel_rfl)) rfl ?_
          rw [HR2.out]
          exact (r4.row hg0 hg1 x.cells).fin hB _
        · have d1 : decide (m.cf.waiters ≤ (m.line.length : Int)) = false := by simpa using hfull
          have HR := Lib.hid (HR.out.trans (if_neg hfull))
          clear hfull
          obtain ⟨i0, hi, hz0, hz1, hz2⟩ := info_parts int_info
          go_wp2_with fail
          go_quiet (fail)
          have hown : OwnS ((w3.drewN nq).alloc (.cells #[.int .i64 who] 3)) p.lv m.line.length 1 (m.line.map (Value.int .i64)) := OwnS.alloc (w := w3.drewN nq) r3.at'.own _
          rw [HLV.out] at hown
          have R3 := Lib.hid r3
          clear cw c3
          go_wp2_with (at_builtin; refine Hp.wpList_append _ rfl _ _ 43 rfl 3 i0 (.int .i64 0) 1 8 Tryz.underlying43 hi hz0 hz1 hz2 rfl (by decide) _ _ _ rfl hown ⟨w3.heap.size, 0, none⟩ 1 1 [.int .i64 who] rfl rfl ?c1 ?c2 ?c3 ?c4 ?_)
          case c1 => exact one_new _ _ _
          case c2 => simp [Value.oneCell']
          case c3 => unfold maxLen; omega
          case c4 => omega
          intro la' lc' w5 hown' hfp hch
          obtain ⟨t, -, t1, -, -, -, -, t6⟩ := R3.out.at'.tag
          have hnl1 : ¬ Fp (.slice la m.line.length lc) p.mb := fun h => by have := t6 _ (HLV.out ▸ h); omega
          have hC5 : Chg (Fp (.slice la m.line.length lc)) w3 w5 := Chg.trans (Chg.alloc (show Chg (Fp (.slice la m.line.length lc)) w3 (w3.drewN nq) from ⟨rfl, rfl, rfl, Nat.le_refl _, fun _ _ _ => rfl⟩) _) hch (fun _ _ h => h)
          have hlm3 : p.mb < w3.heap.size := R3.out.at'.lt (.inl rfl)
          have e7 := (hC5.cell (p := ⟨p.mb, 7, none⟩) hlm3 hnl1).trans c7
          have f7 := (hC5.frozen (p := ⟨p.mb, 7, none⟩) hlm3 hnl1).trans R3.out.at'.hd.f7
          have HC5 := Lib.hid hC5
          have HOWN := Lib.hid hown'
          have HFP := Lib.hid hfp
          have h5s : w3.heap.size ≤ w5.heap.size := hC5.size
          clear c7 hown hch hC5 hown' hfp t1 t6
          go_wp2_with fail
          obtain ⟨nn, hnn, hnl⟩ : ∃ nn : Nat, who = (nn : Int) ∧ nn < m.ks.length := by
            simp [M.has] at hw
            obtain ⟨q, hq⟩ := Int.eq_ofNat_of_zero_le hw.1
            exact ⟨q, hq, by omega⟩
          subst hnn
          have hC6 : Chg (fun k => k = p.mb ∨ Fp p.lv k) w3 (w5.setCell ⟨p.mb, 7, none⟩ (.slice la' (m.line.length + 1) lc')) := (HC5.out.mono (fun k _ hk => .inr (by rw [HLV.out]; exact hk))).setCell _ _ (fun _ => .inl rfl)
          have hnv : ¬ Fp (.slice la' (m.line.length + 1) lc') p.mb := fun hk => by
            rcases HFP.out _ hk with h' | h'
            · exact hnl1 h'
            · first | omega | (simp at h'; omega)
          have hown6 : OwnS (w5.setCell ⟨p.mb, 7, none⟩ (.slice la' (m.line.length + 1) lc')) (.slice la' (m.line.length + 1) lc') (m.line.length + 1) 1 (m.line.map (Value.int .i64) ++ [.int .i64 nn]) :=
            HOWN.out.chg (F := fun k => k = p.mb) ((Chg.refl _ _).setCell ⟨p.mb, 7, none⟩ (.slice la' (m.line.length + 1) lc') (fun _ => rfl)) (fun k hk e => hnv (e ▸ hk))
          have hhd5 : Hd w5 p m.cf m.ss.length m.ks.length m.closed := R3.out.at'.hd.stable (HC5.out.block _ hlm3 hnl1)
          have hA6 := R3.out.at'.toLine (v' := .slice la' (m.line.length + 1) lc') (l := m.line ++ [(nn : Int)]) (W' := w5.setCell ⟨p.mb, 7, none⟩ (.slice la' (m.line.length + 1) lc')) (by simpa using hown6) (by
              have h1 := R3.out.at'.ok.conf
              simp [Conf.Cf.right, Conf.btw] at h1
              simp at d1 ⊢
              omega) (fun x hx => by
              simp at hx
              rcases hx with hx | rfl
              · exact R3.out.at'.ok.line x hx
              · omega) (fun k hk => by
              rcases HFP.out k hk with h' | h'
              · exact .inl (by rw [HLV.out]; exact h')
              · exact .inr (by first | omega | (simp at h'; omega))) hC6 (hd_line hhd5 _)
          have r6 := R3.out.line hA6 (fun k hk => by
              rcases HFP.out k hk with h' | h'
              · exact .inl (by rw [HLV.out]; exact h')
              · exact .inr (by first | omega | (simp at h'; omega))) hC6
          have e6 : ERow (w5.setCell ⟨p.mb, 7, none⟩ (.slice la' (m.line.length + 1) lc')) (W.heap.size + 1) := e3.chg hC6 (fun hk => R3.out.not hg0 hg1 (by
              rcases hk with hk | hk
              · exact .inl hk
              · exact .inr (.inr (.inr (.inr (.inr hk))))))
          have a6 : RowAt (w5.setCell ⟨p.mb, 7, none⟩ (.slice la' (m.line.length + 1) lc')) W.heap.size #[.int .i64 op, .int .i64 dl, .bool true, .bool fo, .int .i64 sl, .int .i64 ge, .int .i64 st] 25 := a3.chg hC6 (fun hk => R3.out.not (Nat.le_refl _) (by simp; omega) (by
              rcases hk with hk | hk
              · exact .inl hk
              · exact .inr (.inr (.inr (.inr (.inr hk))))))
          clear e7 f7 hown6 hhd5 hnv hC6 HC5 HOWN HFP a3 e3 R3 hi hz0 hz1 hz2
          generalize hwz : w5.setCell ⟨p.mb, 7, none⟩ (.slice la' (m.line.length + 1) lc') = w6 at *
          clear hwz hA6
          have A6 := r6.at'
          have hkm : p.mb ≠ p.kb := A6.ne.2.2.1
          have hka : W.heap.size ≠ p.kb := fun e => r6.not (Nat.le_refl _) (by simp; omega) (.inr (.inr (.inl e)))
          have c6 := A6.hd.c6
          have hlm6 : p.mb < w6.heap.size := A6.lt (.inl rfl)
          simp only at c6
          have L6 : ∀ w', Chg (fun k => k = p.kb) w6 w' → w'.cell? ⟨p.mb, 6, none⟩ = some (.slice (some ⟨p.kb, 0, none⟩) m.ks.length m.ks.length) := fun w' h => (h.cell (p := ⟨p.mb, 6, none⟩) hlm6 hkm).trans c6
          have LA : ∀ w', Chg (fun k => k = p.kb) w6 w' → RowAt w' W.heap.size #[.int .i64 op, .int .i64 dl, .bool true, .bool fo, .int .i64 sl, .int .i64 ge, .int .i64 st] 25 := fun w' h => a6.chg h hka
          have hKd : Chg (fun k => k = p.kb) w6 w6.drew := (Chg.refl _ _).drew
          have hnk := A6.ok.nk
          simp only at hnk
          have b0 : (0 : Int) ≤ (nn : Int) := by omega
          have b1 : (nn : Int) < (m.ks.length : Int) := by omega
          have b2 : (nn : Int) ≤ (m.ks.length : Int) - 1 := by omega
          have hth : w6.drew.there p.kb (nn * 9) 9 := by
            have := WorksAt.there A6.works (i := nn) hnl
            simpa using this
          have hset : Chg (fun k => k = p.kb) w6 (w6.drew.setCells p.kb (nn * 9) #[.int .i64 1, .int .i64 op, .int .i64 dl, .bool true, .bool fo, .int .i64 sl, .int .i64 ge, .int .i64 st, .int .i64 0].toList) := hKd.trans (chg_setCells _ _ _ _) (fun _ _ h => h)
          have hW7 := (WorksAt.stable (W' := w6.drew) A6.works rfl).setL (i := nn) hnl ⟨1, ⟨op, dl, true, fo, sl, ge, st⟩, 0⟩
          have hA7 := A6.toWorks hset hW7 (by simp) (by
            intro k hk h2
            rcases List.mem_or_eq_of_mem_set hk with hk | rfl
            · exact A6.ok.grants k hk h2
            · cases h2)
          have r7 := r6.works hA7 hset
          have e7 := e6.chg hset (fun e => r6.not hg0 hg1 (.inr (.inr (.inl e))))
          clear c6 A6 hnk hA7 hW7 e6 a6 r6
          have R7 := Lib.hid r7
          clear r7
          refine wp_region_held_drew (S := fun w' => Chg (fun k => k = p.kb) w6 w') (by kernel_rfl) (by exact hKd) (fun hHeld => ?_)
          refine take_of (i := 0) (d := some 102) (op := .move (.tmp 0)) (gd := none) (v := (.pointer (some ⟨p.mb, 0, none⟩))) (by kernel_rfl) (by kernel_rfl) (by kernel_rfl) (by kernel_rfl) (fun _ _ _ h => h) (by kernel_rfl) (run_move_of (.tmp 0) (.pointer (some ⟨p.mb, 0, none⟩)) (by kernel_rfl)) hHeld ?_
          try simp only [Act.put, List.setIfInBounds_toArray, List.set_cons_zero, List.set_cons_succ]
          refine takeg (i := 1) (d := some 103) (v := ?_) (by kernel_rfl) (by kernel_rfl) (by kernel_rfl) (by kernel_rfl) (fun _ _ _ h => h) (by kernel_rfl) ?_ hHeld ?_
          rotate_left
          · intro w hSw
            try dsimp only at hSw
            go_simp
            try with_reducible rfl
          try simp only [Act.put, List.setIfInBounds_toArray, List.set_cons_zero, List.set_cons_succ]
          refine takeg (i := 2) (d := some 104) (v := ?_) (by kernel_rfl) (by kernel_rfl) (by kernel_rfl) (by kernel_rfl) (fun _ _ _ h => h) (by kernel_rfl) ?_ hHeld ?_
          rotate_left
          · intro w hSw
            try dsimp only at hSw
            go_simp
            try with_reducible rfl
          try simp only [Act.put, List.setIfInBounds_toArray, List.set_cons_zero, List.set_cons_succ]
          refine takeg (i := 3) (d := some 105) (v := ?_) (by kernel_rfl) (by kernel_rfl) (by kernel_rfl) (by kernel_rfl) (fun _ _ _ h => h) (by kernel_rfl) ?_ hHeld ?_
          rotate_left
          · intro w hSw
            try dsimp only at hSw
            go_simp
            try with_reducible rfl
          try simp only [Act.put, List.setIfInBounds_toArray, List.set_cons_zero, List.set_cons_succ]
          refine take_of (i := 4) (d := some 106) (op := .move (.tmp 1)) (gd := none) (v := (.int .i64 nn)) (by kernel_rfl) (by kernel_rfl) (by kernel_rfl) (by kernel_rfl) (fun _ _ _ h => h) (by kernel_rfl) (run_move_of (.tmp 1) (.int .i64 nn) (by kernel_rfl)) hHeld ?_
          try simp only [Act.put, List.setIfInBounds_toArray, List.set_cons_zero, List.set_cons_succ]
          refine take_of (i := 5) (d := some 107) (op := .load 25 (.tmp 5)) (gd := none) (v := .agg #[.int .i64 op, .int .i64 dl, .bool true, .bool fo, .int .i64 sl, .int .i64 ge, .int .i64 st]) (by kernel_rfl) (by kernel_rfl) (by kernel_rfl) (by kernel_rfl) (fun _ _ _ h => h) (by kernel_rfl) (run_load_row 25 (.tmp 5) (W.heap.size) 25 #[.int .i64 op, .int .i64 dl, .bool true, .bool fo, .int .i64 sl, .int .i64 ge, .int .i64 st] _ (by kernel_rfl) Tryz.underlying25 rfl (by kernel_rfl) LA) hHeld ?_
          try simp only [Act.put, List.setIfInBounds_toArray, List.set_cons_zero, List.set_cons_succ]
          refine takeg (i := 6) (d := some 108) (v := ?_) (by kernel_rfl) (by kernel_rfl) (by kernel_rfl) (by kernel_rfl) (fun _ _ _ h => h) (by kernel_rfl) ?_ hHeld ?_
          rotate_left
          · intro w hSw
            try dsimp only at hSw
            go_simp
            try with_reducible rfl
          try simp only [Act.put, List.setIfInBounds_toArray, List.set_cons_zero, List.set_cons_succ]
          refine takeg (i := 7) (d := some 109) (v := ?_) (by kernel_rfl) (by kernel_rfl) (by kernel_rfl) (by kernel_rfl) (fun _ _ _ h => h) (by kernel_rfl) ?_ hHeld ?_
          rotate_left
          · intro w hSw
            try dsimp only at hSw
            go_simp
            try with_reducible rfl
          try simp only [Act.put, List.setIfInBounds_toArray, List.set_cons_zero, List.set_cons_succ]
          refine ready1 (i := 8) (by kernel_rfl) (step_store_mid 94 (.tmp 109) (.tmp 108) (by kernel_rfl) p.kb (nn * 9) #[.int .i64 1, .int .i64 op, .int .i64 dl, .bool true, .bool fo, .int .i64 sl, .int .i64 ge, .int .i64 st, .int .i64 0] (by kernel_rfl) (by kernel_rfl) hth (by kernel_rfl) (by kernel_rfl) hset (fun _ => ?_))
          refine wpAnyH_done (by kernel_rfl) ?_ _
          generalize hwz : w6.drew.setCells p.kb (nn * 9) #[.int .i64 1, .int .i64 op, .int .i64 dl, .bool true, .bool fo, .int .i64 sl, .int .i64 ge, .int .i64 st, .int .i64 0].toList = w7 at *
          clear hwz hset hth hKd L6 LA hHeld b0 b1 b2
          go_upto_region 23 with (fail)
          obtain ⟨Z, z1, z2⟩ := e7
          refine wp_region_lit ?_
          refine RowL.wpList_run rfl Ev.zero.val (by go_simp; try rfl) ?_
          refine RowL.wpList_store_row rfl 36 (.tmp 6) (.tmp 110) rfl (W.heap.size + 1) _ Z Ev.zero.cells rfl rfl z2 z1 (by kernel_rfl) (ev_one _) ?_
          go_wp2_with fail
          refine bodyPost_ret (results_row2 rfl _ _ (W.heap.size + 1) _ _ _ rfl (z2.set _) Tryz.underlying36 rfl (by kernel_rfl)) rfl ?_
          have hrr := HR.out
          rw [Int.toNat_natCast] at hrr
          rw [hrr]
          exact (R7.out.row hg0 hg1 _).fin hB _
end Go.Proofs.YtpmkgddjgebojaaGreatDoor.Mod

namespace Go.Proofs.YtpmkgddjgebojaaGreatDoor.Mod
set_option linter.unusedVariables false
set_option linter.unusedSimpArgs false
open Go.RowKit Go.Shelf Hp Slot RowL Life Rng
attribute [local go_sem] Oper.semAt_some

/-- One slot more is gone through. -/
def rpOne (who : Int) (s : S) (a : List Bool) (n : Int) : S × List Bool × Int :=
  if Find.fits s 6 who then (if a.headD true && (!s.marked && !s.broken) then (step s 10 who 0, a.tail, n) else (emptied s, a.tail, n + 1)) else (s, a, n)
def rpStep (who : Int) (i : Nat) (r : List S × List Bool × Int) : List S × List Bool × Int :=
  match r.1[i]? with
  | some s => (r.1.set i (rpOne who s r.2.1 r.2.2).1, (rpOne who s r.2.1 r.2.2).2)
  | none => r
def rpN (who : Int) : Nat → List S × List Bool × Int → List S × List Bool × Int
  | 0, r => r
  | i + 1, r => rpStep who i (rpN who i r)
theorem rpStep_len (who : Int) (i : Nat) (r : List S × List Bool × Int) : (rpStep who i r).1.length = r.1.length := by
  unfold rpStep; split <;> simp
theorem rpN_len (who : Int) : ∀ (i : Nat) (r : List S × List Bool × Int), (rpN who i r).1.length = r.1.length
  | 0, _ => rfl
  | i + 1, r => by rw [rpN, rpStep_len, rpN_len who i r]
theorem rpN_cons (who : Int) (s : S) : ∀ (i : Nat) (l : List S) (a : List Bool) (n : Int), rpN who (i + 1) (s :: l, a, n) =
    (let r := rpN who i (l, (rpOne who s a n).2); ((rpOne who s a n).1 :: r.1, r.2))
  | 0, l, a, n => by simp [rpN, rpStep]
  | i + 1, l, a, n => by
    rw [rpN, rpN_cons who s i l a n]
    simp only [rpN]
    generalize rpN who i (l, (rpOne who s a n).2) = r
    simp only [rpStep, List.getElem?_cons_succ]
    cases r.1[i]? <;> simp
theorem rpN_all (who : Int) : ∀ (l : List S) (a : List Bool) (n : Int), rpN who l.length (l, a, n) = M.reapL who a n l
  | [], a, n => rfl
  | s :: l, a, n => by
    rw [List.length_cons, rpN_cons]
    simp only [M.reapL, rpOne]
    split
    · split <;> simp [rpN_all who l]
    · simp [rpN_all who l]
theorem rpOne_right {who : Int} {s : S} {a : List Bool} {n : Int} (h : s.right = true) : (rpOne who s a n).1.right = true := by
  unfold rpOne
  split
  · split
    · exact step_right (by simp [Mod.Done]) h
    · exact emptied_right h
  · exact h
theorem rpOne_cnt {who : Int} {s : S} {a : List Bool} {n : Int} : n ≤ (rpOne who s a n).2.2 ∧ (rpOne who s a n).2.2 ≤ n + 1 := by
  unfold rpOne
  split
  · split <;> simp <;> omega
  · simp; omega
theorem rpOne_ahead {who : Int} {s : S} {a : List Bool} {n : Int} : (rpOne who s a n).2.1.length ≤ a.length := by
  unfold rpOne
  split
  · split <;> simp
  · simp
theorem rpN_cnt (who : Int) : ∀ (i : Nat) (r : List S × List Bool × Int), r.2.2 ≤ (rpN who i r).2.2 ∧ (rpN who i r).2.2 ≤ r.2.2 + i
  | 0, r => by simp [rpN]
  | i + 1, r => by
    have h := rpN_cnt who i r
    rw [rpN]
    generalize rpN who i r = q at *
    unfold rpStep
    split
    · have := @rpOne_cnt who (by assumption) q.2.1 q.2.2
      simp only; omega
    · omega
theorem rp_next {who : Int} {i : Nat} {r : List S × List Bool × Int} {t : S} (ht : (rpN who i r).1[i]? = some t) :
    rpN who (i + 1) r = ((rpN who i r).1.set i (rpOne who t (rpN who i r).2.1 (rpN who i r).2.2).1, (rpOne who t (rpN who i r).2.1 (rpN who i r).2.2).2) := by
  rw [rpN, rpStep, ht]
theorem rpOne_no {who : Int} {t : S} {a : List Bool} {n : Int} (h : Find.fits t 6 who = false) : rpOne who t a n = (t, a, n) := by unfold rpOne; simp [h]
theorem rpOne_mark {who : Int} {t : S} {a : List Bool} {n : Int} (h : Find.fits t 6 who = true) (hc : (a.headD true && (!t.marked && !t.broken)) = true) : rpOne who t a n = (step t 10 who 0, a.tail, n) := by unfold rpOne; rw [if_pos h, if_pos hc]
theorem rpOne_gone {who : Int} {t : S} {a : List Bool} {n : Int} (h : Find.fits t 6 who = true) (hc : (a.headD true && (!t.marked && !t.broken)) = false) : rpOne who t a n = (emptied t, a.tail, n + 1) := by unfold rpOne; rw [if_pos h, if_neg (by rw [hc]; simp)]
theorem set_same {l : List S} {i : Nat} {t : S} (h : l[i]? = some t) : l.set i t = l := by
  apply List.ext_getElem?
  intro j
  rw [List.getElem?_set]
  by_cases hj : i = j
  · subst hj; rw [if_pos rfl, h]; simp [(List.getElem?_eq_some_iff.1 h).1]
  · rw [if_neg hj]

theorem MAt.wne {W : World} {p : Pl} {m : M} (h : MAt W p m) : ¬ World11.wfp p.wb p.rb p.rv 0 ∧ ¬ World11.wfp p.wb p.rb p.rv p.mb ∧ ¬ World11.wfp p.wb p.rb p.rv p.sb := by
  obtain ⟨t, t0, t1, t2, t3, t4, t5, t6⟩ := h.tag
  exact ⟨fun e => by have := t5 _ e; omega, fun e => by have := t5 _ e; omega, fun e => by have := t5 _ e; omega⟩
/-- What is asked outside, and what it has turned. -/
theorem m_wnextW {W : World} {p : Pl} {m : M} (h : MAt W p m) : Calls Tryz.prog 97 #[.pointer (some ⟨p.wb, 0, none⟩)] W fun e W' =>
    e = .returned (.bool m.good) ∧ ∃ rv, MAt W' { p with rv := rv } m.next ∧ (∀ k, Fp rv k → Fp p.rv k) ∧ Chg (World11.wfp p.wb p.rb p.rv) W W' := by
  obtain ⟨g, b, hw⟩ := h.wld
  refine (World11.wnext_any W p.wb p.rb p.rv m.ahead g b hw).mono ?_
  rintro e W' ⟨rfl, v', g', b', h1, h2, h3⟩
  refine ⟨rfl, v', h.toWorld h1 ?_ (fun k hk => .inl (h2 k hk)) h3, h2, h3⟩
  have := h.ok.ahead
  simp; omega

/-- Behind i slots. -/
structure rpK (w : World) (p : Pl) (m : M) (who : Int) (i : Nat) (W : World) : Prop where
  le : i ≤ m.ss.length
  at' : ∃ rv, (∀ k, Fp rv k → Fp p.rv k) ∧ MAt W { p with rv := rv } { m with ss := (rpN who i (m.ss, m.ahead, 0)).1, ahead := (rpN who i (m.ss, m.ahead, 0)).2.1 }
  chg : Chg (fun k => k = p.sb ∨ World11.wfp p.wb p.rb p.rv k ∨ w.heap.size ≤ k) w W
  c0 : W.cell? ⟨w.heap.size, 0, none⟩ = some (.pointer (some ⟨p.mb, 0, none⟩))
  c1 : W.cell? ⟨w.heap.size + 1, 0, none⟩ = some (.int .i64 who)
  c2 : RowAt W (w.heap.size + 1 + 1) ev0 36
  c3 : W.cell? ⟨w.heap.size + 1 + 1 + 1, 0, none⟩ = some (.int .i64 (rpN who i (m.ss, m.ahead, 0)).2.2)
  f3 : W.frozen? ⟨w.heap.size + 1 + 1 + 1, 0, none⟩ = false
theorem rpK.later {w : World} {p : Pl} {m : M} {who : Int} {i : Nat} {W W' : World} (h : rpK w p m who i W) (hb : Below W.heap.size W W') : rpK w p m who i W' := by
  obtain ⟨rv, h1, h2⟩ := h.at'
  exact ⟨h.le, ⟨rv, h1, h2.below hb⟩, h.chg.trans (Chg.ofBelow (F := fun _ => False) hb) (fun _ _ h => h.elim), Field.bkeep hb h.c0, Field.bkeep hb h.c1, h.c2.below hb, Field.bkeep hb h.c3, Field.bkeepz hb h.c3 h.f3⟩
theorem rpK_mk {w : World} {p : Pl} {m : M} {who : Int} {i : Nat} {W : World} {l : List S} {a : List Bool} {n : Int} (hn : rpN who i (m.ss, m.ahead, 0) = (l, a, n)) (le : i ≤ m.ss.length) (rv : Value) (hrv : ∀ k, Fp rv k → Fp p.rv k)
    (hat : MAt W { p with rv := rv } { m with ss := l, ahead := a }) (chg : Chg (fun k => k = p.sb ∨ World11.wfp p.wb p.rb p.rv k ∨ w.heap.size ≤ k) w W)
    (c0 : W.cell? ⟨w.heap.size, 0, none⟩ = some (.pointer (some ⟨p.mb, 0, none⟩))) (c1 : W.cell? ⟨w.heap.size + 1, 0, none⟩ = some (.int .i64 who)) (c2 : RowAt W (w.heap.size + 1 + 1) ev0 36)
    (c3 : W.cell? ⟨w.heap.size + 1 + 1 + 1, 0, none⟩ = some (.int .i64 n)) (f3 : W.frozen? ⟨w.heap.size + 1 + 1 + 1, 0, none⟩ = false) : rpK w p m who i W :=
  ⟨le, ⟨rv, hrv, by rw [hn]; exact hat⟩, chg, c0, c1, c2, by rw [hn]; exact c3, f3⟩
/-- What is captured stays, where other blocks are turned. -/
structure rpC (w : World) (p : Pl) (who n : Int) (W : World) : Prop where
  c0 : W.cell? ⟨w.heap.size, 0, none⟩ = some (.pointer (some ⟨p.mb, 0, none⟩))
  c1 : W.cell? ⟨w.heap.size + 1, 0, none⟩ = some (.int .i64 who)
  c2 : RowAt W (w.heap.size + 1 + 1) ev0 36
  c3 : W.cell? ⟨w.heap.size + 1 + 1 + 1, 0, none⟩ = some (.int .i64 n)
  f3 : W.frozen? ⟨w.heap.size + 1 + 1 + 1, 0, none⟩ = false
theorem rpC.chg {w : World} {p : Pl} {who n : Int} {W W' : World} {F : Nat → Prop} (h : rpC w p who n W) (hc : Chg F W W') (hF : ∀ k, F k → k < w.heap.size) : rpC w p who n W' :=
  ⟨(hc.cell (World.block_lt_of_cell? _ _ h.c0) (fun hf => by have := hF _ hf; simp at this)).trans h.c0, (hc.cell (World.block_lt_of_cell? _ _ h.c1) (fun hf => by have := hF _ hf; simp at this; omega)).trans h.c1,
    h.c2.chg hc (fun hf => by have := hF _ hf; omega), (hc.cell (World.block_lt_of_cell? _ _ h.c3) (fun hf => by have := hF _ hf; simp at this; omega)).trans h.c3, (hc.frozen (World.block_lt_of_cell? _ _ h.c3) (fun hf => by have := hF _ hf; simp at this; omega)).trans h.f3⟩
theorem rpC.below {w : World} {p : Pl} {who n : Int} {W W' : World} (h : rpC w p who n W) (hb : Below W.heap.size W W') : rpC w p who n W' := h.chg (F := fun _ => False) (Chg.ofBelow hb) (fun _ h => h.elim)

set_option maxRecDepth 100000 in
set_option maxHeartbeats 8000000 in
theorem m_reap {w : World} {p : Pl} {m : M} (h : MAt w p m) (who : Int) :
    Calls Tryz.prog 76 #[.pointer (some ⟨p.mb, 0, none⟩), .int .i64 who] w (MPost w p (m.reap who).1.val (m.reap who).2) := by
  have hlm : p.mb < w.heap.size := h.lt (.inl rfl)
  have hls : p.sb < w.heap.size := h.lt (.inr (.inl rfl))
  have hns := h.ok.ns
  refine (callsIn_wide (n := 9)).1 ?_
  refine callsIn_of_wp_marks Tryz.func76 rfl trivial ?_
  simp only [Tryz.ntmps76, List.size_toArray, List.length_cons, List.length_nil, Nat.reduceAdd, Nat.reduceSub, Array.replicate_succ, Array.replicate_zero, List.push_toArray, List.append_toArray, List.nil_append, List.cons_append]
  gi_wp2_with (refine ⟨trivial, ?_⟩; gi_at_call 81; refine (callsIn_wide.2 (fits_any _ _ _ _)).mono ?_; rintro e w' ⟨rfl, rfl⟩)
  have hB : Below w.heap.size w (((((((w.alloc (.cells #[.pointer (some ⟨p.mb, 0, none⟩)] 27)).alloc (.cells #[.int .i64 who] 3)).alloc (.cells #[.bool false, .int .i64 0, .int .i64 0, .int .i64 0, .int .i64 0, .bool false, .bool false, .int .i64 0, .int .i64 0, .int .i64 0, .int .i64 0, .int .i64 0, .int .i64 0, .int .i64 0, .int .i64 0, .int .i64 0, .int .i64 0, .int .i64 0] 36)).alloc (.cells #[.int .i64 0] 3)).alloc (.cells #[.pointer (some ⟨p.mb, 0, none⟩)] 27)).alloc (.cells #[.int .i64 6] 3)).alloc (.cells #[.int .i64 who] 3)) := (((((((Below.refl _ _).alloc (Nat.le_refl _) _).alloc (by simp) _).alloc (by simp; omega) _).alloc (by simp; omega) _).alloc (by simp; omega) _).alloc (by simp; omega) _).alloc (by simp; omega) _
  have b1 : (((((((w.alloc (.cells #[.pointer (some ⟨p.mb, 0, none⟩)] 27)).alloc (.cells #[.int .i64 who] 3)).alloc (.cells #[.bool false, .int .i64 0, .int .i64 0, .int .i64 0, .int .i64 0, .bool false, .bool false, .int .i64 0, .int .i64 0, .int .i64 0, .int .i64 0, .int .i64 0, .int .i64 0, .int .i64 0, .int .i64 0, .int .i64 0, .int .i64 0, .int .i64 0] 36)).alloc (.cells #[.int .i64 0] 3)).alloc (.cells #[.pointer (some ⟨p.mb, 0, none⟩)] 27)).alloc (.cells #[.int .i64 6] 3)).alloc (.cells #[.int .i64 who] 3)).cell? ⟨w.heap.size + 1 + 1 + 1 + 1, 0, none⟩ = some (.pointer (some ⟨p.mb, 0, none⟩)) := by go_simp
  have b2 : (((((((w.alloc (.cells #[.pointer (some ⟨p.mb, 0, none⟩)] 27)).alloc (.cells #[.int .i64 who] 3)).alloc (.cells #[.bool false, .int .i64 0, .int .i64 0, .int .i64 0, .int .i64 0, .bool false, .bool false, .int .i64 0, .int .i64 0, .int .i64 0, .int .i64 0, .int .i64 0, .int .i64 0, .int .i64 0, .int .i64 0, .int .i64 0, .int .i64 0, .int .i64 0] 36)).alloc (.cells #[.int .i64 0] 3)).alloc (.cells #[.pointer (some ⟨p.mb, 0, none⟩)] 27)).alloc (.cells #[.int .i64 6] 3)).alloc (.cells #[.int .i64 who] 3)).cell? ⟨w.heap.size + 1 + 1 + 1 + 1 + 1, 0, none⟩ = some (.int .i64 6) := by go_simp
  have b3 : (((((((w.alloc (.cells #[.pointer (some ⟨p.mb, 0, none⟩)] 27)).alloc (.cells #[.int .i64 who] 3)).alloc (.cells #[.bool false, .int .i64 0, .int .i64 0, .int .i64 0, .int .i64 0, .bool false, .bool false, .int .i64 0, .int .i64 0, .int .i64 0, .int .i64 0, .int .i64 0, .int .i64 0, .int .i64 0, .int .i64 0, .int .i64 0, .int .i64 0, .int .i64 0] 36)).alloc (.cells #[.int .i64 0] 3)).alloc (.cells #[.pointer (some ⟨p.mb, 0, none⟩)] 27)).alloc (.cells #[.int .i64 6] 3)).alloc (.cells #[.int .i64 who] 3)).cell? ⟨w.heap.size + 1 + 1 + 1 + 1 + 1 + 1, 0, none⟩ = some (.int .i64 who) := by go_simp
  have r0 : (((((((w.alloc (.cells #[.pointer (some ⟨p.mb, 0, none⟩)] 27)).alloc (.cells #[.int .i64 who] 3)).alloc (.cells #[.bool false, .int .i64 0, .int .i64 0, .int .i64 0, .int .i64 0, .bool false, .bool false, .int .i64 0, .int .i64 0, .int .i64 0, .int .i64 0, .int .i64 0, .int .i64 0, .int .i64 0, .int .i64 0, .int .i64 0, .int .i64 0, .int .i64 0] 36)).alloc (.cells #[.int .i64 0] 3)).alloc (.cells #[.pointer (some ⟨p.mb, 0, none⟩)] 27)).alloc (.cells #[.int .i64 6] 3)).alloc (.cells #[.int .i64 who] 3)).cell? ⟨w.heap.size, 0, none⟩ = some (.pointer (some ⟨p.mb, 0, none⟩)) := by go_simp
  have r1 : (((((((w.alloc (.cells #[.pointer (some ⟨p.mb, 0, none⟩)] 27)).alloc (.cells #[.int .i64 who] 3)).alloc (.cells #[.bool false, .int .i64 0, .int .i64 0, .int .i64 0, .int .i64 0, .bool false, .bool false, .int .i64 0, .int .i64 0, .int .i64 0, .int .i64 0, .int .i64 0, .int .i64 0, .int .i64 0, .int .i64 0, .int .i64 0, .int .i64 0, .int .i64 0] 36)).alloc (.cells #[.int .i64 0] 3)).alloc (.cells #[.pointer (some ⟨p.mb, 0, none⟩)] 27)).alloc (.cells #[.int .i64 6] 3)).alloc (.cells #[.int .i64 who] 3)).cell? ⟨w.heap.size + 1, 0, none⟩ = some (.int .i64 who) := by go_simp
  have r2 : RowAt (((((((w.alloc (.cells #[.pointer (some ⟨p.mb, 0, none⟩)] 27)).alloc (.cells #[.int .i64 who] 3)).alloc (.cells #[.bool false, .int .i64 0, .int .i64 0, .int .i64 0, .int .i64 0, .bool false, .bool false, .int .i64 0, .int .i64 0, .int .i64 0, .int .i64 0, .int .i64 0, .int .i64 0, .int .i64 0, .int .i64 0, .int .i64 0, .int .i64 0, .int .i64 0] 36)).alloc (.cells #[.int .i64 0] 3)).alloc (.cells #[.pointer (some ⟨p.mb, 0, none⟩)] 27)).alloc (.cells #[.int .i64 6] 3)).alloc (.cells #[.int .i64 who] 3)) (w.heap.size + 1 + 1) ev0 36 := by
    have h0 : RowAt (((w.alloc (.cells #[.pointer (some ⟨p.mb, 0, none⟩)] 27)).alloc (.cells #[.int .i64 who] 3)).alloc (.cells ev0 36)) (w.heap.size + 1 + 1) ev0 36 := by have := RowAt.new ((w.alloc (.cells #[.pointer (some ⟨p.mb, 0, none⟩)] 27)).alloc (.cells #[.int .i64 who] 3)) ev0 36; simpa using this
    exact h0.below (((((Below.refl _ _).alloc (Nat.le_refl _) _).alloc (by simp) _).alloc (by simp <;> omega) _).alloc (by simp <;> omega) _)
  have r3 : (((((((w.alloc (.cells #[.pointer (some ⟨p.mb, 0, none⟩)] 27)).alloc (.cells #[.int .i64 who] 3)).alloc (.cells #[.bool false, .int .i64 0, .int .i64 0, .int .i64 0, .int .i64 0, .bool false, .bool false, .int .i64 0, .int .i64 0, .int .i64 0, .int .i64 0, .int .i64 0, .int .i64 0, .int .i64 0, .int .i64 0, .int .i64 0, .int .i64 0, .int .i64 0] 36)).alloc (.cells #[.int .i64 0] 3)).alloc (.cells #[.pointer (some ⟨p.mb, 0, none⟩)] 27)).alloc (.cells #[.int .i64 6] 3)).alloc (.cells #[.int .i64 who] 3)).cell? ⟨w.heap.size + 1 + 1 + 1, 0, none⟩ = some (.int .i64 0) := by go_simp
  have z3 : (((((((w.alloc (.cells #[.pointer (some ⟨p.mb, 0, none⟩)] 27)).alloc (.cells #[.int .i64 who] 3)).alloc (.cells #[.bool false, .int .i64 0, .int .i64 0, .int .i64 0, .int .i64 0, .bool false, .bool false, .int .i64 0, .int .i64 0, .int .i64 0, .int .i64 0, .int .i64 0, .int .i64 0, .int .i64 0, .int .i64 0, .int .i64 0, .int .i64 0, .int .i64 0] 36)).alloc (.cells #[.int .i64 0] 3)).alloc (.cells #[.pointer (some ⟨p.mb, 0, none⟩)] 27)).alloc (.cells #[.int .i64 6] 3)).alloc (.cells #[.int .i64 who] 3)).frozen? ⟨w.heap.size + 1 + 1 + 1, 0, none⟩ = false := by go_simp
  have hK0 : rpK w p m who 0 (((((((w.alloc (.cells #[.pointer (some ⟨p.mb, 0, none⟩)] 27)).alloc (.cells #[.int .i64 who] 3)).alloc (.cells #[.bool false, .int .i64 0, .int .i64 0, .int .i64 0, .int .i64 0, .bool false, .bool false, .int .i64 0, .int .i64 0, .int .i64 0, .int .i64 0, .int .i64 0, .int .i64 0, .int .i64 0, .int .i64 0, .int .i64 0, .int .i64 0, .int .i64 0] 36)).alloc (.cells #[.int .i64 0] 3)).alloc (.cells #[.pointer (some ⟨p.mb, 0, none⟩)] 27)).alloc (.cells #[.int .i64 6] 3)).alloc (.cells #[.int .i64 who] 3)) := ⟨by omega, ⟨p.rv, fun _ h => h, h.below hB⟩, Chg.ofBelow hB, r0, r1, r2, r3, z3⟩
  have hold : ∀ k, mfp p k → k < w.heap.size := fun k hk => h.lt hk
  have hp0 : 0 < w.heap.size := h.lt0
  have hms : p.mb ≠ p.sb := h.ne.2.1
  have hwn := h.wne
  try simp only [World.size_alloc]
  generalize hwq : (((((((w.alloc (.cells #[.pointer (some ⟨p.mb, 0, none⟩)] 27)).alloc (.cells #[.int .i64 who] 3)).alloc (.cells #[.bool false, .int .i64 0, .int .i64 0, .int .i64 0, .int .i64 0, .bool false, .bool false, .int .i64 0, .int .i64 0, .int .i64 0, .int .i64 0, .int .i64 0, .int .i64 0, .int .i64 0, .int .i64 0, .int .i64 0, .int .i64 0, .int .i64 0] 36)).alloc (.cells #[.int .i64 0] 3)).alloc (.cells #[.pointer (some ⟨p.mb, 0, none⟩)] 27)).alloc (.cells #[.int .i64 6] 3)).alloc (.cells #[.int .i64 who] 3)) = wq at *
  clear hwq
  have hsz : w.heap.size + 1 + 1 + 1 + 1 + 1 + 1 < wq.heap.size := World.block_lt_of_cell? _ _ b3
  have hwfp : ∀ k, World11.wfp p.wb p.rb p.rv k → k < w.heap.size := fun k hk => hold k (.inr (.inr (.inr (.inr (.inl hk)))))
  refine wpIn_rangeC (gf := 98) (lb := #[.pointer (some ⟨w.heap.size + 1 + 1 + 1 + 1, 0, none⟩), .pointer (some ⟨w.heap.size + 1 + 1 + 1 + 1 + 1, 0, none⟩), .pointer (some ⟨w.heap.size + 1 + 1 + 1 + 1 + 1 + 1, 0, none⟩)]) rfl
    (enters_of Tryz.func98 (by kernel_rfl) rfl) (encs := fun x : Nat => #[.int .i64 x]) (I := fI p.sb m.ss.length) (Ww := fun k => k = p.sb ∨ World11.wfp p.wb p.rb p.rv k ∨ k = w.heap.size + 1 + 1 + 1) (Wr := fun _ => False)
    (Skips := fSkips p.sb m.ss.length 6 who) (Yields := fYields p.sb m.ss.length 6 who) (Done := fun i _ => i = m.ss.length) (s0 := 0)
    ?hps ?hRd ?hseq (rpK w p m who) (fun _ _ => False) ?hKI ?hKs ?hKk ?hKt (fun _ _ _ h _ => h) ?hYt (fun _ _ _ h _ => h) ?hYc ?h0 ?round ?done ?stop
  case hps => intro x; rfl
  case hKI =>
    intro s W h
    obtain ⟨rv, h1, h2⟩ := h.at'
    exact ⟨_, rpN_len _ _ _, h2.slots⟩
  case hRd =>
    rintro k ((rfl | h | rfl) | hk)
    · omega
    · have := hwfp _ h; omega
    · omega
    · exact hk.elim
  case hseq =>
    intro W1 hT
    refine fits_seq _ _ _ p.mb p.sb m.ss.length 6 who _ W1 (by simp) (by omega) (hT.cell b1) (hT.cell b2) (hT.cell b3) (hT.cell (Field.bkeep hB h.hdr)) ?_ ?_ ?_ ?_ (fun k hk => ?_)
    · rintro (e | e | e)
      · omega
      · have := hwfp _ e; omega
      · omega
    · rintro (e | e | e)
      · omega
      · have := hwfp _ e; omega
      · omega
    · rintro (e | e | e)
      · omega
      · have := hwfp _ e; omega
      · omega
    · rintro (e | e | e)
      · omega
      · exact hwn.2.1 e
      · omega
    · have := hT.size
      rcases hk with rfl | hk | rfl
      · omega
      · have := hwfp _ hk; omega
      · omega
  case hKs => exact fun s W W' h hc => h.later (below_false hc)
  case hKk =>
    rintro s s' W hk ⟨q1, rfl, ss', e1, e2, e3⟩
    obtain ⟨t, ht⟩ : ∃ t, (rpN who s (m.ss, m.ahead, 0)).1[s]? = some t := ⟨_, List.getElem?_eq_getElem (by rw [rpN_len]; exact q1)⟩
    obtain ⟨t', ht'⟩ : ∃ t', ss'[s]? = some t' := ⟨_, List.getElem?_eq_getElem (by omega)⟩
    obtain ⟨rv, hrv, hat⟩ := hk.at'
    have hf := e3 _ ht'
    rw [← slots_one hat.slots e2 ht ht'] at hf
    have hn : rpN who (s + 1) (m.ss, m.ahead, 0) = rpN who s (m.ss, m.ahead, 0) := by
      rw [rp_next ht, rpOne_no hf]; simp only; rw [set_same ht]
    exact ⟨by omega, ⟨rv, hrv, by rw [hn]; exact hat⟩, hk.chg, hk.c0, hk.c1, hk.c2, by rw [hn]; exact hk.c3, hk.f3⟩
  case hKt =>
    rintro s W W' hk ht
    obtain ⟨rv, hrv, hat⟩ := hk.at'
    refine ⟨hk.le, ⟨rv, hrv, hat.turned ht (fun k h => ?_) (by omega)⟩, ht.chg hk.chg (by omega), ht.cell hk.c0, ht.cell hk.c1, ?_, ht.cell hk.c3, (ht.frozen hk.c3).trans hk.f3⟩
    · have := hold k (by
        rcases h with h | h | h | h | (h | h | h) | h
        · exact .inl h
        · exact .inr (.inl h)
        · exact .inr (.inr (.inl h))
        · exact .inr (.inr (.inr (.inl h)))
        · exact .inr (.inr (.inr (.inr (.inl (.inl h)))))
        · exact .inr (.inr (.inr (.inr (.inl (.inr (.inl h))))))
        · exact .inr (.inr (.inr (.inr (.inl (.inr (.inr (hrv _ h)))))))
        · exact .inr (.inr (.inr (.inr (.inr h)))))
      omega
    · exact (ht.cells _ _ hk.c2 rfl)
  case hYt =>
    rintro s x s' W W' ⟨q1, q2, q3, ss', e1, e2, e3⟩ ht
    exact ⟨q1, q2, q3, ss', e1, slots_turn e2 ht, e3⟩
  case hYc =>
    rintro s x s' W W' ⟨q1, q2, q3, ss', e1, e2, e3⟩ hc
    exact ⟨q1, q2, q3, ss', e1, e2.stable (hc.block p.sb (e2.lt (by omega)) id), e3⟩
  case h0 => exact hK0
  case round =>
    intro L s x s' W hL hLW hk hy
    gi_wp2
    refine ⟨Chg.refl _ _, ?_⟩
    rintro W2 hT2 - hk2 ⟨q1, rfl, rfl, ss', e1, e2, e3⟩
    obtain ⟨t, ht⟩ : ∃ t, (rpN who x (m.ss, m.ahead, 0)).1[x]? = some t := ⟨_, List.getElem?_eq_getElem (by rw [rpN_len]; exact q1)⟩
    obtain ⟨t', ht'⟩ : ∃ t', ss'[x]? = some t' := ⟨_, List.getElem?_eq_getElem (by omega)⟩
    obtain ⟨rv, hrv, hAT⟩ := hk2.at'
    have hf := e3 _ ht'
    rw [← slots_one hAT.slots e2 ht ht'] at hf
    have HN := Lib.hid (rp_next ht)
    have hcnt := rpN_cnt who x (m.ss, m.ahead, 0)
    have hCH := hk2.chg
    have hC : rpC w p who (rpN who x (m.ss, m.ahead, 0)).2.2 W2 := ⟨hk2.c0, hk2.c1, hk2.c2, hk2.c3, hk2.f3⟩
    have hltW : w.heap.size + 1 + 1 + 1 < W2.heap.size := World.block_lt_of_cell? _ _ hk2.c3
    clear ht' e1 e2 e3 hk2 hT2 hy hk hLW hL r0 r1 r2 r3 z3 b1 b2 b3 hK0 hB
    have HLE : RowKit.Hid (x + 1 ≤ m.ss.length) := Lib.hid q1
    generalize rpN who x (m.ss, m.ahead, 0) = r at *
    obtain ⟨rl, ra, rn⟩ := r
    have HN2 := Lib.hid HN.out
    simp only at HN2 hAT hC ht hcnt
    clear HN
    have hle : rl.length = m.ss.length := by have h1 := hAT.ok.nss; have h2 := h.ok.nss; simp only at h1; omega
    have hA2 : MAt W2 { p with rv := rv } { m with ss := rl, ahead := ra } := hAT
    have k5 := hAT.hd.c5
    have k10 := hAT.hd.c10
    have dd := hAT.slots.get ht
    have g0 := hC.c0
    have g1 := hC.c1
    simp only at k5 k10 dd
    rw [hle] at k5
    have hlt : x < m.ss.length := q1
    have bb0 : (0 : Int) ≤ (x : Int) := by omega
    have bb1 : (x : Int) < (m.ss.length : Int) := by omega
    have bb2 : (x : Int) ≤ (m.ss.length : Int) - 1 := by omega
    have HT := Lib.hid ht
    have HF := Lib.hid hf
    clear ht hf
    obtain ⟨s0, s1, s2, s3, s4, s5, s6, s7, s8⟩ := t
    simp only at dd
    obtain ⟨d0, d1, d2, d3, d4, d5, d6, d7, d8⟩ := dd
    have ga : ∀ o, (W2.alloc o).cell? ⟨w.heap.size, 0, none⟩ = some (.pointer (some ⟨p.mb, 0, none⟩)) := fun o => (World.cell?_alloc_lt _ _ _ (World.block_lt_of_cell? _ _ g0)).trans g0
    have ka : ∀ o, (W2.alloc o).cell? ⟨p.mb, 10, none⟩ = some (.pointer (some ⟨p.wb, 0, none⟩)) := fun o => (World.cell?_alloc_lt _ _ _ (World.block_lt_of_cell? _ _ k10)).trans k10
    gi_wp2_with fail
    refine ⟨trivial, ?_⟩
    gi_at_call 97
    have hbs : Below W2.heap.size W2 (W2.alloc (.cells #[.int .i64 s0, .int .i64 s1, .int .i64 s2, .bool s3, .bool s4, .int .i64 s5, .int .i64 s6, .int .i64 s7, .int .i64 s8] 59)) := (Below.refl _ _).alloc (Nat.le_refl _) _
    have qs : RowAt (W2.alloc (.cells #[.int .i64 s0, .int .i64 s1, .int .i64 s2, .bool s3, .bool s4, .int .i64 s5, .int .i64 s6, .int .i64 s7, .int .i64 s8] 59)) W2.heap.size #[.int .i64 s0, .int .i64 s1, .int .i64 s2, .bool s3, .bool s4, .int .i64 s5, .int .i64 s6, .int .i64 s7, .int .i64 s8] 59 := RowAt.new _ _ _
    have hC3 := hC.below hbs
    have hA3 := hA2.below hbs
    have hCH3 := hCH.trans (Chg.ofBelow (F := fun _ => False) hbs) (fun _ _ h => h.elim)
    have hKB3 : Chg (fun k => k = p.sb ∨ World11.wfp p.wb p.rb p.rv k ∨ k = w.heap.size + 1 + 1 + 1) W2 (W2.alloc (.cells #[.int .i64 s0, .int .i64 s1, .int .i64 s2, .bool s3, .bool s4, .int .i64 s5, .int .i64 s6, .int .i64 s7, .int .i64 s8] 59)) := Chg.ofBelow hbs
    have hlt3 : W2.heap.size < (W2.alloc (.cells #[.int .i64 s0, .int .i64 s1, .int .i64 s2, .bool s3, .bool s4, .int .i64 s5, .int .i64 s6, .int .i64 s7, .int .i64 s8] 59)).heap.size := by simp
    clear hbs ga ka d0 d1 d2 d3 d4 d5 d6 d7 d8 k5 k10 hA2 hAT hC hCH g0 g1
    generalize hwz : W2.alloc (.cells #[.int .i64 s0, .int .i64 s1, .int .i64 s2, .bool s3, .bool s4, .int .i64 s5, .int .i64 s6, .int .i64 s7, .int .i64 s8] 59) = w3 at *
    clear hwz
    refine (CallsIn.inRound L (callsIn_wide.2 (m_wnextW hA3))).mono ?_
    rintro e w4 ⟨rfl, rv4, hA4, hF4, hC4⟩
    have hsub : ∀ k, World11.wfp p.wb p.rb rv k → World11.wfp p.wb p.rb p.rv k := fun k hk => by
      rcases hk with h | h | h
      · exact .inl h
      · exact .inr (.inl h)
      · exact .inr (.inr (hrv _ h))
    have hF4' : ∀ k, Fp rv4 k → Fp p.rv k := fun k hk => hrv _ (hF4 k hk)
    simp only at hC4 hA4
    have hC4' : Chg (World11.wfp p.wb p.rb p.rv) w3 w4 := hC4.mono (fun k _ hk => hsub k hk)
    have hCC4 := hC3.chg hC4' (fun k hk => hwfp k hk)
    have hCH4 := hCH3.trans hC4' (fun _ _ h => .inr (.inl h))
    have hKB4 := hKB3.trans hC4' (fun _ _ h => .inr (.inl h))
    have qs4 : RowAt w4 W2.heap.size #[.int .i64 s0, .int .i64 s1, .int .i64 s2, .bool s3, .bool s4, .int .i64 s5, .int .i64 s6, .int .i64 s7, .int .i64 s8] 59 := qs.chg hC4' (fun e => by have := hwfp _ e; omega)
    have hgd : M.good { m with ss := rl, ahead := ra } = ra.headD true := rfl
    have hA4' : MAt w4 { p with rv := rv4 } { m with ss := rl, ahead := ra.tail } := hA4
    have htn := m_turn' hA4' x 10 x 10 who 0 _ HT.out rfl rfl (by simp [Mod.Done])
    have hem := m_empty hA4' x x _ HT.out rfl
    have htl : (M.turn { m with ss := rl, ahead := ra.tail } x 10 who 0) = { m with ss := rl.set x (step ⟨s0, s1, s2, s3, s4, s5, s6, s7, s8⟩ 10 who 0), ahead := ra.tail } := by
      unfold M.turn turnL
      simp only [HT.out]
    have hel : (M.empty { m with ss := rl, ahead := ra.tail } x) = { m with ss := rl.set x (emptied ⟨s0, s1, s2, s3, s4, s5, s6, s7, s8⟩), ahead := ra.tail } := by
      unfold M.empty
      rw [M.slot_of (m := { m with ss := rl, ahead := ra.tail }) HT.out]
    rw [htl] at htn
    rw [hel] at hem
    rw [hgd]
    have hM := fun h => rpOne_mark (n := rn) (a := ra) HF.out h
    have hG := fun h => rpOne_gone (n := rn) (a := ra) HF.out h
    simp only at hM hG
    have hlt4 : W2.heap.size < w4.heap.size := Nat.lt_of_lt_of_le hlt3 hC4'.size
    have x3 : w4.cell? ⟨W2.heap.size, 3, none⟩ = some (.bool s3) := qs4.cell 3
    have x4 : w4.cell? ⟨W2.heap.size, 4, none⟩ = some (.bool s4) := qs4.cell 4
    have g0 := hCC4.c0
    have g1 := hCC4.c1
    clear htl hel hgd hA4 hA4' hC4 hA3 hCH3 hKB3 qs qs4 hC3 hC4'
    generalize hge : ra.headD true = gd at *
    clear hge
    have hone : (gd = true ∧ s4 = false ∧ s3 = false) ∨ (gd && (!s4 && !s3)) = false := by cases gd <;> cases s4 <;> cases s3 <;> simp
    rcases hone with ⟨rfl, rfl, rfl⟩ | hno
    · have hn := Lib.hid (hM rfl)
      clear hM hG hem
      have HN3 : RowKit.Hid (rpN who (x + 1) (m.ss, m.ahead, 0) = (rl.set x (step ⟨s0, s1, s2, false, false, s5, s6, s7, s8⟩ 10 who 0), ra.tail, rn)) := Lib.hid (by rw [HN2.out, hn.out])
      gi_wp2_with fail
      refine ⟨trivial, ?_⟩
      gi_at_call 63
      refine (CallsIn.inRound L (callsIn_wide.2 htn)).mono ?_
      rintro e w6 ⟨rfl, h6, hc6⟩
      try simp only at hc6
      have hC6 := hCC4.chg hc6 (fun k e => by omega)
      have HFin : RowKit.Hid (KeepsB (fun k => k = p.sb ∨ World11.wfp p.wb p.rb p.rv k ∨ k = w.heap.size + 1 + 1 + 1) W2 w6 ∧ rpK w p m who (x + 1) w6) :=
        Lib.hid ⟨KeepsB.of_chg (hKB4.trans hc6 (fun _ _ h => .inl h)) (fun _ _ h => h), rpK_mk HN3.out HLE.out rv4 hF4' h6 (hCH4.trans hc6 (fun _ _ h => .inl h)) hC6.c0 hC6.c1 hC6.c2 hC6.c3 hC6.f3⟩
      clear h6 hc6 hC6 htn hCC4 hCH4 hKB4 x3 x4 g0 g1
      gi_wp2_with fail
      exact HFin.out
    · have hn := Lib.hid (hG hno)
      clear hM hG htn
      have HN3 : RowKit.Hid (rpN who (x + 1) (m.ss, m.ahead, 0) = (rl.set x (emptied ⟨s0, s1, s2, s3, s4, s5, s6, s7, s8⟩), ra.tail, rn + 1)) := Lib.hid (by rw [HN2.out, hn.out])
      have hb0 : 0 ≤ rn := by omega
      have hb1 : rn ≤ 1000 := by omega
      have hfin : ∀ w6, MAt w6 { p with rv := rv4 } { m with ss := rl.set x (emptied ⟨s0, s1, s2, s3, s4, s5, s6, s7, s8⟩), ahead := ra.tail } → Chg (fun k => k = p.sb) w4 w6 →
          w6.cell? ⟨w.heap.size + 1 + 1 + 1, 0, none⟩ = some (.int .i64 rn) ∧ w6.frozen? ⟨w.heap.size + 1 + 1 + 1, 0, none⟩ = false ∧ (KeepsB (fun k => k = p.sb ∨ World11.wfp p.wb p.rb p.rv k ∨ k = w.heap.size + 1 + 1 + 1) W2 (w6.setCell ⟨w.heap.size + 1 + 1 + 1, 0, none⟩ (.int .i64 (rn + 1))) ∧ rpK w p m who (x + 1) (w6.setCell ⟨w.heap.size + 1 + 1 + 1, 0, none⟩ (.int .i64 (rn + 1)))) := by
        intro w6 h6 hc6
        have hC6 := hCC4.chg hc6 (fun k e => by omega)
        have hgg : ¬ mfp { p with rv := rv4 } (w.heap.size + 1 + 1 + 1) := fun hm => by
          have := hold (w.heap.size + 1 + 1 + 1) (by
            rcases hm with h | h | h | h | (h | h | h) | h
            · exact .inl h
            · exact .inr (.inl h)
            · exact .inr (.inr (.inl h))
            · exact .inr (.inr (.inr (.inl h)))
            · exact .inr (.inr (.inr (.inr (.inl (.inl h)))))
            · exact .inr (.inr (.inr (.inr (.inl (.inr (.inl h))))))
            · exact .inr (.inr (.inr (.inr (.inl (.inr (.inr (hF4' _ h)))))))
            · exact .inr (.inr (.inr (.inr (.inr h)))))
          omega
        have hA7 : MAt (w6.setCell ⟨w.heap.size + 1 + 1 + 1, 0, none⟩ (.int .i64 (rn + 1))) { p with rv := rv4 } { m with ss := rl.set x (emptied ⟨s0, s1, s2, s3, s4, s5, s6, s7, s8⟩), ahead := ra.tail } :=
          h6.chg (F := fun k => k = w.heap.size + 1 + 1 + 1) ((Chg.refl _ _).setCell _ _ (fun _ => rfl)) (fun k hk e => hgg (e ▸ hk)) (by omega)
        refine ⟨hC6.c3, hC6.f3, KeepsB.of_chg ((hKB4.trans hc6 (fun _ _ h => .inl h)).setCell _ _ (fun _ => .inr (.inr rfl))) (fun _ _ h => h), rpK_mk HN3.out HLE.out rv4 hF4' hA7 ((hCH4.trans hc6 (fun _ _ h => .inl h)).setCell _ _ (fun h => by simp at h; omega)) ?_ ?_ ?_ ?_ ?_⟩
        · exact (World.cell?_setCell_other _ _ _ _ (by simp <;> omega)).trans hC6.c0
        · exact (World.cell?_setCell_other _ _ _ _ (by simp <;> omega)).trans hC6.c1
        · exact hC6.c2.chg (F := fun k => k = w.heap.size + 1 + 1 + 1) ((Chg.refl _ _).setCell _ _ (fun _ => rfl)) (by omega)
        · exact World.cell?_setCell_same _ _ _ hC6.c3
        · simp [hC6.f3]
      clear hCC4 hCH4 hKB4
      cases gd
      rotate_left
      · cases s4
        · cases s3
          · cases hno
          · gi_wp2_with fail
            refine ⟨trivial, ?_⟩
            gi_at_call 82
            refine (CallsIn.inRound L (callsIn_wide.2 hem)).mono ?_
            rintro e w6 ⟨⟨v6, rfl⟩, h6, hc6⟩
            obtain ⟨y3, yf, HFin⟩ := hfin w6 h6 hc6
            have HFin := Lib.hid HFin
            clear hem h6 hc6 hfin x3 x4 g0 g1
            gi_wp2_with fail
            exact HFin.out
        · gi_wp2_with fail
          refine ⟨trivial, ?_⟩
          gi_at_call 82
          refine (CallsIn.inRound L (callsIn_wide.2 hem)).mono ?_
          rintro e w6 ⟨⟨v6, rfl⟩, h6, hc6⟩
          obtain ⟨y3, yf, HFin⟩ := hfin w6 h6 hc6
          have HFin := Lib.hid HFin
          clear hem h6 hc6 hfin x3 x4 g0 g1
          gi_wp2_with fail
          exact HFin.out
      · gi_wp2_with fail
        refine ⟨trivial, ?_⟩
        gi_at_call 82
        refine (CallsIn.inRound L (callsIn_wide.2 hem)).mono ?_
        rintro e w6 ⟨⟨v6, rfl⟩, h6, hc6⟩
        obtain ⟨y3, yf, HFin⟩ := hfin w6 h6 hc6
        have HFin := Lib.hid HFin
        clear hem h6 hc6 hfin x3 x4 g0 g1
        gi_wp2_with fail
        exact HFin.out
  case done =>
    rintro D s W hD rfl hk hKD
    obtain ⟨rv, hrv, hat⟩ := hk.at'
    have hcnt := rpN_cnt who m.ss.length (m.ss, m.ahead, 0)
    have hch := hk.chg
    have c2 := hk.c2
    have c3 := hk.c3
    rw [rpN_all] at hat c3 hcnt
    clear hk
    have hRR : m.reap who = ({ Ev.zero with slot := (M.reapL who m.ahead 0 m.ss).2.2 }, { m with ss := (M.reapL who m.ahead 0 m.ss).1, ahead := (M.reapL who m.ahead 0 m.ss).2.1 }) := rfl
    generalize M.reapL who m.ahead 0 m.ss = R at *
    obtain ⟨rl, ra, rn⟩ := R
    simp only at *
    have hltD : w.heap.size + 1 + 1 + 1 < W.heap.size := World.block_lt_of_cell? _ _ c3
    have hmm : ∀ k, mfp { p with rv := rv } k → k < w.heap.size := fun k h => hold k (by
      rcases h with h | h | h | h | (h | h | h) | h
      · exact .inl h
      · exact .inr (.inl h)
      · exact .inr (.inr (.inl h))
      · exact .inr (.inr (.inr (.inl h)))
      · exact .inr (.inr (.inr (.inr (.inl (.inl h)))))
      · exact .inr (.inr (.inr (.inr (.inl (.inr (.inl h))))))
      · exact .inr (.inr (.inr (.inr (.inl (.inr (.inr (hrv _ h)))))))
      · exact .inr (.inr (.inr (.inr (.inr h)))))
    have hrow := c2.set ({ Ev.zero with slot := rn } : Ev).cells
    have hcs : Chg (fun k => k = w.heap.size + 1 + 1) W (W.setRow (w.heap.size + 1 + 1) ({ Ev.zero with slot := rn } : Ev).cells) := chg_setRow (Chg.refl _ _) _ _ (fun _ => rfl)
    have hat2 := hat.chg hcs (fun k hk e => by have := hmm k hk; omega) (by omega)
    have hch2 := hch.trans hcs (fun k _ e => .inr (.inr (by omega)))
    have hKD2 := (hcs.block D (Array.getElem?_eq_some_iff.1 hKD).1 (by omega)).trans hKD
    have hT : Turn wq.heap.size (W.setRow (w.heap.size + 1 + 1) ({ Ev.zero with slot := rn } : Ev).cells) ((W.setRow (w.heap.size + 1 + 1) ({ Ev.zero with slot := rn } : Ev).cells).putObj D (.deferred none)) := (Turn.refl _ _).putObj _ hD hKD2 rfl
    have hat3 := hat2.turned hT (fun k h => by have := hmm k h; omega) (by omega)
    have hrow3 := hT.cells _ _ hrow rfl
    have hch3 : Chg (mfp p) w ((W.setRow (w.heap.size + 1 + 1) ({ Ev.zero with slot := rn } : Ev).cells).putObj D (.deferred none)) := by
      have := hT.chg hch2 (by omega)
      exact ⟨this.os, this.tape, this.output, this.size, fun k hk hf => this.block k hk (fun h => by
        rcases h with h | h | h
        · exact hf (.inr (.inl h))
        · exact hf (.inr (.inr (.inr (.inr (.inl h)))))
        · omega)⟩
    have HF := Lib.hid (And.intro hrow3 (And.intro hKD2 (And.intro hat3 hch3)))
    have HRR := Lib.hid hRR
    clear hat2 hch2 hKD2 hT hat3 hrow3 hch3 hrow hcs hRR hat hch
    gi_upto_region 9 with (fail)
    refine wpIn_wide.2 ?_
    refine wp_region_lit ?_
    refine RowL.wpList_run rfl (.int .i64 rn) (by go_simp; try rfl) ?_
    refine RowL.wpList_run rfl ({ Ev.zero with slot := rn } : Ev).val (by go_simp; try rfl) ?_
    refine RowL.wpList_store_row rfl 36 (.tmp 4) (.tmp 44) rfl (w.heap.size + 1 + 1) _ ev0 ({ Ev.zero with slot := rn } : Ev).cells rfl rfl c2 rfl (by kernel_rfl) (ev_one _) ?_
    go_wp2_with fail
    gi_wp2
    obtain ⟨hrow3, hKD2, hat3, hch3⟩ := HF.out
    refine ⟨by simp, .inl ⟨_, _, rfl, run_takeDeferred hKD2, ?_⟩⟩
    rw [HRR.out]
    exact ⟨_, results_row rfl _ _ (w.heap.size + 1 + 1) _ _ _ rfl hrow3 Tryz.underlying36 rfl (by kernel_rfl), rfl, p.lv, rv, hat3, fun _ h => .inl h, fun k h => .inl (hrv k h), hch3⟩
  case stop => exact fun D c W hD h hK => h.elim
end Go.Proofs.YtpmkgddjgebojaaGreatDoor.Mod

namespace Go.Proofs.YtpmkgddjgebojaaGreatDoor.RowL
set_option linter.unusedVariables false
set_option linter.unusedSimpArgs false
open Go.RowKit Hp
section
variable {P : Program} {ops : Array Oper} {Q : Exit → Act → World → Prop} {md : Region.Mode} {S : World → Prop}
/-- Whatever comes up next keeps the invariant; behind the last one the goal holds. -/
theorem wpAnyH_inv {a : Act} (Inv : Nat → Array Bool → World → Prop)
    (hstep : ∀ fuel listed w, Inv fuel listed w → ∀ i ∈ Region.ready md ops listed, ∃ f, fuel = f + 1 ∧ wpOp P ops Q i (fun a' w' => a' = a ∧ S w' ∧ Inv f (listed.setIfInBounds i true) w') a w)
    (hdone : ∀ fuel listed w, Inv fuel listed w → Region.ready md ops listed = [] → Q .normal a w) :
    ∀ fuel listed w, Inv fuel listed w → wpAnyH P md ops Q S fuel listed a w := by
  intro fuel
  induction fuel with
  | zero =>
    intro listed w h
    have hr : Region.ready md ops listed = [] := by
      cases hx : Region.ready md ops listed with
      | nil => rfl
      | cons i l => obtain ⟨f, hf, _⟩ := hstep 0 listed w h i (by rw [hx]; simp); omega
    exact ⟨hr, hdone _ _ _ h hr⟩
  | succ fuel ih =>
    intro listed w h
    refine ⟨hdone _ _ _ h, fun i hi => ?_⟩
    obtain ⟨f, hf, hw⟩ := hstep _ _ _ h i hi
    obtain rfl : fuel = f := by omega
    refine wpOp_mono (fun a' w' h' => ?_) hw
    obtain ⟨e, hS, hI⟩ := h'
    subst e
    exact ⟨hS, ih _ _ hI⟩
/-- A store of one cell. -/
theorem wpOp_store_cell {i : Nat} {a : Act} {w : World} {K : Act → World → Prop} (T : TypeId) (x y : Operand)
    (ho : (ops[i]?).map (fun o => (o.dst, o.op, o.guard)) = some (none, Op.store T x y, none)) (g off : Nat) (v : Value) (hx : a.eval x = .pointer (some ⟨g, off, none⟩)) (hy : a.eval y = v)
    (hv : ∀ u, (Instr.storeAt T (.pointer (some ⟨g, off, none⟩)) v).run P w = .ok u (w.setCell ⟨g, off, none⟩ v))
    (h : K a (w.setCell ⟨g, off, none⟩ v)) : wpOp P ops Q i K a w := by
  obtain ⟨o, h1o, h2o, h3o, h4o⟩ := op_of ho
  refine wpOp_step h1o fun K hK => ?_
  rw [if_pos (by simp [Region.wanted, h4o])]
  unfold Oper.wp execOp
  simp only [h3o, hx, hy, Sem.run_bind, Sem.run_pure, hv (), Result.andThen_ok, Oper.upon_skip]
  rw [h2o]
  exact hK _ _ h
/-- A store of some cells. -/
theorem wpOp_store_mid {i : Nat} {a : Act} {w : World} {K : Act → World → Prop} (T : TypeId) (x y : Operand)
    (ho : (ops[i]?).map (fun o => (o.dst, o.op, o.guard)) = some (none, Op.store T x y, none))
    (g off : Nat) (cs : Array Value) (hx : a.eval x = .pointer (some ⟨g, off, none⟩)) (hy : a.eval y = .agg cs)
    (ht : w.there g off cs.size) (hi : (P.info? T).map (·.size) = some cs.size) (h1 : cs.all (·.oneCell') = true)
    (h : K a (w.setCells g off cs.toList)) : wpOp P ops Q i K a w := by
  obtain ⟨o, h1o, h2o, h3o, h4o⟩ := op_of ho
  refine wpOp_step h1o fun K hK => ?_
  rw [if_pos (by simp [Region.wanted, h4o])]
  refine wp_store_mid T x y h3o g off cs hx hy ht hi h1 ?_
  rw [h2o]
  exact hK _ _ h
theorem ready_no {l : List Nat} (h : l = []) (hc : l.isEmpty = false) : False := by subst h; cases hc
/-- What may come up has not come up. -/
theorem ready_open {i : Nat} {listed : Array Bool} (h : i ∈ Region.ready md ops listed) : listed.getD i true = false := (mem_ready.1 h).1
end
/-- A piece of code that does not leave. -/
theorem wp_normal {P : Program} {c : Code} {a : Act} {w : World} {Q : Exit → Act → World → Prop} (h : c.wp P (fun e a' w' => e = Exit.normal ∧ Q Exit.normal a' w') a w) : c.wp P Q a w :=
  Code.wp_mono (fun e a' w' hh => by obtain ⟨rfl, h2⟩ := hh; exact h2) h
end Go.Proofs.YtpmkgddjgebojaaGreatDoor.RowL

namespace Go.Proofs.YtpmkgddjgebojaaGreatDoor.Mod
set_option linter.unusedVariables false
set_option linter.unusedSimpArgs false
open Go.RowKit Go.Shelf Hp Slot RowL Life Rng
attribute [local go_sem] Oper.semAt_some

def swOne (c : Int) (s : S) : S := if Find.fits s 4 c then emptied s else s
def swN (c : Int) : Nat → List S → List S
  | 0, l => l
  | i + 1, l => match (swN c i l)[i]? with | some s => (swN c i l).set i (swOne c s) | none => swN c i l
theorem swN_len (c : Int) : ∀ (i : Nat) (l : List S), (swN c i l).length = l.length
  | 0, _ => rfl
  | i + 1, l => by
    have := swN_len c i l
    rw [swN]; split <;> simp [this]
theorem swN_cons (c : Int) (s : S) : ∀ (i : Nat) (l : List S), swN c (i + 1) (s :: l) = swOne c s :: swN c i l
  | 0, l => by simp [swN]
  | i + 1, l => by
    rw [swN, swN_cons c s i l, swN]
    simp only [List.getElem?_cons_succ]
    cases (swN c i l)[i]? <;> simp
theorem swN_all (c : Int) : ∀ l : List S, swN c l.length l = l.map (swOne c)
  | [] => rfl
  | s :: l => by rw [List.length_cons, swN_cons, swN_all c l]; rfl
theorem sw_next {c : Int} {i : Nat} {l : List S} {t : S} (ht : (swN c i l)[i]? = some t) : swN c (i + 1) l = (swN c i l).set i (swOne c t) := by rw [swN, ht]

/-- What is left to be done, of a line, slots, and workers. -/
def fin (c : Int) (l : List Int) (ss : List S) (ks : List Wk) : List S × List Wk × List Int := if c = 0 then M.grantL l ss ks else (ss, ks, l)
theorem tidy_fin (m : M) : m.tidy = { m with ss := (fin m.closed m.line m.sweep.ss m.ks).1, ks := (fin m.closed m.line m.sweep.ss m.ks).2.1, line := (fin m.closed m.line m.sweep.ss m.ks).2.2 } := by
  unfold M.tidy M.grant fin
  by_cases hc : m.closed = 0
  · rw [if_pos (show m.sweep.closed = 0 from hc), if_pos hc]; rfl
  · rw [if_neg (show ¬ m.sweep.closed = 0 from hc), if_neg hc]; rfl

/-- Behind i slots. -/
structure swK (w : World) (p : Pl) (m : M) (i : Nat) (W : World) : Prop where
  le : i ≤ m.ss.length
  at' : MAt W p { m with ss := swN m.closed i m.ss }
  chg : Chg (fun k => k = p.sb ∨ w.heap.size ≤ k) w W
  c0 : W.cell? ⟨w.heap.size, 0, none⟩ = some (.pointer (some ⟨p.mb, 0, none⟩))
theorem swK.later {w : World} {p : Pl} {m : M} {i : Nat} {W W' : World} (h : swK w p m i W) (hb : Below W.heap.size W W') : swK w p m i W' :=
  ⟨h.le, h.at'.below hb, h.chg.trans (Chg.ofBelow (F := fun _ => False) hb) (fun _ _ h => h.elim), Field.bkeep hb h.c0⟩
theorem own_tail_line {w : World} {g off n c : Nat} {x : Int} {l : List Int} (h : OwnS w (.slice (some ⟨g, off, none⟩) (n + 1) c) (n + 1) 1 ((x :: l).map (Value.int .i64))) (hn : l.length = n) :
    OwnS w (.slice (if c = 1 then some ⟨g, off, none⟩ else some ⟨g, off + 1, none⟩) n (c - 1)) n 1 (l.map (Value.int .i64)) := by
  obtain ⟨hl, h | ⟨g', off', c', e, h1, h3, h4, h5, h6, h7⟩⟩ := h
  · cases h.1
  · cases e
    refine ⟨by simp [hn], ?_⟩
    by_cases hc : c = 1
    · rw [if_pos hc]
      obtain rfl : n = 0 := by omega
      obtain rfl : l = [] := List.eq_nil_of_length_eq_zero hn
      exact .inr ⟨g, off, c - 1, rfl, by omega, by omega, h4, fun j hj => by omega, fun j hj => by omega, fun j u hu => by simp at hu⟩
    · rw [if_neg hc]
      refine .inr ⟨g, off + 1, c - 1, rfl, by omega, by omega, h4, fun j hj => ?_, fun j hj => ?_, fun j u hu => ?_⟩
      · rw [show off + 1 + j = off + (j + 1) by omega]; exact h5 _ (by omega)
      · rw [show off + 1 + j = off + (j + 1) by omega]; exact h6 _ (by omega)
      · rw [show off + 1 + j = off + (j + 1) by omega]; exact h7 _ _ (by simpa using hu)
/-- Where some are granted a slot already. -/
def tdR (w : World) (p : Pl) (m : M) (D k : Nat) (wr : World) : Prop :=
  ∃ (l : List Int) (ss : List S) (ks : List Wk) (lv : Value), l.length = k ∧ MAt wr { p with lv := lv } { m with ss := ss, ks := ks, line := l } ∧ (∀ j, Fp lv j → Fp p.lv j) ∧ wr.cell? ⟨w.heap.size, 0, none⟩ = some (.pointer (some ⟨p.mb, 0, none⟩)) ∧
    wr.heap[D]? = some (.deferred (some [])) ∧ Chg (fun k => mfp p k ∨ w.heap.size ≤ k) w wr ∧ fin m.closed l ss ks = fin m.closed m.line m.sweep.ss m.ks
theorem td_fin {w wr : World} {p : Pl} {m : M} {D : Nat} {l : List Int} {ss : List S} {ks : List Wk} {lv : Value} (hA : MAt wr { p with lv := lv } { m with ss := ss, ks := ks, line := l }) (hlv : ∀ j, Fp lv j → Fp p.lv j)
    (hch : Chg (fun k => mfp p k ∨ w.heap.size ≤ k) w wr) (hD : w.heap.size ≤ D) (hKD : wr.heap[D]? = some (.deferred (some []))) (hfin : fin m.closed l ss ks = fin m.closed m.line m.sweep.ss m.ks) (he : fin m.closed l ss ks = (ss, ks, l))
    (hold : ∀ k, mfp p k → k < w.heap.size) (hp0 : 0 < w.heap.size) (v : Value) : MPost w p v m.tidy (.returned v) (wr.putObj D (.deferred none)) := by
  have hT : Turn w.heap.size wr (wr.putObj D (.deferred none)) := (Turn.refl _ _).putObj _ hD hKD rfl
  have ht : m.tidy = { m with ss := ss, ks := ks, line := l } := by rw [tidy_fin, ← hfin, he]
  rw [ht]
  have hm : ∀ k, mfp { p with lv := lv } k → mfp p k := fun k hk => by
    rcases hk with h | h | h | h | h | h
    · exact .inl h
    · exact .inr (.inl h)
    · exact .inr (.inr (.inl h))
    · exact .inr (.inr (.inr (.inl h)))
    · exact .inr (.inr (.inr (.inr (.inl h))))
    · exact .inr (.inr (.inr (.inr (.inr (hlv k h)))))
  refine ⟨rfl, lv, p.rv, hA.turned hT (fun k hk => hold k (hm k hk)) hp0, fun k h => .inl (hlv k h), fun k h => .inl h, ?_⟩
  have := hT.chg hch (Nat.le_refl _)
  exact ⟨this.os, this.tape, this.output, this.size, fun k hk hf => this.block k hk (fun h => h.elim hf (fun h => by omega))⟩
theorem st_int' {w : World} {g off : Nat} {z : Value} {b : Int} (hc : w.cell? ⟨g, off, none⟩ = some z) (hf : w.frozen? ⟨g, off, none⟩ = false) : (Instr.storeAt 3 (.pointer (some ⟨g, off, none⟩)) (.int .i64 b)).run Tryz.prog w = .ok () (w.setCell ⟨g, off, none⟩ (.int .i64 b)) := by
  go_simp

set_option maxRecDepth 100000 in
set_option maxHeartbeats 8000000 in
theorem m_tidy {w : World} {p : Pl} {m : M} (h : MAt w p m) : Calls Tryz.prog 40 #[.pointer (some ⟨p.mb, 0, none⟩)] w fun e W' => ∃ v, MPost w p v m.tidy e W' := by
  have hlm : p.mb < w.heap.size := h.lt (.inl rfl)
  have hls : p.sb < w.heap.size := h.lt (.inr (.inl rfl))
  have hns := h.ok.ns
  have c8 := h.hd.c8
  refine (callsIn_wide (n := 9)).1 ?_
  refine callsIn_of_wp_marks Tryz.func40 rfl trivial ?_
  simp only [Tryz.ntmps40, List.size_toArray, List.length_cons, List.length_nil, Nat.reduceAdd, Nat.reduceSub, Array.replicate_succ, Array.replicate_zero, List.push_toArray, List.append_toArray, List.nil_append, List.cons_append]
  gi_wp2_with (fail)
  rename_i Q0 K0 hK0 K1 hK1
  have c8' : (w.alloc (.cells #[.pointer (some ⟨p.mb, 0, none⟩)] 27)).cell? ⟨p.mb, 8, none⟩ = some (.int .i64 m.closed) := by rw [World.cell?_alloc_lt _ _ _ (by simpa using hlm)]; exact c8
  have c0' : (w.alloc (.cells #[.pointer (some ⟨p.mb, 0, none⟩)] 27)).cell? ⟨w.heap.size, 0, none⟩ = some (.pointer (some ⟨p.mb, 0, none⟩)) := by go_simp
  have hB1 : Below w.heap.size w (w.alloc (.cells #[.pointer (some ⟨p.mb, 0, none⟩)] 27)) := (Below.refl _ _).alloc (Nat.le_refl _) _
  have hs1 : w.heap.size < (w.alloc (.cells #[.pointer (some ⟨p.mb, 0, none⟩)] 27)).heap.size := by simp
  generalize hw1 : (w.alloc (.cells #[.pointer (some ⟨p.mb, 0, none⟩)] 27)) = w1 at *
  clear hw1 c8
  have L8 : ∀ w', Below w1.heap.size w1 w' → w'.cell? ⟨p.mb, 8, none⟩ = some (.int .i64 m.closed) := fun w' hb => Field.bkeep hb c8'
  have L0 : ∀ w', Below w1.heap.size w1 w' → w'.cell? ⟨w.heap.size, 0, none⟩ = some (.pointer (some ⟨p.mb, 0, none⟩)) := fun w' hb => Field.bkeep hb c0'
  have hKd : Below w1.heap.size w1 w1.drew := (Below.refl _ _).drew
  refine wpIn_wide.2 ?_
  refine Code.wp_mono (Q := fun e a' w' => e = Exit.normal ∧ (Exit.then K1 (Exit.then K0 Q0)) .normal a' w') (fun e a' w' hh => by obtain ⟨rfl, h2⟩ := hh; exact h2) ?_
  refine wp_region_held_drew (S := fun w' => Below w1.heap.size w1 w') (by kernel_rfl) (by exact hKd) (fun hHeld => ?_)
  refine takeg (i := 0) (d := some 7) (v := ?_) (by kernel_rfl) (by kernel_rfl) (by kernel_rfl) (by kernel_rfl) (fun _ _ _ h => nomatch h.1) (by kernel_rfl) ?_ hHeld ?_
  rotate_left
  · intro w hSw
    try dsimp only at hSw
    go_simp
    try with_reducible rfl
  try simp only [Act.put, List.setIfInBounds_toArray, List.set_cons_zero, List.set_cons_succ]
  refine takeg (i := 1) (d := some 8) (v := ?_) (by kernel_rfl) (by kernel_rfl) (by kernel_rfl) (by kernel_rfl) (fun _ _ _ h => nomatch h.1) (by kernel_rfl) ?_ hHeld ?_
  rotate_left
  · intro w hSw
    try dsimp only at hSw
    go_simp
    try with_reducible rfl
  try simp only [Act.put, List.setIfInBounds_toArray, List.set_cons_zero, List.set_cons_succ]
  refine takeg (i := 2) (d := some 9) (v := ?_) (by kernel_rfl) (by kernel_rfl) (by kernel_rfl) (by kernel_rfl) (fun _ _ _ h => nomatch h.1) (by kernel_rfl) ?_ hHeld ?_
  rotate_left
  · intro w hSw
    try dsimp only at hSw
    go_simp
    try with_reducible rfl
  try simp only [Act.put, List.setIfInBounds_toArray, List.set_cons_zero, List.set_cons_succ]
  refine takeg (i := 3) (d := some 10) (v := ?_) (by kernel_rfl) (by kernel_rfl) (by kernel_rfl) (by kernel_rfl) (fun _ _ _ h => nomatch h.1) (by kernel_rfl) ?_ hHeld ?_
  rotate_left
  · intro w hSw
    try dsimp only at hSw
    go_simp
    try with_reducible rfl
  try simp only [Act.put, List.setIfInBounds_toArray, List.set_cons_zero, List.set_cons_succ]
  refine takeg (i := 4) (d := some 11) (v := ?_) (by kernel_rfl) (by kernel_rfl) (by kernel_rfl) (by kernel_rfl) (fun _ _ _ h => nomatch h.1) (by kernel_rfl) ?_ hHeld ?_
  rotate_left
  · intro w hSw
    try dsimp only at hSw
    go_simp
    try with_reducible rfl
  try simp only [Act.put, List.setIfInBounds_toArray, List.set_cons_zero, List.set_cons_succ]
  refine ready_call (i := 5) (by kernel_rfl) 81 #[.tmp 7, .const (.int .i64 4), .tmp 11] #[27, 3, 3] (some 12) none (by kernel_rfl) (by kernel_rfl) #[(.pointer (some ⟨p.mb, 0, none⟩)), .int .i64 4, .int .i64 m.closed] (by kernel_rfl) (enters_of Tryz.func81 (by kernel_rfl) rfl) ?_
  refine (fits_any _ _ _ _).mono ?_
  rintro e wq' ⟨rfl, rfl⟩
  refine ⟨_, rfl, ?_, fun hHeld2 => ?_⟩
  · exact ((hKd.alloc (by simp) _).alloc (by simp) _).alloc (by simp; omega) _
  try simp only [Act.put, List.setIfInBounds_toArray, List.set_cons_zero, List.set_cons_succ]
  refine wpAnyH_done (by kernel_rfl) ?_ _
  refine ⟨rfl, ?_⟩
  gi_wp2_with fail
  clear L8 L0 hKd hHeld hHeld2
  have hsd : w1.drew.heap.size = w1.heap.size := rfl
  have hB : Below w.heap.size w (((w1.drew.alloc (.cells #[.pointer (some ⟨p.mb, 0, none⟩)] 27)).alloc (.cells #[.int .i64 4] 3)).alloc (.cells #[.int .i64 m.closed] 3)) := (((hB1.drew.alloc (by simpa using Nat.le_of_lt hs1) _).alloc (by simp; omega) _).alloc (by simp; omega) _)
  have b1 : (((w1.drew.alloc (.cells #[.pointer (some ⟨p.mb, 0, none⟩)] 27)).alloc (.cells #[.int .i64 4] 3)).alloc (.cells #[.int .i64 m.closed] 3)).cell? ⟨w1.heap.size, 0, none⟩ = some (.pointer (some ⟨p.mb, 0, none⟩)) := by go_simp
  have b2 : (((w1.drew.alloc (.cells #[.pointer (some ⟨p.mb, 0, none⟩)] 27)).alloc (.cells #[.int .i64 4] 3)).alloc (.cells #[.int .i64 m.closed] 3)).cell? ⟨w1.heap.size + 1, 0, none⟩ = some (.int .i64 4) := by go_simp
  have b3 : (((w1.drew.alloc (.cells #[.pointer (some ⟨p.mb, 0, none⟩)] 27)).alloc (.cells #[.int .i64 4] 3)).alloc (.cells #[.int .i64 m.closed] 3)).cell? ⟨w1.heap.size + 1 + 1, 0, none⟩ = some (.int .i64 m.closed) := by go_simp
  have r0 : (((w1.drew.alloc (.cells #[.pointer (some ⟨p.mb, 0, none⟩)] 27)).alloc (.cells #[.int .i64 4] 3)).alloc (.cells #[.int .i64 m.closed] 3)).cell? ⟨w.heap.size, 0, none⟩ = some (.pointer (some ⟨p.mb, 0, none⟩)) := Field.bkeep (W := w1) ((((Below.refl _ _).drew.alloc (by simp) _).alloc (by simp) _).alloc (by simp; omega) _) c0'
  have hK00 : swK w p m 0 (((w1.drew.alloc (.cells #[.pointer (some ⟨p.mb, 0, none⟩)] 27)).alloc (.cells #[.int .i64 4] 3)).alloc (.cells #[.int .i64 m.closed] 3)) := ⟨by omega, h.below hB, Chg.ofBelow hB, r0⟩
  have hold : ∀ k, mfp p k → k < w.heap.size := fun k hk => h.lt hk
  have hp0 : 0 < w.heap.size := h.lt0
  have hms : p.mb ≠ p.sb := h.ne.2.1
  clear c8' c0' hB1
  generalize hwq : (((w1.drew.alloc (.cells #[.pointer (some ⟨p.mb, 0, none⟩)] 27)).alloc (.cells #[.int .i64 4] 3)).alloc (.cells #[.int .i64 m.closed] 3)) = wq at *
  clear hwq
  have hsz : w1.heap.size + 1 + 1 < wq.heap.size := World.block_lt_of_cell? _ _ b3
  refine wpIn_rangeC (gf := 98) (lb := #[.pointer (some ⟨w1.heap.size, 0, none⟩), .pointer (some ⟨w1.heap.size + 1, 0, none⟩), .pointer (some ⟨w1.heap.size + 1 + 1, 0, none⟩)]) rfl
    (enters_of Tryz.func98 (by kernel_rfl) rfl) (encs := fun x : Nat => #[.int .i64 x]) (I := fI p.sb m.ss.length) (Ww := fun k => k = p.sb) (Wr := fun _ => False)
    (Skips := fSkips p.sb m.ss.length 4 m.closed) (Yields := fYields p.sb m.ss.length 4 m.closed) (Done := fun i _ => i = m.ss.length) (s0 := 0)
    ?hps ?hRd ?hseq (swK w p m) (fun _ _ => False) ?hKI ?hKs ?hKk ?hKt (fun _ _ _ h _ => h) ?hYt (fun _ _ _ h _ => h) ?hYc ?h0 ?round ?done ?stop
  case hps => intro x; rfl
  case hKI => exact fun s W h => ⟨_, swN_len _ _ _, h.at'.slots⟩
  case hRd => rintro k (rfl | hk); omega; exact hk.elim
  case hseq =>
    intro W1 hT
    refine fits_seq _ _ _ p.mb p.sb m.ss.length 4 m.closed _ W1 (by simp) (by omega) (hT.cell b1) (hT.cell b2) (hT.cell b3) (hT.cell (Field.bkeep hB h.hdr)) (by omega) (by omega) (by omega) (by omega) (fun k hk => ?_)
    have := hT.size
    subst hk; omega
  case hKs => exact fun s W W' h hc => h.later (below_false hc)
  case hKk =>
    rintro s s' W hk ⟨q1, rfl, ss', e1, e2, e3⟩
    obtain ⟨t, ht⟩ : ∃ t, (swN m.closed s m.ss)[s]? = some t := ⟨_, List.getElem?_eq_getElem (by rw [swN_len]; exact q1)⟩
    obtain ⟨t', ht'⟩ : ∃ t', ss'[s]? = some t' := ⟨_, List.getElem?_eq_getElem (by omega)⟩
    have hf := e3 _ ht'
    rw [← slots_one hk.at'.slots e2 ht ht'] at hf
    have hn : swN m.closed (s + 1) m.ss = swN m.closed s m.ss := by rw [sw_next ht]; unfold swOne; rw [if_neg (by simp [hf]), set_same ht]
    exact ⟨by omega, by rw [hn]; exact hk.at', hk.chg, hk.c0⟩
  case hKt =>
    rintro s W W' hk ht
    exact ⟨hk.le, hk.at'.turned ht (fun k h => by have := hold k h; omega) (by omega), ht.chg hk.chg (by omega), ht.cell hk.c0⟩
  case hYt =>
    rintro s x s' W W' ⟨q1, q2, q3, ss', e1, e2, e3⟩ ht
    exact ⟨q1, q2, q3, ss', e1, slots_turn e2 ht, e3⟩
  case hYc =>
    rintro s x s' W W' ⟨q1, q2, q3, ss', e1, e2, e3⟩ hc
    exact ⟨q1, q2, q3, ss', e1, e2.stable (hc.block p.sb (e2.lt (by omega)) id), e3⟩
  case h0 => exact hK00
  case round =>
    intro L s x s' W hL hLW hk hy
    gi_wp2
    refine ⟨Chg.refl _ _, ?_⟩
    rintro W2 hT2 - hk2 ⟨q1, rfl, rfl, ss', e1, e2, e3⟩
    obtain ⟨t, ht⟩ : ∃ t, (swN m.closed x m.ss)[x]? = some t := ⟨_, List.getElem?_eq_getElem (by rw [swN_len]; exact q1)⟩
    obtain ⟨t', ht'⟩ : ∃ t', ss'[x]? = some t' := ⟨_, List.getElem?_eq_getElem (by omega)⟩
    have hf := e3 _ ht'
    rw [← slots_one hk2.at'.slots e2 ht ht'] at hf
    have HN : RowKit.Hid (swN m.closed (x + 1) m.ss = (swN m.closed x m.ss).set x (emptied t)) := Lib.hid (by rw [sw_next ht]; unfold swOne; rw [if_pos hf])
    have hAT := hk2.at'
    have hCH := hk2.chg
    have g0 := hk2.c0
    have hem := m_empty (m := { m with ss := swN m.closed x m.ss }) hAT x x t ht rfl
    have hel : (M.empty { m with ss := swN m.closed x m.ss } x) = { m with ss := (swN m.closed x m.ss).set x (emptied t) } := by
      unfold M.empty
      rw [M.slot_of (m := { m with ss := swN m.closed x m.ss }) ht]
    rw [hel] at hem
    have HLE : RowKit.Hid (x + 1 ≤ m.ss.length) := Lib.hid q1
    clear hel ht ht' hf e1 e2 e3 hk2 hT2 hy hk hLW hL r0 b1 b2 b3 hK00 hB
    gi_wp2_with fail
    refine ⟨trivial, ?_⟩
    gi_at_call 82
    refine (CallsIn.inRound L (callsIn_wide.2 hem)).mono ?_
    rintro e w6 ⟨⟨v6, rfl⟩, h6, hc6⟩
    have HF : RowKit.Hid (KeepsB (fun k => k = p.sb) W2 w6 ∧ swK w p m (x + 1) w6) :=
      Lib.hid ⟨KeepsB.of_chg hc6 (fun _ _ h => h), HLE.out, by rw [HN.out]; exact h6, hCH.trans hc6 (fun _ _ h => .inl h), (hc6.cell (World.block_lt_of_cell? _ _ g0) (fun e => by simp at e; omega)).trans g0⟩
    clear h6 hc6 hem hAT hCH g0
    gi_wp2_with fail
    exact HF.out
  case stop => exact fun D c W hD h hK => h.elim
  case done =>
    rintro D s W hD rfl hk hKD
    have hat := hk.at'
    rw [swN_all] at hat
    have hat : MAt W p m.sweep := hat
    have hch := hk.chg
    have g0 := hk.c0
    clear hk b1 b2 b3 r0 hK00 hB
    gi_wp2_with fail
    refine wpIn_wide.2 ?_
    have hDs : D < W.heap.size := (Array.getElem?_eq_some_iff.1 hKD).1
    have HT : RowKit.Hid (m.tidy = { m with ss := (fin m.closed m.line m.sweep.ss m.ks).1, ks := (fin m.closed m.line m.sweep.ss m.ks).2.1, line := (fin m.closed m.line m.sweep.ss m.ks).2.2 }) := Lib.hid (tidy_fin m)
    have hnks : m.sweep.ks = m.ks := rfl
    have hR0 : tdR w p m D m.line.length W := ⟨m.line, m.sweep.ss, m.ks, p.lv, rfl, hat, fun _ h => h, g0, hKD, hch.mono (fun k _ e => by rcases e with rfl | e; exact .inl (.inr (.inl rfl)); exact .inr e), rfl⟩
    clear hat hch g0 hKD hnks
    go_loopg [3] m.line.length (fun k _ wr => tdR w p m D k wr)
    case atStart => exact hR0
    case round =>
      obtain ⟨l, ss, ks, lv, rfl, hA, hlv, g0, hKD, hch, hfin⟩ := hrel
      have HFIN := Lib.hid hfin
      by_cases hc : m.closed = 0
      rotate_left
      · have hc' : (m.closed == 0) = false := by simp [hc]
        have c8 := hA.hd.c8
        try simp only at c8
        have HE : RowKit.Hid (fin m.closed l ss ks = (ss, ks, l)) := Lib.hid (by unfold fin; rw [if_neg hc])
        clear hc hfin hR0
        go_wp2_with fail
        refine ⟨by simp, .inl ⟨_, _, rfl, run_takeDeferred hKD, ?_⟩⟩
        exact ⟨_, results_none rfl _ _ _, _, td_fin hA hlv hch (by omega) hKD HFIN.out (HE.out) hold hp0 _⟩
      have hc' : (m.closed == 0) = true := by simp [hc]
      have HC := Lib.hid hc
      cases l with
      | nil =>
        have c8 := hA.hd.c8
        have c7 := hA.hd.c7
        obtain ⟨la, lc, hlv0⟩ := hA.own.form
        try simp only at c8 c7 hlv0
        rw [hlv0] at c7
        have HE : RowKit.Hid (fin m.closed [] ss ks = (ss, ks, [])) := Lib.hid (by unfold fin; rw [if_pos hc]; rfl)
        clear hc hfin hR0 hlv0
        go_wp2_with fail
        refine ⟨by simp, .inl ⟨_, _, rfl, run_takeDeferred hKD, ?_⟩⟩
        exact ⟨_, results_none rfl _ _ _, _, td_fin hA hlv hch (by omega) hKD HFIN.out (HE.out) hold hp0 _⟩
      | cons who l =>
        have c8 := hA.hd.c8
        have c7 := hA.hd.c7
        obtain ⟨g, off, cap, hlv0, hcap1, hcap2, hgC, hcl, hfz, hxs⟩ := hA.own.some (by simp)
        try simp only [List.length_cons] at c8 c7 hlv0 hcap1
        subst hlv0
        have hx0 : wr.cell? ⟨g, off, none⟩ = some (.int .i64 who) := by simpa using hxs 0 _ rfl
        have hlo := hA.ok.line who (by simp)
        have hfew := hA.ok.few
        try simp only [List.length_cons] at hlo hfew
        obtain ⟨q, rfl⟩ := Int.eq_ofNat_of_zero_le hlo.1
        have hfi := m_first hA 3 0 (by simp)
        have hf0 : M.first { m with ss := ss, ks := ks, line := (q : Int) :: l } 3 0 = firstAt 3 0 ss := rfl
        rw [hf0] at hfi
        clear hcl hfz hxs hR0 hf0
        cases hf : firstAt 3 0 ss with
        | none =>
          rw [hf] at hfi
          simp only [Option.getD_none, Option.isSome_none] at hfi
          have HE : RowKit.Hid (fin m.closed ((q : Int) :: l) ss ks = (ss, ks, (q : Int) :: l)) := Lib.hid (by unfold fin; rw [if_pos hc, M.grantL, hf])
          clear hc hfin hf
          go_wp2_with fail
          refine hfi.mono ?_
          rintro e w2 ⟨rfl, hb2⟩
          have hA := hA.below hb2
          have hKD := (hb2.block D (Array.getElem?_eq_some_iff.1 hKD).1).trans hKD
          have hch := hch.trans (Chg.ofBelow (F := fun _ => False) hb2) (fun _ _ h => h.elim)
          clear hfi hb2 g0 c8 c7 hx0
          go_wp2_with fail
          refine ⟨by simp, .inl ⟨_, _, rfl, run_takeDeferred hKD, ?_⟩⟩
          exact ⟨_, results_none rfl _ _ _, _, td_fin hA hlv hch (by omega) hKD HFIN.out (HE.out) hold hp0 _⟩
        | some i =>
          rw [hf] at hfi
          simp only [Option.getD_some, Option.isSome_some] at hfi
          obtain ⟨s, hs, hfit⟩ := first_some (m := { m with ss := ss }) (kind := 3) (own := 0) hf
          have HS : RowKit.Hid (ss[i]? = some s) := Lib.hid hs
          have HSt : RowKit.Hid (s.state = 2 ∨ s.state = 0) := Lib.hid (by simp [Find.fits, Find.sound] at hfit; omega)
          have HE : RowKit.Hid (fin m.closed ((q : Int) :: l) ss ks = fin m.closed l (turnL ss i (if s.state = 2 then 5 else 7) q 0) (ks.set q { ks[q]?.getD Wk.zero with at' := 2, slot := (i : Int) })) := Lib.hid (by
            unfold fin; rw [if_pos hc, if_pos hc, M.grantL, hf]; simp [hs])
          clear hc hfin hf hs hfit
          go_wp2_with fail
          refine hfi.mono ?_
          rintro e w2 ⟨rfl, hb2⟩
          have hA := hA.below hb2
          have g0 := Field.bkeep hb2 g0
          have hKD := (hb2.block D (Array.getElem?_eq_some_iff.1 hKD).1).trans hKD
          have hch := hch.trans (Chg.ofBelow (F := fun _ => False) hb2) (fun _ _ h => h.elim)
          have c7 := hA.hd.c7
          have f7 := hA.hd.f7
          have hx0 := Field.bkeep hb2 hx0
          try simp only [List.length_cons] at c7 f7
          have HFp : RowKit.Hid (∀ a n c k, Fp (.slice (some ⟨g, a, none⟩) n c) k → Fp (.slice (some ⟨g, off, none⟩) (l.length + 1) cap) k) := Lib.hid (fun a n c k hk => by rw [fp_some] at hk ⊢; exact hk)
          have hnmb : ¬ Fp (.slice (some ⟨g, off, none⟩) (l.length + 1) cap) p.mb := by
            obtain ⟨t, -, t1, -, -, -, -, t6⟩ := hA.tag
            intro hk
            have := t6 _ hk
            simp only at t1
            omega
          have HO := Lib.hid (own_tail_line (l := l) (n := l.length) (x := (q : Int)) (by simpa using hA.own) rfl)
          have HL8 : RowKit.Hid (l.length ≤ 8) := Lib.hid (by omega)
          have HLX : RowKit.Hid (∀ x ∈ l, 0 ≤ x ∧ x < (ks.length : Int)) := Lib.hid (fun x hx => hA.ok.line x (by simp [hx]))
          have hil : i < ss.length := (List.getElem?_eq_some_iff.1 HS.out).1
          have hnss := hA.ok.ns
          try simp only at hnss
          have bb0 : (0 : Int) ≤ (i : Int) := by omega
          have bb1 : (i : Int) < (ss.length : Int) := by omega
          have bb2 : (i : Int) ≤ (ss.length : Int) - 1 := by omega
          have hlmw : p.mb < w2.heap.size := hA.lt (.inl rfl)
          clear hfi hb2 c8
          have HLV := Lib.hid hlv
          have HKD := Lib.hid hKD
          have HCH := Lib.hid hch
          clear hlv hKD hch
          go_upto_region 8 with (fail)
          go_cut [3] from 17 to 79 (fun v3 w' => v3 = .int .i64 i ∧ ∃ lv3, MAt w' { p with lv := lv3 } { m with ss := ss, ks := ks, line := l } ∧ (∀ j, Fp lv3 j → Fp p.lv j) ∧ w'.cell? ⟨w.heap.size, 0, none⟩ = some (.pointer (some ⟨p.mb, 0, none⟩)) ∧ w'.heap[D]? = some (.deferred (some [])) ∧ Chg (fun k => mfp p k ∨ w.heap.size ≤ k) w w')
          case first =>
            rename_i JJ KK hJJ hKK
            by_cases hc1 : cap = 1
            · subst hc1
              obtain rfl : l = [] := List.eq_nil_of_length_eq_zero (by omega)
              have HO3 : RowKit.Hid (OwnS w2 (.slice (some ⟨g, off, none⟩) 0 0) (([] : List Int)).length 1 (([] : List Int).map (Value.int .i64))) := Lib.hid (by have := HO.out; rwa [if_pos rfl] at this)
              have HFp := Lib.hid (fun k hk => HFp.out off 0 0 k hk)
              clear HO
              go_wp2_with fail
              go_region
              refine hKK _ _ (Met.intro (hJJ _ _ ?_))
              (repeat apply Exists.intro)
              refine ⟨?rel, rfl⟩
              case rel =>
                have hC3 : Chg (fun k => k = p.mb) w2 ((w2.setCell ⟨p.mb, 7, none⟩ (Value.slice (some ⟨g, off, none⟩) 0 0)).drew) := ((Chg.refl (fun k => k = p.mb) w2).setCell ⟨p.mb, 7, none⟩ (Value.slice (some ⟨g, off, none⟩) 0 0) (fun _ => rfl)).drew
                have hO3 : OwnS ((w2.setCell ⟨p.mb, 7, none⟩ (Value.slice (some ⟨g, off, none⟩) 0 0)).drew) (Value.slice (some ⟨g, off, none⟩) 0 0) ([] : List Int).length 1 (([] : List Int).map (Value.int .i64)) := HO3.out.chg hC3 (fun k hk e => hnmb (by rw [← e]; exact HFp.out k hk))
                have hA3 : MAt ((w2.setCell ⟨p.mb, 7, none⟩ (Value.slice (some ⟨g, off, none⟩) 0 0)).drew) { p with lv := Value.slice (some ⟨g, off, none⟩) 0 0 } { m with ss := ss, ks := ks, line := ([] : List Int) } := by
                  have := hA.toLine (v' := Value.slice (some ⟨g, off, none⟩) 0 0) (l := ([] : List Int)) (W' := (w2.setCell ⟨p.mb, 7, none⟩ (Value.slice (some ⟨g, off, none⟩) 0 0)).drew) hO3 HL8.out HLX.out (fun k hk => .inl (HFp.out k hk)) (hC3.mono (fun k _ e => .inl e)) (Hd.stable (hd_line hA.hd _) rfl)
                  exact this
                exact ⟨rfl, Value.slice (some ⟨g, off, none⟩) 0 0, hA3, fun j hj => HLV.out j (HFp.out j hj), (hC3.cell (World.block_lt_of_cell? _ _ g0) (by simp; omega)).trans g0, (hC3.block D (Array.getElem?_eq_some_iff.1 HKD.out).1 (by omega)).trans HKD.out, HCH.out.trans hC3 (fun k _ e => .inl (by rw [e]; exact .inl rfl))⟩
            · have HO3 : RowKit.Hid (OwnS w2 (.slice (some ⟨g, off + 1, none⟩) l.length (cap - 1)) l.length 1 (l.map (Value.int .i64))) := Lib.hid (by have := HO.out; rwa [if_neg hc1] at this)
              have HFp := Lib.hid (fun k hk => HFp.out (off + 1) l.length (cap - 1) k hk)
              clear HO
              go_wp2_with fail
              go_region
              refine hKK _ _ (Met.intro (hJJ _ _ ?_))
              (repeat apply Exists.intro)
              refine ⟨?rel, rfl⟩
              case rel =>
                have hC3 : Chg (fun k => k = p.mb) w2 ((w2.setCell ⟨p.mb, 7, none⟩ (Value.slice (some ⟨g, off + 1, none⟩) l.length (cap - 1))).drew) := ((Chg.refl (fun k => k = p.mb) w2).setCell ⟨p.mb, 7, none⟩ (Value.slice (some ⟨g, off + 1, none⟩) l.length (cap - 1)) (fun _ => rfl)).drew
                have hO3 : OwnS ((w2.setCell ⟨p.mb, 7, none⟩ (Value.slice (some ⟨g, off + 1, none⟩) l.length (cap - 1))).drew) (Value.slice (some ⟨g, off + 1, none⟩) l.length (cap - 1)) l.length 1 (l.map (Value.int .i64)) := HO3.out.chg hC3 (fun k hk e => hnmb (by rw [← e]; exact HFp.out k hk))
                have hA3 : MAt ((w2.setCell ⟨p.mb, 7, none⟩ (Value.slice (some ⟨g, off + 1, none⟩) l.length (cap - 1))).drew) { p with lv := Value.slice (some ⟨g, off + 1, none⟩) l.length (cap - 1) } { m with ss := ss, ks := ks, line := l } := by
                  have := hA.toLine (v' := Value.slice (some ⟨g, off + 1, none⟩) l.length (cap - 1)) (l := l) (W' := (w2.setCell ⟨p.mb, 7, none⟩ (Value.slice (some ⟨g, off + 1, none⟩) l.length (cap - 1))).drew) hO3 HL8.out HLX.out (fun k hk => .inl (HFp.out k hk)) (hC3.mono (fun k _ e => .inl e)) (Hd.stable (hd_line hA.hd _) rfl)
                  exact this
                exact ⟨rfl, Value.slice (some ⟨g, off + 1, none⟩) l.length (cap - 1), hA3, fun j hj => HLV.out j (HFp.out j hj), (hC3.cell (World.block_lt_of_cell? _ _ g0) (by simp; omega)).trans g0, (hC3.block D (Array.getElem?_eq_some_iff.1 HKD.out).1 (by omega)).trans HKD.out, HCH.out.trans hC3 (fun k _ e => .inl (by rw [e]; exact .inl rfl))⟩
          case rest =>
            obtain ⟨rfl, lv3, hA3, hlv3, g03, hKD3, hch3⟩ := hcut
            generalize wc = w3 at *
            have c5 := hA3.hd.c5
            have cS := (hA3.slots.get HS.out).1
            try simp only at c5 cS
            clear hA g0 c7 f7 hx0 hnmb HO
            go_upto_if 59 with (fail)
            go_cut [6] from 17 to 79 (fun v6 w' => w' = w3 ∧ v6 = .int .i64 (if s.state = 2 then 5 else 7))
            case first =>
              rcases HSt.out with h2 | h2
              · have s2 : (s.state == 2) = true := by rw [h2]; rfl
                have HDO : RowKit.Hid ((if s.state = 2 then (5 : Int) else 7) = 5) := Lib.hid (if_pos h2)
                clear h2
                go_wp2_with fail
                go_meet
                case rel => exact ⟨rfl, by rw [HDO.out]⟩
              · have s2 : (s.state == 2) = false := by rw [h2]; rfl
                have HDO : RowKit.Hid ((if s.state = 2 then (5 : Int) else 7) = 7) := Lib.hid (if_neg (by omega))
                clear h2
                go_wp2_with fail
                go_meet
                case rel => exact ⟨rfl, by rw [HDO.out]⟩
            case rest =>
              obtain ⟨rfl, rfl⟩ := hcut
              have ht := m_turn' hA3 i (if s.state = 2 then 5 else 7) i (if s.state = 2 then 5 else 7) q 0 s HS.out rfl (by split <;> rfl) (by split <;> simp [Mod.Done])
              obtain ⟨dz, hdz⟩ : ∃ dz : Int, dz = (if s.state = 2 then 5 else 7) := ⟨_, rfl⟩
              rw [← hdz] at ht
              obtain ⟨dn, hdn⟩ : ∃ dn : Nat, dn = (if s.state = 2 then 5 else 7) := ⟨_, rfl⟩
              rw [← hdn] at ht
              have HDN := Lib.hid hdn
              simp only [← hdz]
              clear hdz hdn c5 cS
              go_wp2_with fail
              refine ht.mono ?_
              rintro e w4 ⟨rfl, hA4, hC4⟩
              have hA4 : MAt w4 { p with lv := lv3 } { m with ss := turnL ss i dn q 0, ks := ks, line := l } := hA4
              have hql : q < ks.length := by omega
              obtain ⟨kq, hkq⟩ : ∃ kq, ks[q]? = some kq := ⟨_, List.getElem?_eq_getElem hql⟩
              have HKQ := Lib.hid hkq
              have g04 := (hC4.cell (World.block_lt_of_cell? _ _ g03) (fun e => by simp at e; omega)).trans g03
              have hKD4 := (hC4.block D (Array.getElem?_eq_some_iff.1 hKD3).1 (by first | omega | (simp only; omega))).trans hKD3
              have hch4 := hch3.trans hC4 (fun k _ e => .inl (by rw [e]; exact .inr (.inl rfl)))
              have c6 := hA4.hd.c6
              have cK := hA4.works.get hkq
              obtain ⟨cK0, -, -, -, -, -, -, -, cK8⟩ := cK
              have fK0 := hA4.works.2 q 0 hql (by omega)
              have fK8 := hA4.works.2 q 8 hql (by omega)
              have hnk := hA4.ok.nk
              try simp only [Nat.add_zero] at c6 cK0 cK8 fK0 fK8 hnk
              have qq0 : (0 : Int) ≤ (q : Int) := by omega
              have qq1 : (q : Int) < (ks.length : Int) := by omega
              have qq2 : (q : Int) ≤ (ks.length : Int) - 1 := by omega
              have hkm : p.mb ≠ p.kb := h.ne.2.2.1
              have hkb : p.kb < w.heap.size := hold p.kb (.inr (.inr (.inl rfl)))
              have hkm' : p.kb ≠ p.mb := fun e => hkm e.symm
              clear ht hC4 hkq g03 hKD3 hch3 hA3
              go_wp2_with fail
              have L6 : ∀ w', Chg (fun k => k = p.kb) w4 w' → w'.cell? ⟨p.mb, 6, none⟩ = some (.slice (some ⟨p.kb, 0, none⟩) ks.length ks.length) := fun w' h => (h.cell (p := ⟨p.mb, 6, none⟩) (hA4.lt (.inl rfl)) (by simpa using hkm)).trans c6
              have L0 : ∀ w', Chg (fun k => k = p.kb) w4 w' → w'.cell? ⟨w.heap.size, 0, none⟩ = some (.pointer (some ⟨p.mb, 0, none⟩)) := fun w' h => (h.cell (World.block_lt_of_cell? _ _ g04) (fun e => by simp at e; omega)).trans g04
              have hKd : Chg (fun k => k = p.kb) w4 w4.drew := (Chg.refl _ _).drew
              refine wp_normal ?_
              refine wp_region_held_drew (S := fun w' => Chg (fun k => k = p.kb) w4 w') (by kernel_rfl) (by exact hKd) (fun hHeld => ?_)
              refine takeg (i := 0) (d := some 65) (v := ?_) (by kernel_rfl) (by kernel_rfl) (by kernel_rfl) (by kernel_rfl) (fun _ _ _ h => nomatch h.1) (by kernel_rfl) ?_ hHeld ?_
              rotate_left
              · intro w hSw
                try dsimp only at hSw
                go_simp
                try with_reducible rfl
              try simp only [Act.put, List.setIfInBounds_toArray, List.set_cons_zero, List.set_cons_succ]
              refine takeg (i := 1) (d := some 66) (v := ?_) (by kernel_rfl) (by kernel_rfl) (by kernel_rfl) (by kernel_rfl) (fun _ _ _ h => nomatch h.1) (by kernel_rfl) ?_ hHeld ?_
              rotate_left
              · intro w hSw
                try dsimp only at hSw
                go_simp
                try with_reducible rfl
              try simp only [Act.put, List.setIfInBounds_toArray, List.set_cons_zero, List.set_cons_succ]
              refine takeg (i := 2) (d := some 67) (v := ?_) (by kernel_rfl) (by kernel_rfl) (by kernel_rfl) (by kernel_rfl) (fun _ _ _ h => nomatch h.1) (by kernel_rfl) ?_ hHeld ?_
              rotate_left
              · intro w hSw
                try dsimp only at hSw
                go_simp
                try with_reducible rfl
              try simp only [Act.put, List.setIfInBounds_toArray, List.set_cons_zero, List.set_cons_succ]
              refine takeg (i := 3) (d := some 68) (v := ?_) (by kernel_rfl) (by kernel_rfl) (by kernel_rfl) (by kernel_rfl) (fun _ _ _ h => nomatch h.1) (by kernel_rfl) ?_ hHeld ?_
              rotate_left
              · intro w hSw
                try dsimp only at hSw
                go_simp
                try with_reducible rfl
              try simp only [Act.put, List.setIfInBounds_toArray, List.set_cons_zero, List.set_cons_succ]
              refine takeg (i := 4) (d := some 69) (v := ?_) (by kernel_rfl) (by kernel_rfl) (by kernel_rfl) (by kernel_rfl) (fun _ _ _ h => nomatch h.1) (by kernel_rfl) ?_ hHeld ?_
              rotate_left
              · intro w hSw
                try dsimp only at hSw
                go_simp
                try with_reducible rfl
              try simp only [Act.put, List.setIfInBounds_toArray, List.set_cons_zero, List.set_cons_succ]
              refine takeg (i := 5) (d := some 70) (v := ?_) (by kernel_rfl) (by kernel_rfl) (by kernel_rfl) (by kernel_rfl) (fun _ _ _ h => nomatch h.1) (by kernel_rfl) ?_ hHeld ?_
              rotate_left
              · intro w hSw
                try dsimp only at hSw
                go_simp
                try with_reducible rfl
              try simp only [Act.put, List.setIfInBounds_toArray, List.set_cons_zero, List.set_cons_succ]
              refine takeg (i := 6) (d := some 71) (v := ?_) (by kernel_rfl) (by kernel_rfl) (by kernel_rfl) (by kernel_rfl) (fun _ _ _ h => nomatch h.1) (by kernel_rfl) ?_ hHeld ?_
              rotate_left
              · intro w hSw
                try dsimp only at hSw
                go_simp
                try with_reducible rfl
              try simp only [Act.put, List.setIfInBounds_toArray, List.set_cons_zero, List.set_cons_succ]
              refine takeg (i := 7) (d := some 72) (v := ?_) (by kernel_rfl) (by kernel_rfl) (by kernel_rfl) (by kernel_rfl) (fun _ _ _ h => nomatch h.1) (by kernel_rfl) ?_ hHeld ?_
              rotate_left
              · intro w hSw
                try dsimp only at hSw
                go_simp
                try with_reducible rfl
              try simp only [Act.put, List.setIfInBounds_toArray, List.set_cons_zero, List.set_cons_succ]
              refine takeg (i := 8) (d := some 73) (v := ?_) (by kernel_rfl) (by kernel_rfl) (by kernel_rfl) (by kernel_rfl) (fun _ _ _ h => nomatch h.1) (by kernel_rfl) ?_ hHeld ?_
              rotate_left
              · intro w hSw
                try dsimp only at hSw
                go_simp
                try with_reducible rfl
              try simp only [Act.put, List.setIfInBounds_toArray, List.set_cons_zero, List.set_cons_succ]
              refine takeg (i := 9) (d := some 74) (v := ?_) (by kernel_rfl) (by kernel_rfl) (by kernel_rfl) (by kernel_rfl) (fun _ _ _ h => nomatch h.1) (by kernel_rfl) ?_ hHeld ?_
              rotate_left
              · intro w hSw
                try dsimp only at hSw
                go_simp
                try with_reducible rfl
              try simp only [Act.put, List.setIfInBounds_toArray, List.set_cons_zero, List.set_cons_succ]
              refine takeg (i := 10) (d := some 75) (v := ?_) (by kernel_rfl) (by kernel_rfl) (by kernel_rfl) (by kernel_rfl) (fun _ _ _ h => nomatch h.1) (by kernel_rfl) ?_ hHeld ?_
              rotate_left
              · intro w hSw
                try dsimp only at hSw
                go_simp
                try with_reducible rfl
              try simp only [Act.put, List.setIfInBounds_toArray, List.set_cons_zero, List.set_cons_succ]
              refine takeg (i := 11) (d := some 76) (v := ?_) (by kernel_rfl) (by kernel_rfl) (by kernel_rfl) (by kernel_rfl) (fun _ _ _ h => nomatch h.1) (by kernel_rfl) ?_ hHeld ?_
              rotate_left
              · intro w hSw
                try dsimp only at hSw
                go_simp
                try with_reducible rfl
              try simp only [Act.put, List.setIfInBounds_toArray, List.set_cons_zero, List.set_cons_succ]
              refine takeg (i := 12) (d := some 77) (v := ?_) (by kernel_rfl) (by kernel_rfl) (by kernel_rfl) (by kernel_rfl) (fun _ _ _ h => nomatch h.1) (by kernel_rfl) ?_ hHeld ?_
              rotate_left
              · intro w hSw
                try dsimp only at hSw
                go_simp
                try with_reducible rfl
              try simp only [Act.put, List.setIfInBounds_toArray, List.set_cons_zero, List.set_cons_succ]
              have hc13 : Chg (fun k => k = p.kb) w4 (w4.drew.setCell ⟨p.kb, q * 9, none⟩ (.int .i64 2)) := hKd.setCell _ _ (fun _ => rfl)
              have hw13 := WorksAt.set1 (k' := { kq with at' := 2 }) (WorksAt.stable (W' := w4.drew) hA4.works rfl) HKQ.out 0 (by omega) (.int .i64 2) rfl
              have hs13 := st_int' (w := w4.drew) (b := 2) cK0 fK0
              refine ready1 (i := 13) (by kernel_rfl) (step_store_cell 3 (.tmp 77) (.const (.int .i64 2)) (by kernel_rfl) p.kb (q * 9) (.int .i64 2) (by kernel_rfl) (by kernel_rfl) (fun _ => hs13) hc13 (fun _ => ?_))
              have cK8' : (w4.drew.setCell ⟨p.kb, q * 9, none⟩ (.int .i64 2)).cell? ⟨p.kb, q * 9 + 8, none⟩ = some (.int .i64 kq.slot) := (World.cell?_setCell_other _ _ _ _ (by simp)).trans cK8
              have fK8' : (w4.drew.setCell ⟨p.kb, q * 9, none⟩ (.int .i64 2)).frozen? ⟨p.kb, q * 9 + 8, none⟩ = false := by simp [fK8]
              generalize hwz : w4.drew.setCell ⟨p.kb, q * 9, none⟩ (.int .i64 2) = w5 at *
              have hw13 : WorksAt w5 p.kb (ks.set q { kq with at' := 2 }) := hw13
              clear hwz
              refine takeg (i := 14) (d := some 78) (v := ?_) (by kernel_rfl) (by kernel_rfl) (by kernel_rfl) (by kernel_rfl) (fun _ _ _ h => nomatch h.1) (by kernel_rfl) ?_ hc13 ?_
              rotate_left
              · intro w hSw
                try dsimp only at hSw
                go_simp
                try with_reducible rfl
              try simp only [Act.put, List.setIfInBounds_toArray, List.set_cons_zero, List.set_cons_succ]
              refine takeg (i := 15) (d := some 79) (v := ?_) (by kernel_rfl) (by kernel_rfl) (by kernel_rfl) (by kernel_rfl) (fun _ _ _ h => nomatch h.1) (by kernel_rfl) ?_ hc13 ?_
              rotate_left
              · intro w hSw
                try dsimp only at hSw
                go_simp
                try with_reducible rfl
              try simp only [Act.put, List.setIfInBounds_toArray, List.set_cons_zero, List.set_cons_succ]
              have hc16 : Chg (fun k => k = p.kb) w4 (w5.setCell ⟨p.kb, q * 9 + 8, none⟩ (.int .i64 i)) := hc13.setCell _ _ (fun _ => rfl)
              have hkq2 : (ks.set q { kq with at' := 2 })[q]? = some { kq with at' := 2 } := by simp [hql]
              have hw16 := WorksAt.set1 (k' := { kq with at' := 2, slot := (i : Int) }) hw13 hkq2 8 (by omega) (.int .i64 i) rfl
              rw [List.set_set] at hw16
              have hs16 := st_int' (b := (i : Int)) cK8' fK8'
              refine ready1 (i := 16) (by kernel_rfl) (step_store_cell 3 (.tmp 79) (.tmp 75) (by kernel_rfl) p.kb (q * 9 + 8) (.int .i64 i) (by kernel_rfl) (by kernel_rfl) (fun _ => hs16) hc16 (fun _ => ?_))
              generalize hwz : w5.setCell ⟨p.kb, q * 9 + 8, none⟩ (.int .i64 i) = w6 at *
              clear hwz hkq2 hs16 hs13 cK8' fK8' hw13 hc13 L6 L0 hKd hHeld
              refine wpAnyH_done (by kernel_rfl) ?_ _
              refine ⟨rfl, ?_⟩
              have hA5 := hA4.toWorks hc16 hw16 (by simp) (by
                intro k hk h2
                rcases List.mem_or_eq_of_mem_set hk with hk | rfl
                · exact hA4.ok.grants k hk h2
                · simp only [turnL_len]; omega)
              have g05 := (hc16.cell (World.block_lt_of_cell? _ _ g04) (fun e => by simp at e; omega)).trans g04
              have hKD5 := (hc16.block D (Array.getElem?_eq_some_iff.1 hKD4).1 (by first | omega | (simp only; omega))).trans hKD4
              have hch5 := hch4.trans hc16 (fun k _ e => .inl (by rw [e]; exact .inr (.inr (.inl rfl))))
              have hRE : RowKit.Hid (tdR w p m D l.length w6) := Lib.hid ⟨l, turnL ss i dn q 0, ks.set q { kq with at' := 2, slot := (i : Int) }, lv3, rfl, hA5, hlv3, g05, hKD5, hch5, by rw [← HFIN.out, HE.out, HDN.out, HKQ.out]; rfl⟩
              clear hA5 g05 hKD5 hch5 hA4 g04 hKD4 hch4 hc16 hw16
              go_wp2_with fail
              go_roundg l.length
              case measure => simp
              case rel => exact hRE.out
end Go.Proofs.YtpmkgddjgebojaaGreatDoor.Mod
