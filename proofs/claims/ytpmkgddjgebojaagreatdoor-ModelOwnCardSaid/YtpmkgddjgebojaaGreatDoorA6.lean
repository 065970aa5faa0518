/- Part 6 of the walks over the program's functions, and of the plain laws, that the claim's last text joins: Pool4 Pool5 Pool6 LawCom LawOpen LawLaid. -/
import Derived.Test.YtpmkgddjgebojaaGreatDoorA1
import Derived.Test.YtpmkgddjgebojaaGreatDoorA3
import Derived.Test.YtpmkgddjgebojaaGreatDoorA4
import Derived.Test.YtpmkgddjgebojaaGreatDoorA5
import Derived.Deep.Slices
import Derived.Deep.Fields
import Derived.ChangeSame
import Derived.Lib.SmallJoins
import Derived.LaidMore
import Derived.OpenShut
import Derived.Test.YtpmkgddjgebojaaGreatDoorRows
import Derived.ProofKit
import Derived.Stop.Joined

namespace Go.Proofs.YtpmkgddjgebojaaGreatDoor.Mod
set_option linter.unusedVariables false
set_option linter.unusedSimpArgs false
open Go.RowKit Hp Slot RowL Life

theorem dial_cf (m : M) (i : Nat) (who : Int) : (m.dial i who).2.cf = m.cf := by unfold M.dial; split <;> rfl
theorem take_cf (m : M) (i : Nat) (who : Int) : (m.take who i).2.cf = m.cf := by
  unfold M.take
  try simp only
  repeat' split
  all_goals (first | rfl | simp [M.empty, M.turn, dial_cf])
theorem rest_cf (m : M) (who : Int) : (m.rest who).cf = m.cf := rfl
theorem wake_cf (m : M) (who : Int) : (m.wake who).2.cf = m.cf := by
  unfold M.wake
  try simp only
  repeat' split
  all_goals (first | rfl | (rw [tidy_cf]; first | rfl | (rw [rest_cf, take_cf])))
theorem get_cf (m : M) (who : Int) (a : Ask) : (m.get who a).2.cf = m.cf := by
  unfold M.get
  try simp only
  repeat' split
  all_goals (first | rfl | (simp only [dial_cf]; rfl))
theorem give_cf (m : M) (who : Int) (a : Ask) (d : Bool) : (m.give who a d).2.cf = m.cf := by
  unfold M.give
  try simp only
  repeat' split
  all_goals rfl
theorem openS_cf (m : M) (who : Int) (a : Ask) : (m.openS who a).2.cf = m.cf := by
  unfold M.openS
  repeat' split
  all_goals rfl
theorem shutS_cf (m : M) (who : Int) (a : Ask) : (m.shutS who a).2.cf = m.cf := by
  unfold M.shutS
  repeat' split
  all_goals rfl
theorem does_cf (m : M) (who : Int) (a : Ask) : (m.does who a).2.cf = m.cf := by
  unfold M.does
  repeat' split
  all_goals (first | rfl | exact get_cf _ _ _ | exact give_cf _ _ _ _ | exact openS_cf _ _ _ | exact shutS_cf _ _ _)
theorem ask_cf (m : M) (who : Int) (a : Ask) : (m.ask who a).2.cf = m.cf := by
  unfold M.ask
  try simp only
  repeat' split
  all_goals (first | rfl | (rw [tidy_cf, does_cf]))
theorem entry_cf (m : M) (x : En) : (m.entry x).2.cf = m.cf := by
  unfold M.entry
  split
  · exact ask_cf _ _ _
  split
  · exact wake_cf _ _
  split
  · rfl
  split
  · show (m.feed x.good).2.cf = m.cf
    unfold M.feed; split <;> rfl
  split
  · show (m.break' x.ask.slot).2.cf = m.cf
    unfold M.break'; split <;> rfl
  · rfl
theorem Played.cf {c : Conf.Cf} {n : Nat} {m : M} {evs : List Ev} (h : Played c n m evs) : m.cf = c := by
  induction h with
  | new => rfl
  | step h x hx ih => rw [entry_cf, ih]

theorem has_lt {m : M} {n : Nat} (h : n < m.ks.length) : m.has (n : Int) = true := by simp [M.has]; omega
theorem wake_of {m : M} {n : Nat} {k : Wk} (hk : m.ks[n]? = some k) : m.wake n =
    if k.at' = 3 then ((M.answered (M.failed 5) n k.ask, true), (m.rest n).tidy)
    else if k.at' = 2 then ((M.answered (m.take n k.slot.toNat).1 n k.ask, true), ((m.take n k.slot.toNat).2.rest n).tidy)
    else if k.at' = 1 ∧ k.ask.deadline ≤ m.now then ((M.answered (M.failed 4) n k.ask, true), ({ m with line := m.line.filter (fun o => o != (n : Int)) }.rest n).tidy)
    else ((Ev.zero, false), m) := by
  unfold M.wake
  rw [if_neg (by simp [has_lt (List.getElem?_eq_some_iff.1 hk).1])]
  simp only [worker_of hk]
/-- What comes of who is granted a slot. -/
theorem took_of {m : M} (h : Mid m) {n : Nat} {k : Wk} (hk : m.ks[n]? = some k) (h2 : k.at' = 2) :
    ∃ (i : Nat) (s t : S) (a : List Bool), k.slot = (i : Int) ∧ m.ss[i]? = some s ∧ (s.state = 4 ∨ s.state = 5) ∧ s.own = (n : Int) ∧ t.right = true ∧ (m.take n k.slot.toNat).2 = { m with ss := m.ss.set i t, ahead := a } ∧
      ((m.closed = 0 ∧ t.state = 3 ∧ t.own = (n : Int) ∧ t.gen = (s.gen + 1) % 4096 ∧ (m.take n k.slot.toNat).1 = { Ev.zero with slot := (i : Int), gen := t.gen }) ∨
       (t.state = 0 ∧ (t.gen = s.gen ∨ t.gen = (s.gen + 1) % 4096) ∧ (((m.take n k.slot.toNat).1 = M.failed 5 ∧ m.closed ≠ 0) ∨ (m.take n k.slot.toNat).1 = M.failed 6))) := by
  obtain ⟨i, s, e1, hi, h45, hw, hrt, hn9⟩ := h.granted hk h2
  obtain ⟨t, a, t1, t2, t3⟩ := take_view hi hrt hn9 h45 hw
  rw [e1, Int.toNat_natCast]
  exact ⟨i, s, t, a, rfl, hi, h45, hw, t1, t2, t3⟩
theorem rest_line (m : M) (w : Int) : (m.rest w).line = m.line := rfl
theorem rest_now (m : M) (w : Int) : (m.rest w).now = m.now := rfl
theorem rest_closed (m : M) (w : Int) : (m.rest w).closed = m.closed := rfl

/-- Who still waits when its deadline is past is told so. -/
theorem times_wake {m : M} (h : Inv m) (hn : 255 ≤ m.now) {n : Nat} (hl : n < m.ks.length) :
    (((n : Int) ∈ m.line) ↔ ((m.wake n).1.2 = true ∧ (m.wake n).1.1.e = 4)) ∧ (n : Int) ∉ (m.wake n).2.line ∧ (∀ x ∈ (m.wake n).2.line, x ∈ m.line) ∧ (m.wake n).2.now = m.now := by
  obtain ⟨k, hk⟩ : ∃ k, m.ks[n]? = some k := ⟨_, List.getElem?_eq_getElem hl⟩
  have hln := h.ln n k hk
  have hdl := h.dl k (get_mem hk)
  rw [wake_of hk]
  split
  · rename_i h3
    have hno : (n : Int) ∉ m.line := fun hm => by have := hln.2 hm; omega
    obtain ⟨j, hj⟩ := tidy_line (m.rest n)
    simp only [tidy_now, hj, rest_line, rest_now]
    exact ⟨by simp [M.answered, M.failed, hno], fun hm => hno (List.mem_of_mem_drop hm), fun x hx => List.mem_of_mem_drop hx, trivial⟩
  rename_i h3
  split
  · rename_i h2
    have hno : (n : Int) ∉ m.line := fun hm => by have := hln.2 hm; omega
    obtain ⟨i, s, t, a, e1, hi, h45, hw, ht, e2, e3⟩ := took_of h.toMid hk h2
    obtain ⟨j, hj⟩ := tidy_line ((m.take n k.slot.toNat).2.rest n)
    simp only [tidy_now, hj, rest_line, rest_now]
    rw [e2]
    refine ⟨?_, fun hm => hno (List.mem_of_mem_drop hm), fun x hx => List.mem_of_mem_drop hx, rfl⟩
    simp only [hno, false_iff, true_and]
    rcases e3 with ⟨_, _, _, _, e⟩ | ⟨_, _, ⟨e, _⟩ | e⟩ <;> rw [e] <;> simp [M.answered, M.failed, Ev.zero]
  rename_i h2
  split
  · rename_i h1
    obtain ⟨j, hj⟩ := tidy_line ({ m with line := m.line.filter (fun o => o != (n : Int)) }.rest n)
    simp only [tidy_now, hj, rest_line, rest_now]
    exact ⟨by simp [M.answered, M.failed, hln.1 h1.1], fun hm => by have := List.mem_of_mem_drop hm; simp at this, fun x hx => (List.mem_filter.1 (List.mem_of_mem_drop hx)).1, trivial⟩
  · rename_i h1
    have hno : (n : Int) ∉ m.line := fun hm => by have := hln.2 hm; omega
    exact ⟨by simp [hno], hno, fun x hx => hx, rfl⟩

/-- Closed by force: what an ask does. -/
theorem get_closed {m : M} (hc : m.closed ≠ 0) (who : Int) (a : Ask) : m.get who a = ((M.failed 5, true), m) := by unfold M.get; rw [if_pos hc]
theorem owns_closed {m : M} (hc : m.closed = 2) (who : Int) (a : Ask) : m.owns who a = 5 := by unfold M.owns; rw [if_pos hc]
theorem give_closed {m : M} (hc : m.closed = 2) (who : Int) (a : Ask) (d : Bool) : m.give who a d = (M.failed 5, m) := by unfold M.give; rw [owns_closed hc]; simp
theorem openS_closed {m : M} (hc : m.closed = 2) (who : Int) (a : Ask) : m.openS who a = (M.failed 5, m) := by unfold M.openS; rw [owns_closed hc]; simp
theorem shutS_closed {m : M} (hc : m.closed = 2) (who : Int) (a : Ask) : m.shutS who a = (M.failed 5, m) := by unfold M.shutS; rw [owns_closed hc]; simp
theorem Mid.closed_does {m : M} (h : Mid m) (hc : m.closed = 2) {n : Nat} (hn : n < m.ks.length) (a : Ask) : Mid (m.does n a).2 ∧ (m.does n a).2.closed = 2 ∧ (m.does n a).2.ks = m.ks ∧ (0 ≤ a.op → a.op ≤ 4 → (m.does n a).1.2 = true ∧ (m.does n a).1.1.e = 5) := by
  have hc0 : m.closed ≠ 0 := by omega
  unfold M.does
  split
  · rw [get_closed hc0]; exact ⟨h, hc, rfl, fun _ _ => ⟨rfl, rfl⟩⟩
  split
  · rw [give_closed hc]; exact ⟨h, hc, rfl, fun _ _ => ⟨rfl, rfl⟩⟩
  split
  · rw [give_closed hc]; exact ⟨h, hc, rfl, fun _ _ => ⟨rfl, rfl⟩⟩
  split
  · rw [openS_closed hc]; exact ⟨h, hc, rfl, fun _ _ => ⟨rfl, rfl⟩⟩
  split
  · rw [shutS_closed hc]; exact ⟨h, hc, rfl, fun _ _ => ⟨rfl, rfl⟩⟩
  split
  · exact ⟨h.reap hn, hc, rfl, fun _ _ => by omega⟩
  split
  · refine ⟨h.close _, ?_, ?_, fun _ _ => by omega⟩
    · simp only [M.close, hc]; split <;> simp
    · simp only [M.close, h.cl hc0]; rfl
  · exact ⟨h, hc, rfl, fun _ _ => by omega⟩
theorem closed_ask {m : M} (h : Inv m) (hc : m.closed = 2) {n : Nat} (hn : n < m.ks.length) (a : Ask) :
    Inv (m.ask n a).2 ∧ (m.ask n a).2.closed = 2 ∧ (m.ask n a).2.ks = m.ks ∧ ((m.ask n a).1.2.2 = true → 0 ≤ a.op → a.op ≤ 4 → (m.ask n a).1.2.1 = true ∧ (m.ask n a).1.1.e = 5) ∧ (m.ask n a).1.2.2 = m.can n a := by
  unfold M.ask
  split
  · rename_i hcan
    obtain ⟨d1, d2, d3, d4⟩ := h.toMid.closed_does hc hn a
    have ht : (m.does n a).2.tidy.closed = 2 ∧ (m.does n a).2.tidy.ks = m.ks := ⟨by rw [tidy_closed, d2], by rw [(tidy_line_closed (by omega)).2, d3]⟩
    simp only
    split
    · rename_i hb
      exact ⟨d1.inv, ht.1, ht.2, fun _ h0 h4 => ⟨rfl, (d4 h0 h4).2⟩, hcan.symm⟩
    · rename_i hb
      exact ⟨d1.inv, ht.1, ht.2, fun _ h0 h4 => absurd (d4 h0 h4).1 hb, hcan.symm⟩
  · rename_i hcan
    exact ⟨h, hc, rfl, fun h => (by cases h), by simpa using hcan⟩
theorem can_op {m : M} {n : Nat} {k : Wk} (hk : m.ks[n]? = some k) {a : Ask} (ho : 0 ≤ a.op) (ho' : a.op < 8) : m.can n a = decide (k.at' = 0) := by
  unfold M.can
  rw [has_lt (List.getElem?_eq_some_iff.1 hk).1, worker_of hk]
  simp; omega
theorem closed_wake {m : M} (h : Inv m) (hc : m.closed = 2) {n : Nat} {k : Wk} (hk : m.ks[n]? = some k) :
    Inv (m.wake n).2 ∧ (m.wake n).2.closed = 2 ∧ ((m.wake n).1.2 = !decide (k.at' = 0)) ∧ ((m.wake n).1.2 = true → (m.wake n).1.1.e = 5 ∨ (m.wake n).1.1.e = 6) ∧
      ∀ (w : Nat) (k' : Wk), (m.wake n).2.ks[w]? = some k' → k'.at' = 0 ∨ (w ≠ n ∧ m.ks[w]? = some k') := by
  have hi := h.wake (n : Int)
  have hn := (List.getElem?_eq_some_iff.1 hk).1
  have hln := h.ln n k hk
  have hat := h.ats k (get_mem hk)
  rw [h.cl (by omega)] at hln
  have h1 : k.at' ≠ 1 := fun e => by simpa using hln.1 e
  have hrest : ∀ (m' : M), m'.closed = 2 → m'.ks = m.ks → ∀ (w : Nat) (k' : Wk), (m'.rest n).tidy.ks[w]? = some k' → k'.at' = 0 ∨ (w ≠ n ∧ m.ks[w]? = some k') := by
    intro m' hc' hk' w k1 hw
    rw [(tidy_line_closed (by rw [rest_closed]; omega)).2] at hw
    simp only [M.rest, hk', Int.toNat_natCast] at hw
    rcases rest_get (m := m) hn hw with ⟨_, rfl⟩ | e
    · exact .inl rfl
    · exact .inr e
  rw [wake_of hk] at hi ⊢
  split
  · rename_i h3
    rw [if_pos h3] at hi
    exact ⟨hi, by simp only [tidy_closed]; exact hc, by simp [h3], fun _ => .inl rfl, hrest m hc rfl⟩
  rename_i h3
  rw [if_neg h3] at hi
  split
  · rename_i h2
    rw [if_pos h2] at hi
    obtain ⟨i, s, t, a, e1, hi', h45, hw, ht, e2, e3⟩ := took_of h.toMid hk h2
    refine ⟨hi, ?_, by simp [h2], fun _ => ?_, ?_⟩
    · simp only [tidy_closed, rest_closed]; rw [e2]; exact hc
    · rcases e3 with ⟨e, _⟩ | ⟨_, _, ⟨e, _⟩ | e⟩
      · omega
      · rw [e]; exact .inl rfl
      · rw [e]; exact .inr rfl
    · exact hrest _ (by rw [e2]; exact hc) (by rw [e2])
  rename_i h2
  rw [if_neg h2] at hi
  have h0 : k.at' = 0 := by omega
  rw [if_neg (by omega)] at hi ⊢
  refine ⟨hi, hc, by simp [h0], fun e => (by cases e), fun w k' hw => ?_⟩
  by_cases e : w = n
  · subst e
    rw [hk] at hw
    cases hw
    exact .inl h0
  · exact .inr ⟨e, hw⟩
/-- Where nobody waits, or is granted anything, each slot is Empty. -/
theorem closed_all {m : M} (h : Inv m) (hc : m.closed = 2) (hz : ∀ k ∈ m.ks, k.at' = 0) : ∀ s ∈ m.ss, s.state = 0 := by
  intro s hs
  have h2 := h.cl1 (by omega) s hs
  have h3 := h.cl2 hc s hs
  obtain ⟨i, hi⟩ := mem_get hs
  have hr := (right_iff s).1 (h.rt s hs)
  have hn : ∀ _ : s.state = 4 ∨ s.state = 5, False := fun h45 => by
    obtain ⟨w, hw⟩ := Int.eq_ofNat_of_zero_le hr.1.2.1.1
    obtain ⟨k, k1, k2, _⟩ := (h.fw i s hi w).1 ⟨h45, hw⟩
    have := hz k (get_mem k1)
    omega
  rcases h.sts s hs with h0 | h4 | h5
  · unfold nf at h0; omega
  · exact absurd (.inl h4) hn
  · exact absurd (.inr h5) hn
/-- Who closes by force. -/
theorem force_ask {m : M} (h : Inv m) {n : Nat} (a : Ask) (ha : a.op = 6) (hf : a.force = true) (hd : a.deadline ≤ 255) (hcan : (m.ask n a).1.2.2 = true) : Inv (m.ask n a).2 ∧ (m.ask n a).2.closed = 2 := by
  refine ⟨h.ask _ a hd, ?_⟩
  unfold M.ask at hcan ⊢
  split
  · rename_i hc
    have hd : (m.does n a).2.closed = 2 := by simp [M.does, ha, M.close, hf]
    simp only
    split <;> (simp only [tidy_closed]; exact hd)
  · rename_i hc
    rw [if_neg hc] at hcan
    cases hcan

/-- What is reaped. -/
theorem reap_count {who : Int} (ho : 0 ≤ who ∧ who ≤ 15) : ∀ (a : List Bool) (n : Int) (ss : List S), (∀ s ∈ ss, s.right = true) → (M.reapL who a n ss).2.2 + countAt (M.reapL who a n ss).1 2 = n + countAt ss 2
  | _, _, [], _ => rfl
  | a, n, s :: l, hr => by
    have hr' : ∀ t ∈ l, t.right = true := fun t ht => hr t (by simp [ht])
    unfold M.reapL
    split
    · rename_i hf
      have h2 := rest_fits hf
      split
      · rename_i hc
        simp at hc
        have ih := reap_count ho a.tail n l hr'
        simp only [countAt, List.countP_cons] at ih ⊢
        rw [step_mark (hr s (by simp)) ho h2 hc.2.1]
        simp only [h2]
        simp
        omega
      · have ih := reap_count ho a.tail (n + 1) l hr'
        simp only [countAt, List.countP_cons] at ih ⊢
        simp only [h2]
        simp [emptied, S.zero]
        omega
    · rename_i hf
      have ih := reap_count ho a n l hr'
      simp only [countAt, List.countP_cons] at ih ⊢
      omega
theorem reap_ge {who : Int} : ∀ (a : List Bool) (n : Int) (ss : List S), n ≤ (M.reapL who a n ss).2.2
  | _, n, [] => Int.le_refl n
  | a, n, s :: l => by
    unfold M.reapL
    split
    · split
      · exact reap_ge a.tail n l
      · have := reap_ge (who := who) a.tail (n + 1) l
        simp only
        omega
    · exact reap_ge a n l
theorem Still.reap {m : M} (h : Inv m) (hs : Still m) {n : Nat} (hn : n < m.ks.length) : Still (m.reap n).2 ∧ Mid (m.reap n).2 := by
  have ho := h.toMid.own hn
  have hu := upd_reap (who := (n : Int)) m.ahead 0 m.ss
  have hidle : m.line ≠ [] → ∀ s ∈ m.ss, s.state ≠ 2 := fun hl s hs' e => by
    have hc : m.closed = 0 := Classical.byContradiction fun hc => hl (h.cl hc)
    have h1 := h.fair hl s hs'
    have h2 := hs.sw s hs'
    simp [Find.fits, Find.sound, Find.swept, e, hc] at h1 h2
    rw [h1] at h2
    cases h2
  refine ⟨⟨fun s' hs' => ?_, fun h0 hl => ?_⟩, h.toMid.reap hn⟩
  · obtain ⟨i, hi⟩ := mem_get hs'
    obtain ⟨s, h1, e⟩ := hu.back (show (M.reapL (n : Int) m.ahead 0 m.ss).1[i]? = some s' from hi)
    have hw := hs.sw s (get_mem h1)
    show Find.fits s' 4 m.closed = false
    rcases e with ⟨_, rfl⟩ | ⟨hf, ⟨e1, e2, rfl⟩ | rfl⟩
    · exact hw
    · have hr := h.rt s (get_mem h1)
      rw [step_mark hr ho (rest_fits hf) e1]
      simpa [Find.fits, Find.swept] using hw
    · simp [Find.fits, Find.swept, emptied, S.zero]
  · have hl : m.line ≠ [] := hl
    have h0 : m.closed = 0 := h0
    have hg := first_none' (hs.gr h0 hl)
    refine first_none_of fun s' hs' => ?_
    obtain ⟨i, hi⟩ := mem_get hs'
    obtain ⟨s, h1, e⟩ := hu.back (show (M.reapL (n : Int) m.ahead 0 m.ss).1[i]? = some s' from hi)
    rcases e with ⟨_, rfl⟩ | ⟨hf, _⟩
    · exact hg s' (get_mem h1)
    · exact absurd (rest_fits hf) (hidle hl s (get_mem h1))
theorem reap_leased {m : M} (h : Inv m) {n : Nat} (hn : n < m.ks.length) : countAt (m.reap n).2.ss 3 = countAt m.ss 3 := by
  have ho := h.toMid.own hn
  refine upd_count (upd_reap (who := (n : Int)) m.ahead 0 m.ss) fun i s s' hi e => ?_
  rcases e with ⟨_, rfl⟩ | ⟨hf, ⟨e1, e2, rfl⟩ | rfl⟩
  · exact Iff.rfl
  · rw [step_mark (h.rt s (get_mem hi)) ho (rest_fits hf) e1]
  · have := rest_fits hf
    simp [emptied, S.zero]; omega
theorem reap_marks {m : M} (h : Inv m) {n : Nat} (hn : n < m.ks.length) : ∀ s ∈ (m.reap n).2.ss, s.state = 2 → s.marked = true := by
  have ho := h.toMid.own hn
  intro s' hs' h2
  obtain ⟨i, hi⟩ := mem_get hs'
  obtain ⟨s, h1, e⟩ := (upd_reap (who := (n : Int)) m.ahead 0 m.ss).back (show (M.reapL (n : Int) m.ahead 0 m.ss).1[i]? = some s' from hi)
  rcases e with ⟨hf, rfl⟩ | ⟨hf, ⟨e1, e2, rfl⟩ | rfl⟩
  · simp [Find.fits, h2] at hf
  · rw [step_mark (h.rt s (get_mem h1)) ho (rest_fits hf) e1]
  · simp [emptied, S.zero] at h2
theorem reap_gone {m : M} {n : Nat} (hm : ∀ s ∈ m.ss, s.state = 2 → s.marked = true) : ∀ s ∈ (m.reap n).2.ss, s.state ≠ 2 := by
  intro s' hs' h2
  obtain ⟨i, hi⟩ := mem_get hs'
  obtain ⟨s, h1, e⟩ := (upd_reap (who := (n : Int)) m.ahead 0 m.ss).back (show (M.reapL (n : Int) m.ahead 0 m.ss).1[i]? = some s' from hi)
  rcases e with ⟨hf, rfl⟩ | ⟨hf, ⟨e1, e2, rfl⟩ | rfl⟩
  · simp [Find.fits, h2] at hf
  · have := hm s (get_mem h1) (rest_fits hf)
    rw [e1] at this
    cases this
  · simp [emptied, S.zero] at h2
/-- What an ask to reap, or for counts, answers. -/
theorem ask_can {m : M} {who : Int} {a : Ask} (hcan : m.can who a = true) (hw : (m.does who a).1.2 = true) : m.ask who a = ((M.answered (m.does who a).1.1 who a, true, true), (m.does who a).2.tidy) := by
  unfold M.ask
  rw [if_pos hcan]
  simp only
  rw [if_pos hw]
theorem can_is {m : M} {who : Int} {a : Ask} (h : (m.ask who a).1.2.2 = true) : m.can who a = true := by
  unfold M.ask at h
  split at h
  · rename_i hc; exact hc
  · cases h
theorem reap_twice {m : M} (h : Inv m) {n : Nat} (a r : Ask) (ha : a.op = 7) (hr : r.op = 5) (had : a.deadline ≤ 255) (hrd : r.deadline ≤ 255) (hcan : (m.ask n a).1.2.2 = true) :
    ∀ m1 m2 m3 : M, (m.ask n a).2 = m1 → (m1.ask n r).2 = m2 → (m2.ask n r).2 = m3 →
      (m1.ask n r).1.2.1 = true ∧ (m2.ask n r).1.2.1 = true ∧ (m1.ask n r).1.1.e = 0 ∧ (m2.ask n r).1.1.e = 0 ∧ 0 ≤ (m1.ask n r).1.1.slot ∧ 0 ≤ (m2.ask n r).1.1.slot ∧ (m1.ask n r).1.1.slot + (m2.ask n r).1.1.slot = countAt m1.ss 2 ∧ countAt m3.ss 2 = 0 ∧ countAt m3.ss 3 = countAt m1.ss 3 := by
  have hc := can_is hcan
  obtain ⟨_, n', k, hn', hk, h0⟩ := can_of hc
  obtain rfl : n = n' := by omega
  have hn := (List.getElem?_eq_some_iff.1 hk).1
  have hd : m.does n a = ((m.stats, true), m) := by simp [M.does, ha]
  have e1 : (m.ask n a).2 = m.tidy := by rw [ask_can hc (by rw [hd]), hd]
  rintro m1 m2 m3 rfl rfl rfl
  rw [e1]
  have hi1 : Inv m.tidy := h.toMid.inv
  have hs1 : Still m.tidy := h.toMid.still
  have hcan1 : m.tidy.can n r = true := by
    have hkt : ∃ k', m.tidy.ks[n]? = some k' := ⟨_, List.getElem?_eq_getElem (by rw [tidy_klen]; exact hn)⟩
    obtain ⟨k', hk'⟩ := hkt
    rw [can_op hk' (by omega) (by omega)]
    obtain ⟨k0, q1, q2, q3⟩ := tidy_ks h.toMid hk'
    rw [hk] at q1
    cases q1
    rcases q3 with rfl | q3
    · simpa using h0
    · omega
  generalize m.tidy = m1 at *
  have hn1 : n < m1.ks.length := by
    obtain ⟨_, n', k1, hn', hk1, _⟩ := can_of hcan1
    have := (List.getElem?_eq_some_iff.1 hk1).1
    omega
  have hd1 : m1.does n r = (((m1.reap n).1, true), (m1.reap n).2) := by simp [M.does, hr]
  obtain ⟨hs2, hm2⟩ := hs1.reap hi1 hn1
  have e2 : m1.ask n r = ((M.answered (m1.reap n).1 n r, true, true), (m1.reap n).2) := by rw [ask_can hcan1 (by rw [hd1]), hd1]; simp only [hs2.tidy]
  have hi2 : Inv (m1.reap n).2 := by have := hm2.inv; rwa [hs2.tidy] at this
  have hcan2 : (m1.reap n).2.can n r = true := hcan1
  have hn2 : n < (m1.reap n).2.ks.length := hn1
  have hc1 := reap_count (hi1.toMid.own hn1) m1.ahead 0 m1.ss hi1.rt
  have hg1 := reap_ge (who := (n : Int)) m1.ahead 0 m1.ss
  have hl1 := reap_leased hi1 hn1
  have hmk := reap_marks hi1 hn1
  have x1 : (m1.reap n).1.slot = (M.reapL n m1.ahead 0 m1.ss).2.2 := rfl
  have x2 : (m1.reap n).2.ss = (M.reapL n m1.ahead 0 m1.ss).1 := rfl
  have x3 : (m1.reap n).1.e = 0 := rfl
  rw [e2]
  simp only
  rw [← x1, ← x2] at hc1
  rw [← x1] at hg1
  generalize (m1.reap n).1 = z1 at *
  generalize (m1.reap n).2 = m2 at *
  have hd2 : m2.does n r = (((m2.reap n).1, true), (m2.reap n).2) := by simp [M.does, hr]
  obtain ⟨hs3, hm3⟩ := hs2.reap hi2 hn2
  have e3 : m2.ask n r = ((M.answered (m2.reap n).1 n r, true, true), (m2.reap n).2) := by rw [ask_can hcan2 (by rw [hd2]), hd2]; simp only [hs3.tidy]
  have hc2 := reap_count (hi2.toMid.own hn2) m2.ahead 0 m2.ss hi2.rt
  have hg2 := reap_ge (who := (n : Int)) m2.ahead 0 m2.ss
  have hl2 := reap_leased hi2 hn2
  have hgo := reap_gone (n := n) hmk
  have y1 : (m2.reap n).1.slot = (M.reapL n m2.ahead 0 m2.ss).2.2 := rfl
  have y2 : (m2.reap n).2.ss = (M.reapL n m2.ahead 0 m2.ss).1 := rfl
  have y3 : (m2.reap n).1.e = 0 := rfl
  rw [e3]
  simp only
  rw [← y1, ← y2] at hc2
  rw [← y1] at hg2
  have hz := count_zero hgo
  refine ⟨trivial, trivial, x3, y3, ?_, ?_, ?_, hz, hl2.trans hl1⟩ <;> simp only [M.answered] <;> omega
end Go.Proofs.YtpmkgddjgebojaaGreatDoor.Mod

namespace Go.Proofs.YtpmkgddjgebojaaGreatDoor.Mod
set_option linter.unusedVariables false
set_option linter.unusedSimpArgs false
open Go.RowKit Hp Slot RowL Life

theorem dial_cl (m : M) (i : Nat) (who : Int) : (m.dial i who).2.closed = m.closed := by unfold M.dial; split <;> rfl
theorem take_cl (m : M) (i : Nat) (who : Int) : (m.take who i).2.closed = m.closed := by
  unfold M.take
  try simp only
  repeat' split
  all_goals (first | rfl | simp [M.empty, M.turn, dial_cl])
theorem get_cl (m : M) (who : Int) (a : Ask) : (m.get who a).2.closed = m.closed := by
  unfold M.get
  try simp only
  repeat' split
  all_goals (first | rfl | (simp only [dial_cl]; rfl))
theorem give_cl (m : M) (who : Int) (a : Ask) (d : Bool) : (m.give who a d).2.closed = m.closed := by
  unfold M.give
  try simp only
  repeat' split
  all_goals rfl
theorem openS_cl (m : M) (who : Int) (a : Ask) : (m.openS who a).2.closed = m.closed := by
  unfold M.openS
  repeat' split
  all_goals rfl
theorem shutS_cl (m : M) (who : Int) (a : Ask) : (m.shutS who a).2.closed = m.closed := by
  unfold M.shutS
  repeat' split
  all_goals rfl
theorem does_cl {m : M} (h : Mid m) (who : Int) (a : Ask) : m.closed ≤ (m.does who a).2.closed := by
  have hc := h.cls
  unfold M.does
  repeat' split
  · rw [get_cl]; omega
  · rw [give_cl]; omega
  · rw [give_cl]; omega
  · rw [openS_cl]; omega
  · rw [shutS_cl]; omega
  · exact Int.le_refl _
  · simp only [M.close]
    split
    · omega
    · split <;> omega
  · exact Int.le_refl _
theorem ask_cl {m : M} (h : Mid m) (who : Int) (a : Ask) : m.closed ≤ (m.ask who a).2.closed := by
  unfold M.ask
  try simp only
  repeat' split
  · rw [tidy_closed]; exact does_cl h _ _
  · rw [tidy_closed]; exact does_cl h _ _
  · exact Int.le_refl _
theorem wake_cl (m : M) (who : Int) : (m.wake who).2.closed = m.closed := by
  unfold M.wake
  try simp only
  repeat' split
  all_goals (first | rfl | (rw [tidy_closed]; first | rfl | (rw [rest_closed, take_cl])))
theorem entry_cl {m : M} (h : Mid m) (x : En) : m.closed ≤ (m.entry x).2.closed := by
  unfold M.entry
  split
  · exact ask_cl h _ _
  split
  · show m.closed ≤ (m.wake x.who).2.closed
    rw [wake_cl]; exact Int.le_refl _
  split
  · exact Int.le_refl _
  split
  · show m.closed ≤ (m.feed x.good).2.closed
    unfold M.feed; split <;> exact Int.le_refl _
  split
  · show m.closed ≤ (m.break' x.ask.slot).2.closed
    unfold M.break'; split <;> exact Int.le_refl _
  · exact Int.le_refl _

/-- No slot is leased that wasn't. -/
def Less (ss ss' : List S) : Prop := Upd (fun _ s s' => s'.state = 3 → s.state = 3) ss ss'
theorem Less.refl (ss : List S) : Less ss ss := (Upd.refl ss).mono fun _ s s' _ e h => by subst e; exact h
theorem Less.trans {a b c : List S} (h : Less a b) (k : Less b c) : Less a c := Upd.trans h k fun _ s t u _ e f g => e (f g)
theorem Less.count {a b : List S} (h : Less a b) : countAt b 3 ≤ countAt a 3 := upd_count_le h fun _ s s' _ e => e
theorem less_set {ss : List S} {i : Nat} {t : S} (h : t.state ≠ 3) : Less ss (ss.set i t) := upd_set.mono fun j s s' hj e g => by
  rcases e with ⟨_, rfl⟩ | ⟨_, rfl⟩
  · exact absurd g h
  · exact g
theorem less_turn {ss : List S} {i d : Nat} {own more : Int} (h : ∀ s, (step s d own more).state = s.state) : Less ss (turnL ss i d own more) := upd_turn.mono fun j s s' hj e g => by
  rcases e with ⟨_, rfl⟩ | ⟨_, rfl⟩
  · rw [h] at g; exact g
  · exact g
theorem less_tidy {m : M} (h : Mid m) : Less m.ss m.tidy.ss := (tidy_upd h).mono fun i s s' hi e g => by
  rcases e with rfl | ⟨rfl, _⟩ | ⟨_, h45, _⟩
  · exact g
  · simp [emptied, S.zero] at g
  · omega
theorem less_does {m : M} (h : Mid m) (hc : m.closed ≠ 0) {n : Nat} (hn : n < m.ks.length) (a : Ask) : Less m.ss (m.does n a).2.ss := by
  have hg : ∀ d, Less m.ss (m.give n a d).2.ss := fun d => by
    unfold M.give
    repeat' split
    · exact Less.refl _
    · exact Less.refl _
    · exact less_set (by simp [emptied, S.zero])
    · rename_i hx
      exact absurd (.inr (.inr (.inr hc))) hx
  unfold M.does
  repeat' split
  · rw [get_closed hc]; exact Less.refl _
  · exact hg _
  · exact hg _
  · unfold M.openS
    repeat' split
    · exact Less.refl _
    · exact Less.refl _
    · exact less_turn fun s => step_open.1
    · exact Less.refl _
  · unfold M.shutS
    repeat' split
    · exact Less.refl _
    · exact less_turn fun s => step_shut.1
    · exact Less.refl _
  · refine (upd_reap (who := (n : Int)) m.ahead 0 m.ss).mono fun i s s' hi e g => ?_
    rcases e with ⟨_, rfl⟩ | ⟨hf, ⟨e1, e2, rfl⟩ | rfl⟩
    · exact g
    · rw [step_mark (h.rt s (get_mem hi)) (h.own hn) (rest_fits hf) e1] at g; exact g
    · simp [emptied, S.zero] at g
  · exact Less.refl _
  · exact Less.refl _
theorem entry_less {m : M} (h : Inv m) (hc : m.closed ≠ 0) {x : En} (hx : x.ok) : Less m.ss (m.entry x).2.ss := by
  unfold M.entry
  split
  · show Less m.ss (m.ask x.who x.ask).2.ss
    unfold M.ask
    split
    · rename_i hcan
      obtain ⟨ho, n, k, hn, hk, h0⟩ := can_of hcan
      rw [hn]
      have hnl := (List.getElem?_eq_some_iff.1 hk).1
      have hd := (less_does h.toMid hc hnl x.ask).trans (less_tidy (h.toMid.does hk h0 x.ask hx.1.2))
      simp only
      split <;> exact hd
    · exact Less.refl _
  split
  · show Less m.ss (m.wake x.who).2.ss
    by_cases hh : m.has x.who = true
    · obtain ⟨n, hn, hnl⟩ := has_nat hh
      rw [hn]
      have hk : m.ks[n]? = some m.ks[n] := List.getElem?_eq_getElem hnl
      rw [wake_of hk]
      have hm := fun h2 => h.toMid.rest hk h2
      split
      · rename_i h3
        have h1 := hm (by omega)
        rw [filter_none (fun hx => by have := (h.ln n _ hk).2 hx; omega)] at h1
        exact less_tidy (m := m.rest n) (by simpa [M.rest] using h1)
      split
      · rename_i h2
        obtain ⟨i, s, t, a, e1, hi, h45, hw, ht, e2, e3⟩ := took_of h.toMid hk h2
        rw [e2]
        rcases e3 with ⟨e, _⟩ | ⟨e, _⟩
        · exact absurd e hc
        · have h1 := (h.toMid.took hk h2 e1 ht (.inl e)).out a m.now
          exact (less_set (by omega)).trans (less_tidy (m := { m with ss := m.ss.set i t, ahead := a }.rest n) (by simpa [M.rest] using h1))
      split
      · have h1 := hm (by omega)
        exact less_tidy (m := { m with line := m.line.filter (fun o => o != (n : Int)) }.rest n) (by simpa [M.rest] using h1)
      · exact Less.refl _
    · unfold M.wake
      rw [if_pos (by simpa using hh)]
      exact Less.refl _
  split
  · exact Less.refl _
  split
  · show Less m.ss (m.feed x.good).2.ss
    unfold M.feed; split <;> exact Less.refl _
  split
  · show Less m.ss (m.break' x.ask.slot).2.ss
    unfold M.break'
    split
    · exact less_turn fun s => step_break.1
    · exact Less.refl _
  · exact Less.refl _

/-- Counts. -/
theorem tidy_leased {m : M} (h : Inv m) : countAt m.tidy.ss 3 = countAt m.ss 3 := by
  by_cases hc : m.closed = 2
  · rw [count_zero (h.toMid.inv.cl2 (by rw [tidy_closed]; exact hc)), count_zero (h.cl2 hc)]
  · refine upd_count (tidy_upd h.toMid) fun i s s' hi e => ?_
    rcases e with rfl | ⟨rfl, e⟩ | ⟨_, h45, _, e⟩
    · exact Iff.rfl
    · have := swept_of e
      simp [emptied, S.zero]; omega
    · omega
theorem tidy_at0 {m : M} (h : Mid m) {w : Nat} {k' : Wk} (hk : m.tidy.ks[w]? = some k') : ∃ k, m.ks[w]? = some k ∧ (k'.at' = 0 ↔ k.at' = 0) := by
  obtain ⟨k, h1, h2, h3⟩ := tidy_ks h hk
  refine ⟨k, h1, ?_⟩
  rcases h3 with rfl | h3
  · exact Iff.rfl
  · omega
theorem countL_at (ss : List S) (a : Int) : M.countL (fun s => s.state == a) ss = (countAt ss a : Int) := by unfold M.countL countAt; rw [List.countP_eq_length_filter]
theorem stats_leased (m : M) : m.stats.leased = (countAt m.ss 3 : Int) := countL_at m.ss 3
theorem stats_all (m : M) : m.stats.idle + m.stats.leased + m.stats.empty + m.stats.other = (m.ss.length : Int) := by
  unfold M.stats M.countL
  simp only
  induction m.ss with
  | nil => rfl
  | cons s l ih =>
    simp only [List.filter_cons, List.length_cons]
    by_cases h2 : s.state = 2
    · simp [h2]; omega
    · by_cases h3 : s.state = 3
      · simp [h3]; omega
      · by_cases h0 : s.state = 0
        · simp [h0]; omega
        · simp [h2, h3, h0]; omega
theorem stats_ask (m : M) (who : Int) {a : Ask} (ha : a.op = 7) : m.ask who a = if m.can who a then ((M.answered m.stats who a, true, true), m.tidy) else ((Ev.zero, false, false), m) := by
  unfold M.ask
  simp [M.does, ha]

/-- Who is served: of the line only the first ones go, but who is woken; one may come behind. -/
def fairL (d l : List Int) : Prop := (∃ j, l = d.drop j) ∨ ∃ j w, w ∉ d ∧ l = (d ++ [w]).drop j
theorem fairL.drop {d l : List Int} (h : fairL d l) (k : Nat) : fairL d (l.drop k) := by
  rcases h with ⟨j, rfl⟩ | ⟨j, w, hw, rfl⟩
  · exact .inl ⟨j + k, by rw [List.drop_drop]⟩
  · exact .inr ⟨j + k, w, hw, by rw [List.drop_drop]⟩
theorem fairL.refl (d : List Int) : fairL d d := .inl ⟨0, rfl⟩
theorem fairL.nil (d : List Int) : fairL d [] := .inl ⟨d.length, by simp⟩
theorem fair_pos {d l : List Int} (hd : d.Nodup) (h : fairL d l) {w0 : Int} (hl : l[0]? = some w0) {n : Nat} (he : d.length ≤ n ∨ d[n]? = some w0) (k : Nat) (y : Int) (hy : d[n + k]? = some y) : l[k]? = some y := by
  have hlt := (List.getElem?_eq_some_iff.1 hy).1
  have hn : d[n]? = some w0 := he.resolve_left (by omega)
  have uniq : ∀ j, d[j]? = some w0 → j = n := fun j hj => by
    have h1 := (List.getElem?_eq_some_iff.1 hj).1
    have h2 := (List.getElem?_eq_some_iff.1 hn).1
    refine (List.getElem_inj (h₀ := h1) (h₁ := h2) hd).1 ?_
    rw [(List.getElem?_eq_some_iff.1 hj).2, (List.getElem?_eq_some_iff.1 hn).2]
  rcases h with ⟨j, rfl⟩ | ⟨j, w, hw, rfl⟩
  · rw [List.getElem?_drop] at hl
    have := uniq j (by simpa using hl)
    subst this
    rw [List.getElem?_drop]; exact hy
  · rw [List.getElem?_drop] at hl
    by_cases hj : j < d.length
    · rw [List.getElem?_append_left (by omega)] at hl
      have := uniq j (by simpa using hl)
      subst this
      rw [List.getElem?_drop, List.getElem?_append_left (by omega)]; exact hy
    · rw [List.getElem?_append_right (by omega)] at hl
      have hx : w0 ∈ [w] := List.mem_of_getElem? hl
      simp at hx
      subst hx
      exact absurd (List.mem_of_getElem? hn) hw
theorem does_fair {m : M} (h : Mid m) {n : Nat} {k : Wk} (hk : m.ks[n]? = some k) (h0 : k.at' = 0) (a : Ask) : fairL m.line (m.does n a).2.line := by
  have hl : (n : Int) ∉ m.line := fun hm => by have := (h.ln n k hk).2 hm; omega
  have hg : ∀ d, fairL m.line (m.give n a d).2.line := fun d => by
    unfold M.give
    repeat' split
    all_goals exact fairL.refl _
  unfold M.does
  repeat' split
  · unfold M.get
    simp only
    repeat' split
    all_goals first
      | exact fairL.refl _
      | exact .inr ⟨0, n, hl, rfl⟩
      | (have : ∀ (m' : M) i, (m'.dial i (n : Int)).2.line = m'.line := fun m' i => by unfold M.dial; split <;> rfl
         rw [this]; exact fairL.refl _)
  · exact hg _
  · exact hg _
  · unfold M.openS
    repeat' split
    all_goals exact fairL.refl _
  · unfold M.shutS
    repeat' split
    all_goals exact fairL.refl _
  · exact fairL.refl _
  · exact fairL.nil _
  · exact fairL.refl _
theorem ask_fair {m : M} (h : Mid m) (who : Int) (a : Ask) : fairL m.line (m.ask who a).2.line := by
  unfold M.ask
  split
  · rename_i hc
    obtain ⟨ho, n, k, rfl, hk, h0⟩ := can_of hc
    obtain ⟨j, hj⟩ := tidy_line (m.does n a).2
    have hd := (does_fair h hk h0 a).drop j
    rw [← hj] at hd
    simp only
    split <;> exact hd
  · exact fairL.refl _
theorem drop_none {l : List Int} {x : Int} (h : x ∉ l) : dropped l x = l := filter_none h
theorem wake_fair {m : M} (h : Inv m) (who : Int) : fairL (dropped m.line (if (m.wake who).1.2 = true then who else -1)) (m.wake who).2.line := by
  have hneg : (-1 : Int) ∉ m.line := fun hm => by have := h.lb _ hm; omega
  by_cases hh : m.has who = true
  · obtain ⟨n, rfl, hnl⟩ := has_nat hh
    have hk : m.ks[n]? = some m.ks[n] := List.getElem?_eq_getElem hnl
    have hln := h.ln n _ hk
    rw [wake_of hk]
    split
    · rename_i h3
      obtain ⟨j, hj⟩ := tidy_line (m.rest n)
      simp only [if_true]
      rw [hj, drop_none (fun hm => by have := hln.2 hm; omega)]
      exact (fairL.refl m.line).drop j
    split
    · rename_i h2
      obtain ⟨i, s, t, a, e1, hi, h45, hw, ht, e2, e3⟩ := took_of h.toMid hk h2
      obtain ⟨j, hj⟩ := tidy_line ((m.take n (m.ks[n]).slot.toNat).2.rest n)
      simp only [if_true]
      rw [hj, drop_none (fun hm => by have := hln.2 hm; omega), e2]
      exact (fairL.refl m.line).drop j
    split
    · obtain ⟨j, hj⟩ := tidy_line ({ m with line := m.line.filter (fun o => o != (n : Int)) }.rest n)
      simp only [if_true]
      rw [hj]
      exact (fairL.refl (dropped m.line n)).drop j
    · simp only [Bool.false_eq_true, if_false]
      rw [drop_none hneg]
      exact fairL.refl _
  · have e : m.wake who = ((Ev.zero, false), m) := by
      unfold M.wake
      rw [if_pos (by simpa using hh)]
    rw [e]
    simp only [Bool.false_eq_true, if_false]
    rw [drop_none hneg]
    exact fairL.refl _
end Go.Proofs.YtpmkgddjgebojaaGreatDoor.Mod

namespace Go.Proofs.YtpmkgddjgebojaaGreatDoor.Mod
set_option linter.unusedVariables false
set_option linter.unusedSimpArgs false
open Go.RowKit Hp Slot RowL Life

/-- What was told of who has which slot (one more than who), and with which Gen. -/
structure OwnI (m : M) (ws gs : List Int) (e : Int) : Prop where
  lw : ws.length = m.ss.length
  lg : gs.length = m.ss.length
  gn : ∀ (k : Nat) (s : S) (g : Int), m.ss[k]? = some s → gs[k]? = some g → g ≤ s.gen ∧ s.gen ≤ e
  ow : m.closed < 2 → ∀ (k : Nat) (s : S) (v g : Int), m.ss[k]? = some s → ws[k]? = some v → gs[k]? = some g → (s.state = 3 ↔ v ≠ 0) ∧ (v ≠ 0 → s.own = v - 1 ∧ s.gen = g)
  op : ∀ k ∈ m.ks, k.at' ≠ 0 → k.ask.op = 0
def keep3 (s s' : S) : Prop := (s.gen ≤ s'.gen ∧ s'.gen ≤ s.gen + 1) ∧ (s'.state = 3 ↔ s.state = 3) ∧ (s.state = 3 → s'.own = s.own ∧ s'.gen = s.gen)
theorem keep3.refl (s : S) : keep3 s s := ⟨by omega, Iff.rfl, fun _ => ⟨rfl, rfl⟩⟩
theorem keep3_of {s s' : S} (hg : s'.gen = s.gen) (h : s.state ≠ 3) (h' : s'.state ≠ 3) : keep3 s s' := ⟨by omega, by simp [h, h'], fun e => absurd e h⟩
theorem keep3_same {s s' : S} (hs : s'.state = s.state) (ho : s'.own = s.own) (hg : s'.gen = s.gen) : keep3 s s' := ⟨by omega, by rw [hs], fun _ => ⟨ho, hg⟩⟩
section
variable {m : M} {ws gs : List Int} {e : Int}
/-- Slots that are kept as they are, for whoever has them. -/
theorem OwnI.keep (h : OwnI m ws gs e) {ss' : List S} (hu : Upd (fun _ => keep3) m.ss ss') (ks' : List Wk) (line : List Int) (ahead : List Bool) (c : Int) (hc : m.closed ≤ c) (hop : ∀ k ∈ ks', k.at' ≠ 0 → k.ask.op = 0) :
    OwnI { m with ss := ss', ks := ks', line := line, ahead := ahead, closed := c } ws gs (e + 1) := by
  refine ⟨h.lw.trans hu.1.symm, h.lg.trans hu.1.symm, fun k s' g hs hg => ?_, fun hcl k s' v g hs hv hg => ?_, hop⟩
  · obtain ⟨s, h1, h2⟩ := hu.back hs
    have h3 := h.gn k s g h1 hg
    have h4 := h2.1
    omega
  · obtain ⟨s, h1, h2⟩ := hu.back hs
    have h3 := h.ow (by simp only at hcl; omega) k s v g h1 hv hg
    rw [h2.2.1]
    refine ⟨h3.1, fun hne => ?_⟩
    have h4 := h2.2.2 (h3.1.2 hne)
    rw [h4.1, h4.2]
    exact h3.2 hne
theorem OwnI.up (h : OwnI m ws gs e) : OwnI m ws gs (e + 1) := h.keep ((Upd.refl m.ss).mono fun _ s s' _ e => by subst e; exact keep3.refl _) m.ks m.line m.ahead m.closed (Int.le_refl _) h.op
/-- A slot is leased. -/
theorem OwnI.lease (h : OwnI m ws gs e) (hc : m.closed = 0) {i : Nat} {s t : S} (hi : m.ss[i]? = some s) (hs : s.state ≠ 3) (ht : t.state = 3) {n : Int} (hn : 0 ≤ n) (ho : t.own = n) (hg : t.gen = s.gen + 1) (ks' : List Wk) (ahead : List Bool) (hop : ∀ k ∈ ks', k.at' ≠ 0 → k.ask.op = 0) :
    (i < m.ss.length ∧ ws[i]? = some 0 ∧ ∃ g, gs[i]? = some g ∧ g < t.gen) ∧ OwnI { m with ss := m.ss.set i t, ks := ks', ahead := ahead } (ws.set i (n + 1)) (gs.set i t.gen) (e + 1) := by
  have hil := (List.getElem?_eq_some_iff.1 hi).1
  have hlw := h.lw
  have hlg := h.lg
  obtain ⟨v, hv⟩ : ∃ v, ws[i]? = some v := ⟨_, List.getElem?_eq_getElem (by omega)⟩
  obtain ⟨g, hgi⟩ : ∃ g, gs[i]? = some g := ⟨_, List.getElem?_eq_getElem (by omega)⟩
  have h1 := h.ow (by omega) i s v g hi hv hgi
  have h2 := h.gn i s g hi hgi
  have hv0 : v = 0 := Classical.byContradiction fun e => hs (h1.1.2 e)
  refine ⟨⟨hil, by rw [hv, hv0], g, hgi, by omega⟩, by simpa using h.lw, by simpa using h.lg, fun k s' g' hk hg' => ?_, fun hcl k s' v' g' hk hv' hg' => ?_, hop⟩
  · simp only at hk
    rw [List.getElem?_set] at hk hg'
    by_cases e1 : i = k
    · subst e1
      rw [if_pos rfl, if_pos (by omega)] at hk hg'
      cases hk
      cases hg'
      omega
    · rw [if_neg e1] at hk hg'
      have := h.gn k s' g' hk hg'
      omega
  · simp only at hk
    rw [List.getElem?_set] at hk hg' hv'
    by_cases e1 : i = k
    · subst e1
      rw [if_pos rfl, if_pos (by omega)] at hk hg' hv'
      cases hk
      cases hg'
      cases hv'
      refine ⟨⟨fun _ => by omega, fun _ => ht⟩, fun _ => ⟨by omega, rfl⟩⟩
    · rw [if_neg e1] at hk hg' hv'
      exact h.ow hcl k s' v' g' hk hv' hg'
/-- A slot is given back. -/
theorem OwnI.giveBack (h : OwnI m ws gs e) (hc : m.closed < 2) {i : Nat} {s t : S} (hi : m.ss[i]? = some s) (hs : s.state = 3) (ht : t.state ≠ 3) (hg : t.gen = s.gen) :
    (i < m.ss.length ∧ ws[i]? = some (s.own + 1) ∧ gs[i]? = some s.gen) ∧ OwnI { m with ss := m.ss.set i t } (ws.set i 0) gs (e + 1) := by
  have hil := (List.getElem?_eq_some_iff.1 hi).1
  have hlw := h.lw
  have hlg := h.lg
  obtain ⟨v, hv⟩ : ∃ v, ws[i]? = some v := ⟨_, List.getElem?_eq_getElem (by omega)⟩
  obtain ⟨g, hgi⟩ : ∃ g, gs[i]? = some g := ⟨_, List.getElem?_eq_getElem (by omega)⟩
  have h1 := h.ow hc i s v g hi hv hgi
  have hv0 := h1.1.1 hs
  have h2 := h1.2 hv0
  refine ⟨⟨hil, by rw [hv]; congr 1; omega, by rw [hgi, h2.2]⟩, by simpa using h.lw, by simpa using h.lg, fun k s' g' hk hg' => ?_, fun hcl k s' v' g' hk hv' hg' => ?_, h.op⟩
  · simp only at hk
    rw [List.getElem?_set] at hk
    by_cases e1 : i = k
    · subst e1
      rw [if_pos rfl, if_pos (by omega)] at hk
      cases hk
      have := h.gn i s g' hi hg'
      omega
    · rw [if_neg e1] at hk
      have := h.gn k s' g' hk hg'
      omega
  · simp only at hk
    rw [List.getElem?_set] at hk hv'
    by_cases e1 : i = k
    · subst e1
      rw [if_pos rfl, if_pos (by omega)] at hk hv'
      cases hk
      cases hv'
      exact ⟨by simp [ht], fun e => absurd rfl e⟩
    · rw [if_neg e1] at hk hv'
      exact h.ow hcl k s' v' g' hk hv' hg'
theorem tidy_op (hm : Mid m) (h : ∀ k ∈ m.ks, k.at' ≠ 0 → k.ask.op = 0) : ∀ k ∈ m.tidy.ks, k.at' ≠ 0 → k.ask.op = 0 := fun k' hk' hne => by
  obtain ⟨w, hw⟩ := mem_get hk'
  obtain ⟨k, h1, h2, h3⟩ := tidy_ks hm hw
  rw [h2]
  refine h k (get_mem h1) ?_
  rcases h3 with rfl | h3
  · exact hne
  · omega
theorem OwnI.tidy (h : OwnI m ws gs e) (hm : Mid m) : OwnI m.tidy ws gs e := by
  have hu := tidy_upd hm
  refine ⟨h.lw.trans hu.1.symm, h.lg.trans hu.1.symm, fun k s' g hs hg => ?_, fun hcl k s' v g hs hv hg => ?_, tidy_op hm h.op⟩
  · obtain ⟨s, h1, h2⟩ := hu.back hs
    have h3 := h.gn k s g h1 hg
    rcases h2 with rfl | ⟨rfl, _⟩ | ⟨_, _, e1, _⟩
    · exact h3
    · exact h3
    · rw [e1]; exact h3
  · obtain ⟨s, h1, h2⟩ := hu.back hs
    rw [tidy_closed] at hcl
    have h3 := h.ow hcl k s v g h1 hv hg
    rcases h2 with rfl | ⟨rfl, e1⟩ | ⟨_, h45, _, e1⟩
    · exact h3
    · have h4 := swept_of e1
      have hv0 : ¬ v ≠ 0 := fun e => by have := h3.1.2 e; omega
      exact ⟨⟨fun e => by simp [emptied, S.zero] at e, fun e => absurd e hv0⟩, fun e => absurd e hv0⟩
    · have hv0 : ¬ v ≠ 0 := fun e => by have := h3.1.2 e; omega
      exact ⟨⟨fun e => by omega, fun e => absurd e hv0⟩, fun e => absurd e hv0⟩
end

/-- What an event tells. -/
def ownW (ws : List Int) (y : Ev) : List Int := if y.e ≠ 0 then ws else if y.ask.op = 0 then ws.set y.slot.toNat (y.who + 1) else if y.ask.op = 1 ∨ y.ask.op = 2 then ws.set y.ask.slot.toNat 0 else ws
def ownG (gs : List Int) (y : Ev) : List Int := if y.e ≠ 0 then gs else if y.ask.op = 0 then gs.set y.slot.toNat y.gen else gs
def ownOk (ws gs : List Int) (n : Nat) (y : Ev) : Prop := y.e = 0 →
  (y.ask.op = 0 → ∃ i : Nat, y.slot = (i : Int) ∧ i < n ∧ ws[i]? = some 0 ∧ ∃ g, gs[i]? = some g ∧ g < y.gen) ∧
  (y.ask.op = 1 ∨ y.ask.op = 2 → ∃ i : Nat, y.ask.slot = (i : Int) ∧ i < n ∧ ws[i]? = some (y.who + 1) ∧ gs[i]? = some y.ask.gen)
def OwnE (m m' : M) (ws gs : List Int) (e : Int) (y : Ev) : Prop := ownOk ws gs m.ss.length y ∧ OwnI m' (ownW ws y) (ownG gs y) (e + 1)
section
variable {m m' : M} {ws gs : List Int} {e : Int} {y : Ev}
theorem OwnE.no (h : OwnI m' ws gs (e + 1)) (hy : y.e ≠ 0) : OwnE m m' ws gs e y := ⟨fun e0 => absurd e0 hy, by unfold ownW ownG; rw [if_pos hy, if_pos hy]; exact h⟩
theorem OwnE.other (h : OwnI m' ws gs (e + 1)) (h0 : y.ask.op ≠ 0) (h1 : y.ask.op ≠ 1) (h2 : y.ask.op ≠ 2) : OwnE m m' ws gs e y := by
  refine ⟨fun _ => ⟨fun e => absurd e h0, fun e => by omega⟩, ?_⟩
  unfold ownW ownG
  rw [if_neg h0, if_neg h0, if_neg (show ¬ (y.ask.op = 1 ∨ y.ask.op = 2) by omega)]
  simp only [ite_self]
  exact h
theorem OwnE.got {i : Nat} {n g : Int} (hp : i < m.ss.length ∧ ws[i]? = some 0 ∧ ∃ g', gs[i]? = some g' ∧ g' < g) (h : OwnI m' (ws.set i (n + 1)) (gs.set i g) (e + 1)) (h0 : y.ask.op = 0) (he : y.e = 0) (hs : y.slot = (i : Int)) (hg : y.gen = g) (hw : y.who = n) : OwnE m m' ws gs e y := by
  subst hg hw
  refine ⟨fun _ => ⟨fun _ => ⟨i, hs, hp⟩, fun e => by omega⟩, ?_⟩
  unfold ownW ownG
  rw [if_neg (show ¬ y.e ≠ 0 by omega), if_neg (show ¬ y.e ≠ 0 by omega), if_pos h0, if_pos h0, hs, Int.toNat_natCast]
  exact h
theorem OwnE.gave {i : Nat} (hp : i < m.ss.length ∧ ws[i]? = some (y.who + 1) ∧ gs[i]? = some y.ask.gen) (h : OwnI m' (ws.set i 0) gs (e + 1)) (h0 : y.ask.op = 1 ∨ y.ask.op = 2) (he : y.e = 0) (hs : y.ask.slot = (i : Int)) : OwnE m m' ws gs e y := by
  refine ⟨fun _ => ⟨fun e => by omega, fun _ => ⟨i, hs, hp⟩⟩, ?_⟩
  unfold ownW ownG
  rw [if_neg (show ¬ y.e ≠ 0 by omega), if_neg (show ¬ y.e ≠ 0 by omega), if_neg (show ¬ y.ask.op = 0 by omega), if_neg (show ¬ y.ask.op = 0 by omega), if_pos h0, hs, Int.toNat_natCast]
  exact h
theorem OwnE.tidy (h : OwnE m m' ws gs e y) (hm : Mid m') : OwnE m m'.tidy ws gs e y := ⟨h.1, h.2.tidy hm⟩
end

theorem gen_up {s : S} {e : Int} (hr : s.right = true) (he : s.gen ≤ e) (h4 : e ≤ 4000) : (s.gen + 1) % 4096 = s.gen + 1 := by
  have := ((right_iff s).1 hr).1.2.2.2.2.1
  omega
section
variable {m : M} {ws gs : List Int} {e : Int}
theorem OwnI.gen_le (h : OwnI m ws gs e) {i : Nat} {s : S} (hi : m.ss[i]? = some s) : s.gen ≤ e := by
  have hil := (List.getElem?_eq_some_iff.1 hi).1
  have hlg := h.lg
  exact (h.gn i s _ hi (List.getElem?_eq_getElem (by omega))).2
theorem own_get (h : Mid m) (ho : OwnI m ws gs e) (h4 : e ≤ 4000) {n : Nat} (hn : n < m.ks.length) (a : Ask) (ha : a.op = 0) :
    ((m.get n a).1.2 = true → OwnE m (m.get n a).2 ws gs e (M.answered (m.get n a).1.1 n a)) ∧ ((m.get n a).1.2 = false → OwnI (m.get n a).2 ws gs (e + 1)) := by
  have hw := h.own hn
  unfold M.get
  split
  · exact ⟨fun _ => OwnE.no ho.up (by simp [M.answered, M.failed]), fun e => by cases e⟩
  rename_i hc
  have hc : m.closed = 0 := by simpa using hc
  split
  · rename_i i hi
    obtain ⟨s, h1, h2⟩ := first_some' hi
    obtain ⟨f1, f2, f3⟩ := own_fits h2
    have hr := h.rt s (get_mem h1)
    have e1 : m.turn i 3 n 0 = { m with ss := m.ss.set i { leased s n with version := 0 } } := by unfold M.turn; rw [turnL_set h1, step_lease hr hw f1 f2]
    have hl := ho.lease hc h1 (t := { leased s n with version := 0 }) (n := n) (by omega) rfl (by omega) rfl (gen_up hr (ho.gen_le h1) h4) m.ks m.ahead ho.op
    simp only
    rw [e1]
    refine ⟨fun _ => OwnE.got hl.1 hl.2 ha rfl rfl ?_ rfl, fun e => by cases e⟩
    simp only [M.answered, M.leased]
    rw [slot_of (m := { m with ss := m.ss.set i { leased s n with version := 0 } }) (set_get h1)]
  split
  · rename_i i hi
    obtain ⟨s, h1, h2⟩ := first_some' hi
    obtain ⟨f1, f2⟩ := any_fits h2
    have hr := h.rt s (get_mem h1)
    have e1 : m.turn i 3 n 0 = { m with ss := m.ss.set i { leased s n with version := 0 } } := by unfold M.turn; rw [turnL_set h1, step_lease hr hw f1 f2]
    have hl := ho.lease hc h1 (t := { leased s n with version := 0 }) (n := n) (by omega) rfl (by omega) rfl (gen_up hr (ho.gen_le h1) h4) m.ks m.ahead ho.op
    have hrt : ∀ u ∈ (m.ss.set i { leased s n with version := 0 }), u.right = true := fun u hu => by
      rcases List.mem_or_eq_of_mem_set hu with hu | rfl
      · exact h.rt u hu
      · exact leased_right hr hw
    simp only
    rw [e1]
    unfold M.move
    simp only
    have hmv : Upd (fun _ => fun u u' => (u.state = 2 ∧ u'.state = 2 ∧ u'.gen = u.gen) ∨ u' = u) (m.ss.set i { leased s n with version := 0 }) (M.moveL (m.slot i).own n true (m.ss.set i { leased s n with version := 0 })) := (upd_move _ _).mono fun j u u' hj e => by
      rcases e with rfl | ⟨hf, rfl⟩
      · exact .inr rfl
      · obtain ⟨q1, q2, q3⟩ := own_fits hf
        rw [step_move (hrt u (get_mem hj)) hw q1]
        exact .inl ⟨q1, rfl, rfl⟩
    refine ⟨fun _ => ?_, fun e => by cases e⟩
    have h5 : OwnI { m with ss := M.moveL (m.slot i).own n true (m.ss.set i { leased s n with version := 0 }) } (ws.set i (n + 1)) (gs.set i ({ leased s n with version := 0 } : S).gen) (e + 1) := by
      obtain ⟨l1, l2, l3, l4, l5⟩ := hl.2
      refine ⟨l1.trans hmv.1.symm, l2.trans hmv.1.symm, fun k s' g hs hg => ?_, fun hcl k s' v g hs hv hg => ?_, ho.op⟩
      · obtain ⟨u, u1, u2⟩ := hmv.back hs
        have := l3 k u g u1 hg
        rcases u2 with u2 | rfl
        · omega
        · exact this
      · obtain ⟨u, u1, u2⟩ := hmv.back hs
        have h6 := l4 hcl k u v g u1 hv hg
        rcases u2 with u2 | rfl
        · have hv0 : ¬ v ≠ 0 := fun e => by have := h6.1.2 e; omega
          exact ⟨⟨fun e => by omega, fun e => absurd e hv0⟩, fun e => absurd e hv0⟩
        · exact h6
    refine OwnE.got hl.1 h5 ha rfl rfl ?_ rfl
    simp only [M.answered, M.leased]
    obtain ⟨u', v1, v2⟩ := hmv.2 i _ (set_get h1)
    rw [slot_of (m := { m with ss := M.moveL (m.slot i).own n true (m.ss.set i { leased s n with version := 0 }) }) v1]
    rcases v2 with v2 | rfl
    · exact absurd v2.1 (by simp [leased, «to»])
    · rfl
  split
  · rename_i i hi
    obtain ⟨s, h1, h2⟩ := first_some' hi
    have f1 := free_fits h2
    have hr := h.rt s (get_mem h1)
    obtain ⟨t, t1, t2, t3⟩ := dial0_view h1 hr hw f1
    simp only
    refine ⟨fun _ => ?_, fun e => by cases e⟩
    rw [t2]
    rcases t3 with ⟨q1, q2, q3, q4⟩ | ⟨q1, q3, q4⟩
    · have q3' := q3
      rw [gen_up hr (ho.gen_le h1) h4] at q3'
      have hl := ho.lease hc h1 (t := t) (n := n) (by omega) q1 (by omega) q2 q3' m.ks m.ahead.tail ho.op
      rw [q4]
      exact OwnE.got hl.1 hl.2 ha rfl rfl rfl rfl
    · rw [q4]
      refine OwnE.no (ho.keep (upd_set.mono fun j u u' hj e => ?_) m.ks m.line m.ahead.tail m.closed (Int.le_refl _) ho.op) (by simp [M.answered, M.failed])
      rcases e with ⟨rfl, rfl⟩ | ⟨_, rfl⟩
      · rw [h1] at hj; cases hj; exact keep3_of q3 (by omega) (by omega)
      · exact keep3.refl u'
  split
  · exact ⟨fun _ => OwnE.no ho.up (by simp [M.answered, M.failed]), fun e => by cases e⟩
  split
  · exact ⟨fun _ => OwnE.no ho.up (by simp [M.answered, M.failed]), fun e => by cases e⟩
  · refine ⟨fun e => (by cases e), fun _ => ?_⟩
    refine ho.keep ((Upd.refl m.ss).mono fun _ s s' _ e => by subst e; exact keep3.refl _) _ _ m.ahead m.closed (Int.le_refl _) fun k hk hne => ?_
    rcases List.mem_or_eq_of_mem_set hk with hk | rfl
    · exact ho.op k hk hne
    · exact ha
theorem own_give (h : Mid m) (ho : OwnI m ws gs e) {n : Nat} (hn : n < m.ks.length) (a : Ask) (d : Bool) (ha : a.op = 1 ∨ a.op = 2) : OwnE m (m.give n a d).2 ws gs e (M.answered (m.give n a d).1 n a) := by
  have hwo := h.own hn
  unfold M.give
  split
  · rename_i hw
    exact OwnE.no ho.up (by simpa [M.answered, M.failed] using hw)
  rename_i hw
  obtain ⟨hc2, i, s, e1, hi, q1, q2, q3⟩ := owns_of (Classical.byContradiction fun e => hw e)
  have hr := h.rt s (get_mem hi)
  have hcl := h.cls
  rw [e1, Int.toNat_natCast, slot_of hi]
  split
  · exact OwnE.no ho.up (by simp [M.answered, M.failed])
  rename_i hst
  simp only
  split
  · have hg := ho.giveBack (by omega) hi q1 (t := emptied s) (by simp [emptied, S.zero]) rfl
    unfold M.empty
    rw [slot_of hi]
    exact OwnE.gave (i := i) ⟨hg.1.1, by rw [hg.1.2.1, q2]; rfl, by rw [hg.1.2.2, q3]; rfl⟩ hg.2 ha rfl e1
  · have e4 : m.turn i 4 n 0 = { m with ss := m.ss.set i { «to» s n 2 with version := 0 } } := by
      unfold M.turn
      rw [turnL_set hi, step_rest hr hwo q1 q2 (Classical.byContradiction fun e => hst ⟨e, by cases d <;> simp_all⟩)]
    have hg := ho.giveBack (by omega) hi q1 (t := { «to» s n 2 with version := 0 }) (by simp [«to»]) rfl
    rw [e4]
    exact OwnE.gave (i := i) ⟨hg.1.1, by rw [hg.1.2.1, q2]; rfl, by rw [hg.1.2.2, q3]; rfl⟩ hg.2 ha rfl e1
theorem OwnI.turn (ho : OwnI m ws gs e) {i d : Nat} {own more : Int} (h : ∀ s, (step s d own more).state = s.state ∧ (step s d own more).own = s.own ∧ (step s d own more).gen = s.gen) : OwnI (m.turn i d own more) ws gs (e + 1) :=
  ho.keep (upd_turn.mono fun j u u' hj e => by
    rcases e with ⟨_, rfl⟩ | ⟨_, rfl⟩
    · exact keep3_same (h u).1 (h u).2.1 (h u).2.2
    · exact keep3.refl u') m.ks m.line m.ahead m.closed (Int.le_refl _) ho.op
theorem own_does (h : Mid m) (ho : OwnI m ws gs e) (h4 : e ≤ 4000) {n : Nat} (hn : n < m.ks.length) (a : Ask) (hop : 0 ≤ a.op ∧ a.op ≤ 7) :
    ((m.does n a).1.2 = true → OwnE m (m.does n a).2 ws gs e (M.answered (m.does n a).1.1 n a)) ∧ ((m.does n a).1.2 = false → OwnI (m.does n a).2 ws gs (e + 1)) := by
  have hwo := h.own hn
  unfold M.does
  split
  · rename_i ha; exact own_get h ho h4 hn a ha
  rename_i h0
  split
  · rename_i ha; exact ⟨fun _ => own_give h ho hn a _ (.inl ha), fun e => by cases e⟩
  rename_i h1
  split
  · rename_i ha; exact ⟨fun _ => own_give h ho hn a _ (.inr ha), fun e => by cases e⟩
  rename_i h2
  have oth : ∀ (m' : M) (x : Ev), OwnI m' ws gs (e + 1) → OwnE m m' ws gs e (M.answered x n a) := fun m' x hm' => OwnE.other hm' h0 h1 h2
  split
  · refine ⟨fun _ => oth _ _ ?_, fun e => by cases e⟩
    unfold M.openS
    repeat' split
    · exact ho.up
    · exact ho.up
    · exact ho.turn fun s => step_open
    · exact ho.up
  split
  · refine ⟨fun _ => oth _ _ ?_, fun e => by cases e⟩
    unfold M.shutS
    repeat' split
    · exact ho.up
    · exact ho.turn fun s => step_shut
    · exact ho.up
  split
  · refine ⟨fun _ => oth _ _ ?_, fun e => by cases e⟩
    refine ho.keep ((upd_reap (who := (n : Int)) m.ahead 0 m.ss).mono fun i s s' hi e => ?_) m.ks m.line _ m.closed (Int.le_refl _) ho.op
    rcases e with ⟨_, rfl⟩ | ⟨hf, ⟨e1, e2, rfl⟩ | rfl⟩
    · exact keep3.refl s'
    · rw [step_mark (h.rt s (get_mem hi)) hwo (rest_fits hf) e1]
      exact keep3_same rfl rfl rfl
    · have := rest_fits hf
      exact keep3_of rfl (by omega) (by simp [emptied, S.zero])
  split
  · refine ⟨fun _ => oth _ _ ?_, fun e => by cases e⟩
    have hcl : m.closed ≤ (if a.force then 2 else if m.closed = 0 then 1 else m.closed) := by
      have := h.cls
      split
      · omega
      · split <;> omega
    refine ho.keep ((Upd.refl m.ss).mono fun _ s s' _ e => by subst e; exact keep3.refl _) _ [] m.ahead _ hcl fun k hk hne => ?_
    obtain ⟨t1, t2⟩ := told_get m.line m.ks (fun x hx => (h.lb x hx).1)
    obtain ⟨w, hw⟩ := mem_get hk
    have hwl := (List.getElem?_eq_some_iff.1 hw).1
    have h5 := t2 w m.ks[w] (List.getElem?_eq_getElem (by rw [← t1]; exact hwl))
    have h6 := hw.symm.trans h5
    simp only [Option.some.injEq] at h6
    rw [h6] at hne ⊢
    have hk0 : m.ks[w]? = some (m.ks[w]'(by rw [← t1]; exact hwl)) := List.getElem?_eq_getElem (by rw [← t1]; exact hwl)
    split
    · rename_i hm
      have h7 := (h.ln w _ hk0).2 hm
      have h8 := ho.op _ (get_mem hk0) (by omega)
      exact h8
    · rename_i hm
      rw [if_neg hm] at hne
      exact ho.op _ (get_mem hk0) hne
  · exact ⟨fun _ => oth _ _ ho.up, fun e => by cases e⟩
/-- An ask. -/
theorem own_ask (h : Inv m) (ho : OwnI m ws gs e) (h4 : e ≤ 4000) (who : Int) (a : Ask) (hd : a.deadline ≤ 255) :
    ((m.ask who a).1.2.1 = true → OwnE m (m.ask who a).2 ws gs e (m.ask who a).1.1) ∧ ((m.ask who a).1.2.1 = false → OwnI (m.ask who a).2 ws gs (e + 1)) := by
  unfold M.ask
  split
  · rename_i hc
    obtain ⟨hop, n, k, rfl, hk, h0⟩ := can_of hc
    have hn := (List.getElem?_eq_some_iff.1 hk).1
    have hm := h.toMid.does hk h0 a hd
    have h1 := own_does h.toMid ho h4 hn a hop
    simp only
    split
    · rename_i hb
      exact ⟨fun _ => (h1.1 hb).tidy hm, fun e => by cases e⟩
    · rename_i hb
      exact ⟨fun e => (by cases e), fun _ => (h1.2 (by simpa using hb)).tidy hm⟩
  · exact ⟨fun e => (by cases e), fun _ => ho.up⟩
theorem rest_op (h : ∀ k ∈ m.ks, k.at' ≠ 0 → k.ask.op = 0) (n : Nat) : ∀ k ∈ m.ks.set n Wk.zero, k.at' ≠ 0 → k.ask.op = 0 := fun k hk hne => by
  rcases List.mem_or_eq_of_mem_set hk with hk | rfl
  · exact h k hk hne
  · exact absurd rfl hne
/-- A worker wakes. -/
theorem own_wake (h : Inv m) (ho : OwnI m ws gs e) (h4 : e ≤ 4000) (who : Int) :
    ((m.wake who).1.2 = true → OwnE m (m.wake who).2 ws gs e (m.wake who).1.1) ∧ ((m.wake who).1.2 = false → OwnI (m.wake who).2 ws gs (e + 1)) := by
  have same : Upd (fun _ => keep3) m.ss m.ss := (Upd.refl m.ss).mono fun _ s s' _ e => by subst e; exact keep3.refl _
  by_cases hh : m.has who = true
  · obtain ⟨n, rfl, hnl⟩ := has_nat hh
    obtain ⟨k, hk⟩ : ∃ k, m.ks[n]? = some k := ⟨_, List.getElem?_eq_getElem hnl⟩
    have hm := fun h2 => h.toMid.rest hk h2
    rw [wake_of hk]
    split
    · rename_i h3
      have h1 := hm (by omega)
      rw [filter_none (fun hx => by have := (h.ln n _ hk).2 hx; omega)] at h1
      exact ⟨fun _ => (OwnE.no (m' := m.rest n) (ho.keep same _ m.line m.ahead m.closed (Int.le_refl _) (rest_op ho.op n)) (by simp [M.answered, M.failed])).tidy (by simpa [M.rest] using h1), fun e => by cases e⟩
    split
    · rename_i h2
      obtain ⟨i, s, t, a, e1, hi, h45, hw, ht, e2, e3⟩ := took_of h.toMid hk h2
      have hop := ho.op k (get_mem hk) (by omega)
      have hnf : nf t := by rcases e3 with e3 | e3; exact .inr (.inr e3.2.1); exact .inl e3.1
      have h1 := (h.toMid.took hk h2 e1 ht hnf).out a m.now
      refine ⟨fun _ => ?_, fun e => by cases e⟩
      rw [e2]
      refine OwnE.tidy (m' := M.rest { m with ss := m.ss.set i t, ahead := a } n) ?_ (by simpa [M.rest] using h1)
      rcases e3 with ⟨c0, q1, q2, q3, q4⟩ | ⟨q1, q3, q4⟩
      · rw [gen_up (h.rt s (get_mem hi)) (ho.gen_le hi) h4] at q3
        have hl := ho.lease c0 hi (t := t) (n := n) (by omega) q1 (by omega) q2 q3 (m.ks.set n Wk.zero) a (rest_op ho.op n)
        rw [q4]
        exact OwnE.got hl.1 hl.2 hop rfl rfl rfl rfl
      · have hgs : t.gen = s.gen ∨ t.gen = s.gen + 1 := by rw [gen_up (h.rt s (get_mem hi)) (ho.gen_le hi) h4] at q3; exact q3
        refine OwnE.no (ho.keep (upd_set.mono fun j u u' hj e => ?_) (m.ks.set n Wk.zero) m.line a m.closed (Int.le_refl _) (rest_op ho.op n)) (by rcases q4 with ⟨q, _⟩ | q <;> rw [q] <;> simp [M.answered, M.failed])
        rcases e with ⟨rfl, rfl⟩ | ⟨_, rfl⟩
        · rw [hi] at hj
          cases hj
          exact ⟨by omega, by omega, fun e => by omega⟩
        · exact keep3.refl u'
    split
    · rename_i h2 hx
      have h1 := hm (by omega)
      exact ⟨fun _ => (OwnE.no (m' := M.rest { m with line := m.line.filter (fun o => o != (n : Int)) } n) (ho.keep same _ _ m.ahead m.closed (Int.le_refl _) (rest_op ho.op n)) (by simp [M.answered, M.failed])).tidy (by simpa [M.rest] using h1), fun e => by cases e⟩
    · exact ⟨fun e => (by cases e), fun _ => ho.up⟩
  · unfold M.wake
    rw [if_pos (by simpa using hh)]
    exact ⟨fun e => (by cases e), fun _ => ho.up⟩
/-- At first. -/
theorem own_new (c : Conf.Cf) (hc : c.right = true) : OwnI (M.new c) (List.replicate c.slots.toNat 0) (List.replicate c.slots.toNat 0) 0 := by
  refine ⟨by simp [M.new], by simp [M.new], fun k s g hs hg => ?_, fun _ k s v g hs hv hg => ?_, fun k hk hne => ?_⟩
  · have h1 : s = S.zero := by simpa [M.new] using (List.mem_replicate.1 (get_mem hs)).2
    have h2 : g = 0 := (List.mem_replicate.1 (get_mem hg)).2
    subst h1 h2
    simp [S.zero]
  · have h1 : s = S.zero := by simpa [M.new] using (List.mem_replicate.1 (get_mem hs)).2
    have h2 : v = 0 := (List.mem_replicate.1 (get_mem hv)).2
    subst h1 h2
    simp [S.zero]
  · have h1 : k = Wk.zero := by simpa [M.new] using (List.mem_replicate.1 hk).2
    subst h1
    exact absurd rfl hne
end
end Go.Proofs.YtpmkgddjgebojaaGreatDoor.Mod

namespace Go.Proofs.YtpmkgddjgebojaaGreatDoor.Mod
set_option linter.unusedVariables false
set_option linter.unusedSimpArgs false
open Go.RowKit Hp Slot RowL Life

theorem conf_store {w : World} {g : Nat} {Z : Array Value} {t : TypeId} (h : RowAt w g Z t) (hz : Z.size = 5) (c : Conf.Cf) : (storeCells ⟨g, 0, none⟩ c.cells.toList 0).run Tryz.prog w = .ok () (w.setRow g c.cells) := by
  have h4 := run_storeCells_from (P := Tryz.prog) g t c.cells.toList 0 Z w h (by simp [Conf.Cf.cells, hz]) (fun v hv => by simp [Conf.Cf.cells] at hv; rcases hv with rfl | rfl | rfl | rfl | rfl <;> rfl)
  simpa using h4
theorem view_slots (x y z : Value) (w : World) : (Instr.field 45 (.agg #[x, y, z]) 0).run Tryz.prog w = .ok x w := by kernel_rfl
theorem view_waits (x y z : Value) (w : World) : (Instr.field 45 (.agg #[x, y, z]) 1).run Tryz.prog w = .ok y w := by kernel_rfl
theorem view_closed (x y z : Value) (w : World) : (Instr.field 45 (.agg #[x, y, z]) 2).run Tryz.prog w = .ok z w := by kernel_rfl
theorem view_store {w : World} {g : Nat} {Z : Array Value} {t : TypeId} (h : RowAt w g Z t) (hz : Z.size = 3) (x y z : Value) (hx : x.oneCell' = true) (hy : y.oneCell' = true) (hw : z.oneCell' = true) : (storeCells ⟨g, 0, none⟩ [x, y, z] 0).run Tryz.prog w = .ok () (w.setRow g #[x, y, z]) := by
  have h4 := run_storeCells_from (P := Tryz.prog) g t [x, y, z] 0 Z w h (by simp [hz]) (fun v hv => by simp at hv; rcases hv with rfl | rfl | rfl <;> assumption)
  simpa using h4
theorem wrap64_id {x : Int} (h : -9223372036854775808 ≤ x) (h' : x ≤ 9223372036854775807) : wrap64 x = x := by unfold wrap64; omega
end Go.Proofs.YtpmkgddjgebojaaGreatDoor.Mod

namespace Go.Proofs.YtpmkgddjgebojaaGreatDoor.Mod
set_option linter.unusedVariables false
set_option linter.unusedSimpArgs false
open Go.RowKit Hp Slot RowL Life Go.ChangeShapes Go.WideShapes Go.Deep Go.Joins

section
variable {H : Type} {enc : TypeId × Value → H} {P : Program} {w : World} {base : Nat} {spare : Nat → Bool} {held : Bool}
theorem open_slice_fields {t e : TypeId} {fs : Array Field} {fuel : Nat} {cs : List Value} {x : DataW H × List MemPlace} (ht : P.underlying t = some (.slice e)) (he : P.underlying e = some (.struct fs))
    (hone : oneCellFields P fs = true) (hC : P.cellsOf e = fs.size) (h : DataW.trod enc P w base spare held fuel t cs = some x) :
    (cs = [.slice none 0 0]) ∨
    ∃ (a : Addr) (len cap m : Nat), cs = [.slice (some a) len cap] ∧ len ≤ cap ∧ cap ≤ maxLen ∧ len ≤ m ∧
      ∀ i, i < m → ∀ (j : Nat) (f : Field), fs[j]? = some f → ∃ (v : Value) (y : DataW H × List MemPlace) (n : Nat), w.cell? (a.add (i * fs.size + j)) = some v ∧ DataW.trod enc P w base spare held n f.type [v] = some y := by
  rcases open_slice ht h with h0 | ⟨a, len, cap, m, n, D, Pl, hcs, hb, hl, hm, hmm, hx, hi⟩
  · exact .inl h0.1
  · refine .inr ⟨a, len, cap, m, hcs, hl, hm, by rw [hmm]; split <;> omega, fun i him j f hj => ?_⟩
    obtain ⟨cs', hc, ht'⟩ := hi i him
    rw [hC] at hc
    obtain ⟨ys, n', hn', hy, hlen, hyl, hf⟩ := DataW.trod_struct he ht'
    obtain ⟨_, hcl, hat⟩ := World.cells?_some hc
    obtain ⟨ho, hk⟩ := hone_of hone j f hj
    have hjl : j < fs.size := (Array.getElem?_eq_some_iff.1 hj).1
    have hcell := hat j hjl
    have hv : cs'[j]? = some (cs'[j]'(by omega)) := List.getElem?_eq_getElem (by omega)
    have h1 := hf j f hj
    rw [ho, hk] at h1
    have hone' : (cs'.drop j).take 1 = [cs'[j]'(by omega)] := by
      rw [List.drop_eq_getElem_cons (by omega)]
      rfl
    rw [hone'] at h1
    have hys : ys[j]? = some (ys[j]'(by omega)) := List.getElem?_eq_getElem (by omega)
    refine ⟨_, _, n', ?_, h1.trans hys⟩
    rw [← Go.Deep.add_add, hcell, hv]
theorem open_agg_any {r : Reach} {b0 : Nat} {t : TypeId} {fs : Array Field} {v : Value} {d : DataW H} {p : List MemPlace} (hs : P.underlying t = some (.struct fs)) (hone : oneCellFields P fs = true) (hC : P.cellsOf t = fs.size)
    (hv : Value.okWide P w r b0 t v) (h : DataW.Trod enc P w base spare held t v d p) :
    ∃ cs : List Value, v = .agg ⟨cs⟩ ∧ cs.length = fs.size ∧ ∀ (j : Nat) (f : Field), fs[j]? = some f → ∃ (u : Value) (y : DataW H × List MemPlace) (n : Nat), cs[j]? = some u ∧ DataW.trod enc P w base spare held n f.type [u] = some y := by
  obtain ⟨cs, rfl, hsz⟩ := okWide_struct hs hv
  obtain ⟨l⟩ := cs
  have hl : l.length = fs.size := hsz.trans hC
  obtain ⟨fuel, hf⟩ := h
  obtain ⟨xs, n, _, hx, _, hlen, hg⟩ := DataW.trod_struct hs hf
  refine ⟨l, rfl, hl, fun j f hj => ?_⟩
  obtain ⟨ho, hk⟩ := hone_of hone j f hj
  have hjl : j < fs.size := (Array.getElem?_eq_some_iff.1 hj).1
  have h1 := hg j f hj
  rw [ho, hk] at h1
  have hone' : ((Value.agg ⟨l⟩).cells.toList.drop j).take 1 = [l[j]'(by omega)] := by
    show (l.drop j).take 1 = _
    rw [List.drop_eq_getElem_cons (by omega)]
    rfl
  rw [hone'] at h1
  have hxs : xs[j]? = some (xs[j]'(by omega)) := List.getElem?_eq_getElem (by omega)
  exact ⟨_, _, n, List.getElem?_eq_getElem (by omega), h1.trans hxs⟩
end

section
variable {H : Type} {enc : TypeId × Value → H} {w : World} {base : Nat} {spare : Nat → Bool} {held : Bool}
theorem u8_bd {n : Int} (h : (Lit.int .u8 n).wf = true) : 0 ≤ n ∧ n < 256 := by
  have := Base.wf_u8_bounds h
  omega
theorem i64_bd {n : Int} (h : (Lit.int .i64 n).wf = true) : -9223372036854775808 ≤ n ∧ n ≤ 9223372036854775807 := Base.wf_i64_bounds h
theorem open_u8_at {cs : List Value} {fs : Array Field} {j : Nat} {f : Field} (h : ∀ (j : Nat) (f : Field), fs[j]? = some f → ∃ (u : Value) (y : DataW H × List MemPlace) (n : Nat), cs[j]? = some u ∧ DataW.trod enc Tryz.prog w base spare held n f.type [u] = some y) (hj : fs[j]? = some f) (ht : f.type = 5) : ∃ a : Int, cs[j]? = some (.int .u8 a) ∧ 0 ≤ a ∧ a < 256 := by
  obtain ⟨u, y, n, h1, h2⟩ := h j f hj
  rw [ht] at h2
  obtain ⟨k, e1, -, e3⟩ := DataW.trod_int Tryz.underlying5 h2
  cases e1
  exact ⟨k, h1, u8_bd e3⟩
theorem open_int_at {cs : List Value} {fs : Array Field} {j : Nat} {f : Field} (h : ∀ (j : Nat) (f : Field), fs[j]? = some f → ∃ (u : Value) (y : DataW H × List MemPlace) (n : Nat), cs[j]? = some u ∧ DataW.trod enc Tryz.prog w base spare held n f.type [u] = some y) (hj : fs[j]? = some f) (ht : f.type = 3) : ∃ a : Int, cs[j]? = some (.int .i64 a) ∧ -9223372036854775808 ≤ a ∧ a ≤ 9223372036854775807 := by
  obtain ⟨u, y, n, h1, h2⟩ := h j f hj
  rw [ht] at h2
  obtain ⟨k, e1, -, e3⟩ := DataW.trod_int Tryz.underlying3 h2
  cases e1
  exact ⟨k, h1, i64_bd e3⟩
theorem open_bool_at {cs : List Value} {fs : Array Field} {j : Nat} {f : Field} (h : ∀ (j : Nat) (f : Field), fs[j]? = some f → ∃ (u : Value) (y : DataW H × List MemPlace) (n : Nat), cs[j]? = some u ∧ DataW.trod enc Tryz.prog w base spare held n f.type [u] = some y) (hj : fs[j]? = some f) (ht : f.type = 4) : ∃ a : Bool, cs[j]? = some (.bool a) := by
  obtain ⟨u, y, n, h1, h2⟩ := h j f hj
  rw [ht] at h2
  obtain ⟨k, e1, -⟩ := DataW.trod_bool Tryz.underlying4 h2
  cases e1
  exact ⟨k, h1⟩
theorem list_of_get {α : Type} : ∀ {cs : List α} {xs : List α}, cs.length = xs.length → (∀ (j : Nat) x, xs[j]? = some x → cs[j]? = some x) → cs = xs := fun {cs xs} hl h => List.ext_getElem? fun j => by
  cases hx : xs[j]? with
  | none => rw [List.getElem?_eq_none_iff] at hx ⊢; omega
  | some x => exact h j x hx
set_option maxRecDepth 100000 in
theorem open_given {r : Reach} {b0 : Nat} {v : Value} {d : DataW H} {p : List MemPlace} (hv : Value.okWide Tryz.prog w r b0 49 v) (h : DataW.Trod enc Tryz.prog w base spare held 49 v d p) :
    ∃ a b c d e : Int, v = .agg #[.int .u8 a, .int .u8 b, .int .u8 c, .int .u8 d, .int .u8 e] ∧ (0 ≤ a ∧ a < 256) ∧ (0 ≤ b ∧ b < 256) ∧ (0 ≤ c ∧ c < 256) ∧ (0 ≤ d ∧ d < 256) ∧ (0 ≤ e ∧ e < 256) := by
  obtain ⟨cs, rfl, hl, hf⟩ := open_agg_any Tryz.underlying49 (by kernel_rfl) (by kernel_rfl) hv h
  obtain ⟨a, ha, wa⟩ := open_u8_at (j := 0) hf rfl rfl
  obtain ⟨b, hb, wb⟩ := open_u8_at (j := 1) hf rfl rfl
  obtain ⟨c, hc, wc⟩ := open_u8_at (j := 2) hf rfl rfl
  obtain ⟨d, hd, wd⟩ := open_u8_at (j := 3) hf rfl rfl
  obtain ⟨e, he, we⟩ := open_u8_at (j := 4) hf rfl rfl
  refine ⟨a, b, c, d, e, ?_, wa, wb, wc, wd, we⟩
  have hl : cs.length = 5 := hl
  match cs, hl with
  | [c0, c1, c2, c3, c4], _ =>
    simp at ha hb hc hd he
    subst ha hb hc hd he
    rfl
set_option maxRecDepth 100000 in
theorem open_ask {r : Reach} {b0 : Nat} {v : Value} {d : DataW H} {p : List MemPlace} (hv : Value.okWide Tryz.prog w r b0 25 v) (h : DataW.Trod enc Tryz.prog w base spare held 25 v d p) :
    ∃ a : Ask, v = a.val := by
  obtain ⟨cs, rfl, hl, hf⟩ := open_agg_any Tryz.underlying25 (by kernel_rfl) (by kernel_rfl) hv h
  obtain ⟨a, ha, wa⟩ := open_int_at (j := 0) hf rfl rfl
  obtain ⟨b, hb, wb⟩ := open_int_at (j := 1) hf rfl rfl
  obtain ⟨c, hc⟩ := open_bool_at (j := 2) hf rfl rfl
  obtain ⟨d, hd⟩ := open_bool_at (j := 3) hf rfl rfl
  obtain ⟨e, he, we⟩ := open_int_at (j := 4) hf rfl rfl
  obtain ⟨f, hf', wf⟩ := open_int_at (j := 5) hf rfl rfl
  obtain ⟨g, hg, wg⟩ := open_int_at (j := 6) hf rfl rfl
  refine ⟨⟨a, b, c, d, e, f, g⟩, ?_⟩
  have hl : cs.length = 7 := hl
  match cs, hl with
  | [c0, c1, c2, c3, c4, c5, c6], _ =>
    simp at ha hb hc hd he hf' hg
    subst ha hb hc hd he hf' hg
    rfl
set_option maxRecDepth 100000 in
theorem open_conf {r : Reach} {b0 : Nat} {v : Value} {d : DataW H} {p : List MemPlace} (hv : Value.okWide Tryz.prog w r b0 23 v) (h : DataW.Trod enc Tryz.prog w base spare held 23 v d p) :
    ∃ c : Conf.Cf, v = c.val := by
  obtain ⟨cs, rfl, hl, hf⟩ := open_agg_any Tryz.underlying23 (by kernel_rfl) (by kernel_rfl) hv h
  obtain ⟨a, ha, wa⟩ := open_int_at (j := 0) hf rfl rfl
  obtain ⟨b, hb, wb⟩ := open_int_at (j := 1) hf rfl rfl
  obtain ⟨c, hc, wc⟩ := open_int_at (j := 2) hf rfl rfl
  obtain ⟨d, hd, wd⟩ := open_int_at (j := 3) hf rfl rfl
  obtain ⟨e, he, we⟩ := open_int_at (j := 4) hf rfl rfl
  refine ⟨⟨a, b, c, d, e⟩, ?_⟩
  have hl : cs.length = 5 := hl
  match cs, hl with
  | [c0, c1, c2, c3, c4], _ =>
    simp at ha hb hc hd he
    subst ha hb hc hd he
    rfl
/-- The number in a cell. -/
def numIn : Option Value → Int
  | some (.int _ n) => n
  | _ => 0
def turnIn (w : World) (a : Addr) (i : Nat) : Tn := ⟨numIn (w.cell? (a.add (i * 6 + 0))), numIn (w.cell? (a.add (i * 6 + 1))), numIn (w.cell? (a.add (i * 6 + 2))), numIn (w.cell? (a.add (i * 6 + 3))), numIn (w.cell? (a.add (i * 6 + 4))), numIn (w.cell? (a.add (i * 6 + 5)))⟩
set_option maxRecDepth 100000 in
theorem open_turns {v : Value} {d : DataW H} {p : List MemPlace} {a : Option Addr} {n c : Nat} (hv : v = .slice a n c) (h : DataW.Trod enc Tryz.prog w base spare held 50 v d p) : ∃ l, TurnsAt w v l ∧ l.length = n := by
  subst hv
  obtain ⟨fuel, hf⟩ := h
  rcases open_slice_fields Tryz.underlying50 Tryz.underlying57 (by kernel_rfl) (by kernel_rfl) hf with hcs | ⟨x, len, cap, m, hcs, hl, hm, hmm, hi⟩
  · simp [Value.cells] at hcs
    obtain ⟨rfl, rfl, rfl⟩ := hcs
    exact ⟨[], ⟨none, 0, rfl, fun _ h => (by cases h), .inl rfl⟩, rfl⟩
  · simp [Value.cells] at hcs
    obtain ⟨rfl, rfl, rfl⟩ := hcs
    have fin : ∀ (i j : Nat) (u : Value) (y : DataW H × List MemPlace) (q : Nat), w.cell? (x.add (i * 6 + j)) = some u → DataW.trod enc Tryz.prog w base spare held q 5 [u] = some y → ∃ k : Int, w.cell? (x.add (i * 6 + j)) = some (.int .u8 k) ∧ 0 ≤ k ∧ k < 256 := fun i j u y q h1 h2 => by
      obtain ⟨k, e1, -, e3⟩ := DataW.trod_int Tryz.underlying5 h2
      cases e1
      exact ⟨k, h1, u8_bd e3⟩
    have key : ∀ i, i < n → ∀ j, j < 6 → ∃ k : Int, w.cell? (x.add (i * 6 + j)) = some (.int .u8 k) ∧ 0 ≤ k ∧ k < 256 := fun i hin j hj => by
      rcases (by omega : j = 0 ∨ j = 1 ∨ j = 2 ∨ j = 3 ∨ j = 4 ∨ j = 5) with rfl | rfl | rfl | rfl | rfl | rfl
      · obtain ⟨u, y, q, h1, h2⟩ := hi i (by omega) 0 _ rfl
        exact fin i 0 u y q h1 h2
      · obtain ⟨u, y, q, h1, h2⟩ := hi i (by omega) 1 _ rfl
        exact fin i 1 u y q h1 h2
      · obtain ⟨u, y, q, h1, h2⟩ := hi i (by omega) 2 _ rfl
        exact fin i 2 u y q h1 h2
      · obtain ⟨u, y, q, h1, h2⟩ := hi i (by omega) 3 _ rfl
        exact fin i 3 u y q h1 h2
      · obtain ⟨u, y, q, h1, h2⟩ := hi i (by omega) 4 _ rfl
        exact fin i 4 u y q h1 h2
      · obtain ⟨u, y, q, h1, h2⟩ := hi i (by omega) 5 _ rfl
        exact fin i 5 u y q h1 h2
    have key2 : ∀ i, i < n → ∀ j, j < 6 → w.cell? (x.add (i * 6 + j)) = some (.int .u8 (numIn (w.cell? (x.add (i * 6 + j))))) ∧ 0 ≤ numIn (w.cell? (x.add (i * 6 + j))) ∧ numIn (w.cell? (x.add (i * 6 + j))) < 256 := fun i hin j hj => by
      obtain ⟨k, h1, h2⟩ := key i hin j hj
      rw [h1]
      exact ⟨rfl, h2⟩
    by_cases hn : n = 0
    · subst hn
      exact ⟨[], ⟨some x, c, rfl, fun _ h => (by cases h), .inl rfl⟩, rfl⟩
    obtain ⟨k0, hk0, -⟩ := key 0 (by omega) 0 (by omega)
    obtain ⟨g, off, rfl, -⟩ := Go.ints_at (zs := [k0]) (k := .u8) (fun i hi => by
      obtain rfl : i = 0 := by simpa using hi
      simpa using hk0) (by simp)
    clear hk0
    have hlen : ((List.range n).map (turnIn w ⟨g, off, none⟩)).length = n := by simp
    have hget : ∀ (i : Nat) (t : Tn), ((List.range n).map (turnIn w ⟨g, off, none⟩))[i]? = some t → i < n ∧ t = turnIn w ⟨g, off, none⟩ i := fun i t ht => by
      have hin : i < n := by have := (List.getElem?_eq_some_iff.1 ht).1; rw [hlen] at this; exact this
      rw [List.getElem?_map, List.getElem?_range hin] at ht
      simp at ht
      exact ⟨hin, ht.symm⟩
    refine ⟨(List.range n).map (turnIn w ⟨g, off, none⟩), ⟨some ⟨g, off, none⟩, c, by rw [hlen], fun t ht => ?_, .inr ⟨g, off, rfl, fun i t ht j u hu => ?_⟩⟩, hlen⟩
    · obtain ⟨i, hi'⟩ := List.getElem?_of_mem ht
      obtain ⟨hin, rfl⟩ := hget i t hi'
      exact ⟨(key2 i hin 0 (by omega)).2, (key2 i hin 1 (by omega)).2, (key2 i hin 2 (by omega)).2, (key2 i hin 3 (by omega)).2, (key2 i hin 4 (by omega)).2, (key2 i hin 5 (by omega)).2⟩
    · obtain ⟨hin, rfl⟩ := hget i t ht
      have hj : j < 6 := by have := (Array.getElem?_eq_some_iff.1 hu).1; simpa [Tn.cells] using this
      have hk := (key2 i hin j hj).1
      have he : (⟨g, off, none⟩ : Addr).add (i * 6 + j) = ⟨g, off + i * 6 + j, none⟩ := by simp [Addr.add, Nat.add_assoc]
      rw [← he, hk]
      rcases (by omega : j = 0 ∨ j = 1 ∨ j = 2 ∨ j = 3 ∨ j = 4 ∨ j = 5) with rfl | rfl | rfl | rfl | rfl | rfl <;> exact hu
end
end Go.Proofs.YtpmkgddjgebojaaGreatDoor.Mod

namespace Go.Proofs.YtpmkgddjgebojaaGreatDoor.Mod
set_option linter.unusedVariables false
set_option linter.unusedSimpArgs false
open Go.RowKit Hp Slot Go.ChangeShapes Go.WideShapes

def lst : List (String × DataW Unit) := [("coachhouse/slot.fields", Rows.laid_coachhouse_slot_fields)]
theorem gF : Tryz.prog.globalNamed "coachhouse/slot.fields" = some 0 := by kernel_rfl
theorem tF : (Tryz.prog.globals[0]?).map (·.type) = some 157 := by kernel_rfl
theorem c9 : Tryz.prog.cellsOf 157 = 18 := by kernel_rfl
theorem c2 : Tryz.prog.cellsOf 156 = 2 := by kernel_rfl
theorem door_met (os : Os) (args : Array Value) : laidMetH Tryz.prog lst ((World.doorLaid Tryz.prog 23 os).forCall (fun _ _ => 0) ⟨#[], args, []⟩).memory :=
  laidMetH_of_parts3 (fuel := 8) (laidMet_of_run' 8 (by kernel_rfl) (by kernel_rfl)) (by kernel_rfl) (by kernel_rfl)
set_option maxRecDepth 100000 in
theorem field_of {H : Type} {enc : TypeId × Value → H} {w : World} {base : Nat} {spare : Nat → Bool} {held : Bool} {n : Nat} {a b : Value} {x : DataW H × List MemPlace} {u v : Int} (h : DataW.trod enc Tryz.prog w base spare held n 156 [a, b] = some x) (hx : x.1 = .agg [.lit (.int .i64 u), .lit (.int .i64 v)]) : a = .int .i64 u ∧ b = .int .i64 v := by
  obtain ⟨xs, m, _, hy, _, hlen, hg⟩ := DataW.trod_struct Tryz.underlying156 h
  have h0 := hg 0 _ rfl
  have h1 := hg 1 _ rfl
  have ci : Tryz.prog.cellsOf 3 = 1 := by kernel_rfl
  match xs, hlen with
  | [y0, y1], _ =>
    simp only [ci, List.drop_zero, List.getElem?_cons_zero, List.getElem?_cons_succ] at h0 h1
    obtain ⟨k0, e0, f0, -⟩ := DataW.trod_int Tryz.underlying3 (show DataW.trod enc Tryz.prog w base spare held m 3 [a] = some y0 from h0)
    obtain ⟨k1, e1, f1, -⟩ := DataW.trod_int Tryz.underlying3 (show DataW.trod enc Tryz.prog w base spare held m 3 [b] = some y1 from h1)
    rw [hy] at hx
    subst f0 f1
    simp at hx
    cases e0
    cases e1
    rw [hx.1, hx.2]
    exact ⟨rfl, rfl⟩
theorem of_laid {W : World} (h : laidMetH Tryz.prog lst W) : Laid W := by
  rw [MakeChecks.laidMetH_plain _ _ _ (by kernel_rfl)] at h
  obtain ⟨ps, ⟨g0, t0, cs0, f0, p0, q0, hg0, ht0, hv0, hd0, _, _⟩, _, _⟩ := h
  obtain rfl := Option.some.inj (gF.symm.trans hg0)
  obtain rfl := Option.some.inj (tF.symm.trans ht0)
  obtain ⟨xs, m1, rfl, hx1, hlen, hn3, hel⟩ := DataW.trod_array Tryz.underlying157 hd0
  have hcell := fun j => World.var?_cell hg0 hv0 j
  have hdat : (Rows.laid_coachhouse_slot_fields : DataW Unit) = .agg (fields9.map fun x => .agg [.lit (.int .i64 (x.1 : Nat)), .lit (.int .i64 (x.2 : Nat))]) := rfl
  rw [c9] at hlen
  rw [c2] at hel
  rw [hdat] at hx1
  simp only [Prod.mk.injEq, DataW.agg.injEq] at hx1
  obtain ⟨L⟩ := cs0
  intro i x hx
  have hi : i < 9 := (List.getElem?_eq_some_iff.1 hx).1
  have h1 := hel i hi
  have hL : L.length = 18 := hlen
  have hxi : xs[i]? = some (xs[i]'(by omega)) := List.getElem?_eq_getElem (by omega)
  have hda : (xs[i]'(by omega)).1 = .agg [.lit (.int .i64 (x.1 : Nat)), .lit (.int .i64 (x.2 : Nat))] := by
    have h2 : (fields9.map fun x => (DataW.agg [.lit (.int .i64 (x.1 : Nat)), .lit (.int .i64 (x.2 : Nat))] : DataW Unit))[i]? = (xs.map (·.1))[i]? := by rw [hx1.1]
    rw [List.getElem?_map, List.getElem?_map, hx, hxi] at h2
    simpa using h2.symm
  have hpair : List.take 2 (List.drop (i * 2) L) = [L[i * 2]'(by omega), L[i * 2 + 1]'(by omega)] := by
    rw [List.drop_eq_getElem_cons (by omega), List.drop_eq_getElem_cons (by omega)]
    rfl
  have h3 : List.take 2 (List.drop (i * 2) (⟨L⟩ : Array Value).toList) = List.take 2 (List.drop (i * 2) L) := rfl
  rw [h3, hpair, hxi] at h1
  obtain ⟨r1, r2⟩ := field_of h1 hda
  refine ⟨(hcell (i * 2)).trans ?_, (hcell (i * 2 + 1)).trans ?_⟩
  · rw [List.getElem?_toArray, List.getElem?_eq_getElem (by omega), r1]
  · rw [List.getElem?_toArray, List.getElem?_eq_getElem (by omega), r2]
end Go.Proofs.YtpmkgddjgebojaaGreatDoor.Mod
