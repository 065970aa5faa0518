/- Part 9 of the walks and plain laws that the last text joins. -/
import Derived.Test.YtpmkgddjgebojaaGreatDoorE8
set_option maxRecDepth 100000
set_option maxHeartbeats 16000000
set_option linter.unusedVariables false
set_option linter.unusedSimpArgs false
namespace Go.Proofs.YtpmkgddjgebojaaGreatDoor.Mod
open Go.RowKit Hp Slot RowL Life
theorem Mid.out {m : M} (h : Mid m) (a : List Bool) (n : Int) : Mid { m with ahead := a, now := n } :=
  ⟨h.nk, h.ns, h.rt, h.lb, h.cls, h.sts, h.fw, h.gi, h.ats, h.ln, h.nd, h.dl, h.cap, h.cl⟩
theorem turnL_set {ss : List S} {i d : Nat} {own more : Int} {s : S} (hi : ss[i]? = some s) : turnL ss i d own more = ss.set i (step s d own more) := by unfold turnL; rw [hi]
theorem set_get {ss : List S} {i : Nat} {s t : S} (hi : ss[i]? = some s) : (ss.set i t)[i]? = some t := by
  have := (List.getElem?_eq_some_iff.1 hi).1
  simp [this]
theorem slot_of {m : M} {i : Nat} {s : S} (hi : m.ss[i]? = some s) : m.slot i = s := by unfold M.slot; rw [hi]; rfl
theorem Mid.set1 {m : M} (h : Mid m) {i : Nat} {s t : S} (hi : m.ss[i]? = some s) (hq : quiet s t) : Mid { m with ss := m.ss.set i t } :=
  h.slots (upd_set.mono fun j u u' hj e => by
    rcases e with ⟨rfl, rfl⟩ | ⟨_, rfl⟩
    · rw [hi] at hj; cases hj; exact hq
    · exact quiet.refl (h.rt _ (get_mem hj)))
theorem Mid.own {m : M} (h : Mid m) {n : Nat} (hn : n < m.ks.length) : (0 : Int) ≤ (n : Int) ∧ (n : Int) ≤ 15 := by have := h.nk; omega
theorem has_nat {m : M} {who : Int} (h : m.has who = true) : ∃ n : Nat, who = (n : Int) ∧ n < m.ks.length := by
  simp [M.has] at h
  obtain ⟨n, hn⟩ := Int.eq_ofNat_of_zero_le h.1
  exact ⟨n, hn, by omega⟩
theorem worker_of {m : M} {n : Nat} {k : Wk} (h : m.ks[n]? = some k) : m.worker n = k := by unfold M.worker; simp [h]
theorem dial_view {m : M} {i : Nat} {u : S} {who : Int} (hi : m.ss[i]? = some u) (hr : u.right = true) (ho : 0 ≤ who ∧ who ≤ 15) (h1 : u.state = 1) (hw : u.own = who) :
    m.dial i who = if m.good then ({ Ev.zero with slot := (i : Int), gen := (u.gen + 1) % 4096 }, { m with ss := m.ss.set i { leased u who with version := 0 }, ahead := m.ahead.tail })
      else (M.failed 6, { m with ss := m.ss.set i { «to» u who 0 with version := 0 }, ahead := m.ahead.tail }) := by
  unfold M.dial
  have e1 : m.next.turn i 1 who 0 = { m with ss := m.ss.set i { leased u who with version := 0 }, ahead := m.ahead.tail } := by
    unfold M.turn M.next
    rw [turnL_set (by simpa using hi), step_up hr ho h1 hw]
  have e2 : m.next.turn i 2 who 0 = { m with ss := m.ss.set i { «to» u who 0 with version := 0 }, ahead := m.ahead.tail } := by
    unfold M.turn M.next
    rw [turnL_set (by simpa using hi), step_fail hr ho h1 hw]
  rw [e1, e2]
  split
  · refine Prod.ext ?_ rfl
    unfold M.leased
    rw [slot_of (m := { m with ss := m.ss.set i { leased u who with version := 0 }, ahead := m.ahead.tail }) (set_get hi)]
    simp [leased]
  · rfl
theorem leased_nf (s : S) (w : Int) : nf { leased s w with version := 0 } := .inr (.inr rfl)
theorem dial0_view {m : M} {i : Nat} {s : S} {who : Int} (hi : m.ss[i]? = some s) (hr : s.right = true) (ho : 0 ≤ who ∧ who ≤ 15) (h0 : s.state = 0) :
    ∃ t : S, t.right = true ∧ ((m.turn i 0 who 0).dial i who).2 = { m with ss := m.ss.set i t, ahead := m.ahead.tail } ∧
      ((t.state = 3 ∧ t.own = who ∧ t.gen = (s.gen + 1) % 4096 ∧ ((m.turn i 0 who 0).dial i who).1 = { Ev.zero with slot := (i : Int), gen := t.gen }) ∨ (t.state = 0 ∧ t.gen = s.gen ∧ ((m.turn i 0 who 0).dial i who).1 = M.failed 6)) := by
  have e0 : m.turn i 0 who 0 = { m with ss := m.ss.set i { «to» s who 1 with version := 0 } } := by unfold M.turn; rw [turnL_set hi, step_dial hr ho h0]
  have hru : ({ «to» s who 1 with version := 0 } : S).right = true := by
    have := step_right (d := 0) (own := who) (more := 0) (by simp [Done]) hr
    rwa [step_dial hr ho h0] at this
  have hgu : (m.ss.set i { «to» s who 1 with version := 0 })[i]? = some { «to» s who 1 with version := 0 } := set_get hi
  rw [e0, dial_view (m := { m with ss := m.ss.set i { «to» s who 1 with version := 0 } }) hgu hru ho rfl (by simp [«to»])]
  split
  · refine ⟨{ leased { «to» s who 1 with version := 0 } who with version := 0 }, leased_right hru ho, by simp, .inl ⟨rfl, by simp [leased, «to»], by simp [leased, «to»], by simp [leased, «to»]⟩⟩
  · refine ⟨{ «to» { «to» s who 1 with version := 0 } who 0 with version := 0 }, to_right hru ho (by simp), by simp, .inr ⟨rfl, by simp [«to»], rfl⟩⟩
theorem take_by {m m1 : M} {i : Nat} {who : Int} {r : Ev × M} (h1 : m.turn i 16 who 0 = m1) (h2 : (if (m1.slot i).state = 1 then m1.dial i who else (m1.leased i, m1)) = r) :
    m.take who i = if r.1.e = 0 ∧ m.closed ≠ 0 then (M.failed 5, r.2.empty i) else r := by subst h1 h2; rfl
theorem take_view {m : M} {i n : Nat} {s : S} (hi : m.ss[i]? = some s) (hr : s.right = true) (hn : n < 9) (h45 : s.state = 4 ∨ s.state = 5) (hw : s.own = (n : Int)) :
    ∃ (t : S) (a : List Bool), t.right = true ∧ (m.take n i).2 = { m with ss := m.ss.set i t, ahead := a } ∧
      ((m.closed = 0 ∧ t.state = 3 ∧ t.own = (n : Int) ∧ t.gen = (s.gen + 1) % 4096 ∧ (m.take n i).1 = { Ev.zero with slot := (i : Int), gen := t.gen }) ∨
       (t.state = 0 ∧ (t.gen = s.gen ∨ t.gen = (s.gen + 1) % 4096) ∧ (((m.take n i).1 = M.failed 5 ∧ m.closed ≠ 0) ∨ (m.take n i).1 = M.failed 6))) := by
  have ho : (0 : Int) ≤ (n : Int) ∧ (n : Int) ≤ 15 := by omega
  have key : ∀ (u : S) (a : List Bool) (r : Ev × M), u.right = true → u.state = 3 → u.own = (n : Int) → u.gen = (s.gen + 1) % 4096 → r = ({ Ev.zero with slot := (i : Int), gen := u.gen }, { m with ss := m.ss.set i u, ahead := a }) →
      m.take n i = (if r.1.e = 0 ∧ m.closed ≠ 0 then (M.failed 5, r.2.empty i) else r) → ∃ (t : S) (a : List Bool), t.right = true ∧ (m.take n i).2 = { m with ss := m.ss.set i t, ahead := a } ∧
      ((m.closed = 0 ∧ t.state = 3 ∧ t.own = (n : Int) ∧ t.gen = (s.gen + 1) % 4096 ∧ (m.take n i).1 = { Ev.zero with slot := (i : Int), gen := t.gen }) ∨
       (t.state = 0 ∧ (t.gen = s.gen ∨ t.gen = (s.gen + 1) % 4096) ∧ (((m.take n i).1 = M.failed 5 ∧ m.closed ≠ 0) ∨ (m.take n i).1 = M.failed 6))) := by
    intro u a r h1 h2 h3 h4 h5 h6
    rw [h6, h5]
    by_cases hc : m.closed = 0
    · rw [if_neg (fun e => e.2 hc)]
      exact ⟨u, a, h1, rfl, .inl ⟨hc, h2, h3, h4, rfl⟩⟩
    · rw [if_pos ⟨rfl, hc⟩]
      refine ⟨emptied u, a, emptied_right h1, ?_, .inr ⟨rfl, .inr h4, .inl ⟨rfl, hc⟩⟩⟩
      simp only [M.empty, List.set_set]
      rw [slot_of (m := { m with ss := m.ss.set i u, ahead := a }) (set_get hi)]
  rcases h45 with h4 | h5
  · have e1 : m.turn i 16 n 0 = { m with ss := m.ss.set i { leased s n with version := 0 } } := by unfold M.turn; rw [turnL_set hi, step_take4 hr ho h4 hw]
    have hsl : M.slot { m with ss := m.ss.set i { leased s n with version := 0 } } i = { leased s n with version := 0 } := slot_of (set_get hi)
    refine key { leased s n with version := 0 } m.ahead _ (leased_right hr ho) rfl rfl rfl ?_ (take_by e1 rfl)
    rw [hsl, if_neg (by simp [leased, «to»])]
    unfold M.leased
    rw [hsl]
  · have e1 : m.turn i 16 n 0 = { m with ss := m.ss.set i { «to» s n 1 with version := 0 } } := by unfold M.turn; rw [turnL_set hi, step_take5 hr ho h5 hw]
    have hg : (m.ss.set i { «to» s n 1 with version := 0 })[i]? = some { «to» s n 1 with version := 0 } := set_get hi
    have hsl : M.slot { m with ss := m.ss.set i { «to» s n 1 with version := 0 } } i = { «to» s n 1 with version := 0 } := slot_of hg
    have hlr : ({ «to» s n 1 with version := 0 } : S).right = true := to_right hr ho (by simp)
    have h6 := take_by e1 rfl
    have h7 : (if (M.slot { m with ss := m.ss.set i { «to» s n 1 with version := 0 } } i).state = 1 then M.dial { m with ss := m.ss.set i { «to» s n 1 with version := 0 } } i n else (M.leased { m with ss := m.ss.set i { «to» s n 1 with version := 0 } } i, { m with ss := m.ss.set i { «to» s n 1 with version := 0 } })) = M.dial { m with ss := m.ss.set i { «to» s n 1 with version := 0 } } i n := if_pos (by rw [hsl]; rfl)
    rw [h7] at h6
    have h8 := dial_view (m := { m with ss := m.ss.set i { «to» s n 1 with version := 0 } }) hg hlr ho rfl rfl
    cases hgd : M.good { m with ss := m.ss.set i { «to» s n 1 with version := 0 } }
    · rw [hgd, if_neg (by simp)] at h8
      rw [h8, if_neg (fun e => by have := e.1; simp [M.failed] at this)] at h6
      rw [h6]
      exact ⟨{ «to» { «to» s n 1 with version := 0 } n 0 with version := 0 }, m.ahead.tail, to_right hlr ho (by simp), by simp, .inr ⟨rfl, .inl rfl, .inr rfl⟩⟩
    · rw [hgd, if_pos rfl] at h8
      refine key { leased { «to» s n 1 with version := 0 } n with version := 0 } m.ahead.tail _ (leased_right hlr ho) rfl rfl rfl ?_ h6
      rw [h8]
      simp [leased, «to»]
theorem rest_get {m : M} {n w : Nat} {k : Wk} (hn : n < m.ks.length) (h : (m.ks.set n Wk.zero)[w]? = some k) : (w = n ∧ k = Wk.zero) ∨ (w ≠ n ∧ m.ks[w]? = some k) := by
  rw [List.getElem?_set] at h
  by_cases e : n = w
  · subst e; simp [hn] at h; exact .inl ⟨rfl, h.symm⟩
  · rw [if_neg e] at h; exact .inr ⟨fun h => e h.symm, h⟩
theorem rest_put {m : M} {n w : Nat} {k : Wk} (hw : w ≠ n) (h : m.ks[w]? = some k) : (m.ks.set n Wk.zero)[w]? = some k := by
  rw [List.getElem?_set, if_neg (fun e => hw e.symm)]; exact h
theorem Mid.rest {m : M} (h : Mid m) {n : Nat} {k0 : Wk} (hk0 : m.ks[n]? = some k0) (h2 : k0.at' ≠ 2) : Mid { m with line := m.line.filter (fun o => o != (n : Int)), ks := m.ks.set n Wk.zero } := by
  have hn := (List.getElem?_eq_some_iff.1 hk0).1
  refine ⟨by simpa using h.nk, h.ns, h.rt, fun x hx => ?_, h.cls, h.sts, fun i s hi w => ?_, fun w k hk hk2 => ?_, fun k hk => ?_, fun w k hk => ?_, ?_, fun k hk => ?_, ?_, fun hc => ?_⟩
  · have := h.lb x (List.mem_filter.1 hx).1; simpa using this
  · rw [h.fw i s hi w]
    constructor
    · rintro ⟨k, hk, hk2, hk3⟩
      exact ⟨k, rest_put (fun e => by subst e; rw [hk0] at hk; cases hk; exact h2 hk2) hk, hk2, hk3⟩
    · rintro ⟨k, hk, hk2, hk3⟩
      rcases rest_get hn hk with ⟨rfl, rfl⟩ | ⟨_, hk'⟩
      · cases hk2
      · exact ⟨k, hk', hk2, hk3⟩
  · rcases rest_get hn hk with ⟨rfl, rfl⟩ | ⟨_, hk'⟩
    · cases hk2
    · exact h.gi w k hk' hk2
  · obtain ⟨w, hw⟩ := mem_get hk
    rcases rest_get hn hw with ⟨rfl, rfl⟩ | ⟨_, hk'⟩
    · exact .inl rfl
    · exact h.ats k (get_mem hk')
  · rcases rest_get hn hk with ⟨rfl, rfl⟩ | ⟨hne, hk'⟩
    · simp [Wk.zero]
    · rw [h.ln w k hk']
      simp; omega
  · exact h.nd.filter _
  · obtain ⟨w, hw⟩ := mem_get hk
    rcases rest_get hn hw with ⟨rfl, rfl⟩ | ⟨_, hk'⟩
    · simp [Wk.zero, Ask.zero]
    · exact h.dl k (get_mem hk')
  · have := h.cap
    have h3 := List.length_filter_le (fun o => o != (n : Int)) m.line
    simp only
    omega
  · simp only; rw [h.cl hc]; rfl
theorem filter_none {l : List Int} {n : Int} (h : n ∉ l) : l.filter (fun o => o != n) = l := by
  rw [List.filter_eq_self]
  intro x hx
  simp
  rintro rfl
  exact h hx
theorem Mid.took {m : M} (h : Mid m) {n i : Nat} {k0 : Wk} (hk0 : m.ks[n]? = some k0) (h2 : k0.at' = 2) (hs : k0.slot = (i : Int)) {t : S} (ht : t.right = true) (hnf : nf t) : Mid { m with ss := m.ss.set i t, ks := m.ks.set n Wk.zero } := by
  have hn := (List.getElem?_eq_some_iff.1 hk0).1
  have hup := @upd_set m.ss i t
  refine ⟨by simpa using h.nk, by simpa using h.ns, fun s' hs' => ?_, fun x hx => by simpa using h.lb x hx, h.cls, fun s' hs' => ?_, fun j s' hj w => ?_, fun w k hk hk2 => ?_, fun k hk => ?_, fun w k hk => ?_, h.nd, fun k hk => ?_, h.cap, h.cl⟩
  · rcases List.mem_or_eq_of_mem_set hs' with hs' | rfl
    · exact h.rt _ hs'
    · exact ht
  · rcases List.mem_or_eq_of_mem_set hs' with hs' | rfl
    · exact h.sts _ hs'
    · exact .inl hnf
  · obtain ⟨u, h1, e⟩ := hup.back hj
    rcases e with ⟨rfl, rfl⟩ | ⟨hne, rfl⟩
    · refine ⟨fun hf => absurd hf (nf_for hnf), ?_⟩
      rintro ⟨k, hk, hk2, hk3⟩
      rcases rest_get hn hk with ⟨rfl, rfl⟩ | ⟨hw, hk'⟩
      · cases hk2
      · have f1 := (h.fw j u h1 w).2 ⟨k, hk', hk2, hk3⟩
        have f2 := (h.fw j u h1 n).2 ⟨k0, hk0, h2, hs⟩
        have := f1.2.symm.trans f2.2
        omega
    · rw [h.fw j s' h1 w]
      constructor
      · rintro ⟨k, hk, hk2, hk3⟩
        refine ⟨k, rest_put (fun e => ?_) hk, hk2, hk3⟩
        subst e
        rw [hk0] at hk; cases hk
        omega
      · rintro ⟨k, hk, hk2, hk3⟩
        rcases rest_get hn hk with ⟨rfl, rfl⟩ | ⟨_, hk'⟩
        · cases hk2
        · exact ⟨k, hk', hk2, hk3⟩
  · rcases rest_get hn hk with ⟨rfl, rfl⟩ | ⟨_, hk'⟩
    · cases hk2
    · obtain ⟨j, h3, h4⟩ := h.gi w k hk' hk2
      exact ⟨j, h3, by simpa using h4⟩
  · obtain ⟨w, hw⟩ := mem_get hk
    rcases rest_get hn hw with ⟨rfl, rfl⟩ | ⟨_, hk'⟩
    · exact .inl rfl
    · exact h.ats k (get_mem hk')
  · rcases rest_get hn hk with ⟨rfl, rfl⟩ | ⟨hne, hk'⟩
    · simp [Wk.zero]
      intro hm
      have := (h.ln w k0 hk0).2 hm
      omega
    · exact h.ln w k hk'
  · obtain ⟨w, hw⟩ := mem_get hk
    rcases rest_get hn hw with ⟨rfl, rfl⟩ | ⟨_, hk'⟩
    · simp [Wk.zero, Ask.zero]
    · exact h.dl k (get_mem hk')
theorem Mid.waits {m : M} (h : Mid m) {n : Nat} {k0 : Wk} (hk0 : m.ks[n]? = some k0) (h2 : k0.at' = 0) (a : Ask) (ha : a.deadline ≤ 255) (hc : m.closed = 0) (hcap : (m.line.length : Int) < m.cf.waiters) :
    Mid { m with line := m.line ++ [(n : Int)], ks := m.ks.set n ⟨1, a, 0⟩ } := by
  have hn := (List.getElem?_eq_some_iff.1 hk0).1
  have hget : ∀ (w : Nat) (k : Wk), (m.ks.set n ⟨1, a, 0⟩)[w]? = some k → (w = n ∧ k = ⟨1, a, 0⟩) ∨ (w ≠ n ∧ m.ks[w]? = some k) := fun w k hk => by
    rw [List.getElem?_set] at hk
    by_cases e : n = w
    · subst e; simp [hn] at hk; exact .inl ⟨rfl, hk.symm⟩
    · rw [if_neg e] at hk; exact .inr ⟨fun h => e h.symm, hk⟩
  have hput : ∀ (w : Nat) (k : Wk), w ≠ n → m.ks[w]? = some k → (m.ks.set n ⟨1, a, 0⟩)[w]? = some k := fun w k hw hk => by
    rw [List.getElem?_set, if_neg (fun e => hw e.symm)]; exact hk
  have hnl : (n : Int) ∉ m.line := fun hm => by have := (h.ln n k0 hk0).2 hm; omega
  refine ⟨by simpa using h.nk, h.ns, h.rt, fun x hx => ?_, h.cls, h.sts, fun i s hi w => ?_, fun w k hk hk2 => ?_, fun k hk => ?_, fun w k hk => ?_, ?_, fun k hk => ?_, ?_, fun h => absurd hc h⟩
  · simp at hx
    rcases hx with hx | rfl
    · simpa using h.lb x hx
    · simp; omega
  · rw [h.fw i s hi w]
    constructor
    · rintro ⟨k, hk, hk2, hk3⟩
      exact ⟨k, hput w k (fun e => by subst e; rw [hk0] at hk; cases hk; omega) hk, hk2, hk3⟩
    · rintro ⟨k, hk, hk2, hk3⟩
      rcases hget w k hk with ⟨rfl, rfl⟩ | ⟨_, hk'⟩
      · cases hk2
      · exact ⟨k, hk', hk2, hk3⟩
  · rcases hget w k hk with ⟨rfl, rfl⟩ | ⟨_, hk'⟩
    · cases hk2
    · exact h.gi w k hk' hk2
  · obtain ⟨w, hw⟩ := mem_get hk
    rcases hget w k hw with ⟨rfl, rfl⟩ | ⟨_, hk'⟩
    · exact .inr (.inl rfl)
    · exact h.ats k (get_mem hk')
  · rcases hget w k hk with ⟨rfl, rfl⟩ | ⟨hne, hk'⟩
    · simp
    · rw [h.ln w k hk']
      simp; omega
  · rw [List.nodup_append]
    refine ⟨h.nd, by simp, ?_⟩
    intro x hx y hy e
    simp at hy
    subst hy e
    exact hnl hx
  · obtain ⟨w, hw⟩ := mem_get hk
    rcases hget w k hw with ⟨rfl, rfl⟩ | ⟨_, hk'⟩
    · exact ha
    · exact h.dl k (get_mem hk')
  · simp; omega
theorem told_get (l : List Int) : ∀ (ks : List Wk), (∀ x ∈ l, 0 ≤ x) → (l.foldl (fun ks who => ks.set who.toNat { ks[who.toNat]?.getD Wk.zero with at' := 3 }) ks).length = ks.length ∧
    ∀ (w : Nat) (k : Wk), ks[w]? = some k → (l.foldl (fun ks who => ks.set who.toNat { ks[who.toNat]?.getD Wk.zero with at' := 3 }) ks)[w]? = some (if (w : Int) ∈ l then { k with at' := 3 } else k) := by
  induction l with
  | nil => intro ks _; simp
  | cons x l ih =>
    intro ks hx
    obtain ⟨n, rfl⟩ := Int.eq_ofNat_of_zero_le (hx x (by simp))
    have ih' := ih (ks.set n { ks[n]?.getD Wk.zero with at' := 3 }) (fun y hy => hx y (by simp [hy]))
    simp only [List.foldl_cons, Int.toNat_natCast]
    refine ⟨by rw [ih'.1]; simp, fun w k hk => ?_⟩
    have hwl := (List.getElem?_eq_some_iff.1 hk).1
    by_cases e : n = w
    · subst e
      have h1 : (ks.set n { ks[n]?.getD Wk.zero with at' := 3 })[n]? = some { k with at' := 3 } := by simp only [hk, Option.getD_some]; simp [hwl]
      rw [ih'.2 n _ h1]
      simp
    · have h1 : (ks.set n { ks[n]?.getD Wk.zero with at' := 3 })[w]? = some k := by rw [List.getElem?_set, if_neg e]; exact hk
      rw [ih'.2 w _ h1]
      have : ((w : Int) ∈ (n : Int) :: l) ↔ (w : Int) ∈ l := by simp; omega
      simp only [this]
theorem Mid.close {m : M} (h : Mid m) (force : Bool) : Mid (m.close force) := by
  obtain ⟨t1, t2⟩ := told_get m.line m.ks (fun x hx => (h.lb x hx).1)
  unfold M.close
  generalize m.line.foldl (fun ks who => ks.set who.toNat { ks[who.toNat]?.getD Wk.zero with at' := 3 }) m.ks = ks' at *
  have hback : ∀ (w : Nat) (k : Wk), ks'[w]? = some k → ∃ k0, m.ks[w]? = some k0 ∧ k = if (w : Int) ∈ m.line then { k0 with at' := 3 } else k0 := fun w k hk => by
    have hw := (List.getElem?_eq_some_iff.1 hk).1
    have h1 := t2 w m.ks[w] (List.getElem?_eq_getElem (by omega))
    rw [hk] at h1
    exact ⟨_, List.getElem?_eq_getElem (by omega), by cases h1; rfl⟩
  refine ⟨by simpa [t1] using h.nk, h.ns, h.rt, fun x hx => by simp at hx, ?_, h.sts, fun i s hi w => ?_, fun w k hk hk2 => ?_, fun k hk => ?_, fun w k hk => ?_, by simp, fun k hk => ?_, ?_, fun _ => rfl⟩
  · have := h.cls
    simp only
    split
    · omega
    · split <;> omega
  · rw [h.fw i s hi w]
    constructor
    · rintro ⟨k, hk, hk2, hk3⟩
      refine ⟨k, ?_, hk2, hk3⟩
      have h1 := t2 w k hk
      rw [if_neg (fun hm => by have := (h.ln w k hk).2 hm; omega)] at h1
      exact h1
    · rintro ⟨k, hk, hk2, hk3⟩
      obtain ⟨k0, h1, rfl⟩ := hback w k hk
      split at hk2
      · cases hk2
      · rename_i hm
        rw [if_neg hm] at hk3
        exact ⟨k0, h1, hk2, hk3⟩
  · obtain ⟨k0, h1, rfl⟩ := hback w k hk
    split at hk2
    · cases hk2
    · rename_i hm
      rw [if_neg hm]
      exact h.gi w k0 h1 hk2
  · obtain ⟨w, hw⟩ := mem_get hk
    obtain ⟨k0, h1, rfl⟩ := hback w k hw
    split
    · exact .inr (.inr (.inr rfl))
    · exact h.ats k0 (get_mem h1)
  · obtain ⟨k0, h1, rfl⟩ := hback w k hk
    simp
    split
    · simp
    · rename_i hm
      intro e
      exact hm ((h.ln w k0 h1).1 e)
  · obtain ⟨w, hw⟩ := mem_get hk
    obtain ⟨k0, h1, rfl⟩ := hback w k hw
    split
    · exact h.dl k0 (get_mem h1)
    · exact h.dl k0 (get_mem h1)
  · have := h.cap; simp only [List.length_nil]; omega
theorem own_fits {s : S} {who : Int} (h : Find.fits s 0 who = true) : s.state = 2 ∧ s.broken = false ∧ s.own = who := by simp [Find.fits, Find.sound] at h; exact ⟨h.1.1, h.1.2, h.2⟩
theorem any_fits {s : S} {who : Int} (h : Find.fits s 1 who = true) : s.state = 2 ∧ s.broken = false := by simpa [Find.fits, Find.sound] using h
theorem free_fits {s : S} {who : Int} (h : Find.fits s 2 who = true) : s.state = 0 := by simpa [Find.fits] using h
theorem rest_fits {s : S} {who : Int} (h : Find.fits s 6 who = true) : s.state = 2 := by simpa [Find.fits] using h
theorem quiet_turn {m : M} (h : Mid m) {i d : Nat} {own more : Int} {s : S} (hi : m.ss[i]? = some s) (hq : quiet s (step s d own more)) : Mid (m.turn i d own more) := by
  have := h.set1 hi hq
  rw [← turnL_set hi] at this
  exact this
theorem quiet_step {s : S} {d : Nat} {own more : Int} (hd : Done d) (hr : s.right = true) (hs : (step s d own more).state = s.state ∧ (step s d own more).own = s.own) : quiet s (step s d own more) := ⟨step_right hd hr, .inl hs⟩
theorem Mid.get {m : M} (h : Mid m) {n : Nat} {k0 : Wk} (hk0 : m.ks[n]? = some k0) (h0 : k0.at' = 0) (a : Ask) (ha : a.deadline ≤ 255) : Mid (m.get n a).2 := by
  have ho := h.own (List.getElem?_eq_some_iff.1 hk0).1
  unfold M.get
  split
  · exact h
  rename_i hc
  have hc : m.closed = 0 := by simpa using hc
  split
  · rename_i i hi
    obtain ⟨s, h1, h2⟩ := first_some' hi
    obtain ⟨f1, f2, f3⟩ := own_fits h2
    have hr := h.rt s (get_mem h1)
    exact quiet_turn h h1 (by rw [step_lease hr ho f1 f2]; exact ⟨leased_right hr ho, .inr ⟨.inr (.inl f1), leased_nf _ _⟩⟩)
  split
  · rename_i i hi
    obtain ⟨s, h1, h2⟩ := first_some' hi
    obtain ⟨f1, f2⟩ := any_fits h2
    have hr := h.rt s (get_mem h1)
    have hm : Mid (m.turn i 3 n 0) := quiet_turn h h1 (by rw [step_lease hr ho f1 f2]; exact ⟨leased_right hr ho, .inr ⟨.inr (.inl f1), leased_nf _ _⟩⟩)
    refine hm.slots ((upd_move _ _).mono fun j u u' hj e => ?_)
    have hru := hm.rt u (get_mem hj)
    rcases e with rfl | ⟨hf, rfl⟩
    · exact quiet.refl hru
    · obtain ⟨q1, q2, q3⟩ := own_fits hf
      rw [step_move hru ho q1]
      exact ⟨to_right hru ho (by simp), .inr ⟨.inr (.inl q1), .inr (.inl rfl)⟩⟩
  split
  · rename_i i hi
    obtain ⟨s, h1, h2⟩ := first_some' hi
    have f1 := free_fits h2
    have hr := h.rt s (get_mem h1)
    obtain ⟨t, t1, t2, t3⟩ := dial0_view h1 hr ho f1
    simp only
    rw [t2]
    refine (h.set1 h1 ⟨t1, .inr ⟨.inl f1, ?_⟩⟩).out _ _
    rcases t3 with t3 | t3
    · exact .inr (.inr t3.1)
    · exact .inl t3.1
  split
  · exact h
  split
  · exact h
  · rename_i hcap
    exact h.waits hk0 h0 a ha hc (by omega)
theorem owns_of {m : M} {who : Int} {a : Ask} (h : m.owns who a = 0) : m.closed ≠ 2 ∧ ∃ (i : Nat) (s : S), a.slot = (i : Int) ∧ m.ss[i]? = some s ∧ s.state = 3 ∧ s.own = who ∧ s.gen = a.gen := by
  unfold M.owns at h
  split at h
  · cases h
  rename_i h1
  split at h
  · cases h
  rename_i h2
  split at h
  · cases h
  rename_i h3
  obtain ⟨n, hn⟩ := Int.eq_ofNat_of_zero_le (show 0 ≤ a.slot by omega)
  obtain ⟨s, hs⟩ : ∃ s, m.ss[n]? = some s := ⟨_, List.getElem?_eq_getElem (by omega)⟩
  rw [hn, Int.toNat_natCast, slot_of hs] at h3
  exact ⟨h1, n, s, hn, hs, by omega, by omega, by omega⟩
theorem Mid.give {m : M} (h : Mid m) {n : Nat} (hn : n < m.ks.length) (a : Ask) (d : Bool) : Mid (m.give n a d).2 := by
  have ho := h.own hn
  unfold M.give
  split
  · exact h
  rename_i hw
  obtain ⟨_, i, s, e1, hi, q1, q2, q3⟩ := owns_of (Classical.byContradiction fun e => hw e)
  have hr := h.rt s (get_mem hi)
  rw [e1, Int.toNat_natCast, slot_of hi]
  split
  · exact h
  rename_i hst
  simp only
  split
  · unfold M.empty
    rw [slot_of hi]
    exact h.set1 hi ⟨emptied_right hr, .inr ⟨.inr (.inr q1), emptied_nf s⟩⟩
  · rename_i hd
    refine quiet_turn h hi ?_
    rw [step_rest hr ho q1 q2 (Classical.byContradiction fun e => hst ⟨e, by cases d <;> simp_all⟩)]
    exact ⟨to_right hr ho (by simp), .inr ⟨.inr (.inr q1), .inr (.inl rfl)⟩⟩
theorem Mid.openS {m : M} (h : Mid m) {n : Nat} (a : Ask) : Mid (m.openS n a).2 := by
  unfold M.openS
  split
  · exact h
  rename_i hw
  obtain ⟨_, i, s, e1, hi, q1, q2, q3⟩ := owns_of (Classical.byContradiction fun e => hw e)
  rw [e1, Int.toNat_natCast, slot_of hi]
  split
  · exact h
  split
  · exact quiet_turn h hi (quiet_step (by simp [Done]) (h.rt s (get_mem hi)) ⟨step_open.1, step_open.2.1⟩)
  · exact h
theorem Mid.shutS {m : M} (h : Mid m) {n : Nat} (a : Ask) : Mid (m.shutS n a).2 := by
  unfold M.shutS
  split
  · exact h
  rename_i hw
  obtain ⟨_, i, s, e1, hi, q1, q2, q3⟩ := owns_of (Classical.byContradiction fun e => hw e)
  rw [e1, Int.toNat_natCast, slot_of hi]
  split
  · exact quiet_turn h hi (quiet_step (by simp [Done]) (h.rt s (get_mem hi)) ⟨step_shut.1, step_shut.2.1⟩)
  · exact h
theorem Mid.reap {m : M} (h : Mid m) {n : Nat} (hn : n < m.ks.length) : Mid (m.reap n).2 := by
  have ho := h.own hn
  refine (h.slots ((upd_reap m.ahead 0 m.ss).mono fun j s s' hj e => ?_)).out _ m.now
  have hr := h.rt s (get_mem hj)
  rcases e with ⟨_, rfl⟩ | ⟨hf, ⟨e1, e2, rfl⟩ | rfl⟩
  · exact quiet.refl hr
  · have f := rest_fits hf
    refine ⟨step_right (by simp [Done]) hr, .inl ?_⟩
    rw [step_mark hr ho f e1]
    exact ⟨rfl, rfl⟩
  · exact ⟨emptied_right hr, .inr ⟨.inr (.inl (rest_fits hf)), emptied_nf s⟩⟩
theorem Mid.does {m : M} (h : Mid m) {n : Nat} {k0 : Wk} (hk0 : m.ks[n]? = some k0) (h0 : k0.at' = 0) (a : Ask) (ha : a.deadline ≤ 255) : Mid (m.does n a).2 := by
  have hn := (List.getElem?_eq_some_iff.1 hk0).1
  unfold M.does
  split
  · exact h.get hk0 h0 a ha
  split
  · exact h.give hn a _
  split
  · exact h.give hn a _
  split
  · exact h.openS a
  split
  · exact h.shutS a
  split
  · exact h.reap hn
  split
  · exact h.close _
  · exact h
theorem can_of {m : M} {who : Int} {a : Ask} (h : m.can who a = true) : (0 ≤ a.op ∧ a.op ≤ 7) ∧ ∃ (n : Nat) (k : Wk), who = (n : Int) ∧ m.ks[n]? = some k ∧ k.at' = 0 := by
  simp [M.can] at h
  obtain ⟨⟨h1, h2⟩, h3⟩ := h
  obtain ⟨n, rfl, hn⟩ := has_nat h2
  have hk : m.ks[n]? = some m.ks[n] := List.getElem?_eq_getElem hn
  rw [worker_of hk] at h3
  exact ⟨h1, n, _, rfl, hk, h3⟩
theorem Inv.ask {m : M} (h : Inv m) (who : Int) (a : Ask) (ha : a.deadline ≤ 255) : Inv (m.ask who a).2 := by
  unfold M.ask
  split
  · rename_i hc
    obtain ⟨ho, n, k, rfl, hk, h0⟩ := can_of hc
    have hm := (h.toMid.does hk h0 a ha).inv
    simp only
    split <;> exact hm
  · exact h
theorem Mid.granted {m : M} (h : Mid m) {n : Nat} {k : Wk} (hk : m.ks[n]? = some k) (h2 : k.at' = 2) : ∃ (i : Nat) (s : S), k.slot = (i : Int) ∧ m.ss[i]? = some s ∧ (s.state = 4 ∨ s.state = 5) ∧ s.own = (n : Int) ∧ s.right = true ∧ n < 9 := by
  obtain ⟨i, h3, h4⟩ := h.gi n k hk h2
  have hs : m.ss[i]? = some m.ss[i] := List.getElem?_eq_getElem h4
  have hf := (h.fw i _ hs n).2 ⟨k, hk, h2, h3⟩
  have := (List.getElem?_eq_some_iff.1 hk).1
  have := h.nk
  exact ⟨i, _, h3, hs, hf.1, hf.2, h.rt _ (get_mem hs), by omega⟩
theorem Inv.wake {m : M} (h : Inv m) (who : Int) : Inv (m.wake who).2 := by
  unfold M.wake
  split
  · exact h
  rename_i hh
  obtain ⟨n, rfl, hn⟩ := has_nat (by simpa using hh)
  have hk : m.ks[n]? = some m.ks[n] := List.getElem?_eq_getElem hn
  simp only [worker_of hk]
  have hr := fun h2 => h.toMid.rest hk h2
  simp only [M.rest, Int.toNat_natCast]
  split
  · rename_i h3
    have hm := hr (by omega)
    rw [filter_none (fun hx => by have := (h.ln n _ hk).2 hx; omega)] at hm
    exact hm.inv
  split
  · rename_i h2
    obtain ⟨i, s, e1, hi, h45, hw, hrt, hn9⟩ := h.toMid.granted hk h2
    rw [e1, Int.toNat_natCast]
    obtain ⟨t, a, t1, t2, t3⟩ := take_view hi hrt hn9 h45 hw
    simp only
    rw [t2]
    have hm := (h.toMid.took hk h2 e1 t1 (by rcases t3 with t3 | t3; exact .inr (.inr t3.2.1); exact .inl t3.1)).out a m.now
    exact hm.inv
  split
  · rename_i h1
    exact (hr (by omega)).inv
  · exact h
theorem Inv.tick {m : M} (h : Inv m) (n : Int) : Inv (m.tick n) := { toMid := h.toMid.out m.ahead (Clock.tick m.now n), toTidied := ⟨h.fair, h.cl1, h.cl2⟩ }
theorem Inv.feed {m : M} (h : Inv m) (b : Bool) : Inv (m.feed b).2 := by
  unfold M.feed
  split
  · exact { toMid := h.toMid.out _ m.now, toTidied := ⟨h.fair, h.cl1, h.cl2⟩ }
  · exact h
theorem Inv.break {m : M} (h : Inv m) (i : Int) : Inv (m.break' i).2 := by
  unfold M.break'
  split
  · rename_i hi
    obtain ⟨n, rfl⟩ := Int.eq_ofNat_of_zero_le hi.1
    simp only [Int.toNat_natCast]
    have hs : m.ss[n]? = some m.ss[n] := List.getElem?_eq_getElem (by omega)
    have hb := @step_break m.ss[n] 0 0
    have hup := @upd_turn m.ss n 13 0 0
    refine { toMid := quiet_turn h.toMid hs (quiet_step (by simp [Done]) (h.rt _ (get_mem hs)) ⟨hb.1, hb.2.1⟩), toTidied := ⟨fun hl s' hs' => ?_, fun hc s' hs' => ?_, fun hc s' hs' => ?_⟩ }
    all_goals (
      obtain ⟨j, hj⟩ := mem_get hs'
      obtain ⟨s, h1, e⟩ := hup.back hj)
    · have hf := h.fair hl s (get_mem h1)
      rcases e with ⟨rfl, rfl⟩ | ⟨_, rfl⟩
      · rw [hs] at h1
        cases h1
        simp [Find.fits, Find.sound] at hf ⊢
        rw [hb.1]
        exact ⟨fun h2 => hb.2.2.2.1 (hf.1 h2), hf.2⟩
      · exact hf
    · have hf := h.cl1 hc s (get_mem h1)
      rcases e with ⟨rfl, rfl⟩ | ⟨_, rfl⟩
      · rw [hs] at h1; cases h1; rw [hb.1]; exact hf
      · exact hf
    · have hf := h.cl2 hc s (get_mem h1)
      rcases e with ⟨rfl, rfl⟩ | ⟨_, rfl⟩
      · rw [hs] at h1; cases h1; rw [hb.1]; exact hf
      · exact hf
  · exact h
theorem Inv.new {c : Conf.Cf} (hc : c.right = true) : Inv (M.new c) := by
  simp [Conf.Cf.right, Conf.btw] at hc
  have hz : ∀ s ∈ (M.new c).ss, s = S.zero := fun s hs => by simpa [M.new] using (List.mem_replicate.1 hs).2
  have hk : ∀ k ∈ (M.new c).ks, k = Wk.zero := fun s hs => by simpa [M.new] using (List.mem_replicate.1 hs).2
  refine { toMid := ⟨by simp [M.new]; omega, by simp [M.new]; omega, fun s hs => by rw [hz s hs]; exact zero_right, fun x hx => by simp [M.new] at hx, .inl rfl, fun s hs => by rw [hz s hs]; exact .inl (.inl rfl), fun i s hi w => ?_, fun w k hw h2 => ?_, fun k h => by rw [hk k h]; exact .inl rfl, fun w k hw => ?_, by simp [M.new], fun k h => by rw [hk k h]; simp [Wk.zero, Ask.zero], by simp [M.new]; omega, fun h => rfl⟩, toTidied := ⟨fun h => absurd rfl h, fun h => absurd rfl h, fun h => by cases h⟩ }
  · rw [hz s (get_mem hi)]
    constructor
    · rintro ⟨h, _⟩; simp [S.zero] at h
    · rintro ⟨k, hw, h2, _⟩
      rw [hk k (get_mem hw)] at h2
      cases h2
  · rw [hk k (get_mem hw)] at h2
    cases h2
  · rw [hk k (get_mem hw)]
    simp [Wk.zero, M.new]
end Go.Proofs.YtpmkgddjgebojaaGreatDoor.Mod
