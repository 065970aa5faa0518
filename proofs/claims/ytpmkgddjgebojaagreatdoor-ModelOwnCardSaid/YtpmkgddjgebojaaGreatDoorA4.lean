/- Part 4 of the walks over the program's functions, and of the plain laws, that the claim's last text joins: ModView LawConf LawEv ModOut EvRow LawPlayB LawEntry Reg4 ModNew ModGive ModOpen ModShut ModStats. -/
import Derived.Test.YtpmkgddjgebojaaGreatDoorA2
import Derived.Test.YtpmkgddjgebojaaGreatDoorA3
import Derived.Lib.SliceRun
import Derived.Laws.AppendOwn
import Derived.Deep.DeepCutAuto
import Derived.IntWalk
import Derived.Great.BuildSlice
import Derived.RegionTactic

namespace Go.Proofs.YtpmkgddjgebojaaGreatDoor.Mod
set_option linter.unusedVariables false
set_option linter.unusedSimpArgs false
open Go.RowKit Hp Slot RowL Life

theorem view_info : (Tryz.prog.info? 59).map (fun i => (i.zero, i.size, i.bytes)) = some (some (.agg #[.int .i64 0, .int .i64 0, .int .i64 0, .bool false, .bool false, .int .i64 0, .int .i64 0, .int .i64 0, .int .i64 0]), 9, 64) := by kernel_rfl
theorem ownsRow_at {w : World} {base : Nat} {e : TypeId} {size : Nat} {v : Value} {n : Nat} {xs : List Value} (h : w.ownsRow base e size v n xs) (hv : v ≠ .slice none 0 0) : ∃ g cap, v = .slice (some ⟨g, 0, none⟩) n cap ∧ base ≤ g := by
  rcases h.2 with h2 | ⟨g, cap, cur, rfl, hb, _⟩
  · exact absurd h2.1 hv
  · exact ⟨g, cap, rfl, hb⟩
set_option maxRecDepth 100000 in
set_option maxHeartbeats 4000000 in
theorem clone_slots (w : World) (b off n c : Nat) (news : List Value) (hl : news.length = n * 9) (hn : n ≤ 1000)
    (hc : ∀ j u, news[j]? = some u → w.cell? ⟨b, off + j, none⟩ = some u) (h1 : ∀ u ∈ news, u.oneCell' = true) :
    Calls Tryz.prog 57 #[.slice (some ⟨b, off, none⟩) n c] w fun e w' => ∃ g cap, e = .returned (.slice (some ⟨g, 0, none⟩) n cap) ∧ OwnS w' (.slice (some ⟨g, 0, none⟩) n cap) n 9 news ∧ w.heap.size ≤ g ∧ Below w.heap.size w w' := by
  have q22 : ∀ (w : World) (a : Option Addr) (n c n' c' : Nat), (binOp .eql 42 (.slice a n c) (.slice none n' c')).run Tryz.prog w = .ok (.bool a.isNone) w := fun w a n c n' c' => Lib.run_eql_slice_nil w _ _ a n c n' c' Tryz.underlying42
  have HC := Lib.hid hc
  have H1 := Lib.hid h1
  have HL := Lib.hid hl
  obtain ⟨i0, hi, hz0, hz1, hz2⟩ := info_parts view_info
  clear hc h1 hl
  go_enter Tryz.func57, Tryz.ntmps57
  go_wp2_with (at_builtin; refine wpList_append_own _ rfl _ _ 42 rfl w.heap.size 59 i0 (.agg #[.int .i64 0, .int .i64 0, .int .i64 0, .bool false, .bool false, .int .i64 0, .int .i64 0, .int .i64 0, .int .i64 0]) 9 64 Tryz.underlying42 hi hz0 hz1 hz2 rfl (by decide) _ _ _ rfl (World.ownsRow_made w #[] 0 (Nat.le_refl _) (Nat.zero_le _) (by simp)) ⟨b, off, none⟩ n c news rfl ?qc1 ?qc2 ?qc3 ?qc4 ?qc5 ?qc6 ?_)
  case qc1 => exact HL.out
  case qc2 =>
    intro j u hj
    rw [Addr.add_lit]
    exact Lib.cell?_alloc_some _ (HC.out j u hj)
  case qc3 => exact H1.out
  case qc4 => unfold maxLen; omega
  case qc5 => omega
  case qc6 => simp
  intro v' w1 hown hgrow hnil
  obtain ⟨g, cap, rfl, hg⟩ := ownsRow_at hown (fun e => by simpa using hnil e)
  have HOWN := Lib.hid hown
  have HGR := Lib.hid hgrow
  clear hown hgrow hnil q22 hi hz0 hz1 hz2
  go_wp2
  go_ret
  have h3 := ownS_of_row HOWN.out
  try simp only [Nat.zero_add, List.nil_append] at h3
  refine ⟨g, cap, by simp, by simpa using h3, hg, ?_⟩
  exact ((Below.refl _ w).alloc (Nat.le_refl _) _).grown HGR.out (by simp) (by intro k hk; simp [Value.ownBlock] at hk; omega)
set_option maxRecDepth 100000 in
set_option maxHeartbeats 4000000 in
theorem clone_ints (w : World) (b off n c : Nat) (news : List Value) (hl : news.length = n * 1) (hn : n ≤ 1000)
    (hc : ∀ j u, news[j]? = some u → w.cell? ⟨b, off + j, none⟩ = some u) (h1 : ∀ u ∈ news, u.oneCell' = true) :
    Calls Tryz.prog 58 #[.slice (some ⟨b, off, none⟩) n c] w fun e w' => ∃ g cap, e = .returned (.slice (some ⟨g, 0, none⟩) n cap) ∧ OwnS w' (.slice (some ⟨g, 0, none⟩) n cap) n 1 news ∧ w.heap.size ≤ g ∧ Below w.heap.size w w' := by
  have q22 : ∀ (w : World) (a : Option Addr) (n c n' c' : Nat), (binOp .eql 43 (.slice a n c) (.slice none n' c')).run Tryz.prog w = .ok (.bool a.isNone) w := fun w a n c n' c' => Lib.run_eql_slice_nil w _ _ a n c n' c' Tryz.underlying43
  have HC := Lib.hid hc
  have H1 := Lib.hid h1
  have HL := Lib.hid hl
  obtain ⟨i0, hi, hz0, hz1, hz2⟩ := info_parts int_info
  clear hc h1 hl
  go_enter Tryz.func58, Tryz.ntmps58
  go_wp2_with (at_builtin; refine wpList_append_own _ rfl _ _ 43 rfl w.heap.size 3 i0 (.int .i64 0) 1 8 Tryz.underlying43 hi hz0 hz1 hz2 rfl (by decide) _ _ _ rfl (World.ownsRow_made w #[] 0 (Nat.le_refl _) (Nat.zero_le _) (by simp)) ⟨b, off, none⟩ n c news rfl ?qc1 ?qc2 ?qc3 ?qc4 ?qc5 ?qc6 ?_)
  case qc1 => exact HL.out
  case qc2 =>
    intro j u hj
    rw [Addr.add_lit]
    exact Lib.cell?_alloc_some _ (HC.out j u hj)
  case qc3 => exact H1.out
  case qc4 => unfold maxLen; omega
  case qc5 => omega
  case qc6 => simp
  intro v' w1 hown hgrow hnil
  obtain ⟨g, cap, rfl, hg⟩ := ownsRow_at hown (fun e => by simpa using hnil e)
  have HOWN := Lib.hid hown
  have HGR := Lib.hid hgrow
  clear hown hgrow hnil q22 hi hz0 hz1 hz2
  go_wp2
  go_ret
  have h3 := ownS_of_row HOWN.out
  try simp only [Nat.zero_add, List.nil_append] at h3
  refine ⟨g, cap, by simp, by simpa using h3, hg, ?_⟩
  exact ((Below.refl _ w).alloc (Nat.le_refl _) _).grown HGR.out (by simp) (by intro k hk; simp [Value.ownBlock] at hk; omega)
set_option maxHeartbeats 1000000 in
theorem clone_nil (w : World) : Calls Tryz.prog 58 #[.slice none 0 0] w fun e w' => e = .returned (.slice none 0 0) ∧ w = w' := by
  have q22 : ∀ (w : World) (a : Option Addr) (n c n' c' : Nat), (binOp .eql 43 (.slice a n c) (.slice none n' c')).run Tryz.prog w = .ok (.bool a.isNone) w := fun w a n c n' c' => Lib.run_eql_slice_nil w _ _ a n c n' c' Tryz.underlying43
  go_enter Tryz.func58, Tryz.ntmps58
  go_wp2
  go_ret
  exact ⟨rfl, rfl⟩
theorem clone_line (w : World) (v : Value) (l : List Int) (hl : l.length ≤ 1000) (ho : OwnS w v l.length 1 (l.map (Value.int .i64))) :
    Calls Tryz.prog 58 #[v] w fun e w' => ∃ a c, e = .returned (.slice a l.length c) ∧ OwnS w' (.slice a l.length c) l.length 1 (l.map (Value.int .i64)) ∧ (∀ k, Fp (.slice a l.length c) k → w.heap.size ≤ k) ∧ Below w.heap.size w w' := by
  rcases ho.2 with ⟨rfl, h0⟩ | ⟨g, off, cap, rfl, hn, hcm, isc, hs, hf, hx⟩
  · refine (clone_nil w).mono ?_
    rintro e w' ⟨rfl, rfl⟩
    obtain rfl : l = [] := List.eq_nil_of_length_eq_zero h0
    exact ⟨none, 0, rfl, ownS_nil _ _, fun k hk => (fp_nil _ hk).elim, Below.refl _ _⟩
  · refine (clone_ints w g off l.length cap (l.map (Value.int .i64)) (by simp) hl hx (by simp [Value.oneCell'])).mono ?_
    rintro e w' ⟨g', cap', rfl, h1, h2, h3⟩
    exact ⟨_, _, rfl, h1, fun k hk => by have hh := (fp_some _ _ _ _).1 hk; simp at hh; omega, h3⟩

/-- All cells of a row of slots. -/
def flat (ss : List S) : List Value := ss.flatMap fun s => s.cells.toList
theorem flat_len : ∀ ss, (flat ss).length = ss.length * 9
  | [] => rfl
  | s :: l => by
    have := flat_len l
    simp only [flat, List.flatMap_cons, List.length_append] at this ⊢
    rw [this]
    simp [S.cells]; omega
theorem flat_at : ∀ (ss : List S) (i : Nat) (s : S) (q : Nat), ss[i]? = some s → q < 9 → (flat ss)[i * 9 + q]? = s.cells[q]?
  | [], i, s, q, h, _ => by simp at h
  | t :: l, 0, s, q, h, hq => by
    obtain rfl : t = s := by simpa using h
    simp only [flat, List.flatMap_cons]
    rw [List.getElem?_append_left (by simp [S.cells]; omega)]
    simp
  | t :: l, i + 1, s, q, h, hq => by
    have ih := flat_at l i s q (by simpa using h) hq
    simp only [flat, List.flatMap_cons] at ih ⊢
    rw [List.getElem?_append_right (by simp [S.cells]; omega), ← ih]
    congr 1
    simp [S.cells]; omega
theorem flat_cell {W : World} {sb : Nat} {ss : List S} (h : SlotsAt W sb ss) (j : Nat) (u : Value) (hu : (flat ss)[j]? = some u) : W.cell? ⟨sb, 0 + j, none⟩ = some u := by
  have hj := (List.getElem?_eq_some_iff.1 hu).1
  rw [flat_len] at hj
  obtain ⟨s, hs⟩ : ∃ s, ss[j / 9]? = some s := ⟨_, List.getElem?_eq_getElem (by omega)⟩
  have h1 := flat_at ss (j / 9) s (j % 9) hs (by omega)
  rw [show j / 9 * 9 + j % 9 = j by omega, hu] at h1
  have h2 := h.1 (j / 9) s hs (j % 9) u h1.symm
  rw [show j / 9 * 9 + j % 9 = j by omega] at h2
  rw [Nat.zero_add]
  exact h2
theorem flat_one (ss : List S) : ∀ u ∈ flat ss, u.oneCell' = true := by
  intro u hu
  simp only [flat, List.mem_flatMap] at hu
  obtain ⟨s, _, h⟩ := hu
  simp [S.cells] at h
  rcases h with rfl | rfl | rfl | rfl | rfl | rfl | rfl | rfl | rfl <;> rfl
theorem slots_of_flat {W : World} {g n cap : Nat} {ss : List S} (h : OwnS W (.slice (some ⟨g, 0, none⟩) n cap) n 9 (flat ss)) (hn : ss.length = n) : SlotsAt W g ss := by
  rcases h.2 with ⟨h0, _⟩ | ⟨g', off, cap', e, h1, h2, h3, h4, h5, h6⟩
  · cases h0
  · cases e
    refine ⟨fun i s hs j v hv => ?_, fun i j hi hj => ?_⟩
    · have hj : j < 9 := by have := (Array.getElem?_eq_some_iff.1 hv).1; simpa [S.cells] using this
      have := h6 (i * 9 + j) v (by rw [flat_at ss i s j hs hj]; exact hv)
      simpa using this
    · have := h5 (i * 9 + j) (by omega)
      simpa using this

set_option maxRecDepth 100000 in
set_option maxHeartbeats 4000000 in
theorem m_view {W : World} {p : Pl} {m : M} (h : MAt W p m) : Calls Tryz.prog 19 #[.pointer (some ⟨p.mb, 0, none⟩)] W fun e W' =>
    ∃ g1 c1 a2 c2, e = .returned (.agg #[.slice (some ⟨g1, 0, none⟩) m.ss.length c1, .slice a2 m.line.length c2, .int .i64 m.closed]) ∧ SlotsAt W' g1 m.ss ∧ W.heap.size ≤ g1 ∧
      OwnS W' (.slice a2 m.line.length c2) m.line.length 1 (m.line.map (Value.int .i64)) ∧ (∀ k, Fp (.slice a2 m.line.length c2) k → W.heap.size ≤ k) ∧ Below W.heap.size W W' := by
  have hB : Below W.heap.size W (W.alloc (.cells #[.slice none 0 0, .slice none 0 0, .int .i64 0] 45)) := (Below.refl _ _).alloc (Nat.le_refl _) _
  have h1 := h.below hB
  have e1 : RowAt (W.alloc (.cells #[.slice none 0 0, .slice none 0 0, .int .i64 0] 45)) W.heap.size #[.slice none 0 0, .slice none 0 0, .int .i64 0] 45 := RowAt.new _ _ _
  have hlm : p.mb < W.heap.size := h.lt (.inl rfl)
  have hls : p.sb < W.heap.size := h.lt (.inr (.inl rfl))
  have hll : ∀ k, Fp p.lv k → k < W.heap.size := fun k hk => h.lt (.inr (.inr (.inr (.inr (.inr hk)))))
  have hns := h.ok.ns
  have hfew := h.ok.few
  have hlt1 : W.heap.size < (W.alloc (.cells #[.slice none 0 0, .slice none 0 0, .int .i64 0] 45)).heap.size := by simp
  go_enter Tryz.func19, Tryz.ntmps19
  go_wp2_with fail
  generalize hwz : (W.alloc (.cells #[.slice none 0 0, .slice none 0 0, .int .i64 0] 45)) = w1 at *
  clear hwz
  have hKd : Chg (fun k => k = W.heap.size) w1 w1.drew := (Chg.refl _ _).drew
  have c5 := h1.hd.c5
  have c7 := h1.hd.c7
  have c8 := h1.hd.c8
  have L5 : ∀ w', Chg (fun k => k = W.heap.size) w1 w' → w'.cell? ⟨p.mb, 5, none⟩ = some (.slice (some ⟨p.sb, 0, none⟩) m.ss.length m.ss.length) := fun w' hc => (hc.cell (World.block_lt_of_cell? _ _ c5) (by simp; omega)).trans c5
  have L7 : ∀ w', Chg (fun k => k = W.heap.size) w1 w' → w'.cell? ⟨p.mb, 7, none⟩ = some p.lv := fun w' hc => (hc.cell (World.block_lt_of_cell? _ _ c7) (by simp; omega)).trans c7
  have L8 : ∀ w', Chg (fun k => k = W.heap.size) w1 w' → w'.cell? ⟨p.mb, 8, none⟩ = some (.int .i64 m.closed) := fun w' hc => (hc.cell (World.block_lt_of_cell? _ _ c8) (by simp; omega)).trans c8
  have hSl : SlotsAt w1.drew p.sb m.ss := h1.slots.stable rfl
  have hLn : ∀ {W' : World}, Chg (fun k => k = W.heap.size) w1 W' → OwnS W' p.lv m.line.length 1 (m.line.map (Value.int .i64)) := fun hc => h1.own.chg hc (fun k hk e => by have := hll k hk; omega)
  clear c5 c7 c8
  refine wp_region_held_drew (S := fun w' => Chg (fun k => k = W.heap.size) w1 w') (by kernel_rfl) (by exact hKd) (fun hHeld => ?_)
  refine takeg (i := 0) (d := some 3) (v := ?_) (by kernel_rfl) (by kernel_rfl) (by kernel_rfl) (by kernel_rfl) (fun _ _ _ h => h) (by kernel_rfl) ?_ hHeld ?_
  rotate_left
  · intro w hSw
    try dsimp only at hSw
    go_simp
    try with_reducible rfl
  try simp only [Act.put, List.setIfInBounds_toArray, List.set_cons_zero, List.set_cons_succ]
  refine takeg (i := 1) (d := some 4) (v := ?_) (by kernel_rfl) (by kernel_rfl) (by kernel_rfl) (by kernel_rfl) (fun _ _ _ h => h) (by kernel_rfl) ?_ hHeld ?_
  rotate_left
  · intro w hSw
    try dsimp only at hSw
    go_simp
    try with_reducible rfl
  try simp only [Act.put, List.setIfInBounds_toArray, List.set_cons_zero, List.set_cons_succ]
  refine takeg (i := 2) (d := some 5) (v := ?_) (by kernel_rfl) (by kernel_rfl) (by kernel_rfl) (by kernel_rfl) (fun _ _ _ h => h) (by kernel_rfl) ?_ hHeld ?_
  rotate_left
  · intro w hSw
    try dsimp only at hSw
    go_simp
    try with_reducible rfl
  try simp only [Act.put, List.setIfInBounds_toArray, List.set_cons_zero, List.set_cons_succ]
  refine takeg (i := 3) (d := some 6) (v := ?_) (by kernel_rfl) (by kernel_rfl) (by kernel_rfl) (by kernel_rfl) (fun _ _ _ h => h) (by kernel_rfl) ?_ hHeld ?_
  rotate_left
  · intro w hSw
    try dsimp only at hSw
    go_simp
    try with_reducible rfl
  try simp only [Act.put, List.setIfInBounds_toArray, List.set_cons_zero, List.set_cons_succ]
  refine takeg (i := 5) (d := some 8) (v := ?_) (by kernel_rfl) (by kernel_rfl) (by kernel_rfl) (by kernel_rfl) (fun _ _ _ h => h) (by kernel_rfl) ?_ hHeld ?_
  rotate_left
  · intro w hSw
    try dsimp only at hSw
    go_simp
    try with_reducible rfl
  try simp only [Act.put, List.setIfInBounds_toArray, List.set_cons_zero, List.set_cons_succ]
  refine takeg (i := 6) (d := some 9) (v := ?_) (by kernel_rfl) (by kernel_rfl) (by kernel_rfl) (by kernel_rfl) (fun _ _ _ h => h) (by kernel_rfl) ?_ hHeld ?_
  rotate_left
  · intro w hSw
    try dsimp only at hSw
    go_simp
    try with_reducible rfl
  try simp only [Act.put, List.setIfInBounds_toArray, List.set_cons_zero, List.set_cons_succ]
  refine takeg (i := 7) (d := some 10) (v := ?_) (by kernel_rfl) (by kernel_rfl) (by kernel_rfl) (by kernel_rfl) (fun _ _ _ h => h) (by kernel_rfl) ?_ hHeld ?_
  rotate_left
  · intro w hSw
    try dsimp only at hSw
    go_simp
    try with_reducible rfl
  try simp only [Act.put, List.setIfInBounds_toArray, List.set_cons_zero, List.set_cons_succ]
  refine takeg (i := 8) (d := some 11) (v := ?_) (by kernel_rfl) (by kernel_rfl) (by kernel_rfl) (by kernel_rfl) (fun _ _ _ h => h) (by kernel_rfl) ?_ hHeld ?_
  rotate_left
  · intro w hSw
    try dsimp only at hSw
    go_simp
    try with_reducible rfl
  try simp only [Act.put, List.setIfInBounds_toArray, List.set_cons_zero, List.set_cons_succ]
  refine takeg (i := 10) (d := some 13) (v := ?_) (by kernel_rfl) (by kernel_rfl) (by kernel_rfl) (by kernel_rfl) (fun _ _ _ h => h) (by kernel_rfl) ?_ hHeld ?_
  rotate_left
  · intro w hSw
    try dsimp only at hSw
    go_simp
    try with_reducible rfl
  try simp only [Act.put, List.setIfInBounds_toArray, List.set_cons_zero, List.set_cons_succ]
  refine takeg (i := 11) (d := some 14) (v := ?_) (by kernel_rfl) (by kernel_rfl) (by kernel_rfl) (by kernel_rfl) (fun _ _ _ h => h) (by kernel_rfl) ?_ hHeld ?_
  rotate_left
  · intro w hSw
    try dsimp only at hSw
    go_simp
    try with_reducible rfl
  try simp only [Act.put, List.setIfInBounds_toArray, List.set_cons_zero, List.set_cons_succ]
  refine takeg (i := 12) (d := some 15) (v := ?_) (by kernel_rfl) (by kernel_rfl) (by kernel_rfl) (by kernel_rfl) (fun _ _ _ h => h) (by kernel_rfl) ?_ hHeld ?_
  rotate_left
  · intro w hSw
    try dsimp only at hSw
    go_simp
    try with_reducible rfl
  try simp only [Act.put, List.setIfInBounds_toArray, List.set_cons_zero, List.set_cons_succ]
  refine takeg (i := 13) (d := some 16) (v := ?_) (by kernel_rfl) (by kernel_rfl) (by kernel_rfl) (by kernel_rfl) (fun _ _ _ h => h) (by kernel_rfl) ?_ hHeld ?_
  rotate_left
  · intro w hSw
    try dsimp only at hSw
    go_simp
    try with_reducible rfl
  try simp only [Act.put, List.setIfInBounds_toArray, List.set_cons_zero, List.set_cons_succ]
  refine ready_call (i := 4) (by kernel_rfl) 57 #[.tmp 6] #[42] (some 7) none (by kernel_rfl) (by kernel_rfl) #[.slice (some ⟨p.sb, 0, none⟩) m.ss.length m.ss.length] (by kernel_rfl) (enters_of Tryz.func57 (by kernel_rfl) rfl) ?_
  refine (clone_slots w1.drew p.sb 0 m.ss.length m.ss.length (flat m.ss) (flat_len _) (by omega) (flat_cell hSl) (flat_one _)).mono ?_
  rintro e w2 ⟨g1, c1, rfl, ho1, hg1, hb1⟩
  have hC2 : Chg (fun k => k = W.heap.size) w1 w2 := hKd.trans (Chg.ofBelow (F := fun _ => False) hb1) (fun _ _ h => h.elim)
  refine ⟨_, rfl, hC2, fun _ => ?_⟩
  try simp only [Act.put, List.setIfInBounds_toArray, List.set_cons_zero, List.set_cons_succ]
  have hl2 := hLn hC2
  refine ready_call (i := 9) (by kernel_rfl) 58 #[.tmp 11] #[43] (some 12) none (by kernel_rfl) (by kernel_rfl) #[p.lv] (by kernel_rfl) (enters_of Tryz.func58 (by kernel_rfl) rfl) ?_
  refine (clone_line w2 p.lv m.line (by omega) hl2).mono ?_
  rintro e w3 ⟨a2, c2, rfl, ho2, hg2, hb2⟩
  have hC3 : Chg (fun k => k = W.heap.size) w1 w3 := hC2.trans (Chg.ofBelow (F := fun _ => False) hb2) (fun _ _ h => h.elim)
  refine ⟨_, rfl, hC3, fun _ => ?_⟩
  try simp only [Act.put, List.setIfInBounds_toArray, List.set_cons_zero, List.set_cons_succ]
  refine takeg (i := 14) (d := some 17) (v := ?_) (by kernel_rfl) (by kernel_rfl) (by kernel_rfl) (by kernel_rfl) (fun _ _ _ h => h) (by kernel_rfl) ?_ hC3 ?_
  rotate_left
  · intro w hSw
    try dsimp only at hSw
    go_simp
    try with_reducible rfl
  try simp only [Act.put, List.setIfInBounds_toArray, List.set_cons_zero, List.set_cons_succ]
  have row3 : RowAt w3 W.heap.size #[.slice none 0 0, .slice none 0 0, .int .i64 0] 45 := ((show RowAt w1.drew W.heap.size #[.slice none 0 0, .slice none 0 0, .int .i64 0] 45 from e1).below hb1).below hb2
  refine ready_store_row (i := 15) (by kernel_rfl) 45 (.tmp 2) (.tmp 17) (by kernel_rfl) W.heap.size _ _ #[.slice (some ⟨g1, 0, none⟩) m.ss.length c1, .slice a2 m.line.length c2, .int .i64 m.closed] (by kernel_rfl) (by kernel_rfl) row3 (by kernel_rfl) (by kernel_rfl) (by kernel_rfl) (hC3.trans (chg_setRow (F := fun k => k = W.heap.size) (Chg.refl _ _) _ _ (fun _ => rfl)) (fun _ _ h => h)) (fun _ => ?_)
  refine wpAnyH_done (by kernel_rfl) ?_ _
  have hcs : Chg (fun k => k = W.heap.size) w3 (w3.setRow W.heap.size #[.slice (some ⟨g1, 0, none⟩) m.ss.length c1, .slice a2 m.line.length c2, .int .i64 m.closed]) := chg_setRow (Chg.refl _ _) _ _ (fun _ => rfl)
  have hs1 : w1.drew.heap.size = w1.heap.size := rfl
  have hz2 := hb1.size
  have hz3 := hb2.size
  have hS2 : SlotsAt w2 g1 m.ss := slots_of_flat ho1 rfl
  have hg1l : g1 < w2.heap.size := hS2.lt (by omega)
  have hS4 := (hS2.stable (hb2.block g1 hg1l)).stable (hcs.block g1 (by omega) (by omega))
  have hO4 := ho2.chg hcs (fun k hk e => by have := hg2 k hk; omega)
  have hB4 : Below W.heap.size W (w3.setRow W.heap.size #[.slice (some ⟨g1, 0, none⟩) m.ss.length c1, .slice a2 m.line.length c2, .int .i64 m.closed]) := hB.trans ((hC3.trans hcs (fun _ _ h => h)).below (by omega) (fun k e => by omega))
  have row4 := row3.set #[.slice (some ⟨g1, 0, none⟩) m.ss.length c1, .slice a2 m.line.length c2, .int .i64 m.closed]
  have HF := Lib.hid (And.intro hS4 (And.intro hO4 hB4))
  clear hcs hS2 hS4 hO4 hB4 hC3 hC2 ho1 ho2 hb1 hb2 row3 hSl hLn L5 L7 L8 hKd
  go_wp2_with fail
  refine bodyPost_ret (results_row rfl _ _ W.heap.size _ _ _ rfl row4 Tryz.underlying45 rfl (by kernel_rfl)) rfl ?_
  exact ⟨g1, c1, a2, c2, rfl, HF.out.1, by omega, HF.out.2.1, fun k hk => by have := hg2 k hk; omega, HF.out.2.2⟩
end Go.Proofs.YtpmkgddjgebojaaGreatDoor.Mod

namespace Go.Proofs.YtpmkgddjgebojaaGreatDoor.Mod
set_option linter.unusedVariables false
set_option linter.unusedSimpArgs false
open Go.RowKit Hp Slot RowL Life

/-- A conf that is given by small numbers. -/
def confOf (a b c d e : Int) : Conf.Cf := ⟨1 + a % 4, 1 + b % 5, c % 4, d % 4, 1 + e % 4⟩
theorem confOf_right (a b c d e : Int) : (confOf a b c d e).right = true := by
  simp only [Conf.Cf.right, Conf.btw, confOf, Bool.and_eq_true]
  exact ⟨decide_eq_true (by omega), decide_eq_true (by omega), decide_eq_true (by omega), decide_eq_true (by omega), decide_eq_true (by omega)⟩

set_option maxRecDepth 100000 in
set_option maxHeartbeats 4000000 in
theorem conf_any (W : World) (a b c d e : Int) (ha : 0 ≤ a ∧ a < 256) (hb : 0 ≤ b ∧ b < 256) (hc : 0 ≤ c ∧ c < 256) (hd : 0 ≤ d ∧ d < 256) (he : 0 ≤ e ∧ e < 256) :
    Calls Tryz.prog 20 #[.agg #[.int .u8 a, .int .u8 b, .int .u8 c, .int .u8 d, .int .u8 e]] W fun en W' => en = .returned (confOf a b c d e).val ∧ Below W.heap.size W W' := by
  have hB : Below W.heap.size W ((W.alloc (.cells #[.int .u8 a, .int .u8 b, .int .u8 c, .int .u8 d, .int .u8 e] 49)).alloc (.cells #[.int .i64 0, .int .i64 0, .int .i64 0, .int .i64 0, .int .i64 0] 23)) := ((Below.refl _ _).alloc (Nat.le_refl _) _).alloc (by simp) _
  obtain ⟨a0, a1⟩ := ha
  obtain ⟨b0, b1⟩ := hb
  obtain ⟨c0, c1⟩ := hc
  obtain ⟨d0, d1⟩ := hd
  obtain ⟨e0, e1⟩ := he
  go_enter Tryz.func20, Tryz.ntmps20
  go_wp2
  have row : RowAt ((W.alloc (.cells #[.int .u8 a, .int .u8 b, .int .u8 c, .int .u8 d, .int .u8 e] 49)).alloc (.cells (confOf a b c d e).cells 23)) (W.heap.size + 1) (confOf a b c d e).cells 23 := by
    have := RowAt.new (W.alloc (.cells #[.int .u8 a, .int .u8 b, .int .u8 c, .int .u8 d, .int .u8 e] 49)) (confOf a b c d e).cells 23
    simpa using this
  refine bodyPost_ret (results_row rfl _ _ (W.heap.size + 1) _ _ _ rfl row Tryz.underlying23 rfl (by kernel_rfl)) rfl ⟨rfl, ?_⟩
  exact ((Below.refl _ _).alloc (Nat.le_refl _) _).alloc (by simp) _

set_option maxRecDepth 100000 in
set_option maxHeartbeats 4000000 in
theorem ref_has (W : World) (v : Value) (l : List Int) (hl : l.length ≤ 1000) (who : Int) (ho : OwnS W v l.length 1 (l.map (Value.int .i64))) :
    Calls Tryz.prog 33 #[v, .int .i64 who] W fun en W' => en = .returned (.bool (decide (who ∈ l))) ∧ W = W' := by
  rcases ho.2 with ⟨rfl, h0⟩ | ⟨g, off, cap, rfl, hn, hcm, isc, hs, hf, hx⟩
  · obtain rfl : l = [] := List.eq_nil_of_length_eq_zero h0
    clear ho hl h0
    go_enter Tryz.func33, Tryz.ntmps33
    go_wp2
    go_loop [5] (fun i => i = .int .i64 0) (fun i => 0)
    case atStart => rfl
    case round =>
      obtain rfl := hrel
      go_wp2
      go_ret
      exact ⟨rfl, rfl⟩
  · have HX := Lib.hid (fun j x (hj : l[j]? = some x) => hx j (.int .i64 x) (by simp [hj]))
    clear hx hs hf isc ho
    go_enter Tryz.func33, Tryz.ntmps33
    go_wp2
    go_loop [5] (fun i => ∃ k : Nat, k ≤ l.length ∧ i = .int .i64 k ∧ who ∉ l.take k) (fun i => l.length - (intOf i).toNat)
    case atStart => exact ⟨0, by omega, rfl, by simp⟩
    case round =>
      obtain ⟨k, hk, rfl, hno⟩ := hrel
      have HNO := Lib.hid hno
      clear hno
      by_cases hlt : k < l.length
      · obtain ⟨x, hx⟩ : ∃ x, l[k]? = some x := ⟨_, List.getElem?_eq_getElem hlt⟩
        have hcell := HX.out k x hx
        have HXX := Lib.hid hx
        have b0 : (0 : Int) ≤ (k : Int) := by omega
        have b1 : (k : Int) < (l.length : Int) := by omega
        have b2 : (k : Int) ≤ (l.length : Int) - 1 := by omega
        clear hx
        by_cases hxw : x = who
        · have hxe : (x == who) = true := by simpa using hxw
          have HXW := Lib.hid hxw
          clear hxw
          go_wp2
          go_ret
          have hm : who ∈ l := by rw [← HXW.out]; exact List.mem_of_getElem? HXX.out
          exact ⟨Base.ret_bool (by simp [hm]), rfl⟩
        · have hxe : (x == who) = false := by simpa using hxw
          have HXW := Lib.hid hxw
          clear hxw
          go_wp2
          go_round
          case rel =>
            refine ⟨k + 1, by omega, by go_num, ?_⟩
            obtain ⟨hl2, he⟩ := List.getElem?_eq_some_iff.1 HXX.out
            rw [List.take_succ_eq_append_getElem hl2, he]
            simp only [List.mem_append, List.mem_singleton, not_or]
            exact ⟨HNO.out, fun e => HXW.out e.symm⟩
          case measure => simp [intOf]; omega
      · obtain rfl : k = l.length := by omega
        go_wp2
        go_ret
        have := HNO.out
        rw [List.take_length] at this
        exact ⟨Base.ret_bool (by simp [this]), rfl⟩
end Go.Proofs.YtpmkgddjgebojaaGreatDoor.Mod

namespace Go.Proofs.YtpmkgddjgebojaaGreatDoor.Mod
set_option linter.unusedVariables false
set_option linter.unusedSimpArgs false
open Go.RowKit Hp Slot RowL Life

/-- All cells of a row of events. -/
def flatE (l : List Ev) : List Value := l.flatMap fun x => x.cells.toList
theorem ev_len (x : Ev) : x.cells.toList.length = 18 := rfl
theorem flatE_len : ∀ l, (flatE l).length = l.length * 18
  | [] => rfl
  | s :: l => by
    have := flatE_len l
    simp only [flatE, List.flatMap_cons, List.length_append, ev_len] at this ⊢
    rw [this]
    simp; omega
theorem flatE_at : ∀ (l : List Ev) (i : Nat) (x : Ev) (q : Nat), l[i]? = some x → q < 18 → (flatE l)[i * 18 + q]? = x.cells[q]?
  | [], i, s, q, h, _ => by simp at h
  | t :: l, 0, s, q, h, hq => by
    obtain rfl : t = s := by simpa using h
    simp only [flatE, List.flatMap_cons]
    rw [List.getElem?_append_left (by rw [ev_len]; omega)]
    simp
  | t :: l, i + 1, s, q, h, hq => by
    have ih := flatE_at l i s q (by simpa using h) hq
    simp only [flatE, List.flatMap_cons] at ih ⊢
    rw [List.getElem?_append_right (by rw [ev_len]; omega), ← ih, ev_len]
    congr 1
    omega
/-- Events that lie there. -/
def EvsAt (W : World) (v : Value) (l : List Ev) : Prop := OwnS W v l.length 18 (flatE l)
theorem flatE_app (l : List Ev) (x : Ev) : flatE (l ++ [x]) = flatE l ++ x.cells.toList := by simp [flatE]

/-- Some lease; the world is as it was. -/
def LeaseP (W : World) (en : Ending) (W' : World) : Prop := ∃ a b : Int, en = .returned (.tuple #[.int .i64 a, .int .i64 b]) ∧ ∃ n, W' = W.drewN n

set_option maxRecDepth 100000 in
set_option maxHeartbeats 8000000 in
theorem lease_any (W : World) (v : Value) (l : List Ev) (hl : l.length ≤ 1000) (ho : EvsAt W v l) (who : Int) :
    Calls Tryz.prog 59 #[v, .int .i64 who] W (LeaseP W) := by
  rcases ho.2 with ⟨rfl, h0⟩ | ⟨g, off, cap, rfl, hn, hcm, isc, hs, hf, hx⟩
  · obtain rfl : l = [] := List.eq_nil_of_length_eq_zero h0
    clear ho hl h0
    go_enter Tryz.func59, Tryz.ntmps59
    go_wp2
    go_loop [6] (fun i => i = .int .i64 (-1)) (fun i => 0)
    case atStart => rfl
    case round =>
      obtain rfl := hrel
      go_wp2
      go_ret2
      exact ⟨0, 0, rfl, 0, rfl⟩
  · have HX := Lib.hid (fun i x q u (hi : l[i]? = some x) (hq : q < 18) (hu : x.cells[q]? = some u) => hx (i * 18 + q) u (by rw [flatE_at l i x q hi hq]; exact hu))
    clear hx hs hf isc ho
    go_enter Tryz.func59, Tryz.ntmps59
    go_wp2
    go_loop [6] (fun i => ∃ k : Nat, k ≤ l.length ∧ i = .int .i64 ((k : Int) - 1)) (fun i => (intOf i + 1).toNat)
    case atStart => exact ⟨l.length, by omega, rfl⟩
    case round =>
      obtain ⟨k, hk, rfl⟩ := hrel
      by_cases hlt : 0 < k
      · obtain ⟨j, rfl⟩ : ∃ j, k = j + 1 := ⟨k - 1, by omega⟩
        have hcast : ((j + 1 : Nat) : Int) - 1 = (j : Int) := by omega
        rw [hcast]
        obtain ⟨x, hxj⟩ : ∃ x, l[j]? = some x := ⟨_, List.getElem?_eq_getElem (by omega)⟩
        have c0 : W.cell? ⟨g, off + j * 18, none⟩ = some (.bool x.ended) := HX.out j x 0 _ hxj (by omega) rfl
        have c1 : W.cell? ⟨g, off + j * 18 + 1, none⟩ = some (.int .i64 x.who) := HX.out j x 1 _ hxj (by omega) rfl
        have c3 : W.cell? ⟨g, off + j * 18 + 3, none⟩ = some (.int .i64 x.ask.op) := HX.out j x 3 _ hxj (by omega) rfl
        have c10 : W.cell? ⟨g, off + j * 18 + 10, none⟩ = some (.int .i64 x.e) := HX.out j x 10 _ hxj (by omega) rfl
        have c11 : W.cell? ⟨g, off + j * 18 + 11, none⟩ = some (.int .i64 x.slot) := HX.out j x 11 _ hxj (by omega) rfl
        have c12 : W.cell? ⟨g, off + j * 18 + 12, none⟩ = some (.int .i64 x.gen) := HX.out j x 12 _ hxj (by omega) rfl
        have b0 : (0 : Int) ≤ (j : Int) := by omega
        have b1 : (j : Int) < (l.length : Int) := by omega
        have b2 : (j : Int) ≤ (l.length : Int) - 1 := by omega
        obtain ⟨en, wh, at', ⟨op, dl, wt, fo, sl, ge, st⟩, er, xs, xg, xt, q1, q2, q3, q4⟩ := x
        simp only at c0 c1 c3 c10 c11 c12
        clear hxj hcast HX
        cases en
        · go_wp2
          go_round
          case rel => exact ⟨j, by omega, rfl⟩
          case measure => simp [intOf] <;> omega
        cases hw : (wh == who)
        · go_wp2
          go_round
          case rel => exact ⟨j, by omega, rfl⟩
          case measure => simp [intOf] <;> omega
        cases ho : (op == 0)
        · go_wp2
          go_round
          case rel => exact ⟨j, by omega, rfl⟩
          case measure => simp [intOf] <;> omega
        cases he : (er == 0)
        · go_wp2
          go_round
          case rel => exact ⟨j, by omega, rfl⟩
          case measure => simp [intOf] <;> omega
        go_wp2_with fail
        go_quiet (fail)
        go_wp2
        go_ret2
        exact ⟨_, _, rfl, _, rfl⟩
      · obtain rfl : k = 0 := by omega
        go_wp2
        go_ret2
        exact ⟨0, 0, rfl, 0, rfl⟩
end Go.Proofs.YtpmkgddjgebojaaGreatDoor.Mod

namespace Go.Proofs.YtpmkgddjgebojaaGreatDoor.Mod
set_option linter.unusedVariables false
set_option linter.unusedSimpArgs false
open Go.RowKit Hp Slot RowL Life

theorem tick_bd (now n : Int) (h0 : 0 ≤ now ∧ now ≤ 1099511627776) : 0 ≤ Clock.tick now n ∧ Clock.tick now n ≤ 1099511627776 := by unfold Clock.tick; omega

set_option maxHeartbeats 1000000 in
theorem m_tick {W : World} {p : Pl} {m : M} (h : MAt W p m) (n : Int) (hn : -9223372036854775808 ≤ n) (hn' : n ≤ 9223372036854775807) :
    Calls Tryz.prog 22 #[.pointer (some ⟨p.mb, 0, none⟩), .int .i64 n] W fun e W' => (∃ v, e = .returned v) ∧ MAt W' p (m.tick n) ∧ Chg (mfp p) W W' := by
  have c9 := h.hd.c9
  have hc := Clock.tick_any W ⟨p.cb, 0, none⟩ m.now n h.clk h.clkf h.ok.now.1 h.ok.now.2 hn hn'
  have hA := (h.toNow (Clock.tick m.now n) (tick_bd _ _ h.ok.now)).drew
  have H := Lib.hid h
  clear h
  go_enter Tryz.func22, Tryz.ntmps22
  go_wp2_with fail
  refine hc.mono ?_
  rintro e w1 ⟨rfl, rfl⟩
  have hC : Chg (mfp p) W ((W.setCell ⟨p.cb, 0, none⟩ (.int .i64 (Clock.tick m.now n))).drew) := ((Chg.refl _ _).setCell _ _ (fun _ => .inr (.inr (.inr (.inl rfl))))).drew
  have HF := Lib.hid (And.intro hA hC)
  clear hA hC hc c9
  go_wp2_with fail
  go_end0
  exact ⟨⟨_, rfl⟩, HF.out.1, HF.out.2⟩

set_option maxHeartbeats 1000000 in
theorem m_feed {W : World} {p : Pl} {m : M} (h : MAt W p m) (b : Bool) :
    Calls Tryz.prog 24 #[.pointer (some ⟨p.mb, 0, none⟩), .bool b] W (MPost W p (.bool (m.feed b).1) (m.feed b).2) := by
  have c10 := h.hd.c10
  obtain ⟨g, bd, hw⟩ := h.wld
  have hal := h.ok.ahead
  unfold M.feed
  by_cases hl : m.ahead.length < 1000
  · rw [if_pos hl]
    have hf := World11.feed_yes W p.wb p.rb p.rv m.ahead g bd b hw hl
    go_enter Tryz.func24, Tryz.ntmps24
    go_wp2_with fail
    refine hf.mono ?_
    rintro e w1 ⟨rfl, v', h1, h2, h3⟩
    have hA := h.toWorld h1 (by simp; omega) h2 h3
    have HF : RowKit.Hid (MPost W p (.bool true) { m with ahead := m.ahead ++ [b] } (.returned (.bool true)) w1) := ⟨rfl, p.lv, v', hA, fun k hk => .inl hk, h2, h3.mono fun k _ hk => .inr (.inr (.inr (.inr (.inl hk))))⟩
    clear hA h1 h2 h3 hf hw h
    go_wp2_with fail
    go_ret
    exact HF.out
  · rw [if_neg hl]
    have hf := World11.feed_no W p.wb p.rb p.rv m.ahead g bd b hw (by omega)
    go_enter Tryz.func24, Tryz.ntmps24
    go_wp2_with fail
    refine hf.mono ?_
    rintro e w1 ⟨rfl, v', h1, h2, h3⟩
    have hA := h.toWorld h1 hal h2 h3
    have HF : RowKit.Hid (MPost W p (.bool false) m (.returned (.bool false)) w1) := ⟨rfl, p.lv, v', hA, fun k hk => .inl hk, h2, h3.mono fun k _ hk => .inr (.inr (.inr (.inr (.inl hk))))⟩
    clear hA h1 h2 h3 hf hw h
    go_wp2_with fail
    go_ret
    exact HF.out

set_option maxHeartbeats 1000000 in
theorem m_break {W : World} {p : Pl} {m : M} (h : MAt W p m) (i : Int) :
    Calls Tryz.prog 26 #[.pointer (some ⟨p.mb, 0, none⟩), .int .i64 i] W (MPost W p (.bool (m.break' i).1) (m.break' i).2) := by
  have c5 := h.hd.c5
  have hns := h.ok.ns
  unfold M.break'
  by_cases h0 : i < 0
  · rw [if_neg (by omega)]
    have HF : RowKit.Hid (MPost W p (.bool false) m (.returned (.bool false)) W) := h.post0 h (Chg.refl _ _)
    have d0 : decide (0 ≤ i) = false := by simpa using h0
    clear h
    go_enter Tryz.func26, Tryz.ntmps26
    go_wp2_with fail
    go_ret
    exact HF.out
  obtain ⟨n, rfl⟩ := Int.eq_ofNat_of_zero_le (show 0 ≤ i by omega)
  have d0 : decide (0 ≤ (n : Int)) = true := by simp
  have d0' : (0 : Int) ≤ (n : Int) := by omega
  by_cases h1 : n < m.ss.length
  · rw [if_pos (by omega)]
    obtain ⟨s, hs⟩ : ∃ s, m.ss[n]? = some s := ⟨_, List.getElem?_eq_getElem h1⟩
    have ht := m_turn h n 13 n 13 0 0 s hs rfl rfl (by simp [Done])
    simp only [Int.toNat_natCast, M.slot_of hs]
    have d1 : decide ((n : Int) < (m.ss.length : Int)) = true := by simp; omega
    have d1' : (n : Int) < (m.ss.length : Int) := by omega
    generalize (Mod.next s 13 0 0).isSome = bb at *
    clear hs h0
    go_enter Tryz.func26, Tryz.ntmps26
    go_wp2_with fail
    refine ht.mono ?_
    intro e w1 hp
    obtain ⟨rfl, hq⟩ := hp
    have HQ := Lib.hid hq
    clear hq ht h
    go_wp2_with fail
    go_ret
    exact ⟨rfl, HQ.out⟩
  · rw [if_neg (by omega)]
    have HF : RowKit.Hid (MPost W p (.bool false) m (.returned (.bool false)) W) := h.post0 h (Chg.refl _ _)
    have d1' : ¬ ((n : Int) < (m.ss.length : Int)) := by omega
    clear h h0 h1
    go_enter Tryz.func26, Tryz.ntmps26
    go_wp2_with fail
    go_ret
    exact HF.out
end Go.Proofs.YtpmkgddjgebojaaGreatDoor.Mod

namespace Go.Proofs.YtpmkgddjgebojaaGreatDoor.Mod
set_option linter.unusedVariables false
set_option linter.unusedSimpArgs false
open Go.RowKit Hp Slot RowL Life

theorem ev_size' : (Tryz.prog.info? 36).map (·.size) = some 18 := by kernel_rfl
theorem ev_zero' : ((Tryz.prog.info? 36).bind (·.zero)) = some Ev.zero.val := by kernel_rfl
theorem ev_fill (y : Ev) : Instr.fill (fun i => some (i * 18, 18)) ((Array.range (1 * 18)).map (Ev.zero.val.cells[· % Ev.zero.val.cells.size]!)) [(0, y.val)] = some y.cells := by kernel_rfl
theorem build_ev (w : World) (y : Ev) : (Instr.buildSlice 52 1 #[(0, .agg y.cells)]).run Tryz.prog w = .ok (.slice (some ⟨w.heap.size, 0, none⟩) 1 1) (w.alloc (.cells y.cells 36)) := by
  have hs := ev_size'
  have hz := ev_zero'
  cases hi : Tryz.prog.info? 36 with
  | none => rw [hi] at hs; cases hs
  | some ie =>
    rw [hi] at hs hz
    simp only [Option.map_some, Option.some.injEq, Option.bind_some] at hs hz
    refine run_buildSlice w 52 36 1 #[(0, .agg y.cells)] y.cells ie Ev.zero.val Tryz.underlying52 hi hz (by rw [hs]; omega) (by rw [hs]; omega) ?_
    rw [hs]
    exact ev_fill y
theorem wpList_build_ev {ops : Array Oper} {rest : List Oper} {o : Oper} {a : Act} {w : World} {Q : Exit → Act → World → Prop} (hg : o.guard = none) (x : Operand) (ho : o.op = .buildSlice 52 1 #[(0, x)]) (y : Ev) (hx : a.eval x = .agg y.cells)
    (h : wpList Tryz.prog ops Q rest (a.put o.dst (.slice (some ⟨w.heap.size, 0, none⟩) 1 1)) (w.alloc (.cells y.cells 36))) : wpList Tryz.prog ops Q (o :: rest) a w :=
  wpList_plain hg fun _ hK => by
    have e : ((#[(0, x)] : Array (Nat × Operand)).map fun (i, x) => (i, a.eval x)) = #[(0, .agg y.cells)] := by simp [hx]
    unfold Oper.wp execOp
    simp only [ho]
    rw [e]
    simp only [Sem.run_bind, build_ev w y, Result.andThen_ok]
    exact hK _ _ h
end Go.Proofs.YtpmkgddjgebojaaGreatDoor.Mod

namespace Go.Proofs.YtpmkgddjgebojaaGreatDoor.Mod
set_option linter.unusedVariables false
set_option linter.unusedSimpArgs false
open Go.RowKit Hp Slot RowL Life

theorem mfp_post {p : Pl} {lv rv : Value} {n j : Nat} (hl : ∀ k, Fp lv k → Fp p.lv k ∨ n ≤ k) (hr : ∀ k, Fp rv k → Fp p.rv k ∨ n ≤ k) (h : mfp { p with lv := lv, rv := rv } j) : mfp p j ∨ n ≤ j := by
  unfold mfp World11.wfp at *
  simp only at h
  rcases h with h | h | h | h | (h | h | h) | h
  · exact .inl (.inl h)
  · exact .inl (.inr (.inl h))
  · exact .inl (.inr (.inr (.inl h)))
  · exact .inl (.inr (.inr (.inr (.inl h))))
  · exact .inl (.inr (.inr (.inr (.inr (.inl (.inl h))))))
  · exact .inl (.inr (.inr (.inr (.inr (.inl (.inr (.inl h)))))))
  · exact (hr _ h).imp (fun h => .inr (.inr (.inr (.inr (.inl (.inr (.inr h))))))) id
  · exact (hl _ h).imp (fun h => .inr (.inr (.inr (.inr (.inr h))))) id

/-- A pool and the events lie there; the blocks of K are neither's. -/
structure PlayB (W0 : World) (K : Nat → Prop) (mb : Nat) (ev : Value) (W : World) (p : Pl) (m : M) (evs : List Ev) : Prop where
  pos : 0 < W0.heap.size
  mb : p.mb = mb
  at' : MAt W p m
  evs : EvsAt W ev evs
  new : ∀ j, mfp p j → W0.heap.size ≤ j
  newE : ∀ j, Fp ev j → W0.heap.size ≤ j
  own : ∀ j, Fp ev j → ¬ mfp p j
  kept : ∀ j, K j → j < W.heap.size ∧ ¬ mfp p j ∧ ¬ Fp ev j
  below : Below W0.heap.size W0 W
/-- What was kept is as it was. -/
def Same (K : Nat → Prop) (W W' : World) : Prop := W.heap.size ≤ W'.heap.size ∧ ∀ j, K j → W'.heap[j]? = W.heap[j]?
theorem Same.refl (K : Nat → Prop) (W : World) : Same K W W := ⟨Nat.le_refl _, fun _ _ => rfl⟩
theorem Same.trans {K : Nat → Prop} {a b c : World} (h : Same K a b) (k : Same K b c) : Same K a c := ⟨Nat.le_trans h.1 k.1, fun j hj => (k.2 j hj).trans (h.2 j hj)⟩
theorem Same.mono {K K' : Nat → Prop} {a b : World} (h : Same K a b) (hk : ∀ j, K' j → K j) : Same K' a b := ⟨h.1, fun j hj => h.2 j (hk j hj)⟩
theorem RowAt.same {K : Nat → Prop} {W W' : World} {g : Nat} {cs : Array Value} {t : TypeId} (h : RowAt W g cs t) (hs : Same K W W') (hk : K g) : RowAt W' g cs t := (hs.2 g hk).trans h
section
variable {W0 W W' : World} {K : Nat → Prop} {mb : Nat} {ev ans : Value} {p : Pl} {m m' : M} {evs : List Ev}
theorem PlayB.ltK (h : PlayB W0 K mb ev W p m evs) {j : Nat} (hj : K j) : j < W.heap.size := (h.kept j hj).1
theorem PlayB.same (h : PlayB W0 K mb ev W p m evs) (hb : Below W.heap.size W W') : Same K W W' := ⟨hb.size, fun j hj => hb.block j (h.ltK hj)⟩
theorem PlayB.below' (h : PlayB W0 K mb ev W p m evs) (hb : Below W.heap.size W W') : PlayB W0 K mb ev W' p m evs :=
  ⟨h.pos, h.mb, h.at'.below hb, h.evs.stable hb.size (fun j hj => hb.block j (h.evs.lt hj)), h.new, h.newE, h.own, fun j hj => ⟨Nat.lt_of_lt_of_le (h.ltK hj) hb.size, (h.kept j hj).2⟩, h.below.trans (hb.mono h.below.size)⟩
/-- New blocks are kept as well. -/
theorem PlayB.keep (h : PlayB W0 K mb ev W p m evs) (hb : Below W.heap.size W W') : PlayB W0 (fun j => K j ∨ (W.heap.size ≤ j ∧ j < W'.heap.size)) mb ev W' p m evs := by
  have h' := h.below' hb
  refine ⟨h'.pos, h'.mb, h'.at', h'.evs, h'.new, h'.newE, h'.own, fun j hj => ?_, h'.below⟩
  rcases hj with hj | ⟨h1, h2⟩
  · exact h'.kept j hj
  · exact ⟨h2, fun hm => by have := h.at'.lt hm; omega, fun hm => by have := h.evs.lt hm; omega⟩
theorem PlayB.keepX (h : PlayB W0 K mb ev W p m evs) (hb : Below W.heap.size W W') : ∃ K' : Nat → Prop, PlayB W0 K' mb ev W' p m evs ∧ (∀ j, K j → K' j) ∧ ∀ j, W.heap.size ≤ j → j < W'.heap.size → K' j :=
  ⟨_, h.keep hb, fun j hj => .inl hj, fun j h1 h2 => .inr ⟨h1, h2⟩⟩
theorem PlayB.less {K' : Nat → Prop} (h : PlayB W0 K mb ev W p m evs) (hk : ∀ j, K' j → K j) : PlayB W0 K' mb ev W p m evs := ⟨h.pos, h.mb, h.at', h.evs, h.new, h.newE, h.own, fun j hj => h.kept j (hk j hj), h.below⟩
/-- A method's call. -/
theorem PlayB.post {e : Ending} (h : PlayB W0 K mb ev W p m evs) (hm : MPost W p ans m' e W') : e = .returned ans ∧ ∃ p', PlayB W0 K mb ev W' p' m' evs ∧ Same K W W' := by
  obtain ⟨he, lv, rv, hA, hl, hr, hC⟩ := hm
  refine ⟨he, { p with lv := lv, rv := rv }, ⟨h.pos, h.mb, hA, h.evs.chg hC (fun j hj hm => h.own j hj hm), fun j hj => ?_, h.newE, fun j hj hj' => ?_, fun j hj => ⟨Nat.lt_of_lt_of_le (h.ltK hj) hC.size, fun hm => ?_, (h.kept j hj).2.2⟩, ?_⟩, hC.size, fun j hj => hC.block j (h.ltK hj) (h.kept j hj).2.1⟩
  · rcases mfp_post hl hr hj with h1 | h1
    · exact h.new j h1
    · have := h.below.size; omega
  · rcases mfp_post hl hr hj' with h1 | h1
    · exact h.own j hj h1
    · have := h.evs.lt hj; omega
  · rcases mfp_post hl hr hm with h1 | h1
    · exact (h.kept j hj).2.1 h1
    · have := h.ltK hj; omega
  · exact h.below.trans (hC.below (by have := h.below.size; omega) (fun j hj => h.new j hj))
/-- An event is put behind the others. -/
theorem PlayB.append (h : PlayB W0 K mb ev W p m evs) {x : Ev} {a' : Option Addr} {c' : Nat} (ho : OwnS W' (.slice a' (evs.length + 1) c') (evs.length + 1) 18 (flatE evs ++ x.cells.toList))
    (hf : ∀ k, Fp (.slice a' (evs.length + 1) c') k → Fp ev k ∨ W.heap.size ≤ k) (hC : Chg (Fp ev) W W') : PlayB W0 K mb (.slice a' (evs.length + 1) c') W' p m (evs ++ [x]) ∧ Same K W W' := by
  have h0 : ¬ Fp ev 0 := fun e => by
    have h1 := h.newE 0 e
    have h2 := h.pos
    omega
  refine ⟨⟨h.pos, h.mb, h.at'.chg hC (fun k hk hf' => h.own k hf' hk) h0, ?_, h.new, fun j hj => ?_, fun j hj hm => ?_, fun j hj => ⟨Nat.lt_of_lt_of_le (h.ltK hj) hC.size, (h.kept j hj).2.1, fun hm => ?_⟩, ?_⟩, hC.size, fun j hj => hC.block j (h.ltK hj) (h.kept j hj).2.2⟩
  · unfold EvsAt
    rw [flatE_app, List.length_append]
    exact ho
  · rcases hf j hj with h1 | h1
    · exact h.newE j h1
    · have := h.below.size; omega
  · rcases hf j hj with h1 | h1
    · exact h.own j h1 hm
    · have := h.at'.lt hm; omega
  · rcases hf j hm with h1 | h1
    · exact (h.kept j hj).2.2 h1
    · have := h.ltK hj; omega
  · exact h.below.trans (hC.below (by have := h.below.size; omega) (fun j hj => h.newE j hj))
end
/-- What an entry leaves: the pool and the events behind it. -/
def Sw (W0 : World) (K : Nat → Prop) (mb : Nat) (w9 : World) (m : M) (evs : List Ev) (x : En) (ev' : Value) (W' : World) : Prop := ∃ p', PlayB W0 K mb ev' W' p' (m.entry x).2 (told evs (m.entry x).1) ∧ Same K w9 W'
section
variable {W0 w9 W' : World} {K : Nat → Prop} {mb : Nat} {ev' : Value} {p' : Pl} {m m' : M} {evs : List Ev} {x : En} {y : Ev}
theorem Sw.none (he : m.entry x = (Option.none, m')) (h : PlayB W0 K mb ev' W' p' m' evs) (hs : Same K w9 W') : Sw W0 K mb w9 m evs x ev' W' := ⟨p', by rw [he]; simpa [told] using h, hs⟩
theorem Sw.some (he : m.entry x = (Option.some y, m')) (h : PlayB W0 K mb ev' W' p' m' (evs ++ [y])) (hs : Same K w9 W') : Sw W0 K mb w9 m evs x ev' W' := ⟨p', by rw [he]; simpa [told] using h, hs⟩
end
theorem ev_info : (Tryz.prog.info? 36).map (fun i => (i.zero, i.size, i.bytes)) = some (some Ev.zero.val, 18, 136) := by kernel_rfl
theorem ev_new (w : World) (y : Ev) : ∀ j u, y.cells.toList[j]? = some u → (w.alloc (.cells y.cells 36)).cell? ((⟨w.heap.size, 0, none⟩ : Addr).add j) = some u := fun j u hu => by
  have h := (RowAt.new w y.cells 36).cell j
  have he : (⟨w.heap.size, 0, none⟩ : Addr).add j = ⟨w.heap.size, j, none⟩ := by by_cases h0 : j = 0 <;> simp [Addr.add, h0]
  rw [he, h]
  simpa using hu
theorem ev_ones (y : Ev) : ∀ u ∈ y.cells.toList, u.oneCell' = true := fun u hu => by
  have := ev_one y
  rw [Array.all_eq_true_iff_forall_mem] at this
  exact this u (by simpa using hu)
end Go.Proofs.YtpmkgddjgebojaaGreatDoor.Mod

namespace Go.Proofs.YtpmkgddjgebojaaGreatDoor.Mod
set_option linter.unusedVariables false
set_option linter.unusedSimpArgs false
open Go.RowKit Hp Slot RowL Life

/-- Some entry. -/
def EntryP (W : World) (en : Ending) (W' : World) : Prop := ∃ x : En, en = .returned x.val ∧ x.ok ∧ Below W.heap.size W W'

theorem heap_new_at (w : World) (o : Obj) {k : Nat} (hk : k = w.heap.size) : (w.alloc o).heap[k]? = some o := by subst hk; exact heap_alloc_new _ _
theorem heap_old_at (w : World) (o : Obj) {k : Nat} (hk : k < w.heap.size) : (w.alloc o).heap[k]? = w.heap[k]? := Below.heap_alloc _ _ _ hk
theorem zero_row (W : World) : True := trivial
set_option maxRecDepth 100000 in
set_option maxHeartbeats 16000000 in
theorem entry_any (W : World) (k w o s g n : Int) (hk : 0 ≤ k ∧ k < 256) (hw : 0 ≤ w ∧ w < 256) (ho : 0 ≤ o ∧ o < 256) (hs : 0 ≤ s ∧ s < 256) (hg : 0 ≤ g ∧ g < 256) (hn : 0 ≤ n ∧ n < 256)
    (c : Conf.Cf) (hc : c.right = true) (v : Value) (l : List Ev) (hl : l.length ≤ 1000) (hv : EvsAt W v l) :
    Calls Tryz.prog 21 #[.agg #[.int .u8 k, .int .u8 w, .int .u8 o, .int .u8 s, .int .u8 g, .int .u8 n], c.val, v] W (EntryP W) := by
  simp [Conf.Cf.right, Conf.btw] at hc
  obtain ⟨cw, cs, cst, cwa, cu⟩ := c
  simp only [Conf.Cf.val, Conf.Cf.cells] at *
  obtain ⟨k0, k1⟩ := hk
  obtain ⟨w0, w1⟩ := hw
  obtain ⟨o0, o1⟩ := ho
  obtain ⟨s0, s1⟩ := hs
  obtain ⟨g0, g1⟩ := hg
  obtain ⟨n0, n1⟩ := hn
  have hcw : 1 ≤ cw ∧ cw ≤ 8 := by omega
  clear hc
  obtain ⟨cw0, cw1⟩ := hcw
  have hwr : IntKind.i64.wrap (cw + 1) = cw + 1 := IntWalk.i64_in _ (by omega)
  have hle : ∀ W', Below W.heap.size W W' → ∀ u, Calls Tryz.prog 59 #[v, .int .i64 u] W' (LeaseP W') := fun W' hb u => lease_any W' v l hl (hv.stable hb.size (fun k hk => hb.block k (hv.lt hk))) u
  have hidx : ∃ z : Int, (#[.int .i64 0, .int .i64 0, .int .i64 1, .int .i64 1, .int .i64 3] : Array Value)[(o % 5).toNat]? = some (.int .i64 z) := by
    have h5 : o % 5 = 0 ∨ o % 5 = 1 ∨ o % 5 = 2 ∨ o % 5 = 3 ∨ o % 5 = 4 := by omega
    rcases h5 with h | h | h | h | h <;> rw [h] <;> exact ⟨_, rfl⟩
  obtain ⟨z, hz⟩ := hidx
  have HV := Lib.hid hv
  have HLE := Lib.hid hle
  clear hv hl hle
  go_enter Tryz.func21, Tryz.ntmps21
  go_wp2_with fail
  go_quiet (fail)
  clear hwr
  have ht : ((k < 60) ∨ (60 ≤ k ∧ k < 230) ∨ (230 ≤ k ∧ k < 238) ∨ (238 ≤ k ∧ k < 246) ∨ (246 ≤ k ∧ k < 252) ∨ (252 ≤ k)) := by omega
  have hoo : o < 100 ∨ 100 ≤ o := by omega
  have hss : s < 60 ∨ 60 ≤ s := by omega
  rcases ht with ht | ht | ht | ht | ht | ht
  · have ht0 := ht
    rcases hoo with hoo | hoo
    · go_upto_if 106 with (fail)
      have rX : RowAt (((((W.alloc (.cells #[.int .u8 k, .int .u8 w, .int .u8 o, .int .u8 s, .int .u8 g, .int .u8 n] 57)).alloc (.cells #[.int .i64 cw, .int .i64 cs, .int .i64 cst, .int .i64 cwa, .int .i64 cu] 23)).alloc (.cells #[.int .i64 0, .int .i64 0, .int .i64 0, .int .i64 0, .bool false, .bool false, .int .i64 0, .int .i64 0, .int .i64 0, .int .i64 0, .bool false] 54)).drewN nq).alloc (.cells #[.int .i64 0, .int .i64 (wrap64 (w % (cw + 1) - w / 250)), .int .i64 (o % 9), .int .i64 n, .bool (n % 2 == 1), .bool (n % 5 == 0), .int .i64 (s % 6), .int .i64 (g % 4), .int .i64 (n % 4), .int .i64 (n % 16), .bool (decide (0 < n % 3))] 54)) (W.heap.size + 1 + 1 + 1) #[.int .i64 0, .int .i64 (wrap64 (w % (cw + 1) - w / 250)), .int .i64 (o % 9), .int .i64 n, .bool (n % 2 == 1), .bool (n % 5 == 0), .int .i64 (s % 6), .int .i64 (g % 4), .int .i64 (n % 4), .int .i64 (n % 16), .bool (decide (0 < n % 3))] 54 := heap_new_at _ _ (by simp)
      have rR : RowAt (((((W.alloc (.cells #[.int .u8 k, .int .u8 w, .int .u8 o, .int .u8 s, .int .u8 g, .int .u8 n] 57)).alloc (.cells #[.int .i64 cw, .int .i64 cs, .int .i64 cst, .int .i64 cwa, .int .i64 cu] 23)).alloc (.cells #[.int .i64 0, .int .i64 0, .int .i64 0, .int .i64 0, .bool false, .bool false, .int .i64 0, .int .i64 0, .int .i64 0, .int .i64 0, .bool false] 54)).drewN nq).alloc (.cells #[.int .i64 0, .int .i64 (wrap64 (w % (cw + 1) - w / 250)), .int .i64 (o % 9), .int .i64 n, .bool (n % 2 == 1), .bool (n % 5 == 0), .int .i64 (s % 6), .int .i64 (g % 4), .int .i64 (n % 4), .int .i64 (n % 16), .bool (decide (0 < n % 3))] 54)) (W.heap.size + 1 + 1) #[.int .i64 0, .int .i64 0, .int .i64 0, .int .i64 0, .bool false, .bool false, .int .i64 0, .int .i64 0, .int .i64 0, .int .i64 0, .bool false] 54 := (heap_old_at _ _ (by simp)).trans (heap_new_at _ _ (by simp))
      have hB : Below W.heap.size W (((((W.alloc (.cells #[.int .u8 k, .int .u8 w, .int .u8 o, .int .u8 s, .int .u8 g, .int .u8 n] 57)).alloc (.cells #[.int .i64 cw, .int .i64 cs, .int .i64 cst, .int .i64 cwa, .int .i64 cu] 23)).alloc (.cells #[.int .i64 0, .int .i64 0, .int .i64 0, .int .i64 0, .bool false, .bool false, .int .i64 0, .int .i64 0, .int .i64 0, .int .i64 0, .bool false] 54)).drewN nq).alloc (.cells #[.int .i64 0, .int .i64 (wrap64 (w % (cw + 1) - w / 250)), .int .i64 (o % 9), .int .i64 n, .bool (n % 2 == 1), .bool (n % 5 == 0), .int .i64 (s % 6), .int .i64 (g % 4), .int .i64 (n % 4), .int .i64 (n % 16), .bool (decide (0 < n % 3))] 54)) := (bdrewN ((((Below.refl _ _).alloc (Nat.le_refl _) _).alloc (by simp) _).alloc (by simp <;> omega) _) nq).alloc (by simp <;> omega) _
      generalize (((((W.alloc (.cells #[.int .u8 k, .int .u8 w, .int .u8 o, .int .u8 s, .int .u8 g, .int .u8 n] 57)).alloc (.cells #[.int .i64 cw, .int .i64 cs, .int .i64 cst, .int .i64 cwa, .int .i64 cu] 23)).alloc (.cells #[.int .i64 0, .int .i64 0, .int .i64 0, .int .i64 0, .bool false, .bool false, .int .i64 0, .int .i64 0, .int .i64 0, .int .i64 0, .bool false] 54)).drewN nq).alloc (.cells #[.int .i64 0, .int .i64 (wrap64 (w % (cw + 1) - w / 250)), .int .i64 (o % 9), .int .i64 n, .bool (n % 2 == 1), .bool (n % 5 == 0), .int .i64 (s % 6), .int .i64 (g % 4), .int .i64 (n % 4), .int .i64 (n % 16), .bool (decide (0 < n % 3))] 54)) = wx at rX rR hB ⊢
      have hlt : W.heap.size ≤ W.heap.size + 1 + 1 := by omega
      rcases hss with hss | hss
      · skip
        go_upto_region 21 with (fail)
        refine wp_region_lit ?_
        refine RowL.wpList_load_row rfl 54 (.tmp 8) rfl (W.heap.size + 1 + 1 + 1) 54 #[.int .i64 0, .int .i64 (wrap64 (w % (cw + 1) - w / 250)), .int .i64 (o % 9), .int .i64 n, .bool (n % 2 == 1), .bool (n % 5 == 0), .int .i64 (s % 6), .int .i64 (g % 4), .int .i64 (n % 4), .int .i64 (n % 16), .bool (decide (0 < n % 3))] _ (by go_simp; try rfl) rX (Tryz.underlying54) rfl (by kernel_rfl) ?_
        refine RowL.wpList_store_row rfl 54 (.tmp 6) (.tmp 119) rfl (W.heap.size + 1 + 1) _ #[.int .i64 0, .int .i64 0, .int .i64 0, .int .i64 0, .bool false, .bool false, .int .i64 0, .int .i64 0, .int .i64 0, .int .i64 0, .bool false] #[.int .i64 0, .int .i64 (wrap64 (w % (cw + 1) - w / 250)), .int .i64 (o % 9), .int .i64 n, .bool (n % 2 == 1), .bool (n % 5 == 0), .int .i64 (s % 6), .int .i64 (g % 4), .int .i64 (n % 4), .int .i64 (n % 16), .bool (decide (0 < n % 3))] (by go_simp; try rfl) (by go_simp; try rfl) rR rfl (by kernel_rfl) (by simp [Value.oneCell']) ?_
        go_wp2_with fail
        refine bodyPost_ret (results_row rfl _ _ (W.heap.size + 1 + 1) _ _ _ rfl (rR.set _) (Tryz.underlying54) rfl (by kernel_rfl)) rfl ?_
        exact ⟨⟨0, (wrap64 (w % (cw + 1) - w / 250)), ⟨(o % 9), n, n % 2 == 1, n % 5 == 0, s % 6, g % 4, n % 4⟩, n % 16, decide (0 < n % 3)⟩, rfl, ⟨⟨by dsimp only; omega, by dsimp only; omega⟩, by dsimp only; omega, by dsimp only; omega⟩, below_setRow hB hlt _⟩
      · have hl := HLE.out wx hB (wrap64 (w % (cw + 1) - w / 250))
        have c6 : ∀ N, (wx.drewN N).cell? ⟨W.heap.size + 1 + 1 + 1, 6, none⟩ = some (.int .i64 (s % 6)) := fun N => rX.cell 6
        have c7 : ∀ N u, ((wx.drewN N).setCell ⟨W.heap.size + 1 + 1 + 1, 6, none⟩ u).cell? ⟨W.heap.size + 1 + 1 + 1, 7, none⟩ = some (.int .i64 (g % 4)) := fun N u => (RowAt.setc (w := wx.drewN N) rX 6 u).cell 7
        have f6 : ∀ N, (wx.drewN N).frozen? ⟨W.heap.size + 1 + 1 + 1, 6, none⟩ = false := fun N => RowAt.frozen (w := wx.drewN N) rX 6
        have f7 : ∀ N u, ((wx.drewN N).setCell ⟨W.heap.size + 1 + 1 + 1, 6, none⟩ u).frozen? ⟨W.heap.size + 1 + 1 + 1, 7, none⟩ = false := fun N u => (RowAt.setc (w := wx.drewN N) rX 6 u).frozen 7
        go_wp2_with fail
        refine hl.mono ?_
        rintro e w2 ⟨la, lb, rfl, N, rfl⟩
        have rX2 := (((RowAt.setc (w := wx.drewN N) rX 6 (.int .i64 la)).setc 7 (.int .i64 lb)))
        have rR2 : RowAt (((wx.drewN N).setCell ⟨W.heap.size + 1 + 1 + 1, 6, none⟩ (.int .i64 la)).setCell ⟨W.heap.size + 1 + 1 + 1, 7, none⟩ (.int .i64 lb)) (W.heap.size + 1 + 1) _ _ := (heap_setCell_other _ _ _ _ (by simp)).trans ((heap_setCell_other _ _ _ _ (by simp)).trans rR)
        have hB2 := ((bdrewN hB N).setCell (p := ⟨W.heap.size + 1 + 1 + 1, 6, none⟩) (by simp <;> omega) (.int .i64 la)).setCell (p := ⟨W.heap.size + 1 + 1 + 1, 7, none⟩) (by simp <;> omega) (.int .i64 lb)
        simp only [List.setIfInBounds_toArray, List.set_cons_succ, List.set_cons_zero] at rX2
        go_upto_region 21 with (fail)
        refine wp_region_lit ?_
        refine RowL.wpList_load_row rfl 54 (.tmp 8) rfl (W.heap.size + 1 + 1 + 1) 54 #[.int .i64 0, .int .i64 (wrap64 (w % (cw + 1) - w / 250)), .int .i64 (o % 9), .int .i64 n, .bool (n % 2 == 1), .bool (n % 5 == 0), .int .i64 la, .int .i64 lb, .int .i64 (n % 4), .int .i64 (n % 16), .bool (decide (0 < n % 3))] _ (by go_simp; try rfl) rX2 (Tryz.underlying54) rfl (by kernel_rfl) ?_
        refine RowL.wpList_store_row rfl 54 (.tmp 6) (.tmp 119) rfl (W.heap.size + 1 + 1) _ #[.int .i64 0, .int .i64 0, .int .i64 0, .int .i64 0, .bool false, .bool false, .int .i64 0, .int .i64 0, .int .i64 0, .int .i64 0, .bool false] #[.int .i64 0, .int .i64 (wrap64 (w % (cw + 1) - w / 250)), .int .i64 (o % 9), .int .i64 n, .bool (n % 2 == 1), .bool (n % 5 == 0), .int .i64 la, .int .i64 lb, .int .i64 (n % 4), .int .i64 (n % 16), .bool (decide (0 < n % 3))] (by go_simp; try rfl) (by go_simp; try rfl) rR2 rfl (by kernel_rfl) (by simp [Value.oneCell']) ?_
        go_wp2_with fail
        refine bodyPost_ret (results_row rfl _ _ (W.heap.size + 1 + 1) _ _ _ rfl (rR2.set _) (Tryz.underlying54) rfl (by kernel_rfl)) rfl ?_
        exact ⟨⟨0, (wrap64 (w % (cw + 1) - w / 250)), ⟨(o % 9), n, n % 2 == 1, n % 5 == 0, la, lb, n % 4⟩, n % 16, decide (0 < n % 3)⟩, rfl, ⟨⟨by dsimp only; omega, by dsimp only; omega⟩, by dsimp only; omega, by dsimp only; omega⟩, below_setRow hB2 hlt _⟩
    · go_upto_if 106 with (fail)
      have rX : RowAt ((((((W.alloc (.cells #[.int .u8 k, .int .u8 w, .int .u8 o, .int .u8 s, .int .u8 g, .int .u8 n] 57)).alloc (.cells #[.int .i64 cw, .int .i64 cs, .int .i64 cst, .int .i64 cwa, .int .i64 cu] 23)).alloc (.cells #[.int .i64 0, .int .i64 0, .int .i64 0, .int .i64 0, .bool false, .bool false, .int .i64 0, .int .i64 0, .int .i64 0, .int .i64 0, .bool false] 54)).drewN nq).alloc (.cells #[.int .i64 0, .int .i64 (wrap64 (w % (cw + 1) - w / 250)), .int .i64 z, .int .i64 n, .bool (n % 2 == 1), .bool (n % 5 == 0), .int .i64 (s % 6), .int .i64 (g % 4), .int .i64 (n % 4), .int .i64 (n % 16), .bool (decide (0 < n % 3))] 54)).alloc (.cells #[.int .i64 0, .int .i64 0, .int .i64 1, .int .i64 1, .int .i64 3] 3)) (W.heap.size + 1 + 1 + 1) #[.int .i64 0, .int .i64 (wrap64 (w % (cw + 1) - w / 250)), .int .i64 z, .int .i64 n, .bool (n % 2 == 1), .bool (n % 5 == 0), .int .i64 (s % 6), .int .i64 (g % 4), .int .i64 (n % 4), .int .i64 (n % 16), .bool (decide (0 < n % 3))] 54 := (heap_old_at _ _ (by simp)).trans (heap_new_at _ _ (by simp))
      have rR : RowAt ((((((W.alloc (.cells #[.int .u8 k, .int .u8 w, .int .u8 o, .int .u8 s, .int .u8 g, .int .u8 n] 57)).alloc (.cells #[.int .i64 cw, .int .i64 cs, .int .i64 cst, .int .i64 cwa, .int .i64 cu] 23)).alloc (.cells #[.int .i64 0, .int .i64 0, .int .i64 0, .int .i64 0, .bool false, .bool false, .int .i64 0, .int .i64 0, .int .i64 0, .int .i64 0, .bool false] 54)).drewN nq).alloc (.cells #[.int .i64 0, .int .i64 (wrap64 (w % (cw + 1) - w / 250)), .int .i64 z, .int .i64 n, .bool (n % 2 == 1), .bool (n % 5 == 0), .int .i64 (s % 6), .int .i64 (g % 4), .int .i64 (n % 4), .int .i64 (n % 16), .bool (decide (0 < n % 3))] 54)).alloc (.cells #[.int .i64 0, .int .i64 0, .int .i64 1, .int .i64 1, .int .i64 3] 3)) (W.heap.size + 1 + 1) #[.int .i64 0, .int .i64 0, .int .i64 0, .int .i64 0, .bool false, .bool false, .int .i64 0, .int .i64 0, .int .i64 0, .int .i64 0, .bool false] 54 := (heap_old_at _ _ (by simp <;> omega)).trans ((heap_old_at _ _ (by simp)).trans (heap_new_at _ _ (by simp)))
      have hB : Below W.heap.size W ((((((W.alloc (.cells #[.int .u8 k, .int .u8 w, .int .u8 o, .int .u8 s, .int .u8 g, .int .u8 n] 57)).alloc (.cells #[.int .i64 cw, .int .i64 cs, .int .i64 cst, .int .i64 cwa, .int .i64 cu] 23)).alloc (.cells #[.int .i64 0, .int .i64 0, .int .i64 0, .int .i64 0, .bool false, .bool false, .int .i64 0, .int .i64 0, .int .i64 0, .int .i64 0, .bool false] 54)).drewN nq).alloc (.cells #[.int .i64 0, .int .i64 (wrap64 (w % (cw + 1) - w / 250)), .int .i64 z, .int .i64 n, .bool (n % 2 == 1), .bool (n % 5 == 0), .int .i64 (s % 6), .int .i64 (g % 4), .int .i64 (n % 4), .int .i64 (n % 16), .bool (decide (0 < n % 3))] 54)).alloc (.cells #[.int .i64 0, .int .i64 0, .int .i64 1, .int .i64 1, .int .i64 3] 3)) := ((bdrewN ((((Below.refl _ _).alloc (Nat.le_refl _) _).alloc (by simp) _).alloc (by simp <;> omega) _) nq).alloc (by simp <;> omega) _).alloc (by simp <;> omega) _
      generalize ((((((W.alloc (.cells #[.int .u8 k, .int .u8 w, .int .u8 o, .int .u8 s, .int .u8 g, .int .u8 n] 57)).alloc (.cells #[.int .i64 cw, .int .i64 cs, .int .i64 cst, .int .i64 cwa, .int .i64 cu] 23)).alloc (.cells #[.int .i64 0, .int .i64 0, .int .i64 0, .int .i64 0, .bool false, .bool false, .int .i64 0, .int .i64 0, .int .i64 0, .int .i64 0, .bool false] 54)).drewN nq).alloc (.cells #[.int .i64 0, .int .i64 (wrap64 (w % (cw + 1) - w / 250)), .int .i64 z, .int .i64 n, .bool (n % 2 == 1), .bool (n % 5 == 0), .int .i64 (s % 6), .int .i64 (g % 4), .int .i64 (n % 4), .int .i64 (n % 16), .bool (decide (0 < n % 3))] 54)).alloc (.cells #[.int .i64 0, .int .i64 0, .int .i64 1, .int .i64 1, .int .i64 3] 3)) = wx at rX rR hB ⊢
      have hlt : W.heap.size ≤ W.heap.size + 1 + 1 := by omega
      rcases hss with hss | hss
      · skip
        go_upto_region 21 with (fail)
        refine wp_region_lit ?_
        refine RowL.wpList_load_row rfl 54 (.tmp 8) rfl (W.heap.size + 1 + 1 + 1) 54 #[.int .i64 0, .int .i64 (wrap64 (w % (cw + 1) - w / 250)), .int .i64 z, .int .i64 n, .bool (n % 2 == 1), .bool (n % 5 == 0), .int .i64 (s % 6), .int .i64 (g % 4), .int .i64 (n % 4), .int .i64 (n % 16), .bool (decide (0 < n % 3))] _ (by go_simp; try rfl) rX (Tryz.underlying54) rfl (by kernel_rfl) ?_
        refine RowL.wpList_store_row rfl 54 (.tmp 6) (.tmp 119) rfl (W.heap.size + 1 + 1) _ #[.int .i64 0, .int .i64 0, .int .i64 0, .int .i64 0, .bool false, .bool false, .int .i64 0, .int .i64 0, .int .i64 0, .int .i64 0, .bool false] #[.int .i64 0, .int .i64 (wrap64 (w % (cw + 1) - w / 250)), .int .i64 z, .int .i64 n, .bool (n % 2 == 1), .bool (n % 5 == 0), .int .i64 (s % 6), .int .i64 (g % 4), .int .i64 (n % 4), .int .i64 (n % 16), .bool (decide (0 < n % 3))] (by go_simp; try rfl) (by go_simp; try rfl) rR rfl (by kernel_rfl) (by simp [Value.oneCell']) ?_
        go_wp2_with fail
        refine bodyPost_ret (results_row rfl _ _ (W.heap.size + 1 + 1) _ _ _ rfl (rR.set _) (Tryz.underlying54) rfl (by kernel_rfl)) rfl ?_
        exact ⟨⟨0, (wrap64 (w % (cw + 1) - w / 250)), ⟨z, n, n % 2 == 1, n % 5 == 0, s % 6, g % 4, n % 4⟩, n % 16, decide (0 < n % 3)⟩, rfl, ⟨⟨by dsimp only; omega, by dsimp only; omega⟩, by dsimp only; omega, by dsimp only; omega⟩, below_setRow hB hlt _⟩
      · have hl := HLE.out wx hB (wrap64 (w % (cw + 1) - w / 250))
        have c6 : ∀ N, (wx.drewN N).cell? ⟨W.heap.size + 1 + 1 + 1, 6, none⟩ = some (.int .i64 (s % 6)) := fun N => rX.cell 6
        have c7 : ∀ N u, ((wx.drewN N).setCell ⟨W.heap.size + 1 + 1 + 1, 6, none⟩ u).cell? ⟨W.heap.size + 1 + 1 + 1, 7, none⟩ = some (.int .i64 (g % 4)) := fun N u => (RowAt.setc (w := wx.drewN N) rX 6 u).cell 7
        have f6 : ∀ N, (wx.drewN N).frozen? ⟨W.heap.size + 1 + 1 + 1, 6, none⟩ = false := fun N => RowAt.frozen (w := wx.drewN N) rX 6
        have f7 : ∀ N u, ((wx.drewN N).setCell ⟨W.heap.size + 1 + 1 + 1, 6, none⟩ u).frozen? ⟨W.heap.size + 1 + 1 + 1, 7, none⟩ = false := fun N u => (RowAt.setc (w := wx.drewN N) rX 6 u).frozen 7
        go_wp2_with fail
        refine hl.mono ?_
        rintro e w2 ⟨la, lb, rfl, N, rfl⟩
        have rX2 := (((RowAt.setc (w := wx.drewN N) rX 6 (.int .i64 la)).setc 7 (.int .i64 lb)))
        have rR2 : RowAt (((wx.drewN N).setCell ⟨W.heap.size + 1 + 1 + 1, 6, none⟩ (.int .i64 la)).setCell ⟨W.heap.size + 1 + 1 + 1, 7, none⟩ (.int .i64 lb)) (W.heap.size + 1 + 1) _ _ := (heap_setCell_other _ _ _ _ (by simp)).trans ((heap_setCell_other _ _ _ _ (by simp)).trans rR)
        have hB2 := ((bdrewN hB N).setCell (p := ⟨W.heap.size + 1 + 1 + 1, 6, none⟩) (by simp <;> omega) (.int .i64 la)).setCell (p := ⟨W.heap.size + 1 + 1 + 1, 7, none⟩) (by simp <;> omega) (.int .i64 lb)
        simp only [List.setIfInBounds_toArray, List.set_cons_succ, List.set_cons_zero] at rX2
        go_upto_region 21 with (fail)
        refine wp_region_lit ?_
        refine RowL.wpList_load_row rfl 54 (.tmp 8) rfl (W.heap.size + 1 + 1 + 1) 54 #[.int .i64 0, .int .i64 (wrap64 (w % (cw + 1) - w / 250)), .int .i64 z, .int .i64 n, .bool (n % 2 == 1), .bool (n % 5 == 0), .int .i64 la, .int .i64 lb, .int .i64 (n % 4), .int .i64 (n % 16), .bool (decide (0 < n % 3))] _ (by go_simp; try rfl) rX2 (Tryz.underlying54) rfl (by kernel_rfl) ?_
        refine RowL.wpList_store_row rfl 54 (.tmp 6) (.tmp 119) rfl (W.heap.size + 1 + 1) _ #[.int .i64 0, .int .i64 0, .int .i64 0, .int .i64 0, .bool false, .bool false, .int .i64 0, .int .i64 0, .int .i64 0, .int .i64 0, .bool false] #[.int .i64 0, .int .i64 (wrap64 (w % (cw + 1) - w / 250)), .int .i64 z, .int .i64 n, .bool (n % 2 == 1), .bool (n % 5 == 0), .int .i64 la, .int .i64 lb, .int .i64 (n % 4), .int .i64 (n % 16), .bool (decide (0 < n % 3))] (by go_simp; try rfl) (by go_simp; try rfl) rR2 rfl (by kernel_rfl) (by simp [Value.oneCell']) ?_
        go_wp2_with fail
        refine bodyPost_ret (results_row rfl _ _ (W.heap.size + 1 + 1) _ _ _ rfl (rR2.set _) (Tryz.underlying54) rfl (by kernel_rfl)) rfl ?_
        exact ⟨⟨0, (wrap64 (w % (cw + 1) - w / 250)), ⟨z, n, n % 2 == 1, n % 5 == 0, la, lb, n % 4⟩, n % 16, decide (0 < n % 3)⟩, rfl, ⟨⟨by dsimp only; omega, by dsimp only; omega⟩, by dsimp only; omega, by dsimp only; omega⟩, below_setRow hB2 hlt _⟩
  · have ht0 := ht
    rcases hoo with hoo | hoo
    · go_upto_if 106 with (fail)
      have rX : RowAt (((((W.alloc (.cells #[.int .u8 k, .int .u8 w, .int .u8 o, .int .u8 s, .int .u8 g, .int .u8 n] 57)).alloc (.cells #[.int .i64 cw, .int .i64 cs, .int .i64 cst, .int .i64 cwa, .int .i64 cu] 23)).alloc (.cells #[.int .i64 0, .int .i64 0, .int .i64 0, .int .i64 0, .bool false, .bool false, .int .i64 0, .int .i64 0, .int .i64 0, .int .i64 0, .bool false] 54)).drewN nq).alloc (.cells #[.int .i64 1, .int .i64 (wrap64 (w % (cw + 1) - w / 250)), .int .i64 (o % 9), .int .i64 n, .bool (n % 2 == 1), .bool (n % 5 == 0), .int .i64 (s % 6), .int .i64 (g % 4), .int .i64 (n % 4), .int .i64 (n % 16), .bool (decide (0 < n % 3))] 54)) (W.heap.size + 1 + 1 + 1) #[.int .i64 1, .int .i64 (wrap64 (w % (cw + 1) - w / 250)), .int .i64 (o % 9), .int .i64 n, .bool (n % 2 == 1), .bool (n % 5 == 0), .int .i64 (s % 6), .int .i64 (g % 4), .int .i64 (n % 4), .int .i64 (n % 16), .bool (decide (0 < n % 3))] 54 := heap_new_at _ _ (by simp)
      have rR : RowAt (((((W.alloc (.cells #[.int .u8 k, .int .u8 w, .int .u8 o, .int .u8 s, .int .u8 g, .int .u8 n] 57)).alloc (.cells #[.int .i64 cw, .int .i64 cs, .int .i64 cst, .int .i64 cwa, .int .i64 cu] 23)).alloc (.cells #[.int .i64 0, .int .i64 0, .int .i64 0, .int .i64 0, .bool false, .bool false, .int .i64 0, .int .i64 0, .int .i64 0, .int .i64 0, .bool false] 54)).drewN nq).alloc (.cells #[.int .i64 1, .int .i64 (wrap64 (w % (cw + 1) - w / 250)), .int .i64 (o % 9), .int .i64 n, .bool (n % 2 == 1), .bool (n % 5 == 0), .int .i64 (s % 6), .int .i64 (g % 4), .int .i64 (n % 4), .int .i64 (n % 16), .bool (decide (0 < n % 3))] 54)) (W.heap.size + 1 + 1) #[.int .i64 0, .int .i64 0, .int .i64 0, .int .i64 0, .bool false, .bool false, .int .i64 0, .int .i64 0, .int .i64 0, .int .i64 0, .bool false] 54 := (heap_old_at _ _ (by simp)).trans (heap_new_at _ _ (by simp))
      have hB : Below W.heap.size W (((((W.alloc (.cells #[.int .u8 k, .int .u8 w, .int .u8 o, .int .u8 s, .int .u8 g, .int .u8 n] 57)).alloc (.cells #[.int .i64 cw, .int .i64 cs, .int .i64 cst, .int .i64 cwa, .int .i64 cu] 23)).alloc (.cells #[.int .i64 0, .int .i64 0, .int .i64 0, .int .i64 0, .bool false, .bool false, .int .i64 0, .int .i64 0, .int .i64 0, .int .i64 0, .bool false] 54)).drewN nq).alloc (.cells #[.int .i64 1, .int .i64 (wrap64 (w % (cw + 1) - w / 250)), .int .i64 (o % 9), .int .i64 n, .bool (n % 2 == 1), .bool (n % 5 == 0), .int .i64 (s % 6), .int .i64 (g % 4), .int .i64 (n % 4), .int .i64 (n % 16), .bool (decide (0 < n % 3))] 54)) := (bdrewN ((((Below.refl _ _).alloc (Nat.le_refl _) _).alloc (by simp) _).alloc (by simp <;> omega) _) nq).alloc (by simp <;> omega) _
      generalize (((((W.alloc (.cells #[.int .u8 k, .int .u8 w, .int .u8 o, .int .u8 s, .int .u8 g, .int .u8 n] 57)).alloc (.cells #[.int .i64 cw, .int .i64 cs, .int .i64 cst, .int .i64 cwa, .int .i64 cu] 23)).alloc (.cells #[.int .i64 0, .int .i64 0, .int .i64 0, .int .i64 0, .bool false, .bool false, .int .i64 0, .int .i64 0, .int .i64 0, .int .i64 0, .bool false] 54)).drewN nq).alloc (.cells #[.int .i64 1, .int .i64 (wrap64 (w % (cw + 1) - w / 250)), .int .i64 (o % 9), .int .i64 n, .bool (n % 2 == 1), .bool (n % 5 == 0), .int .i64 (s % 6), .int .i64 (g % 4), .int .i64 (n % 4), .int .i64 (n % 16), .bool (decide (0 < n % 3))] 54)) = wx at rX rR hB ⊢
      have hlt : W.heap.size ≤ W.heap.size + 1 + 1 := by omega
      rcases hss with hss | hss
      · skip
        go_upto_region 21 with (fail)
        refine wp_region_lit ?_
        refine RowL.wpList_load_row rfl 54 (.tmp 8) rfl (W.heap.size + 1 + 1 + 1) 54 #[.int .i64 1, .int .i64 (wrap64 (w % (cw + 1) - w / 250)), .int .i64 (o % 9), .int .i64 n, .bool (n % 2 == 1), .bool (n % 5 == 0), .int .i64 (s % 6), .int .i64 (g % 4), .int .i64 (n % 4), .int .i64 (n % 16), .bool (decide (0 < n % 3))] _ (by go_simp; try rfl) rX (Tryz.underlying54) rfl (by kernel_rfl) ?_
        refine RowL.wpList_store_row rfl 54 (.tmp 6) (.tmp 119) rfl (W.heap.size + 1 + 1) _ #[.int .i64 0, .int .i64 0, .int .i64 0, .int .i64 0, .bool false, .bool false, .int .i64 0, .int .i64 0, .int .i64 0, .int .i64 0, .bool false] #[.int .i64 1, .int .i64 (wrap64 (w % (cw + 1) - w / 250)), .int .i64 (o % 9), .int .i64 n, .bool (n % 2 == 1), .bool (n % 5 == 0), .int .i64 (s % 6), .int .i64 (g % 4), .int .i64 (n % 4), .int .i64 (n % 16), .bool (decide (0 < n % 3))] (by go_simp; try rfl) (by go_simp; try rfl) rR rfl (by kernel_rfl) (by simp [Value.oneCell']) ?_
        go_wp2_with fail
        refine bodyPost_ret (results_row rfl _ _ (W.heap.size + 1 + 1) _ _ _ rfl (rR.set _) (Tryz.underlying54) rfl (by kernel_rfl)) rfl ?_
        exact ⟨⟨1, (wrap64 (w % (cw + 1) - w / 250)), ⟨(o % 9), n, n % 2 == 1, n % 5 == 0, s % 6, g % 4, n % 4⟩, n % 16, decide (0 < n % 3)⟩, rfl, ⟨⟨by dsimp only; omega, by dsimp only; omega⟩, by dsimp only; omega, by dsimp only; omega⟩, below_setRow hB hlt _⟩
      · have hl := HLE.out wx hB (wrap64 (w % (cw + 1) - w / 250))
        have c6 : ∀ N, (wx.drewN N).cell? ⟨W.heap.size + 1 + 1 + 1, 6, none⟩ = some (.int .i64 (s % 6)) := fun N => rX.cell 6
        have c7 : ∀ N u, ((wx.drewN N).setCell ⟨W.heap.size + 1 + 1 + 1, 6, none⟩ u).cell? ⟨W.heap.size + 1 + 1 + 1, 7, none⟩ = some (.int .i64 (g % 4)) := fun N u => (RowAt.setc (w := wx.drewN N) rX 6 u).cell 7
        have f6 : ∀ N, (wx.drewN N).frozen? ⟨W.heap.size + 1 + 1 + 1, 6, none⟩ = false := fun N => RowAt.frozen (w := wx.drewN N) rX 6
        have f7 : ∀ N u, ((wx.drewN N).setCell ⟨W.heap.size + 1 + 1 + 1, 6, none⟩ u).frozen? ⟨W.heap.size + 1 + 1 + 1, 7, none⟩ = false := fun N u => (RowAt.setc (w := wx.drewN N) rX 6 u).frozen 7
        go_wp2_with fail
        refine hl.mono ?_
        rintro e w2 ⟨la, lb, rfl, N, rfl⟩
        have rX2 := (((RowAt.setc (w := wx.drewN N) rX 6 (.int .i64 la)).setc 7 (.int .i64 lb)))
        have rR2 : RowAt (((wx.drewN N).setCell ⟨W.heap.size + 1 + 1 + 1, 6, none⟩ (.int .i64 la)).setCell ⟨W.heap.size + 1 + 1 + 1, 7, none⟩ (.int .i64 lb)) (W.heap.size + 1 + 1) _ _ := (heap_setCell_other _ _ _ _ (by simp)).trans ((heap_setCell_other _ _ _ _ (by simp)).trans rR)
        have hB2 := ((bdrewN hB N).setCell (p := ⟨W.heap.size + 1 + 1 + 1, 6, none⟩) (by simp <;> omega) (.int .i64 la)).setCell (p := ⟨W.heap.size + 1 + 1 + 1, 7, none⟩) (by simp <;> omega) (.int .i64 lb)
        simp only [List.setIfInBounds_toArray, List.set_cons_succ, List.set_cons_zero] at rX2
        go_upto_region 21 with (fail)
        refine wp_region_lit ?_
        refine RowL.wpList_load_row rfl 54 (.tmp 8) rfl (W.heap.size + 1 + 1 + 1) 54 #[.int .i64 1, .int .i64 (wrap64 (w % (cw + 1) - w / 250)), .int .i64 (o % 9), .int .i64 n, .bool (n % 2 == 1), .bool (n % 5 == 0), .int .i64 la, .int .i64 lb, .int .i64 (n % 4), .int .i64 (n % 16), .bool (decide (0 < n % 3))] _ (by go_simp; try rfl) rX2 (Tryz.underlying54) rfl (by kernel_rfl) ?_
        refine RowL.wpList_store_row rfl 54 (.tmp 6) (.tmp 119) rfl (W.heap.size + 1 + 1) _ #[.int .i64 0, .int .i64 0, .int .i64 0, .int .i64 0, .bool false, .bool false, .int .i64 0, .int .i64 0, .int .i64 0, .int .i64 0, .bool false] #[.int .i64 1, .int .i64 (wrap64 (w % (cw + 1) - w / 250)), .int .i64 (o % 9), .int .i64 n, .bool (n % 2 == 1), .bool (n % 5 == 0), .int .i64 la, .int .i64 lb, .int .i64 (n % 4), .int .i64 (n % 16), .bool (decide (0 < n % 3))] (by go_simp; try rfl) (by go_simp; try rfl) rR2 rfl (by kernel_rfl) (by simp [Value.oneCell']) ?_
        go_wp2_with fail
        refine bodyPost_ret (results_row rfl _ _ (W.heap.size + 1 + 1) _ _ _ rfl (rR2.set _) (Tryz.underlying54) rfl (by kernel_rfl)) rfl ?_
        exact ⟨⟨1, (wrap64 (w % (cw + 1) - w / 250)), ⟨(o % 9), n, n % 2 == 1, n % 5 == 0, la, lb, n % 4⟩, n % 16, decide (0 < n % 3)⟩, rfl, ⟨⟨by dsimp only; omega, by dsimp only; omega⟩, by dsimp only; omega, by dsimp only; omega⟩, below_setRow hB2 hlt _⟩
    · go_upto_if 106 with (fail)
      have rX : RowAt ((((((W.alloc (.cells #[.int .u8 k, .int .u8 w, .int .u8 o, .int .u8 s, .int .u8 g, .int .u8 n] 57)).alloc (.cells #[.int .i64 cw, .int .i64 cs, .int .i64 cst, .int .i64 cwa, .int .i64 cu] 23)).alloc (.cells #[.int .i64 0, .int .i64 0, .int .i64 0, .int .i64 0, .bool false, .bool false, .int .i64 0, .int .i64 0, .int .i64 0, .int .i64 0, .bool false] 54)).drewN nq).alloc (.cells #[.int .i64 1, .int .i64 (wrap64 (w % (cw + 1) - w / 250)), .int .i64 z, .int .i64 n, .bool (n % 2 == 1), .bool (n % 5 == 0), .int .i64 (s % 6), .int .i64 (g % 4), .int .i64 (n % 4), .int .i64 (n % 16), .bool (decide (0 < n % 3))] 54)).alloc (.cells #[.int .i64 0, .int .i64 0, .int .i64 1, .int .i64 1, .int .i64 3] 3)) (W.heap.size + 1 + 1 + 1) #[.int .i64 1, .int .i64 (wrap64 (w % (cw + 1) - w / 250)), .int .i64 z, .int .i64 n, .bool (n % 2 == 1), .bool (n % 5 == 0), .int .i64 (s % 6), .int .i64 (g % 4), .int .i64 (n % 4), .int .i64 (n % 16), .bool (decide (0 < n % 3))] 54 := (heap_old_at _ _ (by simp)).trans (heap_new_at _ _ (by simp))
      have rR : RowAt ((((((W.alloc (.cells #[.int .u8 k, .int .u8 w, .int .u8 o, .int .u8 s, .int .u8 g, .int .u8 n] 57)).alloc (.cells #[.int .i64 cw, .int .i64 cs, .int .i64 cst, .int .i64 cwa, .int .i64 cu] 23)).alloc (.cells #[.int .i64 0, .int .i64 0, .int .i64 0, .int .i64 0, .bool false, .bool false, .int .i64 0, .int .i64 0, .int .i64 0, .int .i64 0, .bool false] 54)).drewN nq).alloc (.cells #[.int .i64 1, .int .i64 (wrap64 (w % (cw + 1) - w / 250)), .int .i64 z, .int .i64 n, .bool (n % 2 == 1), .bool (n % 5 == 0), .int .i64 (s % 6), .int .i64 (g % 4), .int .i64 (n % 4), .int .i64 (n % 16), .bool (decide (0 < n % 3))] 54)).alloc (.cells #[.int .i64 0, .int .i64 0, .int .i64 1, .int .i64 1, .int .i64 3] 3)) (W.heap.size + 1 + 1) #[.int .i64 0, .int .i64 0, .int .i64 0, .int .i64 0, .bool false, .bool false, .int .i64 0, .int .i64 0, .int .i64 0, .int .i64 0, .bool false] 54 := (heap_old_at _ _ (by simp <;> omega)).trans ((heap_old_at _ _ (by simp)).trans (heap_new_at _ _ (by simp)))
      have hB : Below W.heap.size W ((((((W.alloc (.cells #[.int .u8 k, .int .u8 w, .int .u8 o, .int .u8 s, .int .u8 g, .int .u8 n] 57)).alloc (.cells #[.int .i64 cw, .int .i64 cs, .int .i64 cst, .int .i64 cwa, .int .i64 cu] 23)).alloc (.cells #[.int .i64 0, .int .i64 0, .int .i64 0, .int .i64 0, .bool false, .bool false, .int .i64 0, .int .i64 0, .int .i64 0, .int .i64 0, .bool false] 54)).drewN nq).alloc (.cells #[.int .i64 1, .int .i64 (wrap64 (w % (cw + 1) - w / 250)), .int .i64 z, .int .i64 n, .bool (n % 2 == 1), .bool (n % 5 == 0), .int .i64 (s % 6), .int .i64 (g % 4), .int .i64 (n % 4), .int .i64 (n % 16), .bool (decide (0 < n % 3))] 54)).alloc (.cells #[.int .i64 0, .int .i64 0, .int .i64 1, .int .i64 1, .int .i64 3] 3)) := ((bdrewN ((((Below.refl _ _).alloc (Nat.le_refl _) _).alloc (by simp) _).alloc (by simp <;> omega) _) nq).alloc (by simp <;> omega) _).alloc (by simp <;> omega) _
      generalize ((((((W.alloc (.cells #[.int .u8 k, .int .u8 w, .int .u8 o, .int .u8 s, .int .u8 g, .int .u8 n] 57)).alloc (.cells #[.int .i64 cw, .int .i64 cs, .int .i64 cst, .int .i64 cwa, .int .i64 cu] 23)).alloc (.cells #[.int .i64 0, .int .i64 0, .int .i64 0, .int .i64 0, .bool false, .bool false, .int .i64 0, .int .i64 0, .int .i64 0, .int .i64 0, .bool false] 54)).drewN nq).alloc (.cells #[.int .i64 1, .int .i64 (wrap64 (w % (cw + 1) - w / 250)), .int .i64 z, .int .i64 n, .bool (n % 2 == 1), .bool (n % 5 == 0), .int .i64 (s % 6), .int .i64 (g % 4), .int .i64 (n % 4), .int .i64 (n % 16), .bool (decide (0 < n % 3))] 54)).alloc (.cells #[.int .i64 0, .int .i64 0, .int .i64 1, .int .i64 1, .int .i64 3] 3)) = wx at rX rR hB ⊢
      have hlt : W.heap.size ≤ W.heap.size + 1 + 1 := by omega
      rcases hss with hss | hss
      · skip
        go_upto_region 21 with (fail)
        refine wp_region_lit ?_
        refine RowL.wpList_load_row rfl 54 (.tmp 8) rfl (W.heap.size + 1 + 1 + 1) 54 #[.int .i64 1, .int .i64 (wrap64 (w % (cw + 1) - w / 250)), .int .i64 z, .int .i64 n, .bool (n % 2 == 1), .bool (n % 5 == 0), .int .i64 (s % 6), .int .i64 (g % 4), .int .i64 (n % 4), .int .i64 (n % 16), .bool (decide (0 < n % 3))] _ (by go_simp; try rfl) rX (Tryz.underlying54) rfl (by kernel_rfl) ?_
        refine RowL.wpList_store_row rfl 54 (.tmp 6) (.tmp 119) rfl (W.heap.size + 1 + 1) _ #[.int .i64 0, .int .i64 0, .int .i64 0, .int .i64 0, .bool false, .bool false, .int .i64 0, .int .i64 0, .int .i64 0, .int .i64 0, .bool false] #[.int .i64 1, .int .i64 (wrap64 (w % (cw + 1) - w / 250)), .int .i64 z, .int .i64 n, .bool (n % 2 == 1), .bool (n % 5 == 0), .int .i64 (s % 6), .int .i64 (g % 4), .int .i64 (n % 4), .int .i64 (n % 16), .bool (decide (0 < n % 3))] (by go_simp; try rfl) (by go_simp; try rfl) rR rfl (by kernel_rfl) (by simp [Value.oneCell']) ?_
        go_wp2_with fail
        refine bodyPost_ret (results_row rfl _ _ (W.heap.size + 1 + 1) _ _ _ rfl (rR.set _) (Tryz.underlying54) rfl (by kernel_rfl)) rfl ?_
        exact ⟨⟨1, (wrap64 (w % (cw + 1) - w / 250)), ⟨z, n, n % 2 == 1, n % 5 == 0, s % 6, g % 4, n % 4⟩, n % 16, decide (0 < n % 3)⟩, rfl, ⟨⟨by dsimp only; omega, by dsimp only; omega⟩, by dsimp only; omega, by dsimp only; omega⟩, below_setRow hB hlt _⟩
      · have hl := HLE.out wx hB (wrap64 (w % (cw + 1) - w / 250))
        have c6 : ∀ N, (wx.drewN N).cell? ⟨W.heap.size + 1 + 1 + 1, 6, none⟩ = some (.int .i64 (s % 6)) := fun N => rX.cell 6
        have c7 : ∀ N u, ((wx.drewN N).setCell ⟨W.heap.size + 1 + 1 + 1, 6, none⟩ u).cell? ⟨W.heap.size + 1 + 1 + 1, 7, none⟩ = some (.int .i64 (g % 4)) := fun N u => (RowAt.setc (w := wx.drewN N) rX 6 u).cell 7
        have f6 : ∀ N, (wx.drewN N).frozen? ⟨W.heap.size + 1 + 1 + 1, 6, none⟩ = false := fun N => RowAt.frozen (w := wx.drewN N) rX 6
        have f7 : ∀ N u, ((wx.drewN N).setCell ⟨W.heap.size + 1 + 1 + 1, 6, none⟩ u).frozen? ⟨W.heap.size + 1 + 1 + 1, 7, none⟩ = false := fun N u => (RowAt.setc (w := wx.drewN N) rX 6 u).frozen 7
        go_wp2_with fail
        refine hl.mono ?_
        rintro e w2 ⟨la, lb, rfl, N, rfl⟩
        have rX2 := (((RowAt.setc (w := wx.drewN N) rX 6 (.int .i64 la)).setc 7 (.int .i64 lb)))
        have rR2 : RowAt (((wx.drewN N).setCell ⟨W.heap.size + 1 + 1 + 1, 6, none⟩ (.int .i64 la)).setCell ⟨W.heap.size + 1 + 1 + 1, 7, none⟩ (.int .i64 lb)) (W.heap.size + 1 + 1) _ _ := (heap_setCell_other _ _ _ _ (by simp)).trans ((heap_setCell_other _ _ _ _ (by simp)).trans rR)
        have hB2 := ((bdrewN hB N).setCell (p := ⟨W.heap.size + 1 + 1 + 1, 6, none⟩) (by simp <;> omega) (.int .i64 la)).setCell (p := ⟨W.heap.size + 1 + 1 + 1, 7, none⟩) (by simp <;> omega) (.int .i64 lb)
        simp only [List.setIfInBounds_toArray, List.set_cons_succ, List.set_cons_zero] at rX2
        go_upto_region 21 with (fail)
        refine wp_region_lit ?_
        refine RowL.wpList_load_row rfl 54 (.tmp 8) rfl (W.heap.size + 1 + 1 + 1) 54 #[.int .i64 1, .int .i64 (wrap64 (w % (cw + 1) - w / 250)), .int .i64 z, .int .i64 n, .bool (n % 2 == 1), .bool (n % 5 == 0), .int .i64 la, .int .i64 lb, .int .i64 (n % 4), .int .i64 (n % 16), .bool (decide (0 < n % 3))] _ (by go_simp; try rfl) rX2 (Tryz.underlying54) rfl (by kernel_rfl) ?_
        refine RowL.wpList_store_row rfl 54 (.tmp 6) (.tmp 119) rfl (W.heap.size + 1 + 1) _ #[.int .i64 0, .int .i64 0, .int .i64 0, .int .i64 0, .bool false, .bool false, .int .i64 0, .int .i64 0, .int .i64 0, .int .i64 0, .bool false] #[.int .i64 1, .int .i64 (wrap64 (w % (cw + 1) - w / 250)), .int .i64 z, .int .i64 n, .bool (n % 2 == 1), .bool (n % 5 == 0), .int .i64 la, .int .i64 lb, .int .i64 (n % 4), .int .i64 (n % 16), .bool (decide (0 < n % 3))] (by go_simp; try rfl) (by go_simp; try rfl) rR2 rfl (by kernel_rfl) (by simp [Value.oneCell']) ?_
        go_wp2_with fail
        refine bodyPost_ret (results_row rfl _ _ (W.heap.size + 1 + 1) _ _ _ rfl (rR2.set _) (Tryz.underlying54) rfl (by kernel_rfl)) rfl ?_
        exact ⟨⟨1, (wrap64 (w % (cw + 1) - w / 250)), ⟨z, n, n % 2 == 1, n % 5 == 0, la, lb, n % 4⟩, n % 16, decide (0 < n % 3)⟩, rfl, ⟨⟨by dsimp only; omega, by dsimp only; omega⟩, by dsimp only; omega, by dsimp only; omega⟩, below_setRow hB2 hlt _⟩
  · have ht0 := ht
    rcases hoo with hoo | hoo
    · go_upto_if 106 with (fail)
      have rX : RowAt (((((W.alloc (.cells #[.int .u8 k, .int .u8 w, .int .u8 o, .int .u8 s, .int .u8 g, .int .u8 n] 57)).alloc (.cells #[.int .i64 cw, .int .i64 cs, .int .i64 cst, .int .i64 cwa, .int .i64 cu] 23)).alloc (.cells #[.int .i64 0, .int .i64 0, .int .i64 0, .int .i64 0, .bool false, .bool false, .int .i64 0, .int .i64 0, .int .i64 0, .int .i64 0, .bool false] 54)).drewN nq).alloc (.cells #[.int .i64 2, .int .i64 (wrap64 (w % (cw + 1) - w / 250)), .int .i64 (o % 9), .int .i64 n, .bool (n % 2 == 1), .bool (n % 5 == 0), .int .i64 (s % 6), .int .i64 (g % 4), .int .i64 (n % 4), .int .i64 (n % 16), .bool (decide (0 < n % 3))] 54)) (W.heap.size + 1 + 1 + 1) #[.int .i64 2, .int .i64 (wrap64 (w % (cw + 1) - w / 250)), .int .i64 (o % 9), .int .i64 n, .bool (n % 2 == 1), .bool (n % 5 == 0), .int .i64 (s % 6), .int .i64 (g % 4), .int .i64 (n % 4), .int .i64 (n % 16), .bool (decide (0 < n % 3))] 54 := heap_new_at _ _ (by simp)
      have rR : RowAt (((((W.alloc (.cells #[.int .u8 k, .int .u8 w, .int .u8 o, .int .u8 s, .int .u8 g, .int .u8 n] 57)).alloc (.cells #[.int .i64 cw, .int .i64 cs, .int .i64 cst, .int .i64 cwa, .int .i64 cu] 23)).alloc (.cells #[.int .i64 0, .int .i64 0, .int .i64 0, .int .i64 0, .bool false, .bool false, .int .i64 0, .int .i64 0, .int .i64 0, .int .i64 0, .bool false] 54)).drewN nq).alloc (.cells #[.int .i64 2, .int .i64 (wrap64 (w % (cw + 1) - w / 250)), .int .i64 (o % 9), .int .i64 n, .bool (n % 2 == 1), .bool (n % 5 == 0), .int .i64 (s % 6), .int .i64 (g % 4), .int .i64 (n % 4), .int .i64 (n % 16), .bool (decide (0 < n % 3))] 54)) (W.heap.size + 1 + 1) #[.int .i64 0, .int .i64 0, .int .i64 0, .int .i64 0, .bool false, .bool false, .int .i64 0, .int .i64 0, .int .i64 0, .int .i64 0, .bool false] 54 := (heap_old_at _ _ (by simp)).trans (heap_new_at _ _ (by simp))
      have hB : Below W.heap.size W (((((W.alloc (.cells #[.int .u8 k, .int .u8 w, .int .u8 o, .int .u8 s, .int .u8 g, .int .u8 n] 57)).alloc (.cells #[.int .i64 cw, .int .i64 cs, .int .i64 cst, .int .i64 cwa, .int .i64 cu] 23)).alloc (.cells #[.int .i64 0, .int .i64 0, .int .i64 0, .int .i64 0, .bool false, .bool false, .int .i64 0, .int .i64 0, .int .i64 0, .int .i64 0, .bool false] 54)).drewN nq).alloc (.cells #[.int .i64 2, .int .i64 (wrap64 (w % (cw + 1) - w / 250)), .int .i64 (o % 9), .int .i64 n, .bool (n % 2 == 1), .bool (n % 5 == 0), .int .i64 (s % 6), .int .i64 (g % 4), .int .i64 (n % 4), .int .i64 (n % 16), .bool (decide (0 < n % 3))] 54)) := (bdrewN ((((Below.refl _ _).alloc (Nat.le_refl _) _).alloc (by simp) _).alloc (by simp <;> omega) _) nq).alloc (by simp <;> omega) _
      generalize (((((W.alloc (.cells #[.int .u8 k, .int .u8 w, .int .u8 o, .int .u8 s, .int .u8 g, .int .u8 n] 57)).alloc (.cells #[.int .i64 cw, .int .i64 cs, .int .i64 cst, .int .i64 cwa, .int .i64 cu] 23)).alloc (.cells #[.int .i64 0, .int .i64 0, .int .i64 0, .int .i64 0, .bool false, .bool false, .int .i64 0, .int .i64 0, .int .i64 0, .int .i64 0, .bool false] 54)).drewN nq).alloc (.cells #[.int .i64 2, .int .i64 (wrap64 (w % (cw + 1) - w / 250)), .int .i64 (o % 9), .int .i64 n, .bool (n % 2 == 1), .bool (n % 5 == 0), .int .i64 (s % 6), .int .i64 (g % 4), .int .i64 (n % 4), .int .i64 (n % 16), .bool (decide (0 < n % 3))] 54)) = wx at rX rR hB ⊢
      have hlt : W.heap.size ≤ W.heap.size + 1 + 1 := by omega
      rcases hss with hss | hss
      · skip
        go_upto_region 21 with (fail)
        refine wp_region_lit ?_
        refine RowL.wpList_load_row rfl 54 (.tmp 8) rfl (W.heap.size + 1 + 1 + 1) 54 #[.int .i64 2, .int .i64 (wrap64 (w % (cw + 1) - w / 250)), .int .i64 (o % 9), .int .i64 n, .bool (n % 2 == 1), .bool (n % 5 == 0), .int .i64 (s % 6), .int .i64 (g % 4), .int .i64 (n % 4), .int .i64 (n % 16), .bool (decide (0 < n % 3))] _ (by go_simp; try rfl) rX (Tryz.underlying54) rfl (by kernel_rfl) ?_
        refine RowL.wpList_store_row rfl 54 (.tmp 6) (.tmp 119) rfl (W.heap.size + 1 + 1) _ #[.int .i64 0, .int .i64 0, .int .i64 0, .int .i64 0, .bool false, .bool false, .int .i64 0, .int .i64 0, .int .i64 0, .int .i64 0, .bool false] #[.int .i64 2, .int .i64 (wrap64 (w % (cw + 1) - w / 250)), .int .i64 (o % 9), .int .i64 n, .bool (n % 2 == 1), .bool (n % 5 == 0), .int .i64 (s % 6), .int .i64 (g % 4), .int .i64 (n % 4), .int .i64 (n % 16), .bool (decide (0 < n % 3))] (by go_simp; try rfl) (by go_simp; try rfl) rR rfl (by kernel_rfl) (by simp [Value.oneCell']) ?_
        go_wp2_with fail
        refine bodyPost_ret (results_row rfl _ _ (W.heap.size + 1 + 1) _ _ _ rfl (rR.set _) (Tryz.underlying54) rfl (by kernel_rfl)) rfl ?_
        exact ⟨⟨2, (wrap64 (w % (cw + 1) - w / 250)), ⟨(o % 9), n, n % 2 == 1, n % 5 == 0, s % 6, g % 4, n % 4⟩, n % 16, decide (0 < n % 3)⟩, rfl, ⟨⟨by dsimp only; omega, by dsimp only; omega⟩, by dsimp only; omega, by dsimp only; omega⟩, below_setRow hB hlt _⟩
      · have hl := HLE.out wx hB (wrap64 (w % (cw + 1) - w / 250))
        have c6 : ∀ N, (wx.drewN N).cell? ⟨W.heap.size + 1 + 1 + 1, 6, none⟩ = some (.int .i64 (s % 6)) := fun N => rX.cell 6
        have c7 : ∀ N u, ((wx.drewN N).setCell ⟨W.heap.size + 1 + 1 + 1, 6, none⟩ u).cell? ⟨W.heap.size + 1 + 1 + 1, 7, none⟩ = some (.int .i64 (g % 4)) := fun N u => (RowAt.setc (w := wx.drewN N) rX 6 u).cell 7
        have f6 : ∀ N, (wx.drewN N).frozen? ⟨W.heap.size + 1 + 1 + 1, 6, none⟩ = false := fun N => RowAt.frozen (w := wx.drewN N) rX 6
        have f7 : ∀ N u, ((wx.drewN N).setCell ⟨W.heap.size + 1 + 1 + 1, 6, none⟩ u).frozen? ⟨W.heap.size + 1 + 1 + 1, 7, none⟩ = false := fun N u => (RowAt.setc (w := wx.drewN N) rX 6 u).frozen 7
        go_wp2_with fail
        refine hl.mono ?_
        rintro e w2 ⟨la, lb, rfl, N, rfl⟩
        have rX2 := (((RowAt.setc (w := wx.drewN N) rX 6 (.int .i64 la)).setc 7 (.int .i64 lb)))
        have rR2 : RowAt (((wx.drewN N).setCell ⟨W.heap.size + 1 + 1 + 1, 6, none⟩ (.int .i64 la)).setCell ⟨W.heap.size + 1 + 1 + 1, 7, none⟩ (.int .i64 lb)) (W.heap.size + 1 + 1) _ _ := (heap_setCell_other _ _ _ _ (by simp)).trans ((heap_setCell_other _ _ _ _ (by simp)).trans rR)
        have hB2 := ((bdrewN hB N).setCell (p := ⟨W.heap.size + 1 + 1 + 1, 6, none⟩) (by simp <;> omega) (.int .i64 la)).setCell (p := ⟨W.heap.size + 1 + 1 + 1, 7, none⟩) (by simp <;> omega) (.int .i64 lb)
        simp only [List.setIfInBounds_toArray, List.set_cons_succ, List.set_cons_zero] at rX2
        go_upto_region 21 with (fail)
        refine wp_region_lit ?_
        refine RowL.wpList_load_row rfl 54 (.tmp 8) rfl (W.heap.size + 1 + 1 + 1) 54 #[.int .i64 2, .int .i64 (wrap64 (w % (cw + 1) - w / 250)), .int .i64 (o % 9), .int .i64 n, .bool (n % 2 == 1), .bool (n % 5 == 0), .int .i64 la, .int .i64 lb, .int .i64 (n % 4), .int .i64 (n % 16), .bool (decide (0 < n % 3))] _ (by go_simp; try rfl) rX2 (Tryz.underlying54) rfl (by kernel_rfl) ?_
        refine RowL.wpList_store_row rfl 54 (.tmp 6) (.tmp 119) rfl (W.heap.size + 1 + 1) _ #[.int .i64 0, .int .i64 0, .int .i64 0, .int .i64 0, .bool false, .bool false, .int .i64 0, .int .i64 0, .int .i64 0, .int .i64 0, .bool false] #[.int .i64 2, .int .i64 (wrap64 (w % (cw + 1) - w / 250)), .int .i64 (o % 9), .int .i64 n, .bool (n % 2 == 1), .bool (n % 5 == 0), .int .i64 la, .int .i64 lb, .int .i64 (n % 4), .int .i64 (n % 16), .bool (decide (0 < n % 3))] (by go_simp; try rfl) (by go_simp; try rfl) rR2 rfl (by kernel_rfl) (by simp [Value.oneCell']) ?_
        go_wp2_with fail
        refine bodyPost_ret (results_row rfl _ _ (W.heap.size + 1 + 1) _ _ _ rfl (rR2.set _) (Tryz.underlying54) rfl (by kernel_rfl)) rfl ?_
        exact ⟨⟨2, (wrap64 (w % (cw + 1) - w / 250)), ⟨(o % 9), n, n % 2 == 1, n % 5 == 0, la, lb, n % 4⟩, n % 16, decide (0 < n % 3)⟩, rfl, ⟨⟨by dsimp only; omega, by dsimp only; omega⟩, by dsimp only; omega, by dsimp only; omega⟩, below_setRow hB2 hlt _⟩
    · go_upto_if 106 with (fail)
      have rX : RowAt ((((((W.alloc (.cells #[.int .u8 k, .int .u8 w, .int .u8 o, .int .u8 s, .int .u8 g, .int .u8 n] 57)).alloc (.cells #[.int .i64 cw, .int .i64 cs, .int .i64 cst, .int .i64 cwa, .int .i64 cu] 23)).alloc (.cells #[.int .i64 0, .int .i64 0, .int .i64 0, .int .i64 0, .bool false, .bool false, .int .i64 0, .int .i64 0, .int .i64 0, .int .i64 0, .bool false] 54)).drewN nq).alloc (.cells #[.int .i64 2, .int .i64 (wrap64 (w % (cw + 1) - w / 250)), .int .i64 z, .int .i64 n, .bool (n % 2 == 1), .bool (n % 5 == 0), .int .i64 (s % 6), .int .i64 (g % 4), .int .i64 (n % 4), .int .i64 (n % 16), .bool (decide (0 < n % 3))] 54)).alloc (.cells #[.int .i64 0, .int .i64 0, .int .i64 1, .int .i64 1, .int .i64 3] 3)) (W.heap.size + 1 + 1 + 1) #[.int .i64 2, .int .i64 (wrap64 (w % (cw + 1) - w / 250)), .int .i64 z, .int .i64 n, .bool (n % 2 == 1), .bool (n % 5 == 0), .int .i64 (s % 6), .int .i64 (g % 4), .int .i64 (n % 4), .int .i64 (n % 16), .bool (decide (0 < n % 3))] 54 := (heap_old_at _ _ (by simp)).trans (heap_new_at _ _ (by simp))
      have rR : RowAt ((((((W.alloc (.cells #[.int .u8 k, .int .u8 w, .int .u8 o, .int .u8 s, .int .u8 g, .int .u8 n] 57)).alloc (.cells #[.int .i64 cw, .int .i64 cs, .int .i64 cst, .int .i64 cwa, .int .i64 cu] 23)).alloc (.cells #[.int .i64 0, .int .i64 0, .int .i64 0, .int .i64 0, .bool false, .bool false, .int .i64 0, .int .i64 0, .int .i64 0, .int .i64 0, .bool false] 54)).drewN nq).alloc (.cells #[.int .i64 2, .int .i64 (wrap64 (w % (cw + 1) - w / 250)), .int .i64 z, .int .i64 n, .bool (n % 2 == 1), .bool (n % 5 == 0), .int .i64 (s % 6), .int .i64 (g % 4), .int .i64 (n % 4), .int .i64 (n % 16), .bool (decide (0 < n % 3))] 54)).alloc (.cells #[.int .i64 0, .int .i64 0, .int .i64 1, .int .i64 1, .int .i64 3] 3)) (W.heap.size + 1 + 1) #[.int .i64 0, .int .i64 0, .int .i64 0, .int .i64 0, .bool false, .bool false, .int .i64 0, .int .i64 0, .int .i64 0, .int .i64 0, .bool false] 54 := (heap_old_at _ _ (by simp <;> omega)).trans ((heap_old_at _ _ (by simp)).trans (heap_new_at _ _ (by simp)))
      have hB : Below W.heap.size W ((((((W.alloc (.cells #[.int .u8 k, .int .u8 w, .int .u8 o, .int .u8 s, .int .u8 g, .int .u8 n] 57)).alloc (.cells #[.int .i64 cw, .int .i64 cs, .int .i64 cst, .int .i64 cwa, .int .i64 cu] 23)).alloc (.cells #[.int .i64 0, .int .i64 0, .int .i64 0, .int .i64 0, .bool false, .bool false, .int .i64 0, .int .i64 0, .int .i64 0, .int .i64 0, .bool false] 54)).drewN nq).alloc (.cells #[.int .i64 2, .int .i64 (wrap64 (w % (cw + 1) - w / 250)), .int .i64 z, .int .i64 n, .bool (n % 2 == 1), .bool (n % 5 == 0), .int .i64 (s % 6), .int .i64 (g % 4), .int .i64 (n % 4), .int .i64 (n % 16), .bool (decide (0 < n % 3))] 54)).alloc (.cells #[.int .i64 0, .int .i64 0, .int .i64 1, .int .i64 1, .int .i64 3] 3)) := ((bdrewN ((((Below.refl _ _).alloc (Nat.le_refl _) _).alloc (by simp) _).alloc (by simp <;> omega) _) nq).alloc (by simp <;> omega) _).alloc (by simp <;> omega) _
      generalize ((((((W.alloc (.cells #[.int .u8 k, .int .u8 w, .int .u8 o, .int .u8 s, .int .u8 g, .int .u8 n] 57)).alloc (.cells #[.int .i64 cw, .int .i64 cs, .int .i64 cst, .int .i64 cwa, .int .i64 cu] 23)).alloc (.cells #[.int .i64 0, .int .i64 0, .int .i64 0, .int .i64 0, .bool false, .bool false, .int .i64 0, .int .i64 0, .int .i64 0, .int .i64 0, .bool false] 54)).drewN nq).alloc (.cells #[.int .i64 2, .int .i64 (wrap64 (w % (cw + 1) - w / 250)), .int .i64 z, .int .i64 n, .bool (n % 2 == 1), .bool (n % 5 == 0), .int .i64 (s % 6), .int .i64 (g % 4), .int .i64 (n % 4), .int .i64 (n % 16), .bool (decide (0 < n % 3))] 54)).alloc (.cells #[.int .i64 0, .int .i64 0, .int .i64 1, .int .i64 1, .int .i64 3] 3)) = wx at rX rR hB ⊢
      have hlt : W.heap.size ≤ W.heap.size + 1 + 1 := by omega
      rcases hss with hss | hss
      · skip
        go_upto_region 21 with (fail)
        refine wp_region_lit ?_
        refine RowL.wpList_load_row rfl 54 (.tmp 8) rfl (W.heap.size + 1 + 1 + 1) 54 #[.int .i64 2, .int .i64 (wrap64 (w % (cw + 1) - w / 250)), .int .i64 z, .int .i64 n, .bool (n % 2 == 1), .bool (n % 5 == 0), .int .i64 (s % 6), .int .i64 (g % 4), .int .i64 (n % 4), .int .i64 (n % 16), .bool (decide (0 < n % 3))] _ (by go_simp; try rfl) rX (Tryz.underlying54) rfl (by kernel_rfl) ?_
        refine RowL.wpList_store_row rfl 54 (.tmp 6) (.tmp 119) rfl (W.heap.size + 1 + 1) _ #[.int .i64 0, .int .i64 0, .int .i64 0, .int .i64 0, .bool false, .bool false, .int .i64 0, .int .i64 0, .int .i64 0, .int .i64 0, .bool false] #[.int .i64 2, .int .i64 (wrap64 (w % (cw + 1) - w / 250)), .int .i64 z, .int .i64 n, .bool (n % 2 == 1), .bool (n % 5 == 0), .int .i64 (s % 6), .int .i64 (g % 4), .int .i64 (n % 4), .int .i64 (n % 16), .bool (decide (0 < n % 3))] (by go_simp; try rfl) (by go_simp; try rfl) rR rfl (by kernel_rfl) (by simp [Value.oneCell']) ?_
        go_wp2_with fail
        refine bodyPost_ret (results_row rfl _ _ (W.heap.size + 1 + 1) _ _ _ rfl (rR.set _) (Tryz.underlying54) rfl (by kernel_rfl)) rfl ?_
        exact ⟨⟨2, (wrap64 (w % (cw + 1) - w / 250)), ⟨z, n, n % 2 == 1, n % 5 == 0, s % 6, g % 4, n % 4⟩, n % 16, decide (0 < n % 3)⟩, rfl, ⟨⟨by dsimp only; omega, by dsimp only; omega⟩, by dsimp only; omega, by dsimp only; omega⟩, below_setRow hB hlt _⟩
      · have hl := HLE.out wx hB (wrap64 (w % (cw + 1) - w / 250))
        have c6 : ∀ N, (wx.drewN N).cell? ⟨W.heap.size + 1 + 1 + 1, 6, none⟩ = some (.int .i64 (s % 6)) := fun N => rX.cell 6
        have c7 : ∀ N u, ((wx.drewN N).setCell ⟨W.heap.size + 1 + 1 + 1, 6, none⟩ u).cell? ⟨W.heap.size + 1 + 1 + 1, 7, none⟩ = some (.int .i64 (g % 4)) := fun N u => (RowAt.setc (w := wx.drewN N) rX 6 u).cell 7
        have f6 : ∀ N, (wx.drewN N).frozen? ⟨W.heap.size + 1 + 1 + 1, 6, none⟩ = false := fun N => RowAt.frozen (w := wx.drewN N) rX 6
        have f7 : ∀ N u, ((wx.drewN N).setCell ⟨W.heap.size + 1 + 1 + 1, 6, none⟩ u).frozen? ⟨W.heap.size + 1 + 1 + 1, 7, none⟩ = false := fun N u => (RowAt.setc (w := wx.drewN N) rX 6 u).frozen 7
        go_wp2_with fail
        refine hl.mono ?_
        rintro e w2 ⟨la, lb, rfl, N, rfl⟩
        have rX2 := (((RowAt.setc (w := wx.drewN N) rX 6 (.int .i64 la)).setc 7 (.int .i64 lb)))
        have rR2 : RowAt (((wx.drewN N).setCell ⟨W.heap.size + 1 + 1 + 1, 6, none⟩ (.int .i64 la)).setCell ⟨W.heap.size + 1 + 1 + 1, 7, none⟩ (.int .i64 lb)) (W.heap.size + 1 + 1) _ _ := (heap_setCell_other _ _ _ _ (by simp)).trans ((heap_setCell_other _ _ _ _ (by simp)).trans rR)
        have hB2 := ((bdrewN hB N).setCell (p := ⟨W.heap.size + 1 + 1 + 1, 6, none⟩) (by simp <;> omega) (.int .i64 la)).setCell (p := ⟨W.heap.size + 1 + 1 + 1, 7, none⟩) (by simp <;> omega) (.int .i64 lb)
        simp only [List.setIfInBounds_toArray, List.set_cons_succ, List.set_cons_zero] at rX2
        go_upto_region 21 with (fail)
        refine wp_region_lit ?_
        refine RowL.wpList_load_row rfl 54 (.tmp 8) rfl (W.heap.size + 1 + 1 + 1) 54 #[.int .i64 2, .int .i64 (wrap64 (w % (cw + 1) - w / 250)), .int .i64 z, .int .i64 n, .bool (n % 2 == 1), .bool (n % 5 == 0), .int .i64 la, .int .i64 lb, .int .i64 (n % 4), .int .i64 (n % 16), .bool (decide (0 < n % 3))] _ (by go_simp; try rfl) rX2 (Tryz.underlying54) rfl (by kernel_rfl) ?_
        refine RowL.wpList_store_row rfl 54 (.tmp 6) (.tmp 119) rfl (W.heap.size + 1 + 1) _ #[.int .i64 0, .int .i64 0, .int .i64 0, .int .i64 0, .bool false, .bool false, .int .i64 0, .int .i64 0, .int .i64 0, .int .i64 0, .bool false] #[.int .i64 2, .int .i64 (wrap64 (w % (cw + 1) - w / 250)), .int .i64 z, .int .i64 n, .bool (n % 2 == 1), .bool (n % 5 == 0), .int .i64 la, .int .i64 lb, .int .i64 (n % 4), .int .i64 (n % 16), .bool (decide (0 < n % 3))] (by go_simp; try rfl) (by go_simp; try rfl) rR2 rfl (by kernel_rfl) (by simp [Value.oneCell']) ?_
        go_wp2_with fail
        refine bodyPost_ret (results_row rfl _ _ (W.heap.size + 1 + 1) _ _ _ rfl (rR2.set _) (Tryz.underlying54) rfl (by kernel_rfl)) rfl ?_
        exact ⟨⟨2, (wrap64 (w % (cw + 1) - w / 250)), ⟨z, n, n % 2 == 1, n % 5 == 0, la, lb, n % 4⟩, n % 16, decide (0 < n % 3)⟩, rfl, ⟨⟨by dsimp only; omega, by dsimp only; omega⟩, by dsimp only; omega, by dsimp only; omega⟩, below_setRow hB2 hlt _⟩
  · have ht0 := ht
    rcases hoo with hoo | hoo
    · go_upto_if 106 with (fail)
      have rX : RowAt (((((W.alloc (.cells #[.int .u8 k, .int .u8 w, .int .u8 o, .int .u8 s, .int .u8 g, .int .u8 n] 57)).alloc (.cells #[.int .i64 cw, .int .i64 cs, .int .i64 cst, .int .i64 cwa, .int .i64 cu] 23)).alloc (.cells #[.int .i64 0, .int .i64 0, .int .i64 0, .int .i64 0, .bool false, .bool false, .int .i64 0, .int .i64 0, .int .i64 0, .int .i64 0, .bool false] 54)).drewN nq).alloc (.cells #[.int .i64 3, .int .i64 (wrap64 (w % (cw + 1) - w / 250)), .int .i64 (o % 9), .int .i64 n, .bool (n % 2 == 1), .bool (n % 5 == 0), .int .i64 (s % 6), .int .i64 (g % 4), .int .i64 (n % 4), .int .i64 (n % 16), .bool (decide (0 < n % 3))] 54)) (W.heap.size + 1 + 1 + 1) #[.int .i64 3, .int .i64 (wrap64 (w % (cw + 1) - w / 250)), .int .i64 (o % 9), .int .i64 n, .bool (n % 2 == 1), .bool (n % 5 == 0), .int .i64 (s % 6), .int .i64 (g % 4), .int .i64 (n % 4), .int .i64 (n % 16), .bool (decide (0 < n % 3))] 54 := heap_new_at _ _ (by simp)
      have rR : RowAt (((((W.alloc (.cells #[.int .u8 k, .int .u8 w, .int .u8 o, .int .u8 s, .int .u8 g, .int .u8 n] 57)).alloc (.cells #[.int .i64 cw, .int .i64 cs, .int .i64 cst, .int .i64 cwa, .int .i64 cu] 23)).alloc (.cells #[.int .i64 0, .int .i64 0, .int .i64 0, .int .i64 0, .bool false, .bool false, .int .i64 0, .int .i64 0, .int .i64 0, .int .i64 0, .bool false] 54)).drewN nq).alloc (.cells #[.int .i64 3, .int .i64 (wrap64 (w % (cw + 1) - w / 250)), .int .i64 (o % 9), .int .i64 n, .bool (n % 2 == 1), .bool (n % 5 == 0), .int .i64 (s % 6), .int .i64 (g % 4), .int .i64 (n % 4), .int .i64 (n % 16), .bool (decide (0 < n % 3))] 54)) (W.heap.size + 1 + 1) #[.int .i64 0, .int .i64 0, .int .i64 0, .int .i64 0, .bool false, .bool false, .int .i64 0, .int .i64 0, .int .i64 0, .int .i64 0, .bool false] 54 := (heap_old_at _ _ (by simp)).trans (heap_new_at _ _ (by simp))
      have hB : Below W.heap.size W (((((W.alloc (.cells #[.int .u8 k, .int .u8 w, .int .u8 o, .int .u8 s, .int .u8 g, .int .u8 n] 57)).alloc (.cells #[.int .i64 cw, .int .i64 cs, .int .i64 cst, .int .i64 cwa, .int .i64 cu] 23)).alloc (.cells #[.int .i64 0, .int .i64 0, .int .i64 0, .int .i64 0, .bool false, .bool false, .int .i64 0, .int .i64 0, .int .i64 0, .int .i64 0, .bool false] 54)).drewN nq).alloc (.cells #[.int .i64 3, .int .i64 (wrap64 (w % (cw + 1) - w / 250)), .int .i64 (o % 9), .int .i64 n, .bool (n % 2 == 1), .bool (n % 5 == 0), .int .i64 (s % 6), .int .i64 (g % 4), .int .i64 (n % 4), .int .i64 (n % 16), .bool (decide (0 < n % 3))] 54)) := (bdrewN ((((Below.refl _ _).alloc (Nat.le_refl _) _).alloc (by simp) _).alloc (by simp <;> omega) _) nq).alloc (by simp <;> omega) _
      generalize (((((W.alloc (.cells #[.int .u8 k, .int .u8 w, .int .u8 o, .int .u8 s, .int .u8 g, .int .u8 n] 57)).alloc (.cells #[.int .i64 cw, .int .i64 cs, .int .i64 cst, .int .i64 cwa, .int .i64 cu] 23)).alloc (.cells #[.int .i64 0, .int .i64 0, .int .i64 0, .int .i64 0, .bool false, .bool false, .int .i64 0, .int .i64 0, .int .i64 0, .int .i64 0, .bool false] 54)).drewN nq).alloc (.cells #[.int .i64 3, .int .i64 (wrap64 (w % (cw + 1) - w / 250)), .int .i64 (o % 9), .int .i64 n, .bool (n % 2 == 1), .bool (n % 5 == 0), .int .i64 (s % 6), .int .i64 (g % 4), .int .i64 (n % 4), .int .i64 (n % 16), .bool (decide (0 < n % 3))] 54)) = wx at rX rR hB ⊢
      have hlt : W.heap.size ≤ W.heap.size + 1 + 1 := by omega
      rcases hss with hss | hss
      · skip
        go_upto_region 21 with (fail)
        refine wp_region_lit ?_
        refine RowL.wpList_load_row rfl 54 (.tmp 8) rfl (W.heap.size + 1 + 1 + 1) 54 #[.int .i64 3, .int .i64 (wrap64 (w % (cw + 1) - w / 250)), .int .i64 (o % 9), .int .i64 n, .bool (n % 2 == 1), .bool (n % 5 == 0), .int .i64 (s % 6), .int .i64 (g % 4), .int .i64 (n % 4), .int .i64 (n % 16), .bool (decide (0 < n % 3))] _ (by go_simp; try rfl) rX (Tryz.underlying54) rfl (by kernel_rfl) ?_
        refine RowL.wpList_store_row rfl 54 (.tmp 6) (.tmp 119) rfl (W.heap.size + 1 + 1) _ #[.int .i64 0, .int .i64 0, .int .i64 0, .int .i64 0, .bool false, .bool false, .int .i64 0, .int .i64 0, .int .i64 0, .int .i64 0, .bool false] #[.int .i64 3, .int .i64 (wrap64 (w % (cw + 1) - w / 250)), .int .i64 (o % 9), .int .i64 n, .bool (n % 2 == 1), .bool (n % 5 == 0), .int .i64 (s % 6), .int .i64 (g % 4), .int .i64 (n % 4), .int .i64 (n % 16), .bool (decide (0 < n % 3))] (by go_simp; try rfl) (by go_simp; try rfl) rR rfl (by kernel_rfl) (by simp [Value.oneCell']) ?_
        go_wp2_with fail
        refine bodyPost_ret (results_row rfl _ _ (W.heap.size + 1 + 1) _ _ _ rfl (rR.set _) (Tryz.underlying54) rfl (by kernel_rfl)) rfl ?_
        exact ⟨⟨3, (wrap64 (w % (cw + 1) - w / 250)), ⟨(o % 9), n, n % 2 == 1, n % 5 == 0, s % 6, g % 4, n % 4⟩, n % 16, decide (0 < n % 3)⟩, rfl, ⟨⟨by dsimp only; omega, by dsimp only; omega⟩, by dsimp only; omega, by dsimp only; omega⟩, below_setRow hB hlt _⟩
      · have hl := HLE.out wx hB (wrap64 (w % (cw + 1) - w / 250))
        have c6 : ∀ N, (wx.drewN N).cell? ⟨W.heap.size + 1 + 1 + 1, 6, none⟩ = some (.int .i64 (s % 6)) := fun N => rX.cell 6
        have c7 : ∀ N u, ((wx.drewN N).setCell ⟨W.heap.size + 1 + 1 + 1, 6, none⟩ u).cell? ⟨W.heap.size + 1 + 1 + 1, 7, none⟩ = some (.int .i64 (g % 4)) := fun N u => (RowAt.setc (w := wx.drewN N) rX 6 u).cell 7
        have f6 : ∀ N, (wx.drewN N).frozen? ⟨W.heap.size + 1 + 1 + 1, 6, none⟩ = false := fun N => RowAt.frozen (w := wx.drewN N) rX 6
        have f7 : ∀ N u, ((wx.drewN N).setCell ⟨W.heap.size + 1 + 1 + 1, 6, none⟩ u).frozen? ⟨W.heap.size + 1 + 1 + 1, 7, none⟩ = false := fun N u => (RowAt.setc (w := wx.drewN N) rX 6 u).frozen 7
        go_wp2_with fail
        refine hl.mono ?_
        rintro e w2 ⟨la, lb, rfl, N, rfl⟩
        have rX2 := (((RowAt.setc (w := wx.drewN N) rX 6 (.int .i64 la)).setc 7 (.int .i64 lb)))
        have rR2 : RowAt (((wx.drewN N).setCell ⟨W.heap.size + 1 + 1 + 1, 6, none⟩ (.int .i64 la)).setCell ⟨W.heap.size + 1 + 1 + 1, 7, none⟩ (.int .i64 lb)) (W.heap.size + 1 + 1) _ _ := (heap_setCell_other _ _ _ _ (by simp)).trans ((heap_setCell_other _ _ _ _ (by simp)).trans rR)
        have hB2 := ((bdrewN hB N).setCell (p := ⟨W.heap.size + 1 + 1 + 1, 6, none⟩) (by simp <;> omega) (.int .i64 la)).setCell (p := ⟨W.heap.size + 1 + 1 + 1, 7, none⟩) (by simp <;> omega) (.int .i64 lb)
        simp only [List.setIfInBounds_toArray, List.set_cons_succ, List.set_cons_zero] at rX2
        go_upto_region 21 with (fail)
        refine wp_region_lit ?_
        refine RowL.wpList_load_row rfl 54 (.tmp 8) rfl (W.heap.size + 1 + 1 + 1) 54 #[.int .i64 3, .int .i64 (wrap64 (w % (cw + 1) - w / 250)), .int .i64 (o % 9), .int .i64 n, .bool (n % 2 == 1), .bool (n % 5 == 0), .int .i64 la, .int .i64 lb, .int .i64 (n % 4), .int .i64 (n % 16), .bool (decide (0 < n % 3))] _ (by go_simp; try rfl) rX2 (Tryz.underlying54) rfl (by kernel_rfl) ?_
        refine RowL.wpList_store_row rfl 54 (.tmp 6) (.tmp 119) rfl (W.heap.size + 1 + 1) _ #[.int .i64 0, .int .i64 0, .int .i64 0, .int .i64 0, .bool false, .bool false, .int .i64 0, .int .i64 0, .int .i64 0, .int .i64 0, .bool false] #[.int .i64 3, .int .i64 (wrap64 (w % (cw + 1) - w / 250)), .int .i64 (o % 9), .int .i64 n, .bool (n % 2 == 1), .bool (n % 5 == 0), .int .i64 la, .int .i64 lb, .int .i64 (n % 4), .int .i64 (n % 16), .bool (decide (0 < n % 3))] (by go_simp; try rfl) (by go_simp; try rfl) rR2 rfl (by kernel_rfl) (by simp [Value.oneCell']) ?_
        go_wp2_with fail
        refine bodyPost_ret (results_row rfl _ _ (W.heap.size + 1 + 1) _ _ _ rfl (rR2.set _) (Tryz.underlying54) rfl (by kernel_rfl)) rfl ?_
        exact ⟨⟨3, (wrap64 (w % (cw + 1) - w / 250)), ⟨(o % 9), n, n % 2 == 1, n % 5 == 0, la, lb, n % 4⟩, n % 16, decide (0 < n % 3)⟩, rfl, ⟨⟨by dsimp only; omega, by dsimp only; omega⟩, by dsimp only; omega, by dsimp only; omega⟩, below_setRow hB2 hlt _⟩
    · go_upto_if 106 with (fail)
      have rX : RowAt ((((((W.alloc (.cells #[.int .u8 k, .int .u8 w, .int .u8 o, .int .u8 s, .int .u8 g, .int .u8 n] 57)).alloc (.cells #[.int .i64 cw, .int .i64 cs, .int .i64 cst, .int .i64 cwa, .int .i64 cu] 23)).alloc (.cells #[.int .i64 0, .int .i64 0, .int .i64 0, .int .i64 0, .bool false, .bool false, .int .i64 0, .int .i64 0, .int .i64 0, .int .i64 0, .bool false] 54)).drewN nq).alloc (.cells #[.int .i64 3, .int .i64 (wrap64 (w % (cw + 1) - w / 250)), .int .i64 z, .int .i64 n, .bool (n % 2 == 1), .bool (n % 5 == 0), .int .i64 (s % 6), .int .i64 (g % 4), .int .i64 (n % 4), .int .i64 (n % 16), .bool (decide (0 < n % 3))] 54)).alloc (.cells #[.int .i64 0, .int .i64 0, .int .i64 1, .int .i64 1, .int .i64 3] 3)) (W.heap.size + 1 + 1 + 1) #[.int .i64 3, .int .i64 (wrap64 (w % (cw + 1) - w / 250)), .int .i64 z, .int .i64 n, .bool (n % 2 == 1), .bool (n % 5 == 0), .int .i64 (s % 6), .int .i64 (g % 4), .int .i64 (n % 4), .int .i64 (n % 16), .bool (decide (0 < n % 3))] 54 := (heap_old_at _ _ (by simp)).trans (heap_new_at _ _ (by simp))
      have rR : RowAt ((((((W.alloc (.cells #[.int .u8 k, .int .u8 w, .int .u8 o, .int .u8 s, .int .u8 g, .int .u8 n] 57)).alloc (.cells #[.int .i64 cw, .int .i64 cs, .int .i64 cst, .int .i64 cwa, .int .i64 cu] 23)).alloc (.cells #[.int .i64 0, .int .i64 0, .int .i64 0, .int .i64 0, .bool false, .bool false, .int .i64 0, .int .i64 0, .int .i64 0, .int .i64 0, .bool false] 54)).drewN nq).alloc (.cells #[.int .i64 3, .int .i64 (wrap64 (w % (cw + 1) - w / 250)), .int .i64 z, .int .i64 n, .bool (n % 2 == 1), .bool (n % 5 == 0), .int .i64 (s % 6), .int .i64 (g % 4), .int .i64 (n % 4), .int .i64 (n % 16), .bool (decide (0 < n % 3))] 54)).alloc (.cells #[.int .i64 0, .int .i64 0, .int .i64 1, .int .i64 1, .int .i64 3] 3)) (W.heap.size + 1 + 1) #[.int .i64 0, .int .i64 0, .int .i64 0, .int .i64 0, .bool false, .bool false, .int .i64 0, .int .i64 0, .int .i64 0, .int .i64 0, .bool false] 54 := (heap_old_at _ _ (by simp <;> omega)).trans ((heap_old_at _ _ (by simp)).trans (heap_new_at _ _ (by simp)))
      have hB : Below W.heap.size W ((((((W.alloc (.cells #[.int .u8 k, .int .u8 w, .int .u8 o, .int .u8 s, .int .u8 g, .int .u8 n] 57)).alloc (.cells #[.int .i64 cw, .int .i64 cs, .int .i64 cst, .int .i64 cwa, .int .i64 cu] 23)).alloc (.cells #[.int .i64 0, .int .i64 0, .int .i64 0, .int .i64 0, .bool false, .bool false, .int .i64 0, .int .i64 0, .int .i64 0, .int .i64 0, .bool false] 54)).drewN nq).alloc (.cells #[.int .i64 3, .int .i64 (wrap64 (w % (cw + 1) - w / 250)), .int .i64 z, .int .i64 n, .bool (n % 2 == 1), .bool (n % 5 == 0), .int .i64 (s % 6), .int .i64 (g % 4), .int .i64 (n % 4), .int .i64 (n % 16), .bool (decide (0 < n % 3))] 54)).alloc (.cells #[.int .i64 0, .int .i64 0, .int .i64 1, .int .i64 1, .int .i64 3] 3)) := ((bdrewN ((((Below.refl _ _).alloc (Nat.le_refl _) _).alloc (by simp) _).alloc (by simp <;> omega) _) nq).alloc (by simp <;> omega) _).alloc (by simp <;> omega) _
      generalize ((((((W.alloc (.cells #[.int .u8 k, .int .u8 w, .int .u8 o, .int .u8 s, .int .u8 g, .int .u8 n] 57)).alloc (.cells #[.int .i64 cw, .int .i64 cs, .int .i64 cst, .int .i64 cwa, .int .i64 cu] 23)).alloc (.cells #[.int .i64 0, .int .i64 0, .int .i64 0, .int .i64 0, .bool false, .bool false, .int .i64 0, .int .i64 0, .int .i64 0, .int .i64 0, .bool false] 54)).drewN nq).alloc (.cells #[.int .i64 3, .int .i64 (wrap64 (w % (cw + 1) - w / 250)), .int .i64 z, .int .i64 n, .bool (n % 2 == 1), .bool (n % 5 == 0), .int .i64 (s % 6), .int .i64 (g % 4), .int .i64 (n % 4), .int .i64 (n % 16), .bool (decide (0 < n % 3))] 54)).alloc (.cells #[.int .i64 0, .int .i64 0, .int .i64 1, .int .i64 1, .int .i64 3] 3)) = wx at rX rR hB ⊢
      have hlt : W.heap.size ≤ W.heap.size + 1 + 1 := by omega
      rcases hss with hss | hss
      · skip
        go_upto_region 21 with (fail)
        refine wp_region_lit ?_
        refine RowL.wpList_load_row rfl 54 (.tmp 8) rfl (W.heap.size + 1 + 1 + 1) 54 #[.int .i64 3, .int .i64 (wrap64 (w % (cw + 1) - w / 250)), .int .i64 z, .int .i64 n, .bool (n % 2 == 1), .bool (n % 5 == 0), .int .i64 (s % 6), .int .i64 (g % 4), .int .i64 (n % 4), .int .i64 (n % 16), .bool (decide (0 < n % 3))] _ (by go_simp; try rfl) rX (Tryz.underlying54) rfl (by kernel_rfl) ?_
        refine RowL.wpList_store_row rfl 54 (.tmp 6) (.tmp 119) rfl (W.heap.size + 1 + 1) _ #[.int .i64 0, .int .i64 0, .int .i64 0, .int .i64 0, .bool false, .bool false, .int .i64 0, .int .i64 0, .int .i64 0, .int .i64 0, .bool false] #[.int .i64 3, .int .i64 (wrap64 (w % (cw + 1) - w / 250)), .int .i64 z, .int .i64 n, .bool (n % 2 == 1), .bool (n % 5 == 0), .int .i64 (s % 6), .int .i64 (g % 4), .int .i64 (n % 4), .int .i64 (n % 16), .bool (decide (0 < n % 3))] (by go_simp; try rfl) (by go_simp; try rfl) rR rfl (by kernel_rfl) (by simp [Value.oneCell']) ?_
        go_wp2_with fail
        refine bodyPost_ret (results_row rfl _ _ (W.heap.size + 1 + 1) _ _ _ rfl (rR.set _) (Tryz.underlying54) rfl (by kernel_rfl)) rfl ?_
        exact ⟨⟨3, (wrap64 (w % (cw + 1) - w / 250)), ⟨z, n, n % 2 == 1, n % 5 == 0, s % 6, g % 4, n % 4⟩, n % 16, decide (0 < n % 3)⟩, rfl, ⟨⟨by dsimp only; omega, by dsimp only; omega⟩, by dsimp only; omega, by dsimp only; omega⟩, below_setRow hB hlt _⟩
      · have hl := HLE.out wx hB (wrap64 (w % (cw + 1) - w / 250))
        have c6 : ∀ N, (wx.drewN N).cell? ⟨W.heap.size + 1 + 1 + 1, 6, none⟩ = some (.int .i64 (s % 6)) := fun N => rX.cell 6
        have c7 : ∀ N u, ((wx.drewN N).setCell ⟨W.heap.size + 1 + 1 + 1, 6, none⟩ u).cell? ⟨W.heap.size + 1 + 1 + 1, 7, none⟩ = some (.int .i64 (g % 4)) := fun N u => (RowAt.setc (w := wx.drewN N) rX 6 u).cell 7
        have f6 : ∀ N, (wx.drewN N).frozen? ⟨W.heap.size + 1 + 1 + 1, 6, none⟩ = false := fun N => RowAt.frozen (w := wx.drewN N) rX 6
        have f7 : ∀ N u, ((wx.drewN N).setCell ⟨W.heap.size + 1 + 1 + 1, 6, none⟩ u).frozen? ⟨W.heap.size + 1 + 1 + 1, 7, none⟩ = false := fun N u => (RowAt.setc (w := wx.drewN N) rX 6 u).frozen 7
        go_wp2_with fail
        refine hl.mono ?_
        rintro e w2 ⟨la, lb, rfl, N, rfl⟩
        have rX2 := (((RowAt.setc (w := wx.drewN N) rX 6 (.int .i64 la)).setc 7 (.int .i64 lb)))
        have rR2 : RowAt (((wx.drewN N).setCell ⟨W.heap.size + 1 + 1 + 1, 6, none⟩ (.int .i64 la)).setCell ⟨W.heap.size + 1 + 1 + 1, 7, none⟩ (.int .i64 lb)) (W.heap.size + 1 + 1) _ _ := (heap_setCell_other _ _ _ _ (by simp)).trans ((heap_setCell_other _ _ _ _ (by simp)).trans rR)
        have hB2 := ((bdrewN hB N).setCell (p := ⟨W.heap.size + 1 + 1 + 1, 6, none⟩) (by simp <;> omega) (.int .i64 la)).setCell (p := ⟨W.heap.size + 1 + 1 + 1, 7, none⟩) (by simp <;> omega) (.int .i64 lb)
        simp only [List.setIfInBounds_toArray, List.set_cons_succ, List.set_cons_zero] at rX2
        go_upto_region 21 with (fail)
        refine wp_region_lit ?_
        refine RowL.wpList_load_row rfl 54 (.tmp 8) rfl (W.heap.size + 1 + 1 + 1) 54 #[.int .i64 3, .int .i64 (wrap64 (w % (cw + 1) - w / 250)), .int .i64 z, .int .i64 n, .bool (n % 2 == 1), .bool (n % 5 == 0), .int .i64 la, .int .i64 lb, .int .i64 (n % 4), .int .i64 (n % 16), .bool (decide (0 < n % 3))] _ (by go_simp; try rfl) rX2 (Tryz.underlying54) rfl (by kernel_rfl) ?_
        refine RowL.wpList_store_row rfl 54 (.tmp 6) (.tmp 119) rfl (W.heap.size + 1 + 1) _ #[.int .i64 0, .int .i64 0, .int .i64 0, .int .i64 0, .bool false, .bool false, .int .i64 0, .int .i64 0, .int .i64 0, .int .i64 0, .bool false] #[.int .i64 3, .int .i64 (wrap64 (w % (cw + 1) - w / 250)), .int .i64 z, .int .i64 n, .bool (n % 2 == 1), .bool (n % 5 == 0), .int .i64 la, .int .i64 lb, .int .i64 (n % 4), .int .i64 (n % 16), .bool (decide (0 < n % 3))] (by go_simp; try rfl) (by go_simp; try rfl) rR2 rfl (by kernel_rfl) (by simp [Value.oneCell']) ?_
        go_wp2_with fail
        refine bodyPost_ret (results_row rfl _ _ (W.heap.size + 1 + 1) _ _ _ rfl (rR2.set _) (Tryz.underlying54) rfl (by kernel_rfl)) rfl ?_
        exact ⟨⟨3, (wrap64 (w % (cw + 1) - w / 250)), ⟨z, n, n % 2 == 1, n % 5 == 0, la, lb, n % 4⟩, n % 16, decide (0 < n % 3)⟩, rfl, ⟨⟨by dsimp only; omega, by dsimp only; omega⟩, by dsimp only; omega, by dsimp only; omega⟩, below_setRow hB2 hlt _⟩
  · have ht0 := ht
    rcases hoo with hoo | hoo
    · go_upto_if 106 with (fail)
      have rX : RowAt (((((W.alloc (.cells #[.int .u8 k, .int .u8 w, .int .u8 o, .int .u8 s, .int .u8 g, .int .u8 n] 57)).alloc (.cells #[.int .i64 cw, .int .i64 cs, .int .i64 cst, .int .i64 cwa, .int .i64 cu] 23)).alloc (.cells #[.int .i64 0, .int .i64 0, .int .i64 0, .int .i64 0, .bool false, .bool false, .int .i64 0, .int .i64 0, .int .i64 0, .int .i64 0, .bool false] 54)).drewN nq).alloc (.cells #[.int .i64 4, .int .i64 (wrap64 (w % (cw + 1) - w / 250)), .int .i64 (o % 9), .int .i64 n, .bool (n % 2 == 1), .bool (n % 5 == 0), .int .i64 (s % 6), .int .i64 (g % 4), .int .i64 (n % 4), .int .i64 (n % 16), .bool (decide (0 < n % 3))] 54)) (W.heap.size + 1 + 1 + 1) #[.int .i64 4, .int .i64 (wrap64 (w % (cw + 1) - w / 250)), .int .i64 (o % 9), .int .i64 n, .bool (n % 2 == 1), .bool (n % 5 == 0), .int .i64 (s % 6), .int .i64 (g % 4), .int .i64 (n % 4), .int .i64 (n % 16), .bool (decide (0 < n % 3))] 54 := heap_new_at _ _ (by simp)
      have rR : RowAt (((((W.alloc (.cells #[.int .u8 k, .int .u8 w, .int .u8 o, .int .u8 s, .int .u8 g, .int .u8 n] 57)).alloc (.cells #[.int .i64 cw, .int .i64 cs, .int .i64 cst, .int .i64 cwa, .int .i64 cu] 23)).alloc (.cells #[.int .i64 0, .int .i64 0, .int .i64 0, .int .i64 0, .bool false, .bool false, .int .i64 0, .int .i64 0, .int .i64 0, .int .i64 0, .bool false] 54)).drewN nq).alloc (.cells #[.int .i64 4, .int .i64 (wrap64 (w % (cw + 1) - w / 250)), .int .i64 (o % 9), .int .i64 n, .bool (n % 2 == 1), .bool (n % 5 == 0), .int .i64 (s % 6), .int .i64 (g % 4), .int .i64 (n % 4), .int .i64 (n % 16), .bool (decide (0 < n % 3))] 54)) (W.heap.size + 1 + 1) #[.int .i64 0, .int .i64 0, .int .i64 0, .int .i64 0, .bool false, .bool false, .int .i64 0, .int .i64 0, .int .i64 0, .int .i64 0, .bool false] 54 := (heap_old_at _ _ (by simp)).trans (heap_new_at _ _ (by simp))
      have hB : Below W.heap.size W (((((W.alloc (.cells #[.int .u8 k, .int .u8 w, .int .u8 o, .int .u8 s, .int .u8 g, .int .u8 n] 57)).alloc (.cells #[.int .i64 cw, .int .i64 cs, .int .i64 cst, .int .i64 cwa, .int .i64 cu] 23)).alloc (.cells #[.int .i64 0, .int .i64 0, .int .i64 0, .int .i64 0, .bool false, .bool false, .int .i64 0, .int .i64 0, .int .i64 0, .int .i64 0, .bool false] 54)).drewN nq).alloc (.cells #[.int .i64 4, .int .i64 (wrap64 (w % (cw + 1) - w / 250)), .int .i64 (o % 9), .int .i64 n, .bool (n % 2 == 1), .bool (n % 5 == 0), .int .i64 (s % 6), .int .i64 (g % 4), .int .i64 (n % 4), .int .i64 (n % 16), .bool (decide (0 < n % 3))] 54)) := (bdrewN ((((Below.refl _ _).alloc (Nat.le_refl _) _).alloc (by simp) _).alloc (by simp <;> omega) _) nq).alloc (by simp <;> omega) _
      generalize (((((W.alloc (.cells #[.int .u8 k, .int .u8 w, .int .u8 o, .int .u8 s, .int .u8 g, .int .u8 n] 57)).alloc (.cells #[.int .i64 cw, .int .i64 cs, .int .i64 cst, .int .i64 cwa, .int .i64 cu] 23)).alloc (.cells #[.int .i64 0, .int .i64 0, .int .i64 0, .int .i64 0, .bool false, .bool false, .int .i64 0, .int .i64 0, .int .i64 0, .int .i64 0, .bool false] 54)).drewN nq).alloc (.cells #[.int .i64 4, .int .i64 (wrap64 (w % (cw + 1) - w / 250)), .int .i64 (o % 9), .int .i64 n, .bool (n % 2 == 1), .bool (n % 5 == 0), .int .i64 (s % 6), .int .i64 (g % 4), .int .i64 (n % 4), .int .i64 (n % 16), .bool (decide (0 < n % 3))] 54)) = wx at rX rR hB ⊢
      have hlt : W.heap.size ≤ W.heap.size + 1 + 1 := by omega
      rcases hss with hss | hss
      · skip
        go_upto_region 21 with (fail)
        refine wp_region_lit ?_
        refine RowL.wpList_load_row rfl 54 (.tmp 8) rfl (W.heap.size + 1 + 1 + 1) 54 #[.int .i64 4, .int .i64 (wrap64 (w % (cw + 1) - w / 250)), .int .i64 (o % 9), .int .i64 n, .bool (n % 2 == 1), .bool (n % 5 == 0), .int .i64 (s % 6), .int .i64 (g % 4), .int .i64 (n % 4), .int .i64 (n % 16), .bool (decide (0 < n % 3))] _ (by go_simp; try rfl) rX (Tryz.underlying54) rfl (by kernel_rfl) ?_
        refine RowL.wpList_store_row rfl 54 (.tmp 6) (.tmp 119) rfl (W.heap.size + 1 + 1) _ #[.int .i64 0, .int .i64 0, .int .i64 0, .int .i64 0, .bool false, .bool false, .int .i64 0, .int .i64 0, .int .i64 0, .int .i64 0, .bool false] #[.int .i64 4, .int .i64 (wrap64 (w % (cw + 1) - w / 250)), .int .i64 (o % 9), .int .i64 n, .bool (n % 2 == 1), .bool (n % 5 == 0), .int .i64 (s % 6), .int .i64 (g % 4), .int .i64 (n % 4), .int .i64 (n % 16), .bool (decide (0 < n % 3))] (by go_simp; try rfl) (by go_simp; try rfl) rR rfl (by kernel_rfl) (by simp [Value.oneCell']) ?_
        go_wp2_with fail
        refine bodyPost_ret (results_row rfl _ _ (W.heap.size + 1 + 1) _ _ _ rfl (rR.set _) (Tryz.underlying54) rfl (by kernel_rfl)) rfl ?_
        exact ⟨⟨4, (wrap64 (w % (cw + 1) - w / 250)), ⟨(o % 9), n, n % 2 == 1, n % 5 == 0, s % 6, g % 4, n % 4⟩, n % 16, decide (0 < n % 3)⟩, rfl, ⟨⟨by dsimp only; omega, by dsimp only; omega⟩, by dsimp only; omega, by dsimp only; omega⟩, below_setRow hB hlt _⟩
      · have hl := HLE.out wx hB (wrap64 (w % (cw + 1) - w / 250))
        have c6 : ∀ N, (wx.drewN N).cell? ⟨W.heap.size + 1 + 1 + 1, 6, none⟩ = some (.int .i64 (s % 6)) := fun N => rX.cell 6
        have c7 : ∀ N u, ((wx.drewN N).setCell ⟨W.heap.size + 1 + 1 + 1, 6, none⟩ u).cell? ⟨W.heap.size + 1 + 1 + 1, 7, none⟩ = some (.int .i64 (g % 4)) := fun N u => (RowAt.setc (w := wx.drewN N) rX 6 u).cell 7
        have f6 : ∀ N, (wx.drewN N).frozen? ⟨W.heap.size + 1 + 1 + 1, 6, none⟩ = false := fun N => RowAt.frozen (w := wx.drewN N) rX 6
        have f7 : ∀ N u, ((wx.drewN N).setCell ⟨W.heap.size + 1 + 1 + 1, 6, none⟩ u).frozen? ⟨W.heap.size + 1 + 1 + 1, 7, none⟩ = false := fun N u => (RowAt.setc (w := wx.drewN N) rX 6 u).frozen 7
        go_wp2_with fail
        refine hl.mono ?_
        rintro e w2 ⟨la, lb, rfl, N, rfl⟩
        have rX2 := (((RowAt.setc (w := wx.drewN N) rX 6 (.int .i64 la)).setc 7 (.int .i64 lb)))
        have rR2 : RowAt (((wx.drewN N).setCell ⟨W.heap.size + 1 + 1 + 1, 6, none⟩ (.int .i64 la)).setCell ⟨W.heap.size + 1 + 1 + 1, 7, none⟩ (.int .i64 lb)) (W.heap.size + 1 + 1) _ _ := (heap_setCell_other _ _ _ _ (by simp)).trans ((heap_setCell_other _ _ _ _ (by simp)).trans rR)
        have hB2 := ((bdrewN hB N).setCell (p := ⟨W.heap.size + 1 + 1 + 1, 6, none⟩) (by simp <;> omega) (.int .i64 la)).setCell (p := ⟨W.heap.size + 1 + 1 + 1, 7, none⟩) (by simp <;> omega) (.int .i64 lb)
        simp only [List.setIfInBounds_toArray, List.set_cons_succ, List.set_cons_zero] at rX2
        go_upto_region 21 with (fail)
        refine wp_region_lit ?_
        refine RowL.wpList_load_row rfl 54 (.tmp 8) rfl (W.heap.size + 1 + 1 + 1) 54 #[.int .i64 4, .int .i64 (wrap64 (w % (cw + 1) - w / 250)), .int .i64 (o % 9), .int .i64 n, .bool (n % 2 == 1), .bool (n % 5 == 0), .int .i64 la, .int .i64 lb, .int .i64 (n % 4), .int .i64 (n % 16), .bool (decide (0 < n % 3))] _ (by go_simp; try rfl) rX2 (Tryz.underlying54) rfl (by kernel_rfl) ?_
        refine RowL.wpList_store_row rfl 54 (.tmp 6) (.tmp 119) rfl (W.heap.size + 1 + 1) _ #[.int .i64 0, .int .i64 0, .int .i64 0, .int .i64 0, .bool false, .bool false, .int .i64 0, .int .i64 0, .int .i64 0, .int .i64 0, .bool false] #[.int .i64 4, .int .i64 (wrap64 (w % (cw + 1) - w / 250)), .int .i64 (o % 9), .int .i64 n, .bool (n % 2 == 1), .bool (n % 5 == 0), .int .i64 la, .int .i64 lb, .int .i64 (n % 4), .int .i64 (n % 16), .bool (decide (0 < n % 3))] (by go_simp; try rfl) (by go_simp; try rfl) rR2 rfl (by kernel_rfl) (by simp [Value.oneCell']) ?_
        go_wp2_with fail
        refine bodyPost_ret (results_row rfl _ _ (W.heap.size + 1 + 1) _ _ _ rfl (rR2.set _) (Tryz.underlying54) rfl (by kernel_rfl)) rfl ?_
        exact ⟨⟨4, (wrap64 (w % (cw + 1) - w / 250)), ⟨(o % 9), n, n % 2 == 1, n % 5 == 0, la, lb, n % 4⟩, n % 16, decide (0 < n % 3)⟩, rfl, ⟨⟨by dsimp only; omega, by dsimp only; omega⟩, by dsimp only; omega, by dsimp only; omega⟩, below_setRow hB2 hlt _⟩
    · go_upto_if 106 with (fail)
      have rX : RowAt ((((((W.alloc (.cells #[.int .u8 k, .int .u8 w, .int .u8 o, .int .u8 s, .int .u8 g, .int .u8 n] 57)).alloc (.cells #[.int .i64 cw, .int .i64 cs, .int .i64 cst, .int .i64 cwa, .int .i64 cu] 23)).alloc (.cells #[.int .i64 0, .int .i64 0, .int .i64 0, .int .i64 0, .bool false, .bool false, .int .i64 0, .int .i64 0, .int .i64 0, .int .i64 0, .bool false] 54)).drewN nq).alloc (.cells #[.int .i64 4, .int .i64 (wrap64 (w % (cw + 1) - w / 250)), .int .i64 z, .int .i64 n, .bool (n % 2 == 1), .bool (n % 5 == 0), .int .i64 (s % 6), .int .i64 (g % 4), .int .i64 (n % 4), .int .i64 (n % 16), .bool (decide (0 < n % 3))] 54)).alloc (.cells #[.int .i64 0, .int .i64 0, .int .i64 1, .int .i64 1, .int .i64 3] 3)) (W.heap.size + 1 + 1 + 1) #[.int .i64 4, .int .i64 (wrap64 (w % (cw + 1) - w / 250)), .int .i64 z, .int .i64 n, .bool (n % 2 == 1), .bool (n % 5 == 0), .int .i64 (s % 6), .int .i64 (g % 4), .int .i64 (n % 4), .int .i64 (n % 16), .bool (decide (0 < n % 3))] 54 := (heap_old_at _ _ (by simp)).trans (heap_new_at _ _ (by simp))
      have rR : RowAt ((((((W.alloc (.cells #[.int .u8 k, .int .u8 w, .int .u8 o, .int .u8 s, .int .u8 g, .int .u8 n] 57)).alloc (.cells #[.int .i64 cw, .int .i64 cs, .int .i64 cst, .int .i64 cwa, .int .i64 cu] 23)).alloc (.cells #[.int .i64 0, .int .i64 0, .int .i64 0, .int .i64 0, .bool false, .bool false, .int .i64 0, .int .i64 0, .int .i64 0, .int .i64 0, .bool false] 54)).drewN nq).alloc (.cells #[.int .i64 4, .int .i64 (wrap64 (w % (cw + 1) - w / 250)), .int .i64 z, .int .i64 n, .bool (n % 2 == 1), .bool (n % 5 == 0), .int .i64 (s % 6), .int .i64 (g % 4), .int .i64 (n % 4), .int .i64 (n % 16), .bool (decide (0 < n % 3))] 54)).alloc (.cells #[.int .i64 0, .int .i64 0, .int .i64 1, .int .i64 1, .int .i64 3] 3)) (W.heap.size + 1 + 1) #[.int .i64 0, .int .i64 0, .int .i64 0, .int .i64 0, .bool false, .bool false, .int .i64 0, .int .i64 0, .int .i64 0, .int .i64 0, .bool false] 54 := (heap_old_at _ _ (by simp <;> omega)).trans ((heap_old_at _ _ (by simp)).trans (heap_new_at _ _ (by simp)))
      have hB : Below W.heap.size W ((((((W.alloc (.cells #[.int .u8 k, .int .u8 w, .int .u8 o, .int .u8 s, .int .u8 g, .int .u8 n] 57)).alloc (.cells #[.int .i64 cw, .int .i64 cs, .int .i64 cst, .int .i64 cwa, .int .i64 cu] 23)).alloc (.cells #[.int .i64 0, .int .i64 0, .int .i64 0, .int .i64 0, .bool false, .bool false, .int .i64 0, .int .i64 0, .int .i64 0, .int .i64 0, .bool false] 54)).drewN nq).alloc (.cells #[.int .i64 4, .int .i64 (wrap64 (w % (cw + 1) - w / 250)), .int .i64 z, .int .i64 n, .bool (n % 2 == 1), .bool (n % 5 == 0), .int .i64 (s % 6), .int .i64 (g % 4), .int .i64 (n % 4), .int .i64 (n % 16), .bool (decide (0 < n % 3))] 54)).alloc (.cells #[.int .i64 0, .int .i64 0, .int .i64 1, .int .i64 1, .int .i64 3] 3)) := ((bdrewN ((((Below.refl _ _).alloc (Nat.le_refl _) _).alloc (by simp) _).alloc (by simp <;> omega) _) nq).alloc (by simp <;> omega) _).alloc (by simp <;> omega) _
      generalize ((((((W.alloc (.cells #[.int .u8 k, .int .u8 w, .int .u8 o, .int .u8 s, .int .u8 g, .int .u8 n] 57)).alloc (.cells #[.int .i64 cw, .int .i64 cs, .int .i64 cst, .int .i64 cwa, .int .i64 cu] 23)).alloc (.cells #[.int .i64 0, .int .i64 0, .int .i64 0, .int .i64 0, .bool false, .bool false, .int .i64 0, .int .i64 0, .int .i64 0, .int .i64 0, .bool false] 54)).drewN nq).alloc (.cells #[.int .i64 4, .int .i64 (wrap64 (w % (cw + 1) - w / 250)), .int .i64 z, .int .i64 n, .bool (n % 2 == 1), .bool (n % 5 == 0), .int .i64 (s % 6), .int .i64 (g % 4), .int .i64 (n % 4), .int .i64 (n % 16), .bool (decide (0 < n % 3))] 54)).alloc (.cells #[.int .i64 0, .int .i64 0, .int .i64 1, .int .i64 1, .int .i64 3] 3)) = wx at rX rR hB ⊢
      have hlt : W.heap.size ≤ W.heap.size + 1 + 1 := by omega
      rcases hss with hss | hss
      · skip
        go_upto_region 21 with (fail)
        refine wp_region_lit ?_
        refine RowL.wpList_load_row rfl 54 (.tmp 8) rfl (W.heap.size + 1 + 1 + 1) 54 #[.int .i64 4, .int .i64 (wrap64 (w % (cw + 1) - w / 250)), .int .i64 z, .int .i64 n, .bool (n % 2 == 1), .bool (n % 5 == 0), .int .i64 (s % 6), .int .i64 (g % 4), .int .i64 (n % 4), .int .i64 (n % 16), .bool (decide (0 < n % 3))] _ (by go_simp; try rfl) rX (Tryz.underlying54) rfl (by kernel_rfl) ?_
        refine RowL.wpList_store_row rfl 54 (.tmp 6) (.tmp 119) rfl (W.heap.size + 1 + 1) _ #[.int .i64 0, .int .i64 0, .int .i64 0, .int .i64 0, .bool false, .bool false, .int .i64 0, .int .i64 0, .int .i64 0, .int .i64 0, .bool false] #[.int .i64 4, .int .i64 (wrap64 (w % (cw + 1) - w / 250)), .int .i64 z, .int .i64 n, .bool (n % 2 == 1), .bool (n % 5 == 0), .int .i64 (s % 6), .int .i64 (g % 4), .int .i64 (n % 4), .int .i64 (n % 16), .bool (decide (0 < n % 3))] (by go_simp; try rfl) (by go_simp; try rfl) rR rfl (by kernel_rfl) (by simp [Value.oneCell']) ?_
        go_wp2_with fail
        refine bodyPost_ret (results_row rfl _ _ (W.heap.size + 1 + 1) _ _ _ rfl (rR.set _) (Tryz.underlying54) rfl (by kernel_rfl)) rfl ?_
        exact ⟨⟨4, (wrap64 (w % (cw + 1) - w / 250)), ⟨z, n, n % 2 == 1, n % 5 == 0, s % 6, g % 4, n % 4⟩, n % 16, decide (0 < n % 3)⟩, rfl, ⟨⟨by dsimp only; omega, by dsimp only; omega⟩, by dsimp only; omega, by dsimp only; omega⟩, below_setRow hB hlt _⟩
      · have hl := HLE.out wx hB (wrap64 (w % (cw + 1) - w / 250))
        have c6 : ∀ N, (wx.drewN N).cell? ⟨W.heap.size + 1 + 1 + 1, 6, none⟩ = some (.int .i64 (s % 6)) := fun N => rX.cell 6
        have c7 : ∀ N u, ((wx.drewN N).setCell ⟨W.heap.size + 1 + 1 + 1, 6, none⟩ u).cell? ⟨W.heap.size + 1 + 1 + 1, 7, none⟩ = some (.int .i64 (g % 4)) := fun N u => (RowAt.setc (w := wx.drewN N) rX 6 u).cell 7
        have f6 : ∀ N, (wx.drewN N).frozen? ⟨W.heap.size + 1 + 1 + 1, 6, none⟩ = false := fun N => RowAt.frozen (w := wx.drewN N) rX 6
        have f7 : ∀ N u, ((wx.drewN N).setCell ⟨W.heap.size + 1 + 1 + 1, 6, none⟩ u).frozen? ⟨W.heap.size + 1 + 1 + 1, 7, none⟩ = false := fun N u => (RowAt.setc (w := wx.drewN N) rX 6 u).frozen 7
        go_wp2_with fail
        refine hl.mono ?_
        rintro e w2 ⟨la, lb, rfl, N, rfl⟩
        have rX2 := (((RowAt.setc (w := wx.drewN N) rX 6 (.int .i64 la)).setc 7 (.int .i64 lb)))
        have rR2 : RowAt (((wx.drewN N).setCell ⟨W.heap.size + 1 + 1 + 1, 6, none⟩ (.int .i64 la)).setCell ⟨W.heap.size + 1 + 1 + 1, 7, none⟩ (.int .i64 lb)) (W.heap.size + 1 + 1) _ _ := (heap_setCell_other _ _ _ _ (by simp)).trans ((heap_setCell_other _ _ _ _ (by simp)).trans rR)
        have hB2 := ((bdrewN hB N).setCell (p := ⟨W.heap.size + 1 + 1 + 1, 6, none⟩) (by simp <;> omega) (.int .i64 la)).setCell (p := ⟨W.heap.size + 1 + 1 + 1, 7, none⟩) (by simp <;> omega) (.int .i64 lb)
        simp only [List.setIfInBounds_toArray, List.set_cons_succ, List.set_cons_zero] at rX2
        go_upto_region 21 with (fail)
        refine wp_region_lit ?_
        refine RowL.wpList_load_row rfl 54 (.tmp 8) rfl (W.heap.size + 1 + 1 + 1) 54 #[.int .i64 4, .int .i64 (wrap64 (w % (cw + 1) - w / 250)), .int .i64 z, .int .i64 n, .bool (n % 2 == 1), .bool (n % 5 == 0), .int .i64 la, .int .i64 lb, .int .i64 (n % 4), .int .i64 (n % 16), .bool (decide (0 < n % 3))] _ (by go_simp; try rfl) rX2 (Tryz.underlying54) rfl (by kernel_rfl) ?_
        refine RowL.wpList_store_row rfl 54 (.tmp 6) (.tmp 119) rfl (W.heap.size + 1 + 1) _ #[.int .i64 0, .int .i64 0, .int .i64 0, .int .i64 0, .bool false, .bool false, .int .i64 0, .int .i64 0, .int .i64 0, .int .i64 0, .bool false] #[.int .i64 4, .int .i64 (wrap64 (w % (cw + 1) - w / 250)), .int .i64 z, .int .i64 n, .bool (n % 2 == 1), .bool (n % 5 == 0), .int .i64 la, .int .i64 lb, .int .i64 (n % 4), .int .i64 (n % 16), .bool (decide (0 < n % 3))] (by go_simp; try rfl) (by go_simp; try rfl) rR2 rfl (by kernel_rfl) (by simp [Value.oneCell']) ?_
        go_wp2_with fail
        refine bodyPost_ret (results_row rfl _ _ (W.heap.size + 1 + 1) _ _ _ rfl (rR2.set _) (Tryz.underlying54) rfl (by kernel_rfl)) rfl ?_
        exact ⟨⟨4, (wrap64 (w % (cw + 1) - w / 250)), ⟨z, n, n % 2 == 1, n % 5 == 0, la, lb, n % 4⟩, n % 16, decide (0 < n % 3)⟩, rfl, ⟨⟨by dsimp only; omega, by dsimp only; omega⟩, by dsimp only; omega, by dsimp only; omega⟩, below_setRow hB2 hlt _⟩
  · have ht0 := ht
    rcases hoo with hoo | hoo
    · go_upto_if 106 with (fail)
      have rX : RowAt (((((W.alloc (.cells #[.int .u8 k, .int .u8 w, .int .u8 o, .int .u8 s, .int .u8 g, .int .u8 n] 57)).alloc (.cells #[.int .i64 cw, .int .i64 cs, .int .i64 cst, .int .i64 cwa, .int .i64 cu] 23)).alloc (.cells #[.int .i64 0, .int .i64 0, .int .i64 0, .int .i64 0, .bool false, .bool false, .int .i64 0, .int .i64 0, .int .i64 0, .int .i64 0, .bool false] 54)).drewN nq).alloc (.cells #[.int .i64 (k - 250), .int .i64 (wrap64 (w % (cw + 1) - w / 250)), .int .i64 (o % 9), .int .i64 n, .bool (n % 2 == 1), .bool (n % 5 == 0), .int .i64 (s % 6), .int .i64 (g % 4), .int .i64 (n % 4), .int .i64 (n % 16), .bool (decide (0 < n % 3))] 54)) (W.heap.size + 1 + 1 + 1) #[.int .i64 (k - 250), .int .i64 (wrap64 (w % (cw + 1) - w / 250)), .int .i64 (o % 9), .int .i64 n, .bool (n % 2 == 1), .bool (n % 5 == 0), .int .i64 (s % 6), .int .i64 (g % 4), .int .i64 (n % 4), .int .i64 (n % 16), .bool (decide (0 < n % 3))] 54 := heap_new_at _ _ (by simp)
      have rR : RowAt (((((W.alloc (.cells #[.int .u8 k, .int .u8 w, .int .u8 o, .int .u8 s, .int .u8 g, .int .u8 n] 57)).alloc (.cells #[.int .i64 cw, .int .i64 cs, .int .i64 cst, .int .i64 cwa, .int .i64 cu] 23)).alloc (.cells #[.int .i64 0, .int .i64 0, .int .i64 0, .int .i64 0, .bool false, .bool false, .int .i64 0, .int .i64 0, .int .i64 0, .int .i64 0, .bool false] 54)).drewN nq).alloc (.cells #[.int .i64 (k - 250), .int .i64 (wrap64 (w % (cw + 1) - w / 250)), .int .i64 (o % 9), .int .i64 n, .bool (n % 2 == 1), .bool (n % 5 == 0), .int .i64 (s % 6), .int .i64 (g % 4), .int .i64 (n % 4), .int .i64 (n % 16), .bool (decide (0 < n % 3))] 54)) (W.heap.size + 1 + 1) #[.int .i64 0, .int .i64 0, .int .i64 0, .int .i64 0, .bool false, .bool false, .int .i64 0, .int .i64 0, .int .i64 0, .int .i64 0, .bool false] 54 := (heap_old_at _ _ (by simp)).trans (heap_new_at _ _ (by simp))
      have hB : Below W.heap.size W (((((W.alloc (.cells #[.int .u8 k, .int .u8 w, .int .u8 o, .int .u8 s, .int .u8 g, .int .u8 n] 57)).alloc (.cells #[.int .i64 cw, .int .i64 cs, .int .i64 cst, .int .i64 cwa, .int .i64 cu] 23)).alloc (.cells #[.int .i64 0, .int .i64 0, .int .i64 0, .int .i64 0, .bool false, .bool false, .int .i64 0, .int .i64 0, .int .i64 0, .int .i64 0, .bool false] 54)).drewN nq).alloc (.cells #[.int .i64 (k - 250), .int .i64 (wrap64 (w % (cw + 1) - w / 250)), .int .i64 (o % 9), .int .i64 n, .bool (n % 2 == 1), .bool (n % 5 == 0), .int .i64 (s % 6), .int .i64 (g % 4), .int .i64 (n % 4), .int .i64 (n % 16), .bool (decide (0 < n % 3))] 54)) := (bdrewN ((((Below.refl _ _).alloc (Nat.le_refl _) _).alloc (by simp) _).alloc (by simp <;> omega) _) nq).alloc (by simp <;> omega) _
      generalize (((((W.alloc (.cells #[.int .u8 k, .int .u8 w, .int .u8 o, .int .u8 s, .int .u8 g, .int .u8 n] 57)).alloc (.cells #[.int .i64 cw, .int .i64 cs, .int .i64 cst, .int .i64 cwa, .int .i64 cu] 23)).alloc (.cells #[.int .i64 0, .int .i64 0, .int .i64 0, .int .i64 0, .bool false, .bool false, .int .i64 0, .int .i64 0, .int .i64 0, .int .i64 0, .bool false] 54)).drewN nq).alloc (.cells #[.int .i64 (k - 250), .int .i64 (wrap64 (w % (cw + 1) - w / 250)), .int .i64 (o % 9), .int .i64 n, .bool (n % 2 == 1), .bool (n % 5 == 0), .int .i64 (s % 6), .int .i64 (g % 4), .int .i64 (n % 4), .int .i64 (n % 16), .bool (decide (0 < n % 3))] 54)) = wx at rX rR hB ⊢
      have hlt : W.heap.size ≤ W.heap.size + 1 + 1 := by omega
      rcases hss with hss | hss
      · skip
        go_upto_region 21 with (fail)
        refine wp_region_lit ?_
        refine RowL.wpList_load_row rfl 54 (.tmp 8) rfl (W.heap.size + 1 + 1 + 1) 54 #[.int .i64 (k - 250), .int .i64 (wrap64 (w % (cw + 1) - w / 250)), .int .i64 (o % 9), .int .i64 n, .bool (n % 2 == 1), .bool (n % 5 == 0), .int .i64 (s % 6), .int .i64 (g % 4), .int .i64 (n % 4), .int .i64 (n % 16), .bool (decide (0 < n % 3))] _ (by go_simp; try rfl) rX (Tryz.underlying54) rfl (by kernel_rfl) ?_
        refine RowL.wpList_store_row rfl 54 (.tmp 6) (.tmp 119) rfl (W.heap.size + 1 + 1) _ #[.int .i64 0, .int .i64 0, .int .i64 0, .int .i64 0, .bool false, .bool false, .int .i64 0, .int .i64 0, .int .i64 0, .int .i64 0, .bool false] #[.int .i64 (k - 250), .int .i64 (wrap64 (w % (cw + 1) - w / 250)), .int .i64 (o % 9), .int .i64 n, .bool (n % 2 == 1), .bool (n % 5 == 0), .int .i64 (s % 6), .int .i64 (g % 4), .int .i64 (n % 4), .int .i64 (n % 16), .bool (decide (0 < n % 3))] (by go_simp; try rfl) (by go_simp; try rfl) rR rfl (by kernel_rfl) (by simp [Value.oneCell']) ?_
        go_wp2_with fail
        refine bodyPost_ret (results_row rfl _ _ (W.heap.size + 1 + 1) _ _ _ rfl (rR.set _) (Tryz.underlying54) rfl (by kernel_rfl)) rfl ?_
        exact ⟨⟨(k - 250), (wrap64 (w % (cw + 1) - w / 250)), ⟨(o % 9), n, n % 2 == 1, n % 5 == 0, s % 6, g % 4, n % 4⟩, n % 16, decide (0 < n % 3)⟩, rfl, ⟨⟨by dsimp only; omega, by dsimp only; omega⟩, by dsimp only; omega, by dsimp only; omega⟩, below_setRow hB hlt _⟩
      · have hl := HLE.out wx hB (wrap64 (w % (cw + 1) - w / 250))
        have c6 : ∀ N, (wx.drewN N).cell? ⟨W.heap.size + 1 + 1 + 1, 6, none⟩ = some (.int .i64 (s % 6)) := fun N => rX.cell 6
        have c7 : ∀ N u, ((wx.drewN N).setCell ⟨W.heap.size + 1 + 1 + 1, 6, none⟩ u).cell? ⟨W.heap.size + 1 + 1 + 1, 7, none⟩ = some (.int .i64 (g % 4)) := fun N u => (RowAt.setc (w := wx.drewN N) rX 6 u).cell 7
        have f6 : ∀ N, (wx.drewN N).frozen? ⟨W.heap.size + 1 + 1 + 1, 6, none⟩ = false := fun N => RowAt.frozen (w := wx.drewN N) rX 6
        have f7 : ∀ N u, ((wx.drewN N).setCell ⟨W.heap.size + 1 + 1 + 1, 6, none⟩ u).frozen? ⟨W.heap.size + 1 + 1 + 1, 7, none⟩ = false := fun N u => (RowAt.setc (w := wx.drewN N) rX 6 u).frozen 7
        go_wp2_with fail
        refine hl.mono ?_
        rintro e w2 ⟨la, lb, rfl, N, rfl⟩
        have rX2 := (((RowAt.setc (w := wx.drewN N) rX 6 (.int .i64 la)).setc 7 (.int .i64 lb)))
        have rR2 : RowAt (((wx.drewN N).setCell ⟨W.heap.size + 1 + 1 + 1, 6, none⟩ (.int .i64 la)).setCell ⟨W.heap.size + 1 + 1 + 1, 7, none⟩ (.int .i64 lb)) (W.heap.size + 1 + 1) _ _ := (heap_setCell_other _ _ _ _ (by simp)).trans ((heap_setCell_other _ _ _ _ (by simp)).trans rR)
        have hB2 := ((bdrewN hB N).setCell (p := ⟨W.heap.size + 1 + 1 + 1, 6, none⟩) (by simp <;> omega) (.int .i64 la)).setCell (p := ⟨W.heap.size + 1 + 1 + 1, 7, none⟩) (by simp <;> omega) (.int .i64 lb)
        simp only [List.setIfInBounds_toArray, List.set_cons_succ, List.set_cons_zero] at rX2
        go_upto_region 21 with (fail)
        refine wp_region_lit ?_
        refine RowL.wpList_load_row rfl 54 (.tmp 8) rfl (W.heap.size + 1 + 1 + 1) 54 #[.int .i64 (k - 250), .int .i64 (wrap64 (w % (cw + 1) - w / 250)), .int .i64 (o % 9), .int .i64 n, .bool (n % 2 == 1), .bool (n % 5 == 0), .int .i64 la, .int .i64 lb, .int .i64 (n % 4), .int .i64 (n % 16), .bool (decide (0 < n % 3))] _ (by go_simp; try rfl) rX2 (Tryz.underlying54) rfl (by kernel_rfl) ?_
        refine RowL.wpList_store_row rfl 54 (.tmp 6) (.tmp 119) rfl (W.heap.size + 1 + 1) _ #[.int .i64 0, .int .i64 0, .int .i64 0, .int .i64 0, .bool false, .bool false, .int .i64 0, .int .i64 0, .int .i64 0, .int .i64 0, .bool false] #[.int .i64 (k - 250), .int .i64 (wrap64 (w % (cw + 1) - w / 250)), .int .i64 (o % 9), .int .i64 n, .bool (n % 2 == 1), .bool (n % 5 == 0), .int .i64 la, .int .i64 lb, .int .i64 (n % 4), .int .i64 (n % 16), .bool (decide (0 < n % 3))] (by go_simp; try rfl) (by go_simp; try rfl) rR2 rfl (by kernel_rfl) (by simp [Value.oneCell']) ?_
        go_wp2_with fail
        refine bodyPost_ret (results_row rfl _ _ (W.heap.size + 1 + 1) _ _ _ rfl (rR2.set _) (Tryz.underlying54) rfl (by kernel_rfl)) rfl ?_
        exact ⟨⟨(k - 250), (wrap64 (w % (cw + 1) - w / 250)), ⟨(o % 9), n, n % 2 == 1, n % 5 == 0, la, lb, n % 4⟩, n % 16, decide (0 < n % 3)⟩, rfl, ⟨⟨by dsimp only; omega, by dsimp only; omega⟩, by dsimp only; omega, by dsimp only; omega⟩, below_setRow hB2 hlt _⟩
    · go_upto_if 106 with (fail)
      have rX : RowAt ((((((W.alloc (.cells #[.int .u8 k, .int .u8 w, .int .u8 o, .int .u8 s, .int .u8 g, .int .u8 n] 57)).alloc (.cells #[.int .i64 cw, .int .i64 cs, .int .i64 cst, .int .i64 cwa, .int .i64 cu] 23)).alloc (.cells #[.int .i64 0, .int .i64 0, .int .i64 0, .int .i64 0, .bool false, .bool false, .int .i64 0, .int .i64 0, .int .i64 0, .int .i64 0, .bool false] 54)).drewN nq).alloc (.cells #[.int .i64 (k - 250), .int .i64 (wrap64 (w % (cw + 1) - w / 250)), .int .i64 z, .int .i64 n, .bool (n % 2 == 1), .bool (n % 5 == 0), .int .i64 (s % 6), .int .i64 (g % 4), .int .i64 (n % 4), .int .i64 (n % 16), .bool (decide (0 < n % 3))] 54)).alloc (.cells #[.int .i64 0, .int .i64 0, .int .i64 1, .int .i64 1, .int .i64 3] 3)) (W.heap.size + 1 + 1 + 1) #[.int .i64 (k - 250), .int .i64 (wrap64 (w % (cw + 1) - w / 250)), .int .i64 z, .int .i64 n, .bool (n % 2 == 1), .bool (n % 5 == 0), .int .i64 (s % 6), .int .i64 (g % 4), .int .i64 (n % 4), .int .i64 (n % 16), .bool (decide (0 < n % 3))] 54 := (heap_old_at _ _ (by simp)).trans (heap_new_at _ _ (by simp))
      have rR : RowAt ((((((W.alloc (.cells #[.int .u8 k, .int .u8 w, .int .u8 o, .int .u8 s, .int .u8 g, .int .u8 n] 57)).alloc (.cells #[.int .i64 cw, .int .i64 cs, .int .i64 cst, .int .i64 cwa, .int .i64 cu] 23)).alloc (.cells #[.int .i64 0, .int .i64 0, .int .i64 0, .int .i64 0, .bool false, .bool false, .int .i64 0, .int .i64 0, .int .i64 0, .int .i64 0, .bool false] 54)).drewN nq).alloc (.cells #[.int .i64 (k - 250), .int .i64 (wrap64 (w % (cw + 1) - w / 250)), .int .i64 z, .int .i64 n, .bool (n % 2 == 1), .bool (n % 5 == 0), .int .i64 (s % 6), .int .i64 (g % 4), .int .i64 (n % 4), .int .i64 (n % 16), .bool (decide (0 < n % 3))] 54)).alloc (.cells #[.int .i64 0, .int .i64 0, .int .i64 1, .int .i64 1, .int .i64 3] 3)) (W.heap.size + 1 + 1) #[.int .i64 0, .int .i64 0, .int .i64 0, .int .i64 0, .bool false, .bool false, .int .i64 0, .int .i64 0, .int .i64 0, .int .i64 0, .bool false] 54 := (heap_old_at _ _ (by simp <;> omega)).trans ((heap_old_at _ _ (by simp)).trans (heap_new_at _ _ (by simp)))
      have hB : Below W.heap.size W ((((((W.alloc (.cells #[.int .u8 k, .int .u8 w, .int .u8 o, .int .u8 s, .int .u8 g, .int .u8 n] 57)).alloc (.cells #[.int .i64 cw, .int .i64 cs, .int .i64 cst, .int .i64 cwa, .int .i64 cu] 23)).alloc (.cells #[.int .i64 0, .int .i64 0, .int .i64 0, .int .i64 0, .bool false, .bool false, .int .i64 0, .int .i64 0, .int .i64 0, .int .i64 0, .bool false] 54)).drewN nq).alloc (.cells #[.int .i64 (k - 250), .int .i64 (wrap64 (w % (cw + 1) - w / 250)), .int .i64 z, .int .i64 n, .bool (n % 2 == 1), .bool (n % 5 == 0), .int .i64 (s % 6), .int .i64 (g % 4), .int .i64 (n % 4), .int .i64 (n % 16), .bool (decide (0 < n % 3))] 54)).alloc (.cells #[.int .i64 0, .int .i64 0, .int .i64 1, .int .i64 1, .int .i64 3] 3)) := ((bdrewN ((((Below.refl _ _).alloc (Nat.le_refl _) _).alloc (by simp) _).alloc (by simp <;> omega) _) nq).alloc (by simp <;> omega) _).alloc (by simp <;> omega) _
      generalize ((((((W.alloc (.cells #[.int .u8 k, .int .u8 w, .int .u8 o, .int .u8 s, .int .u8 g, .int .u8 n] 57)).alloc (.cells #[.int .i64 cw, .int .i64 cs, .int .i64 cst, .int .i64 cwa, .int .i64 cu] 23)).alloc (.cells #[.int .i64 0, .int .i64 0, .int .i64 0, .int .i64 0, .bool false, .bool false, .int .i64 0, .int .i64 0, .int .i64 0, .int .i64 0, .bool false] 54)).drewN nq).alloc (.cells #[.int .i64 (k - 250), .int .i64 (wrap64 (w % (cw + 1) - w / 250)), .int .i64 z, .int .i64 n, .bool (n % 2 == 1), .bool (n % 5 == 0), .int .i64 (s % 6), .int .i64 (g % 4), .int .i64 (n % 4), .int .i64 (n % 16), .bool (decide (0 < n % 3))] 54)).alloc (.cells #[.int .i64 0, .int .i64 0, .int .i64 1, .int .i64 1, .int .i64 3] 3)) = wx at rX rR hB ⊢
      have hlt : W.heap.size ≤ W.heap.size + 1 + 1 := by omega
      rcases hss with hss | hss
      · skip
        go_upto_region 21 with (fail)
        refine wp_region_lit ?_
        refine RowL.wpList_load_row rfl 54 (.tmp 8) rfl (W.heap.size + 1 + 1 + 1) 54 #[.int .i64 (k - 250), .int .i64 (wrap64 (w % (cw + 1) - w / 250)), .int .i64 z, .int .i64 n, .bool (n % 2 == 1), .bool (n % 5 == 0), .int .i64 (s % 6), .int .i64 (g % 4), .int .i64 (n % 4), .int .i64 (n % 16), .bool (decide (0 < n % 3))] _ (by go_simp; try rfl) rX (Tryz.underlying54) rfl (by kernel_rfl) ?_
        refine RowL.wpList_store_row rfl 54 (.tmp 6) (.tmp 119) rfl (W.heap.size + 1 + 1) _ #[.int .i64 0, .int .i64 0, .int .i64 0, .int .i64 0, .bool false, .bool false, .int .i64 0, .int .i64 0, .int .i64 0, .int .i64 0, .bool false] #[.int .i64 (k - 250), .int .i64 (wrap64 (w % (cw + 1) - w / 250)), .int .i64 z, .int .i64 n, .bool (n % 2 == 1), .bool (n % 5 == 0), .int .i64 (s % 6), .int .i64 (g % 4), .int .i64 (n % 4), .int .i64 (n % 16), .bool (decide (0 < n % 3))] (by go_simp; try rfl) (by go_simp; try rfl) rR rfl (by kernel_rfl) (by simp [Value.oneCell']) ?_
        go_wp2_with fail
        refine bodyPost_ret (results_row rfl _ _ (W.heap.size + 1 + 1) _ _ _ rfl (rR.set _) (Tryz.underlying54) rfl (by kernel_rfl)) rfl ?_
        exact ⟨⟨(k - 250), (wrap64 (w % (cw + 1) - w / 250)), ⟨z, n, n % 2 == 1, n % 5 == 0, s % 6, g % 4, n % 4⟩, n % 16, decide (0 < n % 3)⟩, rfl, ⟨⟨by dsimp only; omega, by dsimp only; omega⟩, by dsimp only; omega, by dsimp only; omega⟩, below_setRow hB hlt _⟩
      · have hl := HLE.out wx hB (wrap64 (w % (cw + 1) - w / 250))
        have c6 : ∀ N, (wx.drewN N).cell? ⟨W.heap.size + 1 + 1 + 1, 6, none⟩ = some (.int .i64 (s % 6)) := fun N => rX.cell 6
        have c7 : ∀ N u, ((wx.drewN N).setCell ⟨W.heap.size + 1 + 1 + 1, 6, none⟩ u).cell? ⟨W.heap.size + 1 + 1 + 1, 7, none⟩ = some (.int .i64 (g % 4)) := fun N u => (RowAt.setc (w := wx.drewN N) rX 6 u).cell 7
        have f6 : ∀ N, (wx.drewN N).frozen? ⟨W.heap.size + 1 + 1 + 1, 6, none⟩ = false := fun N => RowAt.frozen (w := wx.drewN N) rX 6
        have f7 : ∀ N u, ((wx.drewN N).setCell ⟨W.heap.size + 1 + 1 + 1, 6, none⟩ u).frozen? ⟨W.heap.size + 1 + 1 + 1, 7, none⟩ = false := fun N u => (RowAt.setc (w := wx.drewN N) rX 6 u).frozen 7
        go_wp2_with fail
        refine hl.mono ?_
        rintro e w2 ⟨la, lb, rfl, N, rfl⟩
        have rX2 := (((RowAt.setc (w := wx.drewN N) rX 6 (.int .i64 la)).setc 7 (.int .i64 lb)))
        have rR2 : RowAt (((wx.drewN N).setCell ⟨W.heap.size + 1 + 1 + 1, 6, none⟩ (.int .i64 la)).setCell ⟨W.heap.size + 1 + 1 + 1, 7, none⟩ (.int .i64 lb)) (W.heap.size + 1 + 1) _ _ := (heap_setCell_other _ _ _ _ (by simp)).trans ((heap_setCell_other _ _ _ _ (by simp)).trans rR)
        have hB2 := ((bdrewN hB N).setCell (p := ⟨W.heap.size + 1 + 1 + 1, 6, none⟩) (by simp <;> omega) (.int .i64 la)).setCell (p := ⟨W.heap.size + 1 + 1 + 1, 7, none⟩) (by simp <;> omega) (.int .i64 lb)
        simp only [List.setIfInBounds_toArray, List.set_cons_succ, List.set_cons_zero] at rX2
        go_upto_region 21 with (fail)
        refine wp_region_lit ?_
        refine RowL.wpList_load_row rfl 54 (.tmp 8) rfl (W.heap.size + 1 + 1 + 1) 54 #[.int .i64 (k - 250), .int .i64 (wrap64 (w % (cw + 1) - w / 250)), .int .i64 z, .int .i64 n, .bool (n % 2 == 1), .bool (n % 5 == 0), .int .i64 la, .int .i64 lb, .int .i64 (n % 4), .int .i64 (n % 16), .bool (decide (0 < n % 3))] _ (by go_simp; try rfl) rX2 (Tryz.underlying54) rfl (by kernel_rfl) ?_
        refine RowL.wpList_store_row rfl 54 (.tmp 6) (.tmp 119) rfl (W.heap.size + 1 + 1) _ #[.int .i64 0, .int .i64 0, .int .i64 0, .int .i64 0, .bool false, .bool false, .int .i64 0, .int .i64 0, .int .i64 0, .int .i64 0, .bool false] #[.int .i64 (k - 250), .int .i64 (wrap64 (w % (cw + 1) - w / 250)), .int .i64 z, .int .i64 n, .bool (n % 2 == 1), .bool (n % 5 == 0), .int .i64 la, .int .i64 lb, .int .i64 (n % 4), .int .i64 (n % 16), .bool (decide (0 < n % 3))] (by go_simp; try rfl) (by go_simp; try rfl) rR2 rfl (by kernel_rfl) (by simp [Value.oneCell']) ?_
        go_wp2_with fail
        refine bodyPost_ret (results_row rfl _ _ (W.heap.size + 1 + 1) _ _ _ rfl (rR2.set _) (Tryz.underlying54) rfl (by kernel_rfl)) rfl ?_
        exact ⟨⟨(k - 250), (wrap64 (w % (cw + 1) - w / 250)), ⟨z, n, n % 2 == 1, n % 5 == 0, la, lb, n % 4⟩, n % 16, decide (0 < n % 3)⟩, rfl, ⟨⟨by dsimp only; omega, by dsimp only; omega⟩, by dsimp only; omega, by dsimp only; omega⟩, below_setRow hB2 hlt _⟩
end Go.Proofs.YtpmkgddjgebojaaGreatDoor.Mod

namespace Go.Proofs.YtpmkgddjgebojaaGreatDoor.RowL
set_option linter.unusedVariables false
set_option linter.unusedSimpArgs false
open Go.RowKit Hp
section
variable {P : Program} {ops : Array Oper} {Q : Exit → Act → World → Prop} {md : Region.Mode} {S : World → Prop}
/-- Whatever comes up next keeps the invariant, or ends this part of the region. -/
theorem wpAnyH_inv2 (Inv Fin : Nat → Array Bool → Act → World → Prop) (hfin : ∀ f l a w, Fin f l a w → wpAnyH P md ops Q S f l a w)
    (hne : ∀ f l a w, Inv f l a w → (Region.ready md ops l).isEmpty = false)
    (hstep : ∀ f l a w, Inv f l a w → ∀ i ∈ Region.ready md ops l, ∃ f', f = f' + 1 ∧ wpOp P ops Q i (fun a' w' => S w' ∧ (Inv f' (l.setIfInBounds i true) a' w' ∨ Fin f' (l.setIfInBounds i true) a' w')) a w) :
    ∀ f l a w, Inv f l a w → wpAnyH P md ops Q S f l a w := by
  intro f
  induction f with
  | zero =>
    intro l a w h
    have h1 := hne _ _ _ _ h
    cases hx : Region.ready md ops l with
    | nil => rw [hx] at h1; cases h1
    | cons i r => obtain ⟨f', hf, _⟩ := hstep _ _ _ _ h i (by rw [hx]; simp); omega
  | succ f ih =>
    intro l a w h
    refine ⟨fun hr => ?_, fun i hi => ?_⟩
    · have h1 := hne _ _ _ _ h
      rw [hr] at h1; cases h1
    · obtain ⟨f', hf, hw⟩ := hstep _ _ _ _ h i hi
      obtain rfl : f = f' := by omega
      exact wpOp_mono (fun a' w' h' => ⟨h'.1, h'.2.elim (ih _ _ _) (hfin _ _ _ _)⟩) hw
/-- An operation that yields a value. -/
theorem wpOp_run {i : Nat} {a : Act} {w w' : World} {K : Act → World → Prop} (d : Option Tmp) (v : Value) (ho : (ops[i]?).map (fun o => o.dst) = some d)
    (hw : (ops[i]?).map (fun o => Region.wanted o (yielded ops a.tmps)) = some true) (hr : ((ops[i]?).map fun o => (execOp a.eval o).run P w) = some (.ok (.value v) w'))
    (h : K (a.put d v) w') : wpOp P ops Q i K a w := by
  cases h1 : ops[i]? with
  | none => rw [h1] at ho; cases ho
  | some o =>
    rw [h1] at ho hw hr
    simp only [Option.map_some, Option.some.injEq] at ho hw hr
    subst ho
    refine wpOp_step h1 fun K' hK => ?_
    rw [if_pos hw]
    unfold Oper.wp
    rw [hr]
    exact hK _ _ h
/-- A call of a Go function. -/
theorem wpOp_call {i : Nat} {a : Act} {w : World} {K : Act → World → Prop} (F : Nat) (args : Array Operand) (ats : Array TypeId) (d : Option Tmp) (gd : Option (Nat × Bool))
    (ho : (ops[i]?).map (fun o => (o.dst, o.op, o.guard)) = some (d, Op.call { callee := Callee.value (Operand.func F), args := args, argTypes := ats }, gd))
    (hw : (ops[i]?).map (fun o => Region.wanted o (yielded ops a.tmps)) = some true)
    (vals : Array Value) (hv : args.map a.eval = vals) (hE : ∀ args w, (callFunc F args).run P w = .ok (.enter F args) w)
    (h : Calls P F vals w fun e w' => ∃ v, e = .returned v ∧ K (a.put d v) w') : wpOp P ops Q i K a w := by
  obtain ⟨o, h1o, h2o, h3o, h4o⟩ := op_of ho
  rw [h1o] at hw
  refine wpOp_step h1o fun K' hK => ?_
  rw [if_pos (by simpa using hw)]
  have hx : (execOp a.eval o).run P w = .ok (.enter F vals) w := by
    unfold execOp
    simp only [h3o, resolve]
    simp [go_sem, hv, hE, Act.eval, invoke, Deferred.ofValue]
  unfold Oper.wp
  rw [hx, Oper.upon_enter]
  refine h.mono ?_
  rintro e w' ⟨v, rfl, hk⟩
  dsimp only
  rw [h2o]
  exact hK _ _ hk
end
end Go.Proofs.YtpmkgddjgebojaaGreatDoor.RowL

namespace Go.Proofs.YtpmkgddjgebojaaGreatDoor.Mod
set_option linter.unusedVariables false
set_option linter.unusedSimpArgs false
open Go.RowKit Hp Slot RowL Life

/-- n rows of cells, each z's. -/
def rowsOf (z : Array Value) : Nat → Array Value
  | 0 => #[]
  | n + 1 => rowsOf z n ++ z
theorem rowsOf_size (z : Array Value) : ∀ n, (rowsOf z n).size = n * z.size
  | 0 => by simp [rowsOf]
  | n + 1 => by simp [rowsOf, rowsOf_size z n, Nat.add_mul]
theorem rowsOf_get (z : Array Value) : ∀ (n i j : Nat), i < n → j < z.size → (rowsOf z n)[i * z.size + j]? = z[j]?
  | 0, i, j, h, _ => by omega
  | n + 1, i, j, h, hj => by
    rw [rowsOf, Array.getElem?_append, rowsOf_size]
    by_cases hi : i < n
    · have : i * z.size + j < n * z.size := by
        have := Nat.mul_le_mul_right z.size (show i + 1 ≤ n by omega)
        rw [Nat.add_mul] at this; omega
      rw [if_pos this]
      exact rowsOf_get z n i j hi hj
    · obtain rfl : i = n := by omega
      rw [if_neg (by omega), Nat.add_sub_cancel_left]
theorem mk_s1 (W : World) : (Instr.makeSlice 42 (.int .i64 1) (.int .i64 1)).run Tryz.prog W = .ok (.slice (some ⟨W.heap.size, 0, none⟩) 1 1) (W.alloc (.cells (rowsOf S.zero.cells 1) 59)) := by kernel_rfl
theorem mk_s2 (W : World) : (Instr.makeSlice 42 (.int .i64 2) (.int .i64 2)).run Tryz.prog W = .ok (.slice (some ⟨W.heap.size, 0, none⟩) 2 2) (W.alloc (.cells (rowsOf S.zero.cells 2) 59)) := by kernel_rfl
theorem mk_s3 (W : World) : (Instr.makeSlice 42 (.int .i64 3) (.int .i64 3)).run Tryz.prog W = .ok (.slice (some ⟨W.heap.size, 0, none⟩) 3 3) (W.alloc (.cells (rowsOf S.zero.cells 3) 59)) := by kernel_rfl
theorem mk_s4 (W : World) : (Instr.makeSlice 42 (.int .i64 4) (.int .i64 4)).run Tryz.prog W = .ok (.slice (some ⟨W.heap.size, 0, none⟩) 4 4) (W.alloc (.cells (rowsOf S.zero.cells 4) 59)) := by kernel_rfl
theorem mk_s5 (W : World) : (Instr.makeSlice 42 (.int .i64 5) (.int .i64 5)).run Tryz.prog W = .ok (.slice (some ⟨W.heap.size, 0, none⟩) 5 5) (W.alloc (.cells (rowsOf S.zero.cells 5) 59)) := by kernel_rfl
theorem mk_s6 (W : World) : (Instr.makeSlice 42 (.int .i64 6) (.int .i64 6)).run Tryz.prog W = .ok (.slice (some ⟨W.heap.size, 0, none⟩) 6 6) (W.alloc (.cells (rowsOf S.zero.cells 6) 59)) := by kernel_rfl
theorem mk_s7 (W : World) : (Instr.makeSlice 42 (.int .i64 7) (.int .i64 7)).run Tryz.prog W = .ok (.slice (some ⟨W.heap.size, 0, none⟩) 7 7) (W.alloc (.cells (rowsOf S.zero.cells 7) 59)) := by kernel_rfl
theorem mk_s8 (W : World) : (Instr.makeSlice 42 (.int .i64 8) (.int .i64 8)).run Tryz.prog W = .ok (.slice (some ⟨W.heap.size, 0, none⟩) 8 8) (W.alloc (.cells (rowsOf S.zero.cells 8) 59)) := by kernel_rfl
theorem mk_s9 (W : World) : (Instr.makeSlice 42 (.int .i64 9) (.int .i64 9)).run Tryz.prog W = .ok (.slice (some ⟨W.heap.size, 0, none⟩) 9 9) (W.alloc (.cells (rowsOf S.zero.cells 9) 59)) := by kernel_rfl
theorem mk_s10 (W : World) : (Instr.makeSlice 42 (.int .i64 10) (.int .i64 10)).run Tryz.prog W = .ok (.slice (some ⟨W.heap.size, 0, none⟩) 10 10) (W.alloc (.cells (rowsOf S.zero.cells 10) 59)) := by kernel_rfl
theorem mk_s11 (W : World) : (Instr.makeSlice 42 (.int .i64 11) (.int .i64 11)).run Tryz.prog W = .ok (.slice (some ⟨W.heap.size, 0, none⟩) 11 11) (W.alloc (.cells (rowsOf S.zero.cells 11) 59)) := by kernel_rfl
theorem mk_s12 (W : World) : (Instr.makeSlice 42 (.int .i64 12) (.int .i64 12)).run Tryz.prog W = .ok (.slice (some ⟨W.heap.size, 0, none⟩) 12 12) (W.alloc (.cells (rowsOf S.zero.cells 12) 59)) := by kernel_rfl
theorem mk_s13 (W : World) : (Instr.makeSlice 42 (.int .i64 13) (.int .i64 13)).run Tryz.prog W = .ok (.slice (some ⟨W.heap.size, 0, none⟩) 13 13) (W.alloc (.cells (rowsOf S.zero.cells 13) 59)) := by kernel_rfl
theorem mk_s14 (W : World) : (Instr.makeSlice 42 (.int .i64 14) (.int .i64 14)).run Tryz.prog W = .ok (.slice (some ⟨W.heap.size, 0, none⟩) 14 14) (W.alloc (.cells (rowsOf S.zero.cells 14) 59)) := by kernel_rfl
theorem mk_s15 (W : World) : (Instr.makeSlice 42 (.int .i64 15) (.int .i64 15)).run Tryz.prog W = .ok (.slice (some ⟨W.heap.size, 0, none⟩) 15 15) (W.alloc (.cells (rowsOf S.zero.cells 15) 59)) := by kernel_rfl
theorem mk_s16 (W : World) : (Instr.makeSlice 42 (.int .i64 16) (.int .i64 16)).run Tryz.prog W = .ok (.slice (some ⟨W.heap.size, 0, none⟩) 16 16) (W.alloc (.cells (rowsOf S.zero.cells 16) 59)) := by kernel_rfl
theorem mk_w1 (W : World) : (Instr.makeSlice 79 (.int .i64 1) (.int .i64 1)).run Tryz.prog W = .ok (.slice (some ⟨W.heap.size, 0, none⟩) 1 1) (W.alloc (.cells (rowsOf Wk.zero.cells 1) 94)) := by kernel_rfl
theorem mk_w2 (W : World) : (Instr.makeSlice 79 (.int .i64 2) (.int .i64 2)).run Tryz.prog W = .ok (.slice (some ⟨W.heap.size, 0, none⟩) 2 2) (W.alloc (.cells (rowsOf Wk.zero.cells 2) 94)) := by kernel_rfl
theorem mk_w3 (W : World) : (Instr.makeSlice 79 (.int .i64 3) (.int .i64 3)).run Tryz.prog W = .ok (.slice (some ⟨W.heap.size, 0, none⟩) 3 3) (W.alloc (.cells (rowsOf Wk.zero.cells 3) 94)) := by kernel_rfl
theorem mk_w4 (W : World) : (Instr.makeSlice 79 (.int .i64 4) (.int .i64 4)).run Tryz.prog W = .ok (.slice (some ⟨W.heap.size, 0, none⟩) 4 4) (W.alloc (.cells (rowsOf Wk.zero.cells 4) 94)) := by kernel_rfl
theorem mk_w5 (W : World) : (Instr.makeSlice 79 (.int .i64 5) (.int .i64 5)).run Tryz.prog W = .ok (.slice (some ⟨W.heap.size, 0, none⟩) 5 5) (W.alloc (.cells (rowsOf Wk.zero.cells 5) 94)) := by kernel_rfl
theorem mk_w6 (W : World) : (Instr.makeSlice 79 (.int .i64 6) (.int .i64 6)).run Tryz.prog W = .ok (.slice (some ⟨W.heap.size, 0, none⟩) 6 6) (W.alloc (.cells (rowsOf Wk.zero.cells 6) 94)) := by kernel_rfl
theorem mk_w7 (W : World) : (Instr.makeSlice 79 (.int .i64 7) (.int .i64 7)).run Tryz.prog W = .ok (.slice (some ⟨W.heap.size, 0, none⟩) 7 7) (W.alloc (.cells (rowsOf Wk.zero.cells 7) 94)) := by kernel_rfl
theorem mk_w8 (W : World) : (Instr.makeSlice 79 (.int .i64 8) (.int .i64 8)).run Tryz.prog W = .ok (.slice (some ⟨W.heap.size, 0, none⟩) 8 8) (W.alloc (.cells (rowsOf Wk.zero.cells 8) 94)) := by kernel_rfl
theorem mk_slots (n : Nat) (h1 : 1 ≤ n) (h2 : n ≤ 16) (W : World) : (Instr.makeSlice 42 (.int .i64 n) (.int .i64 n)).run Tryz.prog W = .ok (.slice (some ⟨W.heap.size, 0, none⟩) n n) (W.alloc (.cells (rowsOf S.zero.cells n) 59)) := by
  have h : n = 1 ∨ n = 2 ∨ n = 3 ∨ n = 4 ∨ n = 5 ∨ n = 6 ∨ n = 7 ∨ n = 8 ∨ n = 9 ∨ n = 10 ∨ n = 11 ∨ n = 12 ∨ n = 13 ∨ n = 14 ∨ n = 15 ∨ n = 16 := by omega
  rcases h with rfl | rfl | rfl | rfl | rfl | rfl | rfl | rfl | rfl | rfl | rfl | rfl | rfl | rfl | rfl | rfl
  · exact mk_s1 W
  · exact mk_s2 W
  · exact mk_s3 W
  · exact mk_s4 W
  · exact mk_s5 W
  · exact mk_s6 W
  · exact mk_s7 W
  · exact mk_s8 W
  · exact mk_s9 W
  · exact mk_s10 W
  · exact mk_s11 W
  · exact mk_s12 W
  · exact mk_s13 W
  · exact mk_s14 W
  · exact mk_s15 W
  · exact mk_s16 W
theorem mk_works (n : Nat) (h1 : 1 ≤ n) (h2 : n ≤ 8) (W : World) : (Instr.makeSlice 79 (.int .i64 n) (.int .i64 n)).run Tryz.prog W = .ok (.slice (some ⟨W.heap.size, 0, none⟩) n n) (W.alloc (.cells (rowsOf Wk.zero.cells n) 94)) := by
  have h : n = 1 ∨ n = 2 ∨ n = 3 ∨ n = 4 ∨ n = 5 ∨ n = 6 ∨ n = 7 ∨ n = 8 := by omega
  rcases h with rfl | rfl | rfl | rfl | rfl | rfl | rfl | rfl
  · exact mk_w1 W
  · exact mk_w2 W
  · exact mk_w3 W
  · exact mk_w4 W
  · exact mk_w5 W
  · exact mk_w6 W
  · exact mk_w7 W
  · exact mk_w8 W
theorem ne_of {l : List Nat} (h : l.isEmpty = false) : l.isEmpty = false := h
theorem not_in {l : List Nat} {i : Nat} (hi : i ∈ l) (h : l.contains i = false) : False := by simp at h; exact h hi
/-- Where a pool is laid, some of what it has is made already. -/
structure Mk (W w : World) (wn sn : Nat) (b3 b6 b7 b8 : Bool) (sb kb cb wb rb : Nat) : Prop where
  bel : Below W.heap.size W w
  ord : b8 = true → b7 = true
  fs : b3 = true → W.heap.size < sb ∧ w.heap[sb]? = some (.cells (rowsOf S.zero.cells sn) 59)
  fk : b6 = true → W.heap.size < kb ∧ w.heap[kb]? = some (.cells (rowsOf Wk.zero.cells wn) 94)
  fc : b7 = true → W.heap.size < cb ∧ w.heap[cb]? = some (.cells #[.int .i64 0] 114)
  fw : b8 = true → W.heap.size < rb ∧ W.heap.size < wb ∧ World11.WAt w wb rb (.slice none 0 0) [] 0 0
  tag : ∃ t : Nat → Nat, (b3 = true → t sb = 2) ∧ (b6 = true → t kb = 3) ∧ (b7 = true → t cb = 4) ∧ (b8 = true → ∀ k, World11.wfp wb rb (.slice none 0 0) k → t k = 5)
  lt : W.heap.size < w.heap.size
section
variable {W w w' : World} {wn sn : Nat} {b3 b6 b7 b8 : Bool} {sb kb cb wb rb : Nat}
theorem Mk.below (h : Mk W w wn sn b3 b6 b7 b8 sb kb cb wb rb) (hb : Below w.heap.size w w') : Mk W w' wn sn b3 b6 b7 b8 sb kb cb wb rb :=
  ⟨h.bel.trans (hb.mono h.bel.size), h.ord, fun e => ⟨(h.fs e).1, (hb.block sb (Array.getElem?_eq_some_iff.1 (h.fs e).2).1).trans (h.fs e).2⟩, fun e => ⟨(h.fk e).1, (hb.block kb (Array.getElem?_eq_some_iff.1 (h.fk e).2).1).trans (h.fk e).2⟩,
    fun e => ⟨(h.fc e).1, (hb.block cb (Array.getElem?_eq_some_iff.1 (h.fc e).2).1).trans (h.fc e).2⟩, fun e => ⟨(h.fw e).1, (h.fw e).2.1, (h.fw e).2.2.below hb⟩, h.tag, Nat.lt_of_lt_of_le h.lt hb.size⟩
theorem Mk.adds (h : Mk W w wn sn false b6 b7 b8 sb kb cb wb rb) : Mk W (w.alloc (.cells (rowsOf S.zero.cells sn) 59)) wn sn true b6 b7 b8 w.heap.size kb cb wb rb := by
  have hb : Below w.heap.size w (w.alloc (.cells (rowsOf S.zero.cells sn) 59)) := (Below.refl _ _).alloc (Nat.le_refl _) _
  have h2 := h.below hb
  obtain ⟨t, -, t3, t4, t5⟩ := h.tag
  refine ⟨h2.bel, h2.ord, fun _ => ⟨h.lt, heap_alloc_new _ _⟩, h2.fk, h2.fc, h2.fw, ⟨fun k => if k < w.heap.size then t k else 2, fun _ => by simp, fun e => ?_, fun e => ?_, fun e k hk => ?_⟩, h2.lt⟩
  · have := (Array.getElem?_eq_some_iff.1 (h.fk e).2).1; simp [this, t3 e]
  · have := (Array.getElem?_eq_some_iff.1 (h.fc e).2).1; simp [this, t4 e]
  · have := (h.fw e).2.2.lt hk; simp [this, t5 e k hk]
theorem Mk.addk (h : Mk W w wn sn b3 false b7 b8 sb kb cb wb rb) : Mk W (w.alloc (.cells (rowsOf Wk.zero.cells wn) 94)) wn sn b3 true b7 b8 sb w.heap.size cb wb rb := by
  have hb : Below w.heap.size w (w.alloc (.cells (rowsOf Wk.zero.cells wn) 94)) := (Below.refl _ _).alloc (Nat.le_refl _) _
  have h2 := h.below hb
  obtain ⟨t, t2, -, t4, t5⟩ := h.tag
  refine ⟨h2.bel, h2.ord, h2.fs, fun _ => ⟨h.lt, heap_alloc_new _ _⟩, h2.fc, h2.fw, ⟨fun k => if k < w.heap.size then t k else 3, fun e => ?_, fun _ => by simp, fun e => ?_, fun e k hk => ?_⟩, h2.lt⟩
  · have := (Array.getElem?_eq_some_iff.1 (h.fs e).2).1; simp [this, t2 e]
  · have := (Array.getElem?_eq_some_iff.1 (h.fc e).2).1; simp [this, t4 e]
  · have := (h.fw e).2.2.lt hk; simp [this, t5 e k hk]
theorem Mk.addc (h : Mk W w wn sn b3 b6 false b8 sb kb cb wb rb) : Mk W (w.alloc (.cells #[.int .i64 0] 114)) wn sn b3 b6 true b8 sb kb w.heap.size wb rb := by
  have hb : Below w.heap.size w (w.alloc (.cells #[.int .i64 0] 114)) := (Below.refl _ _).alloc (Nat.le_refl _) _
  have h2 := h.below hb
  obtain ⟨t, t2, t3, -, t5⟩ := h.tag
  refine ⟨h2.bel, fun _ => rfl, h2.fs, h2.fk, fun _ => ⟨h.lt, heap_alloc_new _ _⟩, h2.fw, ⟨fun k => if k < w.heap.size then t k else 4, fun e => ?_, fun e => ?_, fun _ => by simp, fun e k hk => ?_⟩, h2.lt⟩
  · have := (Array.getElem?_eq_some_iff.1 (h.fs e).2).1; simp [this, t2 e]
  · have := (Array.getElem?_eq_some_iff.1 (h.fk e).2).1; simp [this, t3 e]
  · have := (h.fw e).2.2.lt hk; simp [this, t5 e k hk]
theorem Mk.addw (h : Mk W w wn sn b3 b6 true false sb kb cb wb rb) (hA : World11.WAt w' (w.heap.size + 1) w.heap.size (.slice none 0 0) [] 0 0) (hb : Below w.heap.size w w') : Mk W w' wn sn b3 b6 true true sb kb cb (w.heap.size + 1) w.heap.size := by
  have h2 := h.below hb
  obtain ⟨t, t2, t3, t4, -⟩ := h.tag
  have hl := h.lt
  refine ⟨h2.bel, fun _ => rfl, h2.fs, h2.fk, h2.fc, fun _ => ⟨h.lt, by omega, hA⟩, ⟨fun k => if k < w.heap.size then t k else 5, fun e => ?_, fun e => ?_, fun e => ?_, fun _ k hk => ?_⟩, h2.lt⟩
  · have := (Array.getElem?_eq_some_iff.1 (h.fs e).2).1; simp [this, t2 e]
  · have := (Array.getElem?_eq_some_iff.1 (h.fk e).2).1; simp [this, t3 e]
  · have := (Array.getElem?_eq_some_iff.1 (h.fc e).2).1; simp [this, t4 e]
  · have hge : w.heap.size ≤ k := by
      rcases hk with hk | hk | hk
      · omega
      · omega
      · exact (fp_nil _ hk).elim
    show (if k < w.heap.size then t k else 5) = 5
    rw [if_neg (by omega)]
end
theorem zero9 (z : Array Value) (hz : z.size = 9) {W : World} {b n : Nat} {T : TypeId} (h : W.heap[b]? = some (.cells (rowsOf z n) T)) (i j : Nat) (hi : i < n) (hj : j < 9) : W.cell? ⟨b, i * 9 + j, none⟩ = z[j]? ∧ W.frozen? ⟨b, i * 9 + j, none⟩ = false := by
  have h1 := cell_of_row W b (i * 9 + j) (rowsOf z n) T (0, 0) h
  have h2 := rowsOf_get z n i j hi (by omega)
  rw [hz] at h2
  exact ⟨h1.trans h2, by simp [World.frozen?, h]⟩
theorem mk_mat {W w : World} {wn sn : Nat} {st wa us : Int} {sb kb cb wb rb : Nat} (hL : Laid W) (hc : (⟨wn, sn, st, wa, us⟩ : Conf.Cf).right = true) (hM : Mk W w wn sn true true true true sb kb cb wb rb) :
    ∃ p : Pl, Ending.returned (.tuple #[.pointer (some ⟨w.heap.size, 0, none⟩), .int .i64 0]) = .returned (.tuple #[.pointer (some ⟨p.mb, 0, none⟩), .int .i64 0]) ∧ MAt (w.alloc (.cells #[.int .i64 (wn : Int), .int .i64 (sn : Int), .int .i64 st, .int .i64 wa, .int .i64 us, .slice (some ⟨sb, 0, none⟩) sn sn, .slice (some ⟨kb, 0, none⟩) wn wn, .slice none 0 0, .int .i64 0, .pointer (some ⟨cb, 0, none⟩), .pointer (some ⟨wb, 0, none⟩)] 85)) p (M.new ⟨wn, sn, st, wa, us⟩) ∧ (∀ k, mfp p k → W.heap.size ≤ k) ∧ Below W.heap.size W (w.alloc (.cells #[.int .i64 (wn : Int), .int .i64 (sn : Int), .int .i64 st, .int .i64 wa, .int .i64 us, .slice (some ⟨sb, 0, none⟩) sn sn, .slice (some ⟨kb, 0, none⟩) wn wn, .slice none 0 0, .int .i64 0, .pointer (some ⟨cb, 0, none⟩), .pointer (some ⟨wb, 0, none⟩)] 85)) := by
  obtain ⟨hs1, hs2⟩ := hM.fs rfl
  obtain ⟨hk1, hk2⟩ := hM.fk rfl
  obtain ⟨hc1, hc2⟩ := hM.fc rfl
  obtain ⟨hw1, hw2, hwA⟩ := hM.fw rfl
  obtain ⟨t, t2, t3, t4, t5⟩ := hM.tag
  have hlt := hM.lt
  have l2 := (Array.getElem?_eq_some_iff.1 hs2).1
  have l3 := (Array.getElem?_eq_some_iff.1 hk2).1
  have l4 := (Array.getElem?_eq_some_iff.1 hc2).1
  have hL0 : 0 < W.heap.size := hL.lt (by decide)
  have hbA : Below w.heap.size w (w.alloc (.cells #[.int .i64 (wn : Int), .int .i64 (sn : Int), .int .i64 st, .int .i64 wa, .int .i64 us, .slice (some ⟨sb, 0, none⟩) sn sn, .slice (some ⟨kb, 0, none⟩) wn wn, .slice none 0 0, .int .i64 0, .pointer (some ⟨cb, 0, none⟩), .pointer (some ⟨wb, 0, none⟩)] 85)) := (Below.refl _ _).alloc (Nat.le_refl _) _
  have row : RowAt (w.alloc (.cells #[.int .i64 (wn : Int), .int .i64 (sn : Int), .int .i64 st, .int .i64 wa, .int .i64 us, .slice (some ⟨sb, 0, none⟩) sn sn, .slice (some ⟨kb, 0, none⟩) wn wn, .slice none 0 0, .int .i64 0, .pointer (some ⟨cb, 0, none⟩), .pointer (some ⟨wb, 0, none⟩)] 85)) w.heap.size #[.int .i64 (wn : Int), .int .i64 (sn : Int), .int .i64 st, .int .i64 wa, .int .i64 us, .slice (some ⟨sb, 0, none⟩) sn sn, .slice (some ⟨kb, 0, none⟩) wn wn, .slice none 0 0, .int .i64 0, .pointer (some ⟨cb, 0, none⟩), .pointer (some ⟨wb, 0, none⟩)] 85 := RowAt.new _ _ _
  have hcc := hc
  simp [Conf.Cf.right, Conf.btw] at hcc
  have e2 := (hbA.block sb l2).trans hs2
  have e3 := (hbA.block kb l3).trans hk2
  have e4 := (hbA.block cb l4).trans hc2
  have hBW := hM.bel.trans (hbA.mono hM.bel.size)
  refine ⟨⟨w.heap.size, sb, kb, cb, wb, rb, .slice none 0 0, .slice none 0 0⟩, rfl, ⟨hL.stable (hBW.block 0 hL0), ⟨fun k => if k = 0 then 0 else if k < w.heap.size then t k else 1, ?_, ?_, ?_, ?_, ?_, ?_, ?_⟩, ?_, ?_, ?_, ?_, ?_, ⟨0, 0, hwA.below hbA⟩, ownS_nil _ _, ?_⟩, ?_, hBW⟩
  · simp
  · show (if w.heap.size = 0 then 0 else if w.heap.size < w.heap.size then t w.heap.size else 1) = 1
    rw [if_neg (by omega), if_neg (by omega)]
  · show (if sb = 0 then 0 else if sb < w.heap.size then t sb else 1) = 2
    rw [if_neg (by omega), if_pos l2]; exact t2 rfl
  · show (if kb = 0 then 0 else if kb < w.heap.size then t kb else 1) = 3
    rw [if_neg (by omega), if_pos l3]; exact t3 rfl
  · show (if cb = 0 then 0 else if cb < w.heap.size then t cb else 1) = 4
    rw [if_neg (by omega), if_pos l4]; exact t4 rfl
  · intro k hk
    have h1 := hwA.lt hk
    have h2 : W.heap.size < k := by
      rcases hk with hk | hk | hk
      · have : k = wb := hk
        omega
      · have : k = rb := hk
        omega
      · exact (fp_nil _ hk).elim
    show (if k = 0 then 0 else if k < w.heap.size then t k else 1) = 5
    rw [if_neg (by omega), if_pos h1]
    exact t5 rfl k hk
  · intro k hk; exact (fp_nil _ hk).elim
  · have hz1 : (M.new ⟨wn, sn, st, wa, us⟩).ss.length = sn := by simp [M.new]
    have hz2 : (M.new ⟨wn, sn, st, wa, us⟩).ks.length = wn := by simp [M.new]
    rw [hz1, hz2]
    exact ⟨row.cell 0, row.cell 1, row.cell 2, row.cell 3, row.cell 4, row.cell 5, row.cell 6, row.cell 7, row.cell 8, row.cell 9, row.cell 10, row.frozen 7, row.frozen 8⟩
  · refine ⟨fun i s hs j v hv => ?_, fun i j hi hj => ?_⟩
    · have hi : i < sn := by have := (List.getElem?_eq_some_iff.1 hs).1; simpa [M.new] using this
      have hj : j < 9 := by have := (Array.getElem?_eq_some_iff.1 hv).1; simpa [S.cells] using this
      obtain rfl : s = S.zero := by have := List.mem_of_getElem? hs; simpa [M.new] using (List.mem_replicate.1 this).2
      exact (zero9 S.zero.cells rfl e2 i j hi hj).1.trans hv
    · exact (zero9 S.zero.cells rfl e2 i j (by simpa [M.new] using hi) hj).2
  · refine ⟨fun i s hs j v hv => ?_, fun i j hi hj => ?_⟩
    · have hi : i < wn := by have := (List.getElem?_eq_some_iff.1 hs).1; simpa [M.new] using this
      have hj : j < 9 := by have := (Array.getElem?_eq_some_iff.1 hv).1; simpa [Wk.cells] using this
      obtain rfl : s = Wk.zero := by have := List.mem_of_getElem? hs; simpa [M.new] using (List.mem_replicate.1 this).2
      exact (zero9 Wk.zero.cells rfl e3 i j hi hj).1.trans hv
    · exact (zero9 Wk.zero.cells rfl e3 i j (by simpa [M.new] using hi) hj).2
  · exact cell_of_row _ cb 0 #[.int .i64 0] _ (0, 0) e4
  · simp [World.frozen?, e4]
  · refine ⟨hc, by simp [M.new], by simp [M.new], fun s hs => ?_, fun x hx => by simp [M.new] at hx, by simp [M.new], fun k hk h2 => ?_, .inl rfl, by simp [M.new], by simp [M.new]⟩
    · obtain rfl : s = S.zero := by simpa [M.new] using (List.mem_replicate.1 hs).2
      exact zero_right
    · obtain rfl : k = Wk.zero := by simpa [M.new] using (List.mem_replicate.1 hk).2
      cases h2
  · rintro k (hk | hk | hk | hk | hk | hk)
    · have : k = w.heap.size := hk
      omega
    · have : k = sb := hk
      omega
    · have : k = kb := hk
      omega
    · have : k = cb := hk
      omega
    · rcases hk with hk | hk | hk
      · have : k = wb := hk
        omega
      · have : k = rb := hk
        omega
      · exact (fp_nil _ hk).elim
    · exact (fp_nil _ hk).elim

set_option maxRecDepth 100000 in
set_option maxHeartbeats 8000000 in
theorem m_new (W : World) (c : Conf.Cf) (hc : c.right = true) (hL : Laid W) : Calls Tryz.prog 12 #[c.val] W fun e W' =>
    ∃ p : Pl, e = .returned (.tuple #[.pointer (some ⟨p.mb, 0, none⟩), .int .i64 0]) ∧ MAt W' p (M.new c) ∧ (∀ k, mfp p k → W.heap.size ≤ k) ∧ Below W.heap.size W W' := by
  have hr := Conf.right_any (W.alloc (.cells c.cells 23)) c
  rw [hc] at hr
  obtain ⟨wo, sl, st, wa, us⟩ := c
  have hcc := hc
  simp [Conf.Cf.right, Conf.btw] at hcc
  obtain ⟨wn, rfl⟩ := Int.eq_ofNat_of_zero_le (show 0 ≤ wo by omega)
  obtain ⟨sn, rfl⟩ := Int.eq_ofNat_of_zero_le (show 0 ≤ sl by omega)
  have hsn : 1 ≤ sn ∧ sn ≤ 16 := by omega
  have hwn : 1 ≤ wn ∧ wn ≤ 8 := by omega
  have HC := Lib.hid hc
  clear hcc hc
  simp only [Conf.Cf.val, Conf.Cf.cells] at *
  have hB0 : Below W.heap.size W (W.alloc (.cells #[.int .i64 (wn : Int), .int .i64 (sn : Int), .int .i64 st, .int .i64 wa, .int .i64 us] 23)) := (Below.refl _ _).alloc (Nat.le_refl _) _
  have a0 : RowAt (W.alloc (.cells #[.int .i64 (wn : Int), .int .i64 (sn : Int), .int .i64 st, .int .i64 wa, .int .i64 us] 23)) W.heap.size #[.int .i64 (wn : Int), .int .i64 (sn : Int), .int .i64 st, .int .i64 wa, .int .i64 us] 23 := RowAt.new _ _ _
  go_enter Tryz.func12, Tryz.ntmps12
  go_wp2_with fail
  refine hr.mono ?_
  rintro e w1 ⟨rfl, hb1⟩
  have hB1 := hB0.trans (hb1.mono hB0.size)
  have a1 := a0.below hb1
  have hl1 : W.heap.size < w1.heap.size := (Array.getElem?_eq_some_iff.1 a1).1
  clear hr hb1 hB0 a0
  have LA : ∀ w', Below w1.heap.size w1 w' → RowAt w' W.heap.size #[.int .i64 (wn : Int), .int .i64 (sn : Int), .int .i64 st, .int .i64 wa, .int .i64 us] 23 := fun w' h => a1.below h
  have LA0 : ∀ w', Below w1.heap.size w1 w' → w'.cell? ⟨W.heap.size, 0, none⟩ = some (.int .i64 (wn : Int)) := fun w' h => (LA w' h).cell 0
  have LA1 : ∀ w', Below w1.heap.size w1 w' → w'.cell? ⟨W.heap.size, 1, none⟩ = some (.int .i64 (sn : Int)) := fun w' h => (LA w' h).cell 1
  have hKd : Below w1.heap.size w1 w1.drew := (Below.refl _ _).drew
  have hM0 : Mk W w1.drew wn sn false false false false 0 0 0 0 0 := ⟨hB1.drew, fun e => e, nofun, nofun, nofun, nofun, ⟨fun _ => 0, nofun, nofun, nofun, nofun⟩, hl1⟩
  go_wp2_with fail
  refine wp_region_held_drew (S := fun w' => Below w1.heap.size w1 w') (by kernel_rfl) (by exact hKd) (fun hHeld => ?_)
  refine take_of (i := 0) (d := some 7) (op := .load 23 (.tmp 1)) (gd := none) (v := .agg #[.int .i64 (wn : Int), .int .i64 (sn : Int), .int .i64 st, .int .i64 wa, .int .i64 us]) (by kernel_rfl) (by kernel_rfl) (by kernel_rfl) (by kernel_rfl) (fun _ _ _ h => h) (by kernel_rfl) (run_load_row 23 (.tmp 1) (W.heap.size) 23 #[.int .i64 (wn : Int), .int .i64 (sn : Int), .int .i64 st, .int .i64 wa, .int .i64 us] _ (by kernel_rfl) Tryz.underlying23 rfl (by kernel_rfl) LA) hHeld ?_
  try simp only [Act.put, List.setIfInBounds_toArray, List.set_cons_zero, List.set_cons_succ]
  refine takeg (i := 1) (d := some 8) (v := ?_) (by kernel_rfl) (by kernel_rfl) (by kernel_rfl) (by kernel_rfl) (fun _ _ _ h => h) (by kernel_rfl) ?_ hHeld ?_
  rotate_left
  · intro w hSw
    try dsimp only at hSw
    go_simp
    try with_reducible rfl
  try simp only [Act.put, List.setIfInBounds_toArray, List.set_cons_zero, List.set_cons_succ]
  refine takeg (i := 2) (d := some 9) (v := ?_) (by kernel_rfl) (by kernel_rfl) (by kernel_rfl) (by kernel_rfl) (fun _ _ _ h => h) (by kernel_rfl) ?_ hHeld ?_
  rotate_left
  · intro w hSw
    try dsimp only at hSw
    go_simp
    try with_reducible rfl
  try simp only [Act.put, List.setIfInBounds_toArray, List.set_cons_zero, List.set_cons_succ]
  refine takeg (i := 4) (d := some 11) (v := ?_) (by kernel_rfl) (by kernel_rfl) (by kernel_rfl) (by kernel_rfl) (fun _ _ _ h => h) (by kernel_rfl) ?_ hHeld ?_
  rotate_left
  · intro w hSw
    try dsimp only at hSw
    go_simp
    try with_reducible rfl
  try simp only [Act.put, List.setIfInBounds_toArray, List.set_cons_zero, List.set_cons_succ]
  refine takeg (i := 5) (d := some 12) (v := ?_) (by kernel_rfl) (by kernel_rfl) (by kernel_rfl) (by kernel_rfl) (fun _ _ _ h => h) (by kernel_rfl) ?_ hHeld ?_
  rotate_left
  · intro w hSw
    try dsimp only at hSw
    go_simp
    try with_reducible rfl
  try simp only [Act.put, List.setIfInBounds_toArray, List.set_cons_zero, List.set_cons_succ]
  have mkS := fun w => mk_slots sn hsn.1 hsn.2 w
  have mkW := fun w => mk_works wn hwn.1 hwn.2 w
  refine wpAnyH_inv2 (fun f l a w => ∃ (b3 b6 b7 b8 : Bool) (sb kb cb wb rb : Nat), (b3 && (b6 && (b7 && b8))) = false ∧ l = #[true, true, true, b3, true, true, b6, b7, b8, false, false, false, false] ∧ f = 4 + (cond b3 0 1 + cond b6 0 1 + cond b7 0 1 + cond b8 0 1) ∧ a = { tmps := #[.agg #[.int .i64 (wn : Int), .int .i64 (sn : Int), .int .i64 st, .int .i64 wa, .int .i64 us], .pointer (some ⟨W.heap.size, 0, none⟩), .pointer none, .int .i64 0, .agg #[.int .i64 (wn : Int), .int .i64 (sn : Int), .int .i64 st, .int .i64 wa, .int .i64 us], .bool true, .bool false, .agg #[.int .i64 (wn : Int), .int .i64 (sn : Int), .int .i64 st, .int .i64 wa, .int .i64 us], .pointer (some ⟨W.heap.size, 1, none⟩), .int .i64 (sn : Int), (cond b3 (.slice (some ⟨sb, 0, none⟩) sn sn) undef), .pointer (some ⟨W.heap.size, 0, none⟩), .int .i64 (wn : Int), (cond b6 (.slice (some ⟨kb, 0, none⟩) wn wn) undef), (cond b7 (.pointer (some ⟨cb, 0, none⟩)) undef), (cond b8 (.pointer (some ⟨wb, 0, none⟩)) undef), undef, undef], defers := [] } ∧ Below w1.heap.size w1 w ∧ Mk W w wn sn b3 b6 b7 b8 sb kb cb wb rb) (fun f l a w => ∃ (sb kb cb wb rb : Nat), l = #[true, true, true, true, true, true, true, true, true, false, false, false, false] ∧ f = 4 ∧ a = { tmps := #[.agg #[.int .i64 (wn : Int), .int .i64 (sn : Int), .int .i64 st, .int .i64 wa, .int .i64 us], .pointer (some ⟨W.heap.size, 0, none⟩), .pointer none, .int .i64 0, .agg #[.int .i64 (wn : Int), .int .i64 (sn : Int), .int .i64 st, .int .i64 wa, .int .i64 us], .bool true, .bool false, .agg #[.int .i64 (wn : Int), .int .i64 (sn : Int), .int .i64 st, .int .i64 wa, .int .i64 us], .pointer (some ⟨W.heap.size, 1, none⟩), .int .i64 (sn : Int), (.slice (some ⟨sb, 0, none⟩) sn sn), .pointer (some ⟨W.heap.size, 0, none⟩), .int .i64 (wn : Int), (.slice (some ⟨kb, 0, none⟩) wn wn), (.pointer (some ⟨cb, 0, none⟩)), (.pointer (some ⟨wb, 0, none⟩)), undef, undef], defers := [] } ∧ Below w1.heap.size w1 w ∧ Mk W w wn sn true true true true sb kb cb wb rb) ?hfin ?hne ?hst _ _ _ _ ⟨false, false, false, false, 0, 0, 0, 0, 0, rfl, rfl, rfl, rfl, hHeld, hM0⟩
  case hne =>
    rintro f l a w ⟨b3, b6, b7, b8, sb, kb, cb, wb, rb, hno, rfl, -, -, -, hM⟩
    have ho := hM.ord
    cases b3 <;> cases b6 <;> cases b7 <;> cases b8 <;> first | (cases hno; done) | (exact nomatch (show false = true from ho rfl)) | exact ne_of (by kernel_rfl)
  case hst =>
    rintro f l a w ⟨b3, b6, b7, b8, sb, kb, cb, wb, rb, hno, rfl, rfl, rfl, hb, hM⟩ i hi
    have ho := ready_open hi
    have hi' := hi
    rcases i with _ | _ | _ | _ | _ | _ | _ | _ | _ | _ | _ | _ | _ | i <;> simp at ho
    · subst ho
      refine ⟨4 + (cond b6 0 1 + cond b7 0 1 + cond b8 0 1), by simp [cond]; omega, ?_⟩
      refine wpOp_run (some 10) (.slice (some ⟨w.heap.size, 0, none⟩) sn sn) (by kernel_rfl) (by kernel_rfl) (by go_simp; try rfl) ?_
      have hb2 : Below w1.heap.size w1 (w.alloc (.cells (rowsOf S.zero.cells sn) 59)) := hb.alloc hb.size _
      by_cases hall : (b6 && (b7 && b8)) = true
      · simp only [Bool.and_eq_true] at hall
        obtain ⟨rfl, rfl, rfl⟩ := hall
        exact ⟨hb2, .inr ⟨w.heap.size, kb, cb, wb, rb, rfl, rfl, rfl, hb2, hM.adds⟩⟩
      · exact ⟨hb2, .inl ⟨true, b6, b7, b8, w.heap.size, kb, cb, wb, rb, by revert hall; cases b6 <;> cases b7 <;> cases b8 <;> simp, rfl, by simp [cond], rfl, hb2, hM.adds⟩⟩
    · subst ho
      refine ⟨4 + (cond b3 0 1 + cond b7 0 1 + cond b8 0 1), by simp [cond]; omega, ?_⟩
      refine wpOp_run (some 13) (.slice (some ⟨w.heap.size, 0, none⟩) wn wn) (by kernel_rfl) (by kernel_rfl) (by go_simp; try rfl) ?_
      have hb2 : Below w1.heap.size w1 (w.alloc (.cells (rowsOf Wk.zero.cells wn) 94)) := hb.alloc hb.size _
      by_cases hall : (b3 && (b7 && b8)) = true
      · simp only [Bool.and_eq_true] at hall
        obtain ⟨rfl, rfl, rfl⟩ := hall
        exact ⟨hb2, .inr ⟨sb, w.heap.size, cb, wb, rb, rfl, rfl, rfl, hb2, hM.addk⟩⟩
      · exact ⟨hb2, .inl ⟨b3, true, b7, b8, sb, w.heap.size, cb, wb, rb, by revert hall; cases b3 <;> cases b7 <;> cases b8 <;> simp, rfl, by simp [cond], rfl, hb2, hM.addk⟩⟩
    · subst ho
      refine ⟨4 + (cond b3 0 1 + cond b6 0 1 + cond b8 0 1), by simp [cond]; omega, ?_⟩
      have hb8 : b8 = false := by cases b8 with
        | false => rfl
        | true => exact absurd (hM.ord rfl) (by simp)
      subst hb8
      refine wpOp_call 35 #[] #[] (some 14) none (by kernel_rfl) (by kernel_rfl) #[] (by kernel_rfl) (enters_of Tryz.func35 (by kernel_rfl) rfl) ?_
      refine (Clock.new_any w).mono ?_
      rintro e w' ⟨rfl, rfl⟩
      have hb2 : Below w1.heap.size w1 (w.alloc (.cells #[.int .i64 0] 114)) := hb.alloc hb.size _
      exact ⟨_, rfl, hb2, .inl ⟨b3, b6, true, false, sb, kb, w.heap.size, wb, rb, by cases b3 <;> cases b6 <;> simp, rfl, by simp [cond], rfl, hb2, hM.addc⟩⟩
    · subst ho
      cases b7
      · exact (by cases b3 <;> cases b6 <;> exact not_in hi' (by kernel_rfl) : False).elim
      refine ⟨4 + (cond b3 0 1 + cond b6 0 1), by simp [cond]; omega, ?_⟩
      refine wpOp_call 36 #[] #[] (some 15) none (by kernel_rfl) (by kernel_rfl) #[] (by kernel_rfl) (enters_of Tryz.func36 (by kernel_rfl) rfl) ?_
      refine (World11.new_any w).mono ?_
      rintro e w' ⟨rfl, hA, hbw⟩
      have hb2 : Below w1.heap.size w1 w' := hb.trans (hbw.mono hb.size)
      by_cases hall : (b3 && b6) = true
      · simp only [Bool.and_eq_true] at hall
        obtain ⟨rfl, rfl⟩ := hall
        exact ⟨_, rfl, hb2, .inr ⟨sb, kb, cb, w.heap.size + 1, w.heap.size, rfl, rfl, rfl, hb2, hM.addw hA hbw⟩⟩
      · exact ⟨_, rfl, hb2, .inl ⟨b3, b6, true, true, sb, kb, cb, w.heap.size + 1, w.heap.size, by revert hall; cases b3 <;> cases b6 <;> simp, rfl, by simp [cond], rfl, hb2, hM.addw hA hbw⟩⟩
    · exact (by cases b3 <;> cases b6 <;> cases b7 <;> cases b8 <;> first | (cases hno; done) | (exact nomatch (show false = true from hM.ord rfl)) | exact not_in hi' (by kernel_rfl) : False).elim
    · exact (by cases b3 <;> cases b6 <;> cases b7 <;> cases b8 <;> first | (cases hno; done) | (exact nomatch (show false = true from hM.ord rfl)) | exact not_in hi' (by kernel_rfl) : False).elim
    · exact (by cases b3 <;> cases b6 <;> cases b7 <;> cases b8 <;> first | (cases hno; done) | (exact nomatch (show false = true from hM.ord rfl)) | exact not_in hi' (by kernel_rfl) : False).elim
    · exact (by cases b3 <;> cases b6 <;> cases b7 <;> cases b8 <;> first | (cases hno; done) | (exact nomatch (show false = true from hM.ord rfl)) | exact not_in hi' (by kernel_rfl) : False).elim
  case hfin =>
    rintro f l a w ⟨sb, kb, cb, wb, rb, rfl, rfl, rfl, hb, hM⟩
    clear mkS mkW
    try dsimp only [cond]
    refine takeg (i := 9) (d := some 16) (v := ?_) (by kernel_rfl) (by kernel_rfl) (by kernel_rfl) (by kernel_rfl) (fun _ _ _ h => h) (by kernel_rfl) ?_ hb ?_
    rotate_left
    · intro w hSw
      try dsimp only at hSw
      go_simp
      try with_reducible rfl
    try simp only [Act.put, List.setIfInBounds_toArray, List.set_cons_zero, List.set_cons_succ]
    have hb2 : Below w1.heap.size w1 (w.alloc (.cells #[.int .i64 (wn : Int), .int .i64 (sn : Int), .int .i64 st, .int .i64 wa, .int .i64 us, .slice (some ⟨sb, 0, none⟩) sn sn, .slice (some ⟨kb, 0, none⟩) wn wn, .slice none 0 0, .int .i64 0, .pointer (some ⟨cb, 0, none⟩), .pointer (some ⟨wb, 0, none⟩)] 85)) := hb.alloc hb.size _
    refine ready1 (i := 10) (by kernel_rfl) (step_run (some 17) (.pointer (some ⟨w.heap.size, 0, none⟩)) (by kernel_rfl) (by kernel_rfl) (by go_simp; try rfl) hb2 (fun _ => ?_))
    try simp only [Act.put, List.setIfInBounds_toArray, List.set_cons_zero, List.set_cons_succ]
    have hA := mk_mat hL HC.out hM
    generalize hwz : w.alloc (.cells #[.int .i64 (wn : Int), .int .i64 (sn : Int), .int .i64 st, .int .i64 wa, .int .i64 us, .slice (some ⟨sb, 0, none⟩) sn sn, .slice (some ⟨kb, 0, none⟩) wn wn, .slice none 0 0, .int .i64 0, .pointer (some ⟨cb, 0, none⟩), .pointer (some ⟨wb, 0, none⟩)] 85) = w9 at *
    clear hwz
    refine takeg (i := 11) (d := some 2) (v := ?_) (by kernel_rfl) (by kernel_rfl) (by kernel_rfl) (by kernel_rfl) (fun _ _ _ h => h) (by kernel_rfl) ?_ hb2 ?_
    rotate_left
    · intro w hSw
      try dsimp only at hSw
      go_simp
      try with_reducible rfl
    try simp only [Act.put, List.setIfInBounds_toArray, List.set_cons_zero, List.set_cons_succ]
    refine takeg (i := 12) (d := some 3) (v := ?_) (by kernel_rfl) (by kernel_rfl) (by kernel_rfl) (by kernel_rfl) (fun _ _ _ h => h) (by kernel_rfl) ?_ hb2 ?_
    rotate_left
    · intro w hSw
      try dsimp only at hSw
      go_simp
      try with_reducible rfl
    try simp only [Act.put, List.setIfInBounds_toArray, List.set_cons_zero, List.set_cons_succ]
    refine wpAnyH_done (by kernel_rfl) ?_ _
    have HA := Lib.hid hA
    clear hA
    go_wp2_with fail
    go_ret2
    exact HA.out
end Go.Proofs.YtpmkgddjgebojaaGreatDoor.Mod

namespace Go.Proofs.YtpmkgddjgebojaaGreatDoor.Mod
set_option linter.unusedVariables false
set_option linter.unusedSimpArgs false
open Go.RowKit Hp Slot RowL Life

theorem owns_zero {m : M} {who : Int} {a : Ask} (h : m.owns who a = 0) : m.closed ≠ 2 ∧ ∃ (n : Nat) (s : S), a.slot = n ∧ m.ss[n]? = some s ∧ s.state = 3 ∧ s.own = who ∧ s.gen = a.gen := by
  unfold M.owns at h
  split at h
  · cases h
  rename_i h1
  split at h
  · cases h
  rename_i h2
  split at h
  · cases h
  rename_i h3
  obtain ⟨n, hn⟩ := Int.eq_ofNat_of_zero_le (show 0 ≤ a.slot by omega)
  obtain ⟨s, hs⟩ : ∃ s, m.ss[n]? = some s := ⟨_, List.getElem?_eq_getElem (by omega)⟩
  rw [hn, Int.toNat_natCast, M.slot_of hs] at h3
  exact ⟨h1, n, s, hn, hs, by omega, by omega, by omega⟩

set_option maxRecDepth 100000 in
set_option maxHeartbeats 8000000 in
theorem m_give {W : World} {p : Pl} {m : M} (h : MAt W p m) (who : Int) (a : Ask) (dis : Bool) :
    Calls Tryz.prog 69 #[.pointer (some ⟨p.mb, 0, none⟩), .int .i64 who, a.val, .bool dis] W (MPost W p (m.give who a dis).1.val (m.give who a dis).2) := by
  have hE : ∀ o, m.give who a dis = o → True := fun _ _ => trivial
  have hR : RowKit.Hid (m.give who a dis = if m.owns who a ≠ 0 then (M.failed (m.owns who a), m) else if (m.slot a.slot.toNat).streams ≠ 0 ∧ dis = false then (M.failed 8, m) else (Ev.zero, if dis = true ∨ (m.slot a.slot.toNat).broken = true ∨ m.cf.uses ≤ (m.slot a.slot.toNat).uses ∨ m.closed ≠ 0 then m.empty a.slot.toNat else m.turn a.slot.toNat 4 who 0)) := rfl
  generalize m.give who a dis = R at *
  have hlt : p.mb < W.heap.size := h.lt (.inl rfl)
  have hos : RowKit.Hid (m.owns who a = 0 → m.closed ≠ 2 ∧ ∃ (n : Nat) (s : S), a.slot = n ∧ m.ss[n]? = some s ∧ s.state = 3 ∧ s.own = who ∧ s.gen = a.gen) := fun h => owns_zero h
  have how := fun W (h : MAt W p m) => m_owns h who a
  generalize m.owns who a = q at *
  obtain ⟨op, dl, wt, fo, sl, ge, st⟩ := a
  simp only [Ask.val, Ask.cells] at *
  have hB : Below W.heap.size W ((W.alloc (.cells #[.int .i64 op, .int .i64 dl, .bool wt, .bool fo, .int .i64 sl, .int .i64 ge, .int .i64 st] 25)).alloc (.cells ev0 36)) := ((Below.refl _ _).alloc (Nat.le_refl _) _).alloc (by simp) _
  have r0 : Re W.heap.size ((W.alloc (.cells #[.int .i64 op, .int .i64 dl, .bool wt, .bool fo, .int .i64 sl, .int .i64 ge, .int .i64 st] 25)).alloc (.cells ev0 36)) p ((W.alloc (.cells #[.int .i64 op, .int .i64 dl, .bool wt, .bool fo, .int .i64 sl, .int .i64 ge, .int .i64 st] 25)).alloc (.cells ev0 36)) p m := Re.begin h hB
  have e0 : ERow ((W.alloc (.cells #[.int .i64 op, .int .i64 dl, .bool wt, .bool fo, .int .i64 sl, .int .i64 ge, .int .i64 st] 25)).alloc (.cells ev0 36)) (W.heap.size + 1) := ⟨ev0, rfl, by have := RowAt.new (W.alloc (.cells #[.int .i64 op, .int .i64 dl, .bool wt, .bool fo, .int .i64 sl, .int .i64 ge, .int .i64 st] 25)) ev0 36; simpa using this⟩
  have hg1 : W.heap.size + 1 < ((W.alloc (.cells #[.int .i64 op, .int .i64 dl, .bool wt, .bool fo, .int .i64 sl, .int .i64 ge, .int .i64 st] 25)).alloc (.cells ev0 36)).heap.size := by simp
  have hg0 : W.heap.size ≤ W.heap.size + 1 := by omega
  have a0 : RowAt ((W.alloc (.cells #[.int .i64 op, .int .i64 dl, .bool wt, .bool fo, .int .i64 sl, .int .i64 ge, .int .i64 st] 25)).alloc (.cells ev0 36)) W.heap.size #[.int .i64 op, .int .i64 dl, .bool wt, .bool fo, .int .i64 sl, .int .i64 ge, .int .i64 st] 25 := heap_alloc2_old W _ _
  have ho := how _ r0.at'
  clear how hE
  go_enter Tryz.func69, Tryz.ntmps69
  go_wp2_with fail
  refine ho.mono ?_
  rintro e w1 ⟨rfl, hb1⟩
  have r1 := r0.below hb1
  have e1 := e0.below hb1
  have a1 := a0.below hb1
  clear ho hb1 r0 e0 a0 h
  by_cases hq : q = 0
  rotate_left
  · have hq' : (q != 0) = true := by simp [hq]
    have HR2 : RowKit.Hid (R = (M.failed q, m)) := Lib.hid (by rw [hR.out, if_pos hq])
    have hfl := fun W => failed_any W q
    have hf : M.failed q = { Ev.zero with e := q } := rfl
    rw [← hf] at hfl
    generalize M.failed q = x at *
    clear hq hf hR hos a1
    go_wp2_with fail
    refine (hfl _).mono ?_
    rintro e w2 ⟨rfl, hb2⟩
    have r2 := r1.below hb2
    have e2 := e1.below hb2
    have hst := e2.store x
    have hsz := ev_size x
    clear hfl hb2 r1 e1
    go_wp2_with fail
    refine bodyPost_ret (results_row rfl _ _ (W.heap.size + 1) _ _ _ rfl (e2.set x) Tryz.underlying36 rfl (by kernel_rfl)) rfl ?_
    rw [HR2.out]
    exact (r2.row hg0 hg1 x.cells).fin hB _
  have hq' : (q != 0) = false := by simp [hq]
  obtain ⟨hcl2, n, s, hn, hs, hs3, hso, hsg⟩ := hos.out hq
  try simp only at hn hsg
  subst hn
  have HS := Lib.hid hs
  have hsl : m.slot n = s := M.slot_of hs
  have HR := Lib.hid hR.out
  rw [if_neg (by simp [hq])] at HR
  try simp only [Int.toNat_natCast, hsl] at HR
  have hil : n < m.ss.length := (List.getElem?_eq_some_iff.1 hs).1
  have hns := r1.at'.ok.ns
  have b0 : (0 : Int) ≤ (n : Int) := by omega
  have b1 : (n : Int) < (m.ss.length : Int) := by omega
  have b2 : (n : Int) ≤ (m.ss.length : Int) - 1 := by omega
  clear hos hR hq hs hsl hil
  have k5 := r1.at'.hd.c5
  rw [r1.mb, r1.sb] at k5
  have kA : w1.cell? ⟨W.heap.size, 4, none⟩ = some (.int .i64 n) := a1.cell 4
  have hd := r1.at'.slots.get HS.out
  rw [r1.sb] at hd
  obtain ⟨s0, s1, s2, s3, s4, s5, s6, s7, s8⟩ := s
  try simp only at hs3 hso hsg HR hd
  have HS3 := Lib.hid hs3
  have HSO := Lib.hid hso
  have HSG := Lib.hid hsg
  clear hs3 hso hsg
  obtain ⟨d0, d1, d2, d3, d4, d5, d6, d7, d8⟩ := hd
  have L5 : ∀ w', Below w1.heap.size w1 w' → w'.cell? ⟨p.mb, 5, none⟩ = some (.slice (some ⟨p.sb, 0, none⟩) m.ss.length m.ss.length) := fun w' h => Field.bkeep h k5
  have LA : ∀ w', Below w1.heap.size w1 w' → w'.cell? ⟨W.heap.size, 4, none⟩ = some (.int .i64 n) := fun w' h => Field.bkeep h kA
  have Ls0 : ∀ w', Below w1.heap.size w1 w' → w'.cell? ⟨p.sb, n * 9, none⟩ = some (.int .i64 s0) := fun w' h => Field.bkeep h d0
  have Ls1 : ∀ w', Below w1.heap.size w1 w' → w'.cell? ⟨p.sb, n * 9 + 1, none⟩ = some (.int .i64 s1) := fun w' h => Field.bkeep h d1
  have Ls2 : ∀ w', Below w1.heap.size w1 w' → w'.cell? ⟨p.sb, n * 9 + 2, none⟩ = some (.int .i64 s2) := fun w' h => Field.bkeep h d2
  have Ls3 : ∀ w', Below w1.heap.size w1 w' → w'.cell? ⟨p.sb, n * 9 + 3, none⟩ = some (.bool s3) := fun w' h => Field.bkeep h d3
  have Ls4 : ∀ w', Below w1.heap.size w1 w' → w'.cell? ⟨p.sb, n * 9 + 4, none⟩ = some (.bool s4) := fun w' h => Field.bkeep h d4
  have Ls5 : ∀ w', Below w1.heap.size w1 w' → w'.cell? ⟨p.sb, n * 9 + 5, none⟩ = some (.int .i64 s5) := fun w' h => Field.bkeep h d5
  have Ls6 : ∀ w', Below w1.heap.size w1 w' → w'.cell? ⟨p.sb, n * 9 + 6, none⟩ = some (.int .i64 s6) := fun w' h => Field.bkeep h d6
  have Ls7 : ∀ w', Below w1.heap.size w1 w' → w'.cell? ⟨p.sb, n * 9 + 7, none⟩ = some (.int .i64 s7) := fun w' h => Field.bkeep h d7
  have Ls8 : ∀ w', Below w1.heap.size w1 w' → w'.cell? ⟨p.sb, n * 9 + 8, none⟩ = some (.int .i64 s8) := fun w' h => Field.bkeep h d8
  have hKd : Below w1.heap.size w1 w1.drew := (Below.refl _ _).drew
  clear d0 d1 d2 d3 d4 d5 d6 d7 d8 kA k5
  go_wp2_with fail
  go_region_held3 (fun w' => Below w1.heap.size w1 w') (first | assumption | exact ((Below.refl _ _).alloc (Nat.le_refl _) _) | exact ((Below.refl _ _).alloc (Nat.le_refl _) _).drew | exact ((Below.refl _ _).drew.alloc (Nat.le_refl _) _)) (fail)
  clear L5 LA Ls0 Ls1 Ls2 Ls3 Ls4 Ls5 Ls6 Ls7 Ls8 b0 b1 b2 hKd
  have hb2 : Below w1.heap.size w1 ((w1.alloc (.cells #[.int .i64 s0, .int .i64 s1, .int .i64 s2, .bool s3, .bool s4, .int .i64 s5, .int .i64 s6, .int .i64 s7, .int .i64 s8] 59)).drew) := ((Below.refl _ _).alloc (Nat.le_refl _) _).drew
  have r2 := r1.below hb2
  have e2 := e1.below hb2
  have a2 := a1.below hb2
  have q2 : RowAt ((w1.alloc (.cells #[.int .i64 s0, .int .i64 s1, .int .i64 s2, .bool s3, .bool s4, .int .i64 s5, .int .i64 s6, .int .i64 s7, .int .i64 s8] 59)).drew) w1.heap.size #[.int .i64 s0, .int .i64 s1, .int .i64 s2, .bool s3, .bool s4, .int .i64 s5, .int .i64 s6, .int .i64 s7, .int .i64 s8] 59 := RowAt.new w1 _ _
  have hgs : W.heap.size + 1 < w1.heap.size := by have := r1.size; simp at this; omega
  clear hb2 r1 e1 a1
  generalize hwz : (w1.alloc (.cells #[.int .i64 s0, .int .i64 s1, .int .i64 s2, .bool s3, .bool s4, .int .i64 s5, .int .i64 s6, .int .i64 s7, .int .i64 s8] 59)).drew = w2 at *
  clear hwz
  have kS : w2.cell? ⟨w1.heap.size, 2, none⟩ = some (.int .i64 s2) := q2.cell 2
  have kb : w2.cell? ⟨w1.heap.size, 3, none⟩ = some (.bool s3) := q2.cell 3
  have kU : w2.cell? ⟨w1.heap.size, 5, none⟩ = some (.int .i64 s5) := q2.cell 5
  by_cases hst0 : s2 = 0
  · have hs0' : (s2 != 0) = false := by simp [hst0]
    have HR : RowKit.Hid (R = (Ev.zero, if dis = true ∨ s3 = true ∨ m.cf.uses ≤ s5 ∨ m.closed ≠ 0 then m.empty n else m.turn n 4 who 0)) := Lib.hid (by rw [HR.out, if_neg (by simp [hst0])])
    have kc := r2.at'.hd.c8
    have ku := r2.at'.hd.c4
    rw [r2.mb] at kc ku
    cases dis
    · cases s3
      · by_cases hu : m.cf.uses ≤ s5
        · have hu' : decide (m.cf.uses ≤ s5) = true := by simpa using hu
          have HR2 : RowKit.Hid (R = (Ev.zero, m.empty n)) := Lib.hid (by rw [HR.out, if_pos (by simp [hu])])
          clear hu HR hst0
          go_wp2_with fail
          go_quiet (fail)
          clear kc ku kb kU kS
          have hb3 : Below w2.heap.size w2 (w2.drewN nq) := bdrewN (Below.refl _ _) nq
          have r3 := r2.below hb3
          have e3 := e2.below hb3
          have a3 := a2.below hb3
          have kA := a3.cell 4
          generalize hwz : w2.drewN nq = w3 at *
          clear hwz hb3 r2 e2 a2
          go_wp2_with fail
          have hem := m_empty r3.at' n n _ HS.out rfl
          rw [r3.mb] at hem
          refine hem.mono ?_
          rintro e w4 ⟨⟨v4, rfl⟩, h4, hc4⟩
          have r4 := r3.slots h4 hc4
          have e4 := e3.chg hc4 (fun e => r3.not hg0 hg1 (.inr (.inl e)))
          clear hem h4 hc4 r3 e3 a3 kA
          go_upto_region 10 with (fail)
          obtain ⟨Z, z1, z2⟩ := e4
          refine wp_region_lit ?_
          refine RowL.wpList_run rfl (Ev.zero).val (by go_simp; try rfl) ?_
          refine RowL.wpList_store_row rfl 36 (.tmp 8) (.tmp 66) rfl (W.heap.size + 1) _ Z (Ev.zero).cells rfl rfl z2 z1 (by kernel_rfl) (ev_one _) ?_
          go_wp2_with fail
          refine bodyPost_ret (results_row rfl _ _ (W.heap.size + 1) _ _ _ rfl (z2.set _) Tryz.underlying36 rfl (by kernel_rfl)) rfl ?_
          rw [HR2.out]
          exact (r4.row hg0 hg1 _).fin hB _
        · have hu' : decide (m.cf.uses ≤ s5) = false := by simpa using hu
          by_cases hc : m.closed = 0
          · have hc' : (m.closed != 0) = false := by simp [hc]
            have HR2 : RowKit.Hid (R = (Ev.zero, m.turn n 4 who 0)) := Lib.hid (by rw [HR.out, if_neg (by simp [hc]; omega)])
            clear hc hu HR hst0
            go_wp2_with fail
            go_quiet (fail)
            clear kc ku kb kU kS
            have hb3 : Below w2.heap.size w2 (w2.drewN nq) := bdrewN (Below.refl _ _) nq
            have r3 := r2.below hb3
            have e3 := e2.below hb3
            have a3 := a2.below hb3
            have kA := a3.cell 4
            generalize hwz : w2.drewN nq = w3 at *
            clear hwz hb3 r2 e2 a2
            go_wp2_with fail
            have hem := m_turn' r3.at' n 4 n 4 who 0 _ HS.out rfl rfl (by simp [Done])
            rw [r3.mb] at hem
            refine hem.mono ?_
            rintro e w4 ⟨rfl, h4, hc4⟩
            have r4 := r3.slots h4 hc4
            have e4 := e3.chg hc4 (fun e => r3.not hg0 hg1 (.inr (.inl e)))
            clear hem h4 hc4 r3 e3 a3 kA
            go_upto_region 10 with (fail)
            obtain ⟨Z, z1, z2⟩ := e4
            refine wp_region_lit ?_
            refine RowL.wpList_run rfl (Ev.zero).val (by go_simp; try rfl) ?_
            refine RowL.wpList_store_row rfl 36 (.tmp 8) (.tmp 66) rfl (W.heap.size + 1) _ Z (Ev.zero).cells rfl rfl z2 z1 (by kernel_rfl) (ev_one _) ?_
            go_wp2_with fail
            refine bodyPost_ret (results_row rfl _ _ (W.heap.size + 1) _ _ _ rfl (z2.set _) Tryz.underlying36 rfl (by kernel_rfl)) rfl ?_
            rw [HR2.out]
            exact (r4.row hg0 hg1 _).fin hB _
          · have hc' : (m.closed != 0) = true := by simp [hc]
            have HR2 : RowKit.Hid (R = (Ev.zero, m.empty n)) := Lib.hid (by rw [HR.out, if_pos (by simp [hc])])
            clear hc hu HR hst0
            go_wp2_with fail
            go_quiet (fail)
            clear kc ku kb kU kS
            have hb3 : Below w2.heap.size w2 (w2.drewN nq) := bdrewN (Below.refl _ _) nq
            have r3 := r2.below hb3
            have e3 := e2.below hb3
            have a3 := a2.below hb3
            have kA := a3.cell 4
            generalize hwz : w2.drewN nq = w3 at *
            clear hwz hb3 r2 e2 a2
            go_wp2_with fail
            have hem := m_empty r3.at' n n _ HS.out rfl
            rw [r3.mb] at hem
            refine hem.mono ?_
            rintro e w4 ⟨⟨v4, rfl⟩, h4, hc4⟩
            have r4 := r3.slots h4 hc4
            have e4 := e3.chg hc4 (fun e => r3.not hg0 hg1 (.inr (.inl e)))
            clear hem h4 hc4 r3 e3 a3 kA
            go_upto_region 10 with (fail)
            obtain ⟨Z, z1, z2⟩ := e4
            refine wp_region_lit ?_
            refine RowL.wpList_run rfl (Ev.zero).val (by go_simp; try rfl) ?_
            refine RowL.wpList_store_row rfl 36 (.tmp 8) (.tmp 66) rfl (W.heap.size + 1) _ Z (Ev.zero).cells rfl rfl z2 z1 (by kernel_rfl) (ev_one _) ?_
            go_wp2_with fail
            refine bodyPost_ret (results_row rfl _ _ (W.heap.size + 1) _ _ _ rfl (z2.set _) Tryz.underlying36 rfl (by kernel_rfl)) rfl ?_
            rw [HR2.out]
            exact (r4.row hg0 hg1 _).fin hB _
      · have HR2 : RowKit.Hid (R = (Ev.zero, m.empty n)) := Lib.hid (by rw [HR.out, if_pos (by simp)])
        clear HR hst0
        go_wp2_with fail
        go_quiet (fail)
        clear kc ku kb kU kS
        have hb3 : Below w2.heap.size w2 (w2.drewN nq) := bdrewN (Below.refl _ _) nq
        have r3 := r2.below hb3
        have e3 := e2.below hb3
        have a3 := a2.below hb3
        have kA := a3.cell 4
        generalize hwz : w2.drewN nq = w3 at *
        clear hwz hb3 r2 e2 a2
        go_wp2_with fail
        have hem := m_empty r3.at' n n _ HS.out rfl
        rw [r3.mb] at hem
        refine hem.mono ?_
        rintro e w4 ⟨⟨v4, rfl⟩, h4, hc4⟩
        have r4 := r3.slots h4 hc4
        have e4 := e3.chg hc4 (fun e => r3.not hg0 hg1 (.inr (.inl e)))
        clear hem h4 hc4 r3 e3 a3 kA
        go_upto_region 10 with (fail)
        obtain ⟨Z, z1, z2⟩ := e4
        refine wp_region_lit ?_
        refine RowL.wpList_run rfl (Ev.zero).val (by go_simp; try rfl) ?_
        refine RowL.wpList_store_row rfl 36 (.tmp 8) (.tmp 66) rfl (W.heap.size + 1) _ Z (Ev.zero).cells rfl rfl z2 z1 (by kernel_rfl) (ev_one _) ?_
        go_wp2_with fail
        refine bodyPost_ret (results_row rfl _ _ (W.heap.size + 1) _ _ _ rfl (z2.set _) Tryz.underlying36 rfl (by kernel_rfl)) rfl ?_
        rw [HR2.out]
        exact (r4.row hg0 hg1 _).fin hB _
    · have HR2 : RowKit.Hid (R = (Ev.zero, m.empty n)) := Lib.hid (by rw [HR.out, if_pos (by simp)])
      clear HR hst0
      go_wp2_with fail
      go_quiet (fail)
      clear kc ku kb kU kS
      have hb3 : Below w2.heap.size w2 (w2.drewN nq) := bdrewN (Below.refl _ _) nq
      have r3 := r2.below hb3
      have e3 := e2.below hb3
      have a3 := a2.below hb3
      have kA := a3.cell 4
      generalize hwz : w2.drewN nq = w3 at *
      clear hwz hb3 r2 e2 a2
      go_wp2_with fail
      have hem := m_empty r3.at' n n _ HS.out rfl
      rw [r3.mb] at hem
      refine hem.mono ?_
      rintro e w4 ⟨⟨v4, rfl⟩, h4, hc4⟩
      have r4 := r3.slots h4 hc4
      have e4 := e3.chg hc4 (fun e => r3.not hg0 hg1 (.inr (.inl e)))
      clear hem h4 hc4 r3 e3 a3 kA
      go_upto_region 10 with (fail)
      obtain ⟨Z, z1, z2⟩ := e4
      refine wp_region_lit ?_
      refine RowL.wpList_run rfl (Ev.zero).val (by go_simp; try rfl) ?_
      refine RowL.wpList_store_row rfl 36 (.tmp 8) (.tmp 66) rfl (W.heap.size + 1) _ Z (Ev.zero).cells rfl rfl z2 z1 (by kernel_rfl) (ev_one _) ?_
      go_wp2_with fail
      refine bodyPost_ret (results_row rfl _ _ (W.heap.size + 1) _ _ _ rfl (z2.set _) Tryz.underlying36 rfl (by kernel_rfl)) rfl ?_
      rw [HR2.out]
      exact (r4.row hg0 hg1 _).fin hB _
  · have hs0' : (s2 != 0) = true := by simp [hst0]
    cases dis
    · have HR2 : RowKit.Hid (R = (M.failed 8, m)) := Lib.hid (by rw [HR.out, if_pos ⟨hst0, rfl⟩])
      clear HR hst0
      have hfl := fun W => failed_any W 8
      have hf : M.failed 8 = { Ev.zero with e := 8 } := rfl
      rw [← hf] at hfl
      generalize M.failed 8 = x at *
      clear hf
      go_wp2_with fail
      refine (hfl _).mono ?_
      rintro e w3 ⟨rfl, hb3⟩
      have r3 := r2.below hb3
      have e3 := e2.below hb3
      have hst := e3.store x
      have hsz := ev_size x
      clear hfl hb3
      go_wp2_with fail
      refine bodyPost_ret (results_row rfl _ _ (W.heap.size + 1) _ _ _ rfl (e3.set x) Tryz.underlying36 rfl (by kernel_rfl)) rfl ?_
      rw [HR2.out]
      exact (r3.row hg0 hg1 x.cells).fin hB _
    · have HR : RowKit.Hid (R = (Ev.zero, m.empty n)) := Lib.hid (by rw [HR.out, if_neg (by simp), if_pos (.inl rfl)])
      have HR2 := HR
      have kc := r2.at'.hd.c8
      have ku := r2.at'.hd.c4
      rw [r2.mb] at kc ku
      clear HR hst0
      go_wp2_with fail
      go_quiet (fail)
      clear kc ku kb kU kS
      have hb3 : Below w2.heap.size w2 (w2.drewN nq) := bdrewN (Below.refl _ _) nq
      have r3 := r2.below hb3
      have e3 := e2.below hb3
      have a3 := a2.below hb3
      have kA := a3.cell 4
      generalize hwz : w2.drewN nq = w3 at *
      clear hwz hb3 r2 e2 a2
      go_wp2_with fail
      have hem := m_empty r3.at' n n _ HS.out rfl
      rw [r3.mb] at hem
      refine hem.mono ?_
      rintro e w4 ⟨⟨v4, rfl⟩, h4, hc4⟩
      have r4 := r3.slots h4 hc4
      have e4 := e3.chg hc4 (fun e => r3.not hg0 hg1 (.inr (.inl e)))
      clear hem h4 hc4 r3 e3 a3 kA
      go_upto_region 10 with (fail)
      obtain ⟨Z, z1, z2⟩ := e4
      refine wp_region_lit ?_
      refine RowL.wpList_run rfl (Ev.zero).val (by go_simp; try rfl) ?_
      refine RowL.wpList_store_row rfl 36 (.tmp 8) (.tmp 66) rfl (W.heap.size + 1) _ Z (Ev.zero).cells rfl rfl z2 z1 (by kernel_rfl) (ev_one _) ?_
      go_wp2_with fail
      refine bodyPost_ret (results_row rfl _ _ (W.heap.size + 1) _ _ _ rfl (z2.set _) Tryz.underlying36 rfl (by kernel_rfl)) rfl ?_
      rw [HR2.out]
      exact (r4.row hg0 hg1 _).fin hB _
end Go.Proofs.YtpmkgddjgebojaaGreatDoor.Mod

namespace Go.Proofs.YtpmkgddjgebojaaGreatDoor.Mod
set_option linter.unusedVariables false
set_option linter.unusedSimpArgs false
open Go.RowKit Hp Slot RowL Life

set_option maxRecDepth 100000 in
set_option maxHeartbeats 8000000 in
theorem m_open {W : World} {p : Pl} {m : M} (h : MAt W p m) (who : Int) (a : Ask) :
    Calls Tryz.prog 72 #[.pointer (some ⟨p.mb, 0, none⟩), .int .i64 who, a.val] W (MPost W p (m.openS who a).1.val (m.openS who a).2) := by
  have hE : ∀ o, m.openS who a = o → True := fun _ _ => trivial
  have hR : RowKit.Hid (m.openS who a = if m.owns who a ≠ 0 then (M.failed (m.owns who a), m) else if (m.slot a.slot.toNat).broken = true then (M.failed 9, m) else match lowFree (m.slot a.slot.toNat).streams m.cf.streams with | some n => ({ Ev.zero with stream := n }, m.turn a.slot.toNat 14 who m.cf.streams) | none => (M.failed 10, m)) := rfl
  generalize m.openS who a = R at *
  have hlt : p.mb < W.heap.size := h.lt (.inl rfl)
  have hos : RowKit.Hid (m.owns who a = 0 → m.closed ≠ 2 ∧ ∃ (n : Nat) (s : S), a.slot = n ∧ m.ss[n]? = some s ∧ s.state = 3 ∧ s.own = who ∧ s.gen = a.gen) := fun h => owns_zero h
  have how := fun W (h : MAt W p m) => m_owns h who a
  generalize m.owns who a = q at *
  obtain ⟨op, dl, wt, fo, sl, ge, st⟩ := a
  simp only [Ask.val, Ask.cells] at *
  have hB : Below W.heap.size W ((W.alloc (.cells #[.int .i64 op, .int .i64 dl, .bool wt, .bool fo, .int .i64 sl, .int .i64 ge, .int .i64 st] 25)).alloc (.cells ev0 36)) := ((Below.refl _ _).alloc (Nat.le_refl _) _).alloc (by simp) _
  have r0 : Re W.heap.size ((W.alloc (.cells #[.int .i64 op, .int .i64 dl, .bool wt, .bool fo, .int .i64 sl, .int .i64 ge, .int .i64 st] 25)).alloc (.cells ev0 36)) p ((W.alloc (.cells #[.int .i64 op, .int .i64 dl, .bool wt, .bool fo, .int .i64 sl, .int .i64 ge, .int .i64 st] 25)).alloc (.cells ev0 36)) p m := Re.begin h hB
  have e0 : ERow ((W.alloc (.cells #[.int .i64 op, .int .i64 dl, .bool wt, .bool fo, .int .i64 sl, .int .i64 ge, .int .i64 st] 25)).alloc (.cells ev0 36)) (W.heap.size + 1) := ⟨ev0, rfl, by have := RowAt.new (W.alloc (.cells #[.int .i64 op, .int .i64 dl, .bool wt, .bool fo, .int .i64 sl, .int .i64 ge, .int .i64 st] 25)) ev0 36; simpa using this⟩
  have hg1 : W.heap.size + 1 < ((W.alloc (.cells #[.int .i64 op, .int .i64 dl, .bool wt, .bool fo, .int .i64 sl, .int .i64 ge, .int .i64 st] 25)).alloc (.cells ev0 36)).heap.size := by simp
  have hg0 : W.heap.size ≤ W.heap.size + 1 := by omega
  have a0 : RowAt ((W.alloc (.cells #[.int .i64 op, .int .i64 dl, .bool wt, .bool fo, .int .i64 sl, .int .i64 ge, .int .i64 st] 25)).alloc (.cells ev0 36)) W.heap.size #[.int .i64 op, .int .i64 dl, .bool wt, .bool fo, .int .i64 sl, .int .i64 ge, .int .i64 st] 25 := heap_alloc2_old W _ _
  have ho := how _ r0.at'
  clear how hE
  go_enter Tryz.func72, Tryz.ntmps72
  go_wp2_with fail
  refine ho.mono ?_
  rintro e w1 ⟨rfl, hb1⟩
  have r1 := r0.below hb1
  have e1 := e0.below hb1
  have a1 := a0.below hb1
  clear ho hb1 r0 e0 a0 h
  by_cases hq : q = 0
  rotate_left
  · have hq' : (q != 0) = true := by simp [hq]
    have HR2 : RowKit.Hid (R = (M.failed q, m)) := Lib.hid (by rw [hR.out, if_pos hq])
    have hfl := fun W => failed_any W q
    have hf : M.failed q = { Ev.zero with e := q } := rfl
    rw [← hf] at hfl
    generalize M.failed q = x at *
    clear hq hf hR hos a1
    go_wp2_with fail
    refine (hfl _).mono ?_
    rintro e w2 ⟨rfl, hb2⟩
    have r2 := r1.below hb2
    have e2 := e1.below hb2
    have hst := e2.store x
    have hsz := ev_size x
    clear hfl hb2 r1 e1
    go_wp2_with fail
    refine bodyPost_ret (results_row rfl _ _ (W.heap.size + 1) _ _ _ rfl (e2.set x) Tryz.underlying36 rfl (by kernel_rfl)) rfl ?_
    rw [HR2.out]
    exact (r2.row hg0 hg1 x.cells).fin hB _
  have hq' : (q != 0) = false := by simp [hq]
  obtain ⟨hcl2, n, s, hn, hs, hs3, hso, hsg⟩ := hos.out hq
  try simp only at hn hsg
  subst hn
  have HS := Lib.hid hs
  have hsl : m.slot n = s := M.slot_of hs
  have HR := Lib.hid hR.out
  rw [if_neg (by simp [hq])] at HR
  try simp only [Int.toNat_natCast, hsl] at HR
  have hil : n < m.ss.length := (List.getElem?_eq_some_iff.1 hs).1
  have hns := r1.at'.ok.ns
  have b0 : (0 : Int) ≤ (n : Int) := by omega
  have b1 : (n : Int) < (m.ss.length : Int) := by omega
  have b2 : (n : Int) ≤ (m.ss.length : Int) - 1 := by omega
  clear hos hR hq hs hsl hil
  have k5 := r1.at'.hd.c5
  rw [r1.mb, r1.sb] at k5
  have kA : w1.cell? ⟨W.heap.size, 4, none⟩ = some (.int .i64 n) := a1.cell 4
  have hd := r1.at'.slots.get HS.out
  rw [r1.sb] at hd
  obtain ⟨s0, s1, s2, s3, s4, s5, s6, s7, s8⟩ := s
  try simp only at hs3 hso hsg HR hd
  have HS3 := Lib.hid hs3
  have HSO := Lib.hid hso
  have HSG := Lib.hid hsg
  clear hs3 hso hsg
  obtain ⟨d0, d1, d2, d3, d4, d5, d6, d7, d8⟩ := hd
  have L5 : ∀ w', Below w1.heap.size w1 w' → w'.cell? ⟨p.mb, 5, none⟩ = some (.slice (some ⟨p.sb, 0, none⟩) m.ss.length m.ss.length) := fun w' h => Field.bkeep h k5
  have LA : ∀ w', Below w1.heap.size w1 w' → w'.cell? ⟨W.heap.size, 4, none⟩ = some (.int .i64 n) := fun w' h => Field.bkeep h kA
  have Ls0 : ∀ w', Below w1.heap.size w1 w' → w'.cell? ⟨p.sb, n * 9, none⟩ = some (.int .i64 s0) := fun w' h => Field.bkeep h d0
  have Ls1 : ∀ w', Below w1.heap.size w1 w' → w'.cell? ⟨p.sb, n * 9 + 1, none⟩ = some (.int .i64 s1) := fun w' h => Field.bkeep h d1
  have Ls2 : ∀ w', Below w1.heap.size w1 w' → w'.cell? ⟨p.sb, n * 9 + 2, none⟩ = some (.int .i64 s2) := fun w' h => Field.bkeep h d2
  have Ls3 : ∀ w', Below w1.heap.size w1 w' → w'.cell? ⟨p.sb, n * 9 + 3, none⟩ = some (.bool s3) := fun w' h => Field.bkeep h d3
  have Ls4 : ∀ w', Below w1.heap.size w1 w' → w'.cell? ⟨p.sb, n * 9 + 4, none⟩ = some (.bool s4) := fun w' h => Field.bkeep h d4
  have Ls5 : ∀ w', Below w1.heap.size w1 w' → w'.cell? ⟨p.sb, n * 9 + 5, none⟩ = some (.int .i64 s5) := fun w' h => Field.bkeep h d5
  have Ls6 : ∀ w', Below w1.heap.size w1 w' → w'.cell? ⟨p.sb, n * 9 + 6, none⟩ = some (.int .i64 s6) := fun w' h => Field.bkeep h d6
  have Ls7 : ∀ w', Below w1.heap.size w1 w' → w'.cell? ⟨p.sb, n * 9 + 7, none⟩ = some (.int .i64 s7) := fun w' h => Field.bkeep h d7
  have Ls8 : ∀ w', Below w1.heap.size w1 w' → w'.cell? ⟨p.sb, n * 9 + 8, none⟩ = some (.int .i64 s8) := fun w' h => Field.bkeep h d8
  have hKd : Below w1.heap.size w1 w1.drew := (Below.refl _ _).drew
  clear d0 d1 d2 d3 d4 d5 d6 d7 d8 kA k5
  go_wp2_with fail
  go_region_held3 (fun w' => Below w1.heap.size w1 w') (first | assumption | exact ((Below.refl _ _).alloc (Nat.le_refl _) _) | exact ((Below.refl _ _).alloc (Nat.le_refl _) _).drew | exact ((Below.refl _ _).drew.alloc (Nat.le_refl _) _)) (fail)
  clear L5 LA Ls0 Ls1 Ls2 Ls3 Ls4 Ls5 Ls6 Ls7 Ls8 b0 b1 b2 hKd
  have hb2 : Below w1.heap.size w1 ((w1.alloc (.cells #[.int .i64 s0, .int .i64 s1, .int .i64 s2, .bool s3, .bool s4, .int .i64 s5, .int .i64 s6, .int .i64 s7, .int .i64 s8] 59)).drew) := ((Below.refl _ _).alloc (Nat.le_refl _) _).drew
  have r2 := r1.below hb2
  have e2 := e1.below hb2
  have a2 := a1.below hb2
  have q2 : RowAt ((w1.alloc (.cells #[.int .i64 s0, .int .i64 s1, .int .i64 s2, .bool s3, .bool s4, .int .i64 s5, .int .i64 s6, .int .i64 s7, .int .i64 s8] 59)).drew) w1.heap.size #[.int .i64 s0, .int .i64 s1, .int .i64 s2, .bool s3, .bool s4, .int .i64 s5, .int .i64 s6, .int .i64 s7, .int .i64 s8] 59 := RowAt.new w1 _ _
  have hgs : W.heap.size + 1 < w1.heap.size := by have := r1.size; simp at this; omega
  clear hb2 r1 e1 a1
  generalize hwz : (w1.alloc (.cells #[.int .i64 s0, .int .i64 s1, .int .i64 s2, .bool s3, .bool s4, .int .i64 s5, .int .i64 s6, .int .i64 s7, .int .i64 s8] 59)).drew = w2 at *
  clear hwz
  have kS : w2.cell? ⟨w1.heap.size, 2, none⟩ = some (.int .i64 s2) := q2.cell 2
  have kb : w2.cell? ⟨w1.heap.size, 3, none⟩ = some (.bool s3) := q2.cell 3
  have kU : w2.cell? ⟨w1.heap.size, 5, none⟩ = some (.int .i64 s5) := q2.cell 5
  cases s3
  rotate_left
  · have HR2 : RowKit.Hid (R = (M.failed 9, m)) := Lib.hid (by rw [HR.out, if_pos rfl])
    clear HR
    have hfl := fun W => failed_any W 9
    have hf : M.failed 9 = { Ev.zero with e := 9 } := rfl
    rw [← hf] at hfl
    generalize M.failed 9 = x at *
    clear hf
    go_wp2_with fail
    refine (hfl _).mono ?_
    rintro e w3 ⟨rfl, hb3⟩
    have r3 := r2.below hb3
    have e3 := e2.below hb3
    have hst := e3.store x
    have hsz := ev_size x
    clear hfl hb3
    go_wp2_with fail
    refine bodyPost_ret (results_row rfl _ _ (W.heap.size + 1) _ _ _ rfl (e3.set x) Tryz.underlying36 rfl (by kernel_rfl)) rfl ?_
    rw [HR2.out]
    exact (r3.row hg0 hg1 x.cells).fin hB _
  have HR : RowKit.Hid (R = match lowFree s2 m.cf.streams with | some k => ({ Ev.zero with stream := k }, m.turn n 14 who m.cf.streams) | none => (M.failed 10, m)) := Lib.hid (by rw [HR.out, if_neg (by simp)])
  have kN := r2.at'.hd.c2
  rw [r2.mb] at kN
  have hok := r2.at'.ok.conf
  simp [Conf.Cf.right, Conf.btw] at hok
  obtain ⟨-, -, ⟨hN0, hN8⟩, -⟩ := hok
  have hbd := ((right_iff _).1 (r2.at'.ok.rights _ (List.mem_of_getElem? HS.out))).1.2.2.1
  simp only at hbd
  obtain ⟨hs0, hs1⟩ := hbd
  generalize hNe : m.cf.streams = N at *
  have HNE := Lib.hid hNe
  clear hNe
  have R2 := Lib.hid r2
  have E2 := Lib.hid e2
  have A2 := Lib.hid a2
  have Q2 := Lib.hid q2
  go_wp2_with fail
  clear r2 e2 a2 q2 kS kb kU kN
  go_loopw [34] (fun i wr => ∃ k : Nat, (k = 0 ∨ (k : Int) ≤ min N 8) ∧ i = .int .i64 k ∧ (∀ j, j < k → hasBit s2 j = true) ∧ Below w2.heap.size w2 wr) (fun i _ => 8 - (intOf i).toNat)
  case atStart => exact ⟨0, .inl rfl, rfl, fun j hj => absurd hj (by omega), Below.refl _ _⟩
  case round =>
    obtain ⟨k, hk, rfl, hall, hb⟩ := hrel
    have r2 := R2.out.below hb
    have e2 := E2.out.below hb
    have a2 := A2.out.below hb
    have q2 := Q2.out.below hb
    have HB := Lib.hid hb
    have HALL := Lib.hid hall
    have l0 : (0 : Int) ≤ (k : Int) := by omega
    have kS : wr.cell? ⟨w1.heap.size, 2, none⟩ = some (.int .i64 s2) := q2.cell 2
    clear hb hall
    by_cases hlt : (k : Int) < min N 8
    · have l1 : (k : Int) < N := by omega
      have l2 : k < 8 := by omega
      have hp1 := (Life.pow_val k l2).1
      have hp2 := (Life.pow_val k l2).2
      have hne : ((2 : Int) ^ k == 0) = false := by simp; omega
      have hnd := Life.bit_and s2 k ⟨hs0, hs1⟩ l2
      have HL := Lib.hid (Life.lowFree_some s2 N k hlt)
      clear hlt hk
      cases hb : hasBit s2 k
      · rw [hb] at hnd
        simp only [Bool.false_eq_true, if_false] at hnd
        have HR2 : RowKit.Hid (R = ({ Ev.zero with stream := k }, m.turn n 14 who N)) := Lib.hid (by rw [HR.out, HL.out hb HALL.out])
        clear hb HL
        go_wp2_with fail
        go_region
        go_wp2_with fail
        have r3 := r2.drew.drew
        have kA : wr.drew.drew.cell? ⟨W.heap.size, 4, none⟩ = some (.int .i64 n) := a2.cell 4
        have kN := r3.at'.hd.c2
        rw [r3.mb, HNE.out] at kN
        have ht := m_turn' r3.at' n 14 n 14 who N _ HS.out rfl rfl (by simp [Done])
        rw [r3.mb] at ht
        have hw0 : W.heap.size ≠ p.sb := fun e => r3.not (Nat.le_refl _) (Nat.lt_trans (Nat.lt_succ_self _) hg1) (.inr (.inl (e.trans r3.sb.symm)))
        have hm0 : p.mb ≠ p.sb := by have := r3.at'.ne.2.1; rwa [r3.mb, r3.sb] at this
        have hl4 : W.heap.size < wr.drew.drew.heap.size := by have := r3.size; omega
        have hlm : p.mb < wr.drew.drew.heap.size := World.block_lt_of_cell? _ _ kN
        refine wp_region_held_drew (S := fun w' => w'.cell? ⟨W.heap.size, 4, none⟩ = some (.int .i64 n) ∧ w'.cell? ⟨p.mb, 2, none⟩ = some (.int .i64 N)) (by kernel_rfl) (by exact ⟨kA, kN⟩) (fun hHeld => ?_)
        refine take_of (i := 0) (d := some 43) (op := .move (.tmp 0)) (gd := none) (v := (.pointer (some ⟨p.mb, 0, none⟩))) (by kernel_rfl) (by kernel_rfl) (by kernel_rfl) (by kernel_rfl) (fun _ _ _ h => h) (by kernel_rfl) (run_move_of (.tmp 0) (.pointer (some ⟨p.mb, 0, none⟩)) (by kernel_rfl)) hHeld ?_
        try simp only [Act.put, List.setIfInBounds_toArray, List.set_cons_zero, List.set_cons_succ]
        refine takeg (i := 1) (d := some 44) (v := ?_) (by kernel_rfl) (by kernel_rfl) (by kernel_rfl) (by kernel_rfl) (fun _ _ _ h => h) (by kernel_rfl) ?_ hHeld ?_
        rotate_left
        · intro w hSw
          try dsimp only at hSw
          go_simp
          try with_reducible rfl
        try simp only [Act.put, List.setIfInBounds_toArray, List.set_cons_zero, List.set_cons_succ]
        refine takeg (i := 2) (d := some 45) (v := ?_) (by kernel_rfl) (by kernel_rfl) (by kernel_rfl) (by kernel_rfl) (fun _ _ _ h => h) (by kernel_rfl) ?_ hHeld ?_
        rotate_left
        · intro w hSw
          try dsimp only at hSw
          go_simp
          try with_reducible rfl
        try simp only [Act.put, List.setIfInBounds_toArray, List.set_cons_zero, List.set_cons_succ]
        refine take_of (i := 3) (d := some 46) (op := .move (.tmp 1)) (gd := none) (v := (.int .i64 who)) (by kernel_rfl) (by kernel_rfl) (by kernel_rfl) (by kernel_rfl) (fun _ _ _ h => h) (by kernel_rfl) (run_move_of (.tmp 1) (.int .i64 who) (by kernel_rfl)) hHeld ?_
        try simp only [Act.put, List.setIfInBounds_toArray, List.set_cons_zero, List.set_cons_succ]
        refine take_of (i := 4) (d := some 47) (op := .move (.tmp 0)) (gd := none) (v := (.pointer (some ⟨p.mb, 0, none⟩))) (by kernel_rfl) (by kernel_rfl) (by kernel_rfl) (by kernel_rfl) (fun _ _ _ h => h) (by kernel_rfl) (run_move_of (.tmp 0) (.pointer (some ⟨p.mb, 0, none⟩)) (by kernel_rfl)) hHeld ?_
        try simp only [Act.put, List.setIfInBounds_toArray, List.set_cons_zero, List.set_cons_succ]
        refine takeg (i := 5) (d := some 48) (v := ?_) (by kernel_rfl) (by kernel_rfl) (by kernel_rfl) (by kernel_rfl) (fun _ _ _ h => h) (by kernel_rfl) ?_ hHeld ?_
        rotate_left
        · intro w hSw
          try dsimp only at hSw
          go_simp
          try with_reducible rfl
        try simp only [Act.put, List.setIfInBounds_toArray, List.set_cons_zero, List.set_cons_succ]
        refine takeg (i := 6) (d := some 49) (v := ?_) (by kernel_rfl) (by kernel_rfl) (by kernel_rfl) (by kernel_rfl) (fun _ _ _ h => h) (by kernel_rfl) ?_ hHeld ?_
        rotate_left
        · intro w hSw
          try dsimp only at hSw
          go_simp
          try with_reducible rfl
        try simp only [Act.put, List.setIfInBounds_toArray, List.set_cons_zero, List.set_cons_succ]
        refine takeg (i := 7) (d := some 50) (v := ?_) (by kernel_rfl) (by kernel_rfl) (by kernel_rfl) (by kernel_rfl) (fun _ _ _ h => h) (by kernel_rfl) ?_ hHeld ?_
        rotate_left
        · intro w hSw
          try dsimp only at hSw
          go_simp
          try with_reducible rfl
        try simp only [Act.put, List.setIfInBounds_toArray, List.set_cons_zero, List.set_cons_succ]
        refine takeg (i := 8) (d := some 51) (v := ?_) (by kernel_rfl) (by kernel_rfl) (by kernel_rfl) (by kernel_rfl) (fun _ _ _ h => h) (by kernel_rfl) ?_ hHeld ?_
        rotate_left
        · intro w hSw
          try dsimp only at hSw
          go_simp
          try with_reducible rfl
        try simp only [Act.put, List.setIfInBounds_toArray, List.set_cons_zero, List.set_cons_succ]
        refine ready_call (i := 9) (by kernel_rfl) 63 #[.tmp 43, .tmp 45, .const (.int .i64 14), .tmp 46, .tmp 51] #[27, 3, 3, 3, 3] (some 52) (none) (by kernel_rfl) (by kernel_rfl) #[.pointer (some ⟨p.mb, 0, none⟩), .int .i64 n, .int .i64 14, .int .i64 who, .int .i64 N] (by kernel_rfl) (enters_of Tryz.func63 (by kernel_rfl) rfl) ?_
        refine (ht).mono ?_
        rintro e w4 ⟨rfl, h4, hc4⟩
        refine ⟨_, rfl, ⟨(hc4.cell hl4 (by rw [r3.sb]; exact hw0)).trans kA, (hc4.cell hlm (by rw [r3.sb]; exact hm0)).trans kN⟩, fun hH2 => ?_⟩
        try simp only [Act.put, List.setIfInBounds_toArray, List.set_cons_zero, List.set_cons_succ]
        refine wpAnyH_done (by kernel_rfl) ?_ _
        have r4 := r3.slots h4 hc4
        have e4 : ERow w4 (W.heap.size + 1) := ERow.chg (w := wr.drew.drew) e2 hc4 (fun e => r3.not hg0 hg1 (.inr (.inl e)))
        clear ht h4 hc4 hHeld hH2 r3 kA kN
        go_upto_region 12 with (fail)
        obtain ⟨Z, z1, z2⟩ := e4
        refine wp_region_lit ?_
        refine RowL.wpList_run rfl (.int .i64 k) (by go_simp; try rfl) ?_
        refine RowL.wpList_run rfl (({ Ev.zero with stream := k } : Ev)).val (by go_simp; try rfl) ?_
        refine RowL.wpList_store_row rfl 36 (.tmp 6) (.tmp 54) rfl (W.heap.size + 1) _ Z (({ Ev.zero with stream := k } : Ev)).cells rfl rfl z2 z1 (by kernel_rfl) (ev_one _) ?_
        go_wp2_with fail
        refine bodyPost_ret (results_row rfl _ _ (W.heap.size + 1) _ _ _ rfl (z2.set _) Tryz.underlying36 rfl (by kernel_rfl)) rfl ?_
        rw [HR2.out]
        exact (r4.row hg0 hg1 _).fin hB _
      · rw [hb] at hnd
        simp only [if_true] at hnd
        have HALL2 : RowKit.Hid (∀ j, j < k + 1 → hasBit s2 j = true) := Lib.hid (fun j hj => by
          rcases Nat.lt_succ_iff_lt_or_eq.1 hj with h | rfl
          · exact HALL.out j h
          · exact hb)
        clear hb HL
        go_wp2_with fail
        go_region
        go_wp2_with fail
        go_roundw
        case rel => exact ⟨k + 1, .inr (by omega), by go_num, HALL2.out, HB.out.drew⟩
        case measure => simp [intOf]; omega
    · have l1 : ¬ ((k : Int) < N) := by omega
      have HR2 : RowKit.Hid (R = (M.failed 10, m)) := Lib.hid (by rw [HR.out, Life.lowFree_none s2 N k (by omega) HALL.out])
      clear hlt hk
      have hfl := fun W => failed_any W 10
      have hf : M.failed 10 = { Ev.zero with e := 10 } := rfl
      rw [← hf] at hfl
      generalize M.failed 10 = x at *
      clear hf
      go_wp2_with fail
      refine (hfl _).mono ?_
      rintro e w3 ⟨rfl, hb3⟩
      have r3 := r2.below hb3
      have e3 := e2.below hb3
      have hst := e3.store x
      have hsz := ev_size x
      clear hfl hb3
      go_wp2_with fail
      refine bodyPost_ret (results_row rfl _ _ (W.heap.size + 1) _ _ _ rfl (e3.set x) Tryz.underlying36 rfl (by kernel_rfl)) rfl ?_
      rw [HR2.out]
      exact (r3.row hg0 hg1 x.cells).fin hB _
end Go.Proofs.YtpmkgddjgebojaaGreatDoor.Mod

namespace Go.Proofs.YtpmkgddjgebojaaGreatDoor.Mod
set_option linter.unusedVariables false
set_option linter.unusedSimpArgs false
open Go.RowKit Hp Slot RowL Life

theorem s_one (x : S) : (x.cells.all fun v => v.oneCell') = true := by simp [S.cells, Value.oneCell']
theorem bel_row {w1 w : World} (h : Below w1.heap.size w1 w) {g : Nat} (hg : w1.heap.size ≤ g) (cs : Array Value) : Below w1.heap.size w1 (w.setRow g cs) :=
  h.trans ((chg_setRow (F := fun k => k = g) (Chg.refl _ _) _ _ (fun _ => rfl)).below h.size (fun k e => by omega))

set_option maxRecDepth 100000 in
set_option maxHeartbeats 8000000 in
theorem m_shut {W : World} {p : Pl} {m : M} (h : MAt W p m) (who : Int) (a : Ask) :
    Calls Tryz.prog 74 #[.pointer (some ⟨p.mb, 0, none⟩), .int .i64 who, a.val] W (MPost W p (m.shutS who a).1.val (m.shutS who a).2) := by
  have hE : ∀ o, m.shutS who a = o → True := fun _ _ => trivial
  have hR : RowKit.Hid (m.shutS who a = if m.owns who a ≠ 0 then (M.failed (m.owns who a), m) else if (Mod.next (m.slot a.slot.toNat) 15 who a.stream).isSome then ({ Ev.zero with stream := a.stream }, m.turn a.slot.toNat 15 who a.stream) else (M.failed 11, m)) := rfl
  generalize m.shutS who a = R at *
  have hlt : p.mb < W.heap.size := h.lt (.inl rfl)
  have hos : RowKit.Hid (m.owns who a = 0 → m.closed ≠ 2 ∧ ∃ (n : Nat) (s : S), a.slot = n ∧ m.ss[n]? = some s ∧ s.state = 3 ∧ s.own = who ∧ s.gen = a.gen) := fun h => owns_zero h
  have how := fun W (h : MAt W p m) => m_owns h who a
  generalize m.owns who a = q at *
  obtain ⟨op, dl, wt, fo, sl, ge, st⟩ := a
  simp only [Ask.val, Ask.cells] at *
  have hB : Below W.heap.size W ((W.alloc (.cells #[.int .i64 op, .int .i64 dl, .bool wt, .bool fo, .int .i64 sl, .int .i64 ge, .int .i64 st] 25)).alloc (.cells ev0 36)) := ((Below.refl _ _).alloc (Nat.le_refl _) _).alloc (by simp) _
  have r0 : Re W.heap.size ((W.alloc (.cells #[.int .i64 op, .int .i64 dl, .bool wt, .bool fo, .int .i64 sl, .int .i64 ge, .int .i64 st] 25)).alloc (.cells ev0 36)) p ((W.alloc (.cells #[.int .i64 op, .int .i64 dl, .bool wt, .bool fo, .int .i64 sl, .int .i64 ge, .int .i64 st] 25)).alloc (.cells ev0 36)) p m := Re.begin h hB
  have e0 : ERow ((W.alloc (.cells #[.int .i64 op, .int .i64 dl, .bool wt, .bool fo, .int .i64 sl, .int .i64 ge, .int .i64 st] 25)).alloc (.cells ev0 36)) (W.heap.size + 1) := ⟨ev0, rfl, by have := RowAt.new (W.alloc (.cells #[.int .i64 op, .int .i64 dl, .bool wt, .bool fo, .int .i64 sl, .int .i64 ge, .int .i64 st] 25)) ev0 36; simpa using this⟩
  have hg1 : W.heap.size + 1 < ((W.alloc (.cells #[.int .i64 op, .int .i64 dl, .bool wt, .bool fo, .int .i64 sl, .int .i64 ge, .int .i64 st] 25)).alloc (.cells ev0 36)).heap.size := by simp
  have hg0 : W.heap.size ≤ W.heap.size + 1 := by omega
  have a0 : RowAt ((W.alloc (.cells #[.int .i64 op, .int .i64 dl, .bool wt, .bool fo, .int .i64 sl, .int .i64 ge, .int .i64 st] 25)).alloc (.cells ev0 36)) W.heap.size #[.int .i64 op, .int .i64 dl, .bool wt, .bool fo, .int .i64 sl, .int .i64 ge, .int .i64 st] 25 := heap_alloc2_old W _ _
  have ho := how _ r0.at'
  clear how hE
  go_enter Tryz.func74, Tryz.ntmps74
  go_wp2_with fail
  refine ho.mono ?_
  rintro e w1 ⟨rfl, hb1⟩
  have r1 := r0.below hb1
  have e1 := e0.below hb1
  have a1 := a0.below hb1
  clear ho hb1 r0 e0 a0 h
  by_cases hq : q = 0
  rotate_left
  · have hq' : (q != 0) = true := by simp [hq]
    have HR2 : RowKit.Hid (R = (M.failed q, m)) := Lib.hid (by rw [hR.out, if_pos hq])
    have hfl := fun W => failed_any W q
    have hf : M.failed q = { Ev.zero with e := q } := rfl
    rw [← hf] at hfl
    generalize M.failed q = x at *
    clear hq hf hR hos a1
    go_wp2_with fail
    refine (hfl _).mono ?_
    rintro e w2 ⟨rfl, hb2⟩
    have r2 := r1.below hb2
    have e2 := e1.below hb2
    have hst := e2.store x
    have hsz := ev_size x
    clear hfl hb2 r1 e1
    go_wp2_with fail
    refine bodyPost_ret (results_row rfl _ _ (W.heap.size + 1) _ _ _ rfl (e2.set x) Tryz.underlying36 rfl (by kernel_rfl)) rfl ?_
    rw [HR2.out]
    exact (r2.row hg0 hg1 x.cells).fin hB _
  have hq' : (q != 0) = false := by simp [hq]
  obtain ⟨hcl2, n, s, hn, hs, hs3, hso, hsg⟩ := hos.out hq
  try simp only at hn hsg
  subst hn
  have HS := Lib.hid hs
  have hsl : m.slot n = s := M.slot_of hs
  have HR := Lib.hid hR.out
  rw [if_neg (by simp [hq])] at HR
  try simp only [Int.toNat_natCast, hsl] at HR
  have hil : n < m.ss.length := (List.getElem?_eq_some_iff.1 hs).1
  have hns := r1.at'.ok.ns
  have b0 : (0 : Int) ≤ (n : Int) := by omega
  have b1 : (n : Int) < (m.ss.length : Int) := by omega
  have b2 : (n : Int) ≤ (m.ss.length : Int) - 1 := by omega
  clear hos hR hq hs hsl hil
  have k5 := r1.at'.hd.c5
  rw [r1.mb, r1.sb] at k5
  have kA : w1.cell? ⟨W.heap.size, 4, none⟩ = some (.int .i64 n) := a1.cell 4
  have hd := r1.at'.slots.get HS.out
  rw [r1.sb] at hd
  obtain ⟨s0, s1, s2, s3, s4, s5, s6, s7, s8⟩ := s
  try simp only at hs3 hso hsg HR hd
  have HS3 := Lib.hid hs3
  have HSO := Lib.hid hso
  have HSG := Lib.hid hsg
  clear hs3 hso hsg
  obtain ⟨d0, d1, d2, d3, d4, d5, d6, d7, d8⟩ := hd
  have L5 : ∀ w', Below w1.heap.size w1 w' → w'.cell? ⟨p.mb, 5, none⟩ = some (.slice (some ⟨p.sb, 0, none⟩) m.ss.length m.ss.length) := fun w' h => Field.bkeep h k5
  have LA : ∀ w', Below w1.heap.size w1 w' → w'.cell? ⟨W.heap.size, 4, none⟩ = some (.int .i64 n) := fun w' h => Field.bkeep h kA
  have Ls0 : ∀ w', Below w1.heap.size w1 w' → w'.cell? ⟨p.sb, n * 9, none⟩ = some (.int .i64 s0) := fun w' h => Field.bkeep h d0
  have Ls1 : ∀ w', Below w1.heap.size w1 w' → w'.cell? ⟨p.sb, n * 9 + 1, none⟩ = some (.int .i64 s1) := fun w' h => Field.bkeep h d1
  have Ls2 : ∀ w', Below w1.heap.size w1 w' → w'.cell? ⟨p.sb, n * 9 + 2, none⟩ = some (.int .i64 s2) := fun w' h => Field.bkeep h d2
  have Ls3 : ∀ w', Below w1.heap.size w1 w' → w'.cell? ⟨p.sb, n * 9 + 3, none⟩ = some (.bool s3) := fun w' h => Field.bkeep h d3
  have Ls4 : ∀ w', Below w1.heap.size w1 w' → w'.cell? ⟨p.sb, n * 9 + 4, none⟩ = some (.bool s4) := fun w' h => Field.bkeep h d4
  have Ls5 : ∀ w', Below w1.heap.size w1 w' → w'.cell? ⟨p.sb, n * 9 + 5, none⟩ = some (.int .i64 s5) := fun w' h => Field.bkeep h d5
  have Ls6 : ∀ w', Below w1.heap.size w1 w' → w'.cell? ⟨p.sb, n * 9 + 6, none⟩ = some (.int .i64 s6) := fun w' h => Field.bkeep h d6
  have Ls7 : ∀ w', Below w1.heap.size w1 w' → w'.cell? ⟨p.sb, n * 9 + 7, none⟩ = some (.int .i64 s7) := fun w' h => Field.bkeep h d7
  have Ls8 : ∀ w', Below w1.heap.size w1 w' → w'.cell? ⟨p.sb, n * 9 + 8, none⟩ = some (.int .i64 s8) := fun w' h => Field.bkeep h d8
  have hKd : Below w1.heap.size w1 w1.drew := (Below.refl _ _).drew
  clear d0 d1 d2 d3 d4 d5 d6 d7 d8 kA k5
  have LT : ∀ w', Below w1.heap.size w1 w' → w'.cell? ⟨W.heap.size, 6, none⟩ = some (.int .i64 st) := fun w' h => Field.bkeep h (a1.cell 6)
  have hnx0 := fun w' (h : Below w1.heap.size w1 w') => life_next w' _ 15 15 who st (by simp [Done]) rfl (r1.at'.ok.rights _ (List.mem_of_getElem? HS.out)) (r1.below h).at'.laid
  have HR := HR
  generalize hokb : (Mod.next ⟨s0, s1, s2, s3, s4, s5, s6, s7, s8⟩ 15 who st).isSome = okb at *
  generalize (Mod.next ⟨s0, s1, s2, s3, s4, s5, s6, s7, s8⟩ 15 who st).getD S.zero = rS at *
  have hnx : ∀ w', Below w1.heap.size w1 w' → Calls Tryz.prog 94 #[.agg #[.int .i64 s0, .int .i64 s1, .int .i64 s2, .bool s3, .bool s4, .int .i64 s5, .int .i64 s6, .int .i64 s7, .int .i64 s8], .int .i64 15, .int .i64 who, .int .i64 st] w' fun e W' => e = .returned (.tuple #[.agg (S.cells rS), .bool okb]) ∧ Below w'.heap.size w' W' := hnx0
  clear hnx0 hokb
  go_upto_region 4 with (fail)
  go_cut [9] (fun s9 wx => s9 = .bool okb ∧ Below w1.heap.size w1 wx)
  case first =>
    refine wp_region_held_drew (S := fun w' => Below w1.heap.size w1 w') (by kernel_rfl) (by exact hKd) (fun hHeld => ?_)
    refine take_of (i := 0) (d := some 19) (op := .move (.tmp 0)) (gd := none) (v := (.pointer (some ⟨p.mb, 0, none⟩))) (by kernel_rfl) (by kernel_rfl) (by kernel_rfl) (by kernel_rfl) (fun _ _ _ h => h) (by kernel_rfl) (run_move_of (.tmp 0) (.pointer (some ⟨p.mb, 0, none⟩)) (by kernel_rfl)) hHeld ?_
    try simp only [Act.put, List.setIfInBounds_toArray, List.set_cons_zero, List.set_cons_succ]
    refine takeg (i := 1) (d := some 20) (v := ?_) (by kernel_rfl) (by kernel_rfl) (by kernel_rfl) (by kernel_rfl) (fun _ _ _ h => h) (by kernel_rfl) ?_ hHeld ?_
    rotate_left
    · intro w hSw
      try dsimp only at hSw
      go_simp
      try with_reducible rfl
    try simp only [Act.put, List.setIfInBounds_toArray, List.set_cons_zero, List.set_cons_succ]
    refine takeg (i := 2) (d := some 21) (v := ?_) (by kernel_rfl) (by kernel_rfl) (by kernel_rfl) (by kernel_rfl) (fun _ _ _ h => h) (by kernel_rfl) ?_ hHeld ?_
    rotate_left
    · intro w hSw
      try dsimp only at hSw
      go_simp
      try with_reducible rfl
    try simp only [Act.put, List.setIfInBounds_toArray, List.set_cons_zero, List.set_cons_succ]
    refine takeg (i := 3) (d := some 22) (v := ?_) (by kernel_rfl) (by kernel_rfl) (by kernel_rfl) (by kernel_rfl) (fun _ _ _ h => h) (by kernel_rfl) ?_ hHeld ?_
    rotate_left
    · intro w hSw
      try dsimp only at hSw
      go_simp
      try with_reducible rfl
    try simp only [Act.put, List.setIfInBounds_toArray, List.set_cons_zero, List.set_cons_succ]
    refine takeg (i := 4) (d := some 23) (v := ?_) (by kernel_rfl) (by kernel_rfl) (by kernel_rfl) (by kernel_rfl) (fun _ _ _ h => h) (by kernel_rfl) ?_ hHeld ?_
    rotate_left
    · intro w hSw
      try dsimp only at hSw
      go_simp
      try with_reducible rfl
    try simp only [Act.put, List.setIfInBounds_toArray, List.set_cons_zero, List.set_cons_succ]
    refine takeg (i := 5) (d := some 24) (v := ?_) (by kernel_rfl) (by kernel_rfl) (by kernel_rfl) (by kernel_rfl) (fun _ _ _ h => h) (by kernel_rfl) ?_ hHeld ?_
    rotate_left
    · intro w hSw
      try dsimp only at hSw
      go_simp
      try with_reducible rfl
    try simp only [Act.put, List.setIfInBounds_toArray, List.set_cons_zero, List.set_cons_succ]
    refine takeg (i := 6) (d := some 25) (v := ?_) (by kernel_rfl) (by kernel_rfl) (by kernel_rfl) (by kernel_rfl) (fun _ _ _ h => h) (by kernel_rfl) ?_ hHeld ?_
    rotate_left
    · intro w hSw
      try dsimp only at hSw
      go_simp
      try with_reducible rfl
    try simp only [Act.put, List.setIfInBounds_toArray, List.set_cons_zero, List.set_cons_succ]
    refine takeg (i := 7) (d := some 26) (v := ?_) (by kernel_rfl) (by kernel_rfl) (by kernel_rfl) (by kernel_rfl) (fun _ _ _ h => h) (by kernel_rfl) ?_ hHeld ?_
    rotate_left
    · intro w hSw
      try dsimp only at hSw
      go_simp
      try with_reducible rfl
    try simp only [Act.put, List.setIfInBounds_toArray, List.set_cons_zero, List.set_cons_succ]
    refine take_of (i := 8) (d := some 27) (op := .move (.tmp 1)) (gd := none) (v := (.int .i64 who)) (by kernel_rfl) (by kernel_rfl) (by kernel_rfl) (by kernel_rfl) (fun _ _ _ h => h) (by kernel_rfl) (run_move_of (.tmp 1) (.int .i64 who) (by kernel_rfl)) hHeld ?_
    try simp only [Act.put, List.setIfInBounds_toArray, List.set_cons_zero, List.set_cons_succ]
    refine takeg (i := 9) (d := some 28) (v := ?_) (by kernel_rfl) (by kernel_rfl) (by kernel_rfl) (by kernel_rfl) (fun _ _ _ h => h) (by kernel_rfl) ?_ hHeld ?_
    rotate_left
    · intro w hSw
      try dsimp only at hSw
      go_simp
      try with_reducible rfl
    try simp only [Act.put, List.setIfInBounds_toArray, List.set_cons_zero, List.set_cons_succ]
    refine takeg (i := 10) (d := some 29) (v := ?_) (by kernel_rfl) (by kernel_rfl) (by kernel_rfl) (by kernel_rfl) (fun _ _ _ h => h) (by kernel_rfl) ?_ hHeld ?_
    rotate_left
    · intro w hSw
      try dsimp only at hSw
      go_simp
      try with_reducible rfl
    try simp only [Act.put, List.setIfInBounds_toArray, List.set_cons_zero, List.set_cons_succ]
    refine ready2 (i := 11) (k := 15) (by kernel_rfl) ?_ ?_
    · have : True := trivial
      refine step_call 94 #[.tmp 26, .const (.int .i64 15), .tmp 27, .tmp 29] #[59, 3, 3, 3] (some 30) none (by kernel_rfl) (by kernel_rfl) #[.agg #[.int .i64 s0, .int .i64 s1, .int .i64 s2, .bool s3, .bool s4, .int .i64 s5, .int .i64 s6, .int .i64 s7, .int .i64 s8], .int .i64 15, .int .i64 who, .int .i64 st] (by kernel_rfl) (enters_of Tryz.func94 (by kernel_rfl) rfl) ?_
      refine (hnx _ hHeld).mono ?_
      rintro e w5 ⟨rfl, hb5⟩
      refine ⟨_, rfl, bel_step hHeld hb5, fun hS5 => ?_⟩
      try simp only [Act.put, List.setIfInBounds_toArray, List.set_cons_zero, List.set_cons_succ]
      refine take_of (i := 12) (d := some 18) (op := .move (.tmp 30)) (gd := none) (v := (.tuple #[.agg (S.cells rS), .bool okb])) (by kernel_rfl) (by kernel_rfl) (by kernel_rfl) (by kernel_rfl) (fun _ _ _ h => h) (by kernel_rfl) (run_move_of (.tmp 30) (.tuple #[.agg (S.cells rS), .bool okb]) (by kernel_rfl)) hS5 ?_
      try simp only [Act.put, List.setIfInBounds_toArray, List.set_cons_zero, List.set_cons_succ]
      refine takeg (i := 13) (d := some 31) (v := ?_) (by kernel_rfl) (by kernel_rfl) (by kernel_rfl) (by kernel_rfl) (fun _ _ _ h => h) (by kernel_rfl) ?_ hS5 ?_
      rotate_left
      · intro w hSw
        try dsimp only at hSw
        go_simp
        try with_reducible rfl
      try simp only [Act.put, List.setIfInBounds_toArray, List.set_cons_zero, List.set_cons_succ]
      refine takeg (i := 14) (d := some 32) (v := ?_) (by kernel_rfl) (by kernel_rfl) (by kernel_rfl) (by kernel_rfl) (fun _ _ _ h => h) (by kernel_rfl) ?_ hS5 ?_
      rotate_left
      · intro w hSw
        try dsimp only at hSw
        go_simp
        try with_reducible rfl
      try simp only [Act.put, List.setIfInBounds_toArray, List.set_cons_zero, List.set_cons_succ]
      refine ready1 (i := 15) (by kernel_rfl) ?_
      refine step_run (w' := w5.alloc (.cells #[.int .i64 0, .int .i64 0, .int .i64 0, .bool false, .bool false, .int .i64 0, .int .i64 0, .int .i64 0, .int .i64 0] 59)) (some 8) (.pointer (some ⟨w5.heap.size, 0, none⟩)) (by kernel_rfl) (by kernel_rfl) (by go_simp; try rfl) (bel_alloc hS5 _) (fun hSA => ?_)
      try simp only [Act.put, List.setIfInBounds_toArray, List.set_cons_zero, List.set_cons_succ]
      refine ready1 (i := 16) (by kernel_rfl) ?_
      refine step_store_row 59 (.tmp 8) (.tmp 31) (by kernel_rfl) (w5.heap.size) _ #[.int .i64 0, .int .i64 0, .int .i64 0, .bool false, .bool false, .int .i64 0, .int .i64 0, .int .i64 0, .int .i64 0] (S.cells rS) (by kernel_rfl) (by kernel_rfl) (RowAt.new w5 #[.int .i64 0, .int .i64 0, .int .i64 0, .bool false, .bool false, .int .i64 0, .int .i64 0, .int .i64 0, .int .i64 0] 59) rfl (by kernel_rfl) (s_one rS) (bel_row hSA hS5.size _) (fun hSZ => ?_)
      try simp only [Act.put, List.setIfInBounds_toArray, List.set_cons_zero, List.set_cons_succ]
      refine take_of (i := 17) (d := some 9) (op := .assign (.tmp 32)) (gd := none) (v := (.bool okb)) (by kernel_rfl) (by kernel_rfl) (by kernel_rfl) (by kernel_rfl) (fun _ _ _ h => h) (by kernel_rfl) (run_assign_of (.tmp 32) (.bool okb) (by kernel_rfl)) hSZ ?_
      try simp only [Act.put, List.setIfInBounds_toArray, List.set_cons_zero, List.set_cons_succ]
      refine wpAnyH_done (by kernel_rfl) ?_ _
      go_wp2_with fail
      go_meet
      exact ⟨rfl, hSZ⟩
    · have : True := trivial
      refine step_run (w' := w1.drew.alloc (.cells #[.int .i64 0, .int .i64 0, .int .i64 0, .bool false, .bool false, .int .i64 0, .int .i64 0, .int .i64 0, .int .i64 0] 59)) (some 8) (.pointer (some ⟨w1.drew.heap.size, 0, none⟩)) (by kernel_rfl) (by kernel_rfl) (by go_simp; try rfl) (bel_alloc hHeld _) (fun hSA => ?_)
      try simp only [Act.put, List.setIfInBounds_toArray, List.set_cons_zero, List.set_cons_succ]
      refine ready1 (i := 11) (by kernel_rfl) ?_
      refine step_call 94 #[.tmp 26, .const (.int .i64 15), .tmp 27, .tmp 29] #[59, 3, 3, 3] (some 30) none (by kernel_rfl) (by kernel_rfl) #[.agg #[.int .i64 s0, .int .i64 s1, .int .i64 s2, .bool s3, .bool s4, .int .i64 s5, .int .i64 s6, .int .i64 s7, .int .i64 s8], .int .i64 15, .int .i64 who, .int .i64 st] (by kernel_rfl) (enters_of Tryz.func94 (by kernel_rfl) rfl) ?_
      refine (hnx _ hSA).mono ?_
      rintro e w5 ⟨rfl, hb5⟩
      refine ⟨_, rfl, bel_step hSA hb5, fun hS5 => ?_⟩
      try simp only [Act.put, List.setIfInBounds_toArray, List.set_cons_zero, List.set_cons_succ]
      refine take_of (i := 12) (d := some 18) (op := .move (.tmp 30)) (gd := none) (v := (.tuple #[.agg (S.cells rS), .bool okb])) (by kernel_rfl) (by kernel_rfl) (by kernel_rfl) (by kernel_rfl) (fun _ _ _ h => h) (by kernel_rfl) (run_move_of (.tmp 30) (.tuple #[.agg (S.cells rS), .bool okb]) (by kernel_rfl)) hS5 ?_
      try simp only [Act.put, List.setIfInBounds_toArray, List.set_cons_zero, List.set_cons_succ]
      refine takeg (i := 13) (d := some 31) (v := ?_) (by kernel_rfl) (by kernel_rfl) (by kernel_rfl) (by kernel_rfl) (fun _ _ _ h => h) (by kernel_rfl) ?_ hS5 ?_
      rotate_left
      · intro w hSw
        try dsimp only at hSw
        go_simp
        try with_reducible rfl
      try simp only [Act.put, List.setIfInBounds_toArray, List.set_cons_zero, List.set_cons_succ]
      refine takeg (i := 14) (d := some 32) (v := ?_) (by kernel_rfl) (by kernel_rfl) (by kernel_rfl) (by kernel_rfl) (fun _ _ _ h => h) (by kernel_rfl) ?_ hS5 ?_
      rotate_left
      · intro w hSw
        try dsimp only at hSw
        go_simp
        try with_reducible rfl
      try simp only [Act.put, List.setIfInBounds_toArray, List.set_cons_zero, List.set_cons_succ]
      refine ready1 (i := 16) (by kernel_rfl) ?_
      refine step_store_row 59 (.tmp 8) (.tmp 31) (by kernel_rfl) (w1.heap.size) _ #[.int .i64 0, .int .i64 0, .int .i64 0, .bool false, .bool false, .int .i64 0, .int .i64 0, .int .i64 0, .int .i64 0] (S.cells rS) (by kernel_rfl) (by kernel_rfl) ((RowAt.new w1.drew #[.int .i64 0, .int .i64 0, .int .i64 0, .bool false, .bool false, .int .i64 0, .int .i64 0, .int .i64 0, .int .i64 0] 59).below hb5) rfl (by kernel_rfl) (s_one rS) (bel_row hS5 (Nat.le_refl _) _) (fun hSZ => ?_)
      try simp only [Act.put, List.setIfInBounds_toArray, List.set_cons_zero, List.set_cons_succ]
      refine take_of (i := 17) (d := some 9) (op := .assign (.tmp 32)) (gd := none) (v := (.bool okb)) (by kernel_rfl) (by kernel_rfl) (by kernel_rfl) (by kernel_rfl) (fun _ _ _ h => h) (by kernel_rfl) (run_assign_of (.tmp 32) (.bool okb) (by kernel_rfl)) hSZ ?_
      try simp only [Act.put, List.setIfInBounds_toArray, List.set_cons_zero, List.set_cons_succ]
      refine wpAnyH_done (by kernel_rfl) ?_ _
      go_wp2_with fail
      go_meet
      exact ⟨rfl, hSZ⟩
  case rest =>
    obtain ⟨rfl, hb2⟩ := hcut
    have r2 := r1.below hb2
    have e2 := e1.below hb2
    have a2 := a1.below hb2
    clear L5 LA LT hnx hKd b0 b1 b2 r1 e1 a1 hb2 Ls0 Ls1 Ls2 Ls3 Ls4 Ls5 Ls6 Ls7 Ls8
    cases okb
    · have HR2 : RowKit.Hid (R = (M.failed 11, m)) := Lib.hid (by rw [HR.out]; simp)
      clear HR
      have hfl := fun W => failed_any W 11
      have hf : M.failed 11 = { Ev.zero with e := 11 } := rfl
      rw [← hf] at hfl
      generalize M.failed 11 = x at *
      clear hf
      go_wp2_with fail
      refine (hfl _).mono ?_
      rintro e w3 ⟨rfl, hb3⟩
      have r3 := r2.below hb3
      have e3 := e2.below hb3
      have hst := e3.store x
      have hsz := ev_size x
      clear hfl hb3
      go_wp2_with fail
      refine bodyPost_ret (results_row rfl _ _ (W.heap.size + 1) _ _ _ rfl (e3.set x) Tryz.underlying36 rfl (by kernel_rfl)) rfl ?_
      rw [HR2.out]
      exact (r3.row hg0 hg1 x.cells).fin hB _
    · have HR2 : RowKit.Hid (R = ({ Ev.zero with stream := st }, m.turn n 15 who st)) := Lib.hid (by rw [HR.out]; simp)
      clear HR
      have kA : _ = some (Value.int .i64 n) := a2.cell 4
      have kT : _ = some (Value.int .i64 st) := a2.cell 6
      have ht := m_turn' r2.at' n 15 n 15 who st _ HS.out rfl rfl (by simp [Done])
      rw [r2.mb] at ht
      go_wp2_with fail
      refine ht.mono ?_
      rintro e w4 ⟨rfl, h4, hc4⟩
      have r4 := r2.slots h4 hc4
      have e4 := e2.chg hc4 (fun e => r2.not hg0 hg1 (.inr (.inl e)))
      have a4 := a2.chg hc4 (fun e => r2.not (Nat.le_refl _) (by omega) (.inr (.inl e)))
      have kT : w4.cell? ⟨W.heap.size, 6, none⟩ = some (.int .i64 st) := a4.cell 6
      clear ht h4 hc4 r2 e2 a2 kA
      go_upto_region 8 with (fail)
      obtain ⟨Z, z1, z2⟩ := e4
      refine wp_region_lit ?_
      refine RowL.wpList_run rfl (.pointer (some ⟨W.heap.size, 6, none⟩)) (by go_simp; try rfl) ?_
      refine RowL.wpList_run rfl (.int .i64 st) (by go_simp; try rfl) ?_
      refine RowL.wpList_run rfl (({ Ev.zero with stream := st } : Ev)).val (by go_simp; try rfl) ?_
      refine RowL.wpList_store_row rfl 36 (.tmp 6) (.tmp 45) rfl (W.heap.size + 1) _ Z (({ Ev.zero with stream := st } : Ev)).cells rfl rfl z2 z1 (by kernel_rfl) (ev_one _) ?_
      go_wp2_with fail
      refine bodyPost_ret (results_row rfl _ _ (W.heap.size + 1) _ _ _ rfl (z2.set _) Tryz.underlying36 rfl (by kernel_rfl)) rfl ?_
      rw [HR2.out]
      exact (r4.row hg0 hg1 _).fin hB _
end Go.Proofs.YtpmkgddjgebojaaGreatDoor.Mod

namespace Go.Proofs.YtpmkgddjgebojaaGreatDoor.Mod
set_option linter.unusedVariables false
set_option linter.unusedSimpArgs false
open Go.RowKit Hp Slot RowL Life

def cnt (p : S → Bool) (l : List S) (k : Nat) : Int := M.countL p (l.take k)
theorem cnt_bd (p : S → Bool) (l : List S) (k : Nat) : 0 ≤ cnt p l k ∧ cnt p l k ≤ k := by
  unfold cnt M.countL
  have h1 := List.length_filter_le p (l.take k)
  have h2 : (l.take k).length ≤ k := List.length_take_le _ _
  omega
theorem cnt_step (p : S → Bool) {l : List S} {k : Nat} {s : S} (h : l[k]? = some s) : cnt p l (k + 1) = cnt p l k + if p s then 1 else 0 := by
  unfold cnt M.countL
  obtain ⟨hl, h⟩ := List.getElem?_eq_some_iff.1 h
  rw [List.take_succ_eq_append_getElem hl, List.filter_append, h]
  cases hp : p s <;> simp [hp]
theorem cnt_all (p : S → Bool) (l : List S) : cnt p l l.length = M.countL p l := by unfold cnt; rw [List.take_length]
def isIdle (s : S) : Bool := s.state == 2
def isLeased (s : S) : Bool := s.state == 3
def isEmpty (s : S) : Bool := s.state == 0
def isOther (s : S) : Bool := s.state != 2 && (s.state != 3 && s.state != 0)
theorem stats_eq (m : M) : m.stats = { Ev.zero with idle := cnt isIdle m.ss m.ss.length, leased := cnt isLeased m.ss m.ss.length, empty := cnt isEmpty m.ss m.ss.length, other := cnt isOther m.ss m.ss.length } := by
  simp only [cnt_all]; rfl

set_option maxRecDepth 100000 in
set_option maxHeartbeats 8000000 in
theorem m_stats {W : World} {p : Pl} {m : M} (h : MAt W p m) : Calls Tryz.prog 80 #[.pointer (some ⟨p.mb, 0, none⟩)] W fun e W' => e = .returned m.stats.val ∧ Below W.heap.size W W' := by
  have hR := stats_eq m
  generalize m.stats = R at *
  have HR := Lib.hid hR
  have hlt : p.mb < W.heap.size := h.lt (.inl rfl)
  have c5 := h.hd.c5
  have hns := h.ok.ns
  have H := Lib.hid h
  clear hR h
  have hB : Below W.heap.size W ((W.alloc (.cells ev0 36)).alloc (.cells #[.int .i64 0, .int .i64 0, .int .i64 0, .int .i64 0] 34)) := ((Below.refl _ _).alloc (Nat.le_refl _) _).alloc (by simp) _
  have e0 : ERow ((W.alloc (.cells ev0 36)).alloc (.cells #[.int .i64 0, .int .i64 0, .int .i64 0, .int .i64 0] 34)) W.heap.size := ⟨ev0, rfl, heap_alloc2_old W _ _⟩
  have q0 : RowAt ((W.alloc (.cells ev0 36)).alloc (.cells #[.int .i64 0, .int .i64 0, .int .i64 0, .int .i64 0] 34)) (W.heap.size + 1) #[.int .i64 0, .int .i64 0, .int .i64 0, .int .i64 0] 34 := heap_alloc2_new W _ _
  have E0 := Lib.hid e0
  have Q0 := Lib.hid q0
  have HB := Lib.hid hB
  clear e0 q0 hB
  go_enter Tryz.func80, Tryz.ntmps80
  go_wp2_with fail
  clear c5
  go_loopw [11] (fun i wr => ∃ k : Nat, k ≤ m.ss.length ∧ i = .int .i64 k ∧ Below W.heap.size W wr ∧ ERow wr W.heap.size ∧ RowAt wr (W.heap.size + 1) #[.int .i64 (cnt isIdle m.ss k), .int .i64 (cnt isLeased m.ss k), .int .i64 (cnt isEmpty m.ss k), .int .i64 (cnt isOther m.ss k)] 34) (fun i _ => m.ss.length - (intOf i).toNat)
  case atStart => exact ⟨0, by omega, rfl, HB.out, E0.out, Q0.out⟩
  case round =>
    clear E0 Q0 HB
    obtain ⟨k, hk, rfl, hb, e1, q1⟩ := hrel
    have k0 : (0 : Int) ≤ (k : Int) := by omega
    by_cases hlt : k < m.ss.length
    · obtain ⟨s, hs⟩ : ∃ s, m.ss[k]? = some s := ⟨_, List.getElem?_eq_getElem hlt⟩
      have d := (H.out.below hb).slots.get hs
      have n1 := cnt_bd isIdle m.ss k
      have n2 := cnt_bd isLeased m.ss k
      have n3 := cnt_bd isEmpty m.ss k
      have n4 := cnt_bd isOther m.ss k
      have S1 := Lib.hid (cnt_step isIdle hs)
      have S2 := Lib.hid (cnt_step isLeased hs)
      have S3 := Lib.hid (cnt_step isEmpty hs)
      have S4 := Lib.hid (cnt_step isOther hs)
      have E1 := Lib.hid e1
      have Q1 := Lib.hid q1
      have HB := Lib.hid hb
      have c0 := q1.cell 0
      have c1 := q1.cell 1
      have c2 := q1.cell 2
      have c3 := q1.cell 3
      have f0 := q1.frozen 0
      have f1 := q1.frozen 1
      have f2 := q1.frozen 2
      have f3 := q1.frozen 3
      have hlw : W.heap.size + 1 < wr.heap.size := q1.lt
      simp only [List.getElem?_toArray, List.getElem?_cons_zero, List.getElem?_cons_succ] at c0 c1 c2 c3
      generalize cnt isIdle m.ss k = a1 at *
      generalize cnt isLeased m.ss k = a2 at *
      generalize cnt isEmpty m.ss k = a3 at *
      generalize cnt isOther m.ss k = a4 at *
      obtain ⟨n1, n1'⟩ := n1
      obtain ⟨n2, n2'⟩ := n2
      obtain ⟨n3, n3'⟩ := n3
      obtain ⟨n4, n4'⟩ := n4
      clear hs e1 q1 hb
      obtain ⟨s0, s1, s2, s3, s4, s5, s6, s7, s8⟩ := s
      obtain ⟨d0, d1, d2, d3, d4, d5, d6, d7, d8⟩ := d
      simp only [isIdle, isLeased, isEmpty, isOther] at S1 S2 S3 S4
      by_cases x2 : s0 = 2
      · subst x2
        have hr : RowAt ((wr.setCell ⟨W.heap.size + 1, 0, none⟩ (.int .i64 (a1 + 1))).alloc (.cells #[.int .i64 2, .int .i64 s1, .int .i64 s2, .bool s3, .bool s4, .int .i64 s5, .int .i64 s6, .int .i64 s7, .int .i64 s8] 59)) (W.heap.size + 1) #[.int .i64 (cnt isIdle m.ss (k + 1)), .int .i64 (cnt isLeased m.ss (k + 1)), .int .i64 (cnt isEmpty m.ss (k + 1)), .int .i64 (cnt isOther m.ss (k + 1))] 34 := by
          rw [S1.out, S2.out, S3.out, S4.out]
          have := (Q1.out.setc 0 (.int .i64 (a1 + 1))).alloc (.cells #[.int .i64 2, .int .i64 s1, .int .i64 s2, .bool s3, .bool s4, .int .i64 s5, .int .i64 s6, .int .i64 s7, .int .i64 s8] 59)
          simpa [] using this
        have HRr := Lib.hid hr
        clear hr
        go_wp2_with fail
        go_roundw
        case rel => exact ⟨k + 1, by omega, by go_num, (HB.out.setCell (by simp) _).alloc (by simpa using HB.out.size) _, E1.out.chg (F := fun k => k = W.heap.size + 1) (((Chg.refl (fun k => k = W.heap.size + 1) wr).setCell _ _ (fun _ => rfl)).alloc _) (by omega), HRr.out⟩
        case measure => simp [intOf]; omega
      · have z2 : (s0 == 2) = false := by simp [x2]
        have z2' : (s0 != 2) = true := by simp [x2]
        by_cases x3 : s0 = 3
        · subst x3
          have hr : RowAt ((wr.setCell ⟨W.heap.size + 1, 1, none⟩ (.int .i64 (a2 + 1))).alloc (.cells #[.int .i64 3, .int .i64 s1, .int .i64 s2, .bool s3, .bool s4, .int .i64 s5, .int .i64 s6, .int .i64 s7, .int .i64 s8] 59)) (W.heap.size + 1) #[.int .i64 (cnt isIdle m.ss (k + 1)), .int .i64 (cnt isLeased m.ss (k + 1)), .int .i64 (cnt isEmpty m.ss (k + 1)), .int .i64 (cnt isOther m.ss (k + 1))] 34 := by
            rw [S1.out, S2.out, S3.out, S4.out]
            have := (Q1.out.setc 1 (.int .i64 (a2 + 1))).alloc (.cells #[.int .i64 3, .int .i64 s1, .int .i64 s2, .bool s3, .bool s4, .int .i64 s5, .int .i64 s6, .int .i64 s7, .int .i64 s8] 59)
            simpa [] using this
          have HRr := Lib.hid hr
          clear hr
          go_wp2_with fail
          go_roundw
          case rel => exact ⟨k + 1, by omega, by go_num, (HB.out.setCell (by simp) _).alloc (by simpa using HB.out.size) _, E1.out.chg (F := fun k => k = W.heap.size + 1) (((Chg.refl (fun k => k = W.heap.size + 1) wr).setCell _ _ (fun _ => rfl)).alloc _) (by omega), HRr.out⟩
          case measure => simp [intOf]; omega
        · have z3 : (s0 == 3) = false := by simp [x3]
          have z3' : (s0 != 3) = true := by simp [x3]
          by_cases x0 : s0 = 0
          · subst x0
            have hr : RowAt ((wr.setCell ⟨W.heap.size + 1, 2, none⟩ (.int .i64 (a3 + 1))).alloc (.cells #[.int .i64 0, .int .i64 s1, .int .i64 s2, .bool s3, .bool s4, .int .i64 s5, .int .i64 s6, .int .i64 s7, .int .i64 s8] 59)) (W.heap.size + 1) #[.int .i64 (cnt isIdle m.ss (k + 1)), .int .i64 (cnt isLeased m.ss (k + 1)), .int .i64 (cnt isEmpty m.ss (k + 1)), .int .i64 (cnt isOther m.ss (k + 1))] 34 := by
              rw [S1.out, S2.out, S3.out, S4.out]
              have := (Q1.out.setc 2 (.int .i64 (a3 + 1))).alloc (.cells #[.int .i64 0, .int .i64 s1, .int .i64 s2, .bool s3, .bool s4, .int .i64 s5, .int .i64 s6, .int .i64 s7, .int .i64 s8] 59)
              simpa [] using this
            have HRr := Lib.hid hr
            clear hr
            go_wp2_with fail
            go_roundw
            case rel => exact ⟨k + 1, by omega, by go_num, (HB.out.setCell (by simp) _).alloc (by simpa using HB.out.size) _, E1.out.chg (F := fun k => k = W.heap.size + 1) (((Chg.refl (fun k => k = W.heap.size + 1) wr).setCell _ _ (fun _ => rfl)).alloc _) (by omega), HRr.out⟩
            case measure => simp [intOf]; omega
          · have z0 : (s0 == 0) = false := by simp [x0]
            have z0' : (s0 != 0) = true := by simp [x0]
            have hr : RowAt ((wr.setCell ⟨W.heap.size + 1, 3, none⟩ (.int .i64 (a4 + 1))).alloc (.cells #[.int .i64 s0, .int .i64 s1, .int .i64 s2, .bool s3, .bool s4, .int .i64 s5, .int .i64 s6, .int .i64 s7, .int .i64 s8] 59)) (W.heap.size + 1) #[.int .i64 (cnt isIdle m.ss (k + 1)), .int .i64 (cnt isLeased m.ss (k + 1)), .int .i64 (cnt isEmpty m.ss (k + 1)), .int .i64 (cnt isOther m.ss (k + 1))] 34 := by
              rw [S1.out, S2.out, S3.out, S4.out]
              have := (Q1.out.setc 3 (.int .i64 (a4 + 1))).alloc (.cells #[.int .i64 s0, .int .i64 s1, .int .i64 s2, .bool s3, .bool s4, .int .i64 s5, .int .i64 s6, .int .i64 s7, .int .i64 s8] 59)
              simpa [x0, x2, x3] using this
            have HRr := Lib.hid hr
            clear hr
            go_wp2_with fail
            go_roundw
            case rel => exact ⟨k + 1, by omega, by go_num, (HB.out.setCell (by simp) _).alloc (by simpa using HB.out.size) _, E1.out.chg (F := fun k => k = W.heap.size + 1) (((Chg.refl (fun k => k = W.heap.size + 1) wr).setCell _ _ (fun _ => rfl)).alloc _) (by omega), HRr.out⟩
            case measure => simp [intOf]; omega
    · have hkk : k = m.ss.length := by omega
      have HR2 : RowKit.Hid (R = { Ev.zero with idle := cnt isIdle m.ss k, leased := cnt isLeased m.ss k, empty := cnt isEmpty m.ss k, other := cnt isOther m.ss k }) := Lib.hid (by rw [hkk]; exact HR.out)
      have c0 := q1.cell 0
      have c1 := q1.cell 1
      have c2 := q1.cell 2
      have c3 := q1.cell 3
      simp only [List.getElem?_toArray, List.getElem?_cons_zero, List.getElem?_cons_succ] at c0 c1 c2 c3
      generalize cnt isIdle m.ss k = a1 at *
      generalize cnt isLeased m.ss k = a2 at *
      generalize cnt isEmpty m.ss k = a3 at *
      generalize cnt isOther m.ss k = a4 at *
      have HB := Lib.hid hb
      clear hkk HR hb q1
      go_upto_region 14 with (fail)
      obtain ⟨Z, z1, z2⟩ := e1
      refine wp_region_lit ?_
      refine RowL.wpList_run rfl (.agg #[.int .i64 a1, .int .i64 a2, .int .i64 a3, .int .i64 a4]) (by go_simp; try rfl) ?_
      refine RowL.wpList_run rfl ({ Ev.zero with idle := a1, leased := a2, empty := a3, other := a4 } : Ev).val (by go_simp; try rfl) ?_
      refine RowL.wpList_store_row rfl 36 (.tmp 2) (.tmp 41) rfl W.heap.size _ Z ({ Ev.zero with idle := a1, leased := a2, empty := a3, other := a4 } : Ev).cells rfl rfl z2 z1 (by kernel_rfl) (ev_one _) ?_
      go_wp2_with fail
      refine bodyPost_ret (results_row rfl _ _ W.heap.size _ _ _ rfl (z2.set _) Tryz.underlying36 rfl (by kernel_rfl)) rfl ?_
      exact ⟨by rw [HR2.out], HB.out.trans ((chg_setRow (F := fun k => k = W.heap.size) (Chg.refl _ _) _ _ (fun _ => rfl)).below HB.out.size (fun k e => by omega))⟩
end Go.Proofs.YtpmkgddjgebojaaGreatDoor.Mod
