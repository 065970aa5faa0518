/- Part 1 of the walks and plain laws that the last text joins. -/
import Derived.Test.YtpmkgddjgebojaaGreatDoorD1
set_option maxRecDepth 100000
set_option maxHeartbeats 16000000
set_option linter.unusedVariables false
set_option linter.unusedSimpArgs false
namespace Go.Proofs.YtpmkgddjgebojaaGreatDoor.Mod
open Go.RowKit Go.Shelf Hp Slot RowL Life Rng
attribute [local go_sem] Oper.semAt_some
theorem fits_any (W : World) (mb : Nat) (kind own : Int) : Calls Tryz.prog 81 #[.pointer (some ⟨mb, 0, none⟩), .i kind, .i own] W fun e W' =>
    e = .returned (.func (.func 98) #[] #[.pointer (some ⟨W.heap.size, 0, none⟩), .pointer (some ⟨W.heap.size + 1, 0, none⟩), .pointer (some ⟨W.heap.size + 1 + 1, 0, none⟩)]) ∧
    W' = ((W.alloc (.cells #[.pointer (some ⟨mb, 0, none⟩)] 27)).alloc (.cells #[.i kind] 3)).alloc (.cells #[.i own] 3) := by
  go_enter Tryz.func81, Tryz.ntmps81
  go_wp2
  go_ret
  exact ⟨rfl, rfl⟩
theorem slots_one {W : World} {sb i : Nat} {ss ss' : List S} {s s' : S} (h : SlotsAt W sb ss) (h' : SlotsAt W sb ss') (hi : ss[i]? = some s) (hi' : ss'[i]? = some s') : s = s' := by
  obtain ⟨a0, a1, a2, a3, a4, a5, a6, a7, a8⟩ := h.get hi
  obtain ⟨b0, b1, b2, b3, b4, b5, b6, b7, b8⟩ := h'.get hi'
  cases s; cases s'
  simp_all
def fI (sb n : Nat) (_ : Nat) (W : World) : Prop := ∃ ss : List S, ss.length = n ∧ SlotsAt W sb ss
def fTells (sb n : Nat) (kind own : Int) (i : Nat) (W : World) (b : Bool) : Prop := ∃ ss : List S, ss.length = n ∧ SlotsAt W sb ss ∧ ∀ s, ss[i]? = some s → Find.fits s kind own = b
def fSkips (sb n : Nat) (kind own : Int) (i : Nat) (W : World) (i' : Nat) : Prop := i < n ∧ i' = i + 1 ∧ fTells sb n kind own i W false
def fYields (sb n : Nat) (kind own : Int) (i : Nat) (W : World) (x i' : Nat) : Prop := i < n ∧ x = i ∧ i' = i + 1 ∧ fTells sb n kind own i W true
theorem fchg {w w' : World} (hb : Below w.drew.heap.size w.drew w') : Chg (fun _ => False) w w' := ((Chg.refl (fun _ => False) w).drew).trans (Chg.ofBelow (F := fun _ => False) hb) (fun _ _ h => h)
theorem fcomb {e : Ending} {A B : Prop} (h : (e = .returned (.bool true) ∧ A) ∨ (e = .returned (.bool false) ∧ B)) : ∃ b, e = .returned (.bool b) ∧ ((b = true ∧ A) ∨ (b = false ∧ B)) := by
  rcases h with ⟨h, h2⟩ | ⟨h, h2⟩
  · exact ⟨true, h, .inl ⟨rfl, h2⟩⟩
  · exact ⟨false, h, .inr ⟨rfl, h2⟩⟩
theorem fits_seq (b1 b2 b3 mb sb n : Nat) (kind own : Int) (Ww : Nat → Prop) (W : World) (hk : kind = 0 ∨ kind = 1 ∨ kind = 2 ∨ kind = 3 ∨ kind = 4 ∨ kind = 6) (hn : n ≤ 1000)
    (h1 : W.cell? ⟨b1, 0, none⟩ = some (.pointer (some ⟨mb, 0, none⟩))) (h2 : W.cell? ⟨b2, 0, none⟩ = some (.i kind)) (h3 : W.cell? ⟨b3, 0, none⟩ = some (.i own)) (hm : Hdr W mb sb n)
    (n1 : ¬ Ww b1) (n2 : ¬ Ww b2) (n3 : ¬ Ww b3) (nm : ¬ Ww mb) (hW : ∀ k, Ww k → k < W.heap.size) :
    SeqC Tryz.prog 98 #[.pointer (some ⟨b1, 0, none⟩), .pointer (some ⟨b2, 0, none⟩), .pointer (some ⟨b3, 0, none⟩)] (fun x : Nat => #[.i x]) (fI sb n) Ww (fun _ => False)
      (fSkips sb n kind own) (fYields sb n kind own) (fun i _ => i = n) 0 W := by
  intro L J Jx hJI hJs hJk hY h0
  unfold Hdr at hm
  refine callsIn_of_wp Tryz.func98 rfl trivial ?_ rfl
  simp only [Tryz.ntmps98, List.size_toArray, List.length_cons, List.length_nil, Nat.reduceAdd, Nat.reduceSub, Array.replicate_succ, Array.replicate_zero, List.push_toArray, List.append_toArray, List.nil_append, List.cons_append]
  have hmo : Tryz.prog.follows .mixedOrders = true := by kernel_rfl
  gi_wp2
  gi_loopw [11] (fun i wr => ∃ k : Nat, k ≤ n ∧ i = .i k ∧ wr.cell? ⟨b1, 0, none⟩ = some (.pointer (some ⟨mb, 0, none⟩)) ∧ wr.cell? ⟨b2, 0, none⟩ = some (.i kind) ∧ wr.cell? ⟨b3, 0, none⟩ = some (.i own) ∧
    wr.cell? ⟨mb, 5, none⟩ = some (.slice (some ⟨sb, 0, none⟩) n n) ∧ J k wr ∧ W.heap.size ≤ wr.heap.size) (fun i _ => n - (intOf i).toNat)
  case atStart => exact ⟨0, by omega, rfl, h1, h2, h3, hm, h0, Nat.le_refl _⟩
  case round =>
    obtain ⟨k, hkn, rfl, g1, g2, g3, gm, hj, hsz⟩ := hrel
    by_cases hlt : k < n
    · obtain ⟨ss, hsl, hss⟩ := hJI k wr hj
      obtain ⟨s, hs⟩ : ∃ s, ss[k]? = some s := ⟨_, List.getElem?_eq_getElem (by omega)⟩
      obtain ⟨c0, c1, c2, c3, c4, c5, c6, c7, c8⟩ := hss.get hs
      have hlw : sb < wr.heap.size := hss.lt (by omega)
      have k0 : (0 : Int) ≤ (k : Int) := by omega
      have k1 : (k : Int) < (n : Int) := by omega
      have k2 : (k : Int) ≤ (n : Int) - 1 := by omega
      have hfit := fun W => Find.fits_any W s kind own hk
      have htell : ∀ W', W'.heap[sb]? = wr.heap[sb]? → fTells sb n kind own k W' (Find.fits s kind own) := fun W' hb => ⟨ss, hsl, hss.stable hb, fun s' hs' => by rw [Option.some.inj (hs.symm.trans hs')]⟩
      generalize Find.fits s kind own = b at *
      have Hs := Lib.hid hs
      clear hs
      obtain ⟨st, ow, sm, br, ma, us, ge, ep, ve⟩ := s
      simp only [S.val, S.cells] at hfit c0 c1 c2 c3 c4 c5 c6 c7 c8
      cases b
      · gi_wp2_with fail
        refine wpIn_wide.2 ?_
        refine wp_region_held_drew (S := fun w' => w'.cell? ⟨b1, 0, none⟩ = some (.pointer (some ⟨mb, 0, none⟩)) ∧ w'.cell? ⟨b2, 0, none⟩ = some (.i kind) ∧ w'.cell? ⟨b3, 0, none⟩ = some (.i own) ∧ w'.cell? ⟨mb, 5, none⟩ = some (.slice (some ⟨sb, 0, none⟩) n n) ∧ w'.cell? ⟨sb, k * 9, none⟩ = some (.i st) ∧ w'.cell? ⟨sb, k * 9 + 1, none⟩ = some (.i ow) ∧ w'.cell? ⟨sb, k * 9 + 2, none⟩ = some (.i sm) ∧ w'.cell? ⟨sb, k * 9 + 3, none⟩ = some (.bool br) ∧ w'.cell? ⟨sb, k * 9 + 4, none⟩ = some (.bool ma) ∧ w'.cell? ⟨sb, k * 9 + 5, none⟩ = some (.i us) ∧ w'.cell? ⟨sb, k * 9 + 6, none⟩ = some (.i ge) ∧ w'.cell? ⟨sb, k * 9 + 7, none⟩ = some (.i ep) ∧ w'.cell? ⟨sb, k * 9 + 8, none⟩ = some (.i ve)) (by kernel_rfl) (by exact ⟨g1, g2, g3, gm, c0, c1, c2, c3, c4, c5, c6, c7, c8⟩) (fun hHeld => ?_)
        refine wpAnyH_take (i := 0) (v := ?_) rfl (by kernel_rfl) (by kernel_rfl) (by kernel_rfl) (fun _ _ _ h => h) (Or.inl ⟨rfl, ?_⟩) hHeld ?_
        rotate_left
        · intro w hSw
          try dsimp only at hSw
          go_simp
          try with_reducible rfl
        try simp only [Act.put, sA, sZ, sS]
        refine wpAnyH_take (i := 1) (v := ?_) rfl (by kernel_rfl) (by kernel_rfl) (by kernel_rfl) (fun _ _ _ h => h) (Or.inl ⟨rfl, ?_⟩) hHeld ?_
        rotate_left
        · intro w hSw
          try dsimp only at hSw
          go_simp
          try with_reducible rfl
        try simp only [Act.put, sA, sZ, sS]
        refine wpAnyH_take (i := 2) (v := ?_) rfl (by kernel_rfl) (by kernel_rfl) (by kernel_rfl) (fun _ _ _ h => h) (Or.inl ⟨rfl, ?_⟩) hHeld ?_
        rotate_left
        · intro w hSw
          try dsimp only at hSw
          go_simp
          try with_reducible rfl
        try simp only [Act.put, sA, sZ, sS]
        refine wpAnyH_take (i := 3) (v := ?_) rfl (by kernel_rfl) (by kernel_rfl) (by kernel_rfl) (fun _ _ _ h => h) (Or.inl ⟨rfl, ?_⟩) hHeld ?_
        rotate_left
        · intro w hSw
          try dsimp only at hSw
          go_simp
          try with_reducible rfl
        try simp only [Act.put, sA, sZ, sS]
        refine wpAnyH_take (i := 4) (v := ?_) rfl (by kernel_rfl) (by kernel_rfl) (by kernel_rfl) (fun _ _ _ h => h) (Or.inl ⟨rfl, ?_⟩) hHeld ?_
        rotate_left
        · intro w hSw
          try dsimp only at hSw
          go_simp
          try with_reducible rfl
        try simp only [Act.put, sA, sZ, sS]
        refine wpAnyH_take (i := 5) (v := ?_) rfl (by kernel_rfl) (by kernel_rfl) (by kernel_rfl) (fun _ _ _ h => h) (Or.inl ⟨rfl, ?_⟩) hHeld ?_
        rotate_left
        · intro w hSw
          try dsimp only at hSw
          go_simp
          try with_reducible rfl
        try simp only [Act.put, sA, sZ, sS]
        refine wpAnyH_take (i := 6) (v := ?_) rfl (by kernel_rfl) (by kernel_rfl) (by kernel_rfl) (fun _ _ _ h => h) (Or.inl ⟨rfl, ?_⟩) hHeld ?_
        rotate_left
        · intro w hSw
          try dsimp only at hSw
          go_simp
          try with_reducible rfl
        try simp only [Act.put, sA, sZ, sS]
        refine wpAnyH_take (i := 7) (v := ?_) rfl (by kernel_rfl) (by kernel_rfl) (by kernel_rfl) (fun _ _ _ h => h) (Or.inl ⟨rfl, ?_⟩) hHeld ?_
        rotate_left
        · intro w hSw
          try dsimp only at hSw
          go_simp
          try with_reducible rfl
        try simp only [Act.put, sA, sZ, sS]
        refine wpAnyH_take (i := 8) (v := ?_) rfl (by kernel_rfl) (by kernel_rfl) (by kernel_rfl) (fun _ _ _ h => h) (Or.inl ⟨rfl, ?_⟩) hHeld ?_
        rotate_left
        · intro w hSw
          try dsimp only at hSw
          go_simp
          try with_reducible rfl
        try simp only [Act.put, sA, sZ, sS]
        refine wpAnyH_ready (rs := [9]) (by kernel_rfl) (by simp) ?_
        refine AllReadyH.cons rfl (fun K hK => ?_) AllReadyH.nil
        go_simp
        refine (hfit _).mono ?_
        rintro e w6 ⟨rfl, hb6⟩
        go_simp
        refine hK.out _ _ (by obtain ⟨e1, e2, e3, em, e4⟩ := hHeld; exact ⟨Field.bkeep hb6 e1, Field.bkeep hb6 e2, Field.bkeep hb6 e3, Field.bkeep hb6 em, Field.bkeep hb6 c0, Field.bkeep hb6 c1, Field.bkeep hb6 c2, Field.bkeep hb6 c3, Field.bkeep hb6 c4, Field.bkeep hb6 c5, Field.bkeep hb6 c6, Field.bkeep hb6 c7, Field.bkeep hb6 c8⟩) (fun hHeld2 => ?_)
        clear hK K
        try simp only [Act.put, sA, sZ, sS]
        refine wpAnyH_take (i := 10) (v := ?_) rfl (by kernel_rfl) (by kernel_rfl) (by kernel_rfl) (fun _ _ _ h => h) (Or.inl ⟨rfl, ?_⟩) hHeld2 ?_
        rotate_left
        · intro w hSw
          try dsimp only at hSw
          go_simp
          try with_reducible rfl
        try simp only [Act.put, sA, sZ, sS]
        refine wpAnyH_take (i := 11) (v := undef) rfl (by kernel_rfl) (by kernel_rfl) (by kernel_rfl) (fun _ _ _ h => h) (Or.inr ⟨rfl, rfl⟩) hHeld2 ?_
        try simp only [Act.put, sA, sZ, sS]
        refine wpAnyH_take (i := 12) (v := undef) rfl (by kernel_rfl) (by kernel_rfl) (by kernel_rfl) (fun _ _ _ h => h) (Or.inr ⟨rfl, rfl⟩) hHeld2 ?_
        try simp only [Act.put, sA, sZ, sS]
        refine wpAnyH_take (i := 13) (v := undef) rfl (by kernel_rfl) (by kernel_rfl) (by kernel_rfl) (fun _ _ _ h => h) (Or.inr ⟨rfl, rfl⟩) hHeld2 ?_
        try simp only [Act.put, sA, sZ, sS]
        refine wpAnyH_take (i := 14) (v := undef) rfl (by kernel_rfl) (by kernel_rfl) (by kernel_rfl) (fun _ _ _ h => h) (Or.inr ⟨rfl, rfl⟩) hHeld2 ?_
        try simp only [Act.put, sA, sZ, sS]
        refine wpAnyH_take (i := 15) (v := ?_) rfl (by kernel_rfl) (by kernel_rfl) (by kernel_rfl) (fun _ _ _ h => h) (Or.inl ⟨rfl, ?_⟩) hHeld2 ?_
        rotate_left
        · intro w hSw
          try dsimp only at hSw
          go_simp
          try with_reducible rfl
        try simp only [Act.put, sA, sZ, sS]
        refine wpAnyH_done (by kernel_rfl) ?_ _
        have hC6 : Chg (fun _ => False) wr w6 := ((Chg.refl (fun _ => False) wr).drew).trans (Chg.ofBelow (F := fun _ => False) hb6) (fun _ _ h => h)
        have hj6 := hJk k (k + 1) w6 (hJs _ _ _ hj hC6) ⟨hlt, rfl, htell w6 (hC6.block sb hlw id)⟩
        obtain ⟨e1, e2, e3, em, _⟩ := hHeld2
        have hsz6 := hC6.size
        clear hHeld hfit htell hb6
        go_simp
        gi_wp2
        go_roundw
        case rel => exact ⟨k + 1, by omega, by go_num, e1, e2, e3, em, hj6, by omega⟩
        case measure => simp [intOf]; omega
      · gi_wp2_with fail
        gi_region_with_o (first
          | (refine ⟨trivial, ?_⟩; gi_at_call 99; refine (callsIn_wide.2 (hfit _)).mono ?_; rintro e w6 ⟨rfl, hb6⟩; have hC6 := fchg hb6; have hs6 := hC6.size; have hj6 := hJs _ _ _ hj hC6;
             obtain ⟨fn, tmps, assign, body, hy, hR⟩ := hY k k (k + 1) w6 hj6 ⟨hlt, rfl, rfl, htell w6 (hC6.block sb hlw id)⟩; have e1 := hC6.cell (World.block_lt_of_cell? _ _ g1) id; have e2 := hC6.cell (World.block_lt_of_cell? _ _ g2) id; have e3 := hC6.cell (World.block_lt_of_cell? _ _ g3) id; have em := hC6.cell (World.block_lt_of_cell? _ _ gm) id)
          | (refine hR.mono ?_; rintro e W3 h; obtain ⟨bv, rfl, hp⟩ := fcomb h)
          | (refine ⟨fun h => by cases h, ?_⟩; refine hR.mono ?_; rintro e W3 h; obtain ⟨bv, rfl, hp⟩ := fcomb h))
        all_goals (
          have E1 := e1.trans g1
          have E2 := e2.trans g2
          have E3 := e3.trans g3
          have Em := em.trans gm
          clear hfit htell hy hR c0 c1 c2 c3 c4 c5 c6 c7 c8 e1 e2 e3 em
          rcases hp with ⟨rfl, hJ3, hs3, hk3⟩ | ⟨rfl, hJx3⟩
          · have x1 := (World.cell?_of_block (w := w6) (hk3 b1 (World.block_lt_of_cell? _ _ E1) n1)).trans E1
            have x2 := (World.cell?_of_block (w := w6) (hk3 b2 (World.block_lt_of_cell? _ _ E2) n2)).trans E2
            have x3 := (World.cell?_of_block (w := w6) (hk3 b3 (World.block_lt_of_cell? _ _ E3) n3)).trans E3
            have xm := (World.cell?_of_block (w := w6) (hk3 mb (World.block_lt_of_cell? _ _ Em) nm)).trans Em
            gi_wp2
            go_roundw
            case rel => exact ⟨k + 1, by omega, by go_num, x1, x2, x3, xm, hJ3, by omega⟩
            case measure => simp [intOf]; omega
          · gi_wp2
            refine bodyPost_ret (results_none rfl _ _ _) rfl ?_
            exact ⟨⟨_, rfl⟩, .inr hJx3⟩)
    · gi_wp2
      go_end0
      exact ⟨⟨_, rfl⟩, .inl ⟨k, by omega, hj⟩⟩
end Go.Proofs.YtpmkgddjgebojaaGreatDoor.Mod
