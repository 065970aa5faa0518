/- Part 33 of the walks and plain laws that the last text joins. -/
import Derived.Test.YtpmkgddjgebojaaGreatDoorE24
import Derived.Test.YtpmkgddjgebojaaGreatDoorE28
import Derived.Lib.SliceRun
import Derived.Laws.AppendOwn
set_option maxRecDepth 100000
set_option maxHeartbeats 16000000
set_option linter.unusedVariables false
set_option linter.unusedSimpArgs false
namespace Go.Proofs.YtpmkgddjgebojaaGreatDoor.Mod
open Go.RowKit Hp Slot RowL Life
theorem view_info : (Tryz.prog.info? 59).map (fun i => (i.zero, i.size, i.bytes)) = some (some (.agg Zs), 9, 64):=by kernel_rfl
theorem ownsRow_at {w : World} {base : Nat} {e : TypeId} {size : Nat} {v : Value} {n : Nat} {xs : List Value} (h : w.ownsRow base e size v n xs) (hv : v ≠ .slice none 0 0) : ∃ g cap, v = .slice (some ⟨g, 0, none⟩) n cap ∧ base ≤ g:=by
 rcases h.2 with h2 | ⟨g, cap, cur, rfl, hb, _⟩
 ·exact absurd h2.1 hv
 ·exact ⟨g, cap, rfl, hb⟩
theorem clone_slots (w : World) (b off n c : Nat) (news : List Value) (hl : news.length = n * 9) (hn : n ≤ 1000)
  (hc : ∀ j u, news[j]? = some u → w.cell? ⟨b, off + j, none⟩ = some u) (h1 : ∀ u ∈ news, u.oneCell' = true) :
  Calls Tryz.prog 57 #[.slice (some ⟨b, off, none⟩) n c] w fun e w' => ∃ g cap, e = .returned (.slice (some ⟨g, 0, none⟩) n cap) ∧ OwnS w' (.slice (some ⟨g, 0, none⟩) n cap) n 9 news ∧ w.heap.size ≤ g ∧ Below w.heap.size w w':=by
 have q22 : ∀ (w : World) (a : Option Addr) (n c n' c' : Nat), (binOp .eql 42 (.slice a n c) (.slice none n' c')).run Tryz.prog w = .ok (.bool a.isNone) w:=fun w a n c n' c' => Lib.run_eql_slice_nil w _ _ a n c n' c' Tryz.underlying42
 have HC:=Lib.hid hc
 have H1:=Lib.hid h1
 have HL:=Lib.hid hl
 obtain ⟨i0, hi, hz0, hz1, hz2⟩:=info_parts view_info
 clear hc h1 hl
 go_enter Tryz.func57, Tryz.ntmps57
 go_wp2_with (at_builtin; refine wpList_append_own _ rfl _ _ 42 rfl w.heap.size 59 i0 (.agg Zs) 9 64 Tryz.underlying42 hi hz0 hz1 hz2 rfl (by decide) _ _ _ rfl (World.ownsRow_made w #[] 0 (Nat.le_refl _) (Nat.zero_le _) (by simp)) ⟨b, off, none⟩ n c news rfl ?qc1 ?qc2 ?qc3 ?qc4 ?qc5 ?qc6 ?_)
 case qc1 => exact HL.out
 case qc2 =>
  intro j u hj
  rw [Addr.add_lit]
  exact Lib.cell?_alloc_some _ (HC.out j u hj)
 case qc3 => exact H1.out
 case qc4 => unfold maxLen; omega
 case qc5 => omega
 case qc6 => simp
 intro v' w1 hown hgrow hnil
 obtain ⟨g, cap, rfl, hg⟩:=ownsRow_at hown (fun e => by simpa using hnil e)
 have HOWN:=Lib.hid hown
 have HGR:=Lib.hid hgrow
 clear hown hgrow hnil q22 hi hz0 hz1 hz2
 go_wp2
 go_ret
 have h3:=ownS_of_row HOWN.out
 try simp only [Nat.zero_add, List.nil_append] at h3
 refine ⟨g, cap, by simp, by simpa using h3, hg, ?_⟩
 exact ((Below.refl _ w).alloc (Nat.le_refl _) _).grown HGR.out (by simp) (by intro k hk; simp [Value.ownBlock] at hk; omega)
theorem clone_ints (w : World) (b off n c : Nat) (news : List Value) (hl : news.length = n * 1) (hn : n ≤ 1000)
  (hc : ∀ j u, news[j]? = some u → w.cell? ⟨b, off + j, none⟩ = some u) (h1 : ∀ u ∈ news, u.oneCell' = true) :
  Calls Tryz.prog 58 #[.slice (some ⟨b, off, none⟩) n c] w fun e w' => ∃ g cap, e = .returned (.slice (some ⟨g, 0, none⟩) n cap) ∧ OwnS w' (.slice (some ⟨g, 0, none⟩) n cap) n 1 news ∧ w.heap.size ≤ g ∧ Below w.heap.size w w':=by
 have q22 : ∀ (w : World) (a : Option Addr) (n c n' c' : Nat), (binOp .eql 43 (.slice a n c) (.slice none n' c')).run Tryz.prog w = .ok (.bool a.isNone) w:=fun w a n c n' c' => Lib.run_eql_slice_nil w _ _ a n c n' c' Tryz.underlying43
 have HC:=Lib.hid hc
 have H1:=Lib.hid h1
 have HL:=Lib.hid hl
 obtain ⟨i0, hi, hz0, hz1, hz2⟩:=info_parts int_info
 clear hc h1 hl
 go_enter Tryz.func58, Tryz.ntmps58
 go_wp2_with (at_builtin; refine wpList_append_own _ rfl _ _ 43 rfl w.heap.size 3 i0 (.i 0) 1 8 Tryz.underlying43 hi hz0 hz1 hz2 rfl (by decide) _ _ _ rfl (World.ownsRow_made w #[] 0 (Nat.le_refl _) (Nat.zero_le _) (by simp)) ⟨b, off, none⟩ n c news rfl ?qc1 ?qc2 ?qc3 ?qc4 ?qc5 ?qc6 ?_)
 case qc1 => exact HL.out
 case qc2 =>
  intro j u hj
  rw [Addr.add_lit]
  exact Lib.cell?_alloc_some _ (HC.out j u hj)
 case qc3 => exact H1.out
 case qc4 => unfold maxLen; omega
 case qc5 => omega
 case qc6 => simp
 intro v' w1 hown hgrow hnil
 obtain ⟨g, cap, rfl, hg⟩:=ownsRow_at hown (fun e => by simpa using hnil e)
 have HOWN:=Lib.hid hown
 have HGR:=Lib.hid hgrow
 clear hown hgrow hnil q22 hi hz0 hz1 hz2
 go_wp2
 go_ret
 have h3:=ownS_of_row HOWN.out
 try simp only [Nat.zero_add, List.nil_append] at h3
 refine ⟨g, cap, by simp, by simpa using h3, hg, ?_⟩
 exact ((Below.refl _ w).alloc (Nat.le_refl _) _).grown HGR.out (by simp) (by intro k hk; simp [Value.ownBlock] at hk; omega)
theorem clone_nil (w : World) : Calls Tryz.prog 58 #[.slice none 0 0] w fun e w' => e = .returned (.slice none 0 0) ∧ w = w':=by
 have q22 : ∀ (w : World) (a : Option Addr) (n c n' c' : Nat), (binOp .eql 43 (.slice a n c) (.slice none n' c')).run Tryz.prog w = .ok (.bool a.isNone) w:=fun w a n c n' c' => Lib.run_eql_slice_nil w _ _ a n c n' c' Tryz.underlying43
 go_enter Tryz.func58, Tryz.ntmps58
 go_wp2
 go_ret
 exact ⟨rfl, rfl⟩
theorem clone_line (w : World) (v : Value) (l : List Int) (hl : l.length ≤ 1000) (ho : OwnS w v l.length 1 (l.map (Value.int .i64))) :
  Calls Tryz.prog 58 #[v] w fun e w' => ∃ a c, e = .returned (.slice a l.length c) ∧ OwnS w' (.slice a l.length c) l.length 1 (l.map (Value.int .i64)) ∧ (∀ k, Fp (.slice a l.length c) k → w.heap.size ≤ k) ∧ Below w.heap.size w w':=by
 rcases ho.2 with ⟨rfl, h0⟩ | ⟨g, off, cap, rfl, hn, hcm, isc, hs, hf, hx⟩
 ·refine (clone_nil w).mono ?_
  rintro e w' ⟨rfl, rfl⟩
  obtain rfl : l = []:=List.eq_nil_of_length_eq_zero h0
  exact ⟨none, 0, rfl, ownS_nil _ _, fun k hk => (fp_nil _ hk).elim, Below.refl _ _⟩
 ·refine (clone_ints w g off l.length cap (l.map (Value.int .i64)) (by simp) hl hx (by simp [Value.oneCell'])).mono ?_
  rintro e w' ⟨g', cap', rfl, h1, h2, h3⟩
  exact ⟨_, _, rfl, h1, fun k hk => by have hh:=(fp_some _ _ _ _).1 hk; simp at hh; omega, h3⟩
def flat (ss : List S) : List Value:=ss.flatMap fun s => s.cells.toList
theorem flat_len : ∀ ss, (flat ss).length = ss.length * 9
 | [] => rfl
 | s :: l => by
  have:=flat_len l
  simp only [flat, List.flatMap_cons, List.length_append] at this ⊢
  rw [this]
  simp [S.cells]; omega
theorem flat_at : ∀ (ss : List S) (i : Nat) (s : S) (q : Nat), ss[i]? = some s → q < 9 → (flat ss)[i * 9 + q]? = s.cells[q]?
 | [], i, s, q, h, _ => by simp at h
 | t :: l, 0, s, q, h, hq => by
  obtain rfl : t = s:=by simpa using h
  simp only [flat, List.flatMap_cons]
  rw [List.getElem?_append_left (by simp [S.cells]; omega)]
  simp
 | t :: l, i + 1, s, q, h, hq => by
  have ih:=flat_at l i s q (by simpa using h) hq
  simp only [flat, List.flatMap_cons] at ih ⊢
  rw [List.getElem?_append_right (by simp [S.cells]; omega), ← ih]
  congr 1
  simp [S.cells]; omega
theorem flat_cell {W : World} {sb : Nat} {ss : List S} (h : SlotsAt W sb ss) (j : Nat) (u : Value) (hu : (flat ss)[j]? = some u) : W.cell? ⟨sb, 0 + j, none⟩ = some u:=by
 have hj:=(List.getElem?_eq_some_iff.1 hu).1
 rw [flat_len] at hj
 obtain ⟨s, hs⟩ : ∃ s, ss[j / 9]? = some s:=⟨_, List.getElem?_eq_getElem (by omega)⟩
 have h1:=flat_at ss (j / 9) s (j % 9) hs (by omega)
 rw [show j / 9 * 9 + j % 9 = j by omega, hu] at h1
 have h2:=h.1 (j / 9) s hs (j % 9) u h1.symm
 rw [show j / 9 * 9 + j % 9 = j by omega] at h2
 rw [Nat.zero_add]
 exact h2
theorem flat_one (ss : List S) : ∀ u ∈ flat ss, u.oneCell' = true:=by
 intro u hu
 simp only [flat, List.mem_flatMap] at hu
 obtain ⟨s, _, h⟩:=hu
 simp [S.cells] at h
 rcases h with rfl | rfl | rfl | rfl | rfl | rfl | rfl | rfl | rfl <;> rfl
theorem slots_of_flat {W : World} {g n cap : Nat} {ss : List S} (h : OwnS W (.slice (some ⟨g, 0, none⟩) n cap) n 9 (flat ss)) (hn : ss.length = n) : SlotsAt W g ss:=by
 rcases h.2 with ⟨h0, _⟩ | ⟨g', off, cap', e, h1, h2, h3, h4, h5, h6⟩
 ·cases h0
 ·cases e
  refine ⟨fun i s hs j v hv => ?_, fun i j hi hj => ?_⟩
  ·have hj : j < 9:=by have:=(Array.getElem?_eq_some_iff.1 hv).1; simpa [S.cells] using this
   have:=h6 (i * 9 + j) v (by rw [flat_at ss i s j hs hj]; exact hv)
   simpa using this
  ·have:=h5 (i * 9 + j) (by omega)
   simpa using this
theorem m_view {W : World} {p : Pl} {m : M} (h : MAt W p m) : Calls Tryz.prog 19 #[.pointer (some ⟨p.mb, 0, none⟩)] W fun e W' =>
  ∃ g1 c1 a2 c2, e = .returned (.agg #[.slice (some ⟨g1, 0, none⟩) m.ss.length c1, .slice a2 m.line.length c2, .i m.closed]) ∧ SlotsAt W' g1 m.ss ∧ W.heap.size ≤ g1 ∧
   OwnS W' (.slice a2 m.line.length c2) m.line.length 1 (m.line.map (Value.int .i64)) ∧ (∀ k, Fp (.slice a2 m.line.length c2) k → W.heap.size ≤ k) ∧ Below W.heap.size W W':=by
 have hB : Below W.heap.size W (W.alloc (.cells #[.slice none 0 0, .slice none 0 0, .i 0] 45)):=(Below.refl _ _).alloc (Nat.le_refl _) _
 have h1:=h.below hB
 have e1 : RowAt (W.alloc (.cells #[.slice none 0 0, .slice none 0 0, .i 0] 45)) W.heap.size #[.slice none 0 0, .slice none 0 0, .i 0] 45:=RowAt.new _ _ _
 have hlm : p.mb < W.heap.size:=h.lt (.inl rfl)
 have hls : p.sb < W.heap.size:=h.lt (.inr (.inl rfl))
 have hll : ∀ k, Fp p.lv k → k < W.heap.size:=fun k hk => h.lt (.inr (.inr (.inr (.inr (.inr hk)))))
 have hns:=h.ok.ns
 have hfew:=h.ok.few
 have hlt1 : W.heap.size < (W.alloc (.cells #[.slice none 0 0, .slice none 0 0, .i 0] 45)).heap.size:=by simp
 go_enter Tryz.func19, Tryz.ntmps19
 go_wp2_with fail
 generalize hwz : (W.alloc (.cells #[.slice none 0 0, .slice none 0 0, .i 0] 45)) = w1 at *
 clear hwz
 have hKd : Chg (fun k => k = W.heap.size) w1 w1.drew:=(Chg.refl _ _).drew
 have c5:=h1.hd.c5
 have c7:=h1.hd.c7
 have c8:=h1.hd.c8
 have L5 : ∀ w', Chg (fun k => k = W.heap.size) w1 w' → w'.cell? ⟨p.mb, 5, none⟩ = some (.slice (some ⟨p.sb, 0, none⟩) m.ss.length m.ss.length):=fun w' hc => (hc.cell (World.block_lt_of_cell? _ _ c5) (by simp; omega)).trans c5
 have L7 : ∀ w', Chg (fun k => k = W.heap.size) w1 w' → w'.cell? ⟨p.mb, 7, none⟩ = some p.lv:=fun w' hc => (hc.cell (World.block_lt_of_cell? _ _ c7) (by simp; omega)).trans c7
 have L8 : ∀ w', Chg (fun k => k = W.heap.size) w1 w' → w'.cell? ⟨p.mb, 8, none⟩ = some (.i m.closed):=fun w' hc => (hc.cell (World.block_lt_of_cell? _ _ c8) (by simp; omega)).trans c8
 have hSl : SlotsAt w1.drew p.sb m.ss:=h1.slots.stable rfl
 have hLn : ∀ {W' : World}, Chg (fun k => k = W.heap.size) w1 W' → OwnS W' p.lv m.line.length 1 (m.line.map (Value.int .i64)):=fun hc => h1.own.chg hc (fun k hk e => by have:=hll k hk; omega)
 clear c5 c7 c8
 refine wp_region_held_drew (S:=fun w' => Chg (fun k => k = W.heap.size) w1 w') (by kernel_rfl) (by exact hKd) (fun hHeld => ?_)
 refine tKg 0 3 hHeld ?_
 try simp only [Act.put, sA, sZ, sS]
 refine tKg 1 4 hHeld ?_
 try simp only [Act.put, sA, sZ, sS]
 refine tKg 2 5 hHeld ?_
 try simp only [Act.put, sA, sZ, sS]
 refine tKg 3 6 hHeld ?_
 try simp only [Act.put, sA, sZ, sS]
 refine tKg 5 8 hHeld ?_
 try simp only [Act.put, sA, sZ, sS]
 refine tKg 6 9 hHeld ?_
 try simp only [Act.put, sA, sZ, sS]
 refine tKg 7 10 hHeld ?_
 try simp only [Act.put, sA, sZ, sS]
 refine tKg 8 11 hHeld ?_
 try simp only [Act.put, sA, sZ, sS]
 refine tKg 10 13 hHeld ?_
 try simp only [Act.put, sA, sZ, sS]
 refine tKg 11 14 hHeld ?_
 try simp only [Act.put, sA, sZ, sS]
 refine tKg 12 15 hHeld ?_
 try simp only [Act.put, sA, sZ, sS]
 refine tKg 13 16 hHeld ?_
 try simp only [Act.put, sA, sZ, sS]
 refine rKc (i:=4) 57 #[.tmp 6] #[42] (some 7) none #[.slice (some ⟨p.sb, 0, none⟩) m.ss.length m.ss.length] (enters_of Tryz.func57 (by kernel_rfl) rfl) ?_
 refine (clone_slots w1.drew p.sb 0 m.ss.length m.ss.length (flat m.ss) (flat_len _) (by omega) (flat_cell hSl) (flat_one _)).mono ?_
 rintro e w2 ⟨g1, c1, rfl, ho1, hg1, hb1⟩
 have hC2 : Chg (fun k => k = W.heap.size) w1 w2:=hKd.trans (Chg.ofBelow (F:=fun _ => False) hb1) (fun _ _ h => h.elim)
 refine ⟨_, rfl, hC2, fun _ => ?_⟩
 try simp only [Act.put, sA, sZ, sS]
 have hl2:=hLn hC2
 refine rKc (i:=9) 58 #[.tmp 11] #[43] (some 12) none #[p.lv] (enters_of Tryz.func58 (by kernel_rfl) rfl) ?_
 refine (clone_line w2 p.lv m.line (by omega) hl2).mono ?_
 rintro e w3 ⟨a2, c2, rfl, ho2, hg2, hb2⟩
 have hC3 : Chg (fun k => k = W.heap.size) w1 w3:=hC2.trans (Chg.ofBelow (F:=fun _ => False) hb2) (fun _ _ h => h.elim)
 refine ⟨_, rfl, hC3, fun _ => ?_⟩
 try simp only [Act.put, sA, sZ, sS]
 refine tKg 14 17 hC3 ?_
 try simp only [Act.put, sA, sZ, sS]
 have row3 : RowAt w3 W.heap.size #[.slice none 0 0, .slice none 0 0, .i 0] 45:=((show RowAt w1.drew W.heap.size #[.slice none 0 0, .slice none 0 0, .i 0] 45 from e1).below hb1).below hb2
 refine ready_store_row (i:=15) (by kernel_rfl) 45 (.tmp 2) (.tmp 17) (by kernel_rfl) W.heap.size _ _ #[.slice (some ⟨g1, 0, none⟩) m.ss.length c1, .slice a2 m.line.length c2, .i m.closed] (by kernel_rfl) (by kernel_rfl) row3 (by kernel_rfl) (by kernel_rfl) (by kernel_rfl) (hC3.trans (chg_setRow (F:=fun k => k = W.heap.size) (Chg.refl _ _) _ _ (fun _ => rfl)) (fun _ _ h => h)) (fun _ => ?_)
 refine wpAnyH_done (by kernel_rfl) ?_ _
 have hcs : Chg (fun k => k = W.heap.size) w3 (w3.setRow W.heap.size #[.slice (some ⟨g1, 0, none⟩) m.ss.length c1, .slice a2 m.line.length c2, .i m.closed]):=chg_setRow (Chg.refl _ _) _ _ (fun _ => rfl)
 have hs1 : w1.drew.heap.size = w1.heap.size:=rfl
 have hz2:=hb1.size
 have hz3:=hb2.size
 have hS2 : SlotsAt w2 g1 m.ss:=slots_of_flat ho1 rfl
 have hg1l : g1 < w2.heap.size:=hS2.lt (by omega)
 have hS4:=(hS2.stable (hb2.block g1 hg1l)).stable (hcs.block g1 (by omega) (by omega))
 have hO4:=ho2.chg hcs (fun k hk e => by have:=hg2 k hk; omega)
 have hB4 : Below W.heap.size W (w3.setRow W.heap.size #[.slice (some ⟨g1, 0, none⟩) m.ss.length c1, .slice a2 m.line.length c2, .i m.closed]):=hB.trans ((hC3.trans hcs (fun _ _ h => h)).below (by omega) (fun k e => by omega))
 have row4:=row3.set #[.slice (some ⟨g1, 0, none⟩) m.ss.length c1, .slice a2 m.line.length c2, .i m.closed]
 have HF:=Lib.hid (And.intro hS4 (And.intro hO4 hB4))
 clear hcs hS2 hS4 hO4 hB4 hC3 hC2 ho1 ho2 hb1 hb2 row3 hSl hLn L5 L7 L8 hKd
 go_wp2_with fail
 refine bR1 W.heap.size row4 Tryz.underlying45 ?_
 exact ⟨g1, c1, a2, c2, rfl, HF.out.1, by omega, HF.out.2.1, fun k hk => by have:=hg2 k hk; omega, HF.out.2.2⟩
end Go.Proofs.YtpmkgddjgebojaaGreatDoor.Mod
namespace Go.Proofs.YtpmkgddjgebojaaGreatDoor.Mod
open Go.RowKit Hp Slot RowL Life R8
theorem turn_none {m : M} {i d : Nat} {own more : Int} {s : S} (hi : m.ss[i]? = some s) (h : next s d own more = none) : m.turn i d own more = m:=by
 unfold M.turn turnL step
 rw [hi]
 simp only [h]
 rw [set_same hi]
theorem open_some {s : S} {who N : Int} (hr : s.right = true) (h3 : s.state = 3) (ho : s.own = who) (hb : s.broken = false) : match lowFree s.streams N with
  | some k => k < 8 ∧ (next s 14 who N).isSome = true ∧ (step s 14 who N).streams = s.streams + pw k
  | none => next s 14 who N = none:=by
 have hq:=((right_iff s).1 hr).1
 obtain ⟨n, hn⟩ : ∃ n : Nat, s.streams = (n : Int):=⟨s.streams.toNat, by omega⟩
 have hl:=low_free n (by omega) N
 have hf:=(low_facts ⟨n, by omega⟩ 0).2
 simp only at hf
 have hnx : next s 14 who N = nextOf s who (act 14 s who N).1 (act 14 s who N).2:=rfl
 have ha : act 14 s who N = (match lowFree s.streams N with | some i => ({ s with streams:=setBit s.streams i }, true) | none => (s, false)):=by
  simp only [act]
  rw [if_pos (by simp [h3, ho, hb])]
  cases lowFree s.streams N <;> rfl
 rw [hn] at ha ⊢
 rw [hl] at ha ⊢
 unfold step
 by_cases hc : (lowN 9 n : Int) < N ∧ (lowN 9 n : Int) < 8
 ·rw [if_pos hc] at ha ⊢
  simp only at ha ⊢
  rw [hnx, ha]
  unfold nextOf
  rw [if_pos ⟨hr, by omega, by omega, rfl⟩]
  refine ⟨by omega, rfl, ?_⟩
  simp only
  exact hf (by omega)
 ·rw [if_neg hc] at ha ⊢
  simp only at ha ⊢
  rw [hnx, ha]
  unfold nextOf
  rw [if_neg (fun e => by cases e.2.2.2)]
theorem fits_six (s : S) (who : Int) : Find.fits s 6 who = (s.state == 2):=rfl
theorem q_reap {W : World} {p : Ql} {m : M} (h : QAt W p m) (who : Int) :
  Calls Tryz.prog 44 #[.pointer (some ⟨p.mb, 0, none⟩), .i who] W (QPost W p (m.reap who).1.val (m.reap who).2):=by
 have hns:=h.ok.ns
 have hB : Below W.heap.size W (W.alloc (.cells Zv 36)):=(Below.refl _ _).alloc (Nat.le_refl _) _
 have r0 : Rq W.heap.size (W.alloc (.cells Zv 36)) p (W.alloc (.cells Zv 36)) p m:=Rq.begin h hB
 have e0 : ERow (W.alloc (.cells Zv 36)) W.heap.size:=⟨Zv, rfl, RowAt.new _ _ _⟩
 have hg1 : W.heap.size < (W.alloc (.cells Zv 36)).heap.size:=by simp
 have hall:=rpN_all who m.ss m.ahead 0
 have HALL:=Lib.hid hall
 clear hall h
 have hB2:=hB
 have HB:=Lib.hid hB
 clear hB hB2
 go_enter Tryz.func44, Tryz.ntmps44
 go_wp2_with fail
 generalize (W.alloc (.cells Zv 36)) = wb at *
 go_loopw [5, 6] (fun nv iv wr => ∃ w', w' = wr ∧ ∃ i : Nat, i ≤ m.ss.length ∧ iv = .i i ∧ nv = .i (rpN who i (m.ss, m.ahead, 0)).2.2 ∧ (∃ p', Rq W.heap.size wb p w' p' { m with ss:=(rpN who i (m.ss, m.ahead, 0)).1, ahead:=(rpN who i (m.ss, m.ahead, 0)).2.1 }) ∧ ERow w' W.heap.size) (fun _ iv _ => m.ss.length - (intOf iv).toNat)
 case atStart => exact ⟨_, rfl, 0, by omega, rfl, rfl, ⟨p, r0⟩, e0⟩
 case round =>
  clear r0 e0
  obtain ⟨wr2, rfl, i, hi, rfl, rfl, ⟨p1, r1⟩, e1⟩:=hrel
  have hcnt:=rpN_cnt who i (m.ss, m.ahead, 0)
  have hlen:=rpN_len who i (m.ss, m.ahead, 0)
  have hnx:=fun t ht => rp_next (who:=who) (i:=i) (r:=(m.ss, m.ahead, 0)) (t:=t) ht
  have hrr : i = m.ss.length → (M.reap m who) = ({ Ev.zero with slot:=(rpN who i (m.ss, m.ahead, 0)).2.2 }, { m with ss:=(rpN who i (m.ss, m.ahead, 0)).1, ahead:=(rpN who i (m.ss, m.ahead, 0)).2.1 }):=fun e => by
   subst e
   unfold M.reap
   rw [HALL.out]
  have HRR:=Lib.hid hrr
  generalize rpN who i (m.ss, m.ahead, 0) = q at *
  obtain ⟨ss, ah, n⟩:=q
  simp only at hcnt hlen hnx r1
  obtain ⟨n0, n1⟩:=hcnt
  have n2 : n ≤ 16:=by omega
  have k5:=r1.at'.hd.c5
  have k10:=r1.at'.hd.c10
  rw [r1.mb, r1.sb] at k5
  rw [r1.mb] at k10
  simp only at k5
  have i0 : (0 : Int) ≤ (i : Int):=by omega
  clear hrr
  by_cases hlt : i < ss.length
  ·obtain ⟨s, hsi⟩ : ∃ s, ss[i]? = some s:=⟨_, List.getElem?_eq_getElem hlt⟩
   have HNX:=Lib.hid (hnx s hsi)
   have HS:=Lib.hid hsi
   have hd:=r1.at'.slots.get hsi
   rw [r1.sb] at hd
   have i1 : (i : Int) < (ss.length : Int):=by omega
   have i2 : (i : Int) ≤ (ss.length : Int) - 1:=by omega
   have i3 : i < m.ss.length:=by omega
   have hss:=fits_six s who
   obtain ⟨s0, s1, s2, s3, s4, s5, s6, s7, s8⟩:=s
   simp only at hd hss
   obtain ⟨d0, d1, d2, d3, d4, d5, d6, d7, d8⟩:=hd
   have hbx : Below wr2.heap.size wr2 (wr2.alloc (.cells (Ac s0 s1 s2 s3 s4 s5 s6 s7 s8) 59)):=(Below.refl _ _).alloc (Nat.le_refl _) _
   have r2:=r1.below hbx
   have e2:=e1.below hbx
   have rx:=RowAt.new wr2 (Ac s0 s1 s2 s3 s4 s5 s6 s7 s8) 59
   have hno : ¬ qfp p1 wr2.heap.size:=fun hk => by have:=r1.at'.lt hk; omega
   clear hnx hsi hlen HALL HRR
   by_cases hs2 : s0 = 2
   ·have hft : Find.fits ⟨s0, s1, s2, s3, s4, s5, s6, s7, s8⟩ 6 who = true:=by rw [hss]; simpa using hs2
    have HFT:=Lib.hid hft
    have z2 : (s0 != 2) = false:=by simp [hs2]
    clear hft hss hs2
    have hn:=q_wnext r2.at'
    have kw : p1.wb = p.wb:=by obtain ⟨_, _, e⟩:=r1.same; rw [e]
    rw [kw] at hn
    have HG:=Lib.hid (rfl : ah.headD true = ah.headD true)
    have k10b:=r2.at'.hd.c10
    rw [r1.mb, kw] at k10b
    have HBX:=Lib.hid hbx
    have R1:=Lib.hid r1
    clear k10 r1 hbx
    go_upto_region 6 with (fail)
    generalize wr2.alloc (.cells (Ac s0 s1 s2 s3 s4 s5 s6 s7 s8) 59) = w2 at *
    have x0 : w2.cell? ⟨wr2.heap.size, 0, none⟩ = some (.i s0):=rx.cell 0
    go_wp2_with fail
    refine hn.mono ?_
    rintro e w3 hp
    obtain ⟨rfl, p3, r3, hc3⟩:=r2.post hp
    have e3:=e2.chg hc3 (r2.not (Nat.le_refl _) hg1)
    have rx3:=rx.chg hc3 hno
    have x3 : w3.cell? ⟨wr2.heap.size, 3, none⟩ = some (.bool s3):=rx3.cell 3
    have x4 : w3.cell? ⟨wr2.heap.size, 4, none⟩ = some (.bool s4):=rx3.cell 4
    clear hp hn hc3 k10b k5 d0 d1 d2 d3 d4 d5 d6 d7 d8 e1 r2 e2 rx hno rx3 R1 HBX x0
    have hgd : M.good { m with ss:=ss, ahead:=ah } = ah.headD true:=rfl
    rw [hgd]
    clear hgd
    cases hg : ah.headD true
    ·have HG:=Lib.hid hg
     clear hg
     have hx : rpN who (i + 1) (m.ss, m.ahead, 0) = (ss.set i (emptied ⟨s0, s1, s2, s3, s4, s5, s6, s7, s8⟩), ah.tail, n + 1):=by
      rw [HNX.out, rpOne_gone HFT.out (by rw [show ah.headD true = _ from HG.out]; rfl)]
     have HX:=Lib.hid hx
     clear hx
     have ht:=q_empty r3.at' i i ⟨s0, s1, s2, s3, s4, s5, s6, s7, s8⟩ HS.out rfl
     rw [r3.mb] at ht
     go_wp2_with fail
     refine ht.mono ?_
     rintro e w4 ⟨⟨v4, rfl⟩, h4, hc4⟩
     have r4:=r3.slots h4 hc4
     have e4:=e3.chg hc4 (fun e => r3.not (Nat.le_refl _) hg1 (.inr (.inl e)))
     clear ht h4 hc4 r3 e3
     go_wp2_with fail
     go_round
     case rel => exact ⟨_, rfl, i + 1, by omega, rfl, by rw [HX.out], ⟨_, by
      have hz : M.empty (M.next { m with ss:=ss, ahead:=ah }) i = { m with ss:=(rpN who (i + 1) (m.ss, m.ahead, 0)).1, ahead:=(rpN who (i + 1) (m.ss, m.ahead, 0)).2.1 }:=by
       rw [HX.out]
       unfold M.empty M.next
       rw [M.slot_of HS.out]
      rw [← hz]
      exact r4⟩, e4⟩
     case measure => simp [intOf] <;> omega
    ·have HG:=Lib.hid hg
     clear hg
     cases s4
     rotate_left
     ·have H4:=Lib.hid (rfl : (true : Bool) = true)
      have H3:=Lib.hid (rfl : s3 = s3)
      have hx : rpN who (i + 1) (m.ss, m.ahead, 0) = (ss.set i (emptied ⟨s0, s1, s2, s3, true, s5, s6, s7, s8⟩), ah.tail, n + 1):=by
       rw [HNX.out, rpOne_gone HFT.out (by rw [show ah.headD true = _ from HG.out]; simp)]
      have HX:=Lib.hid hx
      clear hx
      have ht:=q_empty r3.at' i i ⟨s0, s1, s2, s3, true, s5, s6, s7, s8⟩ HS.out rfl
      rw [r3.mb] at ht
      go_wp2_with fail
      refine ht.mono ?_
      rintro e w4 ⟨⟨v4, rfl⟩, h4, hc4⟩
      have r4:=r3.slots h4 hc4
      have e4:=e3.chg hc4 (fun e => r3.not (Nat.le_refl _) hg1 (.inr (.inl e)))
      clear ht h4 hc4 r3 e3
      go_wp2_with fail
      go_round
      case rel => exact ⟨_, rfl, i + 1, by omega, rfl, by rw [HX.out], ⟨_, by
       have hz : M.empty (M.next { m with ss:=ss, ahead:=ah }) i = { m with ss:=(rpN who (i + 1) (m.ss, m.ahead, 0)).1, ahead:=(rpN who (i + 1) (m.ss, m.ahead, 0)).2.1 }:=by
        rw [HX.out]
        unfold M.empty M.next
        rw [M.slot_of HS.out]
       rw [← hz]
       exact r4⟩, e4⟩
      case measure => simp [intOf] <;> omega
     cases s3
     rotate_left
     ·have H4:=Lib.hid (rfl : (false : Bool) = false)
      have H3:=Lib.hid (rfl : (true : Bool) = true)
      have hx : rpN who (i + 1) (m.ss, m.ahead, 0) = (ss.set i (emptied ⟨s0, s1, s2, true, false, s5, s6, s7, s8⟩), ah.tail, n + 1):=by
       rw [HNX.out, rpOne_gone HFT.out (by rw [show ah.headD true = _ from HG.out]; simp)]
      have HX:=Lib.hid hx
      clear hx
      have ht:=q_empty r3.at' i i ⟨s0, s1, s2, true, false, s5, s6, s7, s8⟩ HS.out rfl
      rw [r3.mb] at ht
      go_wp2_with fail
      refine ht.mono ?_
      rintro e w4 ⟨⟨v4, rfl⟩, h4, hc4⟩
      have r4:=r3.slots h4 hc4
      have e4:=e3.chg hc4 (fun e => r3.not (Nat.le_refl _) hg1 (.inr (.inl e)))
      clear ht h4 hc4 r3 e3
      go_wp2_with fail
      go_round
      case rel => exact ⟨_, rfl, i + 1, by omega, rfl, by rw [HX.out], ⟨_, by
       have hz : M.empty (M.next { m with ss:=ss, ahead:=ah }) i = { m with ss:=(rpN who (i + 1) (m.ss, m.ahead, 0)).1, ahead:=(rpN who (i + 1) (m.ss, m.ahead, 0)).2.1 }:=by
        rw [HX.out]
        unfold M.empty M.next
        rw [M.slot_of HS.out]
       rw [← hz]
       exact r4⟩, e4⟩
      case measure => simp [intOf] <;> omega
     have H4:=Lib.hid (rfl : (false : Bool) = false)
     have H3:=Lib.hid (rfl : (false : Bool) = false)
     have hx : rpN who (i + 1) (m.ss, m.ahead, 0) = (ss.set i (step ⟨s0, s1, s2, false, false, s5, s6, s7, s8⟩ 10 who 0), ah.tail, n):=by
      rw [HNX.out, rpOne_mark HFT.out (by rw [show ah.headD true = _ from HG.out]; rfl)]
     have HX:=Lib.hid hx
     clear hx
     have ht:=q_do r3.at' i 10 i 10 who 0 ⟨s0, s1, s2, false, false, s5, s6, s7, s8⟩ HS.out rfl rfl (by simp [Mod.Done])
     rw [r3.mb] at ht
     go_wp2_with fail
     refine ht.mono ?_
     rintro e w4 ⟨rfl, h4, hc4⟩
     have r4:=r3.slots h4 hc4
     have e4:=e3.chg hc4 (fun e => r3.not (Nat.le_refl _) hg1 (.inr (.inl e)))
     clear ht h4 hc4 r3 e3
     go_wp2_with fail
     go_round
     case rel => exact ⟨_, rfl, i + 1, by omega, rfl, by rw [HX.out], ⟨_, by
      have hz : M.turn (M.next { m with ss:=ss, ahead:=ah }) i 10 who 0 = { m with ss:=(rpN who (i + 1) (m.ss, m.ahead, 0)).1, ahead:=(rpN who (i + 1) (m.ss, m.ahead, 0)).2.1 }:=by
       rw [HX.out]
       unfold M.turn turnL M.next
       simp only [HS.out]
      rw [← hz]
      exact r4⟩, e4⟩
     case measure => simp [intOf] <;> omega
   ·have hft : Find.fits ⟨s0, s1, s2, s3, s4, s5, s6, s7, s8⟩ 6 who = false:=by rw [hss]; simpa using hs2
    have HFT:=Lib.hid hft
    have z2 : (s0 != 2) = true:=by simp [hs2]
    have hx : rpN who (i + 1) (m.ss, m.ahead, 0) = (ss, ah, n):=by
     rw [HNX.out, rpOne_no HFT.out, set_same HS.out]
    have HX:=Lib.hid hx
    clear hx hft hss hs2 k10 r1 e1 rx hno hbx
    go_wp2_with fail
    go_round
    case rel => exact ⟨_, rfl, i + 1, by omega, rfl, by rw [HX.out], ⟨_, by rw [HX.out]; exact r2⟩, e2⟩
    case measure => simp [intOf] <;> omega
  ·have hie : i = m.ss.length:=by omega
   have hR:=HRR.out hie
   have HR2:=Lib.hid hR
   generalize M.reap m who = R at *
   have h9 : ¬ (i : Int) < (ss.length : Int):=by omega
   clear hR hnx HALL HRR hie k10
   go_upto_region 12 with (fail)
   obtain ⟨Z, z1, z2⟩:=e1
   refine wp_region_lit ?_
   refine RowL.gl (.i n) ?_ (by go_simp; try rfl)
   refine RowL.gl (({ Ev.zero with slot:=n } : Ev)).val ?_ (by go_simp; try rfl)
   refine RowL.gSt z2 (({ Ev.zero with slot:=n } : Ev)).cells 36 (.tmp 4) (.tmp 54) ?_ (hsz:=z1) (h1:=ev_one _)
   go_wp2_with fail
   refine bR1 W.heap.size (z2.set _) Tryz.underlying36 ?_
   rw [HR2.out]
   exact (r1.row (Nat.le_refl _) hg1 _).fin HB.out _
theorem firstAt_congr {k o k' o' : Int} (h : ∀ s, Find.fits s k o = Find.fits s k' o') : ∀ l, firstAt k o l = firstAt k' o' l
 | [] => rfl
 | s :: l => by rw [firstAt, firstAt, h s, firstAt_congr h l]
theorem first_one (m : M) (who : Int) : m.first 1 who = m.first 1 0:=firstAt_congr (k:=1) (o:=who) (k':=1) (o':=0) (fun s => rfl) m.ss
theorem first_two (m : M) (who : Int) : m.first 2 who = m.first 2 0:=firstAt_congr (k:=2) (o:=who) (k':=2) (o':=0) (fun s => rfl) m.ss
theorem q_get_closed {W : World} {p : Ql} {m : M} (h : QAt W p m) (who : Int) (a : Ask) (hc : m.closed ≠ 0) :
  Calls Tryz.prog 42 #[.pointer (some ⟨p.mb, 0, none⟩), .i who, a.val] W (QPost W p (.tuple #[(m.get who a).1.1.val, .bool (m.get who a).1.2]) (m.get who a).2):=by
 have HR2 : RowKit.Hid (m.get who a = ((M.failed 5, true), m)):=Lib.hid (by unfold M.get; rw [if_pos hc])
 generalize m.get who a = R at *
 have hlt : p.mb < W.heap.size:=h.lt (.inl rfl)
 obtain ⟨op, dl, wt, fo, sl, ge, st⟩:=a
 simp only [Ask.val, Ask.cells] at *
 have hB : Below W.heap.size W ((W.alloc (.cells (Ad op dl wt fo sl ge st) 25)).alloc (.cells Zv 36)):=((Below.refl _ _).alloc (Nat.le_refl _) _).alloc (by simp) _
 have r0 : Rq W.heap.size ((W.alloc (.cells (Ad op dl wt fo sl ge st) 25)).alloc (.cells Zv 36)) p ((W.alloc (.cells (Ad op dl wt fo sl ge st) 25)).alloc (.cells Zv 36)) p m:=Rq.begin h hB
 have e0 : ERow ((W.alloc (.cells (Ad op dl wt fo sl ge st) 25)).alloc (.cells Zv 36)) (W.heap.size + 1):=⟨Zv, rfl, heap_alloc2_new W _ _⟩
 have hg1 : W.heap.size + 1 < ((W.alloc (.cells (Ad op dl wt fo sl ge st) 25)).alloc (.cells Zv 36)).heap.size:=by simp
 have hg0 : W.heap.size ≤ W.heap.size + 1:=by omega
 have a0 : RowAt ((W.alloc (.cells (Ad op dl wt fo sl ge st) 25)).alloc (.cells Zv 36)) W.heap.size (Ad op dl wt fo sl ge st) 25:=heap_alloc2_old W _ _
 have k8:=r0.at'.hd.c8
 have hcb:=r0.at'.ok.closed
 have k9 : (0 : Int) < m.closed:=by omega
 clear hc hcb a0
 go_enter Tryz.func42, Tryz.ntmps42
 go_upto_region 1 with (fail)
 generalize ((W.alloc (.cells (Ad op dl wt fo sl ge st) 25)).alloc (.cells Zv 36)) = wb at *
 go_upto_region 2 with (fail)
 obtain ⟨Z, z1, z2⟩:=e0
 refine wp_region_lit ?_
 refine RowL.gl ((M.failed 5)).val ?_ (by go_simp; try rfl)
 refine RowL.gSt z2 ((M.failed 5)).cells 36 (.tmp 6) (.tmp 18) ?_ (hsz:=z1) (h1:=ev_one _)
 go_wp2_with fail
 refine bR2 (W.heap.size + 1) (z2.set _) Tryz.underlying36 ?_
 rw [HR2.out]
 exact (r0.row hg0 hg1 _).fin hB _
theorem q_get_own {W : World} {p : Ql} {m : M} (h : QAt W p m) (who : Int) (a : Ask) (hc : m.closed = 0) (i : Nat) (hf : m.first 0 who = some i) :
  Calls Tryz.prog 42 #[.pointer (some ⟨p.mb, 0, none⟩), .i who, a.val] W (QPost W p (.tuple #[(m.get who a).1.1.val, .bool (m.get who a).1.2]) (m.get who a).2):=by
 obtain ⟨s, hs, -⟩:=first_some hf
 have HS:=Lib.hid hs
 clear hs
 have HR2 : RowKit.Hid (m.get who a = (((m.turn i 3 who 0).leased i, true), m.turn i 3 who 0)):=Lib.hid (by unfold M.get; rw [if_neg (by simp [hc]), hf])
 generalize m.get who a = R at *
 have hlt : p.mb < W.heap.size:=h.lt (.inl rfl)
 obtain ⟨op, dl, wt, fo, sl, ge, st⟩:=a
 simp only [Ask.val, Ask.cells] at *
 have hB : Below W.heap.size W ((W.alloc (.cells (Ad op dl wt fo sl ge st) 25)).alloc (.cells Zv 36)):=((Below.refl _ _).alloc (Nat.le_refl _) _).alloc (by simp) _
 have r0 : Rq W.heap.size ((W.alloc (.cells (Ad op dl wt fo sl ge st) 25)).alloc (.cells Zv 36)) p ((W.alloc (.cells (Ad op dl wt fo sl ge st) 25)).alloc (.cells Zv 36)) p m:=Rq.begin h hB
 have e0 : ERow ((W.alloc (.cells (Ad op dl wt fo sl ge st) 25)).alloc (.cells Zv 36)) (W.heap.size + 1):=⟨Zv, rfl, heap_alloc2_new W _ _⟩
 have hg1 : W.heap.size + 1 < ((W.alloc (.cells (Ad op dl wt fo sl ge st) 25)).alloc (.cells Zv 36)).heap.size:=by simp
 have hg0 : W.heap.size ≤ W.heap.size + 1:=by omega
 have a0 : RowAt ((W.alloc (.cells (Ad op dl wt fo sl ge st) 25)).alloc (.cells Zv 36)) W.heap.size (Ad op dl wt fo sl ge st) 25:=heap_alloc2_old W _ _
 have k8:=r0.at'.hd.c8
 have hcb:=r0.at'.ok.closed
 have k8' : ¬ (0 : Int) < m.closed:=by omega
 have hc2:=Lib.hid hc
 clear hc hcb
 clear a0
 go_enter Tryz.func42, Tryz.ntmps42
 go_upto_region 1 with (fail)
 generalize ((W.alloc (.cells (Ad op dl wt fo sl ge st) 25)).alloc (.cells Zv 36)) = wb at *
 have hq1:=q_first r0.at' 0 who (by simp)
 rw [r0.mb, hf] at hq1
 simp only [firstInt] at hq1
 go_wp2_with fail
 refine hq1.mono ?_
 rintro e w1 ⟨rfl, hb1⟩
 have r1:=r0.below hb1
 have e1:=e0.below hb1
 clear hq1 hb1 r0 e0
 have i0 : (0 : Int) ≤ (i : Int):=by omega
 have ht:=q_do r1.at' i 3 i 3 who 0 s HS.out rfl rfl (by simp [Done])
 rw [r1.mb] at ht
 go_wp2_with fail
 refine ht.mono ?_
 rintro e w2 ⟨rfl, h2, hc2'⟩
 have r2:=r1.slots h2 hc2'
 have e2:=e1.chg hc2' (fun e => r1.not hg0 hg1 (.inr (.inl e)))
 have hle:=q_leased r2.at' i i _ (turnL_get HS.out) rfl
 rw [r2.mb] at hle
 clear ht h2 hc2' r1 e1
 generalize (m.turn i 3 who 0).leased i = x at *
 go_wp2_with fail
 refine hle.mono ?_
 rintro e w3 ⟨rfl, hb3⟩
 have r3:=r2.below hb3
 have e3:=e2.below hb3
 clear hle hb3 r2 e2
 have hst:=e3.store x
 have hsz:=ev_size x
 go_wp2_with fail
 refine bR2 (W.heap.size + 1) (e3.set x) Tryz.underlying36 ?_
 rw [HR2.out]
 exact (r3.row hg0 hg1 x.cells).fin hB _
theorem q_get_free {W : World} {p : Ql} {m : M} (h : QAt W p m) (who : Int) (a : Ask) (hc : m.closed = 0) (hf0 : m.first 0 who = none) (hf1 : m.first 1 0 = none) (i : Nat) (hf2 : m.first 2 0 = some i) :
  Calls Tryz.prog 42 #[.pointer (some ⟨p.mb, 0, none⟩), .i who, a.val] W (QPost W p (.tuple #[(m.get who a).1.1.val, .bool (m.get who a).1.2]) (m.get who a).2):=by
 obtain ⟨s, hs, -⟩:=first_some hf2
 have HS:=Lib.hid hs
 clear hs
 have HR2 : RowKit.Hid (m.get who a = ((((m.turn i 0 who 0).dial i who).1, true), ((m.turn i 0 who 0).dial i who).2)):=Lib.hid (by unfold M.get; rw [if_neg (by simp [hc]), hf0]; simp only; rw [first_one, hf1]; simp only; rw [first_two, hf2])
 generalize m.get who a = R at *
 have hlt : p.mb < W.heap.size:=h.lt (.inl rfl)
 obtain ⟨op, dl, wt, fo, sl, ge, st⟩:=a
 simp only [Ask.val, Ask.cells] at *
 have hB : Below W.heap.size W ((W.alloc (.cells (Ad op dl wt fo sl ge st) 25)).alloc (.cells Zv 36)):=((Below.refl _ _).alloc (Nat.le_refl _) _).alloc (by simp) _
 have r0 : Rq W.heap.size ((W.alloc (.cells (Ad op dl wt fo sl ge st) 25)).alloc (.cells Zv 36)) p ((W.alloc (.cells (Ad op dl wt fo sl ge st) 25)).alloc (.cells Zv 36)) p m:=Rq.begin h hB
 have e0 : ERow ((W.alloc (.cells (Ad op dl wt fo sl ge st) 25)).alloc (.cells Zv 36)) (W.heap.size + 1):=⟨Zv, rfl, heap_alloc2_new W _ _⟩
 have hg1 : W.heap.size + 1 < ((W.alloc (.cells (Ad op dl wt fo sl ge st) 25)).alloc (.cells Zv 36)).heap.size:=by simp
 have hg0 : W.heap.size ≤ W.heap.size + 1:=by omega
 have a0 : RowAt ((W.alloc (.cells (Ad op dl wt fo sl ge st) 25)).alloc (.cells Zv 36)) W.heap.size (Ad op dl wt fo sl ge st) 25:=heap_alloc2_old W _ _
 have k8:=r0.at'.hd.c8
 have hcb:=r0.at'.ok.closed
 have k8' : ¬ (0 : Int) < m.closed:=by omega
 have hc2:=Lib.hid hc
 clear hc hcb
 clear a0
 go_enter Tryz.func42, Tryz.ntmps42
 go_upto_region 1 with (fail)
 generalize ((W.alloc (.cells (Ad op dl wt fo sl ge st) 25)).alloc (.cells Zv 36)) = wb at *
 have hq1:=q_first r0.at' 0 who (by simp)
 rw [r0.mb, hf0] at hq1
 simp only [firstInt] at hq1
 go_wp2_with fail
 refine hq1.mono ?_
 rintro e w1 ⟨rfl, hb1⟩
 have r1:=r0.below hb1
 have e1:=e0.below hb1
 clear hq1 hb1 r0 e0
 have hq2:=q_first r1.at' 1 0 (by simp)
 rw [r1.mb, hf1] at hq2
 simp only [firstInt] at hq2
 go_wp2_with fail
 refine hq2.mono ?_
 rintro e w2 ⟨rfl, hb2⟩
 have r2:=r1.below hb2
 have e2:=e1.below hb2
 clear hq2 hb2 r1 e1
 have hq3:=q_first r2.at' 2 0 (by simp)
 rw [r2.mb, hf2] at hq3
 simp only [firstInt] at hq3
 go_wp2_with fail
 refine hq3.mono ?_
 rintro e w3 ⟨rfl, hb3⟩
 have r3:=r2.below hb3
 have e3:=e2.below hb3
 clear hq3 hb3 r2 e2
 have i0 : (0 : Int) ≤ (i : Int):=by omega
 have ht:=q_do r3.at' i 0 i 0 who 0 s HS.out rfl rfl (by simp [Done])
 rw [r3.mb] at ht
 go_wp2_with fail
 refine ht.mono ?_
 rintro e w4 ⟨rfl, h4, hc4⟩
 have r4:=r3.slots h4 hc4
 have e4:=e3.chg hc4 (fun e => r3.not hg0 hg1 (.inr (.inl e)))
 have hdi:=q_dialed r4.at' i i who _ (turnL_get HS.out) rfl
 rw [r4.mb] at hdi
 clear ht h4 hc4 r3 e3
 generalize (m.turn i 0 who 0).dial i who = rd at *
 obtain ⟨x, md⟩:=rd
 simp only at hdi HR2
 go_wp2_with fail
 refine hdi.mono ?_
 rintro e w5 hp
 obtain ⟨rfl, p5, r5, hc5⟩:=r4.post hp
 have e5:=e4.chg hc5 (r4.not hg0 hg1)
 clear hdi hp hc5 r4 e4
 have hst:=e5.store x
 have hsz:=ev_size x
 go_wp2_with fail
 refine bR2 (W.heap.size + 1) (e5.set x) Tryz.underlying36 ?_
 rw [HR2.out]
 exact (r5.row hg0 hg1 x.cells).fin hB _
end Go.Proofs.YtpmkgddjgebojaaGreatDoor.Mod
