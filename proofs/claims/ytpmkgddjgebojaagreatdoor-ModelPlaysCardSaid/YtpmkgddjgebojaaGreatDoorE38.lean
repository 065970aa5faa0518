/- Part 38 of the walks and plain laws that the last text joins. -/
import Derived.Test.YtpmkgddjgebojaaGreatDoorE30
import Derived.Test.YtpmkgddjgebojaaGreatDoorE36
import Derived.Test.YtpmkgddjgebojaaGreatDoorE37
import Derived.Deep.CutBlock
set_option maxRecDepth 100000
set_option maxHeartbeats 16000000
set_option linter.unusedVariables false
set_option linter.unusedSimpArgs false
namespace Go.Proofs.YtpmkgddjgebojaaGreatDoor.Mod
open Go.RowKit Hp Slot RowL Life R8
def Busy (m : M) : Prop:=∀ x ∈ m.line, ∀ k, m.ks[x.toNat]? = some k → k.at' ≠ 0
theorem Mid.busy {m : M} (h : Mid m) : Busy m:=fun x hx k hk => by
 have h1:=h.lb x hx
 have h2:=(h.ln x.toNat k hk).2 (by rw [Int.toNat_of_nonneg h1.1]; exact hx)
 omega
theorem dial_line (m : M) (i : Nat) (who : Int) : (m.dial i who).2.line = m.line ∧ (m.dial i who).2.ks = m.ks ∧ (m.dial i who).1.at' = 0:=by
 unfold M.dial
 split <;> exact ⟨rfl, rfl, rfl⟩
theorem get_busy {m : M} (h : Busy m) {who : Int} (hw : m.has who = true) (a : Ask) : Busy (m.get who a).2 ∧ (m.get who a).1.1.at' = 0:=by
 unfold M.get
 split
 ·exact ⟨h, rfl⟩
 split
 ·exact ⟨h, rfl⟩
 split
 ·exact ⟨h, rfl⟩
 split
 ·rename_i i _
  have:=dial_line (m.turn i 0 who 0) i who
  exact ⟨by unfold Busy; simp only; rw [this.1, this.2.1]; exact h, this.2.2⟩
 split
 ·exact ⟨h, rfl⟩
 split
 ·exact ⟨h, rfl⟩
 ·refine ⟨fun x hx k hk => ?_, rfl⟩
  simp only [List.mem_append, List.mem_singleton] at hx
  simp only at hk
  rw [List.getElem?_set] at hk
  split at hk
  ·split at hk
   ·cases hk; simp
   ·cases hk
  ·rcases hx with hx | rfl
   ·exact h x hx k hk
   ·rename_i hne; exact absurd rfl hne
theorem does_busy {m : M} (h : Busy m) {who : Int} (hw : m.has who = true) (a : Ask) : Busy (m.does who a).2 ∧ (m.does who a).1.1.at' = 0:=by
 unfold M.does
 split
 ·exact get_busy h hw a
 split
 ·unfold M.give; split
  ·exact ⟨h, rfl⟩
  split
  ·exact ⟨h, rfl⟩
  ·simp only; split <;> exact ⟨h, rfl⟩
 split
 ·unfold M.give; split
  ·exact ⟨h, rfl⟩
  split
  ·exact ⟨h, rfl⟩
  ·simp only; split <;> exact ⟨h, rfl⟩
 split
 ·unfold M.openS; split
  ·exact ⟨h, rfl⟩
  split
  ·exact ⟨h, rfl⟩
  ·split <;> exact ⟨h, rfl⟩
 split
 ·unfold M.shutS; split
  ·exact ⟨h, rfl⟩
  split <;> exact ⟨h, rfl⟩
 split
 ·exact ⟨h, rfl⟩
 split
 ·exact ⟨fun x hx => by simp [M.close] at hx, rfl⟩
 ·exact ⟨h, rfl⟩
theorem q_ask_no {W : World} {p : Ql} {m : M} (h : QAt W p m) (who : Int) (a : Ask) (hc : m.can who a = false) :
  Calls Tryz.prog 15 #[.pointer (some ⟨p.mb, 0, none⟩), .i who, a.val] W (QPost W p (.tuple #[Ev.zero.val, .bool false, .bool false]) m):=by
 have hC:=Lib.hid hc
 have hc' : m.can who a = (decide (0 ≤ a.op ∧ a.op ≤ 7) && m.has who && decide ((m.worker who).at' = 0)):=rfl
 have HC:=Lib.hid (hc'.symm.trans hc)
 obtain ⟨op, dl, wt, fo, sl, ge, st⟩:=a
 simp only [Ask.val, Ask.cells] at *
 have hB : Below W.heap.size W ((W.alloc (.cells (Ad op dl wt fo sl ge st) 25)).alloc (.cells Zv 36)):=((Below.refl _ _).alloc (Nat.le_refl _) _).alloc (by simp) _
 have r0 : Rq W.heap.size ((W.alloc (.cells (Ad op dl wt fo sl ge st) 25)).alloc (.cells Zv 36)) p ((W.alloc (.cells (Ad op dl wt fo sl ge st) 25)).alloc (.cells Zv 36)) p m:=Rq.begin h hB
 have e0 : ERow ((W.alloc (.cells (Ad op dl wt fo sl ge st) 25)).alloc (.cells Zv 36)) (W.heap.size + 1):=⟨Zv, rfl, heap_alloc2_new W _ _⟩
 have hg1 : W.heap.size + 1 < ((W.alloc (.cells (Ad op dl wt fo sl ge st) 25)).alloc (.cells Zv 36)).heap.size:=by simp
 have hg0 : W.heap.size ≤ W.heap.size + 1:=by omega
 have a0 : RowAt ((W.alloc (.cells (Ad op dl wt fo sl ge st) 25)).alloc (.cells Zv 36)) W.heap.size (Ad op dl wt fo sl ge st) 25:=heap_alloc2_old W _ _
 have k6:=r0.at'.hd.c6
 have l0 : ((W.alloc (.cells (Ad op dl wt fo sl ge st) 25)).alloc (.cells Zv 36)).cell? ⟨W.heap.size, 0, none⟩ = some (.i op):=a0.cell 0
 have HR2:=Lib.hid (rfl : (1 : Nat) = 1)
 clear hC hc hc' h
 go_enter Tryz.func15, Tryz.ntmps15
 go_upto_region 1 with (fail)
 generalize ((W.alloc (.cells (Ad op dl wt fo sl ge st) 25)).alloc (.cells Zv 36)) = wb at *
 by_cases h0 : who < 0
 ·clear HC
  go_upto_region 2 with (fail)
  obtain ⟨Z, z1, z2⟩:=e0
  refine wp_region_lit ?_
  refine RowL.gl (Ev.zero).val ?_ (by go_simp; try rfl)
  refine RowL.gSt z2 (Ev.zero).cells 36 (.tmp 6) (.tmp 33) ?_ (hsz:=z1) (h1:=ev_one _)
  go_wp2_with fail
  refine bodyPost_ret (results_row3 rfl _ _ (W.heap.size + 1) _ _ _ rfl (z2.set _) Tryz.underlying36 rfl (by kernel_rfl)) rfl ?_
  exact (r0.row hg0 hg1 _).fin hB _
 by_cases h1 : (m.ks.length : Int) ≤ who
 ·clear HC
  go_upto_region 2 with (fail)
  obtain ⟨Z, z1, z2⟩:=e0
  refine wp_region_lit ?_
  refine RowL.gl (Ev.zero).val ?_ (by go_simp; try rfl)
  refine RowL.gSt z2 (Ev.zero).cells 36 (.tmp 6) (.tmp 33) ?_ (hsz:=z1) (h1:=ev_one _)
  go_wp2_with fail
  refine bodyPost_ret (results_row3 rfl _ _ (W.heap.size + 1) _ _ _ rfl (z2.set _) Tryz.underlying36 rfl (by kernel_rfl)) rfl ?_
  exact (r0.row hg0 hg1 _).fin hB _
 by_cases h2 : op < 0
 ·clear HC
  go_upto_region 2 with (fail)
  obtain ⟨Z, z1, z2⟩:=e0
  refine wp_region_lit ?_
  refine RowL.gl (Ev.zero).val ?_ (by go_simp; try rfl)
  refine RowL.gSt z2 (Ev.zero).cells 36 (.tmp 6) (.tmp 33) ?_ (hsz:=z1) (h1:=ev_one _)
  go_wp2_with fail
  refine bodyPost_ret (results_row3 rfl _ _ (W.heap.size + 1) _ _ _ rfl (z2.set _) Tryz.underlying36 rfl (by kernel_rfl)) rfl ?_
  exact (r0.row hg0 hg1 _).fin hB _
 by_cases h3 : 7 < op
 ·clear HC
  go_upto_region 2 with (fail)
  obtain ⟨Z, z1, z2⟩:=e0
  refine wp_region_lit ?_
  refine RowL.gl (Ev.zero).val ?_ (by go_simp; try rfl)
  refine RowL.gSt z2 (Ev.zero).cells 36 (.tmp 6) (.tmp 33) ?_ (hsz:=z1) (h1:=ev_one _)
  go_wp2_with fail
  refine bodyPost_ret (results_row3 rfl _ _ (W.heap.size + 1) _ _ _ rfl (z2.set _) Tryz.underlying36 rfl (by kernel_rfl)) rfl ?_
  exact (r0.row hg0 hg1 _).fin hB _
 obtain ⟨n, rfl⟩:=Int.eq_ofNat_of_zero_le (show 0 ≤ who by omega)
 have hnl : n < m.ks.length:=by omega
 obtain ⟨k, hk⟩ : ∃ k, m.ks[n]? = some k:=⟨_, List.getElem?_eq_getElem hnl⟩
 have hne : k.at' ≠ 0:=fun e => by
  have:=HC.out
  simp [M.has, worker_of hk, e] at this
  omega
 have g0 : wb.cell? ⟨p.kb, n * 10, none⟩ = some (.bool (k.at' != 0)):=r0.at'.works.1 n k hk 0 _ rfl
 have hb : (k.at' != 0) = true:=by simpa using hne
 rw [hb] at g0
 have hnk:=r0.at'.ok.nk
 have n0 : (0 : Int) ≤ (n : Int):=by omega
 have n1 : (n : Int) < (m.ks.length : Int):=by omega
 have n2 : (n : Int) ≤ (m.ks.length : Int) - 1:=by omega
 clear HC hk hne hb
 go_upto_region 4 with (fail)
 obtain ⟨Z, z1, z2⟩:=e0
 refine wp_region_lit ?_
 refine RowL.gl (Ev.zero).val ?_ (by go_simp; try rfl)
 refine RowL.gSt z2 (Ev.zero).cells 36 (.tmp 6) (.tmp 42) ?_ (hsz:=z1) (h1:=ev_one _)
 go_wp2_with fail
 refine bodyPost_ret (results_row3 rfl _ _ (W.heap.size + 1) _ _ _ rfl (z2.set _) Tryz.underlying36 rfl (by kernel_rfl)) rfl ?_
 exact (r0.row hg0 hg1 _).fin hB _
theorem q_get {W : World} {p : Ql} {m : M} (h : QAt W p m) (who : Int) (a : Ask) (hwho : m.has who = true) :
  Calls Tryz.prog 42 #[.pointer (some ⟨p.mb, 0, none⟩), .i who, a.val] W (QPost W p (.tuple #[(m.get who a).1.1.val, .bool (m.get who a).1.2]) (m.get who a).2):=by
 by_cases hc : m.closed = 0
 rotate_left
 ·exact q_get_closed h who a hc
 cases hf0 : m.first 0 who with
 | some i => exact q_get_own h who a hc i hf0
 | none =>
  cases hf1 : m.first 1 0 with
  | some i => exact q_get_any h who a hc hf0 i hf1
  | none =>
   cases hf2 : m.first 2 0 with
   | some i => exact q_get_free h who a hc hf0 hf1 i hf2
   | none =>
    cases hw : a.wait with
    | false => exact q_get_not h who a hc hf0 hf1 hf2 hw
    | true =>
     by_cases hfull : m.cf.waiters ≤ m.line.length
     ·exact q_get_full h who a hc hf0 hf1 hf2 hw hfull
     ·exact q_get_waits h who a hc hf0 hf1 hf2 hw hfull hwho
theorem q_ask_can {W : World} {p : Ql} {m : M} (h : QAt W p m) (who : Int) (a : Ask) (hc : m.can who a = true) (hI : Busy m) :
  Calls Tryz.prog 15 #[.pointer (some ⟨p.mb, 0, none⟩), .i who, a.val] W (QPost W p (.tuple #[(m.ask who a).1.1.val, .bool (m.ask who a).1.2.1, .bool (m.ask who a).1.2.2]) (m.ask who a).2):=by
 obtain ⟨⟨ho0, ho1⟩, n, k, rfl, hk, hk0⟩:=can_of hc
 have hnl : n < m.ks.length:=(List.getElem?_eq_some_iff.1 hk).1
 have hwho : m.has n = true:=by simp [M.has, hnl]
 have HM:=Lib.hid (show m.ask n a = (if (m.does n a).1.2 then ((M.answered (m.does n a).1.1 n a, true, true), (m.does n a).2.tidy) else ((Ev.zero, false, true), (m.does n a).2.tidy)) by unfold M.ask; rw [if_pos hc])
 have HDB:=Lib.hid (does_busy hI hwho a)
 have HI:=Lib.hid hI
 generalize m.ask n a = R at *
 obtain ⟨op, dl, wt, fo, sl, ge, st⟩:=a
 simp only [Ask.val, Ask.cells] at *
 have hB : Below W.heap.size W (((W.alloc (.cells (Ad op dl wt fo sl ge st) 25)).alloc (.cells Zv 36)).alloc (.cells Zv 36)):=(((Below.refl _ _).alloc (Nat.le_refl _) _).alloc (by simp) _).alloc (by simp; omega) _
 have r0 : Rq W.heap.size (((W.alloc (.cells (Ad op dl wt fo sl ge st) 25)).alloc (.cells Zv 36)).alloc (.cells Zv 36)) p (((W.alloc (.cells (Ad op dl wt fo sl ge st) 25)).alloc (.cells Zv 36)).alloc (.cells Zv 36)) p m:=Rq.begin h hB
 have e0 : ERow (((W.alloc (.cells (Ad op dl wt fo sl ge st) 25)).alloc (.cells Zv 36)).alloc (.cells Zv 36)) (W.heap.size + 1):=⟨Zv, rfl, heap_alloc3_mid W _ _ _⟩
 have x0 : RowAt (((W.alloc (.cells (Ad op dl wt fo sl ge st) 25)).alloc (.cells Zv 36)).alloc (.cells Zv 36)) (W.heap.size + 1 + 1) Zv 36:=by have:=heap_alloc_new ((W.alloc (.cells (Ad op dl wt fo sl ge st) 25)).alloc (.cells Zv 36)) (.cells Zv 36); simpa [RowAt] using this
 have a0 : RowAt (((W.alloc (.cells (Ad op dl wt fo sl ge st) 25)).alloc (.cells Zv 36)).alloc (.cells Zv 36)) W.heap.size (Ad op dl wt fo sl ge st) 25:=by rw [RowAt, Below.heap_alloc _ _ _ (by simp; omega)]; exact heap_alloc2_old W _ _
 have hg1 : W.heap.size + 1 < (((W.alloc (.cells (Ad op dl wt fo sl ge st) 25)).alloc (.cells Zv 36)).alloc (.cells Zv 36)).heap.size:=by simp
 have hg0 : W.heap.size ≤ W.heap.size + 1:=by omega
 have hgx1 : W.heap.size + 1 + 1 < (((W.alloc (.cells (Ad op dl wt fo sl ge st) 25)).alloc (.cells Zv 36)).alloc (.cells Zv 36)).heap.size:=by simp
 have hgx0 : W.heap.size ≤ W.heap.size + 1 + 1:=by omega
 have hga1 : W.heap.size < (((W.alloc (.cells (Ad op dl wt fo sl ge st) 25)).alloc (.cells Zv 36)).alloc (.cells Zv 36)).heap.size:=by simp; omega
 have hlt : p.mb < W.heap.size:=h.lt (.inl rfl)
 have hkt : p.kb < W.heap.size:=h.lt (.inr (.inr (.inl rfl)))
 have k6:=h.hd.c6
 have hnk:=h.ok.nk
 have g0 : W.cell? ⟨p.kb, n * 10, none⟩ = some (.bool (k.at' != 0)):=h.works.1 n k hk 0 _ rfl
 have hb : (k.at' != 0) = false:=by simp [hk0]
 rw [hb] at g0
 have n0 : (0 : Int) ≤ (n : Int):=by omega
 have n1 : (n : Int) < (m.ks.length : Int):=by omega
 have n2 : (n : Int) ≤ (m.ks.length : Int) - 1:=by omega
 have ho2 : ¬ op < 0:=by omega
 have ho3 : ¬ 7 < op:=by omega
 clear hc hk hk0 hb h hI hnl
 go_enter Tryz.func15, Tryz.ntmps15
 go_upto_region 7 with (fail)
 generalize (((W.alloc (.cells (Ad op dl wt fo sl ge st) 25)).alloc (.cells Zv 36)).alloc (.cells Zv 36)) = wb at *
 have c0 : wb.cell? ⟨W.heap.size, 0, none⟩ = some (.i op):=a0.cell 0
 clear g0 k6 n0 n1 n2 hnk
 go_upto_block 0 with (fail)
 clear c0
 go_cut [10, 11] from 12 to 125 (fun s10 s11 wx => (fun s10 wx => ∃ (x : Ev) (b : Bool) (p3 : Ql), s10 = .bool b ∧ (m.does n ⟨op, dl, wt, fo, sl, ge, st⟩).1 = (x, b) ∧ Rq W.heap.size wb p wx p3 (m.does n ⟨op, dl, wt, fo, sl, ge, st⟩).2 ∧ RowAt wx (W.heap.size + 1 + 1) x.cells 36 ∧ RowAt wx W.heap.size (Ad op dl wt fo sl ge st) 25 ∧ ERow wx (W.heap.size + 1)) s10 wx)
 case first =>
  have hop : op = 0 ∨ op = 1 ∨ op = 2 ∨ op = 3 ∨ op = 4 ∨ op = 5 ∨ op = 6 ∨ op = 7:=by omega
  clear ho0 ho1 ho2 ho3 HM HDB
  rcases hop with rfl | rfl | rfl | rfl | rfl | rfl | rfl | rfl
  ·as_aux_lemma =>
    have hm:=q_get r0.at' n ⟨0, dl, wt, fo, sl, ge, st⟩ hwho
    have hd : m.does n ⟨0, dl, wt, fo, sl, ge, st⟩ = m.get n ⟨0, dl, wt, fo, sl, ge, st⟩:=by unfold M.does; rw [if_pos rfl]
    rw [r0.mb] at hm
    have HD2:=Lib.hid hd
    generalize hr : m.get n ⟨0, dl, wt, fo, sl, ge, st⟩ = r at *
    obtain ⟨⟨x, b⟩, mm⟩:=r
    have HD : RowKit.Hid ((m.does n ⟨0, dl, wt, fo, sl, ge, st⟩).1 = (x, b)):=Lib.hid (by rw [hd])
    clear hd hr
    simp only [Ask.val, Ask.cells] at hm
    go_upto_region 9 with (fail)
    refine wp_region_lit ?_
    refine RowL.gl (.pointer (some ⟨p.mb, 0, none⟩)) ?_ (by go_simp; try rfl)
    refine RowL.gl (.i (n : Int)) ?_ (by go_simp; try rfl)
    refine RowL.grow a0 25 (.tmp 5) Tryz.underlying25 ?_
    go_wp2_with fail
    refine hm.mono ?_
    rintro e w2 hp
    obtain ⟨rfl, p3, r3, hc3⟩:=r0.post hp
    have e3:=e0.chg hc3 (r0.not hg0 hg1)
    have x3:=x0.chg hc3 (r0.not hgx0 hgx1)
    have a3:=a0.chg hc3 (r0.not (Nat.le_refl _) hga1)
    have hst:=ev_store x3 rfl x
    have hsz:=ev_size x
    have r4:=r3.row hgx0 hgx1 x.cells
    have e4:=ERow.chg (F:=fun k => k = W.heap.size + 1 + 1) e3 (chg_setRow (Chg.refl _ _) _ x.cells (fun _ => rfl)) (by omega)
    have a4:=RowAt.chg (F:=fun k => k = W.heap.size + 1 + 1) a3 (chg_setRow (Chg.refl _ _) _ x.cells (fun _ => rfl)) (by omega)
    have x4:=x3.set x.cells
    clear hm hp hc3 r0 e0 x0 a0 r3 e3 x3 a3
    go_wp2_with fail
    go_meet
    case rel => exact ⟨x, b, p3, rfl, HD.out, by rw [HD2.out]; exact r4, x4, a4, e4⟩
  ·as_aux_lemma =>
    have hm:=q_give r0.at' n ⟨1, dl, wt, fo, sl, ge, st⟩ rfl
    have hd : m.does n ⟨1, dl, wt, fo, sl, ge, st⟩ = (((m.give n ⟨1, dl, wt, fo, sl, ge, st⟩ false).1, true), (m.give n ⟨1, dl, wt, fo, sl, ge, st⟩ false).2):=by unfold M.does; simp
    rw [r0.mb] at hm
    generalize hr : m.give n ⟨1, dl, wt, fo, sl, ge, st⟩ false = r at *
    obtain ⟨x, mm⟩:=r
    have HD2:=Lib.hid hd
    have HD : RowKit.Hid ((m.does n ⟨1, dl, wt, fo, sl, ge, st⟩).1 = (x, true)):=Lib.hid (by rw [hd])
    clear hd hr
    simp only [Ask.val, Ask.cells] at hm
    go_upto_region 14 with (fail)
    refine wp_region_lit ?_
    refine RowL.gl (.pointer (some ⟨p.mb, 0, none⟩)) ?_ (by go_simp; try rfl)
    refine RowL.gl (.i (n : Int)) ?_ (by go_simp; try rfl)
    refine RowL.grow a0 25 (.tmp 5) Tryz.underlying25 ?_
    go_wp2_with fail
    refine hm.mono ?_
    rintro e w2 hp
    obtain ⟨rfl, p3, r3, hc3⟩:=r0.post hp
    have e3:=e0.chg hc3 (r0.not hg0 hg1)
    have x3:=x0.chg hc3 (r0.not hgx0 hgx1)
    have a3:=a0.chg hc3 (r0.not (Nat.le_refl _) hga1)
    have hst:=ev_store x3 rfl x
    have hsz:=ev_size x
    have r4:=r3.row hgx0 hgx1 x.cells
    have e4:=ERow.chg (F:=fun k => k = W.heap.size + 1 + 1) e3 (chg_setRow (Chg.refl _ _) _ x.cells (fun _ => rfl)) (by omega)
    have a4:=RowAt.chg (F:=fun k => k = W.heap.size + 1 + 1) a3 (chg_setRow (Chg.refl _ _) _ x.cells (fun _ => rfl)) (by omega)
    have x4:=x3.set x.cells
    clear hm hp hc3 r0 e0 x0 a0 r3 e3 x3 a3
    go_wp2_with fail
    go_meet
    case rel => exact ⟨x, true, p3, rfl, HD.out, by rw [HD2.out]; exact r4, x4, a4, e4⟩
  ·as_aux_lemma =>
    have hm:=q_discard r0.at' n ⟨2, dl, wt, fo, sl, ge, st⟩ rfl
    have hd : m.does n ⟨2, dl, wt, fo, sl, ge, st⟩ = (((m.give n ⟨2, dl, wt, fo, sl, ge, st⟩ true).1, true), (m.give n ⟨2, dl, wt, fo, sl, ge, st⟩ true).2):=by unfold M.does; simp
    rw [r0.mb] at hm
    generalize hr : m.give n ⟨2, dl, wt, fo, sl, ge, st⟩ true = r at *
    obtain ⟨x, mm⟩:=r
    have HD2:=Lib.hid hd
    have HD : RowKit.Hid ((m.does n ⟨2, dl, wt, fo, sl, ge, st⟩).1 = (x, true)):=Lib.hid (by rw [hd])
    clear hd hr
    simp only [Ask.val, Ask.cells] at hm
    go_upto_region 14 with (fail)
    refine wp_region_lit ?_
    refine RowL.gl (.pointer (some ⟨p.mb, 0, none⟩)) ?_ (by go_simp; try rfl)
    refine RowL.gl (.i (n : Int)) ?_ (by go_simp; try rfl)
    refine RowL.grow a0 25 (.tmp 5) Tryz.underlying25 ?_
    go_wp2_with fail
    refine hm.mono ?_
    rintro e w2 hp
    obtain ⟨rfl, p3, r3, hc3⟩:=r0.post hp
    have e3:=e0.chg hc3 (r0.not hg0 hg1)
    have x3:=x0.chg hc3 (r0.not hgx0 hgx1)
    have a3:=a0.chg hc3 (r0.not (Nat.le_refl _) hga1)
    have hst:=ev_store x3 rfl x
    have hsz:=ev_size x
    have r4:=r3.row hgx0 hgx1 x.cells
    have e4:=ERow.chg (F:=fun k => k = W.heap.size + 1 + 1) e3 (chg_setRow (Chg.refl _ _) _ x.cells (fun _ => rfl)) (by omega)
    have a4:=RowAt.chg (F:=fun k => k = W.heap.size + 1 + 1) a3 (chg_setRow (Chg.refl _ _) _ x.cells (fun _ => rfl)) (by omega)
    have x4:=x3.set x.cells
    clear hm hp hc3 r0 e0 x0 a0 r3 e3 x3 a3
    go_wp2_with fail
    go_meet
    case rel => exact ⟨x, true, p3, rfl, HD.out, by rw [HD2.out]; exact r4, x4, a4, e4⟩
  ·as_aux_lemma =>
    have hm:=q_open r0.at' n ⟨3, dl, wt, fo, sl, ge, st⟩ rfl
    have hd : m.does n ⟨3, dl, wt, fo, sl, ge, st⟩ = (((m.openS n ⟨3, dl, wt, fo, sl, ge, st⟩).1, true), (m.openS n ⟨3, dl, wt, fo, sl, ge, st⟩).2):=by unfold M.does; simp
    rw [r0.mb] at hm
    generalize hr : m.openS n ⟨3, dl, wt, fo, sl, ge, st⟩ = r at *
    obtain ⟨x, mm⟩:=r
    have HD2:=Lib.hid hd
    have HD : RowKit.Hid ((m.does n ⟨3, dl, wt, fo, sl, ge, st⟩).1 = (x, true)):=Lib.hid (by rw [hd])
    clear hd hr
    simp only [Ask.val, Ask.cells] at hm
    go_upto_region 14 with (fail)
    refine wp_region_lit ?_
    refine RowL.gl (.pointer (some ⟨p.mb, 0, none⟩)) ?_ (by go_simp; try rfl)
    refine RowL.gl (.i (n : Int)) ?_ (by go_simp; try rfl)
    refine RowL.grow a0 25 (.tmp 5) Tryz.underlying25 ?_
    go_wp2_with fail
    refine hm.mono ?_
    rintro e w2 hp
    obtain ⟨rfl, p3, r3, hc3⟩:=r0.post hp
    have e3:=e0.chg hc3 (r0.not hg0 hg1)
    have x3:=x0.chg hc3 (r0.not hgx0 hgx1)
    have a3:=a0.chg hc3 (r0.not (Nat.le_refl _) hga1)
    have hst:=ev_store x3 rfl x
    have hsz:=ev_size x
    have r4:=r3.row hgx0 hgx1 x.cells
    have e4:=ERow.chg (F:=fun k => k = W.heap.size + 1 + 1) e3 (chg_setRow (Chg.refl _ _) _ x.cells (fun _ => rfl)) (by omega)
    have a4:=RowAt.chg (F:=fun k => k = W.heap.size + 1 + 1) a3 (chg_setRow (Chg.refl _ _) _ x.cells (fun _ => rfl)) (by omega)
    have x4:=x3.set x.cells
    clear hm hp hc3 r0 e0 x0 a0 r3 e3 x3 a3
    go_wp2_with fail
    go_meet
    case rel => exact ⟨x, true, p3, rfl, HD.out, by rw [HD2.out]; exact r4, x4, a4, e4⟩
  ·as_aux_lemma =>
    have hm:=q_shut r0.at' n ⟨4, dl, wt, fo, sl, ge, st⟩ rfl
    have hd : m.does n ⟨4, dl, wt, fo, sl, ge, st⟩ = (((m.shutS n ⟨4, dl, wt, fo, sl, ge, st⟩).1, true), (m.shutS n ⟨4, dl, wt, fo, sl, ge, st⟩).2):=by unfold M.does; simp
    rw [r0.mb] at hm
    generalize hr : m.shutS n ⟨4, dl, wt, fo, sl, ge, st⟩ = r at *
    obtain ⟨x, mm⟩:=r
    have HD2:=Lib.hid hd
    have HD : RowKit.Hid ((m.does n ⟨4, dl, wt, fo, sl, ge, st⟩).1 = (x, true)):=Lib.hid (by rw [hd])
    clear hd hr
    simp only [Ask.val, Ask.cells] at hm
    go_upto_region 14 with (fail)
    refine wp_region_lit ?_
    refine RowL.gl (.pointer (some ⟨p.mb, 0, none⟩)) ?_ (by go_simp; try rfl)
    refine RowL.gl (.i (n : Int)) ?_ (by go_simp; try rfl)
    refine RowL.grow a0 25 (.tmp 5) Tryz.underlying25 ?_
    go_wp2_with fail
    refine hm.mono ?_
    rintro e w2 hp
    obtain ⟨rfl, p3, r3, hc3⟩:=r0.post hp
    have e3:=e0.chg hc3 (r0.not hg0 hg1)
    have x3:=x0.chg hc3 (r0.not hgx0 hgx1)
    have a3:=a0.chg hc3 (r0.not (Nat.le_refl _) hga1)
    have hst:=ev_store x3 rfl x
    have hsz:=ev_size x
    have r4:=r3.row hgx0 hgx1 x.cells
    have e4:=ERow.chg (F:=fun k => k = W.heap.size + 1 + 1) e3 (chg_setRow (Chg.refl _ _) _ x.cells (fun _ => rfl)) (by omega)
    have a4:=RowAt.chg (F:=fun k => k = W.heap.size + 1 + 1) a3 (chg_setRow (Chg.refl _ _) _ x.cells (fun _ => rfl)) (by omega)
    have x4:=x3.set x.cells
    clear hm hp hc3 r0 e0 x0 a0 r3 e3 x3 a3
    go_wp2_with fail
    go_meet
    case rel => exact ⟨x, true, p3, rfl, HD.out, by rw [HD2.out]; exact r4, x4, a4, e4⟩
  ·as_aux_lemma =>
    have hm:=q_reap r0.at' n
    have hd : m.does n ⟨5, dl, wt, fo, sl, ge, st⟩ = (((m.reap n).1, true), (m.reap n).2):=by unfold M.does; simp
    rw [r0.mb] at hm
    generalize hr : m.reap n = r at *
    obtain ⟨x, mm⟩:=r
    have HD2:=Lib.hid hd
    have HD : RowKit.Hid ((m.does n ⟨5, dl, wt, fo, sl, ge, st⟩).1 = (x, true)):=Lib.hid (by rw [hd])
    clear hd hr
    try simp only at hm
    go_wp2_with fail
    refine hm.mono ?_
    rintro e w2 hp
    obtain ⟨rfl, p3, r3, hc3⟩:=r0.post hp
    have e3:=e0.chg hc3 (r0.not hg0 hg1)
    have x3:=x0.chg hc3 (r0.not hgx0 hgx1)
    have a3:=a0.chg hc3 (r0.not (Nat.le_refl _) hga1)
    have hst:=ev_store x3 rfl x
    have hsz:=ev_size x
    have r4:=r3.row hgx0 hgx1 x.cells
    have e4:=ERow.chg (F:=fun k => k = W.heap.size + 1 + 1) e3 (chg_setRow (Chg.refl _ _) _ x.cells (fun _ => rfl)) (by omega)
    have a4:=RowAt.chg (F:=fun k => k = W.heap.size + 1 + 1) a3 (chg_setRow (Chg.refl _ _) _ x.cells (fun _ => rfl)) (by omega)
    have x4:=x3.set x.cells
    clear hm hp hc3 r0 e0 x0 a0 r3 e3 x3 a3
    go_wp2_with fail
    go_meet
    case rel => exact ⟨x, true, p3, rfl, HD.out, by rw [HD2.out]; exact r4, x4, a4, e4⟩
  ·as_aux_lemma =>
    have hd : m.does n ⟨6, dl, wt, fo, sl, ge, st⟩ = ((Ev.zero, true), m.close fo):=by unfold M.does; simp
    have HD2:=Lib.hid hd
    have HD : RowKit.Hid ((m.does n ⟨6, dl, wt, fo, sl, ge, st⟩).1 = (Ev.zero, true)):=Lib.hid (by rw [hd])
    have x4 : RowAt wb (W.heap.size + 1 + 1) Ev.zero.cells 36:=x0
    have kf : wb.cell? ⟨W.heap.size, 3, none⟩ = some (.bool fo):=a0.cell 3
    have k8:=r0.at'.hd.c8
    have f8:=r0.at'.hd.f8
    have hcl:=r0.at'.ok.closed
    have hR0 : (m.closed = (if fo then 2 else if m.closed = 0 then 1 else m.closed) ∧ True) ∨ True:=.inr trivial
    obtain ⟨cn, hcn⟩ : ∃ cn : Int, cn = (if fo then 2 else if m.closed = 0 then 1 else m.closed):=⟨_, rfl⟩
    have hcn3 : cn = 0 ∨ cn = 1 ∨ cn = 2:=by rw [hcn]; split <;> (try split) <;> omega
    have HCN:=Lib.hid hcn
    clear hd hR0 x0
    clear hcn
    go_upto_if 72 with (fail)
    have hw8 : ∀ v, Chg (fun k => k = p.mb) wb (wb.setCell ⟨p.mb, 8, none⟩ v):=fun v => (Chg.refl (fun k => k = p.mb) wb).setCell ⟨p.mb, 8, none⟩ v (fun _ => rfl)
    have hm0 : ¬ W.heap.size = p.mb:=by omega
    have hm1 : ¬ W.heap.size + 1 = p.mb:=by omega
    have hm2 : ¬ W.heap.size + 1 + 1 = p.mb:=by omega
    go_cut [10] from 12 to 125 (fun s10 wx => s10 = .bool true ∧ Rq W.heap.size wb p wx p { m with closed:=cn } ∧ ERow wx (W.heap.size + 1) ∧ RowAt wx (W.heap.size + 1 + 1) Ev.zero.cells 36 ∧ RowAt wx W.heap.size (Ad 6 dl wt fo sl ge st) 25)
    case first =>
     cases fo
     ·by_cases h0 : m.closed = 0
      ·have hz : (m.closed == 0) = true:=by simp [h0]
       have H1 : RowKit.Hid (cn = 1):=Lib.hid (by rw [HCN.out]; simp [h0])
       clear h0 hcn3 hcl
       go_wp2_with fail
       go_meet
       case rel => exact ⟨rfl, by rw [H1.out]; exact r0.turn (r0.at'.toClosed 1 (by simp)) ((hw8 _).mono fun k _ e => .inl e), e0.chg (hw8 _) hm1, x4.chg (hw8 _) hm2, a0.chg (hw8 _) hm0⟩
      ·have hz : (m.closed == 0) = false:=by simp [h0]
       have H1 : RowKit.Hid (cn = m.closed):=Lib.hid (by rw [HCN.out]; simp [h0])
       clear h0 hcn3 hcl
       go_wp2_with fail
       go_meet
       case rel => exact ⟨rfl, by rw [H1.out]; exact r0, e0, x4, a0⟩
     ·have H1 : RowKit.Hid (cn = 2):=Lib.hid (by rw [HCN.out]; rfl)
      clear hcn3 hcl
      go_wp2_with fail
      go_meet
      case rel => exact ⟨rfl, by rw [H1.out]; exact r0.turn (r0.at'.toClosed 2 (by simp)) ((hw8 _).mono fun k _ e => .inl e), e0.chg (hw8 _) hm1, x4.chg (hw8 _) hm2, a0.chg (hw8 _) hm0⟩
    case rest =>
     obtain ⟨rfl, r1, e1, x1, a1⟩:=hcut
     generalize wc = w1 at *
     have HD3 : RowKit.Hid (m.close fo = { m with closed:=cn, ks:=tellN m.line m.ks m.line.length, line:=[] }):=Lib.hid (by rw [tellN_all, HCN.out]; rfl)
     clear kf k8 f8 hcl hcn3 hw8 r0 e0 x4 a0 HCN
     obtain ⟨la, lc, hlv⟩:=r1.at'.own.form
     go_wp2_with fail
     go_loopw [11] (fun iv wr => ∃ w', w' = wr ∧ ∃ k : Nat, k ≤ m.line.length ∧ iv = .i k ∧ Rq W.heap.size wb p w' p { m with closed:=cn, ks:=tellN m.line m.ks k } ∧ ERow w' (W.heap.size + 1) ∧ RowAt w' (W.heap.size + 1 + 1) Ev.zero.cells 36 ∧ RowAt w' W.heap.size (Ad 6 dl wt fo sl ge st) 25 ∧ Hid (∀ x ∈ m.line, ∀ k', (tellN m.line m.ks k)[x.toNat]? = some k' → k'.at' ≠ 0)) (fun iv _ => m.line.length - (intOf iv).toNat)
     case atStart => exact ⟨_, rfl, 0, by omega, rfl, r1, e1, x1, a1, Lib.hid HI.out⟩
     case round =>
      clear r1 e1 x1 a1
      obtain ⟨wr2, rfl, j, hj, rfl, r1, e1, x1, a1, HB⟩:=hrel
      have hlen:=tellN_len m.line m.ks j
      have k6:=r1.at'.hd.c6
      have k7:=r1.at'.hd.c7
      have f7:=r1.at'.hd.f7
      try simp only [hlen] at k6
      try simp only at k7 f7
      have hfew:=r1.at'.ok.few
      try simp only at hfew
      have j0 : (0 : Int) ≤ (j : Int):=by omega
      by_cases hjl : j < m.line.length
      ·obtain ⟨y, hy⟩ : ∃ y, m.line[j]? = some y:=⟨_, List.getElem?_eq_getElem hjl⟩
       have hyb:=r1.at'.ok.line y (List.mem_of_getElem? hy)
       try simp only [hlen] at hyb
       obtain ⟨q, rfl⟩:=Int.eq_ofNat_of_zero_le hyb.1
       have hql : q < m.ks.length:=by omega
       have hnk:=r1.at'.ok.nk
       try simp only [hlen] at hnk
       obtain ⟨g, off, cap, hlv2, hcap1, hcap2, hgC, hcl, hfz, hxs⟩:=r1.at'.own.some (by simp only; omega)
       try simp only at hlv2 hcap1 hxs
       have hx0 : wr2.cell? ⟨g, off + j, none⟩ = some (.i (q : Int)):=hxs j _ (by rw [List.getElem?_map, hy]; rfl)
       have hgk : ¬ g = p.kb:=by
        obtain ⟨t, t1, t2, t3, t5, t6⟩:=r1.at'.tag
        intro e
        have h6:=t6 g (by rw [hlv2, fp_some])
        rw [e] at h6
        try simp only at t3
        omega
       have hkm : p.mb ≠ p.kb:=r1.at'.ne.2.1
       have hkm' : ¬ p.kb = p.mb:=fun e => hkm e.symm
       have hgk' : ¬ p.kb = g:=fun e => hgk e.symm
       obtain ⟨kq, hkq⟩ : ∃ kq, (tellN m.line m.ks j)[q]? = some kq:=⟨_, List.getElem?_eq_getElem (by omega)⟩
       have hne:=HB.out (q : Int) (List.mem_of_getElem? hy) kq (by simpa using hkq)
       have g1:=r1.at'.works.1 q kq hkq 1 _ rfl
       have g2:=r1.at'.works.1 q kq hkq 2 _ rfl
       have z1:=r1.at'.works.2 q 1 (by simp only [hlen]; omega) (by omega)
       have z2:=r1.at'.works.2 q 2 (by simp only [hlen]; omega) (by omega)
       have hwk:=r1.at'.works.two hkq (wcells_told hne)
       have hTS : tellN m.line m.ks (j + 1) = (tellN m.line m.ks j).set q { kq with at':=3 }:=by rw [tellN_succ hy]; unfold tell; simp [hkq]
       have HTS:=Lib.hid hTS
       have hC4 : Chg (fun k => k = p.kb) wr2 ((wr2.setCell ⟨p.kb, q * 10 + 1, none⟩ (.bool false)).setCell ⟨p.kb, q * 10 + 2, none⟩ (.i (-1))):=((Chg.refl (fun k => k = p.kb) wr2).setCell ⟨p.kb, q * 10 + 1, none⟩ (.bool false) (fun _ => rfl)).setCell ⟨p.kb, q * 10 + 2, none⟩ (.i (-1)) (fun _ => rfl)
       have hA4:=r1.at'.toWorks hC4 hwk (by simp) (by
        intro k hk h2
        rcases List.mem_or_eq_of_mem_set hk with hk | rfl
        ·exact r1.at'.ok.grants k hk h2
        ·simp at h2)
       have r4:=r1.works hA4 hC4
       have e4:=e1.chg hC4 (fun e => r1.not hg0 hg1 (.inr (.inr (.inl e))))
       have x4:=x1.chg hC4 (fun e => r1.not hgx0 hgx1 (.inr (.inr (.inl e))))
       have a4:=a1.chg hC4 (fun e => r1.not (Nat.le_refl _) hga1 (.inr (.inr (.inl e))))
       have R4:=Lib.hid (And.intro r4 (And.intro e4 (And.intro x4 a4)))
       have HB2 : RowKit.Hid (∀ x ∈ m.line, ∀ k', (tellN m.line m.ks (j + 1))[x.toNat]? = some k' → k'.at' ≠ 0):=Lib.hid (fun x hx k' hk' => by
        rw [hTS, List.getElem?_set] at hk'
        split at hk'
        ·first | (cases hk'; simp; done) | (split at hk' <;> first | (cases hk'; simp; done) | cases hk')
        ·exact HB.out x hx k' hk')
       rw [hlv2] at k7
       have q0 : (0 : Int) ≤ (q : Int):=by omega
       have q1 : (q : Int) < (m.ks.length : Int):=by omega
       have q2 : (q : Int) ≤ (m.ks.length : Int) - 1:=by omega
       have j1 : (j : Int) < (m.line.length : Int):=by omega
       have j2 : (j : Int) ≤ (m.line.length : Int) - 1:=by omega
       clear hcl hfz hxs hy hkq hne hwk hTS hC4 hA4 r4 e4 x4 a4 r1 e1 x1 a1 hlen hlv hlv2 HB hyb f7
       go_wp2_with fail
       go_region
       go_wp2_with fail
       go_region
       go_wp2_with fail
       go_round
       case rel =>
        obtain ⟨r4, e4, x4, a4⟩:=R4.out
        exact ⟨_, rfl, j + 1, by omega, rfl, by rw [HTS.out]; exact r4.drew.drew, e4, x4, a4, HB2⟩
       case measure => simp [intOf] <;> omega
      ·obtain rfl : j = m.line.length:=by omega
       rw [hlv] at k7
       have j1 : ¬ ((m.line.length : Nat) : Int) < (m.line.length : Int):=by omega
       have hC5 : Chg (fun k => k = p.mb ∨ Fp p.lv k) wr2 (wr2.setCell ⟨p.mb, 7, none⟩ (.slice none 0 0)):=(Chg.refl _ wr2).setCell ⟨p.mb, 7, none⟩ (.slice none 0 0) (fun _ => .inl rfl)
       have hA5 : QAt (wr2.setCell ⟨p.mb, 7, none⟩ (.slice none 0 0)) { p with lv:=.slice none 0 0 } { m with closed:=cn, ks:=tellN m.line m.ks m.line.length, line:=[] }:=r1.at'.toLine (v':=.slice none 0 0) (l:=[]) (ownS_nil _ _) (by simp) (fun x hx => by simp at hx) (fun k hk => (fp_nil k hk).elim) hC5 (qd_line r1.at'.hd _)
       have r5:=r1.line hA5 (fun k hk => (fp_nil k hk).elim) hC5
       have hlb : ∀ k, Fp p.lv k → k < W.heap.size:=fun k hk => r1.old k (.inr (.inr (.inr (.inr hk))))
       have e5:=e1.chg hC5 (fun h => by rcases h with h | h; exact hm1 h; have:=hlb _ h; omega)
       have x5:=x1.chg hC5 (fun h => by rcases h with h | h; exact hm2 h; have:=hlb _ h; omega)
       have a5:=a1.chg hC5 (fun h => by rcases h with h | h; exact hm0 h; have:=hlb _ h; omega)
       clear hC5 hA5 r1 e1 x1 a1 HB hlen hlb
       go_wp2_with fail
       go_meet
       case rel => exact ⟨Ev.zero, true, _, rfl, HD.out, by rw [HD2.out, HD3.out]; exact r5, x5, a5, e5⟩
  ·as_aux_lemma =>
    have hm:=q_count r0.at'
    have hd : m.does n ⟨7, dl, wt, fo, sl, ge, st⟩ = ((m.stats, true), m):=by unfold M.does; simp
    rw [r0.mb] at hm
    generalize m.stats = x at *
    have HD2:=Lib.hid hd
    have HD : RowKit.Hid ((m.does n ⟨7, dl, wt, fo, sl, ge, st⟩).1 = (x, true)):=Lib.hid (by rw [hd])
    clear hd
    go_wp2_with fail
    refine hm.mono ?_
    rintro e w2 ⟨rfl, hb2⟩
    have r3:=r0.below hb2
    have e3:=e0.below hb2
    have x3:=x0.below hb2
    have a3:=a0.below hb2
    have hst:=ev_store x3 rfl x
    have hsz:=ev_size x
    have r4:=r3.row hgx0 hgx1 x.cells
    have e4:=ERow.chg (F:=fun k => k = W.heap.size + 1 + 1) e3 (chg_setRow (Chg.refl _ _) _ x.cells (fun _ => rfl)) (by omega)
    have a4:=RowAt.chg (F:=fun k => k = W.heap.size + 1 + 1) a3 (chg_setRow (Chg.refl _ _) _ x.cells (fun _ => rfl)) (by omega)
    have x4:=x3.set x.cells
    clear hm hb2 r0 e0 x0 a0 r3 e3 x3 a3
    go_wp2_with fail
    go_meet
    case rel => exact ⟨x, true, p, rfl, HD.out, by rw [HD2.out]; exact r4, x4, a4, e4⟩
 case rest =>
  obtain ⟨x, b, p3, rfl, hdx, r3, x3, a3, e3⟩:=hcut
  generalize wc = w3 at *
  have hbz:=HDB.out
  have hms:=HM.out
  rw [hdx] at hms hbz
  simp only at hms hbz
  obtain ⟨hbusy, hx0⟩:=hbz
  have ht:=q_tidy r3.at' hbusy
  rw [r3.mb] at ht
  generalize (m.does n ⟨op, dl, wt, fo, sl, ge, st⟩).2 = mm at *
  have HMS:=Lib.hid hms
  have HX0:=Lib.hid hx0
  clear hdx hms hbusy hx0 HM HDB HI r0 e0 x0 a0 ho0 ho1 ho2 ho3
  go_wp2_with fail
  refine ht.mono ?_
  rintro e w4 ⟨v4, hp⟩
  obtain ⟨rfl, p4, r4, hc4⟩:=r3.post hp
  have e4:=e3.chg hc4 (r3.not hg0 hg1)
  have x4:=x3.chg hc4 (r3.not hgx0 hgx1)
  have a4:=a3.chg hc4 (r3.not (Nat.le_refl _) hga1)
  clear ht hp hc4 r3 e3 x3 a3
  cases b
  ·have HR2 : RowKit.Hid (R = ((Ev.zero, false, true), mm.tidy)):=Lib.hid (by rw [HMS.out]; rfl)
   clear HMS
   go_upto_region 32 with (fail)
   obtain ⟨Z, z1, z2⟩:=e4
   refine wp_region_lit ?_
   refine RowL.gl (Ev.zero).val ?_ (by go_simp; try rfl)
   refine RowL.gSt z2 (Ev.zero).cells 36 (.tmp 6) (.tmp 130) ?_ (hsz:=z1) (h1:=ev_one _)
   go_wp2_with fail
   refine bodyPost_ret (results_row3 rfl _ _ (W.heap.size + 1) _ _ _ rfl (z2.set _) Tryz.underlying36 rfl (by kernel_rfl)) rfl ?_
   rw [HR2.out]
   exact (r4.row hg0 hg1 _).fin hB _
  ·have HR2 : RowKit.Hid (R = ((M.answered x n ⟨op, dl, wt, fo, sl, ge, st⟩, true, true), mm.tidy)):=Lib.hid (by rw [HMS.out]; rfl)
   have htl:=fun w => told_any w x n ⟨op, dl, wt, fo, sl, ge, st⟩
   have hta : ({ M.answered x n ⟨op, dl, wt, fo, sl, ge, st⟩ with at':=x.at' } : Ev) = M.answered x n ⟨op, dl, wt, fo, sl, ge, st⟩:=by rw [HX0.out]; rfl
   rw [hta] at htl
   clear HMS hta
   go_upto_region 33 with (fail)
   refine wp_region_lit ?_
   refine RowL.grow x4 36 (.tmp 9) Tryz.underlying36 ?_
   refine RowL.gl (.i (n : Int)) ?_ (by go_simp; try rfl)
   refine RowL.grow a4 25 (.tmp 5) Tryz.underlying25 ?_
   generalize M.answered x n ⟨op, dl, wt, fo, sl, ge, st⟩ = y at *
   simp only [Ask.val, Ask.cells] at htl
   go_wp2_with fail
   refine (htl _).mono ?_
   rintro e w5 ⟨rfl, hb5⟩
   have r5:=r4.below hb5
   have e5:=e4.below hb5
   have hst:=e5.store y
   have hsz:=ev_size y
   clear htl hb5 r4 e4 x4 a4
   go_wp2_with fail
   refine bodyPost_ret (results_row3 rfl _ _ (W.heap.size + 1) _ _ _ rfl (e5.set y) Tryz.underlying36 rfl (by kernel_rfl)) rfl ?_
   rw [HR2.out]
   exact (r5.row hg0 hg1 y.cells).fin hB _
end Go.Proofs.YtpmkgddjgebojaaGreatDoor.Mod
