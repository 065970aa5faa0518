/- Part 42 of the walks and plain laws that the last text joins. -/
import Derived.Test.YtpmkgddjgebojaaGreatDoorE40
import Derived.Test.YtpmkgddjgebojaaGreatDoorE41
set_option maxRecDepth 100000
set_option maxHeartbeats 16000000
set_option linter.unusedVariables false
set_option linter.unusedSimpArgs false
namespace Go.Proofs.YtpmkgddjgebojaaGreatDoor.Mod
open Go.RowKit Hp Slot RowL Life R8
theorem q_wake_none {W : World} {p : Ql} {m : M} (h : QAt W p m) (who : Int) (hw : m.has who = false) :
  Calls Tryz.prog 17 #[.pointer (some ⟨p.mb, 0, none⟩), .i who] W (QPost W p (.tuple #[(m.wake who).1.1.val, .bool (m.wake who).1.2]) (m.wake who).2):=by
 have HR2:=Lib.hid (show m.wake who = ((Ev.zero, false), m) by unfold M.wake; rw [if_pos (by simp [hw])])
 generalize m.wake who = R at *
 have hB : Below W.heap.size W (W.alloc (.cells Zv 36)):=(Below.refl _ _).alloc (Nat.le_refl _) _
 have r0 : Rq W.heap.size (W.alloc (.cells Zv 36)) p (W.alloc (.cells Zv 36)) p m:=Rq.begin h hB
 have e0 : ERow (W.alloc (.cells Zv 36)) W.heap.size:=⟨Zv, rfl, RowAt.new _ _ _⟩
 have hg1 : W.heap.size < (W.alloc (.cells Zv 36)).heap.size:=by simp
 have hlt : p.mb < W.heap.size:=h.lt (.inl rfl)
 have k6:=h.hd.c6
 have hnk:=h.ok.nk
 clear h
 go_enter Tryz.func17, Tryz.ntmps17
 go_upto_region 1 with (fail)
 generalize (W.alloc (.cells Zv 36)) = wb at *
 clear k6
 have k6:=r0.at'.hd.c6
 by_cases h0 : who < 0
 ·clear hw
  go_upto_region 2 with (fail)
  obtain ⟨Z, y1, y2⟩:=e0
  refine wp_region_lit ?_
  refine RowL.gl Ev.zero.val ?_ (by go_simp; try rfl)
  refine RowL.gSt y2 Ev.zero.cells 36 (.tmp 4) (.tmp 23) ?_ (hsz:=y1) (h1:=ev_one _)
  go_wp2_with fail
  refine bR2 W.heap.size (y2.set _) Tryz.underlying36 ?_
  rw [HR2.out]
  exact (r0.row (Nat.le_refl _) hg1 Ev.zero.cells).fin hB _
 ·have h1 : (m.ks.length : Int) ≤ who:=by simp [M.has] at hw; omega
  clear hw
  go_upto_region 2 with (fail)
  obtain ⟨Z, y1, y2⟩:=e0
  refine wp_region_lit ?_
  refine RowL.gl Ev.zero.val ?_ (by go_simp; try rfl)
  refine RowL.gSt y2 Ev.zero.cells 36 (.tmp 4) (.tmp 23) ?_ (hsz:=y1) (h1:=ev_one _)
  go_wp2_with fail
  refine bR2 W.heap.size (y2.set _) Tryz.underlying36 ?_
  rw [HR2.out]
  exact (r0.row (Nat.le_refl _) hg1 Ev.zero.cells).fin hB _
theorem q_wake_rest {W : World} {p : Ql} {m : M} (h : QAt W p m) (n : Nat) (op dl : Int) (wt fo : Bool) (sl ge st ks0 : Int) (hk : m.ks[n]? = some ⟨0, ⟨op, dl, wt, fo, sl, ge, st⟩, ks0⟩) :
  Calls Tryz.prog 17 #[.pointer (some ⟨p.mb, 0, none⟩), .i n] W (QPost W p (.tuple #[(m.wake n).1.1.val, .bool (m.wake n).1.2]) (m.wake n).2):=by
 have HR2:=Lib.hid (show m.wake n = ((Ev.zero, false), m) by rw [wake_of hk]; simp)
 generalize m.wake n = R at *
 have hnl : n < m.ks.length:=(List.getElem?_eq_some_iff.1 hk).1
 have hB : Below W.heap.size W ((W.alloc (.cells Zv 36)).alloc (.cells (Ai false false 0 op dl wt fo sl ge st) 97)):=((Below.refl _ _).alloc (Nat.le_refl _) _).alloc (by simp) _
 have r0 : Rq W.heap.size ((W.alloc (.cells Zv 36)).alloc (.cells (Ai false false 0 op dl wt fo sl ge st) 97)) p ((W.alloc (.cells Zv 36)).alloc (.cells (Ai false false 0 op dl wt fo sl ge st) 97)) p m:=Rq.begin h hB
 have e0 : ERow ((W.alloc (.cells Zv 36)).alloc (.cells (Ai false false 0 op dl wt fo sl ge st) 97)) W.heap.size:=⟨Zv, rfl, heap_alloc2_old W _ _⟩
 have b0 : RowAt ((W.alloc (.cells Zv 36)).alloc (.cells (Ai false false 0 op dl wt fo sl ge st) 97)) (W.heap.size + 1) (Ai false false 0 op dl wt fo sl ge st) 97:=heap_alloc2_new W _ _
 have hg1 : W.heap.size < ((W.alloc (.cells Zv 36)).alloc (.cells (Ai false false 0 op dl wt fo sl ge st) 97)).heap.size:=by simp; omega
 have hgb1 : W.heap.size + 1 < ((W.alloc (.cells Zv 36)).alloc (.cells (Ai false false 0 op dl wt fo sl ge st) 97)).heap.size:=by simp
 have hgb0 : W.heap.size ≤ W.heap.size + 1:=by omega
 have hlt : p.mb < W.heap.size:=h.lt (.inl rfl)
 have hkt : p.kb < W.heap.size:=h.lt (.inr (.inr (.inl rfl)))
 have k6:=h.hd.c6
 have hnk:=h.ok.nk
 have g0 : W.cell? ⟨p.kb, n * 10, none⟩ = some (.bool false):=h.works.1 n _ hk 0 _ rfl
 have g1 : W.cell? ⟨p.kb, n * 10 + 1, none⟩ = some (.bool false):=h.works.1 n _ hk 1 _ rfl
 have g2 : W.cell? ⟨p.kb, n * 10 + 2, none⟩ = some (.i 0):=h.works.1 n _ hk 2 _ rfl
 have g3 : W.cell? ⟨p.kb, n * 10 + 3, none⟩ = some (.i op):=h.works.1 n _ hk 3 _ rfl
 have g4 : W.cell? ⟨p.kb, n * 10 + 4, none⟩ = some (.i dl):=h.works.1 n _ hk 4 _ rfl
 have g5 : W.cell? ⟨p.kb, n * 10 + 5, none⟩ = some (.bool wt):=h.works.1 n _ hk 5 _ rfl
 have g6 : W.cell? ⟨p.kb, n * 10 + 6, none⟩ = some (.bool fo):=h.works.1 n _ hk 6 _ rfl
 have g7 : W.cell? ⟨p.kb, n * 10 + 7, none⟩ = some (.i sl):=h.works.1 n _ hk 7 _ rfl
 have g8 : W.cell? ⟨p.kb, n * 10 + 8, none⟩ = some (.i ge):=h.works.1 n _ hk 8 _ rfl
 have g9 : W.cell? ⟨p.kb, n * 10 + 9, none⟩ = some (.i st):=h.works.1 n _ hk 9 _ rfl
 have n0 : (0 : Int) ≤ (n : Int):=by omega
 have n1 : (n : Int) < (m.ks.length : Int):=by omega
 have n2 : (n : Int) ≤ (m.ks.length : Int) - 1:=by omega
 have n3 : ¬ (n : Int) < 0:=by omega
 have n4 : ¬ (m.ks.length : Int) ≤ (n : Int):=by omega
 have HK:=Lib.hid hk
 clear h hk
 go_enter Tryz.func17, Tryz.ntmps17
 go_upto_region 4 with (fail)
 generalize ((W.alloc (.cells Zv 36)).alloc (.cells (Ai false false 0 op dl wt fo sl ge st) 97)) = wb at *
 clear g0 g1 g2 g3 g4 g5 g6 g7 g8 g9 k6 n3 n4
 have c0 : wb.cell? ⟨W.heap.size + 1, 0, none⟩ = some (.bool false):=b0.cell 0
 have c2 : wb.cell? ⟨W.heap.size + 1, 2, none⟩ = some (.i 0):=b0.cell 2
 have c4 : wb.cell? ⟨W.heap.size + 1, 4, none⟩ = some (.i dl):=b0.cell 4
 have k9:=r0.at'.hd.c9
 go_quiet (fail)
 have hbq : Below wb.heap.size wb (wb.drewN nq):=bdrewN (Below.refl _ _) nq
 have r1:=r0.below hbq
 have e1:=e0.below hbq
 have b1:=b0.below hbq
 clear r0 e0 b0 c0 c2 c4 k9 hbq
 generalize wb.drewN nq = w1 at *
 go_upto_region 5 with (fail)
 obtain ⟨Z, y1, y2⟩:=e1
 refine wp_region_lit ?_
 refine RowL.gl Ev.zero.val ?_ (by go_simp; try rfl)
 refine RowL.gSt y2 Ev.zero.cells 36 (.tmp 4) (.tmp 49) ?_ (hsz:=y1) (h1:=ev_one _)
 go_wp2_with fail
 refine bR2 W.heap.size (y2.set _) Tryz.underlying36 ?_
 rw [HR2.out]
 exact (r1.row (Nat.le_refl _) hg1 Ev.zero.cells).fin hB _
theorem q_wake_soon {W : World} {p : Ql} {m : M} (h : QAt W p m) (n : Nat) (op dl : Int) (wt fo : Bool) (sl ge st ks0 : Int) (hk : m.ks[n]? = some ⟨1, ⟨op, dl, wt, fo, sl, ge, st⟩, ks0⟩) (hd : ¬ dl ≤ m.now) :
  Calls Tryz.prog 17 #[.pointer (some ⟨p.mb, 0, none⟩), .i n] W (QPost W p (.tuple #[(m.wake n).1.1.val, .bool (m.wake n).1.2]) (m.wake n).2):=by
 have HR2:=Lib.hid (show m.wake n = ((Ev.zero, false), m) by rw [wake_of hk]; simp [hd])
 have hdd : m.now < dl:=by omega
 clear hd
 generalize m.wake n = R at *
 have hnl : n < m.ks.length:=(List.getElem?_eq_some_iff.1 hk).1
 have hB : Below W.heap.size W ((W.alloc (.cells Zv 36)).alloc (.cells (Ai true true 0 op dl wt fo sl ge st) 97)):=((Below.refl _ _).alloc (Nat.le_refl _) _).alloc (by simp) _
 have r0 : Rq W.heap.size ((W.alloc (.cells Zv 36)).alloc (.cells (Ai true true 0 op dl wt fo sl ge st) 97)) p ((W.alloc (.cells Zv 36)).alloc (.cells (Ai true true 0 op dl wt fo sl ge st) 97)) p m:=Rq.begin h hB
 have e0 : ERow ((W.alloc (.cells Zv 36)).alloc (.cells (Ai true true 0 op dl wt fo sl ge st) 97)) W.heap.size:=⟨Zv, rfl, heap_alloc2_old W _ _⟩
 have b0 : RowAt ((W.alloc (.cells Zv 36)).alloc (.cells (Ai true true 0 op dl wt fo sl ge st) 97)) (W.heap.size + 1) (Ai true true 0 op dl wt fo sl ge st) 97:=heap_alloc2_new W _ _
 have hg1 : W.heap.size < ((W.alloc (.cells Zv 36)).alloc (.cells (Ai true true 0 op dl wt fo sl ge st) 97)).heap.size:=by simp; omega
 have hgb1 : W.heap.size + 1 < ((W.alloc (.cells Zv 36)).alloc (.cells (Ai true true 0 op dl wt fo sl ge st) 97)).heap.size:=by simp
 have hgb0 : W.heap.size ≤ W.heap.size + 1:=by omega
 have hlt : p.mb < W.heap.size:=h.lt (.inl rfl)
 have hkt : p.kb < W.heap.size:=h.lt (.inr (.inr (.inl rfl)))
 have k6:=h.hd.c6
 have hnk:=h.ok.nk
 have g0 : W.cell? ⟨p.kb, n * 10, none⟩ = some (.bool true):=h.works.1 n _ hk 0 _ rfl
 have g1 : W.cell? ⟨p.kb, n * 10 + 1, none⟩ = some (.bool true):=h.works.1 n _ hk 1 _ rfl
 have g2 : W.cell? ⟨p.kb, n * 10 + 2, none⟩ = some (.i 0):=h.works.1 n _ hk 2 _ rfl
 have g3 : W.cell? ⟨p.kb, n * 10 + 3, none⟩ = some (.i op):=h.works.1 n _ hk 3 _ rfl
 have g4 : W.cell? ⟨p.kb, n * 10 + 4, none⟩ = some (.i dl):=h.works.1 n _ hk 4 _ rfl
 have g5 : W.cell? ⟨p.kb, n * 10 + 5, none⟩ = some (.bool wt):=h.works.1 n _ hk 5 _ rfl
 have g6 : W.cell? ⟨p.kb, n * 10 + 6, none⟩ = some (.bool fo):=h.works.1 n _ hk 6 _ rfl
 have g7 : W.cell? ⟨p.kb, n * 10 + 7, none⟩ = some (.i sl):=h.works.1 n _ hk 7 _ rfl
 have g8 : W.cell? ⟨p.kb, n * 10 + 8, none⟩ = some (.i ge):=h.works.1 n _ hk 8 _ rfl
 have g9 : W.cell? ⟨p.kb, n * 10 + 9, none⟩ = some (.i st):=h.works.1 n _ hk 9 _ rfl
 have n0 : (0 : Int) ≤ (n : Int):=by omega
 have n1 : (n : Int) < (m.ks.length : Int):=by omega
 have n2 : (n : Int) ≤ (m.ks.length : Int) - 1:=by omega
 have n3 : ¬ (n : Int) < 0:=by omega
 have n4 : ¬ (m.ks.length : Int) ≤ (n : Int):=by omega
 have HK:=Lib.hid hk
 clear h hk
 go_enter Tryz.func17, Tryz.ntmps17
 go_upto_region 4 with (fail)
 generalize ((W.alloc (.cells Zv 36)).alloc (.cells (Ai true true 0 op dl wt fo sl ge st) 97)) = wb at *
 clear g0 g1 g2 g3 g4 g5 g6 g7 g8 g9 k6 n3 n4
 have c0 : wb.cell? ⟨W.heap.size + 1, 0, none⟩ = some (.bool true):=b0.cell 0
 have c2 : wb.cell? ⟨W.heap.size + 1, 2, none⟩ = some (.i 0):=b0.cell 2
 have c4 : wb.cell? ⟨W.heap.size + 1, 4, none⟩ = some (.i dl):=b0.cell 4
 have k9:=r0.at'.hd.c9
 go_quiet (fail)
 have hbq : Below wb.heap.size wb (wb.drewN nq):=bdrewN (Below.refl _ _) nq
 have r1:=r0.below hbq
 have e1:=e0.below hbq
 have b1:=b0.below hbq
 clear r0 e0 b0 c0 c2 c4 k9 hbq
 generalize wb.drewN nq = w1 at *
 go_upto_region 5 with (fail)
 obtain ⟨Z, y1, y2⟩:=e1
 refine wp_region_lit ?_
 refine RowL.gl Ev.zero.val ?_ (by go_simp; try rfl)
 refine RowL.gSt y2 Ev.zero.cells 36 (.tmp 4) (.tmp 49) ?_ (hsz:=y1) (h1:=ev_one _)
 go_wp2_with fail
 refine bR2 W.heap.size (y2.set _) Tryz.underlying36 ?_
 rw [HR2.out]
 exact (r1.row (Nat.le_refl _) hg1 Ev.zero.cells).fin hB _
theorem q_wake {W : World} {p : Ql} {m : M} (h : QAt W p m) (who : Int) (hI : Mid m) :
  Calls Tryz.prog 17 #[.pointer (some ⟨p.mb, 0, none⟩), .i who] W (QPost W p (.tuple #[(m.wake who).1.1.val, .bool (m.wake who).1.2]) (m.wake who).2):=by
 cases hw : m.has who
 ·exact q_wake_none h who hw
 obtain ⟨n, rfl⟩ : ∃ n : Nat, who = (n : Int):=by
  simp [M.has] at hw
  exact Int.eq_ofNat_of_zero_le hw.1
 have hnl : n < m.ks.length:=by simp [M.has] at hw; omega
 obtain ⟨k, hk⟩ : ∃ k, m.ks[n]? = some k:=⟨_, List.getElem?_eq_getElem hnl⟩
 have hat:=hI.ats _ (List.mem_of_getElem? hk)
 obtain ⟨at0, ⟨op, dl, wt, fo, sl, ge, st⟩, ks0⟩:=k
 by_cases h3 : at0 = 3
 ·subst h3; exact q_wake_told h n op dl wt fo sl ge st ks0 hk hI
 by_cases h2 : at0 = 2
 ·subst h2; exact q_wake_granted h n op dl wt fo sl ge st ks0 hk hI
 by_cases h1 : at0 = 1
 ·subst h1
  by_cases hd : dl ≤ m.now
  ·exact q_wake_late h n op dl wt fo sl ge st ks0 hk hI hd
  ·exact q_wake_soon h n op dl wt fo sl ge st ks0 hk hd
 ·obtain rfl : at0 = 0:=by simp only at hat; omega
  exact q_wake_rest h n op dl wt fo sl ge st ks0 hk
theorem dial_kl (m : M) (i : Nat) (who : Int) : (m.dial i who).2.ks = m.ks ∧ (m.dial i who).2.line = m.line:=by
 unfold M.dial; split <;> exact ⟨rfl, rfl⟩
theorem does_free {m : M} (hl : m.line = []) (he : ∃ s ∈ m.ss, s.state = 0) (who : Int) (a : Ask) : (m.does who a).2.line = [] ∧ (m.does who a).2.ks = m.ks:=by
 have hg : (m.get who a).2.line = [] ∧ (m.get who a).2.ks = m.ks:=by
  unfold M.get
  split
  ·exact ⟨hl, rfl⟩
  split
  ·exact ⟨hl, rfl⟩
  split
  ·exact ⟨hl, rfl⟩
  split
  ·rename_i i _
   have:=dial_kl (m.turn i 0 who 0) i who
   exact ⟨this.2.trans hl, this.1⟩
  ·rename_i hn
   obtain ⟨s, hs, h0⟩:=he
   have:=first_none' hn s hs
   simp [Find.fits, h0] at this
 have hv : ∀ d, (m.give who a d).2.line = [] ∧ (m.give who a d).2.ks = m.ks:=fun d => by
  unfold M.give
  split
  ·exact ⟨hl, rfl⟩
  split
  ·exact ⟨hl, rfl⟩
  ·simp only; split <;> exact ⟨hl, rfl⟩
 unfold M.does
 split
 ·exact hg
 split
 ·exact hv false
 split
 ·exact hv true
 split
 ·unfold M.openS; split
  ·exact ⟨hl, rfl⟩
  split
  ·exact ⟨hl, rfl⟩
  split <;> exact ⟨hl, rfl⟩
 split
 ·unfold M.shutS; split
  ·exact ⟨hl, rfl⟩
  split <;> exact ⟨hl, rfl⟩
 split
 ·exact ⟨hl, rfl⟩
 split
 ·unfold M.close; simp [hl]
 ·exact ⟨hl, rfl⟩
theorem tidy_nil {m : M} (hl : m.line = []) : m.tidy.ks = m.ks:=by
 have h2 : m.sweep.line = []:=hl
 unfold M.tidy M.grant
 split
 ·simp only [h2, M.grantL]; rfl
 ·rfl
theorem new_ask_ks {c : Conf.Cf} (hc : c.right = true) (who : Int) (a : Ask) : ∀ k ∈ ((M.new c).ask who a).2.ks, k.at' = 0:=by
 have hz : ∀ k ∈ (M.new c).ks, k.at' = 0:=fun s hs => by
  have : s = Wk.zero:=by simpa [M.new] using (List.mem_replicate.1 hs).2
  rw [this]; rfl
 have hd:=does_free (m:=M.new c) (by simp [M.new]) (by
  simp [Conf.Cf.right, Conf.btw] at hc
  refine ⟨S.zero, ?_, rfl⟩
  simp [M.new]
  omega) who a
 unfold M.ask
 split
 ·simp only
  split <;> (simp only; rw [tidy_nil hd.1, hd.2]; exact hz)
 ·exact hz
theorem q_wake_zero {W : World} {p : Ql} {m : M} (h : QAt W p m) (hz : ∀ k ∈ m.ks, k.at' = 0) (who : Int) :
  Calls Tryz.prog 17 #[.pointer (some ⟨p.mb, 0, none⟩), .i who] W (QPost W p (.tuple #[(m.wake who).1.1.val, .bool (m.wake who).1.2]) (m.wake who).2):=by
 cases hw : m.has who
 ·exact q_wake_none h who hw
 obtain ⟨n, rfl⟩ : ∃ n : Nat, who = (n : Int):=by
  simp [M.has] at hw
  exact Int.eq_ofNat_of_zero_le hw.1
 have hnl : n < m.ks.length:=by simp [M.has] at hw; omega
 obtain ⟨k, hk⟩ : ∃ k, m.ks[n]? = some k:=⟨_, List.getElem?_eq_getElem hnl⟩
 have hat:=hz _ (List.mem_of_getElem? hk)
 obtain ⟨at0, ⟨op, dl, wt, fo, sl, ge, st⟩, ks0⟩:=k
 simp only at hat
 subst hat
 exact q_wake_rest h n op dl wt fo sl ge st ks0 hk
theorem q_ask {W : World} {p : Ql} {m : M} (h : QAt W p m) (who : Int) (a : Ask) (hI : Busy m) :
  Calls Tryz.prog 15 #[.pointer (some ⟨p.mb, 0, none⟩), .i who, a.val] W (QPost W p (.tuple #[(m.ask who a).1.1.val, .bool (m.ask who a).1.2.1, .bool (m.ask who a).1.2.2]) (m.ask who a).2):=by
 cases hc : m.can who a
 ·have he : m.ask who a = ((Ev.zero, false, false), m):=by unfold M.ask; rw [if_neg (by simp [hc])]
  rw [he]
  exact q_ask_no h who a hc
 ·exact q_ask_can h who a hc hI
theorem new_busy (c : Conf.Cf) : Busy (M.new c):=fun x hx => by simp [M.new] at hx
end Go.Proofs.YtpmkgddjgebojaaGreatDoor.Mod
