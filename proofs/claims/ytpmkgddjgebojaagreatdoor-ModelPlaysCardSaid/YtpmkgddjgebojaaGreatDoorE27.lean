/- Part 27 of the walks and plain laws that the last text joins. -/
import Derived.Test.YtpmkgddjgebojaaGreatDoorE21
set_option maxRecDepth 100000
set_option maxHeartbeats 16000000
set_option linter.unusedVariables false
set_option linter.unusedSimpArgs false
namespace Go.Proofs.YtpmkgddjgebojaaGreatDoor.Mod
open Go.RowKit Hp Slot RowL Life
theorem s_one (x : S) : (x.cells.all fun v => v.oneCell') = true:=by simp [S.cells, Value.oneCell']
theorem bel_row {w1 w : World} (h : Below w1.heap.size w1 w) {g : Nat} (hg : w1.heap.size ≤ g) (cs : Array Value) : Below w1.heap.size w1 (w.setRow g cs) :=
 h.trans ((chg_setRow (F:=fun k => k = g) (Chg.refl _ _) _ _ (fun _ => rfl)).below h.size (fun k e => by omega))
theorem m_shut {W : World} {p : Pl} {m : M} (h : MAt W p m) (who : Int) (a : Ask) :
  Calls Tryz.prog 74 #[.pointer (some ⟨p.mb, 0, none⟩), .i who, a.val] W (MPost W p (m.shutS who a).1.val (m.shutS who a).2):=by
 have hE : ∀ o, m.shutS who a = o → True:=fun _ _ => trivial
 have hR : RowKit.Hid (m.shutS who a = if m.owns who a ≠ 0 then (M.failed (m.owns who a), m) else if (Mod.next (m.slot a.slot.toNat) 15 who a.stream).isSome then ({ Ev.zero with stream:=a.stream }, m.turn a.slot.toNat 15 who a.stream) else (M.failed 11, m)):=rfl
 generalize m.shutS who a = R at *
 have hlt : p.mb < W.heap.size:=h.lt (.inl rfl)
 have hos : RowKit.Hid (m.owns who a = 0 → m.closed ≠ 2 ∧ ∃ (n : Nat) (s : S), a.slot = n ∧ m.ss[n]? = some s ∧ s.state = 3 ∧ s.own = who ∧ s.gen = a.gen):=fun h => owns_zero h
 have how:=fun W (h : MAt W p m) => m_owns h who a
 generalize m.owns who a = q at *
 obtain ⟨op, dl, wt, fo, sl, ge, st⟩:=a
 simp only [Ask.val, Ask.cells] at *
 have hB : Below W.heap.size W ((W.alloc (.cells (Ad op dl wt fo sl ge st) 25)).alloc (.cells ev0 36)):=((Below.refl _ _).alloc (Nat.le_refl _) _).alloc (by simp) _
 have r0 : Re W.heap.size ((W.alloc (.cells (Ad op dl wt fo sl ge st) 25)).alloc (.cells ev0 36)) p ((W.alloc (.cells (Ad op dl wt fo sl ge st) 25)).alloc (.cells ev0 36)) p m:=Re.begin h hB
 have e0 : ERow ((W.alloc (.cells (Ad op dl wt fo sl ge st) 25)).alloc (.cells ev0 36)) (W.heap.size + 1):=⟨ev0, rfl, by have:=RowAt.new (W.alloc (.cells (Ad op dl wt fo sl ge st) 25)) ev0 36; simpa using this⟩
 have hg1 : W.heap.size + 1 < ((W.alloc (.cells (Ad op dl wt fo sl ge st) 25)).alloc (.cells ev0 36)).heap.size:=by simp
 have hg0 : W.heap.size ≤ W.heap.size + 1:=by omega
 have a0 : RowAt ((W.alloc (.cells (Ad op dl wt fo sl ge st) 25)).alloc (.cells ev0 36)) W.heap.size (Ad op dl wt fo sl ge st) 25:=heap_alloc2_old W _ _
 have ho:=how _ r0.at'
 clear how hE
 go_enter Tryz.func74, Tryz.ntmps74
 go_wp2_with fail
 refine ho.mono ?_
 rintro e w1 ⟨rfl, hb1⟩
 have r1:=r0.below hb1
 have e1:=e0.below hb1
 have a1:=a0.below hb1
 clear ho hb1 r0 e0 a0 h
 by_cases hq : q = 0
 rotate_left
 ·have hq' : (q != 0) = true:=by simp [hq]
  have HR2 : RowKit.Hid (R = (M.failed q, m)):=Lib.hid (by rw [hR.out, if_pos hq])
  have hfl:=fun W => failed_any W q
  have hf : M.failed q = { Ev.zero with e:=q }:=rfl
  rw [← hf] at hfl
  generalize M.failed q = x at *
  clear hq hf hR hos a1
  go_wp2_with fail
  refine (hfl _).mono ?_
  rintro e w2 ⟨rfl, hb2⟩
  have r2:=r1.below hb2
  have e2:=e1.below hb2
  have hst:=e2.store x
  have hsz:=ev_size x
  clear hfl hb2 r1 e1
  go_wp2_with fail
  refine bR1 (W.heap.size + 1) (e2.set x) Tryz.underlying36 ?_
  rw [HR2.out]
  exact (r2.row hg0 hg1 x.cells).fin hB _
 have hq' : (q != 0) = false:=by simp [hq]
 obtain ⟨hcl2, n, s, hn, hs, hs3, hso, hsg⟩:=hos.out hq
 try simp only at hn hsg
 subst hn
 have HS:=Lib.hid hs
 have hsl : m.slot n = s:=M.slot_of hs
 have HR:=Lib.hid hR.out
 rw [if_neg (by simp [hq])] at HR
 try simp only [Int.toNat_natCast, hsl] at HR
 have hil : n < m.ss.length:=(List.getElem?_eq_some_iff.1 hs).1
 have hns:=r1.at'.ok.ns
 have b0 : (0 : Int) ≤ (n : Int):=by omega
 have b1 : (n : Int) < (m.ss.length : Int):=by omega
 have b2 : (n : Int) ≤ (m.ss.length : Int) - 1:=by omega
 clear hos hR hq hs hsl hil
 have k5:=r1.at'.hd.c5
 rw [r1.mb, r1.sb] at k5
 have kA : w1.cell? ⟨W.heap.size, 4, none⟩ = some (.i n):=a1.cell 4
 have hd:=r1.at'.slots.get HS.out
 rw [r1.sb] at hd
 obtain ⟨s0, s1, s2, s3, s4, s5, s6, s7, s8⟩:=s
 try simp only at hs3 hso hsg HR hd
 have HS3:=Lib.hid hs3
 have HSO:=Lib.hid hso
 have HSG:=Lib.hid hsg
 clear hs3 hso hsg
 obtain ⟨d0, d1, d2, d3, d4, d5, d6, d7, d8⟩:=hd
 have L5 : ∀ w', Below w1.heap.size w1 w' → w'.cell? ⟨p.mb, 5, none⟩ = some (.slice (some ⟨p.sb, 0, none⟩) m.ss.length m.ss.length):=fun w' h => Field.bkeep h k5
 have LA : ∀ w', Below w1.heap.size w1 w' → w'.cell? ⟨W.heap.size, 4, none⟩ = some (.i n):=fun w' h => Field.bkeep h kA
 have Ls0 : ∀ w', Below w1.heap.size w1 w' → w'.cell? ⟨p.sb, n * 9, none⟩ = some (.i s0):=fun w' h => Field.bkeep h d0
 have Ls1 : ∀ w', Below w1.heap.size w1 w' → w'.cell? ⟨p.sb, n * 9 + 1, none⟩ = some (.i s1):=fun w' h => Field.bkeep h d1
 have Ls2 : ∀ w', Below w1.heap.size w1 w' → w'.cell? ⟨p.sb, n * 9 + 2, none⟩ = some (.i s2):=fun w' h => Field.bkeep h d2
 have Ls3 : ∀ w', Below w1.heap.size w1 w' → w'.cell? ⟨p.sb, n * 9 + 3, none⟩ = some (.bool s3):=fun w' h => Field.bkeep h d3
 have Ls4 : ∀ w', Below w1.heap.size w1 w' → w'.cell? ⟨p.sb, n * 9 + 4, none⟩ = some (.bool s4):=fun w' h => Field.bkeep h d4
 have Ls5 : ∀ w', Below w1.heap.size w1 w' → w'.cell? ⟨p.sb, n * 9 + 5, none⟩ = some (.i s5):=fun w' h => Field.bkeep h d5
 have Ls6 : ∀ w', Below w1.heap.size w1 w' → w'.cell? ⟨p.sb, n * 9 + 6, none⟩ = some (.i s6):=fun w' h => Field.bkeep h d6
 have Ls7 : ∀ w', Below w1.heap.size w1 w' → w'.cell? ⟨p.sb, n * 9 + 7, none⟩ = some (.i s7):=fun w' h => Field.bkeep h d7
 have Ls8 : ∀ w', Below w1.heap.size w1 w' → w'.cell? ⟨p.sb, n * 9 + 8, none⟩ = some (.i s8):=fun w' h => Field.bkeep h d8
 have hKd : Below w1.heap.size w1 w1.drew:=(Below.refl _ _).drew
 clear d0 d1 d2 d3 d4 d5 d6 d7 d8 kA k5
 have LT : ∀ w', Below w1.heap.size w1 w' → w'.cell? ⟨W.heap.size, 6, none⟩ = some (.i st):=fun w' h => Field.bkeep h (a1.cell 6)
 have hnx0:=fun w' (h : Below w1.heap.size w1 w') => life_next w' _ 15 15 who st (by simp [Done]) rfl (r1.at'.ok.rights _ (List.mem_of_getElem? HS.out)) (r1.below h).at'.laid
 have HR:=HR
 generalize hokb : (Mod.next ⟨s0, s1, s2, s3, s4, s5, s6, s7, s8⟩ 15 who st).isSome = okb at *
 generalize (Mod.next ⟨s0, s1, s2, s3, s4, s5, s6, s7, s8⟩ 15 who st).getD S.zero = rS at *
 have hnx : ∀ w', Below w1.heap.size w1 w' → Calls Tryz.prog 94 #[.agg (Ac s0 s1 s2 s3 s4 s5 s6 s7 s8), .i 15, .i who, .i st] w' fun e W' => e = .returned (.tuple #[.agg (S.cells rS), .bool okb]) ∧ Below w'.heap.size w' W':=hnx0
 clear hnx0 hokb
 go_upto_region 4 with (fail)
 go_cut [9] (fun s9 wx => s9 = .bool okb ∧ Below w1.heap.size w1 wx)
 case first =>
  refine wp_region_held_drew (S:=fun w' => Below w1.heap.size w1 w') (by kernel_rfl) (by exact hKd) (fun hHeld => ?_)
  refine tKw (gd:=none) 0 19 (.move (.tmp 0)) ((.pointer (some ⟨p.mb, 0, none⟩))) (run_move_of (.tmp 0) (.pointer (some ⟨p.mb, 0, none⟩)) (by kernel_rfl)) hHeld ?_
  try simp only [Act.put, sA, sZ, sS]
  refine tKg 1 20 hHeld ?_
  try simp only [Act.put, sA, sZ, sS]
  refine tKg 2 21 hHeld ?_
  try simp only [Act.put, sA, sZ, sS]
  refine tKg 3 22 hHeld ?_
  try simp only [Act.put, sA, sZ, sS]
  refine tKg 4 23 hHeld ?_
  try simp only [Act.put, sA, sZ, sS]
  refine tKg 5 24 hHeld ?_
  try simp only [Act.put, sA, sZ, sS]
  refine tKg 6 25 hHeld ?_
  try simp only [Act.put, sA, sZ, sS]
  refine tKg 7 26 hHeld ?_
  try simp only [Act.put, sA, sZ, sS]
  refine tKw (gd:=none) 8 27 (.move (.tmp 1)) ((.i who)) (run_move_of (.tmp 1) (.i who) (by kernel_rfl)) hHeld ?_
  try simp only [Act.put, sA, sZ, sS]
  refine tKg 9 28 hHeld ?_
  try simp only [Act.put, sA, sZ, sS]
  refine tKg 10 29 hHeld ?_
  try simp only [Act.put, sA, sZ, sS]
  refine ready2 (i:=11) (k:=15) (by kernel_rfl) ?_ ?_
  ·have : True:=trivial
   refine step_call 94 #[.tmp 26, .const (.i 15), .tmp 27, .tmp 29] #[59, 3, 3, 3] (some 30) none (by kernel_rfl) (by kernel_rfl) #[.agg (Ac s0 s1 s2 s3 s4 s5 s6 s7 s8), .i 15, .i who, .i st] (by kernel_rfl) (enters_of Tryz.func94 (by kernel_rfl) rfl) ?_
   refine (hnx _ hHeld).mono ?_
   rintro e w5 ⟨rfl, hb5⟩
   refine ⟨_, rfl, bel_step hHeld hb5, fun hS5 => ?_⟩
   try simp only [Act.put, sA, sZ, sS]
   refine tKw (gd:=none) 12 18 (.move (.tmp 30)) ((.tuple #[.agg (S.cells rS), .bool okb])) (run_move_of (.tmp 30) (.tuple #[.agg (S.cells rS), .bool okb]) (by kernel_rfl)) hS5 ?_
   try simp only [Act.put, sA, sZ, sS]
   refine tKg 13 31 hS5 ?_
   try simp only [Act.put, sA, sZ, sS]
   refine tKg 14 32 hS5 ?_
   try simp only [Act.put, sA, sZ, sS]
   refine ready1 (i:=15) (by kernel_rfl) ?_
   refine step_run (w':=w5.alloc (.cells Zs 59)) (some 8) (.pointer (some ⟨w5.heap.size, 0, none⟩)) (by kernel_rfl) (by kernel_rfl) (by go_simp; try rfl) (bel_alloc hS5 _) (fun hSA => ?_)
   try simp only [Act.put, sA, sZ, sS]
   refine ready1 (i:=16) (by kernel_rfl) ?_
   refine step_store_row 59 (.tmp 8) (.tmp 31) (by kernel_rfl) (w5.heap.size) _ Zs (S.cells rS) (by kernel_rfl) (by kernel_rfl) (RowAt.new w5 Zs 59) rfl (by kernel_rfl) (s_one rS) (bel_row hSA hS5.size _) (fun hSZ => ?_)
   try simp only [Act.put, sA, sZ, sS]
   refine tKw (gd:=none) 17 9 (.assign (.tmp 32)) ((.bool okb)) (run_assign_of (.tmp 32) (.bool okb) (by kernel_rfl)) hSZ ?_
   try simp only [Act.put, sA, sZ, sS]
   refine wpAnyH_done (by kernel_rfl) ?_ _
   go_wp2_with fail
   go_meet
   exact ⟨rfl, hSZ⟩
  ·have : True:=trivial
   refine step_run (w':=w1.drew.alloc (.cells Zs 59)) (some 8) (.pointer (some ⟨w1.drew.heap.size, 0, none⟩)) (by kernel_rfl) (by kernel_rfl) (by go_simp; try rfl) (bel_alloc hHeld _) (fun hSA => ?_)
   try simp only [Act.put, sA, sZ, sS]
   refine ready1 (i:=11) (by kernel_rfl) ?_
   refine step_call 94 #[.tmp 26, .const (.i 15), .tmp 27, .tmp 29] #[59, 3, 3, 3] (some 30) none (by kernel_rfl) (by kernel_rfl) #[.agg (Ac s0 s1 s2 s3 s4 s5 s6 s7 s8), .i 15, .i who, .i st] (by kernel_rfl) (enters_of Tryz.func94 (by kernel_rfl) rfl) ?_
   refine (hnx _ hSA).mono ?_
   rintro e w5 ⟨rfl, hb5⟩
   refine ⟨_, rfl, bel_step hSA hb5, fun hS5 => ?_⟩
   try simp only [Act.put, sA, sZ, sS]
   refine tKw (gd:=none) 12 18 (.move (.tmp 30)) ((.tuple #[.agg (S.cells rS), .bool okb])) (run_move_of (.tmp 30) (.tuple #[.agg (S.cells rS), .bool okb]) (by kernel_rfl)) hS5 ?_
   try simp only [Act.put, sA, sZ, sS]
   refine tKg 13 31 hS5 ?_
   try simp only [Act.put, sA, sZ, sS]
   refine tKg 14 32 hS5 ?_
   try simp only [Act.put, sA, sZ, sS]
   refine ready1 (i:=16) (by kernel_rfl) ?_
   refine step_store_row 59 (.tmp 8) (.tmp 31) (by kernel_rfl) (w1.heap.size) _ Zs (S.cells rS) (by kernel_rfl) (by kernel_rfl) ((RowAt.new w1.drew Zs 59).below hb5) rfl (by kernel_rfl) (s_one rS) (bel_row hS5 (Nat.le_refl _) _) (fun hSZ => ?_)
   try simp only [Act.put, sA, sZ, sS]
   refine tKw (gd:=none) 17 9 (.assign (.tmp 32)) ((.bool okb)) (run_assign_of (.tmp 32) (.bool okb) (by kernel_rfl)) hSZ ?_
   try simp only [Act.put, sA, sZ, sS]
   refine wpAnyH_done (by kernel_rfl) ?_ _
   go_wp2_with fail
   go_meet
   exact ⟨rfl, hSZ⟩
 case rest =>
  obtain ⟨rfl, hb2⟩:=hcut
  have r2:=r1.below hb2
  have e2:=e1.below hb2
  have a2:=a1.below hb2
  clear L5 LA LT hnx hKd b0 b1 b2 r1 e1 a1 hb2 Ls0 Ls1 Ls2 Ls3 Ls4 Ls5 Ls6 Ls7 Ls8
  cases okb
  ·have HR2 : RowKit.Hid (R = (M.failed 11, m)):=Lib.hid (by rw [HR.out]; simp)
   clear HR
   have hfl:=fun W => failed_any W 11
   have hf : M.failed 11 = { Ev.zero with e:=11 }:=rfl
   rw [← hf] at hfl
   generalize M.failed 11 = x at *
   clear hf
   go_wp2_with fail
   refine (hfl _).mono ?_
   rintro e w3 ⟨rfl, hb3⟩
   have r3:=r2.below hb3
   have e3:=e2.below hb3
   have hst:=e3.store x
   have hsz:=ev_size x
   clear hfl hb3
   go_wp2_with fail
   refine bR1 (W.heap.size + 1) (e3.set x) Tryz.underlying36 ?_
   rw [HR2.out]
   exact (r3.row hg0 hg1 x.cells).fin hB _
  ·have HR2 : RowKit.Hid (R = ({ Ev.zero with stream:=st }, m.turn n 15 who st)):=Lib.hid (by rw [HR.out]; simp)
   clear HR
   have kA : _ = some (Value.int .i64 n):=a2.cell 4
   have kT : _ = some (Value.int .i64 st):=a2.cell 6
   have ht:=m_turn' r2.at' n 15 n 15 who st _ HS.out rfl rfl (by simp [Done])
   rw [r2.mb] at ht
   go_wp2_with fail
   refine ht.mono ?_
   rintro e w4 ⟨rfl, h4, hc4⟩
   have r4:=r2.slots h4 hc4
   have e4:=e2.chg hc4 (fun e => r2.not hg0 hg1 (.inr (.inl e)))
   have a4:=a2.chg hc4 (fun e => r2.not (Nat.le_refl _) (by omega) (.inr (.inl e)))
   have kT : w4.cell? ⟨W.heap.size, 6, none⟩ = some (.i st):=a4.cell 6
   clear ht h4 hc4 r2 e2 a2 kA
   go_upto_region 8 with (fail)
   obtain ⟨Z, z1, z2⟩:=e4
   refine wp_region_lit ?_
   refine RowL.gl (.pointer (some ⟨W.heap.size, 6, none⟩)) ?_ (by go_simp; try rfl)
   refine RowL.gl (.i st) ?_ (by go_simp; try rfl)
   refine RowL.gl (({ Ev.zero with stream:=st } : Ev)).val ?_ (by go_simp; try rfl)
   refine RowL.gSt z2 (({ Ev.zero with stream:=st } : Ev)).cells 36 (.tmp 6) (.tmp 45) ?_ (hsz:=z1) (h1:=ev_one _)
   go_wp2_with fail
   refine bR1 (W.heap.size + 1) (z2.set _) Tryz.underlying36 ?_
   rw [HR2.out]
   exact (r4.row hg0 hg1 _).fin hB _
theorem dial_cf (m : M) (i : Nat) (who : Int) : (m.dial i who).2.cf = m.cf := by unfold M.dial; split <;> rfl
theorem take_cf (m : M) (i : Nat) (who : Int) : (m.take who i).2.cf = m.cf := by
  unfold M.take
  try simp only
  repeat' split
  all_goals (first | rfl | simp [M.empty, M.turn, dial_cf])
theorem rest_cf (m : M) (who : Int) : (m.rest who).cf = m.cf := rfl
theorem wake_cf (m : M) (who : Int) : (m.wake who).2.cf = m.cf := by
  unfold M.wake
  try simp only
  repeat' split
  all_goals (first | rfl | (rw [tidy_cf]; first | rfl | (rw [rest_cf, take_cf])))
theorem get_cf (m : M) (who : Int) (a : Ask) : (m.get who a).2.cf = m.cf := by
  unfold M.get
  try simp only
  repeat' split
  all_goals (first | rfl | (simp only [dial_cf]; rfl))
theorem give_cf (m : M) (who : Int) (a : Ask) (d : Bool) : (m.give who a d).2.cf = m.cf := by
  unfold M.give
  try simp only
  repeat' split
  all_goals rfl
theorem openS_cf (m : M) (who : Int) (a : Ask) : (m.openS who a).2.cf = m.cf := by
  unfold M.openS
  repeat' split
  all_goals rfl
theorem shutS_cf (m : M) (who : Int) (a : Ask) : (m.shutS who a).2.cf = m.cf := by
  unfold M.shutS
  repeat' split
  all_goals rfl
theorem does_cf (m : M) (who : Int) (a : Ask) : (m.does who a).2.cf = m.cf := by
  unfold M.does
  repeat' split
  all_goals (first | rfl | exact get_cf _ _ _ | exact give_cf _ _ _ _ | exact openS_cf _ _ _ | exact shutS_cf _ _ _)
theorem ask_cf (m : M) (who : Int) (a : Ask) : (m.ask who a).2.cf = m.cf := by
  unfold M.ask
  try simp only
  repeat' split
  all_goals (first | rfl | (rw [tidy_cf, does_cf]))
theorem entry_cf (m : M) (x : En) : (m.entry x).2.cf = m.cf := by
  unfold M.entry
  split
  · exact ask_cf _ _ _
  split
  · exact wake_cf _ _
  split
  · rfl
  split
  · show (m.feed x.good).2.cf = m.cf
    unfold M.feed; split <;> rfl
  split
  · show (m.break' x.ask.slot).2.cf = m.cf
    unfold M.break'; split <;> rfl
  · rfl
theorem Played.cf {c : Conf.Cf} {n : Nat} {m : M} {evs : List Ev} (h : Played c n m evs) : m.cf = c := by
  induction h with
  | new => rfl
  | step h x hx ih => rw [entry_cf, ih]
theorem has_lt {m : M} {n : Nat} (h : n < m.ks.length) : m.has (n : Int) = true := by simp [M.has]; omega
theorem wake_of {m : M} {n : Nat} {k : Wk} (hk : m.ks[n]? = some k) : m.wake n =
    if k.at' = 3 then ((M.answered (M.failed 5) n k.ask, true), (m.rest n).tidy)
    else if k.at' = 2 then ((M.answered (m.take n k.slot.toNat).1 n k.ask, true), ((m.take n k.slot.toNat).2.rest n).tidy)
    else if k.at' = 1 ∧ k.ask.deadline ≤ m.now then ((M.answered (M.failed 4) n k.ask, true), ({ m with line := m.line.filter (fun o => o != (n : Int)) }.rest n).tidy)
    else ((Ev.zero, false), m) := by
  unfold M.wake
  rw [if_neg (by simp [has_lt (List.getElem?_eq_some_iff.1 hk).1])]
  simp only [worker_of hk]
theorem took_of {m : M} (h : Mid m) {n : Nat} {k : Wk} (hk : m.ks[n]? = some k) (h2 : k.at' = 2) :
    ∃ (i : Nat) (s t : S) (a : List Bool), k.slot = (i : Int) ∧ m.ss[i]? = some s ∧ (s.state = 4 ∨ s.state = 5) ∧ s.own = (n : Int) ∧ t.right = true ∧ (m.take n k.slot.toNat).2 = { m with ss := m.ss.set i t, ahead := a } ∧
      ((m.closed = 0 ∧ t.state = 3 ∧ t.own = (n : Int) ∧ t.gen = (s.gen + 1) % 4096 ∧ (m.take n k.slot.toNat).1 = { Ev.zero with slot := (i : Int), gen := t.gen }) ∨
       (t.state = 0 ∧ (t.gen = s.gen ∨ t.gen = (s.gen + 1) % 4096) ∧ (((m.take n k.slot.toNat).1 = M.failed 5 ∧ m.closed ≠ 0) ∨ (m.take n k.slot.toNat).1 = M.failed 6))) := by
  obtain ⟨i, s, e1, hi, h45, hw, hrt, hn9⟩ := h.granted hk h2
  obtain ⟨t, a, t1, t2, t3⟩ := take_view hi hrt hn9 h45 hw
  rw [e1, Int.toNat_natCast]
  exact ⟨i, s, t, a, rfl, hi, h45, hw, t1, t2, t3⟩
end Go.Proofs.YtpmkgddjgebojaaGreatDoor.Mod
namespace Go.Proofs.YtpmkgddjgebojaaGreatDoor.Mod
open Go.RowKit Hp Slot RowL Life R8
def firstInt (o : Option Nat) : Int:=match o with | some i => i | none => -1
theorem qfirst_any (W : World) (mb sb : Nat) (ss : List S) (kind own : Int) (hk : kind = 0 ∨ kind = 1 ∨ kind = 2 ∨ kind = 3 ∨ kind = 4 ∨ kind = 6) (hm : Hdr W mb sb ss.length) (hs : SlotsAt W sb ss) (hn : 1 ≤ ss.length ∧ ss.length ≤ 1000) :
  Calls Tryz.prog 84 #[.pointer (some ⟨mb, 0, none⟩), .i kind, .i own] W fun e W' => e = .returned (.i (firstInt (firstAt kind own ss))) ∧ Below W.heap.size W W':=by
 unfold Hdr at hm
 have hlm : mb < W.heap.size:=World.block_lt_of_cell? _ _ hm
 have hls : sb < W.heap.size:=hs.lt hn.1
 have HK:=Lib.hid hk
 have HS:=Lib.hid hs
 have HM:=Lib.hid hm
 obtain ⟨n1, n2⟩:=hn
 clear hk hs hm
 go_enter Tryz.func84, Tryz.ntmps84
 go_wp2_with fail
 go_loopw [7] (fun iv wr => ∃ w', w' = wr ∧ ∃ i : Nat, i ≤ ss.length ∧ iv = .i i ∧ (∀ (j : Nat) (s : S), j < i → ss[j]? = some s → Find.fits s kind own = false) ∧ Below W.heap.size W w') (fun iv _ => ss.length - (intOf iv).toNat)
 case atStart => exact ⟨_, rfl, 0, by omega, rfl, fun j s hj => absurd hj (by omega), Below.refl _ _⟩
 case round =>
  obtain ⟨wr2, rfl, i, hi, rfl, hno, hb⟩:=hrel
  have hm : wr2.cell? ⟨mb, 5, none⟩ = some (.slice (some ⟨sb, 0, none⟩) ss.length ss.length):=(hb.cell hlm).trans HM.out
  have HN:=Lib.hid hno
  have i0 : (0 : Int) ≤ (i : Int):=by omega
  clear hno
  by_cases hlt : i < ss.length
  ·obtain ⟨s, hsi⟩ : ∃ s, ss[i]? = some s:=⟨_, List.getElem?_eq_getElem hlt⟩
   obtain ⟨c0, c1, c2, c3, c4, c5, c6, c7, c8⟩:=(HS.out.stable (hb.block sb hls)).get hsi
   have i1 : (i : Int) < (ss.length : Int):=by omega
   have i2 : (i : Int) ≤ (ss.length : Int) - 1:=by omega
   have hf:=fun w => Find.ref_fits w s kind own HK.out
   have HI:=Lib.hid hsi
   have HB:=Lib.hid hb
   cases hfb : Find.fits s kind own with
   | true =>
    rw [hfb] at hf
    have HF:=Lib.hid hfb
    clear hfb hsi hb
    go_wp2_with fail
    refine (hf _).mono ?_
    rintro e w5 ⟨rfl, hb5⟩
    have HB5:=Lib.hid hb5
    clear hb5 hf c0 c1 c2 c3 c4 c5 c6 c7 c8
    go_wp2_with fail
    go_ret
    exact ⟨Base.ret_int (by rw [firstAt_some kind own ss i ⟨s, HI.out, HF.out⟩ HN.out]; rfl), HB.out.trans (HB5.out.mono HB.out.size)⟩
   | false =>
    rw [hfb] at hf
    have HF:=Lib.hid hfb
    clear hfb hsi hb
    go_wp2_with fail
    refine (hf _).mono ?_
    rintro e w5 ⟨rfl, hb5⟩
    have HB5:=Lib.hid hb5
    clear hb5 hf c0 c1 c2 c3 c4 c5 c6 c7 c8
    go_wp2_with fail
    go_round
    case rel => exact ⟨_, rfl, i + 1, by omega, rfl, fun j t hj ht => by
     by_cases hji : j = i
     ·subst hji
      rw [HI.out] at ht
      cases ht
      exact HF.out
     ·exact HN.out j t (by omega) ht, HB.out.trans (HB5.out.mono HB.out.size)⟩
    case measure => simp [intOf] <;> omega
  ·obtain rfl : i = ss.length:=by omega
   have i1 : ¬ ((ss.length : Nat) : Int) < (ss.length : Int):=by omega
   have HB:=Lib.hid hb
   clear hb
   go_wp2_with fail
   go_ret
   exact ⟨Base.ret_int (by rw [firstAt_none kind own ss (fun j s hj => HN.out j s ((List.getElem?_eq_some_iff.1 hj).1) hj)]; rfl), HB.out⟩
section
variable {W : World} {p : Ql} {m : M}
theorem q_first (h : QAt W p m) (kind own : Int) (hk : kind = 0 ∨ kind = 1 ∨ kind = 2 ∨ kind = 3 ∨ kind = 4 ∨ kind = 6) :
  Calls Tryz.prog 84 #[.pointer (some ⟨p.mb, 0, none⟩), .i kind, .i own] W fun e W' => e = .returned (.i (firstInt (m.first kind own))) ∧ Below W.heap.size W W' :=
 qfirst_any W p.mb p.sb m.ss kind own hk h.hdr h.slots (by have:=h.ok.ns; omega)
theorem told_any (w : World) (x : Ev) (who : Int) (a : Ask) : Calls Tryz.prog 47 #[x.val, .i who, a.val] w fun e w' => e = .returned ({ M.answered x who a with at':=x.at' } : Ev).val ∧ Below w.heap.size w w':=by
 obtain ⟨x0, x1, x2, ⟨y0, y1, y2, y3, y4, y5, y6⟩, x4, x5, x6, x7, x8, x9, x10, x11⟩:=x
 obtain ⟨a0, a1, a2, a3, a4, a5, a6⟩:=a
 simp only [Ev.val, Ev.cells, Ask.val, Ask.cells]
 go_enter Tryz.func47, Tryz.ntmps47
 go_upto_region 4 with (fail)
 have hA : Below w.heap.size w (((w.alloc (.cells (Ah true who x2 a0 a1 a2 a3 a4 a5 a6 x4 x5 x6 x7 x8 x9 x10 x11) 36)).alloc (.cells (Ad a0 a1 a2 a3 a4 a5 a6) 25)).alloc (.cells Zv 36)):=(((Below.refl _ _).alloc (Nat.le_refl _) _).alloc (by simp) _).alloc (by simp; omega) _
 have ra : RowAt (((w.alloc (.cells (Ah true who x2 a0 a1 a2 a3 a4 a5 a6 x4 x5 x6 x7 x8 x9 x10 x11) 36)).alloc (.cells (Ad a0 a1 a2 a3 a4 a5 a6) 25)).alloc (.cells Zv 36)) w.heap.size (Ah true who x2 a0 a1 a2 a3 a4 a5 a6 x4 x5 x6 x7 x8 x9 x10 x11) 36:=by rw [RowAt, Below.heap_alloc _ _ _ (by simp; omega)]; exact heap_alloc2_old w _ _
 have rb : RowAt (((w.alloc (.cells (Ah true who x2 a0 a1 a2 a3 a4 a5 a6 x4 x5 x6 x7 x8 x9 x10 x11) 36)).alloc (.cells (Ad a0 a1 a2 a3 a4 a5 a6) 25)).alloc (.cells Zv 36)) (w.heap.size + 1 + 1) Zv 36:=by have:=heap_alloc_new ((w.alloc (.cells (Ah true who x2 a0 a1 a2 a3 a4 a5 a6 x4 x5 x6 x7 x8 x9 x10 x11) 36)).alloc (.cells (Ad a0 a1 a2 a3 a4 a5 a6) 25)) (.cells Zv 36); simpa [RowAt] using this
 generalize (((w.alloc (.cells (Ah true who x2 a0 a1 a2 a3 a4 a5 a6 x4 x5 x6 x7 x8 x9 x10 x11) 36)).alloc (.cells (Ad a0 a1 a2 a3 a4 a5 a6) 25)).alloc (.cells Zv 36)) = wa at *
 refine wp_region_lit ?_
 refine RowL.grow ra 36 (.tmp 3) Tryz.underlying36 ?_
 refine RowL.gSt rb (Ah true who x2 a0 a1 a2 a3 a4 a5 a6 x4 x5 x6 x7 x8 x9 x10 x11) 36 (.tmp 6) (.tmp 12) ?_
 have q5:=rb.set (Ah true who x2 a0 a1 a2 a3 a4 a5 a6 x4 x5 x6 x7 x8 x9 x10 x11)
 have hb5:=below_setRow hA (g:=w.heap.size + 1 + 1) (by omega) (Ah true who x2 a0 a1 a2 a3 a4 a5 a6 x4 x5 x6 x7 x8 x9 x10 x11)
 clear ra rb hA
 go_wp2_with fail
 refine bR1 (w.heap.size + 1 + 1) q5 Tryz.underlying36 ?_
 exact ⟨rfl, hb5⟩
def M.hasL (m : M) (who : Int) (a : Ask) : Bool:=decide (0 ≤ a.slot ∧ a.slot < m.ss.length) && (((m.slot a.slot.toNat).state == 3 && (m.slot a.slot.toNat).own == who) && (m.slot a.slot.toNat).gen == a.gen)
theorem owns_has (m : M) (who : Int) (a : Ask) : m.owns who a = if m.closed = 2 then 5 else if m.hasL who a then 0 else 2:=by
 unfold M.owns M.hasL
 split
 ·rfl
 split
 ·rename_i h
  rw [if_neg (by simp; omega)]
 split
 ·rename_i h1 h2
  rw [if_neg (by simp; omega)]
 ·rename_i h1 h2
  rw [if_pos (by simp; omega)]
theorem q_has (h : QAt W p m) (who : Int) (a : Ask) : Calls Tryz.prog 86 #[.pointer (some ⟨p.mb, 0, none⟩), .i who, a.val] W fun e W' => e = .returned (.bool (m.hasL who a)) ∧ Below W.heap.size W W':=by
 have hm:=h.hd.c5
 have hlm : p.mb < W.heap.size:=World.block_lt_of_cell? _ _ hm
 have hns:=h.ok.ns
 have hls : p.sb < W.heap.size:=h.slots.lt hns.1
 have HS:=Lib.hid h.slots
 have hH : m.hasL who a = (decide (0 ≤ a.slot ∧ a.slot < m.ss.length) && (((m.slot a.slot.toNat).state == 3 && (m.slot a.slot.toNat).own == who) && (m.slot a.slot.toNat).gen == a.gen)):=rfl
 have HH:=Lib.hid hH
 obtain ⟨a0, a1, a2, a3, a4, a5, a6⟩:=a
 clear hH h
 simp only at HH
 have hb1 : Below W.heap.size W (W.alloc (.cells (Ad a0 a1 a2 a3 a4 a5 a6) 25)):=(Below.refl _ _).alloc (Nat.le_refl _) _
 have hm1:=(hb1.cell (p:=⟨p.mb, 5, none⟩) hlm).trans hm
 simp only [Ask.val, Ask.cells]
 go_enter Tryz.func86, Tryz.ntmps86
 by_cases h0 : a4 < 0
 ·go_wp2_with fail
  go_quiet (fail)
  go_wp2_with fail
  go_ret
  exact ⟨Base.ret_bool (by rw [HH.out]; simp; omega), bdrewN hb1 _⟩
 by_cases h1 : (m.ss.length : Int) ≤ a4
 ·go_wp2_with fail
  go_quiet (fail)
  go_wp2_with fail
  go_ret
  exact ⟨Base.ret_bool (by rw [HH.out]; simp; omega), bdrewN hb1 _⟩
 obtain ⟨i, rfl⟩ : ∃ i : Nat, a4 = (i : Int):=⟨a4.toNat, by omega⟩
 have hil : i < m.ss.length:=by omega
 have h2 : (i : Int) < m.ss.length:=by omega
 have h3 : (i : Int) ≤ (m.ss.length : Int) - 1:=by omega
 have h4 : (0 : Int) ≤ (i : Int):=by omega
 go_wp2_with fail
 go_quiet (fail)
 go_upto_region 3 with (fail)
 have rA : RowAt ((W.alloc (.cells (Ad a0 a1 a2 a3 (i : Int) a5 a6) 25)).drewN nq) W.heap.size (Ad a0 a1 a2 a3 (i : Int) a5 a6) 25:=RowAt.new W (Ad a0 a1 a2 a3 (i : Int) a5 a6) 25
 have hbq:=bdrewN hb1 nq
 generalize (W.alloc (.cells (Ad a0 a1 a2 a3 (i : Int) a5 a6) 25)).drewN nq = wq at *
 have hm2 : wq.cell? ⟨p.mb, 5, none⟩ = some (.slice (some ⟨p.sb, 0, none⟩) m.ss.length m.ss.length):=(hbq.cell hlm).trans hm
 have d4 : wq.cell? ⟨W.heap.size, 4, none⟩ = some (.i (i : Int)):=rA.cell 4
 have d5 : wq.cell? ⟨W.heap.size, 5, none⟩ = some (.i a5):=rA.cell 5
 obtain ⟨s, hsi⟩ : ∃ s, m.ss[i]? = some s:=⟨_, List.getElem?_eq_getElem hil⟩
 have hcs:=(HS.out.stable (hbq.block p.sb hls)).get hsi
 have HSI:=Lib.hid hsi
 have hmq : p.mb < wq.heap.size:=Nat.lt_of_lt_of_le hlm hbq.size
 have hsq : p.sb < wq.heap.size:=Nat.lt_of_lt_of_le hls hbq.size
 have hltq : W.heap.size < wq.heap.size:=rA.lt
 obtain ⟨s0, s1, s2, s3, s4, s5, s6, s7, s8⟩:=s
 simp only at hcs
 obtain ⟨c0, c1, c2, c3, c4, c5, c6, c7, c8⟩:=hcs
 have hres : m.hasL who ⟨a0, a1, a2, a3, (i : Int), a5, a6⟩ = ((s0 == 3 && s1 == who) && s6 == a5):=by
  rw [HH.out, Int.toNat_natCast, M.slot_of HSI.out]
  simp [hil]
 have HR:=Lib.hid hres
 have hB9:=hbq
 clear hm hm1 hsi hb1 hbq rA hres HH
 have HB:=Lib.hid hB9
 clear hB9 hlm hls
 by_cases q0 : s0 = 3
 ·have p0 : (s0 == 3) = true:=by simpa using q0
  clear q0
  by_cases q1 : s1 = who
  ·have p1 : (s1 == who) = true:=by simpa using q1
   clear q1
   go_region
   go_wp2_with fail
   go_ret
   exact ⟨Base.ret_bool (by rw [HR.out]; simp [p0, p1]), (HB.out.alloc HB.out.size _).drew⟩
  ·have p1 : (s1 == who) = false:=by simpa using q1
   clear q1
   go_region
   go_wp2_with fail
   go_ret
   exact ⟨Base.ret_bool (by rw [HR.out]; simp [p0, p1]), (HB.out.alloc HB.out.size _).drew⟩
 ·have p0 : (s0 == 3) = false:=by simpa using q0
  clear q0
  go_region
  go_wp2_with fail
  go_ret
  exact ⟨Base.ret_bool (by rw [HR.out]; simp [p0]), (HB.out.alloc HB.out.size _).drew⟩
end
theorem SlotsAt.drewN' {w : World} {b : Nat} {l : List S} (h : SlotsAt w b l) (n : Nat) : SlotsAt (w.drewN n) b l:=h.stable rfl
theorem alike_any {w : World} {q : Ql} {m : M} (h : QAt w q m) (g1 c1 : Nat) (a2 : Option Addr) (c2 : Nat) (h1 : SlotsAt w g1 m.ss) (h2 : SliceAt w (.slice a2 m.line.length c2) (m.line.map (Value.int .i64))) :
  Calls Tryz.prog 18 #[.agg #[.slice (some ⟨g1, 0, none⟩) m.ss.length c1, .slice a2 m.line.length c2, .i m.closed], .pointer (some ⟨q.mb, 0, none⟩)] w fun e w' => e = .returned (.bool true) ∧ Below w.heap.size w w':=by
 have hB : Below w.heap.size w (w.alloc (.cells #[.slice (some ⟨g1, 0, none⟩) m.ss.length c1, .slice a2 m.line.length c2, .i m.closed] 45)):=(Below.refl _ _).alloc (Nat.le_refl _) _
 have hA:=h.below hB
 have row:=RowAt.new w #[.slice (some ⟨g1, 0, none⟩) m.ss.length c1, .slice a2 m.line.length c2, .i m.closed] 45
 have hs1 : SlotsAt (w.alloc (.cells #[.slice (some ⟨g1, 0, none⟩) m.ss.length c1, .slice a2 m.line.length c2, .i m.closed] 45)) g1 m.ss:=h1.stable (hB.block _ (h1.lt h.ok.ns.1))
 have hs2:=h2.below hB
 have hxb : w.heap.size < (w.alloc (.cells #[.slice (some ⟨g1, 0, none⟩) m.ss.length c1, .slice a2 m.line.length c2, .i m.closed] 45)).heap.size:=by simp
 have hlt : q.mb < w.heap.size:=h.lt (.inl rfl)
 clear h h1 h2
 go_enter Tryz.func18, Tryz.ntmps18
 go_upto_region 1 with (fail)
 generalize w.alloc (.cells #[.slice (some ⟨g1, 0, none⟩) m.ss.length c1, .slice a2 m.line.length c2, .i m.closed] 45) = wb at *
 have v0:=row.cell 0
 have v1:=row.cell 1
 have v2:=row.cell 2
 have k5:=hA.hd.c5
 have k7:=hA.hd.c7
 have k8:=hA.hd.c8
 have HS:=Lib.hid (fun n => same_any (wb.drewN n) g1 q.sb m.ss.length m.ss.length c1 m.ss.length m.ss m.ss (hs1.drewN' n) (hA.slots.drewN' n) rfl rfl (by have:=hA.ok.ns; omega) (by have:=hA.ok.ns; omega))
 have HI:=Lib.hid (fun n => Ref01.ints_any (wb.drewN n) (.slice a2 m.line.length c2) q.lv m.line m.line (hs2.below (bdrewN (Below.refl _ _) n)) (hA.own.at.below (bdrewN (Below.refl _ _) n)))
 have ht1 : decide (m.ss = m.ss) = true:=by simp
 have ht2 : decide (m.line = m.line) = true:=by simp
 rw [ht1] at HS
 rw [ht2] at HI
 obtain ⟨la, lc, hlv⟩:=hA.own.form
 rw [hlv] at k7 HI
 clear hA hs1 hs2 row hlv ht1 ht2
 go_quiet (first
  | (go_at_call 29; exact Calls.quiet_of (HS.out _))
  | (go_at_call 30; exact Calls.quiet_of (HI.out _)))
 go_wp2_with fail
 go_ret
 exact ⟨rfl, bdrewN hB nq⟩
end Go.Proofs.YtpmkgddjgebojaaGreatDoor.Mod
