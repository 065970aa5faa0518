/- Part 21 of the walks and plain laws that the last text joins. -/
import Derived.Test.YtpmkgddjgebojaaGreatDoorE19
set_option maxRecDepth 100000
set_option maxHeartbeats 16000000
set_option linter.unusedVariables false
set_option linter.unusedSimpArgs false
namespace Go.Proofs.YtpmkgddjgebojaaGreatDoor.Mod
open Go.RowKit Hp Slot RowL Life
theorem tick_bd (now n : Int) (h0 : 0 ≤ now ∧ now ≤ 1099511627776) : 0 ≤ Clock.tick now n ∧ Clock.tick now n ≤ 1099511627776:=by unfold Clock.tick; omega
theorem m_tick {W : World} {p : Pl} {m : M} (h : MAt W p m) (n : Int) (hn : -9223372036854775808 ≤ n) (hn' : n ≤ 9223372036854775807) :
  Calls Tryz.prog 22 #[.pointer (some ⟨p.mb, 0, none⟩), .i n] W fun e W' => (∃ v, e = .returned v) ∧ MAt W' p (m.tick n) ∧ Chg (mfp p) W W':=by
 have c9:=h.hd.c9
 have hc:=Clock.tick_any W ⟨p.cb, 0, none⟩ m.now n h.clk h.clkf h.ok.now.1 h.ok.now.2 hn hn'
 have hA:=(h.toNow (Clock.tick m.now n) (tick_bd _ _ h.ok.now)).drew
 have H:=Lib.hid h
 clear h
 go_enter Tryz.func22, Tryz.ntmps22
 go_wp2_with fail
 refine hc.mono ?_
 rintro e w1 ⟨rfl, rfl⟩
 have hC : Chg (mfp p) W ((W.setCell ⟨p.cb, 0, none⟩ (.i (Clock.tick m.now n))).drew):=((Chg.refl _ _).setCell _ _ (fun _ => .inr (.inr (.inr (.inl rfl))))).drew
 have HF:=Lib.hid (And.intro hA hC)
 clear hA hC hc c9
 go_wp2_with fail
 go_end0
 exact ⟨⟨_, rfl⟩, HF.out.1, HF.out.2⟩
theorem m_feed {W : World} {p : Pl} {m : M} (h : MAt W p m) (b : Bool) :
  Calls Tryz.prog 24 #[.pointer (some ⟨p.mb, 0, none⟩), .bool b] W (MPost W p (.bool (m.feed b).1) (m.feed b).2):=by
 have c10:=h.hd.c10
 obtain ⟨g, bd, hw⟩:=h.wld
 have hal:=h.ok.ahead
 unfold M.feed
 by_cases hl : m.ahead.length < 1000
 ·rw [if_pos hl]
  have hf:=World11.feed_yes W p.wb p.rb p.rv m.ahead g bd b hw hl
  go_enter Tryz.func24, Tryz.ntmps24
  go_wp2_with fail
  refine hf.mono ?_
  rintro e w1 ⟨rfl, v', h1, h2, h3⟩
  have hA:=h.toWorld h1 (by simp; omega) h2 h3
  have HF : RowKit.Hid (MPost W p (.bool true) { m with ahead:=m.ahead ++ [b] } (.returned (.bool true)) w1):=⟨rfl, p.lv, v', hA, fun k hk => .inl hk, h2, h3.mono fun k _ hk => .inr (.inr (.inr (.inr (.inl hk))))⟩
  clear hA h1 h2 h3 hf hw h
  go_wp2_with fail
  go_ret
  exact HF.out
 ·rw [if_neg hl]
  have hf:=World11.feed_no W p.wb p.rb p.rv m.ahead g bd b hw (by omega)
  go_enter Tryz.func24, Tryz.ntmps24
  go_wp2_with fail
  refine hf.mono ?_
  rintro e w1 ⟨rfl, v', h1, h2, h3⟩
  have hA:=h.toWorld h1 hal h2 h3
  have HF : RowKit.Hid (MPost W p (.bool false) m (.returned (.bool false)) w1):=⟨rfl, p.lv, v', hA, fun k hk => .inl hk, h2, h3.mono fun k _ hk => .inr (.inr (.inr (.inr (.inl hk))))⟩
  clear hA h1 h2 h3 hf hw h
  go_wp2_with fail
  go_ret
  exact HF.out
theorem m_break {W : World} {p : Pl} {m : M} (h : MAt W p m) (i : Int) :
  Calls Tryz.prog 26 #[.pointer (some ⟨p.mb, 0, none⟩), .i i] W (MPost W p (.bool (m.break' i).1) (m.break' i).2):=by
 have c5:=h.hd.c5
 have hns:=h.ok.ns
 unfold M.break'
 by_cases h0 : i < 0
 ·rw [if_neg (by omega)]
  have HF : RowKit.Hid (MPost W p (.bool false) m (.returned (.bool false)) W):=h.post0 h (Chg.refl _ _)
  have d0 : decide (0 ≤ i) = false:=by simpa using h0
  clear h
  go_enter Tryz.func26, Tryz.ntmps26
  go_wp2_with fail
  go_ret
  exact HF.out
 obtain ⟨n, rfl⟩:=Int.eq_ofNat_of_zero_le (show 0 ≤ i by omega)
 have d0 : decide (0 ≤ (n : Int)) = true:=by simp
 have d0' : (0 : Int) ≤ (n : Int):=by omega
 by_cases h1 : n < m.ss.length
 ·rw [if_pos (by omega)]
  obtain ⟨s, hs⟩ : ∃ s, m.ss[n]? = some s:=⟨_, List.getElem?_eq_getElem h1⟩
  have ht:=m_turn h n 13 n 13 0 0 s hs rfl rfl (by simp [Done])
  simp only [Int.toNat_natCast, M.slot_of hs]
  have d1 : decide ((n : Int) < (m.ss.length : Int)) = true:=by simp; omega
  have d1' : (n : Int) < (m.ss.length : Int):=by omega
  generalize (Mod.next s 13 0 0).isSome = bb at *
  clear hs h0
  go_enter Tryz.func26, Tryz.ntmps26
  go_wp2_with fail
  refine ht.mono ?_
  intro e w1 hp
  obtain ⟨rfl, hq⟩:=hp
  have HQ:=Lib.hid hq
  clear hq ht h
  go_wp2_with fail
  go_ret
  exact ⟨rfl, HQ.out⟩
 ·rw [if_neg (by omega)]
  have HF : RowKit.Hid (MPost W p (.bool false) m (.returned (.bool false)) W):=h.post0 h (Chg.refl _ _)
  have d1' : ¬ ((n : Int) < (m.ss.length : Int)):=by omega
  clear h h0 h1
  go_enter Tryz.func26, Tryz.ntmps26
  go_wp2_with fail
  go_ret
  exact HF.out
theorem owns_zero {m : M} {who : Int} {a : Ask} (h : m.owns who a = 0) : m.closed ≠ 2 ∧ ∃ (n : Nat) (s : S), a.slot = n ∧ m.ss[n]? = some s ∧ s.state = 3 ∧ s.own = who ∧ s.gen = a.gen:=by
 unfold M.owns at h
 split at h
 ·cases h
 rename_i h1
 split at h
 ·cases h
 rename_i h2
 split at h
 ·cases h
 rename_i h3
 obtain ⟨n, hn⟩:=Int.eq_ofNat_of_zero_le (show 0 ≤ a.slot by omega)
 obtain ⟨s, hs⟩ : ∃ s, m.ss[n]? = some s:=⟨_, List.getElem?_eq_getElem (by omega)⟩
 rw [hn, Int.toNat_natCast, M.slot_of hs] at h3
 exact ⟨h1, n, s, hn, hs, by omega, by omega, by omega⟩
theorem m_give {W : World} {p : Pl} {m : M} (h : MAt W p m) (who : Int) (a : Ask) (dis : Bool) :
  Calls Tryz.prog 69 #[.pointer (some ⟨p.mb, 0, none⟩), .i who, a.val, .bool dis] W (MPost W p (m.give who a dis).1.val (m.give who a dis).2):=by
 have hE : ∀ o, m.give who a dis = o → True:=fun _ _ => trivial
 have hR : RowKit.Hid (m.give who a dis = if m.owns who a ≠ 0 then (M.failed (m.owns who a), m) else if (m.slot a.slot.toNat).streams ≠ 0 ∧ dis = false then (M.failed 8, m) else (Ev.zero, if dis = true ∨ (m.slot a.slot.toNat).broken = true ∨ m.cf.uses ≤ (m.slot a.slot.toNat).uses ∨ m.closed ≠ 0 then m.empty a.slot.toNat else m.turn a.slot.toNat 4 who 0)):=rfl
 generalize m.give who a dis = R at *
 have hlt : p.mb < W.heap.size:=h.lt (.inl rfl)
 have hos : RowKit.Hid (m.owns who a = 0 → m.closed ≠ 2 ∧ ∃ (n : Nat) (s : S), a.slot = n ∧ m.ss[n]? = some s ∧ s.state = 3 ∧ s.own = who ∧ s.gen = a.gen):=fun h => owns_zero h
 have how:=fun W (h : MAt W p m) => m_owns h who a
 generalize m.owns who a = q at *
 obtain ⟨op, dl, wt, fo, sl, ge, st⟩:=a
 simp only [Ask.val, Ask.cells] at *
 have hB : Below W.heap.size W ((W.alloc (.cells (Ad op dl wt fo sl ge st) 25)).alloc (.cells ev0 36)):=((Below.refl _ _).alloc (Nat.le_refl _) _).alloc (by simp) _
 have r0 : Re W.heap.size ((W.alloc (.cells (Ad op dl wt fo sl ge st) 25)).alloc (.cells ev0 36)) p ((W.alloc (.cells (Ad op dl wt fo sl ge st) 25)).alloc (.cells ev0 36)) p m:=Re.begin h hB
 have e0 : ERow ((W.alloc (.cells (Ad op dl wt fo sl ge st) 25)).alloc (.cells ev0 36)) (W.heap.size + 1):=⟨ev0, rfl, by have:=RowAt.new (W.alloc (.cells (Ad op dl wt fo sl ge st) 25)) ev0 36; simpa using this⟩
 have hg1 : W.heap.size + 1 < ((W.alloc (.cells (Ad op dl wt fo sl ge st) 25)).alloc (.cells ev0 36)).heap.size:=by simp
 have hg0 : W.heap.size ≤ W.heap.size + 1:=by omega
 have a0 : RowAt ((W.alloc (.cells (Ad op dl wt fo sl ge st) 25)).alloc (.cells ev0 36)) W.heap.size (Ad op dl wt fo sl ge st) 25:=heap_alloc2_old W _ _
 have ho:=how _ r0.at'
 clear how hE
 go_enter Tryz.func69, Tryz.ntmps69
 go_wp2_with fail
 refine ho.mono ?_
 rintro e w1 ⟨rfl, hb1⟩
 have r1:=r0.below hb1
 have e1:=e0.below hb1
 have a1:=a0.below hb1
 clear ho hb1 r0 e0 a0 h
 by_cases hq : q = 0
 rotate_left
 ·have hq' : (q != 0) = true:=by simp [hq]
  have HR2 : RowKit.Hid (R = (M.failed q, m)):=Lib.hid (by rw [hR.out, if_pos hq])
  have hfl:=fun W => failed_any W q
  have hf : M.failed q = { Ev.zero with e:=q }:=rfl
  rw [← hf] at hfl
  generalize M.failed q = x at *
  clear hq hf hR hos a1
  go_wp2_with fail
  refine (hfl _).mono ?_
  rintro e w2 ⟨rfl, hb2⟩
  have r2:=r1.below hb2
  have e2:=e1.below hb2
  have hst:=e2.store x
  have hsz:=ev_size x
  clear hfl hb2 r1 e1
  go_wp2_with fail
  refine bR1 (W.heap.size + 1) (e2.set x) Tryz.underlying36 ?_
  rw [HR2.out]
  exact (r2.row hg0 hg1 x.cells).fin hB _
 have hq' : (q != 0) = false:=by simp [hq]
 obtain ⟨hcl2, n, s, hn, hs, hs3, hso, hsg⟩:=hos.out hq
 try simp only at hn hsg
 subst hn
 have HS:=Lib.hid hs
 have hsl : m.slot n = s:=M.slot_of hs
 have HR:=Lib.hid hR.out
 rw [if_neg (by simp [hq])] at HR
 try simp only [Int.toNat_natCast, hsl] at HR
 have hil : n < m.ss.length:=(List.getElem?_eq_some_iff.1 hs).1
 have hns:=r1.at'.ok.ns
 have b0 : (0 : Int) ≤ (n : Int):=by omega
 have b1 : (n : Int) < (m.ss.length : Int):=by omega
 have b2 : (n : Int) ≤ (m.ss.length : Int) - 1:=by omega
 clear hos hR hq hs hsl hil
 have k5:=r1.at'.hd.c5
 rw [r1.mb, r1.sb] at k5
 have kA : w1.cell? ⟨W.heap.size, 4, none⟩ = some (.i n):=a1.cell 4
 have hd:=r1.at'.slots.get HS.out
 rw [r1.sb] at hd
 obtain ⟨s0, s1, s2, s3, s4, s5, s6, s7, s8⟩:=s
 try simp only at hs3 hso hsg HR hd
 have HS3:=Lib.hid hs3
 have HSO:=Lib.hid hso
 have HSG:=Lib.hid hsg
 clear hs3 hso hsg
 obtain ⟨d0, d1, d2, d3, d4, d5, d6, d7, d8⟩:=hd
 have L5 : ∀ w', Below w1.heap.size w1 w' → w'.cell? ⟨p.mb, 5, none⟩ = some (.slice (some ⟨p.sb, 0, none⟩) m.ss.length m.ss.length):=fun w' h => Field.bkeep h k5
 have LA : ∀ w', Below w1.heap.size w1 w' → w'.cell? ⟨W.heap.size, 4, none⟩ = some (.i n):=fun w' h => Field.bkeep h kA
 have Ls0 : ∀ w', Below w1.heap.size w1 w' → w'.cell? ⟨p.sb, n * 9, none⟩ = some (.i s0):=fun w' h => Field.bkeep h d0
 have Ls1 : ∀ w', Below w1.heap.size w1 w' → w'.cell? ⟨p.sb, n * 9 + 1, none⟩ = some (.i s1):=fun w' h => Field.bkeep h d1
 have Ls2 : ∀ w', Below w1.heap.size w1 w' → w'.cell? ⟨p.sb, n * 9 + 2, none⟩ = some (.i s2):=fun w' h => Field.bkeep h d2
 have Ls3 : ∀ w', Below w1.heap.size w1 w' → w'.cell? ⟨p.sb, n * 9 + 3, none⟩ = some (.bool s3):=fun w' h => Field.bkeep h d3
 have Ls4 : ∀ w', Below w1.heap.size w1 w' → w'.cell? ⟨p.sb, n * 9 + 4, none⟩ = some (.bool s4):=fun w' h => Field.bkeep h d4
 have Ls5 : ∀ w', Below w1.heap.size w1 w' → w'.cell? ⟨p.sb, n * 9 + 5, none⟩ = some (.i s5):=fun w' h => Field.bkeep h d5
 have Ls6 : ∀ w', Below w1.heap.size w1 w' → w'.cell? ⟨p.sb, n * 9 + 6, none⟩ = some (.i s6):=fun w' h => Field.bkeep h d6
 have Ls7 : ∀ w', Below w1.heap.size w1 w' → w'.cell? ⟨p.sb, n * 9 + 7, none⟩ = some (.i s7):=fun w' h => Field.bkeep h d7
 have Ls8 : ∀ w', Below w1.heap.size w1 w' → w'.cell? ⟨p.sb, n * 9 + 8, none⟩ = some (.i s8):=fun w' h => Field.bkeep h d8
 have hKd : Below w1.heap.size w1 w1.drew:=(Below.refl _ _).drew
 clear d0 d1 d2 d3 d4 d5 d6 d7 d8 kA k5
 go_wp2_with fail
 go_region_held3 (fun w' => Below w1.heap.size w1 w') (first | assumption | exact ((Below.refl _ _).alloc (Nat.le_refl _) _) | exact ((Below.refl _ _).alloc (Nat.le_refl _) _).drew | exact ((Below.refl _ _).drew.alloc (Nat.le_refl _) _)) (fail)
 clear L5 LA Ls0 Ls1 Ls2 Ls3 Ls4 Ls5 Ls6 Ls7 Ls8 b0 b1 b2 hKd
 have hb2 : Below w1.heap.size w1 ((w1.alloc (.cells (Ac s0 s1 s2 s3 s4 s5 s6 s7 s8) 59)).drew):=((Below.refl _ _).alloc (Nat.le_refl _) _).drew
 have r2:=r1.below hb2
 have e2:=e1.below hb2
 have a2:=a1.below hb2
 have q2 : RowAt ((w1.alloc (.cells (Ac s0 s1 s2 s3 s4 s5 s6 s7 s8) 59)).drew) w1.heap.size (Ac s0 s1 s2 s3 s4 s5 s6 s7 s8) 59:=RowAt.new w1 _ _
 have hgs : W.heap.size + 1 < w1.heap.size:=by have:=r1.size; simp at this; omega
 clear hb2 r1 e1 a1
 generalize hwz : (w1.alloc (.cells (Ac s0 s1 s2 s3 s4 s5 s6 s7 s8) 59)).drew = w2 at *
 clear hwz
 have kS : w2.cell? ⟨w1.heap.size, 2, none⟩ = some (.i s2):=q2.cell 2
 have kb : w2.cell? ⟨w1.heap.size, 3, none⟩ = some (.bool s3):=q2.cell 3
 have kU : w2.cell? ⟨w1.heap.size, 5, none⟩ = some (.i s5):=q2.cell 5
 by_cases hst0 : s2 = 0
 ·have hs0' : (s2 != 0) = false:=by simp [hst0]
  have HR : RowKit.Hid (R = (Ev.zero, if dis = true ∨ s3 = true ∨ m.cf.uses ≤ s5 ∨ m.closed ≠ 0 then m.empty n else m.turn n 4 who 0)):=Lib.hid (by rw [HR.out, if_neg (by simp [hst0])])
  have kc:=r2.at'.hd.c8
  have ku:=r2.at'.hd.c4
  rw [r2.mb] at kc ku
  cases dis
  ·cases s3
   ·by_cases hu : m.cf.uses ≤ s5
    ·have hu' : decide (m.cf.uses ≤ s5) = true:=by simpa using hu
     have HR2 : RowKit.Hid (R = (Ev.zero, m.empty n)):=Lib.hid (by rw [HR.out, if_pos (by simp [hu])])
     clear hu HR hst0
     go_wp2_with fail
     go_quiet (fail)
     clear kc ku kb kU kS
     have hb3 : Below w2.heap.size w2 (w2.drewN nq):=bdrewN (Below.refl _ _) nq
     have r3:=r2.below hb3
     have e3:=e2.below hb3
     have a3:=a2.below hb3
     have kA:=a3.cell 4
     generalize hwz : w2.drewN nq = w3 at *
     clear hwz hb3 r2 e2 a2
     go_wp2_with fail
     have hem:=m_empty r3.at' n n _ HS.out rfl
     rw [r3.mb] at hem
     refine hem.mono ?_
     rintro e w4 ⟨⟨v4, rfl⟩, h4, hc4⟩
     have r4:=r3.slots h4 hc4
     have e4:=e3.chg hc4 (fun e => r3.not hg0 hg1 (.inr (.inl e)))
     clear hem h4 hc4 r3 e3 a3 kA
     go_upto_region 10 with (fail)
     obtain ⟨Z, z1, z2⟩:=e4
     refine wp_region_lit ?_
     refine RowL.gl (Ev.zero).val ?_ (by go_simp; try rfl)
     refine RowL.gSt z2 (Ev.zero).cells 36 (.tmp 8) (.tmp 66) ?_ (hsz:=z1) (h1:=ev_one _)
     go_wp2_with fail
     refine bR1 (W.heap.size + 1) (z2.set _) Tryz.underlying36 ?_
     rw [HR2.out]
     exact (r4.row hg0 hg1 _).fin hB _
    ·have hu' : decide (m.cf.uses ≤ s5) = false:=by simpa using hu
     by_cases hc : m.closed = 0
     ·have hc' : (m.closed != 0) = false:=by simp [hc]
      have HR2 : RowKit.Hid (R = (Ev.zero, m.turn n 4 who 0)):=Lib.hid (by rw [HR.out, if_neg (by simp [hc]; omega)])
      clear hc hu HR hst0
      go_wp2_with fail
      go_quiet (fail)
      clear kc ku kb kU kS
      have hb3 : Below w2.heap.size w2 (w2.drewN nq):=bdrewN (Below.refl _ _) nq
      have r3:=r2.below hb3
      have e3:=e2.below hb3
      have a3:=a2.below hb3
      have kA:=a3.cell 4
      generalize hwz : w2.drewN nq = w3 at *
      clear hwz hb3 r2 e2 a2
      go_wp2_with fail
      have hem:=m_turn' r3.at' n 4 n 4 who 0 _ HS.out rfl rfl (by simp [Done])
      rw [r3.mb] at hem
      refine hem.mono ?_
      rintro e w4 ⟨rfl, h4, hc4⟩
      have r4:=r3.slots h4 hc4
      have e4:=e3.chg hc4 (fun e => r3.not hg0 hg1 (.inr (.inl e)))
      clear hem h4 hc4 r3 e3 a3 kA
      go_upto_region 10 with (fail)
      obtain ⟨Z, z1, z2⟩:=e4
      refine wp_region_lit ?_
      refine RowL.gl (Ev.zero).val ?_ (by go_simp; try rfl)
      refine RowL.gSt z2 (Ev.zero).cells 36 (.tmp 8) (.tmp 66) ?_ (hsz:=z1) (h1:=ev_one _)
      go_wp2_with fail
      refine bR1 (W.heap.size + 1) (z2.set _) Tryz.underlying36 ?_
      rw [HR2.out]
      exact (r4.row hg0 hg1 _).fin hB _
     ·have hc' : (m.closed != 0) = true:=by simp [hc]
      have HR2 : RowKit.Hid (R = (Ev.zero, m.empty n)):=Lib.hid (by rw [HR.out, if_pos (by simp [hc])])
      clear hc hu HR hst0
      go_wp2_with fail
      go_quiet (fail)
      clear kc ku kb kU kS
      have hb3 : Below w2.heap.size w2 (w2.drewN nq):=bdrewN (Below.refl _ _) nq
      have r3:=r2.below hb3
      have e3:=e2.below hb3
      have a3:=a2.below hb3
      have kA:=a3.cell 4
      generalize hwz : w2.drewN nq = w3 at *
      clear hwz hb3 r2 e2 a2
      go_wp2_with fail
      have hem:=m_empty r3.at' n n _ HS.out rfl
      rw [r3.mb] at hem
      refine hem.mono ?_
      rintro e w4 ⟨⟨v4, rfl⟩, h4, hc4⟩
      have r4:=r3.slots h4 hc4
      have e4:=e3.chg hc4 (fun e => r3.not hg0 hg1 (.inr (.inl e)))
      clear hem h4 hc4 r3 e3 a3 kA
      go_upto_region 10 with (fail)
      obtain ⟨Z, z1, z2⟩:=e4
      refine wp_region_lit ?_
      refine RowL.gl (Ev.zero).val ?_ (by go_simp; try rfl)
      refine RowL.gSt z2 (Ev.zero).cells 36 (.tmp 8) (.tmp 66) ?_ (hsz:=z1) (h1:=ev_one _)
      go_wp2_with fail
      refine bR1 (W.heap.size + 1) (z2.set _) Tryz.underlying36 ?_
      rw [HR2.out]
      exact (r4.row hg0 hg1 _).fin hB _
   ·have HR2 : RowKit.Hid (R = (Ev.zero, m.empty n)):=Lib.hid (by rw [HR.out, if_pos (by simp)])
    clear HR hst0
    go_wp2_with fail
    go_quiet (fail)
    clear kc ku kb kU kS
    have hb3 : Below w2.heap.size w2 (w2.drewN nq):=bdrewN (Below.refl _ _) nq
    have r3:=r2.below hb3
    have e3:=e2.below hb3
    have a3:=a2.below hb3
    have kA:=a3.cell 4
    generalize hwz : w2.drewN nq = w3 at *
    clear hwz hb3 r2 e2 a2
    go_wp2_with fail
    have hem:=m_empty r3.at' n n _ HS.out rfl
    rw [r3.mb] at hem
    refine hem.mono ?_
    rintro e w4 ⟨⟨v4, rfl⟩, h4, hc4⟩
    have r4:=r3.slots h4 hc4
    have e4:=e3.chg hc4 (fun e => r3.not hg0 hg1 (.inr (.inl e)))
    clear hem h4 hc4 r3 e3 a3 kA
    go_upto_region 10 with (fail)
    obtain ⟨Z, z1, z2⟩:=e4
    refine wp_region_lit ?_
    refine RowL.gl (Ev.zero).val ?_ (by go_simp; try rfl)
    refine RowL.gSt z2 (Ev.zero).cells 36 (.tmp 8) (.tmp 66) ?_ (hsz:=z1) (h1:=ev_one _)
    go_wp2_with fail
    refine bR1 (W.heap.size + 1) (z2.set _) Tryz.underlying36 ?_
    rw [HR2.out]
    exact (r4.row hg0 hg1 _).fin hB _
  ·have HR2 : RowKit.Hid (R = (Ev.zero, m.empty n)):=Lib.hid (by rw [HR.out, if_pos (by simp)])
   clear HR hst0
   go_wp2_with fail
   go_quiet (fail)
   clear kc ku kb kU kS
   have hb3 : Below w2.heap.size w2 (w2.drewN nq):=bdrewN (Below.refl _ _) nq
   have r3:=r2.below hb3
   have e3:=e2.below hb3
   have a3:=a2.below hb3
   have kA:=a3.cell 4
   generalize hwz : w2.drewN nq = w3 at *
   clear hwz hb3 r2 e2 a2
   go_wp2_with fail
   have hem:=m_empty r3.at' n n _ HS.out rfl
   rw [r3.mb] at hem
   refine hem.mono ?_
   rintro e w4 ⟨⟨v4, rfl⟩, h4, hc4⟩
   have r4:=r3.slots h4 hc4
   have e4:=e3.chg hc4 (fun e => r3.not hg0 hg1 (.inr (.inl e)))
   clear hem h4 hc4 r3 e3 a3 kA
   go_upto_region 10 with (fail)
   obtain ⟨Z, z1, z2⟩:=e4
   refine wp_region_lit ?_
   refine RowL.gl (Ev.zero).val ?_ (by go_simp; try rfl)
   refine RowL.gSt z2 (Ev.zero).cells 36 (.tmp 8) (.tmp 66) ?_ (hsz:=z1) (h1:=ev_one _)
   go_wp2_with fail
   refine bR1 (W.heap.size + 1) (z2.set _) Tryz.underlying36 ?_
   rw [HR2.out]
   exact (r4.row hg0 hg1 _).fin hB _
 ·have hs0' : (s2 != 0) = true:=by simp [hst0]
  cases dis
  ·have HR2 : RowKit.Hid (R = (M.failed 8, m)):=Lib.hid (by rw [HR.out, if_pos ⟨hst0, rfl⟩])
   clear HR hst0
   have hfl:=fun W => failed_any W 8
   have hf : M.failed 8 = { Ev.zero with e:=8 }:=rfl
   rw [← hf] at hfl
   generalize M.failed 8 = x at *
   clear hf
   go_wp2_with fail
   refine (hfl _).mono ?_
   rintro e w3 ⟨rfl, hb3⟩
   have r3:=r2.below hb3
   have e3:=e2.below hb3
   have hst:=e3.store x
   have hsz:=ev_size x
   clear hfl hb3
   go_wp2_with fail
   refine bR1 (W.heap.size + 1) (e3.set x) Tryz.underlying36 ?_
   rw [HR2.out]
   exact (r3.row hg0 hg1 x.cells).fin hB _
  ·have HR : RowKit.Hid (R = (Ev.zero, m.empty n)):=Lib.hid (by rw [HR.out, if_neg (by simp), if_pos (.inl rfl)])
   have HR2:=HR
   have kc:=r2.at'.hd.c8
   have ku:=r2.at'.hd.c4
   rw [r2.mb] at kc ku
   clear HR hst0
   go_wp2_with fail
   go_quiet (fail)
   clear kc ku kb kU kS
   have hb3 : Below w2.heap.size w2 (w2.drewN nq):=bdrewN (Below.refl _ _) nq
   have r3:=r2.below hb3
   have e3:=e2.below hb3
   have a3:=a2.below hb3
   have kA:=a3.cell 4
   generalize hwz : w2.drewN nq = w3 at *
   clear hwz hb3 r2 e2 a2
   go_wp2_with fail
   have hem:=m_empty r3.at' n n _ HS.out rfl
   rw [r3.mb] at hem
   refine hem.mono ?_
   rintro e w4 ⟨⟨v4, rfl⟩, h4, hc4⟩
   have r4:=r3.slots h4 hc4
   have e4:=e3.chg hc4 (fun e => r3.not hg0 hg1 (.inr (.inl e)))
   clear hem h4 hc4 r3 e3 a3 kA
   go_upto_region 10 with (fail)
   obtain ⟨Z, z1, z2⟩:=e4
   refine wp_region_lit ?_
   refine RowL.gl (Ev.zero).val ?_ (by go_simp; try rfl)
   refine RowL.gSt z2 (Ev.zero).cells 36 (.tmp 8) (.tmp 66) ?_ (hsz:=z1) (h1:=ev_one _)
   go_wp2_with fail
   refine bR1 (W.heap.size + 1) (z2.set _) Tryz.underlying36 ?_
   rw [HR2.out]
   exact (r4.row hg0 hg1 _).fin hB _
end Go.Proofs.YtpmkgddjgebojaaGreatDoor.Mod
namespace Go.Proofs.YtpmkgddjgebojaaGreatDoor.Mod
open Go.RowKit Hp Slot RowL Life R8
def turned0 (ss : List S) (i : Nat) (r : Option S) : List S:=match r with | some t => ss.set i { t with version:=0, epoch:=0 } | none => ss
theorem do_any (W : World) (mb sb : Nat) (ss : List S) (i : Nat) (s : S) (own more : Int) (d : Nat) (hm : Hdr W mb sb ss.length) (hs : SlotsAt W sb ss) (hi : ss[i]? = some s) (hn : ss.length ≤ 1000) (hne : mb ≠ sb) (hd : Done d) (hr : s.right = true) :
  Calls Tryz.prog 53 #[.pointer (some ⟨mb, 0, none⟩), .i i, .i d, .i own, .i more] W fun e W' =>
   e = .returned (.bool (next s d own more).isSome) ∧ SlotsAt W' sb (turned0 ss i (next s d own more)) ∧ Chg (fun k => k = sb) W W':=by
 have hx:=ref_next W s d d own more hd rfl hr
 generalize next s d own more = r at *
 have hlt : i < ss.length:=(List.getElem?_eq_some_iff.1 hi).1
 obtain ⟨c0, c1, c2, c3, c4, c5, c6, c7, c8⟩:=hs.get hi
 unfold Hdr at hm
 have hb0 : (0 : Int) ≤ (i : Int):=by omega
 have hb1 : (i : Int) < (ss.length : Int):=by omega
 have hb2 : (i : Int) ≤ (ss.length : Int) - 1:=by omega
 have Hi:=Lib.hid hi
 have hlw : sb < W.heap.size:=hs.lt (by omega)
 have hlm : mb < W.heap.size:=World.block_lt_of_cell? _ _ hm
 clear hi hd hr
 obtain ⟨q, hq⟩ : ∃ q, q = r.getD S.zero:=⟨_, rfl⟩
 rw [← hq] at hx
 have HQ:=Lib.hid hq
 clear hq
 obtain ⟨st', ow', sm', br', ma', us', ge', ep', ve'⟩:=q
 simp only [S.val, S.cells] at hx
 go_enter Tryz.func53, Tryz.ntmps53
 go_wp2_with fail
 refine hx.mono ?_
 rintro e w5 ⟨rfl, hb5⟩
 have hs5:=hs.stable (hb5.block sb hlw)
 have hm5 : ∀ o, (w5.alloc o).cell? ⟨mb, 5, none⟩ = some (.slice (some ⟨sb, 0, none⟩) ss.length ss.length):=fun o => (World.cell?_alloc_lt _ _ _ (Nat.lt_of_lt_of_le hlm hb5.size)).trans (Field.bkeep hb5 hm)
 have hsA : ∀ o, SlotsAt (w5.alloc o) sb ss:=fun o => hs5.stable (Below.heap_alloc _ _ _ (Nat.lt_of_lt_of_le hlw hb5.size))
 have d0 : ∀ o, (w5.alloc o).cell? ⟨sb, i * 9, none⟩ = some (.i s.state):=fun o => ((hsA o).get Hi.out).1
 have f0 : ∀ o, (w5.alloc o).frozen? ⟨sb, i * 9, none⟩ = false:=fun o => ((hsA o).free hlt).1
 have d1 : ∀ o, (w5.alloc o).cell? ⟨sb, i * 9 + 1, none⟩ = some (.i s.own):=fun o => ((hsA o).get Hi.out).2.1
 have f1 : ∀ o, (w5.alloc o).frozen? ⟨sb, i * 9 + 1, none⟩ = false:=fun o => ((hsA o).free hlt).2.1
 have d2 : ∀ o, (w5.alloc o).cell? ⟨sb, i * 9 + 2, none⟩ = some (.i s.streams):=fun o => ((hsA o).get Hi.out).2.2.1
 have f2 : ∀ o, (w5.alloc o).frozen? ⟨sb, i * 9 + 2, none⟩ = false:=fun o => ((hsA o).free hlt).2.2.1
 have d3 : ∀ o, (w5.alloc o).cell? ⟨sb, i * 9 + 3, none⟩ = some (.bool s.broken):=fun o => ((hsA o).get Hi.out).2.2.2.1
 have f3 : ∀ o, (w5.alloc o).frozen? ⟨sb, i * 9 + 3, none⟩ = false:=fun o => ((hsA o).free hlt).2.2.2.1
 have d4 : ∀ o, (w5.alloc o).cell? ⟨sb, i * 9 + 4, none⟩ = some (.bool s.marked):=fun o => ((hsA o).get Hi.out).2.2.2.2.1
 have f4 : ∀ o, (w5.alloc o).frozen? ⟨sb, i * 9 + 4, none⟩ = false:=fun o => ((hsA o).free hlt).2.2.2.2.1
 have d5 : ∀ o, (w5.alloc o).cell? ⟨sb, i * 9 + 5, none⟩ = some (.i s.uses):=fun o => ((hsA o).get Hi.out).2.2.2.2.2.1
 have f5 : ∀ o, (w5.alloc o).frozen? ⟨sb, i * 9 + 5, none⟩ = false:=fun o => ((hsA o).free hlt).2.2.2.2.2.1
 have d6 : ∀ o, (w5.alloc o).cell? ⟨sb, i * 9 + 6, none⟩ = some (.i s.gen):=fun o => ((hsA o).get Hi.out).2.2.2.2.2.2.1
 have f6 : ∀ o, (w5.alloc o).frozen? ⟨sb, i * 9 + 6, none⟩ = false:=fun o => ((hsA o).free hlt).2.2.2.2.2.2.1
 have d7 : ∀ o, (w5.alloc o).cell? ⟨sb, i * 9 + 7, none⟩ = some (.i s.epoch):=fun o => ((hsA o).get Hi.out).2.2.2.2.2.2.2.1
 have f7 : ∀ o, (w5.alloc o).frozen? ⟨sb, i * 9 + 7, none⟩ = false:=fun o => ((hsA o).free hlt).2.2.2.2.2.2.2.1
 have d8 : ∀ o, (w5.alloc o).cell? ⟨sb, i * 9 + 8, none⟩ = some (.i s.version):=fun o => ((hsA o).get Hi.out).2.2.2.2.2.2.2.2
 have f8 : ∀ o, (w5.alloc o).frozen? ⟨sb, i * 9 + 8, none⟩ = false:=fun o => ((hsA o).free hlt).2.2.2.2.2.2.2.2
 have hC5 : ∀ o, Chg (fun k => k = sb) W (w5.alloc o):=fun o => (Chg.ofBelow hb5).alloc o
 clear hm c0 c1 c2 c3 c4 c5 c6 c7 c8 hx hs hs5 hb5
 rcases r with _ | t'
 ·go_wp2_with fail
  go_ret
  exact ⟨rfl, hsA _, hC5 _⟩
 ·go_wp2_with fail
  go_region
  go_wp2_with fail
  go_ret
  have eq:=HQ.out
  simp only [Option.getD_some] at eq
  subst eq
  have k1:=(hsA (.cells (Ac st' ow' sm' br' ma' us' ge' 0 0) 59)).set hlt ⟨st', ow', sm', br', ma', us', ge', 0, 0⟩
  have k2:=chg_set (hC5 (.cells (Ac st' ow' sm' br' ma' us' ge' 0 0) 59)) (i:=i) (.i st') (.i ow') (.i sm') (.bool br') (.bool ma') (.i us') (.i ge') (.i 0) (.i 0)
  exact ⟨rfl, k1.drew, k2.drew⟩
theorem qempty_any (W : World) (mb sb : Nat) (ss : List S) (i : Nat) (s : S) (hm : Hdr W mb sb ss.length) (hs : SlotsAt W sb ss) (hi : ss[i]? = some s) (hn : ss.length ≤ 1000) :
  Calls Tryz.prog 56 #[.pointer (some ⟨mb, 0, none⟩), .i i] W fun e W' => (∃ v, e = .returned v) ∧ SlotsAt W' sb (ss.set i (emptied s)) ∧ Chg (fun k => k = sb) W W':=by
 have hlt : i < ss.length:=(List.getElem?_eq_some_iff.1 hi).1
 obtain ⟨c0, c1, c2, c3, c4, c5, c6, c7, c8⟩:=hs.get hi
 obtain ⟨f0, f1, f2, f3, f4, f5, f6, f7, f8⟩:=hs.free hlt
 unfold Hdr at hm
 have hb0 : (0 : Int) ≤ (i : Int):=by omega
 have hb1 : (i : Int) < (ss.length : Int):=by omega
 have hb2 : (i : Int) ≤ (ss.length : Int) - 1:=by omega
 have Hi:=Lib.hid hi
 clear hi
 go_enter Tryz.func56, Tryz.ntmps56
 go_wp2
 go_region
 go_wp2
 go_end0
 have h1:=hs.set hlt (emptied s)
 have h2:=chg_set (Chg.refl (fun k => k = sb) W) (i:=i) (.i 0) (.i 0) (.i 0) (.bool false) (.bool false) (.i 0) (.i s.gen) (.i 0) (.i 0)
 exact ⟨⟨_, rfl⟩, h1.drew, h2.drew⟩
theorem qleased_any (W : World) (mb sb : Nat) (ss : List S) (i : Nat) (s : S) (hm : Hdr W mb sb ss.length) (hs : SlotsAt W sb ss) (hi : ss[i]? = some s) (hn : ss.length ≤ 1000) :
  Calls Tryz.prog 54 #[.pointer (some ⟨mb, 0, none⟩), .i i] W fun e W' => e = .returned ({ Ev.zero with slot:=i, gen:=s.gen } : Ev).val ∧ Below W.heap.size W W':=by
 have hlt : i < ss.length:=(List.getElem?_eq_some_iff.1 hi).1
 have c6:=(hs.get hi).2.2.2.2.2.2.1
 have hb0 : (0 : Int) ≤ (i : Int):=by omega
 have hb1 : (i : Int) < (ss.length : Int):=by omega
 have hb2 : (i : Int) ≤ (ss.length : Int) - 1:=by omega
 have hlm : mb < W.heap.size:=World.block_lt_of_cell? _ _ hm
 have hls : sb < W.heap.size:=World.block_lt_of_cell? _ _ c6
 unfold Hdr at hm
 clear hi hs
 go_enter Tryz.func54, Tryz.ntmps54
 go_wp2
 refine bR1 W.heap.size (heap_alloc_new _ _) Tryz.underlying36 ?_
 exact ⟨rfl, (Below.refl _ _).alloc (Nat.le_refl _) _⟩
def NPost (w : World) (rb : Nat) (v : Value) (ans : Value) (l' : List Bool) (e : Ending) (w' : World) : Prop :=
 e = .returned ans ∧ ∃ v' g' b', Ref11.RAt w' rb v' l' g' b' ∧ (∀ k, Fp v' k → Fp v k ∨ w.heap.size ≤ k) ∧ Chg (Ref11.fp rb v) w w'
theorem qnext_none (w : World) (rb : Nat) (v : Value) (g b : Int) (h : Ref11.RAt w rb v [] g b) :
  Calls Tryz.prog 87 #[.pointer (some ⟨rb, 0, none⟩)] w (NPost w rb v (.bool true) []):=by
 obtain ⟨a, c, rfl⟩:=h.own.form
 have h0:=h.c0
 have h1:=h.c1
 have h2:=h.f1
 go_enter Tryz.func87, Tryz.ntmps87
 go_wp2
 go_ret
 exact ⟨rfl, _, _, _, h.good _, fun k hk => .inl hk, (Chg.refl _ _).setCell _ _ (fun _ => .inl rfl)⟩
theorem qnext_some (x : Bool) (w : World) (rb : Nat) (v : Value) (l : List Bool) (g b : Int) (h : Ref11.RAt w rb v (x :: l) g b) :
  Calls Tryz.prog 87 #[.pointer (some ⟨rb, 0, none⟩)] w (NPost w rb v (.bool x) l):=by
 have h0:=h.c0
 have h3:=h.f0
 have h5:=h.own
 have h6:=h.sep
 obtain ⟨gg, off, c, rfl, hc1, hc2, hgg, hcell, hfrz, hval⟩:=h.own.some (by simp)
 simp only [List.length_cons] at hc1 h5 h6 h0
 have hx : w.cell? ⟨gg, off, none⟩ = some (Ref11.val x):=hval 0 _ (by simp)
 rw [fp_some] at h6
 simp only at h6
 have hl1 : l.length + 1 ≤ 9223372036854775807:=h5.len
 by_cases hcap : c = 1
 ·subst hcap
  obtain rfl : l = []:=List.eq_nil_of_length_eq_zero (by omega)
  simp only [List.length_nil, Nat.zero_add] at *
  have hz:=Ref11.own_zero h5
  have hn : ¬ Fp (.slice (some ⟨gg, off, none⟩) 0 0) rb:=by rw [fp_some]; exact h6
  have hL:=h.line (l':=[]) hz hn
  have k1:=hL.c1
  have k2:=hL.c2
  have k3:=hL.f1
  have k4:=hL.f2
  have hF : ∀ k, Fp (.slice (some ⟨gg, off, none⟩) 0 0) k → Fp (.slice (some ⟨gg, off, none⟩) 1 1) k:=fun k hk => by rw [fp_some] at hk ⊢; exact hk
  clear hcell hfrz hval
  go_enter Tryz.func87, Tryz.ntmps87
  cases x
  ·go_wp2
   go_ret
   exact ⟨rfl, _, _, _, hL.bad _, fun k hk => .inl (hF k hk), ((Chg.refl _ _).setCell _ _ (fun _ => .inl rfl)).setCell _ _ (fun _ => .inl rfl)⟩
  ·go_wp2
   go_ret
   exact ⟨rfl, _, _, _, hL.good _, fun k hk => .inl (hF k hk), ((Chg.refl _ _).setCell _ _ (fun _ => .inl rfl)).setCell _ _ (fun _ => .inl rfl)⟩
 ·have hot:=Ref11.own_rest h5 hcap
  have hn : ¬ Fp (.slice (some ⟨gg, off + 1, none⟩) l.length (c - 1)) rb:=by rw [fp_some]; exact h6
  have hL:=h.line hot hn
  simp only [List.length_cons] at *
  have k1:=hL.c1
  have k2:=hL.c2
  have k3:=hL.f1
  have k4:=hL.f2
  have hF : ∀ k, Fp (.slice (some ⟨gg, off + 1, none⟩) l.length (c - 1)) k → Fp (.slice (some ⟨gg, off, none⟩) (l.length + 1) c) k:=fun k hk => by rw [fp_some] at hk ⊢; exact hk
  clear hcell hfrz hval
  go_enter Tryz.func87, Tryz.ntmps87
  cases x
  ·go_wp2
   go_ret
   exact ⟨rfl, _, _, _, hL.bad _, fun k hk => .inl (hF k hk), ((Chg.refl _ _).setCell _ _ (fun _ => .inl rfl)).setCell _ _ (fun _ => .inl rfl)⟩
  ·go_wp2
   go_ret
   exact ⟨rfl, _, _, _, hL.good _, fun k hk => .inl (hF k hk), ((Chg.refl _ _).setCell _ _ (fun _ => .inl rfl)).setCell _ _ (fun _ => .inl rfl)⟩
section
variable {W : World} {p : Ql} {m : M}
theorem next_epoch {s t : S} {d : Nat} {own more : Int} (hd : Done d) (hr : s.right = true) (h : next s d own more = some t) : t.epoch = 0:=by
 unfold next nextOf at h
 split at h
 ·rename_i hc
  simp only [Option.some.injEq] at h
  subst h
  obtain ⟨-, -, -, hb⟩:=hc
  have h4:=((right_iff s).1 hr).2.2.2.2.1
  show (act d s own more).1.epoch = 0
  have key : s.state ≠ 6 → s.epoch = 0:=fun h => h4.resolve_left h
  rcases hd with rfl | rfl | rfl | rfl | rfl | rfl | rfl | rfl | rfl | rfl | rfl | rfl | rfl
  all_goals (simp only [act] at hb ⊢)
  all_goals first | (simp [«to», leased]; done) | skip
  ·simp only [Bool.and_eq_true, beq_iff_eq] at hb; exact key (by omega)
  ·simp only [Bool.and_eq_true, Bool.or_eq_true, beq_iff_eq] at hb; exact key (by omega)
  ·split at hb <;> rename_i hc
   ·rw [if_pos hc]
    simp only [Bool.and_eq_true, beq_iff_eq] at hc
    split <;> exact key (by omega)
   ·cases hb
  ·split at hb <;> rename_i hc
   ·rw [if_pos hc]
    simp only [Bool.and_eq_true, beq_iff_eq] at hc
    exact key (by omega)
   ·cases hb
  ·split <;> simp [«to», leased]
 ·cases h
theorem turned0_eq (ss : List S) (i d : Nat) (s : S) (own more : Int) (hd : Done d) (hr : s.right = true) (hi : ss[i]? = some s) : turned0 ss i (next s d own more) = turnL ss i d own more:=by
 have h1 : turned0 ss i (next s d own more) = turned ss i (next s d own more):=by
  cases hn : next s d own more with
  | none => rfl
  | some t =>
   have h2:=next_epoch hd hr hn
   unfold turned0 turned
   simp only
   congr 1
   rw [h2]
 rw [h1]
 exact turned_eq ss i d s own more hi
theorem QAt.hdr (h : QAt W p m) : Hdr W p.mb p.sb m.ss.length:=h.hd.c5
theorem QAt.whdr (h : QAt W p m) : WHdr W p.mb p.kb m.ks.length:=h.hd.c6
theorem q_do (h : QAt W p m) (i d : Nat) (iz dz own more : Int) (s : S) (hi : m.ss[i]? = some s) (hiz : iz = i) (hdz : dz = d) (hd : Done d) :
  Calls Tryz.prog 53 #[.pointer (some ⟨p.mb, 0, none⟩), .i iz, .i dz, .i own, .i more] W fun e W' => e = .returned (.bool (next s d own more).isSome) ∧ QAt W' p (m.turn i d own more) ∧ Chg (fun k => k = p.sb) W W':=by
 subst hiz hdz
 have hr:=h.ok.rights s (List.mem_of_getElem? hi)
 refine (do_any W p.mb p.sb m.ss i s own more d h.hdr h.slots hi (by have:=h.ok.ns; omega) h.ne.1 hd hr).mono ?_
 rintro e W' ⟨rfl, hs, hc⟩
 rw [turned0_eq _ _ _ _ _ _ hd hr hi] at hs
 exact ⟨rfl, h.toSlots hc hs (turnL_len _ _ _ _ _) (turnL_right hd h.ok.rights), hc⟩
theorem q_empty (h : QAt W p m) (i : Nat) (iz : Int) (s : S) (hi : m.ss[i]? = some s) (hiz : iz = i) :
  Calls Tryz.prog 56 #[.pointer (some ⟨p.mb, 0, none⟩), .i iz] W fun e W' => (∃ v, e = .returned v) ∧ QAt W' p (m.empty i) ∧ Chg (fun k => k = p.sb) W W':=by
 subst hiz
 have hr:=h.ok.rights s (List.mem_of_getElem? hi)
 refine (qempty_any W p.mb p.sb m.ss i s h.hdr h.slots hi (by have:=h.ok.ns; omega)).mono ?_
 rintro e W' ⟨he, hs, hc⟩
 refine ⟨he, ?_, hc⟩
 unfold M.empty
 rw [M.slot_of hi]
 exact h.toSlots hc hs (by simp) (set_right h.ok.rights (emptied_right hr))
theorem q_leased (h : QAt W p m) (i : Nat) (iz : Int) (s : S) (hi : m.ss[i]? = some s) (hiz : iz = i) :
  Calls Tryz.prog 54 #[.pointer (some ⟨p.mb, 0, none⟩), .i iz] W fun e W' => e = .returned (m.leased i).val ∧ Below W.heap.size W W':=by
 subst hiz
 unfold M.leased
 rw [M.slot_of hi]
 exact qleased_any W p.mb p.sb m.ss i s h.hdr h.slots hi (by have:=h.ok.ns; omega)
theorem q_wnext (h : QAt W p m) : Calls Tryz.prog 87 #[.pointer (some ⟨p.wb, 0, none⟩)] W (QPost W p (.bool m.good) m.next):=by
 obtain ⟨g, b, hw⟩:=h.wld
 have key : ∀ (x : Bool) (l : List Bool), m.good = x → m.ahead.tail = l → Calls Tryz.prog 87 #[.pointer (some ⟨p.wb, 0, none⟩)] W (NPost W p.wb p.ov (.bool x) l) → Calls Tryz.prog 87 #[.pointer (some ⟨p.wb, 0, none⟩)] W (QPost W p (.bool m.good) m.next):=by
  intro x l hx hl hc
  refine hc.mono ?_
  rintro e W' ⟨rfl, v', g', b', hR, hF, hC⟩
  rw [← hx]
  refine ⟨rfl, p.lv, v', ?_, fun k hk => .inl hk, hF, hC.mono fun k _ hk => .inr (.inr (.inr (.inl hk)))⟩
  have hlen : l.length ≤ 1000:=by have:=h.ok.ahead; rw [← hl, List.length_tail]; omega
  have:=h.toWorld hR hlen hF hC
  unfold M.next
  rw [hl]
  exact this
 cases ha : m.ahead with
 | nil =>
  rw [ha] at hw
  exact key true [] (by simp [M.good, ha]) (by simp [ha]) (qnext_none W p.wb p.ov g b hw)
 | cons x l =>
  rw [ha] at hw
  exact key x l (by simp [M.good, ha]) (by simp [ha]) (qnext_some x W p.wb p.ov l g b hw)
end
end Go.Proofs.YtpmkgddjgebojaaGreatDoor.Mod
