/- Part 34 of the walks and plain laws that the last text joins. -/
import Derived.Test.YtpmkgddjgebojaaGreatDoorE29
import Derived.Test.YtpmkgddjgebojaaGreatDoorE32
import Derived.Test.YtpmkgddjgebojaaGreatDoorE33
set_option maxRecDepth 100000
set_option maxHeartbeats 16000000
set_option linter.unusedVariables false
set_option linter.unusedSimpArgs false
namespace Go.Proofs.YtpmkgddjgebojaaGreatDoor.Mod
open Go.RowKit Hp Slot RowL Life
def confOf (a b c d e : Int) : Conf.Cf:=⟨1 + a % 4, 1 + b % 5, c % 4, d % 4, 1 + e % 4⟩
theorem confOf_right (a b c d e : Int) : (confOf a b c d e).right = true:=by
 simp only [Conf.Cf.right, Conf.btw, confOf, Bool.and_eq_true]
 exact ⟨decide_eq_true (by omega), decide_eq_true (by omega), decide_eq_true (by omega), decide_eq_true (by omega), decide_eq_true (by omega)⟩
theorem conf_any (W : World) (a b c d e : Int) (ha : 0 ≤ a ∧ a < 256) (hb : 0 ≤ b ∧ b < 256) (hc : 0 ≤ c ∧ c < 256) (hd : 0 ≤ d ∧ d < 256) (he : 0 ≤ e ∧ e < 256) :
  Calls Tryz.prog 20 #[.agg #[.int .u8 a, .int .u8 b, .int .u8 c, .int .u8 d, .int .u8 e]] W fun en W' => en = .returned (confOf a b c d e).val ∧ Below W.heap.size W W':=by
 have hB : Below W.heap.size W ((W.alloc (.cells #[.int .u8 a, .int .u8 b, .int .u8 c, .int .u8 d, .int .u8 e] 49)).alloc (.cells (Aa 0 0 0 0 0) 23)):=((Below.refl _ _).alloc (Nat.le_refl _) _).alloc (by simp) _
 obtain ⟨a0, a1⟩:=ha
 obtain ⟨b0, b1⟩:=hb
 obtain ⟨c0, c1⟩:=hc
 obtain ⟨d0, d1⟩:=hd
 obtain ⟨e0, e1⟩:=he
 go_enter Tryz.func20, Tryz.ntmps20
 go_wp2
 have row : RowAt ((W.alloc (.cells #[.int .u8 a, .int .u8 b, .int .u8 c, .int .u8 d, .int .u8 e] 49)).alloc (.cells (confOf a b c d e).cells 23)) (W.heap.size + 1) (confOf a b c d e).cells 23:=by
  have:=RowAt.new (W.alloc (.cells #[.int .u8 a, .int .u8 b, .int .u8 c, .int .u8 d, .int .u8 e] 49)) (confOf a b c d e).cells 23
  simpa using this
 refine bodyPost_ret (results_row rfl _ _ (W.heap.size + 1) _ _ _ rfl row Tryz.underlying23 rfl (by kernel_rfl)) rfl ⟨rfl, ?_⟩
 exact ((Below.refl _ _).alloc (Nat.le_refl _) _).alloc (by simp) _
end Go.Proofs.YtpmkgddjgebojaaGreatDoor.Mod
namespace Go.Proofs.YtpmkgddjgebojaaGreatDoor.Mod
open Go.RowKit Hp Slot RowL Life R8
theorem q_shut {W : World} {p : Ql} {m : M} (h : QAt W p m) (who : Int) (a : Ask) (hop : a.op = 4) :
  Calls Tryz.prog 43 #[.pointer (some ⟨p.mb, 0, none⟩), .i who, a.val] W (QPost W p (m.shutS who a).1.val (m.shutS who a).2):=by
 have hR : RowKit.Hid (m.shutS who a = if m.owns who a ≠ 0 then (M.failed (m.owns who a), m) else if (Mod.next (m.slot a.slot.toNat) 15 who a.stream).isSome then ({ Ev.zero with stream:=a.stream }, m.turn a.slot.toNat 15 who a.stream) else (M.failed 11, m)):=rfl
 generalize m.shutS who a = R at *
 have hlt : p.mb < W.heap.size:=h.lt (.inl rfl)
 have how:=owns_has m who a
 have hos : RowKit.Hid (m.owns who a = 0 → m.closed ≠ 2 ∧ ∃ (n : Nat) (s : S), a.slot = n ∧ m.ss[n]? = some s ∧ s.state = 3 ∧ s.own = who ∧ s.gen = a.gen):=fun h => owns_zero h
 have hha:=fun W (h : QAt W p m) => q_has h who a
 generalize m.owns who a = q at *
 generalize m.hasL who a = b at *
 obtain ⟨op, dl, wt, fo, sl, ge, st⟩:=a
 simp only at hop
 subst hop
 simp only [Ask.val, Ask.cells] at *
 have hB : Below W.heap.size W ((W.alloc (.cells (Ad 4 dl wt fo sl ge st) 25)).alloc (.cells Zv 36)):=((Below.refl _ _).alloc (Nat.le_refl _) _).alloc (by simp) _
 have r0 : Rq W.heap.size ((W.alloc (.cells (Ad 4 dl wt fo sl ge st) 25)).alloc (.cells Zv 36)) p ((W.alloc (.cells (Ad 4 dl wt fo sl ge st) 25)).alloc (.cells Zv 36)) p m:=Rq.begin h hB
 have e0 : ERow ((W.alloc (.cells (Ad 4 dl wt fo sl ge st) 25)).alloc (.cells Zv 36)) (W.heap.size + 1):=⟨Zv, rfl, heap_alloc2_new W _ _⟩
 have hg1 : W.heap.size + 1 < ((W.alloc (.cells (Ad 4 dl wt fo sl ge st) 25)).alloc (.cells Zv 36)).heap.size:=by simp
 have hg0 : W.heap.size ≤ W.heap.size + 1:=by omega
 have a0 : RowAt ((W.alloc (.cells (Ad 4 dl wt fo sl ge st) 25)).alloc (.cells Zv 36)) W.heap.size (Ad 4 dl wt fo sl ge st) 25:=heap_alloc2_old W _ _
 have ho:=hha _ r0.at'
 have HOW:=Lib.hid how
 have l0:=a0.cell 0
 clear hha how h
 go_enter Tryz.func43, Tryz.ntmps43
 go_upto_region 1 with (fail)
 generalize hw0 : ((W.alloc (.cells (Ad 4 dl wt fo sl ge st) 25)).alloc (.cells Zv 36)) = wb at *
 clear hw0 l0
 refine wp_region_lit ?_
 refine RowL.gl (.pointer (some ⟨p.mb, 0, none⟩)) ?_ (by go_simp; try rfl)
 refine RowL.gl (.i who) ?_ (by go_simp; try rfl)
 refine RowL.grow a0 25 (.tmp 5) Tryz.underlying25 ?_
 go_wp2_with fail
 refine ho.mono ?_
 rintro e w1 ⟨rfl, hb1⟩
 have r1:=r0.below hb1
 have e1:=e0.below hb1
 have a1:=a0.below hb1
 have k8:=r1.at'.hd.c8
 rw [r1.mb] at k8
 clear ho hb1 r0 e0 a0
 by_cases hc2 : m.closed = 2
 ·have HR2 : RowKit.Hid (R = (M.failed 5, m)):=Lib.hid (by have h1:=HOW.out; rw [if_pos hc2] at h1; rw [hR.out, h1, if_pos (by simp)])
  rw [hc2] at k8
  clear hos hR a1 hc2 HOW
  go_upto_region 3 with (fail)
  obtain ⟨Z, z1, z2⟩:=e1
  refine wp_region_lit ?_
  refine RowL.gl ((M.failed 5)).val ?_ (by go_simp; try rfl)
  refine RowL.gSt z2 ((M.failed 5)).cells 36 (.tmp 6) (.tmp 22) ?_ (hsz:=z1) (h1:=ev_one _)
  go_wp2_with fail
  refine bR1 (W.heap.size + 1) (z2.set _) Tryz.underlying36 ?_
  rw [HR2.out]
  exact (r1.row hg0 hg1 _).fin hB _
 have hc2' : (m.closed == 2) = false:=by simpa using hc2
 cases b
 ·have HR2 : RowKit.Hid (R = (M.failed 2, m)):=Lib.hid (by have h1:=HOW.out; rw [if_neg hc2, if_neg (by simp)] at h1; rw [hR.out, h1, if_pos (by simp)])
  clear hos hR a1 hc2 HOW
  go_upto_region 5 with (fail)
  obtain ⟨Z, z1, z2⟩:=e1
  refine wp_region_lit ?_
  refine RowL.gl ((M.failed 2)).val ?_ (by go_simp; try rfl)
  refine RowL.gSt z2 ((M.failed 2)).cells 36 (.tmp 6) (.tmp 25) ?_ (hsz:=z1) (h1:=ev_one _)
  go_wp2_with fail
  refine bR1 (W.heap.size + 1) (z2.set _) Tryz.underlying36 ?_
  rw [HR2.out]
  exact (r1.row hg0 hg1 _).fin hB _
 have hq : q = 0:=by have h1:=HOW.out; rw [if_neg hc2, if_pos rfl] at h1; exact h1
 obtain ⟨hcl2, n, s, hn, hs, hs3, hso, hsg⟩:=hos.out hq
 try simp only at hn hsg
 subst hn
 have HS:=Lib.hid hs
 have hsl : m.slot n = s:=M.slot_of hs
 have HR:=Lib.hid hR.out
 rw [if_neg (by first | simp [hq] | exact fun e => e hq | exact not_not_intro hq)] at HR
 try simp only [Int.toNat_natCast, hsl] at HR
 have hil : n < m.ss.length:=(List.getElem?_eq_some_iff.1 hs).1
 have hns:=r1.at'.ok.ns
 have b0 : (0 : Int) ≤ (n : Int):=by omega
 have b1 : (n : Int) < (m.ss.length : Int):=by omega
 have b2 : (n : Int) ≤ (m.ss.length : Int) - 1:=by omega
 clear hos hR hq hs hsl hil HOW hc2 hcl2
 have k5:=r1.at'.hd.c5
 rw [r1.mb, r1.sb] at k5
 have kA : w1.cell? ⟨W.heap.size, 4, none⟩ = some (.i n):=a1.cell 4
 have hd:=r1.at'.slots.get HS.out
 rw [r1.sb] at hd
 obtain ⟨s0, s1, s2, s3, s4, s5, s6, s7, s8⟩:=s
 try simp only at hs3 hso hsg HR hd
 have HS3:=Lib.hid hs3
 have HSO:=Lib.hid hso
 have HSG:=Lib.hid hsg
 clear hs3 hso hsg
 obtain ⟨d0, d1, d2, d3, d4, d5, d6, d7, d8⟩:=hd
 have L5 : ∀ w', Below w1.heap.size w1 w' → w'.cell? ⟨p.mb, 5, none⟩ = some (.slice (some ⟨p.sb, 0, none⟩) m.ss.length m.ss.length):=fun w' h => Field.bkeep h k5
 have LA : ∀ w', Below w1.heap.size w1 w' → w'.cell? ⟨W.heap.size, 4, none⟩ = some (.i n):=fun w' h => Field.bkeep h kA
 have Ls0 : ∀ w', Below w1.heap.size w1 w' → w'.cell? ⟨p.sb, n * 9, none⟩ = some (.i s0):=fun w' h => Field.bkeep h d0
 have Ls1 : ∀ w', Below w1.heap.size w1 w' → w'.cell? ⟨p.sb, n * 9 + 1, none⟩ = some (.i s1):=fun w' h => Field.bkeep h d1
 have Ls2 : ∀ w', Below w1.heap.size w1 w' → w'.cell? ⟨p.sb, n * 9 + 2, none⟩ = some (.i s2):=fun w' h => Field.bkeep h d2
 have Ls3 : ∀ w', Below w1.heap.size w1 w' → w'.cell? ⟨p.sb, n * 9 + 3, none⟩ = some (.bool s3):=fun w' h => Field.bkeep h d3
 have Ls4 : ∀ w', Below w1.heap.size w1 w' → w'.cell? ⟨p.sb, n * 9 + 4, none⟩ = some (.bool s4):=fun w' h => Field.bkeep h d4
 have Ls5 : ∀ w', Below w1.heap.size w1 w' → w'.cell? ⟨p.sb, n * 9 + 5, none⟩ = some (.i s5):=fun w' h => Field.bkeep h d5
 have Ls6 : ∀ w', Below w1.heap.size w1 w' → w'.cell? ⟨p.sb, n * 9 + 6, none⟩ = some (.i s6):=fun w' h => Field.bkeep h d6
 have Ls7 : ∀ w', Below w1.heap.size w1 w' → w'.cell? ⟨p.sb, n * 9 + 7, none⟩ = some (.i s7):=fun w' h => Field.bkeep h d7
 have Ls8 : ∀ w', Below w1.heap.size w1 w' → w'.cell? ⟨p.sb, n * 9 + 8, none⟩ = some (.i s8):=fun w' h => Field.bkeep h d8
 have hKd : Below w1.heap.size w1 w1.drew:=(Below.refl _ _).drew
 clear d0 d1 d2 d3 d4 d5 d6 d7 d8 kA k5
 go_upto_region 6 with (fail)
 go_region_held3 (fun w' => Below w1.heap.size w1 w') (first | assumption | exact ((Below.refl _ _).alloc (Nat.le_refl _) _) | exact ((Below.refl _ _).alloc (Nat.le_refl _) _).drew | exact ((Below.refl _ _).drew.alloc (Nat.le_refl _) _)) (fail)
 clear L5 LA Ls0 Ls1 Ls2 Ls3 Ls4 Ls5 Ls6 Ls7 Ls8 b0 b1 b2 hKd
 have hb2 : Below w1.heap.size w1 ((w1.alloc (.cells (Ac s0 s1 s2 s3 s4 s5 s6 s7 s8) 59)).drew):=((Below.refl _ _).alloc (Nat.le_refl _) _).drew
 have r2:=r1.below hb2
 have e2:=e1.below hb2
 have a2:=a1.below hb2
 have q2 : RowAt ((w1.alloc (.cells (Ac s0 s1 s2 s3 s4 s5 s6 s7 s8) 59)).drew) w1.heap.size (Ac s0 s1 s2 s3 s4 s5 s6 s7 s8) 59:=RowAt.new w1 _ _
 have hgs : W.heap.size + 1 < w1.heap.size:=Nat.lt_of_lt_of_le hg1 r1.size
 clear hb2 r1 e1 a1
 generalize hwz : (w1.alloc (.cells (Ac s0 s1 s2 s3 s4 s5 s6 s7 s8) 59)).drew = w2 at *
 clear hwz
 have kS : w2.cell? ⟨w1.heap.size, 2, none⟩ = some (.i s2):=q2.cell 2
 have kb : w2.cell? ⟨w1.heap.size, 3, none⟩ = some (.bool s3):=q2.cell 3
 have kU : w2.cell? ⟨w1.heap.size, 5, none⟩ = some (.i s5):=q2.cell 5
 have kO : w2.cell? ⟨W.heap.size, 0, none⟩ = some (.i 4):=a2.cell 0
 have ht:=q_do r2.at' n 15 n 15 who st _ HS.out rfl rfl (by simp [Done])
 rw [r2.mb] at ht
 have kA:=a2.cell 4
 have kT:=a2.cell 6
 clear kS kb kU q2
 cases hok : Mod.next ⟨s0, s1, s2, s3, s4, s5, s6, s7, s8⟩ 15 who st with
 | none =>
  rw [hok] at ht
  have HR2 : RowKit.Hid (R = (M.failed 11, m)):=Lib.hid (by rw [HR.out, if_neg (by rw [hok]; simp)])
  have HTN:=Lib.hid (turn_none HS.out hok)
  clear hok HR k8
  go_wp2_with fail
  refine ht.mono ?_
  rintro e w4 ⟨rfl, h4, hc4⟩
  rw [HTN.out] at h4
  have r4:=r2.slots h4 hc4
  have e4:=e2.chg hc4 (fun e => r2.not hg0 hg1 (.inr (.inl e)))
  clear ht h4 hc4 r2 e2 a2 kA kT
  go_upto_region 31 with (fail)
  obtain ⟨Z, z1, z2⟩:=e4
  refine wp_region_lit ?_
  refine RowL.gl ((M.failed 11)).val ?_ (by go_simp; try rfl)
  refine RowL.gSt z2 ((M.failed 11)).cells 36 (.tmp 6) (.tmp 125) ?_ (hsz:=z1) (h1:=ev_one _)
  go_wp2_with fail
  refine bR1 (W.heap.size + 1) (z2.set _) Tryz.underlying36 ?_
  rw [HR2.out]
  exact (r4.row hg0 hg1 _).fin hB _
 | some t =>
  rw [hok] at ht
  have HR2 : RowKit.Hid (R = ({ Ev.zero with stream:=st }, m.turn n 15 who st)):=Lib.hid (by rw [HR.out, if_pos (by rw [hok]; rfl)])
  clear hok HR k8
  go_wp2_with fail
  refine ht.mono ?_
  rintro e w4 ⟨rfl, h4, hc4⟩
  have r4:=r2.slots h4 hc4
  have e4:=e2.chg hc4 (fun e => r2.not hg0 hg1 (.inr (.inl e)))
  have a4:=a2.chg hc4 (fun e => r2.not (Nat.le_refl _) (Nat.lt_trans (Nat.lt_succ_self _) hg1) (.inr (.inl e)))
  have k6:=a4.cell 6
  clear ht h4 hc4 r2 e2 a2 kA kT a4
  go_upto_region 32 with (fail)
  obtain ⟨Z, z1, z2⟩:=e4
  refine wp_region_lit ?_
  refine RowL.gl (.pointer (some ⟨W.heap.size, 6, none⟩)) ?_ (by go_simp; try rfl)
  refine RowL.gl (.i st) ?_ (by go_simp; try rfl)
  refine RowL.gl (({ Ev.zero with stream:=st } : Ev)).val ?_ (by go_simp; try rfl)
  refine RowL.gSt z2 (({ Ev.zero with stream:=st } : Ev)).cells 36 (.tmp 6) (.tmp 128) ?_ (hsz:=z1) (h1:=ev_one _)
  go_wp2_with fail
  refine bR1 (W.heap.size + 1) (z2.set _) Tryz.underlying36 ?_
  rw [HR2.out]
  exact (r4.row hg0 hg1 _).fin hB _
theorem qright_any (w : World) (c : Conf.Cf) : Calls Tryz.prog 37 #[c.val] w fun e w' => e = .returned (.bool c.right) ∧ Below w.heap.size w w':=by
 have HR : RowKit.Hid (c.right = decide ((1 ≤ c.workers ∧ c.workers ≤ 8) ∧ (1 ≤ c.slots ∧ c.slots ≤ 16) ∧ (0 ≤ c.streams ∧ c.streams ≤ 8) ∧ (0 ≤ c.waiters ∧ c.waiters ≤ 8) ∧ (1 ≤ c.uses ∧ c.uses ≤ 60))):=Lib.hid (by
  unfold Conf.Cf.right Conf.btw
  rw [Bool.eq_iff_iff]
  simp)
 generalize c.right = r at *
 obtain ⟨c1, c2, c3, c4, c5⟩:=c
 simp only [Conf.Cf.val, Conf.Cf.cells] at *
 have hB : Below w.heap.size w (w.alloc (.cells (Aa c1 c2 c3 c4 c5) 23)):=(Below.refl _ _).alloc (Nat.le_refl _) _
 by_cases h0 : c1 < 1
 ·skip
  go_enter Tryz.func37, Tryz.ntmps37
  go_wp2_with fail
  go_ret
  exact ⟨Base.ret_bool (by rw [HR.out]; symm; rw [decide_eq_false_iff_not]; omega), hB⟩
 by_cases h1 : 8 < c1
 ·skip
  go_enter Tryz.func37, Tryz.ntmps37
  go_wp2_with fail
  go_ret
  exact ⟨Base.ret_bool (by rw [HR.out]; symm; rw [decide_eq_false_iff_not]; omega), hB⟩
 by_cases h2 : c2 < 1
 ·skip
  go_enter Tryz.func37, Tryz.ntmps37
  go_wp2_with fail
  go_ret
  exact ⟨Base.ret_bool (by rw [HR.out]; symm; rw [decide_eq_false_iff_not]; omega), hB⟩
 by_cases h3 : 16 < c2
 ·skip
  go_enter Tryz.func37, Tryz.ntmps37
  go_wp2_with fail
  go_ret
  exact ⟨Base.ret_bool (by rw [HR.out]; symm; rw [decide_eq_false_iff_not]; omega), hB⟩
 by_cases h4 : 0 ≤ c3
 rotate_left
 ·skip
  go_enter Tryz.func37, Tryz.ntmps37
  go_wp2_with fail
  go_ret
  exact ⟨Base.ret_bool (by rw [HR.out]; symm; rw [decide_eq_false_iff_not]; omega), hB⟩
 by_cases h5 : c3 ≤ 8
 rotate_left
 ·skip
  go_enter Tryz.func37, Tryz.ntmps37
  go_wp2_with fail
  go_ret
  exact ⟨Base.ret_bool (by rw [HR.out]; symm; rw [decide_eq_false_iff_not]; omega), hB⟩
 by_cases h6 : 0 ≤ c4
 rotate_left
 ·skip
  go_enter Tryz.func37, Tryz.ntmps37
  go_wp2_with fail
  go_ret
  exact ⟨Base.ret_bool (by rw [HR.out]; symm; rw [decide_eq_false_iff_not]; omega), hB⟩
 by_cases h7 : c4 ≤ 8
 rotate_left
 ·skip
  go_enter Tryz.func37, Tryz.ntmps37
  go_wp2_with fail
  go_ret
  exact ⟨Base.ret_bool (by rw [HR.out]; symm; rw [decide_eq_false_iff_not]; omega), hB⟩
 by_cases h8 : 1 ≤ c5
 rotate_left
 ·skip
  go_enter Tryz.func37, Tryz.ntmps37
  go_wp2_with fail
  go_ret
  exact ⟨Base.ret_bool (by rw [HR.out]; symm; rw [decide_eq_false_iff_not]; omega), hB⟩
 by_cases h9 : c5 ≤ 60
 rotate_left
 ·skip
  go_enter Tryz.func37, Tryz.ntmps37
  go_wp2_with fail
  go_ret
  exact ⟨Base.ret_bool (by rw [HR.out]; symm; rw [decide_eq_false_iff_not]; omega), hB⟩
 go_enter Tryz.func37, Tryz.ntmps37
 go_wp2_with fail
 go_ret
 exact ⟨Base.ret_bool (by rw [HR.out]; symm; rw [decide_eq_true_iff]; omega), hB⟩
theorem mk_q1 (W : World) : (Instr.makeSlice 63 (.i 1) (.i 1)).run Tryz.prog W = .ok (.slice (some ⟨W.heap.size, 0, none⟩) 1 1) (W.alloc (.cells (rowsOf (wcells Wk.zero) 1) 97)):=by kernel_rfl
theorem mk_q2 (W : World) : (Instr.makeSlice 63 (.i 2) (.i 2)).run Tryz.prog W = .ok (.slice (some ⟨W.heap.size, 0, none⟩) 2 2) (W.alloc (.cells (rowsOf (wcells Wk.zero) 2) 97)):=by kernel_rfl
theorem mk_q3 (W : World) : (Instr.makeSlice 63 (.i 3) (.i 3)).run Tryz.prog W = .ok (.slice (some ⟨W.heap.size, 0, none⟩) 3 3) (W.alloc (.cells (rowsOf (wcells Wk.zero) 3) 97)):=by kernel_rfl
theorem mk_q4 (W : World) : (Instr.makeSlice 63 (.i 4) (.i 4)).run Tryz.prog W = .ok (.slice (some ⟨W.heap.size, 0, none⟩) 4 4) (W.alloc (.cells (rowsOf (wcells Wk.zero) 4) 97)):=by kernel_rfl
theorem mk_q5 (W : World) : (Instr.makeSlice 63 (.i 5) (.i 5)).run Tryz.prog W = .ok (.slice (some ⟨W.heap.size, 0, none⟩) 5 5) (W.alloc (.cells (rowsOf (wcells Wk.zero) 5) 97)):=by kernel_rfl
theorem mk_q6 (W : World) : (Instr.makeSlice 63 (.i 6) (.i 6)).run Tryz.prog W = .ok (.slice (some ⟨W.heap.size, 0, none⟩) 6 6) (W.alloc (.cells (rowsOf (wcells Wk.zero) 6) 97)):=by kernel_rfl
theorem mk_q7 (W : World) : (Instr.makeSlice 63 (.i 7) (.i 7)).run Tryz.prog W = .ok (.slice (some ⟨W.heap.size, 0, none⟩) 7 7) (W.alloc (.cells (rowsOf (wcells Wk.zero) 7) 97)):=by kernel_rfl
theorem mk_q8 (W : World) : (Instr.makeSlice 63 (.i 8) (.i 8)).run Tryz.prog W = .ok (.slice (some ⟨W.heap.size, 0, none⟩) 8 8) (W.alloc (.cells (rowsOf (wcells Wk.zero) 8) 97)):=by kernel_rfl
theorem mk_waits (n : Nat) (h1 : 1 ≤ n) (h2 : n ≤ 8) (W : World) : (Instr.makeSlice 63 (.i n) (.i n)).run Tryz.prog W = .ok (.slice (some ⟨W.heap.size, 0, none⟩) n n) (W.alloc (.cells (rowsOf (wcells Wk.zero) n) 97)):=by
 have h : n = 1 ∨ n = 2 ∨ n = 3 ∨ n = 4 ∨ n = 5 ∨ n = 6 ∨ n = 7 ∨ n = 8:=by omega
 rcases h with rfl | rfl | rfl | rfl | rfl | rfl | rfl | rfl
 ·exact mk_q1 W
 ·exact mk_q2 W
 ·exact mk_q3 W
 ·exact mk_q4 W
 ·exact mk_q5 W
 ·exact mk_q6 W
 ·exact mk_q7 W
 ·exact mk_q8 W
structure Mq (W w : World) (wn sn : Nat) (b3 b6 b8 : Bool) (sb kb wb : Nat) : Prop where
 bel : Below W.heap.size W w
 fs : b3 = true → W.heap.size < sb ∧ w.heap[sb]? = some (.cells (rowsOf S.zero.cells sn) 59)
 fk : b6 = true → W.heap.size < kb ∧ w.heap[kb]? = some (.cells (rowsOf (wcells Wk.zero) wn) 97)
 fw : b8 = true → W.heap.size < wb ∧ w.heap[wb]? = some (.cells #[.slice none 0 0, .i 0, .i 0] 88)
 tag : ∃ t : Nat → Nat, (b3 = true → t sb = 2) ∧ (b6 = true → t kb = 3) ∧ (b8 = true → t wb = 5)
 lt : W.heap.size < w.heap.size
section
variable {W w w' : World} {wn sn : Nat} {b3 b6 b8 : Bool} {sb kb wb : Nat}
theorem Mq.below (h : Mq W w wn sn b3 b6 b8 sb kb wb) (hb : Below w.heap.size w w') : Mq W w' wn sn b3 b6 b8 sb kb wb :=
 ⟨h.bel.trans (hb.mono h.bel.size), fun e => ⟨(h.fs e).1, (hb.block sb (Array.getElem?_eq_some_iff.1 (h.fs e).2).1).trans (h.fs e).2⟩, fun e => ⟨(h.fk e).1, (hb.block kb (Array.getElem?_eq_some_iff.1 (h.fk e).2).1).trans (h.fk e).2⟩,
  fun e => ⟨(h.fw e).1, (hb.block wb (Array.getElem?_eq_some_iff.1 (h.fw e).2).1).trans (h.fw e).2⟩, h.tag, Nat.lt_of_lt_of_le h.lt hb.size⟩
theorem Mq.adds (h : Mq W w wn sn false b6 b8 sb kb wb) : Mq W (w.alloc (.cells (rowsOf S.zero.cells sn) 59)) wn sn true b6 b8 w.heap.size kb wb:=by
 have hb : Below w.heap.size w (w.alloc (.cells (rowsOf S.zero.cells sn) 59)):=(Below.refl _ _).alloc (Nat.le_refl _) _
 have h2:=h.below hb
 obtain ⟨t, -, t3, t5⟩:=h.tag
 refine ⟨h2.bel, fun _ => ⟨h.lt, heap_alloc_new _ _⟩, h2.fk, h2.fw, ⟨fun k => if k < w.heap.size then t k else 2, fun _ => by simp, fun e => ?_, fun e => ?_⟩, h2.lt⟩
 ·have:=(Array.getElem?_eq_some_iff.1 (h.fk e).2).1; simp [this, t3 e]
 ·have:=(Array.getElem?_eq_some_iff.1 (h.fw e).2).1; simp [this, t5 e]
theorem Mq.addk (h : Mq W w wn sn b3 false b8 sb kb wb) : Mq W (w.alloc (.cells (rowsOf (wcells Wk.zero) wn) 97)) wn sn b3 true b8 sb w.heap.size wb:=by
 have hb : Below w.heap.size w (w.alloc (.cells (rowsOf (wcells Wk.zero) wn) 97)):=(Below.refl _ _).alloc (Nat.le_refl _) _
 have h2:=h.below hb
 obtain ⟨t, t2, -, t5⟩:=h.tag
 refine ⟨h2.bel, h2.fs, fun _ => ⟨h.lt, heap_alloc_new _ _⟩, h2.fw, ⟨fun k => if k < w.heap.size then t k else 3, fun e => ?_, fun _ => by simp, fun e => ?_⟩, h2.lt⟩
 ·have:=(Array.getElem?_eq_some_iff.1 (h.fs e).2).1; simp [this, t2 e]
 ·have:=(Array.getElem?_eq_some_iff.1 (h.fw e).2).1; simp [this, t5 e]
theorem Mq.addw (h : Mq W w wn sn b3 b6 false sb kb wb) : Mq W (w.alloc (.cells #[.slice none 0 0, .i 0, .i 0] 88)) wn sn b3 b6 true sb kb w.heap.size:=by
 have hb : Below w.heap.size w (w.alloc (.cells #[.slice none 0 0, .i 0, .i 0] 88)):=(Below.refl _ _).alloc (Nat.le_refl _) _
 have h2:=h.below hb
 obtain ⟨t, t2, t3, -⟩:=h.tag
 refine ⟨h2.bel, h2.fs, h2.fk, fun _ => ⟨h.lt, heap_alloc_new _ _⟩, ⟨fun k => if k < w.heap.size then t k else 5, fun e => ?_, fun e => ?_, fun _ => by simp⟩, h2.lt⟩
 ·have:=(Array.getElem?_eq_some_iff.1 (h.fs e).2).1; simp [this, t2 e]
 ·have:=(Array.getElem?_eq_some_iff.1 (h.fk e).2).1; simp [this, t3 e]
end
theorem zeroN (z : Array Value) (N : Nat) (hz : z.size = N) {W : World} {b n : Nat} {T : TypeId} (h : W.heap[b]? = some (.cells (rowsOf z n) T)) (i j : Nat) (hi : i < n) (hj : j < N) : W.cell? ⟨b, i * N + j, none⟩ = z[j]? ∧ W.frozen? ⟨b, i * N + j, none⟩ = false:=by
 have h1:=cell_of_row W b (i * N + j) (rowsOf z n) T (0, 0) h
 have h2:=rowsOf_get z n i j hi (by omega)
 rw [hz] at h2
 exact ⟨h1.trans h2, by simp [World.frozen?, h]⟩
theorem mk_qat {W w : World} {wn sn : Nat} {st wa us : Int} {sb kb wb : Nat} (hc : (⟨wn, sn, st, wa, us⟩ : Conf.Cf).right = true) (hM : Mq W w wn sn true true true sb kb wb) :
  ∃ p : Ql, Ending.returned (.pointer (some ⟨w.heap.size, 0, none⟩)) = .returned (.pointer (some ⟨p.mb, 0, none⟩)) ∧ QAt (w.alloc (.cells #[.i (wn : Int), .i (sn : Int), .i st, .i wa, .i us, .slice (some ⟨sb, 0, none⟩) sn sn, .slice (some ⟨kb, 0, none⟩) wn wn, .slice none 0 0, .i 0, .i 0, .pointer (some ⟨wb, 0, none⟩)] 66)) p (M.new ⟨wn, sn, st, wa, us⟩) ∧ (∀ k, qfp p k → W.heap.size ≤ k) ∧ Below W.heap.size W (w.alloc (.cells #[.i (wn : Int), .i (sn : Int), .i st, .i wa, .i us, .slice (some ⟨sb, 0, none⟩) sn sn, .slice (some ⟨kb, 0, none⟩) wn wn, .slice none 0 0, .i 0, .i 0, .pointer (some ⟨wb, 0, none⟩)] 66)):=by
 obtain ⟨hs1, hs2⟩:=hM.fs rfl
 obtain ⟨hk1, hk2⟩:=hM.fk rfl
 obtain ⟨hw1, hw2⟩:=hM.fw rfl
 obtain ⟨t, t2, t3, t5⟩:=hM.tag
 have hlt:=hM.lt
 have l2:=(Array.getElem?_eq_some_iff.1 hs2).1
 have l3:=(Array.getElem?_eq_some_iff.1 hk2).1
 have l5:=(Array.getElem?_eq_some_iff.1 hw2).1
 have hbA : Below w.heap.size w (w.alloc (.cells #[.i (wn : Int), .i (sn : Int), .i st, .i wa, .i us, .slice (some ⟨sb, 0, none⟩) sn sn, .slice (some ⟨kb, 0, none⟩) wn wn, .slice none 0 0, .i 0, .i 0, .pointer (some ⟨wb, 0, none⟩)] 66)):=(Below.refl _ _).alloc (Nat.le_refl _) _
 have row : RowAt (w.alloc (.cells #[.i (wn : Int), .i (sn : Int), .i st, .i wa, .i us, .slice (some ⟨sb, 0, none⟩) sn sn, .slice (some ⟨kb, 0, none⟩) wn wn, .slice none 0 0, .i 0, .i 0, .pointer (some ⟨wb, 0, none⟩)] 66)) w.heap.size #[.i (wn : Int), .i (sn : Int), .i st, .i wa, .i us, .slice (some ⟨sb, 0, none⟩) sn sn, .slice (some ⟨kb, 0, none⟩) wn wn, .slice none 0 0, .i 0, .i 0, .pointer (some ⟨wb, 0, none⟩)] 66:=RowAt.new _ _ _
 have hcc:=hc
 simp [Conf.Cf.right, Conf.btw] at hcc
 have e2:=(hbA.block sb l2).trans hs2
 have e3:=(hbA.block kb l3).trans hk2
 have e5 : RowAt (w.alloc (.cells #[.i (wn : Int), .i (sn : Int), .i st, .i wa, .i us, .slice (some ⟨sb, 0, none⟩) sn sn, .slice (some ⟨kb, 0, none⟩) wn wn, .slice none 0 0, .i 0, .i 0, .pointer (some ⟨wb, 0, none⟩)] 66)) wb #[.slice none 0 0, .i 0, .i 0] 88:=(hbA.block wb l5).trans hw2
 have hBW:=hM.bel.trans (hbA.mono hM.bel.size)
 refine ⟨⟨w.heap.size, sb, kb, wb, .slice none 0 0, .slice none 0 0⟩, rfl, ⟨⟨fun k => if k < w.heap.size then t k else 1, ?_, ?_, ?_, ?_, ?_⟩, ?_, ?_, ?_, ⟨0, 0, ⟨e5.cell 0, e5.cell 1, e5.cell 2, e5.frozen 0, e5.frozen 1, e5.frozen 2, ownS_nil _ _, fun hk => (fp_nil _ hk).elim⟩⟩, ownS_nil _ _, ?_⟩, ?_, hBW⟩
 ·show (if w.heap.size < w.heap.size then t w.heap.size else 1) = 1
  rw [if_neg (by omega)]
 ·show (if sb < w.heap.size then t sb else 1) = 2
  rw [if_pos l2]; exact t2 rfl
 ·show (if kb < w.heap.size then t kb else 1) = 3
  rw [if_pos l3]; exact t3 rfl
 ·intro k hk
  rcases hk with hk | hk
  ·obtain rfl : k = wb:=hk
   show (if k < w.heap.size then t k else 1) = 5
   rw [if_pos l5]; exact t5 rfl
  ·exact (fp_nil _ hk).elim
 ·intro k hk; exact (fp_nil _ hk).elim
 ·have hz1 : (M.new ⟨wn, sn, st, wa, us⟩).ss.length = sn:=by simp [M.new]
  have hz2 : (M.new ⟨wn, sn, st, wa, us⟩).ks.length = wn:=by simp [M.new]
  rw [hz1, hz2]
  exact ⟨row.cell 0, row.cell 1, row.cell 2, row.cell 3, row.cell 4, row.cell 5, row.cell 6, row.cell 7, row.cell 8, row.cell 9, row.cell 10, row.frozen 7, row.frozen 8, row.frozen 9⟩
 ·refine ⟨fun i s hs j v hv => ?_, fun i j hi hj => ?_⟩
  ·have hi : i < sn:=by have:=(List.getElem?_eq_some_iff.1 hs).1; simpa [M.new] using this
   have hj : j < 9:=by have:=(Array.getElem?_eq_some_iff.1 hv).1; simpa [S.cells] using this
   obtain rfl : s = S.zero:=by have:=List.mem_of_getElem? hs; simpa [M.new] using (List.mem_replicate.1 this).2
   exact (zeroN S.zero.cells 9 rfl e2 i j hi hj).1.trans hv
  ·exact (zeroN S.zero.cells 9 rfl e2 i j (by simpa [M.new] using hi) hj).2
 ·refine ⟨fun i s hs j v hv => ?_, fun i j hi hj => ?_⟩
  ·have hi : i < wn:=by have:=(List.getElem?_eq_some_iff.1 hs).1; simpa [M.new] using this
   have hj : j < 10:=by have:=(Array.getElem?_eq_some_iff.1 hv).1; simpa [wcells] using this
   obtain rfl : s = Wk.zero:=by have:=List.mem_of_getElem? hs; simpa [M.new] using (List.mem_replicate.1 this).2
   exact (zeroN (wcells Wk.zero) 10 rfl e3 i j hi hj).1.trans hv
  ·exact (zeroN (wcells Wk.zero) 10 rfl e3 i j (by simpa [M.new] using hi) hj).2
 ·refine ⟨hc, by simp [M.new], by simp [M.new], fun s hs => ?_, fun x hx => by simp [M.new] at hx, by simp [M.new], fun k hk h2 => ?_, .inl rfl, by simp [M.new], by simp [M.new]⟩
  ·obtain rfl : s = S.zero:=by simpa [M.new] using (List.mem_replicate.1 hs).2
   exact zero_right
  ·obtain rfl : k = Wk.zero:=by simpa [M.new] using (List.mem_replicate.1 hk).2
   cases h2
 ·rintro k (hk | hk | hk | hk | hk)
  ·have : k = w.heap.size:=hk
   omega
  ·have : k = sb:=hk
   omega
  ·have : k = kb:=hk
   omega
  ·rcases hk with hk | hk
   ·have : k = wb:=hk
    omega
   ·exact (fp_nil _ hk).elim
  ·exact (fp_nil _ hk).elim
theorem q_new (W : World) (c : Conf.Cf) (hc : c.right = true) : Calls Tryz.prog 13 #[c.val] W fun e W' =>
  ∃ p : Ql, e = .returned (.pointer (some ⟨p.mb, 0, none⟩)) ∧ QAt W' p (M.new c) ∧ (∀ k, qfp p k → W.heap.size ≤ k) ∧ Below W.heap.size W W':=by
 have hr:=qright_any (W.alloc (.cells c.cells 23)) c
 rw [hc] at hr
 obtain ⟨wo, sl, st, wa, us⟩:=c
 have hcc:=hc
 simp [Conf.Cf.right, Conf.btw] at hcc
 obtain ⟨wn, rfl⟩:=Int.eq_ofNat_of_zero_le (show 0 ≤ wo by omega)
 obtain ⟨sn, rfl⟩:=Int.eq_ofNat_of_zero_le (show 0 ≤ sl by omega)
 have hsn : 1 ≤ sn ∧ sn ≤ 16:=by omega
 have hwn : 1 ≤ wn ∧ wn ≤ 8:=by omega
 have HC:=Lib.hid hc
 clear hcc hc
 simp only [Conf.Cf.val, Conf.Cf.cells] at *
 have hB0 : Below W.heap.size W (W.alloc (.cells (Aa (wn : Int) (sn : Int) st wa us) 23)):=(Below.refl _ _).alloc (Nat.le_refl _) _
 have a0 : RowAt (W.alloc (.cells (Aa (wn : Int) (sn : Int) st wa us) 23)) W.heap.size (Aa (wn : Int) (sn : Int) st wa us) 23:=RowAt.new _ _ _
 go_enter Tryz.func13, Tryz.ntmps13
 go_wp2_with fail
 refine hr.mono ?_
 rintro e w1 ⟨rfl, hb1⟩
 have hB1:=hB0.trans (hb1.mono hB0.size)
 have a1:=a0.below hb1
 have hl1 : W.heap.size < w1.heap.size:=(Array.getElem?_eq_some_iff.1 a1).1
 clear hr hb1 hB0 a0
 have LA : ∀ w', Below w1.heap.size w1 w' → RowAt w' W.heap.size (Aa (wn : Int) (sn : Int) st wa us) 23:=fun w' h => a1.below h
 have LA0 : ∀ w', Below w1.heap.size w1 w' → w'.cell? ⟨W.heap.size, 0, none⟩ = some (.i (wn : Int)):=fun w' h => (LA w' h).cell 0
 have LA1 : ∀ w', Below w1.heap.size w1 w' → w'.cell? ⟨W.heap.size, 1, none⟩ = some (.i (sn : Int)):=fun w' h => (LA w' h).cell 1
 have hKd : Below w1.heap.size w1 w1.drew:=(Below.refl _ _).drew
 have hM0 : Mq W w1.drew wn sn false false false 0 0 0:=⟨hB1.drew, nofun, nofun, nofun, ⟨fun _ => 0, nofun, nofun, nofun⟩, hl1⟩
 go_upto_region 4 with (fail)
 refine wp_region_held_drew (S:=fun w' => Below w1.heap.size w1 w') (by kernel_rfl) (by exact hKd) (fun hHeld => ?_)
 refine tKw (gd:=none) 0 8 (.load 23 (.tmp 1)) (.agg (Aa (wn : Int) (sn : Int) st wa us)) (run_load_row 23 (.tmp 1) (W.heap.size) 23 (Aa (wn : Int) (sn : Int) st wa us) _ (by kernel_rfl) Tryz.underlying23 rfl (by kernel_rfl) LA) hHeld ?_
 try simp only [Act.put, sA, sZ, sS]
 refine tKg 1 9 hHeld ?_
 try simp only [Act.put, sA, sZ, sS]
 refine tKg 2 10 hHeld ?_
 try simp only [Act.put, sA, sZ, sS]
 refine tKg 4 12 hHeld ?_
 try simp only [Act.put, sA, sZ, sS]
 refine tKg 5 13 hHeld ?_
 try simp only [Act.put, sA, sZ, sS]
 refine tKg 7 15 hHeld ?_
 try simp only [Act.put, sA, sZ, sS]
 have mkS:=fun w => mk_slots sn hsn.1 hsn.2 w
 have mkW:=fun w => mk_waits wn hwn.1 hwn.2 w
 refine wpAnyH_inv2 (fun f l a w => ∃ (b3 b6 b8 : Bool) (sb kb wb : Nat), (b3 && (b6 && b8)) = false ∧ l = #[true, true, true, b3, true, true, b6, true, b8, false, false, false] ∧ f = 3 + (cond b3 0 1 + cond b6 0 1 + cond b8 0 1) ∧ a = { tmps:=#[.agg (Aa (wn : Int) (sn : Int) st wa us), .pointer (some ⟨W.heap.size, 0, none⟩), .pointer none, .bool true, .agg (Aa (wn : Int) (sn : Int) st wa us), .bool true, .bool true, .bool false, .agg (Aa (wn : Int) (sn : Int) st wa us), .pointer (some ⟨W.heap.size, 1, none⟩), .i (sn : Int), (cond b3 (.slice (some ⟨sb, 0, none⟩) sn sn) undef), .pointer (some ⟨W.heap.size, 0, none⟩), .i (wn : Int), (cond b6 (.slice (some ⟨kb, 0, none⟩) wn wn) undef), .agg #[.slice none 0 0, .i 0, .i 0], (cond b8 (.pointer (some ⟨wb, 0, none⟩)) undef), undef, undef], defers:=[] } ∧ Below w1.heap.size w1 w ∧ Mq W w wn sn b3 b6 b8 sb kb wb)
  (fun f l a w => ∃ (sb kb wb : Nat), l = #[true, true, true, true, true, true, true, true, true, false, false, false] ∧ f = 3 ∧ a = { tmps:=#[.agg (Aa (wn : Int) (sn : Int) st wa us), .pointer (some ⟨W.heap.size, 0, none⟩), .pointer none, .bool true, .agg (Aa (wn : Int) (sn : Int) st wa us), .bool true, .bool true, .bool false, .agg (Aa (wn : Int) (sn : Int) st wa us), .pointer (some ⟨W.heap.size, 1, none⟩), .i (sn : Int), (.slice (some ⟨sb, 0, none⟩) sn sn), .pointer (some ⟨W.heap.size, 0, none⟩), .i (wn : Int), (.slice (some ⟨kb, 0, none⟩) wn wn), .agg #[.slice none 0 0, .i 0, .i 0], (.pointer (some ⟨wb, 0, none⟩)), undef, undef], defers:=[] } ∧ Below w1.heap.size w1 w ∧ Mq W w wn sn true true true sb kb wb) ?hfin ?hne ?hst _ _ _ _ ⟨false, false, false, 0, 0, 0, rfl, rfl, rfl, rfl, hHeld, hM0⟩
 case hne =>
  rintro f l a w ⟨b3, b6, b8, sb, kb, wb, hno, rfl, -, -, -, hM⟩
  cases b3 <;> cases b6 <;> cases b8 <;> first | (cases hno; done) | exact ne_of (by kernel_rfl)
 case hst =>
  rintro f l a w ⟨b3, b6, b8, sb, kb, wb, hno, rfl, rfl, rfl, hb, hM⟩ i hi
  have ho:=ready_open hi
  have hi':=hi
  rcases i with _ | _ | _ | _ | _ | _ | _ | _ | _ | _ | _ | _ | i <;> simp at ho
  ·subst ho
   refine ⟨3 + (cond b6 0 1 + cond b8 0 1), by simp [cond]; omega, ?_⟩
   refine wpOp_run (some 11) (.slice (some ⟨w.heap.size, 0, none⟩) sn sn) (by kernel_rfl) (by kernel_rfl) (by go_simp; try rfl) ?_
   have hb2 : Below w1.heap.size w1 (w.alloc (.cells (rowsOf S.zero.cells sn) 59)):=hb.alloc hb.size _
   by_cases hall : (b6 && b8) = true
   ·simp only [Bool.and_eq_true] at hall
    obtain ⟨rfl, rfl⟩:=hall
    exact ⟨hb2, .inr ⟨w.heap.size, kb, wb, rfl, rfl, rfl, hb2, hM.adds⟩⟩
   ·exact ⟨hb2, .inl ⟨true, b6, b8, w.heap.size, kb, wb, by revert hall; cases b6 <;> cases b8 <;> simp, rfl, by simp [cond], rfl, hb2, hM.adds⟩⟩
  ·subst ho
   refine ⟨3 + (cond b3 0 1 + cond b8 0 1), by simp [cond]; omega, ?_⟩
   refine wpOp_run (some 14) (.slice (some ⟨w.heap.size, 0, none⟩) wn wn) (by kernel_rfl) (by kernel_rfl) (by go_simp; try rfl) ?_
   have hb2 : Below w1.heap.size w1 (w.alloc (.cells (rowsOf (wcells Wk.zero) wn) 97)):=hb.alloc hb.size _
   by_cases hall : (b3 && b8) = true
   ·simp only [Bool.and_eq_true] at hall
    obtain ⟨rfl, rfl⟩:=hall
    exact ⟨hb2, .inr ⟨sb, w.heap.size, wb, rfl, rfl, rfl, hb2, hM.addk⟩⟩
   ·exact ⟨hb2, .inl ⟨b3, true, b8, sb, w.heap.size, wb, by revert hall; cases b3 <;> cases b8 <;> simp, rfl, by simp [cond], rfl, hb2, hM.addk⟩⟩
  ·subst ho
   refine ⟨3 + (cond b3 0 1 + cond b6 0 1), by simp [cond]; omega, ?_⟩
   refine wpOp_run (some 16) (.pointer (some ⟨w.heap.size, 0, none⟩)) (by kernel_rfl) (by kernel_rfl) (by go_simp; try rfl) ?_
   have hb2 : Below w1.heap.size w1 (w.alloc (.cells #[.slice none 0 0, .i 0, .i 0] 88)):=hb.alloc hb.size _
   by_cases hall : (b3 && b6) = true
   ·simp only [Bool.and_eq_true] at hall
    obtain ⟨rfl, rfl⟩:=hall
    exact ⟨hb2, .inr ⟨sb, kb, w.heap.size, rfl, rfl, rfl, hb2, hM.addw⟩⟩
   ·exact ⟨hb2, .inl ⟨b3, b6, true, sb, kb, w.heap.size, by revert hall; cases b3 <;> cases b6 <;> simp, rfl, by simp [cond], rfl, hb2, hM.addw⟩⟩
  ·exact (by cases b3 <;> cases b6 <;> cases b8 <;> first | (cases hno; done) | exact not_in hi' (by kernel_rfl) : False).elim
  ·exact (by cases b3 <;> cases b6 <;> cases b8 <;> first | (cases hno; done) | exact not_in hi' (by kernel_rfl) : False).elim
  ·exact (by cases b3 <;> cases b6 <;> cases b8 <;> first | (cases hno; done) | exact not_in hi' (by kernel_rfl) : False).elim
 case hfin =>
  rintro f l a w ⟨sb, kb, wb, rfl, rfl, rfl, hb, hM⟩
  clear mkS mkW
  try dsimp only [cond]
  refine tKg 9 17 hb ?_
  try simp only [Act.put, sA, sZ, sS]
  have hb2 : Below w1.heap.size w1 (w.alloc (.cells #[.i (wn : Int), .i (sn : Int), .i st, .i wa, .i us, .slice (some ⟨sb, 0, none⟩) sn sn, .slice (some ⟨kb, 0, none⟩) wn wn, .slice none 0 0, .i 0, .i 0, .pointer (some ⟨wb, 0, none⟩)] 66)):=hb.alloc hb.size _
  refine ready1 (i:=10) (by kernel_rfl) (step_run (some 18) (.pointer (some ⟨w.heap.size, 0, none⟩)) (by kernel_rfl) (by kernel_rfl) (by go_simp; try rfl) hb2 (fun _ => ?_))
  try simp only [Act.put, sA, sZ, sS]
  have hA:=mk_qat HC.out hM
  generalize hwz : w.alloc (.cells #[.i (wn : Int), .i (sn : Int), .i st, .i wa, .i us, .slice (some ⟨sb, 0, none⟩) sn sn, .slice (some ⟨kb, 0, none⟩) wn wn, .slice none 0 0, .i 0, .i 0, .pointer (some ⟨wb, 0, none⟩)] 66) = w9 at *
  clear hwz
  refine tKg 11 2 hb2 ?_
  try simp only [Act.put, sA, sZ, sS]
  refine wpAnyH_done (by kernel_rfl) ?_ _
  have HA:=Lib.hid hA
  clear hA
  go_wp2_with fail
  go_ret
  exact HA.out
theorem q_new_no (W : World) (c : Conf.Cf) (hc : c.right = false) : Calls Tryz.prog 13 #[c.val] W fun e W' => e = .returned (.pointer none) ∧ Below W.heap.size W W':=by
 have hr:=qright_any (W.alloc (.cells c.cells 23)) c
 rw [hc] at hr
 obtain ⟨wo, sl, st, wa, us⟩:=c
 simp only [Conf.Cf.val, Conf.Cf.cells] at *
 have hB0 : Below W.heap.size W (W.alloc (.cells (Aa wo sl st wa us) 23)):=(Below.refl _ _).alloc (Nat.le_refl _) _
 go_enter Tryz.func13, Tryz.ntmps13
 go_wp2_with fail
 refine hr.mono ?_
 rintro e w1 ⟨rfl, hb1⟩
 have hB1:=hB0.trans (hb1.mono hB0.size)
 clear hr hb1 hB0
 go_wp2_with fail
 go_ret
 exact ⟨rfl, hB1⟩
end Go.Proofs.YtpmkgddjgebojaaGreatDoor.Mod
namespace Go.Proofs.YtpmkgddjgebojaaGreatDoor.Mod
open Go.RowKit Hp Slot RowL Life
theorem ev_self (w : World) (x : Ev) : (Op.equalIn 10000 36 x.val x.val).run Tryz.prog w = .ok true w:=by
 have u3:=Tryz.underlying3
 have a3':=Tryz.isAgg3
 have z3:=Tryz.sizeOf3
 have u4:=Tryz.underlying4
 have a4':=Tryz.isAgg4
 have z4:=Tryz.sizeOf4
 have hS : Tryz.prog.underlying 36 = some (.struct (Tryz.prog.fieldsOf 36)):=by kernel_rfl
 have hp : ∀ w, ((typeInfo 36).run Tryz.prog w).andThen (fun i w' => Result.ok (i.hasPointers && Tryz.prog.cutTypes.any fun x => x.snd == 36) w') = .ok false w:=fun w => by rw [Tryz.typeInfo36]; kernel_rfl
 rw [show (10000 : Nat) = 9999 + 1 from rfl]
 first
  | rw [run_equalIn_agg w 9999 36 _ _ hS (by kernel_rfl)]
  | rw [run_equalIn_agg w 9999 36 _ _ hS (hp w)]
 simp only [Program.fieldsOf, Tryz.underlying36, Ev.cells]
 go_simp
 repeat' split
 all_goals simp_all
theorem m_new_no (W : World) (c : Conf.Cf) (hc : c.right = false) : Calls Tryz.prog 12 #[c.val] W fun e W' => e = .returned (.tuple #[.pointer none, .i 1]) ∧ Below W.heap.size W W':=by
 have hr:=Conf.right_any (W.alloc (.cells c.cells 23)) c
 rw [hc] at hr
 obtain ⟨wo, sl, st, wa, us⟩:=c
 simp only [Conf.Cf.val, Conf.Cf.cells] at *
 have hB0 : Below W.heap.size W (W.alloc (.cells (Aa wo sl st wa us) 23)):=(Below.refl _ _).alloc (Nat.le_refl _) _
 go_enter Tryz.func12, Tryz.ntmps12
 go_wp2_with fail
 refine hr.mono ?_
 rintro e w1 ⟨rfl, hb1⟩
 have hB1:=hB0.trans (hb1.mono hB0.size)
 clear hr hb1 hB0
 go_wp2_with fail
 go_ret2
 exact ⟨rfl, hB1⟩
end Go.Proofs.YtpmkgddjgebojaaGreatDoor.Mod
