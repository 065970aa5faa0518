/- Part 35 of the walks and plain laws that the last text joins. -/
import Derived.Test.YtpmkgddjgebojaaGreatDoorE33
set_option maxRecDepth 100000
set_option maxHeartbeats 16000000
set_option linter.unusedVariables false
set_option linter.unusedSimpArgs false
namespace Go.Proofs.YtpmkgddjgebojaaGreatDoor.Mod
open Go.RowKit Hp Slot RowL Life R8
theorem q_open {W : World} {p : Ql} {m : M} (h : QAt W p m) (who : Int) (a : Ask) (hop : a.op = 3) :
  Calls Tryz.prog 43 #[.pointer (some ⟨p.mb, 0, none⟩), .i who, a.val] W (QPost W p (m.openS who a).1.val (m.openS who a).2):=by
 have hR : RowKit.Hid (m.openS who a = if m.owns who a ≠ 0 then (M.failed (m.owns who a), m) else if (m.slot a.slot.toNat).broken = true then (M.failed 9, m) else match lowFree (m.slot a.slot.toNat).streams m.cf.streams with | some n => ({ Ev.zero with stream:=n }, m.turn a.slot.toNat 14 who m.cf.streams) | none => (M.failed 10, m)):=rfl
 generalize m.openS who a = R at *
 have hlt : p.mb < W.heap.size:=h.lt (.inl rfl)
 have how:=owns_has m who a
 have hos : RowKit.Hid (m.owns who a = 0 → m.closed ≠ 2 ∧ ∃ (n : Nat) (s : S), a.slot = n ∧ m.ss[n]? = some s ∧ s.state = 3 ∧ s.own = who ∧ s.gen = a.gen):=fun h => owns_zero h
 have hha:=fun W (h : QAt W p m) => q_has h who a
 generalize m.owns who a = q at *
 generalize m.hasL who a = b at *
 obtain ⟨op, dl, wt, fo, sl, ge, st⟩:=a
 simp only at hop
 subst hop
 simp only [Ask.val, Ask.cells] at *
 have hB : Below W.heap.size W ((W.alloc (.cells (Ad 3 dl wt fo sl ge st) 25)).alloc (.cells Zv 36)):=((Below.refl _ _).alloc (Nat.le_refl _) _).alloc (by simp) _
 have r0 : Rq W.heap.size ((W.alloc (.cells (Ad 3 dl wt fo sl ge st) 25)).alloc (.cells Zv 36)) p ((W.alloc (.cells (Ad 3 dl wt fo sl ge st) 25)).alloc (.cells Zv 36)) p m:=Rq.begin h hB
 have e0 : ERow ((W.alloc (.cells (Ad 3 dl wt fo sl ge st) 25)).alloc (.cells Zv 36)) (W.heap.size + 1):=⟨Zv, rfl, heap_alloc2_new W _ _⟩
 have hg1 : W.heap.size + 1 < ((W.alloc (.cells (Ad 3 dl wt fo sl ge st) 25)).alloc (.cells Zv 36)).heap.size:=by simp
 have hg0 : W.heap.size ≤ W.heap.size + 1:=by omega
 have a0 : RowAt ((W.alloc (.cells (Ad 3 dl wt fo sl ge st) 25)).alloc (.cells Zv 36)) W.heap.size (Ad 3 dl wt fo sl ge st) 25:=heap_alloc2_old W _ _
 have ho:=hha _ r0.at'
 have HOW:=Lib.hid how
 have l0:=a0.cell 0
 clear hha how h
 go_enter Tryz.func43, Tryz.ntmps43
 go_upto_region 1 with (fail)
 generalize hw0 : ((W.alloc (.cells (Ad 3 dl wt fo sl ge st) 25)).alloc (.cells Zv 36)) = wb at *
 clear hw0 l0
 refine wp_region_lit ?_
 refine RowL.gl (.pointer (some ⟨p.mb, 0, none⟩)) ?_ (by go_simp; try rfl)
 refine RowL.gl (.i who) ?_ (by go_simp; try rfl)
 refine RowL.grow a0 25 (.tmp 5) Tryz.underlying25 ?_
 go_wp2_with fail
 refine ho.mono ?_
 rintro e w1 ⟨rfl, hb1⟩
 have r1:=r0.below hb1
 have e1:=e0.below hb1
 have a1:=a0.below hb1
 have k8:=r1.at'.hd.c8
 rw [r1.mb] at k8
 clear ho hb1 r0 e0 a0
 by_cases hc2 : m.closed = 2
 ·have HR2 : RowKit.Hid (R = (M.failed 5, m)):=Lib.hid (by have h1:=HOW.out; rw [if_pos hc2] at h1; rw [hR.out, h1, if_pos (by simp)])
  rw [hc2] at k8
  clear hos hR a1 hc2 HOW
  go_upto_region 3 with (fail)
  obtain ⟨Z, z1, z2⟩:=e1
  refine wp_region_lit ?_
  refine RowL.gl ((M.failed 5)).val ?_ (by go_simp; try rfl)
  refine RowL.gSt z2 ((M.failed 5)).cells 36 (.tmp 6) (.tmp 22) ?_ (hsz:=z1) (h1:=ev_one _)
  go_wp2_with fail
  refine bR1 (W.heap.size + 1) (z2.set _) Tryz.underlying36 ?_
  rw [HR2.out]
  exact (r1.row hg0 hg1 _).fin hB _
 have hc2' : (m.closed == 2) = false:=by simpa using hc2
 cases b
 ·have HR2 : RowKit.Hid (R = (M.failed 2, m)):=Lib.hid (by have h1:=HOW.out; rw [if_neg hc2, if_neg (by simp)] at h1; rw [hR.out, h1, if_pos (by simp)])
  clear hos hR a1 hc2 HOW
  go_upto_region 5 with (fail)
  obtain ⟨Z, z1, z2⟩:=e1
  refine wp_region_lit ?_
  refine RowL.gl ((M.failed 2)).val ?_ (by go_simp; try rfl)
  refine RowL.gSt z2 ((M.failed 2)).cells 36 (.tmp 6) (.tmp 25) ?_ (hsz:=z1) (h1:=ev_one _)
  go_wp2_with fail
  refine bR1 (W.heap.size + 1) (z2.set _) Tryz.underlying36 ?_
  rw [HR2.out]
  exact (r1.row hg0 hg1 _).fin hB _
 have hq : q = 0:=by have h1:=HOW.out; rw [if_neg hc2, if_pos rfl] at h1; exact h1
 obtain ⟨hcl2, n, s, hn, hs, hs3, hso, hsg⟩:=hos.out hq
 try simp only at hn hsg
 subst hn
 have HS:=Lib.hid hs
 have hsl : m.slot n = s:=M.slot_of hs
 have HR:=Lib.hid hR.out
 rw [if_neg (by first | simp [hq] | exact fun e => e hq | exact not_not_intro hq)] at HR
 try simp only [Int.toNat_natCast, hsl] at HR
 have hil : n < m.ss.length:=(List.getElem?_eq_some_iff.1 hs).1
 have hns:=r1.at'.ok.ns
 have b0 : (0 : Int) ≤ (n : Int):=by omega
 have b1 : (n : Int) < (m.ss.length : Int):=by omega
 have b2 : (n : Int) ≤ (m.ss.length : Int) - 1:=by omega
 clear hos hR hq hs hsl hil HOW hc2 hcl2
 have k5:=r1.at'.hd.c5
 rw [r1.mb, r1.sb] at k5
 have kA : w1.cell? ⟨W.heap.size, 4, none⟩ = some (.i n):=a1.cell 4
 have hd:=r1.at'.slots.get HS.out
 rw [r1.sb] at hd
 obtain ⟨s0, s1, s2, s3, s4, s5, s6, s7, s8⟩:=s
 try simp only at hs3 hso hsg HR hd
 have HS3:=Lib.hid hs3
 have HSO:=Lib.hid hso
 have HSG:=Lib.hid hsg
 clear hs3 hso hsg
 obtain ⟨d0, d1, d2, d3, d4, d5, d6, d7, d8⟩:=hd
 have L5 : ∀ w', Below w1.heap.size w1 w' → w'.cell? ⟨p.mb, 5, none⟩ = some (.slice (some ⟨p.sb, 0, none⟩) m.ss.length m.ss.length):=fun w' h => Field.bkeep h k5
 have LA : ∀ w', Below w1.heap.size w1 w' → w'.cell? ⟨W.heap.size, 4, none⟩ = some (.i n):=fun w' h => Field.bkeep h kA
 have Ls0 : ∀ w', Below w1.heap.size w1 w' → w'.cell? ⟨p.sb, n * 9, none⟩ = some (.i s0):=fun w' h => Field.bkeep h d0
 have Ls1 : ∀ w', Below w1.heap.size w1 w' → w'.cell? ⟨p.sb, n * 9 + 1, none⟩ = some (.i s1):=fun w' h => Field.bkeep h d1
 have Ls2 : ∀ w', Below w1.heap.size w1 w' → w'.cell? ⟨p.sb, n * 9 + 2, none⟩ = some (.i s2):=fun w' h => Field.bkeep h d2
 have Ls3 : ∀ w', Below w1.heap.size w1 w' → w'.cell? ⟨p.sb, n * 9 + 3, none⟩ = some (.bool s3):=fun w' h => Field.bkeep h d3
 have Ls4 : ∀ w', Below w1.heap.size w1 w' → w'.cell? ⟨p.sb, n * 9 + 4, none⟩ = some (.bool s4):=fun w' h => Field.bkeep h d4
 have Ls5 : ∀ w', Below w1.heap.size w1 w' → w'.cell? ⟨p.sb, n * 9 + 5, none⟩ = some (.i s5):=fun w' h => Field.bkeep h d5
 have Ls6 : ∀ w', Below w1.heap.size w1 w' → w'.cell? ⟨p.sb, n * 9 + 6, none⟩ = some (.i s6):=fun w' h => Field.bkeep h d6
 have Ls7 : ∀ w', Below w1.heap.size w1 w' → w'.cell? ⟨p.sb, n * 9 + 7, none⟩ = some (.i s7):=fun w' h => Field.bkeep h d7
 have Ls8 : ∀ w', Below w1.heap.size w1 w' → w'.cell? ⟨p.sb, n * 9 + 8, none⟩ = some (.i s8):=fun w' h => Field.bkeep h d8
 have hKd : Below w1.heap.size w1 w1.drew:=(Below.refl _ _).drew
 clear d0 d1 d2 d3 d4 d5 d6 d7 d8 kA k5
 go_upto_region 6 with (fail)
 go_region_held3 (fun w' => Below w1.heap.size w1 w') (first | assumption | exact ((Below.refl _ _).alloc (Nat.le_refl _) _) | exact ((Below.refl _ _).alloc (Nat.le_refl _) _).drew | exact ((Below.refl _ _).drew.alloc (Nat.le_refl _) _)) (fail)
 clear L5 LA Ls0 Ls1 Ls2 Ls3 Ls4 Ls5 Ls6 Ls7 Ls8 b0 b1 b2 hKd
 have hb2 : Below w1.heap.size w1 ((w1.alloc (.cells (Ac s0 s1 s2 s3 s4 s5 s6 s7 s8) 59)).drew):=((Below.refl _ _).alloc (Nat.le_refl _) _).drew
 have r2:=r1.below hb2
 have e2:=e1.below hb2
 have a2:=a1.below hb2
 have q2 : RowAt ((w1.alloc (.cells (Ac s0 s1 s2 s3 s4 s5 s6 s7 s8) 59)).drew) w1.heap.size (Ac s0 s1 s2 s3 s4 s5 s6 s7 s8) 59:=RowAt.new w1 _ _
 have hgs : W.heap.size + 1 < w1.heap.size:=Nat.lt_of_lt_of_le hg1 r1.size
 clear hb2 r1 e1 a1
 generalize hwz : (w1.alloc (.cells (Ac s0 s1 s2 s3 s4 s5 s6 s7 s8) 59)).drew = w2 at *
 clear hwz
 have kS : w2.cell? ⟨w1.heap.size, 2, none⟩ = some (.i s2):=q2.cell 2
 have kb : w2.cell? ⟨w1.heap.size, 3, none⟩ = some (.bool s3):=q2.cell 3
 have kU : w2.cell? ⟨w1.heap.size, 5, none⟩ = some (.i s5):=q2.cell 5
 have kO : w2.cell? ⟨W.heap.size, 0, none⟩ = some (.i 3):=a2.cell 0
 clear kU
 cases s3
 rotate_left
 ·have HR2 : RowKit.Hid (R = (M.failed 9, m)):=Lib.hid (by rw [HR.out, if_pos rfl])
  clear HR
  go_upto_region 18 with (fail)
  obtain ⟨Z, z1, z2⟩:=e2
  refine wp_region_lit ?_
  refine RowL.gl ((M.failed 9)).val ?_ (by go_simp; try rfl)
  refine RowL.gSt z2 ((M.failed 9)).cells 36 (.tmp 6) (.tmp 80) ?_ (hsz:=z1) (h1:=ev_one _)
  go_wp2_with fail
  refine bR1 (W.heap.size + 1) (z2.set _) Tryz.underlying36 ?_
  rw [HR2.out]
  exact (r2.row hg0 hg1 _).fin hB _
 have HR : RowKit.Hid (R = match lowFree s2 m.cf.streams with | some k => ({ Ev.zero with stream:=k }, m.turn n 14 who m.cf.streams) | none => (M.failed 10, m)):=Lib.hid (by rw [HR.out, if_neg (by simp)])
 have kN:=r2.at'.hd.c2
 rw [r2.mb] at kN
 have hop:=open_some (N:=m.cf.streams) (r2.at'.ok.rights _ (List.mem_of_getElem? HS.out)) HS3.out HSO.out rfl
 have hsb:=((right_iff _).1 (r2.at'.ok.rights _ (List.mem_of_getElem? HS.out))).1.2.2.1
 simp only at hop hsb
 obtain ⟨hs0, hs1⟩:=hsb
 generalize hNe : m.cf.streams = N at *
 have HNE:=Lib.hid hNe
 clear hNe
 go_upto_region 19 with (fail)
 have r3:=r2.drew
 have kA : w2.drew.cell? ⟨W.heap.size, 4, none⟩ = some (.i n):=a2.cell 4
 have kN : w2.drew.cell? ⟨p.mb, 2, none⟩ = some (.i N):=kN
 have ht:=q_do r3.at' n 14 n 14 who N _ HS.out rfl rfl (by simp [Done])
 rw [r3.mb] at ht
 have hw0 : W.heap.size ≠ p.sb:=fun e => r3.not (Nat.le_refl _) (Nat.lt_trans (Nat.lt_succ_self _) hg1) (.inr (.inl e))
 have hm0 : p.mb ≠ p.sb:=r3.at'.ne.1
 have hl4 : W.heap.size < w2.drew.heap.size:=World.block_lt_of_cell? _ _ kA
 have hlm : p.mb < w2.drew.heap.size:=World.block_lt_of_cell? _ _ kN
 have q2d : RowAt w2.drew w1.heap.size (Ac s0 s1 s2 false s4 s5 s6 s7 s8) 59:=q2
 have e2d : ERow w2.drew (W.heap.size + 1):=e2
 have hx : ¬ w1.heap.size = p.sb:=by have:=r3.old p.sb (.inr (.inl rfl)); omega
 generalize hokb : (Mod.next ⟨s0, s1, s2, false, s4, s5, s6, s7, s8⟩ 14 who N).isSome = okb at ht
 have HOKB:=Lib.hid hokb
 have HOP:=Lib.hid hop
 clear hokb hop
 clear kS kb kO k8
 refine wp_region_held_drew (S:=fun w' => w'.cell? ⟨W.heap.size, 4, none⟩ = some (.i n) ∧ w'.cell? ⟨p.mb, 2, none⟩ = some (.i N)) (by kernel_rfl) (by exact ⟨kA, kN⟩) (fun hHeld => ?_)
 refine tKg 0 81 hHeld ?_
 try simp only [Act.put, sA, sZ, sS]
 refine tKg 1 82 hHeld ?_
 try simp only [Act.put, sA, sZ, sS]
 refine tKg 2 83 hHeld ?_
 try simp only [Act.put, sA, sZ, sS]
 refine tKg 3 84 hHeld ?_
 try simp only [Act.put, sA, sZ, sS]
 refine tKg 4 85 hHeld ?_
 try simp only [Act.put, sA, sZ, sS]
 refine tKg 5 86 hHeld ?_
 try simp only [Act.put, sA, sZ, sS]
 refine tKg 6 87 hHeld ?_
 try simp only [Act.put, sA, sZ, sS]
 refine tKg 7 88 hHeld ?_
 try simp only [Act.put, sA, sZ, sS]
 refine tKg 8 89 hHeld ?_
 try simp only [Act.put, sA, sZ, sS]
 refine rKc (i:=9) 53 #[.tmp 81, .tmp 83, (.const (.i 14)), .tmp 84, .tmp 89] #[31, 3, 3, 3, 3] (some 90) (none) #[.pointer (some ⟨p.mb, 0, none⟩), .i n, .i 14, .i who, .i N] (enters_of Tryz.func53 (by kernel_rfl) rfl) ?_
 refine (ht).mono ?_
 rintro e w4 ⟨rfl, h4, hc4⟩
 refine ⟨_, rfl, ⟨(hc4.cell hl4 hw0).trans kA, (hc4.cell hlm hm0).trans kN⟩, fun hHeld2 => ?_⟩
 try simp only [Act.put, sA, sZ, sS]
 refine tKg 10 9 hHeld2 ?_
 try simp only [Act.put, sA, sZ, sS]
 refine wpAnyH_done (by kernel_rfl) ?_ _
 have r4:=r3.slots h4 hc4
 have e4 : ERow w4 (W.heap.size + 1):=ERow.chg (w:=w2.drew) e2d hc4 (fun e => r3.not hg0 hg1 (.inr (.inl e)))
 have a4 : RowAt w4 W.heap.size _ 25:=RowAt.chg (w:=w2.drew) a2 hc4 hw0
 have q4:=q2d.chg hc4 hx
 clear ht h4 hc4 hHeld hHeld2 r3 kA kN r2 e2 a2 q2 q2d e2d
 cases hlf : lowFree s2 N with
 | none =>
  have h1:=HOP.out
  rw [hlf] at h1
  simp only at h1
  have HR2 : RowKit.Hid (R = (M.failed 10, m)):=Lib.hid (by rw [HR.out, hlf])
  have r5:=r4
  rw [turn_none HS.out h1] at r5
  have h2:=HOKB.out
  rw [h1] at h2
  subst h2
  clear HR HOP HOKB r4 h1 a4 q4 hlf
  go_upto_region 21 with (fail)
  obtain ⟨Z, z1, z2⟩:=e4
  refine wp_region_lit ?_
  refine RowL.gl ((M.failed 10)).val ?_ (by go_simp; try rfl)
  refine RowL.gSt z2 ((M.failed 10)).cells 36 (.tmp 6) (.tmp 93) ?_ (hsz:=z1) (h1:=ev_one _)
  go_wp2_with fail
  refine bR1 (W.heap.size + 1) (z2.set _) Tryz.underlying36 ?_
  rw [HR2.out]
  exact (r5.row hg0 hg1 _).fin hB _
 | some k =>
  have h1:=HOP.out
  rw [hlf] at h1
  simp only at h1
  obtain ⟨hk8, h2, h3⟩:=h1
  have HR2 : RowKit.Hid (R = ({ Ev.zero with stream:=k }, m.turn n 14 who N)):=Lib.hid (by rw [HR.out, hlf])
  have h4:=HOKB.out
  rw [h2] at h4
  subst h4
  have hsl4 : (m.turn n 14 who N).ss[n]? = some (step ⟨s0, s1, s2, false, s4, s5, s6, s7, s8⟩ 14 who N):=turnL_get HS.out
  have hd4:=(r4.at'.slots.get hsl4).2.2.1
  have k54:=r4.at'.hd.c5
  rw [r4.mb, r4.sb] at k54
  rw [r4.sb] at hd4
  have hl4 : (m.turn n 14 who N).ss.length = m.ss.length:=turnL_len _ _ _ _ _
  rw [hl4] at k54
  have hil : n < m.ss.length:=(List.getElem?_eq_some_iff.1 HS.out).1
  have b0 : (0 : Int) ≤ (n : Int):=by omega
  have b1 : (n : Int) < (m.ss.length : Int):=by omega
  have b2 : (n : Int) ≤ (m.ss.length : Int) - 1:=by omega
  have kA:=a4.cell 4
  have kS : w4.cell? ⟨w1.heap.size, 2, none⟩ = some (.i s2):=q4.cell 2
  generalize (step ⟨s0, s1, s2, false, s4, s5, s6, s7, s8⟩ 14 who N).streams = T at *
  have hP9 : pw k ≤ 256:=by
   have h1 : 2 ^ k ≤ 2 ^ 8:=Nat.pow_le_pow_right (by omega) (by omega)
   have h2 : pw k = 2 ^ k:=rfl
   omega
  have t0 : 0 ≤ T:=by omega
  have t1 : T ≤ 600:=by omega
  have hwr : IntKind.i64.wrap (T - s2) = T - s2:=IntWalk.i64_in _ (by omega)
  have HTS : RowKit.Hid (T - s2 = (pw k : Int)):=Lib.hid (by omega)
  clear HR HOP HOKB a4 q4 hlf h2 h3 hsl4 hl4
  go_wp2_with fail
  go_quiet (fail)
  have hb5 : Below w4.heap.size w4 (w4.drewN nq):=bdrewN (Below.refl _ _) nq
  have r5:=r4.below hb5
  have e5:=e4.below hb5
  clear hwr t0 t1 kA kS hd4 k54 r4 e4 hb5
  generalize w4.drewN nq = w5 at *
  generalize T - s2 = X at *
  obtain rfl : X = (pw k : Int):=HTS.out
  go_wp2_with fail
  go_loop [10, 11] (fun nv xv => ∃ j P : Nat, nv = .i j ∧ xv = .i P ∧ j ≤ k ∧ Hid (P = pw (k - j))) (fun _ xv => (intOf xv).toNat)
  case atStart => exact ⟨0, pw k, rfl, rfl, by omega, Lib.hid rfl⟩
  case round =>
   obtain ⟨j, P, rfl, rfl, hj, hP⟩:=hrel
   have j0 : (0 : Int) ≤ (j : Int):=by omega
   have p0 : (0 : Int) ≤ (P : Int):=by omega
   have p1 : (P : Int) ≤ 512:=by
    have h1 : 2 ^ (k - j) ≤ 2 ^ 8:=Nat.pow_le_pow_right (by omega) (by omega)
    have h2 : pw (k - j) = 2 ^ (k - j):=rfl
    have:=hP.out
    omega
   by_cases hjk : j < k
   ·have hP2 : P = pw (k - (j + 1)) * 2:=by
     rw [hP.out, show k - j = (k - (j + 1)) + 1 by omega]
     unfold pw
     rw [Nat.pow_succ]
    have hPp : 0 < pw (k - (j + 1)):=Nat.pow_pos (by omega)
    have q1 : (1 : Int) < (P : Int):=by omega
    have HP2:=Lib.hid hP2
    clear hP2 hPp
    go_wp2_with fail
    go_round
    case rel => exact ⟨j + 1, P / 2, by go_num, by go_num, by omega, Lib.hid (by have:=HP2.out; omega)⟩
    case measure => simp [intOf]; omega
   ·obtain rfl : j = k:=by omega
    have q1 : ¬ (1 : Int) < (P : Int):=by
     have:=hP.out
     rw [Nat.sub_self] at this
     have h2 : pw 0 = 1:=rfl
     omega
    clear hP hjk
    go_upto_region 27 with (fail)
    obtain ⟨Z, z1, z2⟩:=e5
    refine wp_region_lit ?_
    refine RowL.gl (.i j) ?_ (by go_simp; try rfl)
    refine RowL.gl (({ Ev.zero with stream:=j } : Ev)).val ?_ (by go_simp; try rfl)
    refine RowL.gSt z2 (({ Ev.zero with stream:=j } : Ev)).cells 36 (.tmp 6) (.tmp 113) ?_ (hsz:=z1) (h1:=ev_one _)
    go_wp2_with fail
    refine bR1 (W.heap.size + 1) (z2.set _) Tryz.underlying36 ?_
    rw [HR2.out]
    exact (r5.row hg0 hg1 _).fin hB _
theorem qd_line {W : World} {p : Ql} {c : Conf.Cf} {ns nk : Nat} {closed now : Int} (h : Qd W p c ns nk closed now) (v : Value) : Qd (W.setCell ⟨p.mb, 7, none⟩ v) { p with lv:=v } c ns nk closed now:=by
 have e : ∀ o, o ≠ 7 → (W.setCell ⟨p.mb, 7, none⟩ v).cell? ⟨p.mb, o, none⟩ = W.cell? ⟨p.mb, o, none⟩:=fun o ho => World.cell?_setCell_other _ _ _ _ (by simp <;> omega)
 exact ⟨(e 0 (by omega)).trans h.c0, (e 1 (by omega)).trans h.c1, (e 2 (by omega)).trans h.c2, (e 3 (by omega)).trans h.c3, (e 4 (by omega)).trans h.c4, (e 5 (by omega)).trans h.c5, (e 6 (by omega)).trans h.c6,
  World.cell?_setCell_same _ _ _ h.c7, (e 8 (by omega)).trans h.c8, (e 9 (by omega)).trans h.c9, (e 10 (by omega)).trans h.c10, by simp [h.f7], by simp [h.f8], by simp [h.f9]⟩
theorem Rq.line {B : Nat} {W0 w w' : World} {p p' : Ql} {m' : M} (r : Rq B W0 p w p' m') {v' : Value} {l : List Int} (h : QAt w' { p' with lv:=v' } { m' with line:=l }) (hF : ∀ k, Fp v' k → Fp p'.lv k ∨ w.heap.size ≤ k) (hc : Chg (fun k => k = p'.mb ∨ Fp p'.lv k) w w') :
  Rq B W0 p w' { p' with lv:=v' } { m' with line:=l }:=by
 refine ⟨h, r.old, r.le, ?_, fun k hk => ?_, r.ovs, r.chg.trans hc (fun k _ hk => ?_)⟩
 ·obtain ⟨lv, ov, e⟩:=r.same
  exact ⟨v', ov, by rw [e]⟩
 ·rcases hF k hk with h | h
  ·exact r.lvs k h
  ·exact .inr (Nat.le_trans r.size h)
 ·have : qfp p' k:=by
   rcases hk with rfl | hk
   ·exact .inl rfl
   ·exact .inr (.inr (.inr (.inr hk)))
  exact (r.mine this).imp id (fun h => Nat.le_trans r.le h)
theorem WaitAt.there {W : World} {kb : Nat} {ks : List Wk} (h : WaitAt W kb ks) {i : Nat} (hi : i < ks.length) : W.there kb (i * 10) 10:=by
 intro j hj
 refine ⟨?_, h.2 i j hi hj⟩
 have:=h.1 i ks[i] (List.getElem?_eq_getElem hi) j _ (Array.getElem?_eq_getElem (by simpa [wcells] using hj))
 rw [this]; rfl
theorem q_get_not {W : World} {p : Ql} {m : M} (h : QAt W p m) (who : Int) (a : Ask) (hc : m.closed = 0) (hf0 : m.first 0 who = none) (hf1 : m.first 1 0 = none) (hf2 : m.first 2 0 = none) (hw : a.wait = false) :
  Calls Tryz.prog 42 #[.pointer (some ⟨p.mb, 0, none⟩), .i who, a.val] W (QPost W p (.tuple #[(m.get who a).1.1.val, .bool (m.get who a).1.2]) (m.get who a).2):=by
 have HR2 : RowKit.Hid (m.get who a = ((M.failed 3, true), m)):=Lib.hid (by unfold M.get; rw [if_neg (by simp [hc]), hf0]; simp only; rw [first_one, hf1]; simp only; rw [first_two, hf2]; simp only; rw [if_pos (by simp [hw])])
 generalize m.get who a = R at *
 have hlt : p.mb < W.heap.size:=h.lt (.inl rfl)
 obtain ⟨op, dl, wt, fo, sl, ge, st⟩:=a
 simp only [Ask.val, Ask.cells] at *
 have hB : Below W.heap.size W ((W.alloc (.cells (Ad op dl wt fo sl ge st) 25)).alloc (.cells Zv 36)):=((Below.refl _ _).alloc (Nat.le_refl _) _).alloc (by simp) _
 have r0 : Rq W.heap.size ((W.alloc (.cells (Ad op dl wt fo sl ge st) 25)).alloc (.cells Zv 36)) p ((W.alloc (.cells (Ad op dl wt fo sl ge st) 25)).alloc (.cells Zv 36)) p m:=Rq.begin h hB
 have e0 : ERow ((W.alloc (.cells (Ad op dl wt fo sl ge st) 25)).alloc (.cells Zv 36)) (W.heap.size + 1):=⟨Zv, rfl, heap_alloc2_new W _ _⟩
 have hg1 : W.heap.size + 1 < ((W.alloc (.cells (Ad op dl wt fo sl ge st) 25)).alloc (.cells Zv 36)).heap.size:=by simp
 have hg0 : W.heap.size ≤ W.heap.size + 1:=by omega
 have a0 : RowAt ((W.alloc (.cells (Ad op dl wt fo sl ge st) 25)).alloc (.cells Zv 36)) W.heap.size (Ad op dl wt fo sl ge st) 25:=heap_alloc2_old W _ _
 have k8:=r0.at'.hd.c8
 have hcb:=r0.at'.ok.closed
 have k8' : ¬ (0 : Int) < m.closed:=by omega
 have hc2:=Lib.hid hc
 clear hc hcb
 have HW:=Lib.hid hw
 clear hw
 go_enter Tryz.func42, Tryz.ntmps42
 go_upto_region 1 with (fail)
 generalize ((W.alloc (.cells (Ad op dl wt fo sl ge st) 25)).alloc (.cells Zv 36)) = wb at *
 have hq1:=q_first r0.at' 0 who (by simp)
 rw [r0.mb, hf0] at hq1
 simp only [firstInt] at hq1
 go_wp2_with fail
 refine hq1.mono ?_
 rintro e w1 ⟨rfl, hb1⟩
 have r1:=r0.below hb1
 have e1:=e0.below hb1
 have a1:=a0.below hb1
 clear hq1 hb1 r0 e0 a0
 have hq2:=q_first r1.at' 1 0 (by simp)
 rw [r1.mb, hf1] at hq2
 simp only [firstInt] at hq2
 go_wp2_with fail
 refine hq2.mono ?_
 rintro e w2 ⟨rfl, hb2⟩
 have r2:=r1.below hb2
 have e2:=e1.below hb2
 have a2:=a1.below hb2
 clear hq2 hb2 r1 e1 a1
 have hq3:=q_first r2.at' 2 0 (by simp)
 rw [r2.mb, hf2] at hq3
 simp only [firstInt] at hq3
 go_wp2_with fail
 refine hq3.mono ?_
 rintro e w3 ⟨rfl, hb3⟩
 have r3:=r2.below hb3
 have e3:=e2.below hb3
 have a3:=a2.below hb3
 clear hq3 hb3 r2 e2 a2
 have hw:=HW.out
 subst hw
 have cw : w3.cell? ⟨W.heap.size, 2, none⟩ = some (.bool false):=a3.cell 2
 go_upto_region 26 with (fail)
 obtain ⟨Z, z1, z2⟩:=e3
 refine wp_region_lit ?_
 refine RowL.gl ((M.failed 3)).val ?_ (by go_simp; try rfl)
 refine RowL.gSt z2 ((M.failed 3)).cells 36 (.tmp 6) (.tmp 91) ?_ (hsz:=z1) (h1:=ev_one _)
 go_wp2_with fail
 refine bR2 (W.heap.size + 1) (z2.set _) Tryz.underlying36 ?_
 rw [HR2.out]
 exact (r3.row hg0 hg1 _).fin hB _
theorem q_get_full {W : World} {p : Ql} {m : M} (h : QAt W p m) (who : Int) (a : Ask) (hc : m.closed = 0) (hf0 : m.first 0 who = none) (hf1 : m.first 1 0 = none) (hf2 : m.first 2 0 = none) (hw : a.wait = true) (hfull : m.cf.waiters ≤ m.line.length) :
  Calls Tryz.prog 42 #[.pointer (some ⟨p.mb, 0, none⟩), .i who, a.val] W (QPost W p (.tuple #[(m.get who a).1.1.val, .bool (m.get who a).1.2]) (m.get who a).2):=by
 have HR2 : RowKit.Hid (m.get who a = ((M.failed 7, true), m)):=Lib.hid (by unfold M.get; rw [if_neg (by simp [hc]), hf0]; simp only; rw [first_one, hf1]; simp only; rw [first_two, hf2]; simp only; rw [if_neg (by simp [hw]), if_pos hfull])
 generalize m.get who a = R at *
 have hlt : p.mb < W.heap.size:=h.lt (.inl rfl)
 obtain ⟨op, dl, wt, fo, sl, ge, st⟩:=a
 simp only [Ask.val, Ask.cells] at *
 have hB : Below W.heap.size W ((W.alloc (.cells (Ad op dl wt fo sl ge st) 25)).alloc (.cells Zv 36)):=((Below.refl _ _).alloc (Nat.le_refl _) _).alloc (by simp) _
 have r0 : Rq W.heap.size ((W.alloc (.cells (Ad op dl wt fo sl ge st) 25)).alloc (.cells Zv 36)) p ((W.alloc (.cells (Ad op dl wt fo sl ge st) 25)).alloc (.cells Zv 36)) p m:=Rq.begin h hB
 have e0 : ERow ((W.alloc (.cells (Ad op dl wt fo sl ge st) 25)).alloc (.cells Zv 36)) (W.heap.size + 1):=⟨Zv, rfl, heap_alloc2_new W _ _⟩
 have hg1 : W.heap.size + 1 < ((W.alloc (.cells (Ad op dl wt fo sl ge st) 25)).alloc (.cells Zv 36)).heap.size:=by simp
 have hg0 : W.heap.size ≤ W.heap.size + 1:=by omega
 have a0 : RowAt ((W.alloc (.cells (Ad op dl wt fo sl ge st) 25)).alloc (.cells Zv 36)) W.heap.size (Ad op dl wt fo sl ge st) 25:=heap_alloc2_old W _ _
 have k8:=r0.at'.hd.c8
 have hcb:=r0.at'.ok.closed
 have k8' : ¬ (0 : Int) < m.closed:=by omega
 have hc2:=Lib.hid hc
 clear hc hcb
 have HW:=Lib.hid hw
 clear hw
 go_enter Tryz.func42, Tryz.ntmps42
 go_upto_region 1 with (fail)
 generalize ((W.alloc (.cells (Ad op dl wt fo sl ge st) 25)).alloc (.cells Zv 36)) = wb at *
 have hq1:=q_first r0.at' 0 who (by simp)
 rw [r0.mb, hf0] at hq1
 simp only [firstInt] at hq1
 go_wp2_with fail
 refine hq1.mono ?_
 rintro e w1 ⟨rfl, hb1⟩
 have r1:=r0.below hb1
 have e1:=e0.below hb1
 have a1:=a0.below hb1
 clear hq1 hb1 r0 e0 a0
 have hq2:=q_first r1.at' 1 0 (by simp)
 rw [r1.mb, hf1] at hq2
 simp only [firstInt] at hq2
 go_wp2_with fail
 refine hq2.mono ?_
 rintro e w2 ⟨rfl, hb2⟩
 have r2:=r1.below hb2
 have e2:=e1.below hb2
 have a2:=a1.below hb2
 clear hq2 hb2 r1 e1 a1
 have hq3:=q_first r2.at' 2 0 (by simp)
 rw [r2.mb, hf2] at hq3
 simp only [firstInt] at hq3
 go_wp2_with fail
 refine hq3.mono ?_
 rintro e w3 ⟨rfl, hb3⟩
 have r3:=r2.below hb3
 have e3:=e2.below hb3
 have a3:=a2.below hb3
 clear hq3 hb3 r2 e2 a2
 have hw:=HW.out
 subst hw
 have cw : w3.cell? ⟨W.heap.size, 2, none⟩ = some (.bool true):=a3.cell 2
 have c3:=r3.at'.hd.c3
 have c7:=r3.at'.hd.c7
 obtain ⟨la, lc, hlv⟩:=r3.at'.own.form
 rw [hlv] at c7
 have HLV:=Lib.hid hlv
 have hfew:=r3.at'.ok.few
 clear hlv h
 go_wp2_with fail
 go_quiet (fail)
 have hbq : Below w3.heap.size w3 (w3.drewN nq):=bdrewN (Below.refl _ _) nq
 have r4:=r3.below hbq
 have e4:=e3.below hbq
 generalize hwz : w3.drewN nq = w4 at *
 clear hwz hbq cw c3 c7 r3 e3 a3
 go_upto_region 28 with (fail)
 obtain ⟨Z, z1, z2⟩:=e4
 refine wp_region_lit ?_
 refine RowL.gl ((M.failed 7)).val ?_ (by go_simp; try rfl)
 refine RowL.gSt z2 ((M.failed 7)).cells 36 (.tmp 6) (.tmp 103) ?_ (hsz:=z1) (h1:=ev_one _)
 go_wp2_with fail
 refine bR2 (W.heap.size + 1) (z2.set _) Tryz.underlying36 ?_
 rw [HR2.out]
 exact (r4.row hg0 hg1 _).fin hB _
theorem q_get_waits {W : World} {p : Ql} {m : M} (h : QAt W p m) (who : Int) (a : Ask) (hc : m.closed = 0) (hf0 : m.first 0 who = none) (hf1 : m.first 1 0 = none) (hf2 : m.first 2 0 = none) (hw : a.wait = true) (hfull : ¬ m.cf.waiters ≤ m.line.length) (hwho : m.has who = true) :
  Calls Tryz.prog 42 #[.pointer (some ⟨p.mb, 0, none⟩), .i who, a.val] W (QPost W p (.tuple #[(m.get who a).1.1.val, .bool (m.get who a).1.2]) (m.get who a).2):=by
 have HR2 : RowKit.Hid (m.get who a = ((Ev.zero, false), { m with line:=m.line ++ [who], ks:=m.ks.set who.toNat ⟨1, a, 0⟩ })):=Lib.hid (by unfold M.get; rw [if_neg (by simp [hc]), hf0]; simp only; rw [first_one, hf1]; simp only; rw [first_two, hf2]; simp only; rw [if_neg (by simp [hw]), if_neg hfull])
 generalize m.get who a = R at *
 have hlt : p.mb < W.heap.size:=h.lt (.inl rfl)
 obtain ⟨op, dl, wt, fo, sl, ge, st⟩:=a
 simp only [Ask.val, Ask.cells] at *
 have hB : Below W.heap.size W ((W.alloc (.cells (Ad op dl wt fo sl ge st) 25)).alloc (.cells Zv 36)):=((Below.refl _ _).alloc (Nat.le_refl _) _).alloc (by simp) _
 have r0 : Rq W.heap.size ((W.alloc (.cells (Ad op dl wt fo sl ge st) 25)).alloc (.cells Zv 36)) p ((W.alloc (.cells (Ad op dl wt fo sl ge st) 25)).alloc (.cells Zv 36)) p m:=Rq.begin h hB
 have e0 : ERow ((W.alloc (.cells (Ad op dl wt fo sl ge st) 25)).alloc (.cells Zv 36)) (W.heap.size + 1):=⟨Zv, rfl, heap_alloc2_new W _ _⟩
 have hg1 : W.heap.size + 1 < ((W.alloc (.cells (Ad op dl wt fo sl ge st) 25)).alloc (.cells Zv 36)).heap.size:=by simp
 have hg0 : W.heap.size ≤ W.heap.size + 1:=by omega
 have a0 : RowAt ((W.alloc (.cells (Ad op dl wt fo sl ge st) 25)).alloc (.cells Zv 36)) W.heap.size (Ad op dl wt fo sl ge st) 25:=heap_alloc2_old W _ _
 have k8:=r0.at'.hd.c8
 have hcb:=r0.at'.ok.closed
 have k8' : ¬ (0 : Int) < m.closed:=by omega
 have hc2:=Lib.hid hc
 clear hc hcb
 have HW:=Lib.hid hw
 clear hw
 go_enter Tryz.func42, Tryz.ntmps42
 go_upto_region 1 with (fail)
 generalize ((W.alloc (.cells (Ad op dl wt fo sl ge st) 25)).alloc (.cells Zv 36)) = wb at *
 have hq1:=q_first r0.at' 0 who (by simp)
 rw [r0.mb, hf0] at hq1
 simp only [firstInt] at hq1
 go_wp2_with fail
 refine hq1.mono ?_
 rintro e w1 ⟨rfl, hb1⟩
 have r1:=r0.below hb1
 have e1:=e0.below hb1
 have a1:=a0.below hb1
 clear hq1 hb1 r0 e0 a0
 have hq2:=q_first r1.at' 1 0 (by simp)
 rw [r1.mb, hf1] at hq2
 simp only [firstInt] at hq2
 go_wp2_with fail
 refine hq2.mono ?_
 rintro e w2 ⟨rfl, hb2⟩
 have r2:=r1.below hb2
 have e2:=e1.below hb2
 have a2:=a1.below hb2
 clear hq2 hb2 r1 e1 a1
 have hq3:=q_first r2.at' 2 0 (by simp)
 rw [r2.mb, hf2] at hq3
 simp only [firstInt] at hq3
 go_wp2_with fail
 refine hq3.mono ?_
 rintro e w3 ⟨rfl, hb3⟩
 have r3:=r2.below hb3
 have e3:=e2.below hb3
 have a3:=a2.below hb3
 clear hq3 hb3 r2 e2 a2
 have hw:=HW.out
 subst hw
 have cw : w3.cell? ⟨W.heap.size, 2, none⟩ = some (.bool true):=a3.cell 2
 have c3:=r3.at'.hd.c3
 have c7:=r3.at'.hd.c7
 obtain ⟨la, lc, hlv⟩:=r3.at'.own.form
 rw [hlv] at c7
 have HLV:=Lib.hid hlv
 have hfew:=r3.at'.ok.few
 clear hlv h
 have hw:=hwho
 have d1:=hfull
 clear hwho
 obtain ⟨i0, hi, hz0, hz1, hz2⟩:=info_parts int_info
 go_wp2_with fail
 go_quiet (fail)
 have hown : OwnS ((w3.drewN nq).alloc (.cells #[.i who] 3)) p.lv m.line.length 1 (m.line.map (Value.int .i64)):=OwnS.alloc (w:=w3.drewN nq) r3.at'.own _
 rw [HLV.out] at hown
 have R3:=Lib.hid r3
 clear cw c3
 go_wp2_with (at_builtin; refine Hp.wpList_append _ rfl _ _ 43 rfl 3 i0 (.i 0) 1 8 Tryz.underlying43 hi hz0 hz1 hz2 rfl (by decide) _ _ _ rfl hown ⟨w3.heap.size, 0, none⟩ 1 1 [.i who] rfl rfl ?c1 ?c2 ?c3 ?c4 ?_)
 case c1 => exact one_new _ _ _
 case c2 => simp [Value.oneCell']
 case c3 => unfold maxLen; omega
 case c4 => omega
 intro la' lc' w5 hown' hfp hch
 obtain ⟨t, t1, -, -, -, t6⟩:=R3.out.at'.tag
 have hnl1 : ¬ Fp (.slice la m.line.length lc) p.mb:=fun h => by have:=t6 _ (HLV.out ▸ h); omega
 have hC5 : Chg (Fp (.slice la m.line.length lc)) w3 w5:=Chg.trans (Chg.alloc (show Chg (Fp (.slice la m.line.length lc)) w3 (w3.drewN nq) from ⟨rfl, rfl, rfl, Nat.le_refl _, fun _ _ _ => rfl⟩) _) hch (fun _ _ h => h)
 have hlm3 : p.mb < w3.heap.size:=R3.out.at'.lt (.inl rfl)
 have e7:=(hC5.cell (p:=⟨p.mb, 7, none⟩) hlm3 hnl1).trans c7
 have f7:=(hC5.frozen (p:=⟨p.mb, 7, none⟩) hlm3 hnl1).trans R3.out.at'.hd.f7
 have HC5:=Lib.hid hC5
 have HOWN:=Lib.hid hown'
 have HFP:=Lib.hid hfp
 have h5s : w3.heap.size ≤ w5.heap.size:=hC5.size
 clear c7 hown hch hC5 hown' hfp t1 t6
 go_wp2_with fail
 obtain ⟨nn, hnn, hnl⟩ : ∃ nn : Nat, who = (nn : Int) ∧ nn < m.ks.length:=by
  simp [M.has] at hw
  obtain ⟨q, hq⟩:=Int.eq_ofNat_of_zero_le hw.1
  exact ⟨q, hq, by omega⟩
 subst hnn
 have hC6 : Chg (fun k => k = p.mb ∨ Fp p.lv k) w3 (w5.setCell ⟨p.mb, 7, none⟩ (.slice la' (m.line.length + 1) lc')):=(HC5.out.mono (fun k _ hk => .inr (by rw [HLV.out]; exact hk))).setCell _ _ (fun _ => .inl rfl)
 have hnv : ¬ Fp (.slice la' (m.line.length + 1) lc') p.mb:=fun hk => by
  rcases HFP.out _ hk with h' | h'
  ·exact hnl1 h'
  ·first | omega | (simp at h'; omega)
 have hown6 : OwnS (w5.setCell ⟨p.mb, 7, none⟩ (.slice la' (m.line.length + 1) lc')) (.slice la' (m.line.length + 1) lc') (m.line.length + 1) 1 (m.line.map (Value.int .i64) ++ [.i nn]) :=
  HOWN.out.chg (F:=fun k => k = p.mb) ((Chg.refl _ _).setCell ⟨p.mb, 7, none⟩ (.slice la' (m.line.length + 1) lc') (fun _ => rfl)) (fun k hk e => hnv (e ▸ hk))
 have hhd5 : Qd w5 p m.cf m.ss.length m.ks.length m.closed m.now:=R3.out.at'.hd.stable (HC5.out.block _ hlm3 hnl1)
 have hA6:=R3.out.at'.toLine (v':=.slice la' (m.line.length + 1) lc') (l:=m.line ++ [(nn : Int)]) (W':=w5.setCell ⟨p.mb, 7, none⟩ (.slice la' (m.line.length + 1) lc')) (by simpa using hown6) (by
   have h1:=R3.out.at'.ok.conf
   simp [Conf.Cf.right, Conf.btw] at h1
   simp at d1 ⊢
   omega) (fun x hx => by
   simp at hx
   rcases hx with hx | rfl
   ·exact R3.out.at'.ok.line x hx
   ·omega) (fun k hk => by
   rcases HFP.out k hk with h' | h'
   ·exact .inl (by rw [HLV.out]; exact h')
   ·exact .inr (by first | omega | (simp at h'; omega))) hC6 (qd_line hhd5 _)
 have r6:=R3.out.line hA6 (fun k hk => by
   rcases HFP.out k hk with h' | h'
   ·exact .inl (by rw [HLV.out]; exact h')
   ·exact .inr (by first | omega | (simp at h'; omega))) hC6
 have e6 : ERow (w5.setCell ⟨p.mb, 7, none⟩ (.slice la' (m.line.length + 1) lc')) (W.heap.size + 1):=e3.chg hC6 (fun hk => R3.out.not hg0 hg1 (by
   rcases hk with hk | hk
   ·exact .inl hk
   ·exact .inr (.inr (.inr (.inr hk)))))
 have a6 : RowAt (w5.setCell ⟨p.mb, 7, none⟩ (.slice la' (m.line.length + 1) lc')) W.heap.size (Ad op dl true fo sl ge st) 25:=a3.chg hC6 (fun hk => R3.out.not (Nat.le_refl _) (Nat.lt_trans (Nat.lt_succ_self _) hg1) (by
   rcases hk with hk | hk
   ·exact .inl hk
   ·exact .inr (.inr (.inr (.inr hk)))))
 clear e7 f7 hown6 hhd5 hnv hC6 HC5 HOWN HFP a3 e3 R3 hi hz0 hz1 hz2
 generalize hwz : w5.setCell ⟨p.mb, 7, none⟩ (.slice la' (m.line.length + 1) lc') = w6 at *
 clear hwz hA6
 have A6:=r6.at'
 have hkm : p.mb ≠ p.kb:=A6.ne.2.1
 have hka : W.heap.size ≠ p.kb:=fun e => r6.not (Nat.le_refl _) (Nat.lt_trans (Nat.lt_succ_self _) hg1) (.inr (.inr (.inl e)))
 have c6:=A6.hd.c6
 have hlm6 : p.mb < w6.heap.size:=A6.lt (.inl rfl)
 simp only at c6
 have L6 : ∀ w', Chg (fun k => k = p.kb) w6 w' → w'.cell? ⟨p.mb, 6, none⟩ = some (.slice (some ⟨p.kb, 0, none⟩) m.ks.length m.ks.length):=fun w' h => (h.cell (p:=⟨p.mb, 6, none⟩) hlm6 hkm).trans c6
 have LA : ∀ w', Chg (fun k => k = p.kb) w6 w' → RowAt w' W.heap.size (Ad op dl true fo sl ge st) 25:=fun w' h => a6.chg h hka
 have hKd : Chg (fun k => k = p.kb) w6 w6.drew:=(Chg.refl _ _).drew
 have hnk:=A6.ok.nk
 simp only at hnk
 have b0 : (0 : Int) ≤ (nn : Int):=by omega
 have b1 : (nn : Int) < (m.ks.length : Int):=by omega
 have b2 : (nn : Int) ≤ (m.ks.length : Int) - 1:=by omega
 have hth : w6.drew.there p.kb (nn * 10) 10:=by
  have:=WaitAt.there A6.works (i:=nn) hnl
  simpa using this
 have hset : Chg (fun k => k = p.kb) w6 (w6.drew.setCells p.kb (nn * 10) (Ai true true 0 op dl true fo sl ge st).toList):=hKd.trans (chg_setCells _ _ _ _) (fun _ _ h => h)
 have hW7:=(WaitAt.stable (W':=w6.drew) A6.works rfl).setL (i:=nn) hnl ⟨1, ⟨op, dl, true, fo, sl, ge, st⟩, 0⟩
 have hA7:=A6.toWorks hset hW7 (by simp) (by
  intro k hk h2
  rcases List.mem_or_eq_of_mem_set hk with hk | rfl
  ·exact A6.ok.grants k hk h2
  ·cases h2)
 have r7:=r6.works hA7 hset
 have e7:=e6.chg hset (fun e => r6.not hg0 hg1 (.inr (.inr (.inl e))))
 clear c6 A6 hnk hA7 hW7 e6 a6 r6
 have R7:=Lib.hid r7
 clear r7
 refine wp_region_held_drew (S:=fun w' => Chg (fun k => k = p.kb) w6 w') (by kernel_rfl) (by exact hKd) (fun hHeld => ?_)
 refine tKw (gd:=none) 0 114 (.move (.tmp 0)) ((.pointer (some ⟨p.mb, 0, none⟩))) (run_move_of (.tmp 0) (.pointer (some ⟨p.mb, 0, none⟩)) (by kernel_rfl)) hHeld ?_
 try simp only [Act.put, sA, sZ, sS]
 refine tKg 1 115 hHeld ?_
 try simp only [Act.put, sA, sZ, sS]
 refine tKg 2 116 hHeld ?_
 try simp only [Act.put, sA, sZ, sS]
 refine tKg 3 117 hHeld ?_
 try simp only [Act.put, sA, sZ, sS]
 refine tKw (gd:=none) 4 118 (.move (.tmp 1)) ((.i nn)) (run_move_of (.tmp 1) (.i nn) (by kernel_rfl)) hHeld ?_
 try simp only [Act.put, sA, sZ, sS]
 refine tKw (gd:=none) 5 119 (.load 25 (.tmp 5)) (.agg (Ad op dl true fo sl ge st)) (run_load_row 25 (.tmp 5) (W.heap.size) 25 (Ad op dl true fo sl ge st) _ (by kernel_rfl) Tryz.underlying25 rfl (by kernel_rfl) LA) hHeld ?_
 try simp only [Act.put, sA, sZ, sS]
 refine tKg 6 120 hHeld ?_
 try simp only [Act.put, sA, sZ, sS]
 refine tKg 7 121 hHeld ?_
 try simp only [Act.put, sA, sZ, sS]
 refine ready1 (i:=8) (by kernel_rfl) (step_store_mid 97 (.tmp 121) (.tmp 120) (by kernel_rfl) p.kb (nn * 10) (Ai true true 0 op dl true fo sl ge st) (by kernel_rfl) (by kernel_rfl) hth (by kernel_rfl) (by kernel_rfl) hset (fun _ => ?_))
 refine wpAnyH_done (by kernel_rfl) ?_ _
 generalize hwz : w6.drew.setCells p.kb (nn * 10) (Ai true true 0 op dl true fo sl ge st).toList = w7 at *
 clear hwz hset hth hKd L6 LA hHeld b0 b1 b2
 go_upto_region 31 with (fail)
 obtain ⟨Z, z1, z2⟩:=e7
 refine wp_region_lit ?_
 refine RowL.gl (Ev.zero).val ?_ (by go_simp; try rfl)
 refine RowL.gSt z2 (Ev.zero).cells 36 (.tmp 6) (.tmp 122) ?_ (hsz:=z1) (h1:=ev_one _)
 go_wp2_with fail
 refine bR2 (W.heap.size + 1) (z2.set _) Tryz.underlying36 ?_
 rw [HR2.out]
 exact (R7.out.row hg0 hg1 _).fin hB _
end Go.Proofs.YtpmkgddjgebojaaGreatDoor.Mod
