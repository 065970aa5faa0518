/- Part 18 of the walks and plain laws that the last text joins. -/
import Derived.Test.YtpmkgddjgebojaaGreatDoorE8
import Derived.Test.YtpmkgddjgebojaaGreatDoorE10
import Derived.Test.YtpmkgddjgebojaaGreatDoorE11
import Derived.Test.YtpmkgddjgebojaaGreatDoorE12
import Derived.Test.YtpmkgddjgebojaaGreatDoorE13
import Derived.Test.YtpmkgddjgebojaaGreatDoorE14
import Derived.Test.YtpmkgddjgebojaaGreatDoorE16
import Derived.Test.YtpmkgddjgebojaaGreatDoorE17
set_option maxRecDepth 100000
set_option maxHeartbeats 16000000
set_option linter.unusedVariables false
set_option linter.unusedSimpArgs false
namespace Go.Proofs.YtpmkgddjgebojaaGreatDoor.Mod
open Go.RowKit Hp Slot RowL Life
section
variable {W : World} {p : Pl} {m : M}
theorem m_turn' (h : MAt W p m) (i d : Nat) (iz dz own more : Int) (s : S) (hi : m.ss[i]? = some s) (hiz : iz = i) (hdz : dz = d) (hd : Done d) :
  Calls Tryz.prog 63 #[.pointer (some ⟨p.mb, 0, none⟩), .i iz, .i dz, .i own, .i more] W fun e W' => e = .returned (.bool (next s d own more).isSome) ∧ MAt W' p (m.turn i d own more) ∧ Chg (fun k => k = p.sb) W W':=by
 subst hiz hdz
 have hr:=h.ok.rights s (List.mem_of_getElem? hi)
 obtain ⟨F, h1, h2, h3⟩:=act_any d hd s own more
 refine (turn_any W p.mb p.sb m.ss i s own more F d _ _ h.hdr h.slots hi (by have:=h.ok.ns; omega) h.ne.2.1 (by unfold Done at hd; omega) h1 h2 h.laid (right_wf hr) h3).mono ?_
 rintro e W' ⟨rfl, hs, hc⟩
 rw [turned_eq _ _ _ _ _ _ hi] at hs
 exact ⟨rfl, h.toSlots hc hs (turnL_len _ _ _ _ _) (turnL_right hd h.ok.rights), hc⟩
end
structure Re (B : Nat) (W0 : World) (p : Pl) (w : World) (p' : Pl) (m' : M) : Prop where
 at' : MAt w p' m'
 old : ∀ k, mfp p k → k < B
 le : B ≤ W0.heap.size
 same : ∃ lv rv, p' = { p with lv:=lv, rv:=rv }
 lvs : ∀ k, Fp p'.lv k → Fp p.lv k ∨ W0.heap.size ≤ k
 rvs : ∀ k, Fp p'.rv k → Fp p.rv k ∨ W0.heap.size ≤ k
 chg : Chg (fun k => mfp p k ∨ B ≤ k) W0 w
section
variable {B : Nat} {W0 w w' : World} {p p' : Pl} {m' m'' : M}
theorem Re.begin {W : World} {m : M} (h : MAt W p m) (hb : Below W.heap.size W W0) : Re W.heap.size W0 p W0 p m :=
 ⟨h.below hb, fun k hk => h.lt hk, hb.size, ⟨p.lv, p.rv, rfl⟩, fun _ h => .inl h, fun _ h => .inl h, Chg.refl _ _⟩
theorem Re.mine (r : Re B W0 p w p' m') {k : Nat} (hk : mfp p' k) : mfp p k ∨ W0.heap.size ≤ k:=by
 obtain ⟨lv, rv, h⟩:=r.same
 have e1:=r.lvs
 have e2:=r.rvs
 subst h
 rcases hk with hk | hk | hk | hk | (hk | hk | hk) | hk
 ·exact .inl (.inl hk)
 ·exact .inl (.inr (.inl hk))
 ·exact .inl (.inr (.inr (.inl hk)))
 ·exact .inl (.inr (.inr (.inr (.inl hk))))
 ·exact .inl (.inr (.inr (.inr (.inr (.inl (.inl hk))))))
 ·exact .inl (.inr (.inr (.inr (.inr (.inl (.inr (.inl hk)))))))
 ·exact (e2 k hk).imp (fun h => .inr (.inr (.inr (.inr (.inl (.inr (.inr h))))))) id
 ·exact (e1 k hk).imp (fun h => .inr (.inr (.inr (.inr (.inr h))))) id
theorem Re.not (r : Re B W0 p w p' m') {g : Nat} (h1 : B ≤ g) (h2 : g < W0.heap.size) : ¬ mfp p' g:=fun h => by
 rcases r.mine h with h | h
 ·have:=r.old g h; omega
 ·omega
theorem Re.not' (r : Re B W0 p w p' m') {g : Nat} (h1 : ¬ mfp p g) (h2 : g < W0.heap.size) : ¬ mfp p' g:=fun h => by
 rcases r.mine h with h | h
 ·exact h1 h
 ·omega
theorem Re.pos (r : Re B W0 p w p' m') : 0 < B:=by have:=r.old p.mb (.inl rfl); omega
theorem Re.size (r : Re B W0 p w p' m') : W0.heap.size ≤ w.heap.size:=r.chg.size
theorem Re.below (r : Re B W0 p w p' m') (hb : Below w.heap.size w w') : Re B W0 p w' p' m' :=
 ⟨r.at'.below hb, r.old, r.le, r.same, r.lvs, r.rvs, r.chg.trans (Chg.ofBelow (F:=fun _ => False) hb) (fun _ _ h => h.elim)⟩
theorem Re.drew (r : Re B W0 p w p' m') : Re B W0 p w.drew p' m':=⟨r.at'.drew, r.old, r.le, r.same, r.lvs, r.rvs, r.chg.drew⟩
theorem Re.alloc (r : Re B W0 p w p' m') (o : Obj) : Re B W0 p (w.alloc o) p' m':=r.below ((Below.refl _ _).alloc (Nat.le_refl _) _)
theorem Re.turn (r : Re B W0 p w p' m') (h : MAt w' p' m'') (hc : Chg (mfp p') w w') : Re B W0 p w' p' m'' :=
 ⟨h, r.old, r.le, r.same, r.lvs, r.rvs, r.chg.trans hc (fun k _ hk => (r.mine hk).imp id (fun h => Nat.le_trans r.le h))⟩
theorem Re.slots (r : Re B W0 p w p' m') (h : MAt w' p' m'') (hc : Chg (fun k => k = p'.sb) w w') : Re B W0 p w' p' m'':=r.turn h (hc.mono fun k _ e => .inr (.inl e))
theorem Re.works (r : Re B W0 p w p' m') (h : MAt w' p' m'') (hc : Chg (fun k => k = p'.kb) w w') : Re B W0 p w' p' m'':=r.turn h (hc.mono fun k _ e => .inr (.inr (.inl e)))
theorem Re.post (r : Re B W0 p w p' m') {ans : Value} {e : Ending} (h : MPost w p' ans m'' e w') : e = .returned ans ∧ ∃ p'', Re B W0 p w' p'' m'' ∧ Chg (mfp p') w w':=by
 obtain ⟨h0, lv, rv, h1, h2, h3, h4⟩:=h
 refine ⟨h0, _, ⟨h1, r.old, r.le, ?_, fun k hk => ?_, fun k hk => ?_, r.chg.trans h4 (fun k _ hk => (r.mine hk).imp id (fun h => Nat.le_trans r.le h))⟩, h4⟩
 ·obtain ⟨l, v, h⟩:=r.same
  exact ⟨lv, rv, by rw [h]⟩
 ·rcases h2 k hk with h | h
  ·exact r.lvs k h
  ·exact .inr (Nat.le_trans r.size h)
 ·rcases h3 k hk with h | h
  ·exact r.rvs k h
  ·exact .inr (Nat.le_trans r.size h)
theorem Re.box (r : Re B W0 p w p' m') {g : Nat} (h1 : B ≤ g) (h2 : g < W0.heap.size) (hc : Chg (fun k => k = g) w w') : Re B W0 p w' p' m':=by
 have hp:=r.pos
 exact ⟨r.at'.chg hc (fun k hk e => r.not h1 h2 (e ▸ hk)) (by omega), r.old, r.le, r.same, r.lvs, r.rvs, r.chg.trans hc (fun k _ e => .inr (by rw [e]; exact h1))⟩
theorem Re.row (r : Re B W0 p w p' m') {g : Nat} (h1 : B ≤ g) (h2 : g < W0.heap.size) (cs : Array Value) : Re B W0 p (w.setRow g cs) p' m' :=
 r.box h1 h2 (chg_setRow (Chg.refl _ _) _ _ (fun _ => rfl))
theorem Re.mb (r : Re B W0 p w p' m') : p'.mb = p.mb:=by obtain ⟨_, _, h⟩:=r.same; rw [h]
theorem Re.sb (r : Re B W0 p w p' m') : p'.sb = p.sb:=by obtain ⟨_, _, h⟩:=r.same; rw [h]
theorem Re.fin {W : World} (r : Re W.heap.size W0 p w p' m') (hb : Below W.heap.size W W0) (ans : Value) : MPost W p ans m' (.returned ans) w:=by
 obtain ⟨lv, rv, h⟩:=r.same
 have h1:=r.lvs
 have h2:=r.rvs
 have h3:=r.at'
 subst h
 refine ⟨rfl, lv, rv, h3, fun k hk => (h1 k hk).imp id (Nat.le_trans hb.size), fun k hk => (h2 k hk).imp id (Nat.le_trans hb.size), ?_⟩
 exact (Chg.trans (Chg.ofBelow hb) r.chg (fun k hk h => h.elim id (fun h => by omega)))
theorem RowAt.kept {g : Nat} {cs : Array Value} {t : TypeId} (h : RowAt w g cs t) (r : Re B W0 p w p' m') (h1 : B ≤ g) (h2 : g < W0.heap.size) (hc : Chg (mfp p') w w') : RowAt w' g cs t:=h.chg hc (r.not h1 h2)
end
theorem ev_store {w : World} {g : Nat} {Z : Array Value} {t : TypeId} (h : RowAt w g Z t) (hz : Z.size = 18) (x : Ev) : (storeCells ⟨g, 0, none⟩ x.cells.toList 0).run Tryz.prog w = .ok () (w.setRow g x.cells):=by
 have h4:=run_storeCells_from (P:=Tryz.prog) g t x.cells.toList 0 Z w h (by simp [Ev.cells, hz]) (fun v hv => by simp [Ev.cells] at hv; rcases hv with rfl | rfl | rfl | rfl | rfl | rfl | rfl | rfl | rfl | rfl | rfl | rfl | rfl | rfl | rfl | rfl | rfl | rfl <;> rfl)
 simpa using h4
abbrev ev0 : Array Value:=Ev.zero.cells
def ERow (w : World) (g : Nat) : Prop:=∃ Z : Array Value, Z.size = 18 ∧ RowAt w g Z 36
theorem ERow.store {w : World} {g : Nat} (h : ERow w g) (x : Ev) : (storeCells ⟨g, 0, none⟩ x.cells.toList 0).run Tryz.prog w = .ok () (w.setRow g x.cells):=by
 obtain ⟨Z, h1, h2⟩:=h
 exact ev_store h2 h1 x
theorem ERow.set {w : World} {g : Nat} (h : ERow w g) (x : Ev) : RowAt (w.setRow g x.cells) g x.cells 36:=by
 obtain ⟨Z, h1, h2⟩:=h
 exact h2.set _
theorem ERow.chg {w w' : World} {g : Nat} {F : Nat → Prop} (h : ERow w g) (hc : Chg F w w') (hf : ¬ F g) : ERow w' g:=by
 obtain ⟨Z, h1, h2⟩:=h
 exact ⟨Z, h1, h2.chg hc hf⟩
theorem ERow.below {w w' : World} {g : Nat} (h : ERow w g) (hc : Below w.heap.size w w') : ERow w' g:=by
 obtain ⟨Z, h1, h2⟩:=h
 exact ⟨Z, h1, h2.below hc⟩
theorem ev_one (x : Ev) : (x.cells.all fun v => v.oneCell') = true:=by simp [Ev.cells, Value.oneCell']
theorem ev_size (x : Ev) : x.cells.size = 18:=rfl
end Go.Proofs.YtpmkgddjgebojaaGreatDoor.Mod
namespace Go.Proofs.YtpmkgddjgebojaaGreatDoor.Mod
open Go.RowKit Hp Slot RowL Life R8
theorem row8_any (w : World) (s : S) (d : Nat) (own more : Int) (hd : Done d) (hr : s.right = true) : Calls Tryz.prog 101 #[s.val, .i (d : Int), .i own, .i more] w fun e w' =>
  e = .returned (.tuple #[(row8 d s own more).1.val, .bool (row8 d s own more).2]) ∧ Below w.heap.size w w':=by
 rcases hd with rfl | rfl | rfl | rfl | rfl | rfl | rfl | rfl | rfl | rfl | rfl | rfl | rfl
 ·exact row0_any w s own more hr
 ·exact row1_any w s own more hr
 ·exact row2_any w s own more hr
 ·exact row3_any w s own more hr
 ·exact row4_any w s own more hr
 ·exact row5_any w s own more hr
 ·exact row7_any w s own more hr
 ·exact row9_any w s own more hr
 ·exact row10_any w s own more hr
 ·exact row13_any w s own more hr
 ·exact row14_any w s own more hr
 ·exact row15_any w s own more hr
 ·exact row16_any w s own more hr
theorem ref_next (w : World) (s : S) (d : Nat) (dz own more : Int) (hd : Done d) (hdz : dz = d) (hr : s.right = true) : Calls Tryz.prog 92 #[s.val, .i dz, .i own, .i more] w fun e w' =>
  e = .returned (.tuple #[((next s d own more).getD S.zero).val, .bool (next s d own more).isSome]) ∧ Below w.heap.size w w':=by
 subst hdz
 have hri:=fun W => ref_slot_right_yes W s hr
 have hro:=fun W => row8_any W s d own more hd hr
 have hac:=row8_act (own:=own) (more:=more) hd hr
 have hve:=row8_version (d:=d) s own more
 have hvb:=(right_bounds hr).2.2.2.1
 have hn1 : ¬ (0 ≤ own ∧ own ≤ 15) → next s d own more = none:=fun h => by
  unfold next nextOf
  rw [if_neg (fun e => h ⟨e.2.1, e.2.2.1⟩)]
 have hn2 : (row8 d s own more).2 = false → next s d own more = none:=fun h => by
  unfold next nextOf
  rw [if_neg (fun e => by rw [hac.1, e.2.2.2] at h; cases h)]
 have hn3 : (0 ≤ own ∧ own ≤ 15) → (row8 d s own more).2 = true → next s d own more = some { (row8 d s own more).1 with version:=(s.version + 1) % 32768 }:=fun h1 h2 => by
  unfold next nextOf
  rw [hac.1] at h2
  rw [if_pos ⟨hr, h1.1, h1.2, h2⟩, hac.2 h2]
 have HN1:=Lib.hid hn1
 have HN2:=Lib.hid hn2
 have HN3:=Lib.hid hn3
 generalize next s d own more = nx at *
 generalize row8 d s own more = r at *
 obtain ⟨t, b⟩:=r
 obtain ⟨st, ow, sm, br, ma, us, ge, ep, ve⟩:=s
 obtain ⟨st', ow', sm', br', ma', us', ge', ep', ve'⟩:=t
 simp only at hve hvb
 subst hve
 simp only [S.val, S.cells] at hri hro
 obtain ⟨hv0, hv1⟩:=hvb
 clear hac hn1 hn2 hn3 hr hd
 simp only [S.val, S.cells]
 have hA : Below w.heap.size w ((w.alloc (.cells (Ac st ow sm br ma us ge ep ve') 59)).alloc (.cells zero9 59)):=((Below.refl _ _).alloc (Nat.le_refl _) _).alloc (by simp) _
 have ra : RowAt ((w.alloc (.cells (Ac st ow sm br ma us ge ep ve') 59)).alloc (.cells zero9 59)) w.heap.size (Ac st ow sm br ma us ge ep ve') 59:=heap_alloc2_old w _ _
 have rb : RowAt ((w.alloc (.cells (Ac st ow sm br ma us ge ep ve') 59)).alloc (.cells zero9 59)) (w.heap.size + 1) zero9 59:=heap_alloc2_new w _ _
 go_enter Tryz.func92, Tryz.ntmps92
 go_wp2_with fail
 refine (hri _).mono ?_
 rintro e w1 ⟨rfl, hb1⟩
 have ra1:=ra.below hb1
 have rb1:=rb.below hb1
 have hA1:=hA.trans (hb1.mono hA.size)
 clear ra rb hb1 hri hA
 by_cases ho : 0 ≤ own ∧ own ≤ 15
 rotate_left
 ·have hz:=HN1.out ho
  have HZ:=Lib.hid hz
  clear hz HN1 HN2 HN3 hro ra1
  by_cases h1 : own < 0
  ·clear ho
   go_upto_region 3 with (fail)
   refine wp_region_lit ?_
   refine wpList_run rfl (.agg zero9) (by go_simp; try rfl) ?_
   refine RowL.gSt rb1 zero9 59 (.tmp 8) (.tmp 25) ?_
   have q5:=rb1.set zero9
   have hb5:=below_setRow hA1 (g:=w.heap.size + 1) (by omega) zero9
   clear hA1
   go_wp2_with fail
   refine bR2 (w.heap.size + 1) q5 Tryz.underlying59 ?_
   exact ⟨by rw [HZ.out]; rfl, hb5⟩
  ·have h2 : 15 < own:=by omega
   clear ho
   go_upto_region 3 with (fail)
   refine wp_region_lit ?_
   refine wpList_run rfl (.agg zero9) (by go_simp; try rfl) ?_
   refine RowL.gSt rb1 zero9 59 (.tmp 8) (.tmp 25) ?_
   have q5:=rb1.set zero9
   have hb5:=below_setRow hA1 (g:=w.heap.size + 1) (by omega) zero9
   clear hA1
   go_wp2_with fail
   refine bR2 (w.heap.size + 1) q5 Tryz.underlying59 ?_
   exact ⟨by rw [HZ.out]; rfl, hb5⟩
 obtain ⟨ho0, ho1⟩:=ho
 have ho2 : ¬ own < 0:=by omega
 have ho3 : ¬ 15 < own:=by omega
 go_upto_region 4 with (fail)
 have l0:=ra1.cell 0
 refine wp_region_lit ?_
 refine RowL.grow ra1 59 (.tmp 4) Tryz.underlying59 ?_
 go_wp2_with fail
 refine (hro _).mono ?_
 rintro e w2 ⟨rfl, hb2⟩
 have rb2:=rb1.below hb2
 have hA2:=hA1.trans (hb2.mono hA1.size)
 have rt:=RowAt.new w2 (Ac st' ow' sm' br' ma' us' ge' ep' ve') 59
 have hA3:=hA2.alloc hA2.size (.cells (Ac st' ow' sm' br' ma' us' ge' ep' ve') 59)
 have rb3:=rb2.alloc (.cells (Ac st' ow' sm' br' ma' us' ge' ep' ve') 59)
 have hlt : w.heap.size + 1 < w2.heap.size:=rb2.lt
 clear hro ra1 rb1 hA1 hb2 rb2 hA2 l0
 cases b
 ·have hz:=HN2.out rfl
  have HZ:=Lib.hid hz
  go_upto_region 6 with (fail)
  generalize w2.alloc (.cells (Ac st' ow' sm' br' ma' us' ge' ep' ve') 59) = w3 at *
  clear hz HN1 HN2 HN3 rt
  refine wp_region_lit ?_
  refine wpList_run rfl (.agg zero9) (by go_simp; try rfl) ?_
  refine RowL.gSt rb3 zero9 59 (.tmp 8) (.tmp 36) ?_
  have q5:=rb3.set zero9
  have hb5:=below_setRow hA3 (g:=w.heap.size + 1) (by omega) zero9
  clear hA3
  go_wp2_with fail
  refine bR2 (w.heap.size + 1) q5 Tryz.underlying59 ?_
  exact ⟨by rw [HZ.out]; rfl, hb5⟩
 ·go_upto_region 7 with (fail)
  generalize w2.alloc (.cells (Ac st' ow' sm' br' ma' us' ge' ep' ve') 59) = w3 at *
  generalize w2.heap.size = tb at *
  have c8 : w3.cell? ⟨tb, 8, none⟩ = some (.i ve'):=rt.cell 8
  have z8 : w3.frozen? ⟨tb, 8, none⟩ = false:=rt.frozen 8
  have hn0 : ¬ w.heap.size + 1 = tb:=by omega
  have hwn : w.heap.size ≤ tb:=by omega
  have RT:=Lib.hid rt
  have RB:=Lib.hid rb3
  have HA:=Lib.hid hA3
  clear rt rb3 hA3 hlt
  by_cases h9 : ve' = 32767
  ·subst h9
   have hz:=HN3.out ⟨ho0, ho1⟩ (by first | rfl | trivial)
   have HZ:=Lib.hid (hz.trans (show _ = some (⟨st', ow', sm', br', ma', us', ge', ep', 0⟩ : S) from rfl))
   clear hz HN1 HN2 HN3
   go_upto_region 10 with (fail)
   have r4 : RowAt ((w3.setCell ⟨tb, 8, none⟩ (.i 32768)).setCell ⟨tb, 8, none⟩ (.i 0)) tb (Ac st' ow' sm' br' ma' us' ge' ep' 0) 59:=(RT.out.setc 8 _).setc 8 _
   have q4:=setOther (setOther RB.out (p:=⟨tb, 8, none⟩) (.i 32768) hn0) (p:=⟨tb, 8, none⟩) (.i 0) hn0
   have hb4:=(HA.out.setCell (p:=⟨tb, 8, none⟩) hwn (.i 32768)).setCell (p:=⟨tb, 8, none⟩) hwn (.i 0)
   generalize (w3.setCell ⟨tb, 8, none⟩ (.i 32768)).setCell ⟨tb, 8, none⟩ (.i 0) = w4 at *
   refine wp_region_lit ?_
   refine RowL.grow r4 59 (.tmp 11) Tryz.underlying59 ?_
   refine RowL.gSt q4 (Ac st' ow' sm' br' ma' us' ge' ep' 0) 59 (.tmp 8) (.tmp 45) ?_
   have q5:=q4.set (Ac st' ow' sm' br' ma' us' ge' ep' 0)
   have hb5 : Below w.heap.size w (w4.setRow (w.heap.size + 1) (Ac st' ow' sm' br' ma' us' ge' ep' 0)):=below_setRow hb4 (by omega) _
   clear r4 q4 hb4 c8 z8
   go_wp2_with fail
   refine bR2 (w.heap.size + 1) q5 Tryz.underlying59 ?_
   exact ⟨by rw [HZ.out]; rfl, hb5⟩
  ·have h10 : (ve' + 1 == 32768) = false:=by simp; omega
   have hz:=HN3.out ⟨ho0, ho1⟩ (by first | rfl | trivial)
   have HZ:=Lib.hid (hz.trans (show _ = some (⟨st', ow', sm', br', ma', us', ge', ep', ve' + 1⟩ : S) by rw [show (ve' + 1) % 32768 = ve' + 1 by omega]))
   clear hz HN1 HN2 HN3
   go_upto_region 10 with (fail)
   have r4 : RowAt (w3.setCell ⟨tb, 8, none⟩ (.i (ve' + 1))) tb (Ac st' ow' sm' br' ma' us' ge' ep' (ve' + 1)) 59:=RT.out.setc 8 _
   have q4:=setOther RB.out (p:=⟨tb, 8, none⟩) (.i (ve' + 1)) hn0
   have hb4:=HA.out.setCell (p:=⟨tb, 8, none⟩) hwn (.i (ve' + 1))
   generalize w3.setCell ⟨tb, 8, none⟩ (.i (ve' + 1)) = w4 at *
   refine wp_region_lit ?_
   refine RowL.grow r4 59 (.tmp 11) Tryz.underlying59 ?_
   refine RowL.gSt q4 (Ac st' ow' sm' br' ma' us' ge' ep' (ve' + 1)) 59 (.tmp 8) (.tmp 45) ?_
   have q5:=q4.set (Ac st' ow' sm' br' ma' us' ge' ep' (ve' + 1))
   have hb5 : Below w.heap.size w (w4.setRow (w.heap.size + 1) (Ac st' ow' sm' br' ma' us' ge' ep' (ve' + 1))):=below_setRow hb4 (by omega) _
   clear r4 q4 hb4 c8 z8
   go_wp2_with fail
   refine bR2 (w.heap.size + 1) q5 Tryz.underlying59 ?_
   exact ⟨by rw [HZ.out]; rfl, hb5⟩
end Go.Proofs.YtpmkgddjgebojaaGreatDoor.Mod
