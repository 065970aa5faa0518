/- Part 3 of the walks and plain laws that the last text joins. -/
import Derived.Test.YteadpgiffpfmnaaGreatDoorQ2
import Derived.Deep.RegionWith
set_option maxRecDepth 100000
set_option maxHeartbeats 16000000
set_option linter.unusedVariables false
set_option linter.unusedSimpArgs false
namespace Go.Proofs.YteadpgiffpfmnaaGreatDoor.Life
open Go.RowKit Hp Slot RowL
abbrev zero9 : Array Value:=Zs
def Kp (wa : World) (rb : Nat) (w' : World) : Prop:=Chg (fun k => k = rb) wa w' ∧ ∃ Z : Array Value, Z.size = 9 ∧ RowAt w' rb Z 41
theorem Kp.later {wa w w' : World} {rb : Nat} (h : Kp wa rb w) (hb : Below w.heap.size w w') : Kp wa rb w':=by
 obtain ⟨h1, Z, h2, h3⟩:=h
 exact ⟨h1.trans (Chg.ofBelow (F:=fun k => k = rb) hb) (fun _ _ h => h), Z, h2, h3.below hb⟩
theorem Kp.drew {wa w : World} {rb : Nat} (h : Kp wa rb w) : Kp wa rb w.drew:=by
 obtain ⟨h1, Z, h2, h3⟩:=h
 exact ⟨h1.drew, Z, h2, h3⟩
theorem Kp.set {wa w : World} {rb : Nat} (h : Kp wa rb w) (r : S) : Kp wa rb (w.setRow rb r.cells):=by
 obtain ⟨h1, Z, h2, h3⟩:=h
 exact ⟨chg_setRow h1 _ _ (fun _ => rfl), _, rfl, h3.set _⟩
theorem Kp.cell {wa w : World} {rb : Nat} (h : Kp wa rb w) {p : Addr} {v : Value} (hp : p.block ≠ rb) (hc : wa.cell? p = some v) : w.cell? p = some v:=(h.1.cell (World.block_lt_of_cell? _ _ hc) hp).trans hc
theorem Kp.store {wa w : World} {rb : Nat} (h : Kp wa rb w) (r : S) : (storeCells ⟨rb, 0, none⟩ r.cells.toList 0).run Tryz.prog w = .ok () (w.setRow rb r.cells):=by
 obtain ⟨h1, Z, h2, h3⟩:=h
 have h4:=run_storeCells_from (P:=Tryz.prog) rb 41 r.cells.toList 0 Z w h3 (by simp [S.cells, h2]) (fun v hv => by simp [S.cells] at hv; rcases hv with rfl | rfl | rfl | rfl | rfl | rfl | rfl | rfl | rfl <;> rfl)
 simpa using h4
theorem Kp.below {w wa w' : World} {rb : Nat} (h : Kp wa rb w') (hA : Below w.heap.size w wa) (hr : w.heap.size ≤ rb) : Below w.heap.size w w':=hA.trans (h.1.below hA.size fun k e => by omega)
theorem Kp.row {wa w : World} {rb : Nat} (h : Kp wa rb w) (r : S) : RowAt (w.setRow rb r.cells) rb r.cells 41:=by
 obtain ⟨h1, Z, h2, h3⟩:=h
 exact h3.set _
theorem boxes (w : World) (st ow sm : Int) (br ma : Bool) (us ge ep ve own more : Int) (r : S) : Below w.heap.size w ((w.alloc (.cells (Ab st ow sm br ma us ge ep ve own more) 150)).alloc (.cells zero9 41)) ∧ Kp ((w.alloc (.cells (Ab st ow sm br ma us ge ep ve own more) 150)).alloc (.cells zero9 41)) (w.heap.size + 1) ((w.alloc (.cells (Ab st ow sm br ma us ge ep ve own more) 150)).alloc (.cells zero9 41)) ∧
  ∀ w', Kp ((w.alloc (.cells (Ab st ow sm br ma us ge ep ve own more) 150)).alloc (.cells zero9 41)) (w.heap.size + 1) w' → (w'.cell? ⟨w.heap.size, 0, none⟩ = some (.i st) ∧ w'.cell? ⟨w.heap.size, 1, none⟩ = some (.i ow) ∧ w'.cell? ⟨w.heap.size, 2, none⟩ = some (.i sm) ∧ w'.cell? ⟨w.heap.size, 3, none⟩ = some (.bool br) ∧ w'.cell? ⟨w.heap.size, 4, none⟩ = some (.bool ma) ∧ w'.cell? ⟨w.heap.size, 5, none⟩ = some (.i us) ∧ w'.cell? ⟨w.heap.size, 6, none⟩ = some (.i ge) ∧ w'.cell? ⟨w.heap.size, 7, none⟩ = some (.i ep) ∧ w'.cell? ⟨w.heap.size, 8, none⟩ = some (.i ve) ∧ w'.cell? ⟨w.heap.size, 9, none⟩ = some (.i own) ∧ w'.cell? ⟨w.heap.size, 10, none⟩ = some (.i more)) ∧ (storeCells ⟨w.heap.size + 1, 0, none⟩ r.cells.toList 0).run Tryz.prog w' = .ok () (w'.setRow (w.heap.size + 1) r.cells):=by
 refine ⟨((Below.refl _ _).alloc (Nat.le_refl _) _).alloc (by simp) _, ⟨Chg.refl _ _, zero9, rfl, heap_alloc2_new w _ _⟩, fun w' h => ⟨?_, h.store r⟩⟩
 refine ⟨h.cell (by simp) (by simp), h.cell (by simp) (by simp), h.cell (by simp) (by simp), h.cell (by simp) (by simp), h.cell (by simp) (by simp), h.cell (by simp) (by simp), h.cell (by simp) (by simp), h.cell (by simp) (by simp), h.cell (by simp) (by simp), h.cell (by simp) (by simp), h.cell (by simp) (by simp)⟩
theorem dial_any (w : World) (s : S) (own more : Int) : Calls Tryz.prog 148 #[cval s own more] w fun e w' => e = .returned (.tuple #[(«to» s own 1).val, .bool (s.state == 0)]) ∧ Below w.heap.size w w':=by
 have ht:=fun W => to_any W s own more 1 (by simp)
 have hi:=fun W => is_any W s own more 0
 generalize hr : «to» s own 1 = r at *
 generalize hb : (s.state == 0) = b at *
 clear hr hb
 obtain ⟨st, ow, sm, br, ma, us, ge, ep, ve⟩:=s
 simp only [cval] at ht hi
 obtain ⟨hA, hK, hL⟩:=boxes w st ow sm br ma us ge ep ve own more r
 have hsz : r.cells.size = 9:=rfl
 go_enter Tryz.func148, Tryz.ntmps148
 go_wp2_with fail
 generalize ((w.alloc (.cells (Ab st ow sm br ma us ge ep ve own more) 150)).alloc (.cells zero9 41)) = wa at *
 have hKd:=hK.drew
 go_region_held3 (fun w' => Kp wa (w.heap.size + 1) w') (first | assumption | exact Kp.set (by assumption) r)
  ((first
  | (go_at_call 176; refine (ht _).mono ?_; rintro e w5 ⟨rfl, hb5⟩; have hK5:=hKd.later hb5)
  | (go_at_call 177; refine (hi _).mono ?_; rintro e w6 ⟨rfl, hb6⟩; have hK6:=hK5.later hb6)))
 clear hL ht hi hsz
 go_wp2_with fail
 refine bR2 (w.heap.size + 1) (hK6.row r) Tryz.underlying41 ?_
 exact ⟨rfl, (hK6.set r).below hA (by omega)⟩
theorem up_any (w : World) (s : S) (own more : Int) (hu : 0 ≤ s.uses ∧ s.uses ≤ 63) (hg : 0 ≤ s.gen ∧ s.gen ≤ 4095) : Calls Tryz.prog 149 #[cval s own more] w fun e w' => e = .returned (.tuple #[(leased s own).val, .bool (s.state == 1 && s.own == own)]) ∧ Below w.heap.size w w':=by
 have ht:=fun W => leased_any W s own more hu hg
 have hi:=fun W => mine_any W s own more 1
 generalize hr : leased s own = r at *
 generalize hb : (s.state == 1 && s.own == own) = b at *
 clear hr hb hu hg
 obtain ⟨st, ow, sm, br, ma, us, ge, ep, ve⟩:=s
 simp only [cval] at ht hi
 obtain ⟨hA, hK, hL⟩:=boxes w st ow sm br ma us ge ep ve own more r
 have hsz : r.cells.size = 9:=rfl
 go_enter Tryz.func149, Tryz.ntmps149
 go_wp2_with fail
 generalize ((w.alloc (.cells (Ab st ow sm br ma us ge ep ve own more) 150)).alloc (.cells zero9 41)) = wa at *
 have hKd:=hK.drew
 go_region_held3 (fun w' => Kp wa (w.heap.size + 1) w') (first | assumption | exact Kp.set (by assumption) r)
  ((first
  | (go_at_call 178; refine (ht _).mono ?_; rintro e w5 ⟨rfl, hb5⟩; have hK5:=hKd.later hb5)
  | (go_at_call 179; refine (hi _).mono ?_; rintro e w6 ⟨rfl, hb6⟩; have hK6:=hK5.later hb6)))
 clear hL ht hi hsz
 go_wp2_with fail
 refine bR2 (w.heap.size + 1) (hK6.row r) Tryz.underlying41 ?_
 exact ⟨rfl, (hK6.set r).below hA (by omega)⟩
theorem fail_any (w : World) (s : S) (own more : Int) : Calls Tryz.prog 150 #[cval s own more] w fun e w' => e = .returned (.tuple #[(«to» s own 0).val, .bool (s.state == 1 && s.own == own)]) ∧ Below w.heap.size w w':=by
 have ht:=fun W => to_any W s own more 0 (by simp)
 have hi:=fun W => mine_any W s own more 1
 generalize hr : «to» s own 0 = r at *
 generalize hb : (s.state == 1 && s.own == own) = b at *
 clear hr hb
 obtain ⟨st, ow, sm, br, ma, us, ge, ep, ve⟩:=s
 simp only [cval] at ht hi
 obtain ⟨hA, hK, hL⟩:=boxes w st ow sm br ma us ge ep ve own more r
 have hsz : r.cells.size = 9:=rfl
 go_enter Tryz.func150, Tryz.ntmps150
 go_wp2_with fail
 generalize ((w.alloc (.cells (Ab st ow sm br ma us ge ep ve own more) 150)).alloc (.cells zero9 41)) = wa at *
 have hKd:=hK.drew
 go_region_held3 (fun w' => Kp wa (w.heap.size + 1) w') (first | assumption | exact Kp.set (by assumption) r)
  ((first
  | (go_at_call 176; refine (ht _).mono ?_; rintro e w5 ⟨rfl, hb5⟩; have hK5:=hKd.later hb5)
  | (go_at_call 179; refine (hi _).mono ?_; rintro e w6 ⟨rfl, hb6⟩; have hK6:=hK5.later hb6)))
 clear hL ht hi hsz
 go_wp2_with fail
 refine bR2 (w.heap.size + 1) (hK6.row r) Tryz.underlying41 ?_
 exact ⟨rfl, (hK6.set r).below hA (by omega)⟩
theorem lease_any (w : World) (s : S) (own more : Int) (hu : 0 ≤ s.uses ∧ s.uses ≤ 63) (hg : 0 ≤ s.gen ∧ s.gen ≤ 4095) : Calls Tryz.prog 151 #[cval s own more] w fun e w' => e = .returned (.tuple #[(leased s own).val, .bool (s.state == 2 && !s.broken)]) ∧ Below w.heap.size w w':=by
 have ht:=fun W => leased_any W s own more hu hg
 have hi:=fun W => sound_any W s own more
 generalize hr : leased s own = r at *
 generalize hb : (s.state == 2 && !s.broken) = b at *
 clear hr hb hu hg
 obtain ⟨st, ow, sm, br, ma, us, ge, ep, ve⟩:=s
 simp only [cval] at ht hi
 obtain ⟨hA, hK, hL⟩:=boxes w st ow sm br ma us ge ep ve own more r
 have hsz : r.cells.size = 9:=rfl
 go_enter Tryz.func151, Tryz.ntmps151
 go_wp2_with fail
 generalize ((w.alloc (.cells (Ab st ow sm br ma us ge ep ve own more) 150)).alloc (.cells zero9 41)) = wa at *
 have hKd:=hK.drew
 go_region_held3 (fun w' => Kp wa (w.heap.size + 1) w') (first | assumption | exact Kp.set (by assumption) r)
  ((first
  | (go_at_call 178; refine (ht _).mono ?_; rintro e w5 ⟨rfl, hb5⟩; have hK5:=hKd.later hb5)
  | (go_at_call 180; refine (hi _).mono ?_; rintro e w6 ⟨rfl, hb6⟩; have hK6:=hK5.later hb6)))
 clear hL ht hi hsz
 go_wp2_with fail
 refine bR2 (w.heap.size + 1) (hK6.row r) Tryz.underlying41 ?_
 exact ⟨rfl, (hK6.set r).below hA (by omega)⟩
theorem keep_any (w : World) (s : S) (own more : Int) : Calls Tryz.prog 153 #[cval s own more] w fun e w' => e = .returned (.tuple #[(«to» s own 4).val, .bool (s.state == 2 && !s.broken)]) ∧ Below w.heap.size w w':=by
 have ht:=fun W => to_any W s own more 4 (by simp)
 have hi:=fun W => sound_any W s own more
 generalize hr : «to» s own 4 = r at *
 generalize hb : (s.state == 2 && !s.broken) = b at *
 clear hr hb
 obtain ⟨st, ow, sm, br, ma, us, ge, ep, ve⟩:=s
 simp only [cval] at ht hi
 obtain ⟨hA, hK, hL⟩:=boxes w st ow sm br ma us ge ep ve own more r
 have hsz : r.cells.size = 9:=rfl
 go_enter Tryz.func153, Tryz.ntmps153
 go_wp2_with fail
 generalize ((w.alloc (.cells (Ab st ow sm br ma us ge ep ve own more) 150)).alloc (.cells zero9 41)) = wa at *
 have hKd:=hK.drew
 go_region_held3 (fun w' => Kp wa (w.heap.size + 1) w') (first | assumption | exact Kp.set (by assumption) r)
  ((first
  | (go_at_call 176; refine (ht _).mono ?_; rintro e w5 ⟨rfl, hb5⟩; have hK5:=hKd.later hb5)
  | (go_at_call 180; refine (hi _).mono ?_; rintro e w6 ⟨rfl, hb6⟩; have hK6:=hK5.later hb6)))
 clear hL ht hi hsz
 go_wp2_with fail
 refine bR2 (w.heap.size + 1) (hK6.row r) Tryz.underlying41 ?_
 exact ⟨rfl, (hK6.set r).below hA (by omega)⟩
theorem unkeep_any (w : World) (s : S) (own more : Int) : Calls Tryz.prog 154 #[cval s own more] w fun e w' => e = .returned (.tuple #[(«to» s own 2).val, .bool (s.state == 4)]) ∧ Below w.heap.size w w':=by
 have ht:=fun W => to_any W s own more 2 (by simp)
 have hi:=fun W => is_any W s own more 4
 generalize hr : «to» s own 2 = r at *
 generalize hb : (s.state == 4) = b at *
 clear hr hb
 obtain ⟨st, ow, sm, br, ma, us, ge, ep, ve⟩:=s
 simp only [cval] at ht hi
 obtain ⟨hA, hK, hL⟩:=boxes w st ow sm br ma us ge ep ve own more r
 have hsz : r.cells.size = 9:=rfl
 go_enter Tryz.func154, Tryz.ntmps154
 go_wp2_with fail
 generalize ((w.alloc (.cells (Ab st ow sm br ma us ge ep ve own more) 150)).alloc (.cells zero9 41)) = wa at *
 have hKd:=hK.drew
 go_region_held3 (fun w' => Kp wa (w.heap.size + 1) w') (first | assumption | exact Kp.set (by assumption) r)
  ((first
  | (go_at_call 176; refine (ht _).mono ?_; rintro e w5 ⟨rfl, hb5⟩; have hK5:=hKd.later hb5)
  | (go_at_call 177; refine (hi _).mono ?_; rintro e w6 ⟨rfl, hb6⟩; have hK6:=hK5.later hb6)))
 clear hL ht hi hsz
 go_wp2_with fail
 refine bR2 (w.heap.size + 1) (hK6.row r) Tryz.underlying41 ?_
 exact ⟨rfl, (hK6.set r).below hA (by omega)⟩
theorem hold_any (w : World) (s : S) (own more : Int) : Calls Tryz.prog 155 #[cval s own more] w fun e w' => e = .returned (.tuple #[(«to» s own 5).val, .bool (s.state == 0)]) ∧ Below w.heap.size w w':=by
 have ht:=fun W => to_any W s own more 5 (by simp)
 have hi:=fun W => is_any W s own more 0
 generalize hr : «to» s own 5 = r at *
 generalize hb : (s.state == 0) = b at *
 clear hr hb
 obtain ⟨st, ow, sm, br, ma, us, ge, ep, ve⟩:=s
 simp only [cval] at ht hi
 obtain ⟨hA, hK, hL⟩:=boxes w st ow sm br ma us ge ep ve own more r
 have hsz : r.cells.size = 9:=rfl
 go_enter Tryz.func155, Tryz.ntmps155
 go_wp2_with fail
 generalize ((w.alloc (.cells (Ab st ow sm br ma us ge ep ve own more) 150)).alloc (.cells zero9 41)) = wa at *
 have hKd:=hK.drew
 go_region_held3 (fun w' => Kp wa (w.heap.size + 1) w') (first | assumption | exact Kp.set (by assumption) r)
  ((first
  | (go_at_call 176; refine (ht _).mono ?_; rintro e w5 ⟨rfl, hb5⟩; have hK5:=hKd.later hb5)
  | (go_at_call 177; refine (hi _).mono ?_; rintro e w6 ⟨rfl, hb6⟩; have hK6:=hK5.later hb6)))
 clear hL ht hi hsz
 go_wp2_with fail
 refine bR2 (w.heap.size + 1) (hK6.row r) Tryz.underlying41 ?_
 exact ⟨rfl, (hK6.set r).below hA (by omega)⟩
theorem unhold_any (w : World) (s : S) (own more : Int) : Calls Tryz.prog 156 #[cval s own more] w fun e w' => e = .returned (.tuple #[(«to» s own 0).val, .bool (s.state == 5)]) ∧ Below w.heap.size w w':=by
 have ht:=fun W => to_any W s own more 0 (by simp)
 have hi:=fun W => is_any W s own more 5
 generalize hr : «to» s own 0 = r at *
 generalize hb : (s.state == 5) = b at *
 clear hr hb
 obtain ⟨st, ow, sm, br, ma, us, ge, ep, ve⟩:=s
 simp only [cval] at ht hi
 obtain ⟨hA, hK, hL⟩:=boxes w st ow sm br ma us ge ep ve own more r
 have hsz : r.cells.size = 9:=rfl
 go_enter Tryz.func156, Tryz.ntmps156
 go_wp2_with fail
 generalize ((w.alloc (.cells (Ab st ow sm br ma us ge ep ve own more) 150)).alloc (.cells zero9 41)) = wa at *
 have hKd:=hK.drew
 go_region_held3 (fun w' => Kp wa (w.heap.size + 1) w') (first | assumption | exact Kp.set (by assumption) r)
  ((first
  | (go_at_call 176; refine (ht _).mono ?_; rintro e w5 ⟨rfl, hb5⟩; have hK5:=hKd.later hb5)
  | (go_at_call 177; refine (hi _).mono ?_; rintro e w6 ⟨rfl, hb6⟩; have hK6:=hK5.later hb6)))
 clear hL ht hi hsz
 go_wp2_with fail
 refine bR2 (w.heap.size + 1) (hK6.row r) Tryz.underlying41 ?_
 exact ⟨rfl, (hK6.set r).below hA (by omega)⟩
theorem move_any (w : World) (s : S) (own more : Int) : Calls Tryz.prog 157 #[cval s own more] w fun e w' => e = .returned (.tuple #[(«to» s own 2).val, .bool (s.state == 2)]) ∧ Below w.heap.size w w':=by
 have ht:=fun W => to_any W s own more 2 (by simp)
 have hi:=fun W => is_any W s own more 2
 generalize hr : «to» s own 2 = r at *
 generalize hb : (s.state == 2) = b at *
 clear hr hb
 obtain ⟨st, ow, sm, br, ma, us, ge, ep, ve⟩:=s
 simp only [cval] at ht hi
 obtain ⟨hA, hK, hL⟩:=boxes w st ow sm br ma us ge ep ve own more r
 have hsz : r.cells.size = 9:=rfl
 go_enter Tryz.func157, Tryz.ntmps157
 go_wp2_with fail
 generalize ((w.alloc (.cells (Ab st ow sm br ma us ge ep ve own more) 150)).alloc (.cells zero9 41)) = wa at *
 have hKd:=hK.drew
 go_region_held3 (fun w' => Kp wa (w.heap.size + 1) w') (first | assumption | exact Kp.set (by assumption) r)
  ((first
  | (go_at_call 176; refine (ht _).mono ?_; rintro e w5 ⟨rfl, hb5⟩; have hK5:=hKd.later hb5)
  | (go_at_call 177; refine (hi _).mono ?_; rintro e w6 ⟨rfl, hb6⟩; have hK6:=hK5.later hb6)))
 clear hL ht hi hsz
 go_wp2_with fail
 refine bR2 (w.heap.size + 1) (hK6.row r) Tryz.underlying41 ?_
 exact ⟨rfl, (hK6.set r).below hA (by omega)⟩
theorem clear_any (w : World) (s : S) (own more : Int) : Calls Tryz.prog 160 #[cval s own more] w fun e w' => e = .returned (.tuple #[(«to» s own 0).val, .bool (s.state == 6)]) ∧ Below w.heap.size w w':=by
 have ht:=fun W => to_any W s own more 0 (by simp)
 have hi:=fun W => is_any W s own more 6
 generalize hr : «to» s own 0 = r at *
 generalize hb : (s.state == 6) = b at *
 clear hr hb
 obtain ⟨st, ow, sm, br, ma, us, ge, ep, ve⟩:=s
 simp only [cval] at ht hi
 obtain ⟨hA, hK, hL⟩:=boxes w st ow sm br ma us ge ep ve own more r
 have hsz : r.cells.size = 9:=rfl
 go_enter Tryz.func160, Tryz.ntmps160
 go_wp2_with fail
 generalize ((w.alloc (.cells (Ab st ow sm br ma us ge ep ve own more) 150)).alloc (.cells zero9 41)) = wa at *
 have hKd:=hK.drew
 go_region_held3 (fun w' => Kp wa (w.heap.size + 1) w') (first | assumption | exact Kp.set (by assumption) r)
  ((first
  | (go_at_call 176; refine (ht _).mono ?_; rintro e w5 ⟨rfl, hb5⟩; have hK5:=hKd.later hb5)
  | (go_at_call 177; refine (hi _).mono ?_; rintro e w6 ⟨rfl, hb6⟩; have hK6:=hK5.later hb6)))
 clear hL ht hi hsz
 go_wp2_with fail
 refine bR2 (w.heap.size + 1) (hK6.row r) Tryz.underlying41 ?_
 exact ⟨rfl, (hK6.set r).below hA (by omega)⟩
theorem take_any (w : World) (s : S) (own more : Int) (hu : 0 ≤ s.uses ∧ s.uses ≤ 63) (hg : 0 ≤ s.gen ∧ s.gen ≤ 4095) : Calls Tryz.prog 164 #[cval s own more] w fun e w' =>
  e = .returned (if s.state == 5 && s.own == own then .tuple #[(«to» s own 1).val, .bool true] else .tuple #[(leased s own).val, .bool (s.state == 4 && s.own == own)]) ∧ Below w.heap.size w w':=by
 have ht:=fun W => to_any W s own more 1 (by simp)
 have hl:=fun W => leased_any W s own more hu hg
 have hi5:=fun W => mine_any W s own more 5
 have hi4:=fun W => mine_any W s own more 4
 generalize hr : «to» s own 1 = r at *
 generalize hr2 : leased s own = r2 at *
 generalize hb5 : (s.state == 5 && s.own == own) = b5 at *
 generalize hb4 : (s.state == 4 && s.own == own) = b4 at *
 clear hr hb5 hr2 hb4 hu hg
 obtain ⟨st, ow, sm, br, ma, us, ge, ep, ve⟩:=s
 simp only [cval] at ht hl hi5 hi4
 have hA : Below w.heap.size w ((w.alloc (.cells (Ab st ow sm br ma us ge ep ve own more) 150)).alloc (.cells zero9 41)):=((Below.refl _ _).alloc (Nat.le_refl _) _).alloc (by simp) _
 have hK : Kp ((w.alloc (.cells (Ab st ow sm br ma us ge ep ve own more) 150)).alloc (.cells zero9 41)) (w.heap.size + 1) ((w.alloc (.cells (Ab st ow sm br ma us ge ep ve own more) 150)).alloc (.cells zero9 41)):=⟨Chg.refl _ _, zero9, rfl, heap_alloc2_new w _ _⟩
 have l0 : ∀ w', Kp ((w.alloc (.cells (Ab st ow sm br ma us ge ep ve own more) 150)).alloc (.cells zero9 41)) (w.heap.size + 1) w' → w'.cell? ⟨w.heap.size, 0, none⟩ = some (.i st):=fun w' h => h.cell (by simp) (by simp)
 have l1 : ∀ w', Kp ((w.alloc (.cells (Ab st ow sm br ma us ge ep ve own more) 150)).alloc (.cells zero9 41)) (w.heap.size + 1) w' → w'.cell? ⟨w.heap.size, 1, none⟩ = some (.i ow):=fun w' h => h.cell (by simp) (by simp)
 have l2 : ∀ w', Kp ((w.alloc (.cells (Ab st ow sm br ma us ge ep ve own more) 150)).alloc (.cells zero9 41)) (w.heap.size + 1) w' → w'.cell? ⟨w.heap.size, 2, none⟩ = some (.i sm):=fun w' h => h.cell (by simp) (by simp)
 have l3 : ∀ w', Kp ((w.alloc (.cells (Ab st ow sm br ma us ge ep ve own more) 150)).alloc (.cells zero9 41)) (w.heap.size + 1) w' → w'.cell? ⟨w.heap.size, 3, none⟩ = some (.bool br):=fun w' h => h.cell (by simp) (by simp)
 have l4 : ∀ w', Kp ((w.alloc (.cells (Ab st ow sm br ma us ge ep ve own more) 150)).alloc (.cells zero9 41)) (w.heap.size + 1) w' → w'.cell? ⟨w.heap.size, 4, none⟩ = some (.bool ma):=fun w' h => h.cell (by simp) (by simp)
 have l5 : ∀ w', Kp ((w.alloc (.cells (Ab st ow sm br ma us ge ep ve own more) 150)).alloc (.cells zero9 41)) (w.heap.size + 1) w' → w'.cell? ⟨w.heap.size, 5, none⟩ = some (.i us):=fun w' h => h.cell (by simp) (by simp)
 have l6 : ∀ w', Kp ((w.alloc (.cells (Ab st ow sm br ma us ge ep ve own more) 150)).alloc (.cells zero9 41)) (w.heap.size + 1) w' → w'.cell? ⟨w.heap.size, 6, none⟩ = some (.i ge):=fun w' h => h.cell (by simp) (by simp)
 have l7 : ∀ w', Kp ((w.alloc (.cells (Ab st ow sm br ma us ge ep ve own more) 150)).alloc (.cells zero9 41)) (w.heap.size + 1) w' → w'.cell? ⟨w.heap.size, 7, none⟩ = some (.i ep):=fun w' h => h.cell (by simp) (by simp)
 have l8 : ∀ w', Kp ((w.alloc (.cells (Ab st ow sm br ma us ge ep ve own more) 150)).alloc (.cells zero9 41)) (w.heap.size + 1) w' → w'.cell? ⟨w.heap.size, 8, none⟩ = some (.i ve):=fun w' h => h.cell (by simp) (by simp)
 have l9 : ∀ w', Kp ((w.alloc (.cells (Ab st ow sm br ma us ge ep ve own more) 150)).alloc (.cells zero9 41)) (w.heap.size + 1) w' → w'.cell? ⟨w.heap.size, 9, none⟩ = some (.i own):=fun w' h => h.cell (by simp) (by simp)
 have l10 : ∀ w', Kp ((w.alloc (.cells (Ab st ow sm br ma us ge ep ve own more) 150)).alloc (.cells zero9 41)) (w.heap.size + 1) w' → w'.cell? ⟨w.heap.size, 10, none⟩ = some (.i more):=fun w' h => h.cell (by simp) (by simp)
 have hst : ∀ w', Kp ((w.alloc (.cells (Ab st ow sm br ma us ge ep ve own more) 150)).alloc (.cells zero9 41)) (w.heap.size + 1) w' → ∀ r, (storeCells ⟨w.heap.size + 1, 0, none⟩ (S.cells r).toList 0).run Tryz.prog w' = .ok () (w'.setRow (w.heap.size + 1) r.cells):=fun w' h r => h.store r
 have hsz : ∀ r, (S.cells r).size = 9:=fun r => rfl
 go_enter Tryz.func164, Tryz.ntmps164
 go_wp2_with fail
 refine (hi5 _).mono ?_
 rintro e wb ⟨rfl, hbb⟩
 have hKb:=hK.later hbb
 generalize ((w.alloc (.cells (Ab st ow sm br ma us ge ep ve own more) 150)).alloc (.cells zero9 41)) = wa at *
 have m0:=l0 _ hKb
 have m1:=l1 _ hKb
 have m2:=l2 _ hKb
 have m3:=l3 _ hKb
 have m4:=l4 _ hKb
 have m5:=l5 _ hKb
 have m6:=l6 _ hKb
 have m7:=l7 _ hKb
 have m8:=l8 _ hKb
 have m9:=l9 _ hKb
 have m10:=l10 _ hKb
 cases b5
 ·clear hbb ht hi5
  go_wp2_with fail
  have hKd:=hKb.drew
  go_region_held3 (fun w' => Kp wa (w.heap.size + 1) w') (first | assumption | exact Kp.set (by assumption) r2)
   ((first
   | (go_at_call 178; refine (hl _).mono ?_; rintro e w5 ⟨rfl, hb5⟩; have hK5:=hKd.later hb5)
   | (go_at_call 179; refine (hi4 _).mono ?_; rintro e w6 ⟨rfl, hb6⟩; have hK6:=hK5.later hb6)))
  clear hst l0 l1 l2 l3 l4 l5 l6 l7 l8 l9 l10 m0 m1 m2 m3 m4 m5 m6 m7 m8 m9 m10 hl hi4 hsz
  go_wp2_with fail
  refine bR2 (w.heap.size + 1) (hK6.row r2) Tryz.underlying41 ?_
  exact ⟨rfl, (hK6.set r2).below hA (by omega)⟩
 ·clear hbb hl hi5 hi4
  go_wp2_with fail
  refine (ht _).mono ?_
  rintro e wc ⟨rfl, hbc⟩
  have hKc:=hKb.later hbc
  have hst':=hst wc hKc
  clear hst l0 l1 l2 l3 l4 l5 l6 l7 l8 l9 l10 m0 m1 m2 m3 m4 m5 m6 m7 m8 m9 m10 hbc ht
  go_wp2_with fail
  refine bR2 (w.heap.size + 1) (hKc.row r) Tryz.underlying41 ?_
  exact ⟨rfl, (hKc.set r).below hA (by omega)⟩
theorem limbo_any (w : World) (s : S) (own more : Int) : Calls Tryz.prog 181 #[cval s own more] w fun e w' => e = .returned (.tuple #[S.val { «to» s own 6 with epoch:=more }, .bool (decide (0 ≤ more ∧ more ≤ 4095))]) ∧ Below w.heap.size w w':=by
 have ht:=fun W => to_any W s own more 6 (by simp)
 generalize «to» s own 6 = t at *
 obtain ⟨st, ow, sm, br, ma, us, ge, ep, ve⟩:=s
 obtain ⟨st', ow', sm', br', ma', us', ge', ep', ve'⟩:=t
 simp only [cval, S.val, S.cells] at ht
 go_enter Tryz.func181, Tryz.ntmps181
 simp only [cval, S.val, S.cells]
 go_wp2_with fail
 refine (ht _).mono ?_
 rintro e w5 ⟨rfl, hb5⟩
 have hA : Below w.heap.size w ((w.alloc (.cells (Ab st ow sm br ma us ge ep ve own more) 150)).alloc (.cells zero9 41)):=((Below.refl _ _).alloc (Nat.le_refl _) _).alloc (by simp) _
 have hB : Below w.heap.size w w5:=hA.trans (hb5.mono (by simp; omega))
 have hr : RowAt w5 (w.heap.size + 1) zero9 41:=RowAt.below (heap_alloc2_new w _ _) hb5
 have hm : w5.cell? ⟨w.heap.size, 10, none⟩ = some (.i more):=Field.bkeep hb5 (by simp)
 have hne : w.heap.size + 1 < w5.heap.size:=RowAt.lt hr
 have hm2 : (w5.alloc (.cells (Aa st' ow' sm' br' ma' us' ge' ep' ve') 41)).cell? ⟨w.heap.size, 10, none⟩ = some (.i more):=Field.bkeep ((Below.refl _ _).alloc (Nat.le_refl _) _) hm
 have hm3 : ((w5.alloc (.cells (Aa st' ow' sm' br' ma' us' ge' ep' ve') 41)).setCell ⟨w5.heap.size, 7, none⟩ (.i more)).cell? ⟨w.heap.size, 10, none⟩ = some (.i more):=by rw [World.cell?_setCell_far _ _ _ _ (by simp; omega)]; exact hm2
 clear ht hb5
 go_wp2_with fail
 have hA2 : Below w.heap.size w (w5.alloc (.cells (Aa st' ow' sm' br' ma' us' ge' more ve') 41)):=hB.alloc hB.size _
 have hK : Kp (w5.alloc (.cells (Aa st' ow' sm' br' ma' us' ge' more ve') 41)) (w.heap.size + 1) (w5.alloc (.cells (Aa st' ow' sm' br' ma' us' ge' more ve') 41)):=⟨Chg.refl _ _, zero9, rfl, RowAt.below hr ((Below.refl _ _).alloc (Nat.le_refl _) _)⟩
 have R3 : RowAt (w5.alloc (.cells (Aa st' ow' sm' br' ma' us' ge' more ve') 41)) w5.heap.size (Aa st' ow' sm' br' ma' us' ge' more ve') 41:=heap_alloc_new w5 _
 have hmm : (w5.alloc (.cells (Aa st' ow' sm' br' ma' us' ge' more ve') 41)).cell? ⟨w.heap.size, 10, none⟩ = some (.i more):=Field.bkeep ((Below.refl _ _).alloc (Nat.le_refl _) _) hm
 clear hm2 hm3 hm hr hA hB
 generalize (w5.alloc (.cells (Aa st' ow' sm' br' ma' us' ge' more ve') 41)) = wa at *
 generalize w5.heap.size = tb at *
 have rS : ∀ w', Kp wa (w.heap.size + 1) w' → RowAt w' tb (Aa st' ow' sm' br' ma' us' ge' more ve') 41:=fun w' h => R3.chg h.1 (by omega)
 have l10 : ∀ w', Kp wa (w.heap.size + 1) w' → w'.cell? ⟨w.heap.size, 10, none⟩ = some (.i more):=fun w' h => h.cell (by simp) hmm
 have hKd:=hK.drew
 clear hmm R3
 by_cases h0 : 0 ≤ more
 ·have g0 : decide (0 ≤ more) = true:=by simpa using h0
  refine wp_region_held_drew (S:=fun w' => Kp wa (w.heap.size + 1) w') (by kernel_rfl) (by exact hKd) (fun hHeld => ?_)
  refine tKw (gd:=none) 0 10 (.load 41 (.tmp 4)) (.agg (Aa st' ow' sm' br' ma' us' ge' more ve')) (run_load_row 41 (.tmp 4) (tb) 41 (Aa st' ow' sm' br' ma' us' ge' more ve') _ (by kernel_rfl) Tryz.underlying41 rfl (by kernel_rfl) rS) hHeld ?_
  try simp only [Act.put, sA, sZ, sS]
  refine wpAnyH_take (i:=1) (v:=?_) rfl (by kernel_rfl) (by kernel_rfl) (by kernel_rfl) (fun _ _ _ h => h) (Or.inl ⟨rfl, ?_⟩) hHeld ?_
  rotate_left
  ·intro w hSw
   try dsimp only at hSw
   go_simp
   try with_reducible rfl
  try simp only [Act.put, sA, sZ, sS]
  refine wpAnyH_take (i:=2) (v:=?_) rfl (by kernel_rfl) (by kernel_rfl) (by kernel_rfl) (fun _ _ _ h => h) (Or.inl ⟨rfl, ?_⟩) hHeld ?_
  rotate_left
  ·intro w hSw
   try dsimp only at hSw
   go_simp
   try with_reducible rfl
  try simp only [Act.put, sA, sZ, sS]
  refine wpAnyH_take (i:=3) (v:=?_) rfl (by kernel_rfl) (by kernel_rfl) (by kernel_rfl) (fun _ _ _ h => h) (Or.inl ⟨rfl, ?_⟩) hHeld ?_
  rotate_left
  ·intro w hSw
   try dsimp only at hSw
   go_simp
   try with_reducible rfl
  try simp only [Act.put, sA, sZ, sS]
  refine wpAnyH_take (i:=4) (v:=?_) rfl (by kernel_rfl) (by kernel_rfl) (by kernel_rfl) (fun _ _ _ h => h) (Or.inl ⟨rfl, ?_⟩) hHeld ?_
  rotate_left
  ·intro w hSw
   try dsimp only at hSw
   go_simp
   try with_reducible rfl
  try simp only [Act.put, sA, sZ, sS]
  refine wpAnyH_take (i:=5) (v:=?_) rfl (by kernel_rfl) (by kernel_rfl) (by kernel_rfl) (fun _ _ _ h => h) (Or.inl ⟨rfl, ?_⟩) hHeld ?_
  rotate_left
  ·intro w hSw
   try dsimp only at hSw
   go_simp
   try with_reducible rfl
  try simp only [Act.put, sA, sZ, sS]
  refine wpAnyH_take (i:=6) (v:=?_) rfl (by kernel_rfl) (by kernel_rfl) (by kernel_rfl) (fun _ _ _ h => h) (Or.inl ⟨rfl, ?_⟩) hHeld ?_
  rotate_left
  ·intro w hSw
   try dsimp only at hSw
   go_simp
   try with_reducible rfl
  try simp only [Act.put, sA, sZ, sS]
  refine wpAnyH_take (i:=7) (v:=?_) rfl (by kernel_rfl) (by kernel_rfl) (by kernel_rfl) (fun _ _ _ h => h) (Or.inl ⟨rfl, ?_⟩) hHeld ?_
  rotate_left
  ·intro w hSw
   try dsimp only at hSw
   go_simp
   try with_reducible rfl
  try simp only [Act.put, sA, sZ, sS]
  refine wpAnyH_take (i:=8) (v:=?_) rfl (by kernel_rfl) (by kernel_rfl) (by kernel_rfl) (fun _ _ _ h => h) (Or.inl ⟨rfl, ?_⟩) hHeld ?_
  rotate_left
  ·intro w hSw
   try dsimp only at hSw
   go_simp
   try with_reducible rfl
  try simp only [Act.put, sA, sZ, sS]
  obtain ⟨kp1, Z, kp2, kp3⟩:=hHeld
  refine ready_store_row (i:=9) (by kernel_rfl) 41 (.tmp 2) (.tmp 10) (by kernel_rfl) (w.heap.size + 1) _ _ (Aa st' ow' sm' br' ma' us' ge' more ve') (by kernel_rfl) (by kernel_rfl) kp3 kp2 (by kernel_rfl) (by kernel_rfl) (Kp.set ⟨kp1, Z, kp2, kp3⟩ ⟨st', ow', sm', br', ma', us', ge', more, ve'⟩) (fun hHeld3 => ?_)
  try simp only [Act.put, sA, sZ, sS]
  refine wpAnyH_take (i:=10) (v:=?_) rfl (by kernel_rfl) (by kernel_rfl) (by kernel_rfl) (fun _ _ _ h => h) (Or.inl ⟨rfl, ?_⟩) hHeld3 ?_
  rotate_left
  ·intro w hSw
   try dsimp only at hSw
   go_simp
   try with_reducible rfl
  try simp only [Act.put, sA, sZ, sS]
  refine wpAnyH_done (by kernel_rfl) ?_ _
  go_simp
  clear rS
  go_wp2_with fail
  refine bR2 (w.heap.size + 1) (Kp.row ⟨kp1, Z, kp2, kp3⟩ ⟨st', ow', sm', br', ma', us', ge', more, ve'⟩) Tryz.underlying41 ?_
  refine ⟨?_, Kp.below hHeld3 hA2 (by omega)⟩
  simp [S.val, S.cells, h0]
 ·have g0 : decide (0 ≤ more) = false:=by simpa using h0
  refine wp_region_held_drew (S:=fun w' => Kp wa (w.heap.size + 1) w') (by kernel_rfl) (by exact hKd) (fun hHeld => ?_)
  refine tKw (gd:=none) 0 10 (.load 41 (.tmp 4)) (.agg (Aa st' ow' sm' br' ma' us' ge' more ve')) (run_load_row 41 (.tmp 4) (tb) 41 (Aa st' ow' sm' br' ma' us' ge' more ve') _ (by kernel_rfl) Tryz.underlying41 rfl (by kernel_rfl) rS) hHeld ?_
  try simp only [Act.put, sA, sZ, sS]
  refine wpAnyH_take (i:=1) (v:=?_) rfl (by kernel_rfl) (by kernel_rfl) (by kernel_rfl) (fun _ _ _ h => h) (Or.inl ⟨rfl, ?_⟩) hHeld ?_
  rotate_left
  ·intro w hSw
   try dsimp only at hSw
   go_simp
   try with_reducible rfl
  try simp only [Act.put, sA, sZ, sS]
  refine wpAnyH_take (i:=2) (v:=?_) rfl (by kernel_rfl) (by kernel_rfl) (by kernel_rfl) (fun _ _ _ h => h) (Or.inl ⟨rfl, ?_⟩) hHeld ?_
  rotate_left
  ·intro w hSw
   try dsimp only at hSw
   go_simp
   try with_reducible rfl
  try simp only [Act.put, sA, sZ, sS]
  refine wpAnyH_take (i:=3) (v:=?_) rfl (by kernel_rfl) (by kernel_rfl) (by kernel_rfl) (fun _ _ _ h => h) (Or.inl ⟨rfl, ?_⟩) hHeld ?_
  rotate_left
  ·intro w hSw
   try dsimp only at hSw
   go_simp
   try with_reducible rfl
  try simp only [Act.put, sA, sZ, sS]
  refine wpAnyH_take (i:=4) (v:=?_) rfl (by kernel_rfl) (by kernel_rfl) (by kernel_rfl) (fun _ _ _ h => h) (Or.inl ⟨rfl, ?_⟩) hHeld ?_
  rotate_left
  ·intro w hSw
   try dsimp only at hSw
   go_simp
   try with_reducible rfl
  try simp only [Act.put, sA, sZ, sS]
  refine wpAnyH_take (i:=5) (v:=undef) rfl (by kernel_rfl) (by kernel_rfl) (by kernel_rfl) (fun _ _ _ h => h) (Or.inr ⟨rfl, rfl⟩) hHeld ?_
  try simp only [Act.put, sA, sZ, sS]
  refine wpAnyH_take (i:=6) (v:=undef) rfl (by kernel_rfl) (by kernel_rfl) (by kernel_rfl) (fun _ _ _ h => h) (Or.inr ⟨rfl, rfl⟩) hHeld ?_
  try simp only [Act.put, sA, sZ, sS]
  refine wpAnyH_take (i:=7) (v:=undef) rfl (by kernel_rfl) (by kernel_rfl) (by kernel_rfl) (fun _ _ _ h => h) (Or.inr ⟨rfl, rfl⟩) hHeld ?_
  try simp only [Act.put, sA, sZ, sS]
  refine wpAnyH_take (i:=8) (v:=?_) rfl (by kernel_rfl) (by kernel_rfl) (by kernel_rfl) (fun _ _ _ h => h) (Or.inl ⟨rfl, ?_⟩) hHeld ?_
  rotate_left
  ·intro w hSw
   try dsimp only at hSw
   go_simp
   try with_reducible rfl
  try simp only [Act.put, sA, sZ, sS]
  obtain ⟨kp1, Z, kp2, kp3⟩:=hHeld
  refine ready_store_row (i:=9) (by kernel_rfl) 41 (.tmp 2) (.tmp 10) (by kernel_rfl) (w.heap.size + 1) _ _ (Aa st' ow' sm' br' ma' us' ge' more ve') (by kernel_rfl) (by kernel_rfl) kp3 kp2 (by kernel_rfl) (by kernel_rfl) (Kp.set ⟨kp1, Z, kp2, kp3⟩ ⟨st', ow', sm', br', ma', us', ge', more, ve'⟩) (fun hHeld3 => ?_)
  try simp only [Act.put, sA, sZ, sS]
  refine wpAnyH_take (i:=10) (v:=?_) rfl (by kernel_rfl) (by kernel_rfl) (by kernel_rfl) (fun _ _ _ h => h) (Or.inl ⟨rfl, ?_⟩) hHeld3 ?_
  rotate_left
  ·intro w hSw
   try dsimp only at hSw
   go_simp
   try with_reducible rfl
  try simp only [Act.put, sA, sZ, sS]
  refine wpAnyH_done (by kernel_rfl) ?_ _
  go_simp
  clear rS
  go_wp2_with fail
  refine bR2 (w.heap.size + 1) (Kp.row ⟨kp1, Z, kp2, kp3⟩ ⟨st', ow', sm', br', ma', us', ge', more, ve'⟩) Tryz.underlying41 ?_
  refine ⟨?_, Kp.below hHeld3 hA2 (by omega)⟩
  simp [S.val, S.cells, h0]
end Go.Proofs.YteadpgiffpfmnaaGreatDoor.Life
namespace Go.Proofs.YteadpgiffpfmnaaGreatDoor.Find
open Go.RowKit Hp Slot
theorem fits_old (w : World) (s : S) (own : Int) : Calls Tryz.prog 127 #[s.val, .i 5, .i own] w fun e w' =>
  e = .returned (.bool (fits s 5 own)) ∧ Below w.heap.size w w':=by
 have ha:=asks_any (w.alloc (.cells s.cells 41)) own
 have hA:=asked (w.alloc (.cells s.cells 41)) own
 have hB:=((Below.refl w.heap.size w).alloc (Nat.le_refl _) (.cells s.cells 41)).trans ((asks_below (w.alloc (.cells s.cells 41)) own).mono (by simp))
 have hcc : ∀ (i : Nat) (v : Value), s.cells[i]? = some v → (asksW (w.alloc (.cells s.cells 41)) own).cell? ⟨w.heap.size, i, none⟩ = some v:=fun i v hv => ((asks_below _ own).cell (p:=⟨w.heap.size, i, none⟩) (by simp)).trans (by rw [World.cell?, World.alloc_heap_new]; exact hv)
 have c0:=hcc 0 (.i s.state) rfl
 have c1:=hcc 1 (.i s.own) rfl
 have c2:=hcc 2 (.i s.streams) rfl
 have c3:=hcc 3 (.bool s.broken) rfl
 have c4:=hcc 4 (.bool s.marked) rfl
 have c5:=hcc 5 (.i s.uses) rfl
 have c6:=hcc 6 (.i s.gen) rfl
 have c7:=hcc 7 (.i s.epoch) rfl
 have c8:=hcc 8 (.i s.version) rfl
 have hl5:=run_lookup_is (P:=Tryz.prog) _ _ 154 3 83 _ 7 5 5 _ Tryz.underlying154 Tryz.underlying3 hA.tab (by rfl)
 have hfs : ∀ k : Int, fits s k own = (if k = 0 then sound s && s.own == own else if k = 1 then sound s else if k = 2 then s.state == 0 else if k = 3 then sound s || s.state == 0 else if k = 4 then swept s own else if k = 5 then s.state == 6 else if k = 6 then s.state == 2 else false):=fun k => rfl
 have HFS:=Lib.hid hfs
 have hsz : (w.alloc (.cells s.cells 41)).heap.size = w.heap.size + 1:=by simp
 have hi5:=old_any (asksW (w.alloc (.cells s.cells 41)) own) s
 rw [hsz] at ha hl5
 clear hA hcc hfs
 obtain ⟨st, ow, sm, br, ma, us, ge, ep, ve⟩:=s
 simp only [S.val, S.cells, World.size_alloc] at ha hi5 hl5 hB c0 c1 c2 c3 c4 c5 c6 c7 c8
 go_enter Tryz.func127, Tryz.ntmps127
 simp only [S.val, S.cells]
 go_wp2_with fail
 refine ha.mono ?_
 rintro e wa ⟨rfl, rfl⟩
 generalize asksW (w.alloc (.cells (Aa st ow sm br ma us ge ep ve) 41)) own = wa at *
 clear ha hsz
 go_wp2_with fail
 refine hi5.mono ?_
 rintro e w6 ⟨rfl, hb6⟩
 have hB6:=hB.trans (hb6.mono hB.size)
 clear hi5 hl5 c0 c1 c2 c3 c4 c5 c6 c7 c8 hb6
 go_wp2_with fail
 go_ret
 exact ⟨Base.ret_bool (by rw [HFS.out]; simp), hB6⟩
theorem fits_all (w : World) (s : S) (kind own : Int) (hk : kind = 0 ∨ kind = 1 ∨ kind = 2 ∨ kind = 3 ∨ kind = 4 ∨ kind = 5 ∨ kind = 6) : Calls Tryz.prog 127 #[s.val, .i kind, .i own] w fun e w' =>
  e = .returned (.bool (fits s kind own)) ∧ Below w.heap.size w w':=by
 by_cases h : kind = 5
 ·subst h; exact fits_old w s own
 ·exact fits_any w s kind own (by omega)
end Go.Proofs.YteadpgiffpfmnaaGreatDoor.Find
