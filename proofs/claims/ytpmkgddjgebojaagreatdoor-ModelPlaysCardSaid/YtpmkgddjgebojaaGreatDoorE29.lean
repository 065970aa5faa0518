/- Part 29 of the walks and plain laws that the last text joins. -/
import Derived.Test.YtpmkgddjgebojaaGreatDoorE24
import Derived.Test.YtpmkgddjgebojaaGreatDoorE25
import Derived.Test.YtpmkgddjgebojaaGreatDoorE28
set_option maxRecDepth 100000
set_option maxHeartbeats 16000000
set_option linter.unusedVariables false
set_option linter.unusedSimpArgs false
namespace Go.Proofs.YtpmkgddjgebojaaGreatDoor.RowL
open Go.RowKit Hp
theorem results_row3 {P : Program} {fn : Func} {p u v : Tmp} {ty : TypeId} (h : fn.results = #[.cell p ty, .tmp u, .tmp v]) (tmps : Array Value) (w : World) (g : Nat) (t : TypeId) (cs : Array Value) (d : TypeDesc)
  (hp : tmps.getD p undef = .pointer (some ⟨g, 0, none⟩)) (hg : RowAt w g cs t)
  (hu : P.underlying ty = some d) (hd : (match d with | .struct _ | .array _ _ => true | _ => false) = true) (hi : (P.info? ty).map (·.size) = some cs.size) :
  (results fn tmps).run P w = .ok (.tuple #[.agg cs, tmps.getD u undef, tmps.getD v undef]) w:=by
 have hp' : tmps[p]?.getD undef = .pointer (some ⟨g, 0, none⟩):=by simpa using hp
 simp only [results, h]
 simp [Result.andThen, hp', asAddr, run_loadVar_row w g t ty cs (0, 0) d hg hu hd hi]
end Go.Proofs.YtpmkgddjgebojaaGreatDoor.RowL
namespace Go.Proofs.YtpmkgddjgebojaaGreatDoor.Mod
open Go.RowKit Hp Slot RowL Life Find
theorem op_any (a : Ask) (h0 : 0 ≤ a.op) (h7 : a.op ≤ 7) : ∃ (F i : Nat) (lb : Nat → Array Value), (∀ args w, (callFunc F args).run Tryz.prog w = .ok (.enter F args) w) ∧ (∀ n, Instr.findNow (.int .i64) (.i a.op) (ansT n).toList 0 = some (some (i, .func (.func F) #[] (lb n)))) ∧
  ∀ (W : World) (p : Pl) (m : M) (n : Nat) (who : Int), MAt W p m → Capt W n p.mb who a → m.has who = true → Calls Tryz.prog F (lb n) W (MPost W p (.tuple #[(m.does who a).1.1.val, .bool (m.does who a).1.2]) (m.does who a).2):=by
 have h : a.op = 0 ∨ a.op = 1 ∨ a.op = 2 ∨ a.op = 3 ∨ a.op = 4 ∨ a.op = 5 ∨ a.op = 6 ∨ a.op = 7:=by omega
 rcases h with h | h | h | h | h | h | h | h
 ·refine ⟨_, 0, fun n => #[.pointer (some ⟨n, 0, none⟩), .pointer (some ⟨n + 1, 0, none⟩), .pointer (some ⟨n + 2, 0, none⟩)], enters_of Tryz.func66 (by kernel_rfl) rfl, fun n => by rw [h]; rfl, fun W p m n who hA hc hw => ?_⟩
  have e : m.does who a = (m.get who a):=by unfold M.does; simp [h]
  rw [e]
  exact ans1 hA hc hw
 ·refine ⟨_, 1, fun n => #[.pointer (some ⟨n, 0, none⟩), .pointer (some ⟨n + 1, 0, none⟩), .pointer (some ⟨n + 2, 0, none⟩)], enters_of Tryz.func68 (by kernel_rfl) rfl, fun n => by rw [h]; rfl, fun W p m n who hA hc hw => ?_⟩
  have e : m.does who a = (((m.give who a false).1, true), (m.give who a false).2):=by unfold M.does; simp [h]
  rw [e]
  exact ans2 hA hc
 ·refine ⟨_, 2, fun n => #[.pointer (some ⟨n, 0, none⟩), .pointer (some ⟨n + 1, 0, none⟩), .pointer (some ⟨n + 2, 0, none⟩)], enters_of Tryz.func70 (by kernel_rfl) rfl, fun n => by rw [h]; rfl, fun W p m n who hA hc hw => ?_⟩
  have e : m.does who a = (((m.give who a true).1, true), (m.give who a true).2):=by unfold M.does; simp [h]
  rw [e]
  exact ans3 hA hc
 ·refine ⟨_, 3, fun n => #[.pointer (some ⟨n, 0, none⟩), .pointer (some ⟨n + 1, 0, none⟩), .pointer (some ⟨n + 2, 0, none⟩)], enters_of Tryz.func71 (by kernel_rfl) rfl, fun n => by rw [h]; rfl, fun W p m n who hA hc hw => ?_⟩
  have e : m.does who a = (((m.openS who a).1, true), (m.openS who a).2):=by unfold M.does; simp [h]
  rw [e]
  exact ans4 hA hc
 ·refine ⟨_, 4, fun n => #[.pointer (some ⟨n, 0, none⟩), .pointer (some ⟨n + 1, 0, none⟩), .pointer (some ⟨n + 2, 0, none⟩)], enters_of Tryz.func73 (by kernel_rfl) rfl, fun n => by rw [h]; rfl, fun W p m n who hA hc hw => ?_⟩
  have e : m.does who a = (((m.shutS who a).1, true), (m.shutS who a).2):=by unfold M.does; simp [h]
  rw [e]
  exact ans5 hA hc
 ·refine ⟨_, 5, fun n => #[.pointer (some ⟨n, 0, none⟩), .pointer (some ⟨n + 1, 0, none⟩)], enters_of Tryz.func75 (by kernel_rfl) rfl, fun n => by rw [h]; rfl, fun W p m n who hA hc hw => ?_⟩
  have e : m.does who a = (((m.reap who).1, true), (m.reap who).2):=by unfold M.does; simp [h]
  rw [e]
  exact ans6 hA hc
 ·refine ⟨_, 6, fun n => #[.pointer (some ⟨n, 0, none⟩), .pointer (some ⟨n + 2, 0, none⟩)], enters_of Tryz.func77 (by kernel_rfl) rfl, fun n => by rw [h]; rfl, fun W p m n who hA hc hw => ?_⟩
  have e : m.does who a = ((Ev.zero, true), m.close a.force):=by unfold M.does; simp [h]
  rw [e]
  exact ans7 hA hc
 ·refine ⟨_, 7, fun n => #[.pointer (some ⟨n, 0, none⟩)], enters_of Tryz.func79 (by kernel_rfl) rfl, fun n => by rw [h]; rfl, fun W p m n who hA hc hw => ?_⟩
  have e : m.does who a = ((m.stats, true), m):=by unfold M.does; simp [h]
  rw [e]
  exact ans8 hA hc
theorem find_no (n : Nat) (k : Int) (h : ¬ (0 ≤ k ∧ k ≤ 7)) : Instr.findNow (.int .i64) (.i k) (ansT n).toList 0 = some none:=by
 have h0 : (k == 0) = false:=by simp; omega
 have h1 : (k == 1) = false:=by simp; omega
 have h2 : (k == 2) = false:=by simp; omega
 have h3 : (k == 3) = false:=by simp; omega
 have h4 : (k == 4) = false:=by simp; omega
 have h5 : (k == 5) = false:=by simp; omega
 have h6 : (k == 6) = false:=by simp; omega
 have h7 : (k == 7) = false:=by simp; omega
 simp [ansT, Instr.findNow, Instr.sameNow, h0, h1, h2, h3, h4, h5, h6, h7]
theorem zero_fn (W : World) : (zeroValue 89).run Tryz.prog W = .ok .nilFunc W:=by kernel_rfl
theorem m_ask_op {W : World} {p : Pl} {m : M} (h : MAt W p m) (who : Int) (a : Ask) (hop : ¬ (0 ≤ a.op ∧ a.op ≤ 7)) :
  Calls Tryz.prog 14 #[.pointer (some ⟨p.mb, 0, none⟩), .i who, a.val] W (MPost W p (.tuple #[(m.ask who a).1.1.val, .bool (m.ask who a).1.2.1, .bool (m.ask who a).1.2.2]) (m.ask who a).2):=by
 have hR : RowKit.Hid (m.ask who a = ((Ev.zero, false, false), m)):=Lib.hid (by unfold M.ask M.can; rw [if_neg]; simp; intro h1 h2; exact absurd ⟨h1, h2⟩ hop)
 have HR:=Lib.hid hR.out
 generalize m.ask who a = R at *
 clear hR
 obtain ⟨op, dl, wt, fo, sl, ge, st⟩:=a
 simp only at hop
 have HF:=Lib.hid (fun n => find_no n op hop)
 clear hop
 have hB : Below W.heap.size W ((W.alloc (.cells (Ad op dl wt fo sl ge st) 25)).alloc (.cells Zv 36)):=((Below.refl _ _).alloc (Nat.le_refl _) _).alloc (by simp) _
 have r0 : Re W.heap.size ((W.alloc (.cells (Ad op dl wt fo sl ge st) 25)).alloc (.cells Zv 36)) p ((W.alloc (.cells (Ad op dl wt fo sl ge st) 25)).alloc (.cells Zv 36)) p m:=Re.begin h hB
 have e0 : ERow ((W.alloc (.cells (Ad op dl wt fo sl ge st) 25)).alloc (.cells Zv 36)) (W.heap.size + 1):=⟨Zv, rfl, by have:=RowAt.new (W.alloc (.cells (Ad op dl wt fo sl ge st) 25)) Zv 36; simpa using this⟩
 have hg1 : W.heap.size + 1 < ((W.alloc (.cells (Ad op dl wt fo sl ge st) 25)).alloc (.cells Zv 36)).heap.size:=by simp
 have hg0 : W.heap.size ≤ W.heap.size + 1:=by omega
 have a0 : RowAt ((W.alloc (.cells (Ad op dl wt fo sl ge st) 25)).alloc (.cells Zv 36)) W.heap.size (Ad op dl wt fo sl ge st) 25:=heap_alloc2_old W _ _
 clear h
 simp only [Ask.val, Ask.cells]
 go_enter Tryz.func14, Tryz.ntmps14
 go_wp2_with fail
 generalize hwz : ((W.alloc (.cells (Ad op dl wt fo sl ge st) 25)).alloc (.cells Zv 36)) = w1 at *
 clear hwz
 have hKd : Below w1.heap.size w1 w1.drew:=(Below.refl _ _).drew
 have LA : ∀ w', Below w1.heap.size w1 w' → RowAt w' W.heap.size (Ad op dl wt fo sl ge st) 25:=fun w' hb => a0.below hb
 have LA0 : ∀ w', Below w1.heap.size w1 w' → w'.cell? ⟨W.heap.size, 0, none⟩ = some (.i op):=fun w' hb => (LA w' hb).cell 0
 have hcp:=capt w1.drew p.mb who ⟨op, dl, wt, fo, sl, ge, st⟩
 refine wp_region_held_drew (S:=fun w' => Below w1.heap.size w1 w') (by kernel_rfl) (by exact hKd) (fun hHeld => ?_)
 refine tKw (gd:=none) 0 11 (.move (.tmp 0)) ((.pointer (some ⟨p.mb, 0, none⟩))) (run_move_of (.tmp 0) (.pointer (some ⟨p.mb, 0, none⟩)) (by kernel_rfl)) hHeld ?_
 try simp only [Act.put, sA, sZ, sS]
 refine tKw (gd:=none) 1 12 (.move (.tmp 1)) ((.i who)) (run_move_of (.tmp 1) (.i who) (by kernel_rfl)) hHeld ?_
 try simp only [Act.put, sA, sZ, sS]
 refine tKw (gd:=none) 2 13 (.load 25 (.tmp 5)) (.agg (Ad op dl wt fo sl ge st)) (run_load_row 25 (.tmp 5) (W.heap.size) 25 (Ad op dl wt fo sl ge st) _ (by kernel_rfl) Tryz.underlying25 rfl (by kernel_rfl) LA) hHeld ?_
 try simp only [Act.put, sA, sZ, sS]
 refine tKg 4 15 hHeld ?_
 try simp only [Act.put, sA, sZ, sS]
 refine tKg 5 16 hHeld ?_
 try simp only [Act.put, sA, sZ, sS]
 refine rKc (i:=3) 38 #[.tmp 11, .tmp 12, .tmp 13] #[27, 3, 25] (some 14) none #[.pointer (some ⟨p.mb, 0, none⟩), .i who, .agg (Ad op dl wt fo sl ge st)] (enters_of Tryz.func38 (by kernel_rfl) rfl) ?_
 refine (answers_any w1.drew p.mb who ⟨op, dl, wt, fo, sl, ge, st⟩).mono ?_
 rintro e wq' ⟨rfl, rfl⟩
 refine ⟨_, rfl, hKd.trans hcp.2.2, fun hHeld2 => ?_⟩
 try simp only [Act.put, sA, sZ, sS]
 have hHa : Below w1.heap.size w1 (ansW w1.drew p.mb who ⟨op, dl, wt, fo, sl, ge, st⟩):=hKd.trans hcp.2.2
 generalize hwz : ansW w1.drew p.mb who ⟨op, dl, wt, fo, sl, ge, st⟩ = wa at *
 clear hwz hHeld hHeld2 hKd
 have hlk : (Instr.lookup 91 (.map (some (w1.heap.size + 3))) (.i op) true).run Tryz.prog wa = .ok (.tuple #[.nilFunc, .bool false]) wa:=run_lookup_no (P:=Tryz.prog) wa _ 91 3 89 _ 8 op .nilFunc Tryz.underlying91 Tryz.underlying3 hcp.2.1 (HF.out _) zero_fn
 have ea:=e0.below hHa
 have ra:=r0.below hHa
 clear hcp LA LA0 r0 e0 a0
 refine ready1 (i:=6) (by kernel_rfl) (step_run (some 17) (.tuple #[.nilFunc, .bool false]) (by kernel_rfl) (by kernel_rfl) (by go_simp; try rfl) hHa (fun hHeld => ?_))
 try simp only [Act.put, sA, sZ, sS]
 refine tKg 7 10 hHeld ?_
 try simp only [Act.put, sA, sZ, sS]
 refine tKg 8 18 hHeld ?_
 try simp only [Act.put, sA, sZ, sS]
 refine tKg 9 19 hHeld ?_
 try simp only [Act.put, sA, sZ, sS]
 refine tKg 10 9 hHeld ?_
 try simp only [Act.put, sA, sZ, sS]
 refine tKg 11 8 hHeld ?_
 try simp only [Act.put, sA, sZ, sS]
 refine wpAnyH_done (by kernel_rfl) ?_ _
 go_upto_region 3 with (fail)
 obtain ⟨Z, z1, z2⟩:=ea
 refine wp_region_lit ?_
 refine RowL.gl Ev.zero.val ?_ (by go_simp; try rfl)
 refine RowL.gSt z2 Ev.zero.cells 36 (.tmp 6) (.tmp 39) ?_ (hsz:=z1) (h1:=ev_one _)
 go_wp2_with fail
 refine bodyPost_ret (results_row3 rfl _ _ (W.heap.size + 1) _ _ _ rfl (z2.set _) Tryz.underlying36 rfl (by kernel_rfl)) rfl ?_
 rw [HR.out]
 exact (ra.row hg0 hg1 _).fin hB _
theorem m_ask_no {W : World} {p : Pl} {m : M} (h : MAt W p m) (who : Int) (a : Ask) (hop : 0 ≤ a.op ∧ a.op ≤ 7) (hw : m.has who = false) :
  Calls Tryz.prog 14 #[.pointer (some ⟨p.mb, 0, none⟩), .i who, a.val] W (MPost W p (.tuple #[(m.ask who a).1.1.val, .bool (m.ask who a).1.2.1, .bool (m.ask who a).1.2.2]) (m.ask who a).2):=by
 have HR : RowKit.Hid (m.ask who a = ((Ev.zero, false, false), m)):=Lib.hid (by unfold M.ask M.can; rw [if_neg]; simp [hw])
 obtain ⟨F, i, lb, hE, hfind, hcall⟩:=op_any a hop.1 hop.2
 generalize m.ask who a = R at *
 obtain ⟨op, dl, wt, fo, sl, ge, st⟩:=a
 simp only at hop
 have HFI:=Lib.hid hfind
 have HCA:=Lib.hid hcall
 clear hop hfind hcall
 have hB : Below W.heap.size W ((W.alloc (.cells (Ad op dl wt fo sl ge st) 25)).alloc (.cells Zv 36)):=((Below.refl _ _).alloc (Nat.le_refl _) _).alloc (by simp) _
 have r0 : Re W.heap.size ((W.alloc (.cells (Ad op dl wt fo sl ge st) 25)).alloc (.cells Zv 36)) p ((W.alloc (.cells (Ad op dl wt fo sl ge st) 25)).alloc (.cells Zv 36)) p m:=Re.begin h hB
 have e0 : ERow ((W.alloc (.cells (Ad op dl wt fo sl ge st) 25)).alloc (.cells Zv 36)) (W.heap.size + 1):=⟨Zv, rfl, by have:=RowAt.new (W.alloc (.cells (Ad op dl wt fo sl ge st) 25)) Zv 36; simpa using this⟩
 have hg1 : W.heap.size + 1 < ((W.alloc (.cells (Ad op dl wt fo sl ge st) 25)).alloc (.cells Zv 36)).heap.size:=by simp
 have hg0 : W.heap.size ≤ W.heap.size + 1:=by omega
 have a0 : RowAt ((W.alloc (.cells (Ad op dl wt fo sl ge st) 25)).alloc (.cells Zv 36)) W.heap.size (Ad op dl wt fo sl ge st) 25:=heap_alloc2_old W _ _
 clear h
 simp only [Ask.val, Ask.cells]
 go_enter Tryz.func14, Tryz.ntmps14
 go_wp2_with fail
 generalize hwz : ((W.alloc (.cells (Ad op dl wt fo sl ge st) 25)).alloc (.cells Zv 36)) = w1 at *
 clear hwz
 have hKd : Below w1.heap.size w1 w1.drew:=(Below.refl _ _).drew
 have LA : ∀ w', Below w1.heap.size w1 w' → RowAt w' W.heap.size (Ad op dl wt fo sl ge st) 25:=fun w' hb => a0.below hb
 have LA0 : ∀ w', Below w1.heap.size w1 w' → w'.cell? ⟨W.heap.size, 0, none⟩ = some (.i op):=fun w' hb => (LA w' hb).cell 0
 have hcp:=capt w1.drew p.mb who ⟨op, dl, wt, fo, sl, ge, st⟩
 refine wp_region_held_drew (S:=fun w' => Below w1.heap.size w1 w') (by kernel_rfl) (by exact hKd) (fun hHeld => ?_)
 refine tKw (gd:=none) 0 11 (.move (.tmp 0)) ((.pointer (some ⟨p.mb, 0, none⟩))) (run_move_of (.tmp 0) (.pointer (some ⟨p.mb, 0, none⟩)) (by kernel_rfl)) hHeld ?_
 try simp only [Act.put, sA, sZ, sS]
 refine tKw (gd:=none) 1 12 (.move (.tmp 1)) ((.i who)) (run_move_of (.tmp 1) (.i who) (by kernel_rfl)) hHeld ?_
 try simp only [Act.put, sA, sZ, sS]
 refine tKw (gd:=none) 2 13 (.load 25 (.tmp 5)) (.agg (Ad op dl wt fo sl ge st)) (run_load_row 25 (.tmp 5) (W.heap.size) 25 (Ad op dl wt fo sl ge st) _ (by kernel_rfl) Tryz.underlying25 rfl (by kernel_rfl) LA) hHeld ?_
 try simp only [Act.put, sA, sZ, sS]
 refine tKg 4 15 hHeld ?_
 try simp only [Act.put, sA, sZ, sS]
 refine tKg 5 16 hHeld ?_
 try simp only [Act.put, sA, sZ, sS]
 refine rKc (i:=3) 38 #[.tmp 11, .tmp 12, .tmp 13] #[27, 3, 25] (some 14) none #[.pointer (some ⟨p.mb, 0, none⟩), .i who, .agg (Ad op dl wt fo sl ge st)] (enters_of Tryz.func38 (by kernel_rfl) rfl) ?_
 refine (answers_any w1.drew p.mb who ⟨op, dl, wt, fo, sl, ge, st⟩).mono ?_
 rintro e wq' ⟨rfl, rfl⟩
 refine ⟨_, rfl, hKd.trans hcp.2.2, fun hHeld2 => ?_⟩
 try simp only [Act.put, sA, sZ, sS]
 have hHa : Below w1.heap.size w1 (ansW w1.drew p.mb who ⟨op, dl, wt, fo, sl, ge, st⟩):=hKd.trans hcp.2.2
 generalize hwz : ansW w1.drew p.mb who ⟨op, dl, wt, fo, sl, ge, st⟩ = wa at *
 clear hwz hHeld hHeld2 hKd
 have hlk : (Instr.lookup 91 (.map (some (w1.heap.size + 3))) (.i op) true).run Tryz.prog wa = .ok (.tuple #[.func (.func F) #[] (lb w1.heap.size), .bool true]) wa:=run_lookup_is (P:=Tryz.prog) wa _ 91 3 89 _ 8 op i _ Tryz.underlying91 Tryz.underlying3 hcp.2.1 (HFI.out _)
 have ea:=e0.below hHa
 have ra:=r0.below hHa
 have aa:=a0.below hHa
 have hcap : Capt wa w1.heap.size p.mb who ⟨op, dl, wt, fo, sl, ge, st⟩:=hcp.1
 have hhas:=m_has ra.at' who
 clear hcp LA LA0 r0 e0 a0
 refine ready1 (i:=6) (by kernel_rfl) (step_run (some 17) (.tuple #[.func (.func F) #[] (lb w1.heap.size), .bool true]) (by kernel_rfl) (by kernel_rfl) (by go_simp; try rfl) hHa (fun hHeld => ?_))
 try simp only [Act.put, sA, sZ, sS]
 refine tKg 7 10 hHeld ?_
 try simp only [Act.put, sA, sZ, sS]
 refine tKg 8 18 hHeld ?_
 try simp only [Act.put, sA, sZ, sS]
 refine tKg 9 19 hHeld ?_
 try simp only [Act.put, sA, sZ, sS]
 refine tKg 10 9 hHeld ?_
 try simp only [Act.put, sA, sZ, sS]
 refine tKg 11 8 hHeld ?_
 try simp only [Act.put, sA, sZ, sS]
 refine wpAnyH_done (by kernel_rfl) ?_ _
 rw [hw] at hhas
 clear hlk hcap aa hw
 go_wp2_with fail
 refine hhas.mono ?_
 rintro e w' ⟨rfl, rfl⟩
 clear hhas
 go_upto_region 3 with (fail)
 obtain ⟨Z, z1, z2⟩:=ea
 refine wp_region_lit ?_
 refine RowL.gl Ev.zero.val ?_ (by go_simp; try rfl)
 refine RowL.gSt z2 Ev.zero.cells 36 (.tmp 6) (.tmp 39) ?_ (hsz:=z1) (h1:=ev_one _)
 go_wp2_with fail
 refine bodyPost_ret (results_row3 rfl _ _ (W.heap.size + 1) _ _ _ rfl (z2.set _) Tryz.underlying36 rfl (by kernel_rfl)) rfl ?_
 rw [HR.out]
 exact (ra.row hg0 hg1 _).fin hB _
theorem m_ask_busy {W : World} {p : Pl} {m : M} (h : MAt W p m) (n : Nat) (a : Ask) (hop : 0 ≤ a.op ∧ a.op ≤ 7) (hw : m.has (n : Int) = true) (hb : (m.worker (n : Int)).at' ≠ 0) :
  Calls Tryz.prog 14 #[.pointer (some ⟨p.mb, 0, none⟩), .i (n : Int), a.val] W (MPost W p (.tuple #[(m.ask (n : Int) a).1.1.val, .bool (m.ask (n : Int) a).1.2.1, .bool (m.ask (n : Int) a).1.2.2]) (m.ask (n : Int) a).2):=by
 have HR : RowKit.Hid (m.ask (n : Int) a = ((Ev.zero, false, false), m)):=Lib.hid (by unfold M.ask M.can; rw [if_neg]; simp [hb])
 have hnl : n < m.ks.length:=by simp [M.has] at hw; omega
 obtain ⟨k0, hk0⟩ : ∃ k, m.ks[n]? = some k:=⟨_, List.getElem?_eq_getElem hnl⟩
 have hwk : m.worker n = k0:=by unfold M.worker; simp [hk0]
 rw [hwk] at hb
 clear hwk
 obtain ⟨F, i, lb, hE, hfind, hcall⟩:=op_any a hop.1 hop.2
 generalize m.ask (n : Int) a = R at *
 obtain ⟨op, dl, wt, fo, sl, ge, st⟩:=a
 simp only at hop
 have HFI:=Lib.hid hfind
 have HCA:=Lib.hid hcall
 clear hop hfind hcall
 have hB : Below W.heap.size W ((W.alloc (.cells (Ad op dl wt fo sl ge st) 25)).alloc (.cells Zv 36)):=((Below.refl _ _).alloc (Nat.le_refl _) _).alloc (by simp) _
 have r0 : Re W.heap.size ((W.alloc (.cells (Ad op dl wt fo sl ge st) 25)).alloc (.cells Zv 36)) p ((W.alloc (.cells (Ad op dl wt fo sl ge st) 25)).alloc (.cells Zv 36)) p m:=Re.begin h hB
 have e0 : ERow ((W.alloc (.cells (Ad op dl wt fo sl ge st) 25)).alloc (.cells Zv 36)) (W.heap.size + 1):=⟨Zv, rfl, by have:=RowAt.new (W.alloc (.cells (Ad op dl wt fo sl ge st) 25)) Zv 36; simpa using this⟩
 have hg1 : W.heap.size + 1 < ((W.alloc (.cells (Ad op dl wt fo sl ge st) 25)).alloc (.cells Zv 36)).heap.size:=by simp
 have hg0 : W.heap.size ≤ W.heap.size + 1:=by omega
 have a0 : RowAt ((W.alloc (.cells (Ad op dl wt fo sl ge st) 25)).alloc (.cells Zv 36)) W.heap.size (Ad op dl wt fo sl ge st) 25:=heap_alloc2_old W _ _
 clear h
 simp only [Ask.val, Ask.cells]
 go_enter Tryz.func14, Tryz.ntmps14
 go_wp2_with fail
 generalize hwz : ((W.alloc (.cells (Ad op dl wt fo sl ge st) 25)).alloc (.cells Zv 36)) = w1 at *
 clear hwz
 have hKd : Below w1.heap.size w1 w1.drew:=(Below.refl _ _).drew
 have LA : ∀ w', Below w1.heap.size w1 w' → RowAt w' W.heap.size (Ad op dl wt fo sl ge st) 25:=fun w' hb => a0.below hb
 have LA0 : ∀ w', Below w1.heap.size w1 w' → w'.cell? ⟨W.heap.size, 0, none⟩ = some (.i op):=fun w' hb => (LA w' hb).cell 0
 have hcp:=capt w1.drew p.mb (n : Int) ⟨op, dl, wt, fo, sl, ge, st⟩
 refine wp_region_held_drew (S:=fun w' => Below w1.heap.size w1 w') (by kernel_rfl) (by exact hKd) (fun hHeld => ?_)
 refine tKw (gd:=none) 0 11 (.move (.tmp 0)) ((.pointer (some ⟨p.mb, 0, none⟩))) (run_move_of (.tmp 0) (.pointer (some ⟨p.mb, 0, none⟩)) (by kernel_rfl)) hHeld ?_
 try simp only [Act.put, sA, sZ, sS]
 refine tKw (gd:=none) 1 12 (.move (.tmp 1)) ((.i (n : Int))) (run_move_of (.tmp 1) (.i (n : Int)) (by kernel_rfl)) hHeld ?_
 try simp only [Act.put, sA, sZ, sS]
 refine tKw (gd:=none) 2 13 (.load 25 (.tmp 5)) (.agg (Ad op dl wt fo sl ge st)) (run_load_row 25 (.tmp 5) (W.heap.size) 25 (Ad op dl wt fo sl ge st) _ (by kernel_rfl) Tryz.underlying25 rfl (by kernel_rfl) LA) hHeld ?_
 try simp only [Act.put, sA, sZ, sS]
 refine tKg 4 15 hHeld ?_
 try simp only [Act.put, sA, sZ, sS]
 refine tKg 5 16 hHeld ?_
 try simp only [Act.put, sA, sZ, sS]
 refine rKc (i:=3) 38 #[.tmp 11, .tmp 12, .tmp 13] #[27, 3, 25] (some 14) none #[.pointer (some ⟨p.mb, 0, none⟩), .i (n : Int), .agg (Ad op dl wt fo sl ge st)] (enters_of Tryz.func38 (by kernel_rfl) rfl) ?_
 refine (answers_any w1.drew p.mb (n : Int) ⟨op, dl, wt, fo, sl, ge, st⟩).mono ?_
 rintro e wq' ⟨rfl, rfl⟩
 refine ⟨_, rfl, hKd.trans hcp.2.2, fun hHeld2 => ?_⟩
 try simp only [Act.put, sA, sZ, sS]
 have hHa : Below w1.heap.size w1 (ansW w1.drew p.mb (n : Int) ⟨op, dl, wt, fo, sl, ge, st⟩):=hKd.trans hcp.2.2
 generalize hwz : ansW w1.drew p.mb (n : Int) ⟨op, dl, wt, fo, sl, ge, st⟩ = wa at *
 clear hwz hHeld hHeld2 hKd
 have hlk : (Instr.lookup 91 (.map (some (w1.heap.size + 3))) (.i op) true).run Tryz.prog wa = .ok (.tuple #[.func (.func F) #[] (lb w1.heap.size), .bool true]) wa:=run_lookup_is (P:=Tryz.prog) wa _ 91 3 89 _ 8 op i _ Tryz.underlying91 Tryz.underlying3 hcp.2.1 (HFI.out _)
 have ea:=e0.below hHa
 have ra:=r0.below hHa
 have aa:=a0.below hHa
 have hcap : Capt wa w1.heap.size p.mb (n : Int) ⟨op, dl, wt, fo, sl, ge, st⟩:=hcp.1
 have hhas:=m_has ra.at' (n : Int)
 clear hcp LA LA0 r0 e0 a0
 refine ready1 (i:=6) (by kernel_rfl) (step_run (some 17) (.tuple #[.func (.func F) #[] (lb w1.heap.size), .bool true]) (by kernel_rfl) (by kernel_rfl) (by go_simp; try rfl) hHa (fun hHeld => ?_))
 try simp only [Act.put, sA, sZ, sS]
 refine tKg 7 10 hHeld ?_
 try simp only [Act.put, sA, sZ, sS]
 refine tKg 8 18 hHeld ?_
 try simp only [Act.put, sA, sZ, sS]
 refine tKg 9 19 hHeld ?_
 try simp only [Act.put, sA, sZ, sS]
 refine tKg 10 9 hHeld ?_
 try simp only [Act.put, sA, sZ, sS]
 refine tKg 11 8 hHeld ?_
 try simp only [Act.put, sA, sZ, sS]
 refine wpAnyH_done (by kernel_rfl) ?_ _
 rw [hw] at hhas
 have c6:=ra.at'.hd.c6
 have ck:=(ra.at'.works.get hk0).1
 have hnk:=ra.at'.ok.nk
 have b0 : (0 : Int) ≤ (n : Int):=by omega
 have b1 : (n : Int) < (m.ks.length : Int):=by omega
 have b2 : (n : Int) ≤ (m.ks.length : Int) - 1:=by omega
 clear hk0
 have hb' : (k0.at' != 0) = true:=by simp [hb]
 clear hlk hcap aa hw hb
 go_wp2_with fail
 refine hhas.mono ?_
 rintro e w' ⟨rfl, rfl⟩
 clear hhas
 go_upto_region 3 with (fail)
 obtain ⟨Z, z1, z2⟩:=ea
 refine wp_region_lit ?_
 refine RowL.gl Ev.zero.val ?_ (by go_simp; try rfl)
 refine RowL.gSt z2 Ev.zero.cells 36 (.tmp 6) (.tmp 39) ?_ (hsz:=z1) (h1:=ev_one _)
 go_wp2_with fail
 refine bodyPost_ret (results_row3 rfl _ _ (W.heap.size + 1) _ _ _ rfl (z2.set _) Tryz.underlying36 rfl (by kernel_rfl)) rfl ?_
 rw [HR.out]
 exact (ra.row hg0 hg1 _).fin hB _
theorem m_ask_yes {W : World} {p : Pl} {m : M} (h : MAt W p m) (n : Nat) (a : Ask) (hop : 0 ≤ a.op ∧ a.op ≤ 7) (hw : m.has (n : Int) = true) (hb : (m.worker (n : Int)).at' = 0) :
  Calls Tryz.prog 14 #[.pointer (some ⟨p.mb, 0, none⟩), .i (n : Int), a.val] W (MPost W p (.tuple #[(m.ask (n : Int) a).1.1.val, .bool (m.ask (n : Int) a).1.2.1, .bool (m.ask (n : Int) a).1.2.2]) (m.ask (n : Int) a).2):=by
 have HR : RowKit.Hid (m.ask (n : Int) a = if (m.does (n : Int) a).1.2 then ((M.answered (m.does (n : Int) a).1.1 (n : Int) a, true, true), (m.does (n : Int) a).2.tidy) else ((Ev.zero, false, true), (m.does (n : Int) a).2.tidy)):=Lib.hid (by unfold M.ask M.can; rw [if_pos]; simp [hw, hb, hop])
 have hnl : n < m.ks.length:=by simp [M.has] at hw; omega
 obtain ⟨k0, hk0⟩ : ∃ k, m.ks[n]? = some k:=⟨_, List.getElem?_eq_getElem hnl⟩
 have hwk : m.worker n = k0:=by unfold M.worker; simp [hk0]
 rw [hwk] at hb
 clear hwk
 obtain ⟨F, i, lb, hE, hfind, hcall⟩:=op_any a hop.1 hop.2
 generalize m.ask (n : Int) a = R at *
 obtain ⟨op, dl, wt, fo, sl, ge, st⟩:=a
 simp only at hop
 have HFI:=Lib.hid hfind
 have HCA:=Lib.hid hcall
 clear hop hfind hcall
 have hB : Below W.heap.size W ((W.alloc (.cells (Ad op dl wt fo sl ge st) 25)).alloc (.cells Zv 36)):=((Below.refl _ _).alloc (Nat.le_refl _) _).alloc (by simp) _
 have r0 : Re W.heap.size ((W.alloc (.cells (Ad op dl wt fo sl ge st) 25)).alloc (.cells Zv 36)) p ((W.alloc (.cells (Ad op dl wt fo sl ge st) 25)).alloc (.cells Zv 36)) p m:=Re.begin h hB
 have e0 : ERow ((W.alloc (.cells (Ad op dl wt fo sl ge st) 25)).alloc (.cells Zv 36)) (W.heap.size + 1):=⟨Zv, rfl, by have:=RowAt.new (W.alloc (.cells (Ad op dl wt fo sl ge st) 25)) Zv 36; simpa using this⟩
 have hg1 : W.heap.size + 1 < ((W.alloc (.cells (Ad op dl wt fo sl ge st) 25)).alloc (.cells Zv 36)).heap.size:=by simp
 have hg0 : W.heap.size ≤ W.heap.size + 1:=by omega
 have a0 : RowAt ((W.alloc (.cells (Ad op dl wt fo sl ge st) 25)).alloc (.cells Zv 36)) W.heap.size (Ad op dl wt fo sl ge st) 25:=heap_alloc2_old W _ _
 clear h
 simp only [Ask.val, Ask.cells]
 go_enter Tryz.func14, Tryz.ntmps14
 go_wp2_with fail
 generalize hwz : ((W.alloc (.cells (Ad op dl wt fo sl ge st) 25)).alloc (.cells Zv 36)) = w1 at *
 clear hwz
 have hKd : Below w1.heap.size w1 w1.drew:=(Below.refl _ _).drew
 have LA : ∀ w', Below w1.heap.size w1 w' → RowAt w' W.heap.size (Ad op dl wt fo sl ge st) 25:=fun w' hb => a0.below hb
 have LA0 : ∀ w', Below w1.heap.size w1 w' → w'.cell? ⟨W.heap.size, 0, none⟩ = some (.i op):=fun w' hb => (LA w' hb).cell 0
 have hcp:=capt w1.drew p.mb (n : Int) ⟨op, dl, wt, fo, sl, ge, st⟩
 refine wp_region_held_drew (S:=fun w' => Below w1.heap.size w1 w') (by kernel_rfl) (by exact hKd) (fun hHeld => ?_)
 refine tKw (gd:=none) 0 11 (.move (.tmp 0)) ((.pointer (some ⟨p.mb, 0, none⟩))) (run_move_of (.tmp 0) (.pointer (some ⟨p.mb, 0, none⟩)) (by kernel_rfl)) hHeld ?_
 try simp only [Act.put, sA, sZ, sS]
 refine tKw (gd:=none) 1 12 (.move (.tmp 1)) ((.i (n : Int))) (run_move_of (.tmp 1) (.i (n : Int)) (by kernel_rfl)) hHeld ?_
 try simp only [Act.put, sA, sZ, sS]
 refine tKw (gd:=none) 2 13 (.load 25 (.tmp 5)) (.agg (Ad op dl wt fo sl ge st)) (run_load_row 25 (.tmp 5) (W.heap.size) 25 (Ad op dl wt fo sl ge st) _ (by kernel_rfl) Tryz.underlying25 rfl (by kernel_rfl) LA) hHeld ?_
 try simp only [Act.put, sA, sZ, sS]
 refine tKg 4 15 hHeld ?_
 try simp only [Act.put, sA, sZ, sS]
 refine tKg 5 16 hHeld ?_
 try simp only [Act.put, sA, sZ, sS]
 refine rKc (i:=3) 38 #[.tmp 11, .tmp 12, .tmp 13] #[27, 3, 25] (some 14) none #[.pointer (some ⟨p.mb, 0, none⟩), .i (n : Int), .agg (Ad op dl wt fo sl ge st)] (enters_of Tryz.func38 (by kernel_rfl) rfl) ?_
 refine (answers_any w1.drew p.mb (n : Int) ⟨op, dl, wt, fo, sl, ge, st⟩).mono ?_
 rintro e wq' ⟨rfl, rfl⟩
 refine ⟨_, rfl, hKd.trans hcp.2.2, fun hHeld2 => ?_⟩
 try simp only [Act.put, sA, sZ, sS]
 have hHa : Below w1.heap.size w1 (ansW w1.drew p.mb (n : Int) ⟨op, dl, wt, fo, sl, ge, st⟩):=hKd.trans hcp.2.2
 generalize hwz : ansW w1.drew p.mb (n : Int) ⟨op, dl, wt, fo, sl, ge, st⟩ = wa at *
 clear hwz hHeld hHeld2 hKd
 have hlk : (Instr.lookup 91 (.map (some (w1.heap.size + 3))) (.i op) true).run Tryz.prog wa = .ok (.tuple #[.func (.func F) #[] (lb w1.heap.size), .bool true]) wa:=run_lookup_is (P:=Tryz.prog) wa _ 91 3 89 _ 8 op i _ Tryz.underlying91 Tryz.underlying3 hcp.2.1 (HFI.out _)
 have ea:=e0.below hHa
 have ra:=r0.below hHa
 have aa:=a0.below hHa
 have hcap : Capt wa w1.heap.size p.mb (n : Int) ⟨op, dl, wt, fo, sl, ge, st⟩:=hcp.1
 have hhas:=m_has ra.at' (n : Int)
 clear hcp LA LA0 r0 e0 a0
 refine ready1 (i:=6) (by kernel_rfl) (step_run (some 17) (.tuple #[.func (.func F) #[] (lb w1.heap.size), .bool true]) (by kernel_rfl) (by kernel_rfl) (by go_simp; try rfl) hHa (fun hHeld => ?_))
 try simp only [Act.put, sA, sZ, sS]
 refine tKg 7 10 hHeld ?_
 try simp only [Act.put, sA, sZ, sS]
 refine tKg 8 18 hHeld ?_
 try simp only [Act.put, sA, sZ, sS]
 refine tKg 9 19 hHeld ?_
 try simp only [Act.put, sA, sZ, sS]
 refine tKg 10 9 hHeld ?_
 try simp only [Act.put, sA, sZ, sS]
 refine tKg 11 8 hHeld ?_
 try simp only [Act.put, sA, sZ, sS]
 refine wpAnyH_done (by kernel_rfl) ?_ _
 rw [hw] at hhas
 have c6:=ra.at'.hd.c6
 have ck:=(ra.at'.works.get hk0).1
 have hnk:=ra.at'.ok.nk
 have b0 : (0 : Int) ≤ (n : Int):=by omega
 have b1 : (n : Int) < (m.ks.length : Int):=by omega
 have b2 : (n : Int) ≤ (m.ks.length : Int) - 1:=by omega
 clear hk0
 have hb' : (k0.at' != 0) = false:=by simp [hb]
 have hcl:=HCA.out wa p m w1.heap.size n ra.at' hcap hw
 generalize m.does n ⟨op, dl, wt, fo, sl, ge, st⟩ = D at *
 obtain ⟨⟨x, bb⟩, m2⟩:=D
 simp only at hcl HR
 clear hlk hcap hw hb
 go_wp2_with fail
 refine hhas.mono ?_
 rintro e w' ⟨rfl, rfl⟩
 clear hhas
 go_wp2_with fail
 refine hcl.mono ?_
 rintro e w3 hp
 obtain ⟨rfl, p3, r3, hc3⟩:=ra.post hp
 have e3:=ea.chg hc3 (ra.not hg0 hg1)
 have a3 : RowAt w3 W.heap.size (Ad op dl wt fo sl ge st) 25:=RowAt.kept aa ra (Nat.le_refl _) (by omega) hc3
 have hst:=e3.store x
 have hsz:=ev_size x
 have row4:=e3.set x
 have r4:=r3.row hg0 hg1 x.cells
 have a4 : RowAt (w3.setRow (W.heap.size + 1) x.cells) W.heap.size (Ad op dl wt fo sl ge st) 25:=a3.chg (chg_setRow (F:=fun k => k = W.heap.size + 1) (Chg.refl _ _) _ _ (fun _ => rfl)) (by omega)
 have hty:=m_tidy r4.at'
 rw [r4.mb] at hty
 clear hcl hp hc3 ra ea aa c6 ck b0 b1 b2 hnk
 go_wp2_with fail
 generalize hwz : w3.setRow (W.heap.size + 1) x.cells = w4 at *
 clear hwz hst r3 e3 a3
 refine hty.mono ?_
 rintro e w5 ⟨v5, hp5⟩
 obtain ⟨rfl, p5, r5, hc5⟩:=r4.post hp5
 have row5:=RowAt.kept row4 r4 hg0 hg1 hc5
 have a5:=RowAt.kept a4 r4 (Nat.le_refl _) (by omega) hc5
 clear hty hp5 hc5 r4 row4 a4
 cases bb
 ·have HR2 : RowKit.Hid (R = ((Ev.zero, false, true), m2.tidy)):=Lib.hid (by rw [HR.out]; rfl)
  go_upto_region 7 with (fail)
  refine wp_region_lit ?_
  refine RowL.gl Ev.zero.val ?_ (by go_simp; try rfl)
  refine RowL.gSt row5 Ev.zero.cells 36 (.tmp 6) (.tmp 49) ?_ (h1:=ev_one _)
  go_wp2_with fail
  refine bodyPost_ret (results_row3 rfl _ _ (W.heap.size + 1) _ _ _ rfl (row5.set _) Tryz.underlying36 rfl (by kernel_rfl)) rfl ?_
  rw [HR2.out]
  exact (r5.row hg0 hg1 _).fin hB _
 ·have HR2 : RowKit.Hid (R = ((M.answered x n ⟨op, dl, wt, fo, sl, ge, st⟩, true, true), m2.tidy)):=Lib.hid (by rw [HR.out]; rfl)
  have han:=answered_any w5 x n ⟨op, dl, wt, fo, sl, ge, st⟩
  generalize M.answered x n ⟨op, dl, wt, fo, sl, ge, st⟩ = y at *
  go_upto_region 8 with (fail)
  refine wp_region_lit ?_
  refine RowL.grow row5 36 (.tmp 6) Tryz.underlying36 ?_
  refine RowL.gl (.i n) ?_ (by go_simp; try rfl)
  refine RowL.grow a5 25 (.tmp 5) Tryz.underlying25 ?_
  go_wp2_with fail
  refine han.mono ?_
  rintro e w6 ⟨rfl, hb6⟩
  have r6:=r5.below hb6
  have row6:=row5.below hb6
  have hst:=(show ERow w6 (W.heap.size + 1) from ⟨_, rfl, row6⟩).store y
  have hsz:=ev_size y
  have row7:=(show ERow w6 (W.heap.size + 1) from ⟨_, rfl, row6⟩).set y
  clear han hb6 r5 row5 a5 row6
  go_wp2_with fail
  refine bodyPost_ret (results_row3 rfl _ _ (W.heap.size + 1) _ _ _ rfl row7 Tryz.underlying36 rfl (by kernel_rfl)) rfl ?_
  rw [HR2.out]
  exact (r6.row hg0 hg1 _).fin hB _
theorem m_ask {W : World} {p : Pl} {m : M} (h : MAt W p m) (who : Int) (a : Ask) :
  Calls Tryz.prog 14 #[.pointer (some ⟨p.mb, 0, none⟩), .i who, a.val] W (MPost W p (.tuple #[(m.ask who a).1.1.val, .bool (m.ask who a).1.2.1, .bool (m.ask who a).1.2.2]) (m.ask who a).2):=by
 by_cases hop : 0 ≤ a.op ∧ a.op ≤ 7
 ·cases hw : m.has who
  ·exact m_ask_no h who a hop hw
  ·by_cases hb : (m.worker who).at' = 0
   ·obtain ⟨n, rfl⟩ : ∃ n : Nat, who = (n : Int):=by
     simp [M.has] at hw
     exact Int.eq_ofNat_of_zero_le hw.1
    exact m_ask_yes h n a hop hw hb
   ·obtain ⟨n, rfl⟩ : ∃ n : Nat, who = (n : Int):=by
     simp [M.has] at hw
     exact Int.eq_ofNat_of_zero_le hw.1
    exact m_ask_busy h n a hop hw hb
 ·exact m_ask_op h who a hop
end Go.Proofs.YtpmkgddjgebojaaGreatDoor.Mod
