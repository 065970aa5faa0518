/- The statement TakeRace holds, for every input: the call answers true and leaves what it was handed as it was, where the package's table slot.fields is laid as the program's text lays it (the tied card). -/
import Derived.Test.YtefpoidnklflnaaGreatDoorP16
import Derived.Test.YtefpoidnklflnaaGreatDoorP10
import Derived.Test.YtefpoidnklflnaaGreatDoorP15
import Derived.Test.YtefpoidnklflnaaGreatDoorP2
import Derived.Test.YtefpoidnklflnaaGreatDoorP8
import Derived.Test.YtefpoidnklflnaaGreatDoorRows
import Derived.Test.YtefpoidnklflnaaGreatDoorTie
import Derived.Test.YtefpoidnklflnaaGreatDoorCards
import Derived.WalkKit
import Derived.ProofKit
import Derived.OpenShut
import Derived.ShutString
import Derived.ChangeOld
import Derived.Below
import Derived.LaidMore
import Derived.SevenTiedAt

namespace Go.Proofs.YtefpoidnklflnaaGreatDoor.Mod
set_option linter.unusedVariables false
set_option linter.unusedSimpArgs false
open Go.RowKit Hp Slot RowL Life Cl

def rcW (x : Int) : List Int := [0, 0, 0, 0, 0, 0, 0, x]
theorem rc_case {x : Int} (h : x = 0 ∨ x = Tk.raceW 0 ∨ x = Tk.raceW 1) (l : List Bool) : Tk.raceEnd (l.foldl Tk.turnT (Tk.raceIn x)) = true := by
  rcases h with rfl | rfl | rfl
  · exact Tk.race_end Tk.race0 l
  · exact Tk.race_end Tk.race1 l
  · exact Tk.race_end Tk.race2 l
theorem rc_word (own : Int) (h : 0 ≤ own ∧ own < 256) : docW ⟨2, own % 2, 0, false, false, 1, 0, 0, 0⟩ = Tk.raceW 0 ∨ docW ⟨2, own % 2, 0, false, false, 1, 0, 0, 0⟩ = Tk.raceW 1 := by
  have h2 : own % 2 = 0 ∨ own % 2 = 1 := by omega
  rcases h2 with e | e
  · rw [e]; exact .inl (by kernel_rfl)
  · rw [e]; exact .inr (by kernel_rfl)
theorem rc_zero : List.replicate (Tk.sc Tk.raceC (Tk.ns Tk.raceC)) (0 : Int) = rcW 0 := by decide
set_option maxRecDepth 100000 in
set_option maxHeartbeats 4000000 in
theorem takeRace_walk (W : World) (hL : Laid W) (idle : Bool) (own : Int) (ho : 0 ≤ own ∧ own < 256) (a0 : Option Addr) (len cap b0 off : Nat) (l : List Bool) (hw : Base.BoolsAt W a0 len cap b0 off l) :
    Calls Tryz.prog 3 #[.bool idle, .int .u8 own, .slice a0 len cap] W fun e W' => e = .returned (.bool true) ∧ Below W.heap.size W W' := by
  have haw := awake_any W hL
  have hcv : Tk.raceC.val = .agg #[.int .i64 2, .int .i64 1, .int .i64 0, .int .i64 0, .int .i64 9] := rfl
  have hce := fun w => ref_cells_any w Tk.raceC (by decide) (by decide)
  have hsl := fun w => ref_slot_any w Tk.raceC 0 (by decide) (by decide)
  have hn8 : (3 + 2 * Tk.raceC.workers + Tk.raceC.slots) = 8 := by decide
  have hn7 : (3 + 2 * Tk.raceC.workers + ((0 : Nat) : Int)) = 7 := by decide
  rw [hn8] at hce
  rw [hn7] at hsl
  have hmk : ∀ w, (Instr.makeSlice 26 (.int .i64 8) (.int .i64 8)).run Tryz.prog w = .ok (.slice (some ⟨w.heap.size, 0, none⟩) 8 8) (w.alloc (.cells (Array.replicate 8 (.int .i64 0)) 3)) := fun w => make_ints 8 (by omega) w
  have hwd := fun w => ref_word_any w ⟨2, own % 2, 0, false, false, 1, 0, 0, 0⟩
  have hwx := rc_word own ho
  have hld := fun w g x h => laid_any w Tk.raceC (by kernel_rfl) g 0 8 (rcW x) (by rfl) h
  have hna := fun w => tnew_any w Tk.raceC 0
  have hnb := fun w => tnew_any w Tk.raceC 1
  have e8 : ∀ x, (rcW x).length = 8 := fun _ => rfl
  simp only [e8] at hld
  rw [hcv] at hce hsl hld hna hnb
  simp only [S.val, S.cells] at hwd
  generalize docW ⟨2, own % 2, 0, false, false, 1, 0, 0, 0⟩ = wx at *
  have HW := Lib.hid hw
  have hlen := hw.len_eq
  clear hw hcv hn8 hn7 e8
  have HWX := Lib.hid hwx
  clear hwx
  go_enter Tryz.func3, Tryz.ntmps3
  go_wp2_with fail
  refine haw.mono ?_
  rintro e w1 ⟨rfl, hb1⟩
  clear haw
  by_cases h60 : 60 < len
  · have h60' : (60 : Int) < len := by omega
    go_wp2_with fail
    go_ret
    exact ⟨rfl, hb1⟩
  have h60' : ¬ (60 : Int) < len := by omega
  have hB2 : Below W.heap.size W (w1.alloc (.cells #[.int .i64 2, .int .i64 1, .int .i64 0, .int .i64 0, .int .i64 9] 25)) := hb1.alloc hb1.size _
  have hr2 : RowAt (w1.alloc (.cells #[.int .i64 2, .int .i64 1, .int .i64 0, .int .i64 0, .int .i64 9] 25)) w1.heap.size #[.int .i64 2, .int .i64 1, .int .i64 0, .int .i64 0, .int .i64 9] 25 := RowAt.new _ _ _
  have hcb := hb1.size
  go_upto_region 5 with (fail)
  generalize (w1.alloc (.cells #[.int .i64 2, .int .i64 1, .int .i64 0, .int .i64 0, .int .i64 9] 25)) = w2 at *
  generalize w1.heap.size = cb at *
  refine wp_region_lit ?_
  refine grow hr2 25 (.tmp 8) Tryz.underlying25 ?_
  try simp only [Act.put, sA, sZ, sS]
  refine gcall 10 #[.tmp 28] #[25] #[.agg #[.int .i64 2, .int .i64 1, .int .i64 0, .int .i64 0, .int .i64 9]] (enters_of Tryz.func10 (by kernel_rfl) rfl) ?_
  refine (hce _).mono ?_
  rintro e w3 ⟨rfl, hb3⟩
  refine ⟨_, rfl, ?_⟩
  have hB3 := hB2.trans (hb3.mono hB2.size)
  have hr3 := RowAt.below hr2 hb3
  clear hce hb3 hB2 hr2 hb1
  dsimp only
  go_upto_if 31 with (fail)
  have hw4 : WRow (w3.alloc (.cells (Array.replicate 8 (.int .i64 0)) 3)) w3.heap.size (rcW 0) := by
    unfold WRow
    rw [← rc_zero, ← made_ints, made_rep]
    exact RowAt.new w3 _ _
  have hB4 : Below W.heap.size W (w3.alloc (.cells (Array.replicate 8 (.int .i64 0)) 3)) := hB3.alloc hB3.size _
  have hr4 := RowAt.below hr3 ((Below.refl _ _).alloc (Nat.le_refl _) (.cells (Array.replicate 8 (.int .i64 0)) 3))
  have hgb := RowAt.lt hr3
  clear hmk hB3 hr3
  generalize (w3.alloc (.cells (Array.replicate 8 (.int .i64 0)) 3)) = w4 at *
  generalize w3.heap.size = gb at *
  have H4 := Lib.hid hw4
  have HB4 := Lib.hid hB4
  have HR4 := Lib.hid hr4
  clear hw4 hB4 hr4
  go_cut [31] from 31 to 40 (fun s wx => ∃ x, RowKit.Hid (x = 0 ∨ x = Tk.raceW 0 ∨ x = Tk.raceW 1) ∧ RowKit.Hid (WRow wx gb (rcW x)) ∧ RowKit.Hid (Below W.heap.size W wx) ∧ RowKit.Hid (RowAt wx cb #[.int .i64 2, .int .i64 1, .int .i64 0, .int .i64 0, .int .i64 9] 25))
  case first =>
    cases idle
    · go_wp2_with fail
      go_meet
      case rel => exact ⟨0, Lib.hid (.inl rfl), H4, HB4, HR4⟩
    · go_upto_region 7 with (fail)
      refine wp_region_lit ?_
      refine gl (.slice (some ⟨gb, 0, none⟩) 8 8) ?_
      refine grow HR4.out 25 (.tmp 8) Tryz.underlying25 ?_
      try simp only [Act.put, sA, sZ, sS]
      refine gcall 12 #[.tmp 33, .const (.int .i64 0)] #[25, 3] #[.agg #[.int .i64 2, .int .i64 1, .int .i64 0, .int .i64 0, .int .i64 9], .int .i64 0] (enters_of Tryz.func12 (by kernel_rfl) rfl) ?_
      refine (hsl _).mono ?_
      rintro e w6 ⟨rfl, hb6⟩
      refine ⟨_, rfl, ?_⟩
      have o0 := ho.1
      have o1 := ho.2
      have hw6 : WRow w6 gb (rcW 0) := RowAt.below H4.out hb6
      have hB6 := HB4.out.trans (hb6.mono HB4.out.size)
      have hr6 := RowAt.below HR4.out hb6
      dsimp only
      go_wp2_with fail
      refine (hwd _).mono ?_
      rintro e w7 ⟨rfl, hb7⟩
      have hw7 : WRow w7 gb (rcW 0) := RowAt.below hw6 hb7
      have hB7 := hB6.trans (hb7.mono hB6.size)
      have hr7 := RowAt.below hr6 hb7
      have c7 : w7.cell? ⟨gb, 7, none⟩ = some (.int .i64 0) := hw7.get (i := 7) rfl
      have f7 : w7.frozen? ⟨gb, 7, none⟩ = false := RowAt.frozen hw7 7
      have hw8 : WRow (w7.setCell ⟨gb, 7, none⟩ (.int .i64 wx)) gb (rcW wx) := hw7.set 7 wx
      have hB8 : Below W.heap.size W (w7.setCell ⟨gb, 7, none⟩ (.int .i64 wx)) := hB7.setCell (p := ⟨gb, 7, none⟩) (by show W.heap.size ≤ gb; omega) _
      have hr8 := setOther (p := ⟨gb, 7, none⟩) hr7 (.int .i64 wx) (by show cb ≠ gb; omega)
      have H8 := Lib.hid hw8
      have HB8 := Lib.hid hB8
      have HR8 := Lib.hid hr8
      clear hw8 hB8 hr8 hw7 hB7 hr7 hw6 hB6 hr6 hb6 hb7
      go_wp2_with fail
      go_meet
      case rel => exact ⟨wx, Lib.hid (.inr HWX.out), H8, HB8, HR8⟩
  case rest =>
    obtain ⟨x, hx, hw5, hB5, hr5⟩ := hcut
    generalize wc = w5 at *
    clear H4 HB4 HR4 hwd
    go_upto_region 8 with (fail)
    refine wp_region_lit ?_
    refine grow hr5.out 25 (.tmp 8) Tryz.underlying25 ?_
    refine gl (.slice (some ⟨gb, 0, none⟩) 8 8) ?_
    try simp only [Act.put, sA, sZ, sS]
    refine gcall 13 #[.tmp 41, .tmp 42] #[25, 26] #[.agg #[.int .i64 2, .int .i64 1, .int .i64 0, .int .i64 0, .int .i64 9], .slice (some ⟨gb, 0, none⟩) 8 8] (enters_of Tryz.func13 (by kernel_rfl) rfl) ?_
    refine (hld _ gb x (fun k y hy => by rw [Nat.zero_add]; exact hw5.out.get hy)).mono ?_
    rintro e w6 ⟨mb, wb, rfl, hM6, hm1, hm2, hb6⟩
    refine ⟨_, rfl, ?_⟩
    have hB6 := hB5.out.trans (hb6.mono hB5.out.size)
    have hr6 := RowAt.below hr5.out hb6
    have hmb : cb + 1 ≤ mb := by have := RowAt.lt hr5.out; omega
    have hwb : cb + 1 ≤ wb := by have := RowAt.lt hr5.out; omega
    clear hld hw5 hB5 hr5 hm1 hm2 hb6
    have hL6 : Laid w6 := hL.stable (hB6.block 0 (hL.lt (by decide)))
    have hW0 : 0 < W.heap.size := hL.lt (by decide)
    go_upto_region 9 with (fail)
    refine wp_region_lit ?_
    refine grow hr6 25 (.tmp 8) Tryz.underlying25 ?_
    try simp only [Act.put, sA, sZ, sS]
    refine gcall 14 #[.tmp 44, .const (.int .i64 0)] #[25, 3] #[.agg #[.int .i64 2, .int .i64 1, .int .i64 0, .int .i64 0, .int .i64 9], .int .i64 0] (enters_of Tryz.func14 (by kernel_rfl) rfl) ?_
    refine (hna _).mono ?_
    rintro e w7 ⟨ta, rfl, hT7, ht7, hb7⟩
    refine ⟨_, rfl, ?_⟩
    have hB7 := hB6.trans (hb7.mono hB6.size)
    have hr7 := RowAt.below hr6 hb7
    have hta : cb + 1 ≤ ta := by have := RowAt.lt hr6; omega
    have hA7 := TkAt.fresh hM6 hL6 (by omega) (by omega) hb7 ht7 hT7 rfl rfl
    have hM7 := hM6.below hb7
    have hL7 : Laid w7 := hL.stable (hB7.block 0 (hL.lt (by decide)))
    clear hna hb7 hM6 hr6 hB6 hT7 ht7 hL6
    go_upto_region 10 with (fail)
    refine wp_region_lit ?_
    refine grow hr7 25 (.tmp 8) Tryz.underlying25 ?_
    try simp only [Act.put, sA, sZ, sS]
    refine gcall 14 #[.tmp 46, .const (.int .i64 1)] #[25, 3] #[.agg #[.int .i64 2, .int .i64 1, .int .i64 0, .int .i64 0, .int .i64 9], .int .i64 1] (enters_of Tryz.func14 (by kernel_rfl) rfl) ?_
    refine (hnb _).mono ?_
    rintro e w8 ⟨tb, rfl, hT8, ht8, hb8⟩
    refine ⟨_, rfl, ?_⟩
    have hB8 := hB7.trans (hb8.mono hB7.size)
    have hr8 := RowAt.below hr7 hb8
    have htb : cb + 1 ≤ tb := by have := RowAt.lt hr7; omega
    have hb := TkAt.fresh hM7 hL7 (by omega) (by omega) hb8 ht8 hT8 rfl rfl
    have hne : ta < tb := by have := hA7.lt; omega
    have two := two_new (a := (Tk.raceIn x).1) (b := (Tk.raceIn x).2.1) (hA7.below hb8) hb (by omega) (new_ok (c := Tk.raceC) (w := 0) (ws := rcW x) (by kernel_rfl) (by omega) (by rfl)) (new_ok (c := Tk.raceC) (w := 1) (ws := rcW x) (by kernel_rfl) (by omega) (by rfl))
    have HX := hx
    have TW := Lib.hid two
    have HB := Lib.hid hB8
    have HR := Lib.hid hr8
    clear two hB8 hr8 hb hA7 hM7 hL7 hB7 hr7 hT8 ht8 hb8 hnb
    dsimp only
    go_wp2_with fail
    go_loopw [13] (fun i wr => ∃ (k : Nat) (a b : Tk.Tk) (ws : List Int) (la ra lb rb : Option Nat) (tc : Int), k ≤ l.length ∧ i = .int .i64 k ∧ RowKit.Hid ((l.take k).foldl Tk.turnT (Tk.raceIn x) = (a, b, ws)) ∧ RowKit.Hid (TwoAt wr ta tb mb wb la ra lb rb a b ws tc) ∧ (0 ≤ tc ∧ tc ≤ 100 + k) ∧ RowKit.Hid (Below (cb + 1) w8 wr) ∧ RowKit.Hid (Hi (cb + 1) ta la ra) ∧ RowKit.Hid (Hi (cb + 1) tb lb rb) ∧ RowKit.Hid (ws.length = 8)) (fun i _ => l.length - (intOf i).toNat)
    case atStart => exact ⟨0, _, _, rcW x, none, none, none, none, _, by omega, rfl, Lib.hid rfl, TW, by omega, Lib.hid (Below.refl _ _), Lib.hid (hi_new hta), Lib.hid (hi_new htb), Lib.hid rfl⟩
    case round =>
      obtain ⟨k, a, b, ws, la, ra, lb, rb, tc, hk, rfl, hf, two, hc, hB, hHa, hHb, hlw⟩ := hrel
      clear TW
      have hcs : cb + 1 ≤ wr.heap.size := Nat.le_trans (RowAt.lt HR.out) hB.out.size
      have hBW : Below W.heap.size W wr := HB.out.trans (hB.out.mono (by omega))
      by_cases hlt : k < l.length
      · obtain ⟨t, ht, e1⟩ : ∃ t, l[k]? = some t ∧ wr.cell? ⟨b0, off + k, none⟩ = some (.bool t) := ⟨l[k], List.getElem?_eq_getElem hlt, Field.bkeep hBW (HW.out.cell k _ (List.getElem?_eq_getElem hlt))⟩
        have ha0 : a0 = some ⟨b0, off, none⟩ := (HW.out.addr (by omega)).1
        subst ha0
        have hfn : (l.take (k + 1)).foldl Tk.turnT (Tk.raceIn x) = Tk.turnT (a, b, ws) t := by rw [List.take_add_one, ht, List.foldl_append, hf.out]; rfl
        have k1 : (k : Int) < l.length := by omega
        have k2 : (0 : Int) ≤ (k : Int) := by omega
        have kl : k ≤ 60 := by omega
        clear hf hk hBW
        cases t
        · have hst := tstep_any two.out.tb' two.out.ob ⟨by omega, by omega⟩ true
          have hfew := Tk.step_few b ws true
          have hok := two.out.ob.step true
          have hsl := step_len two.out.ob true
          unfold StepPost at hst
          have hfn2 : Tk.turnT (a, b, ws) false = (a, (b.step ws true).1, (b.step ws true).2.1) := rfl
          rw [hfn2] at hfn
          generalize b.step ws true = q at *
          obtain ⟨t2, ws2, n⟩ := q
          dsimp only at *
          have HFN := Lib.hid hfn
          have HSL := Lib.hid hsl
          clear hfn hfn2 hsl ht
          go_wp2_with fail
          refine hst.mono ?_
          rintro e w9 ⟨rfl, l2, r2, h9, r9⟩
          have r9' : TR wr tb mb wb lb rb w9 l2 r2 := r9
          have T9 := Lib.hid (two.out.stepB h9 r9' hok HSL.out)
          have HB9 := Lib.hid (hB.out.trans (r9'.hiBelow hHb.out hmb hwb hcs))
          have HH9 := Lib.hid (r9'.hi hHb.out hcs)
          clear hst h9 r9 r9' two hB hHb hcs
          go_wp2_with fail
          go_roundw
          case rel => exact ⟨k + 1, _, _, _, la, ra, l2, r2, tc + n, by omega, by go_num, HFN, T9, by omega, HB9, hHa, HH9, Lib.hid (HSL.out.trans hlw.out)⟩
          case measure => simp [intOf]; omega
        · have hst := tstep_any two.out.ta' two.out.oa ⟨by omega, by omega⟩ true
          have hfew := Tk.step_few a ws true
          have hok := two.out.oa.step true
          have hsl := step_len two.out.oa true
          unfold StepPost at hst
          have hfn2 : Tk.turnT (a, b, ws) true = ((a.step ws true).1, b, (a.step ws true).2.1) := rfl
          rw [hfn2] at hfn
          generalize a.step ws true = q at *
          obtain ⟨t2, ws2, n⟩ := q
          dsimp only at *
          have HFN := Lib.hid hfn
          have HSL := Lib.hid hsl
          clear hfn hfn2 hsl ht
          go_wp2_with fail
          refine hst.mono ?_
          rintro e w9 ⟨rfl, l2, r2, h9, r9⟩
          have r9' : TR wr ta mb wb la ra w9 l2 r2 := r9
          have T9 := Lib.hid (two.out.stepA h9 r9' hok HSL.out)
          have HB9 := Lib.hid (hB.out.trans (r9'.hiBelow hHa.out hmb hwb hcs))
          have HH9 := Lib.hid (r9'.hi hHa.out hcs)
          clear hst h9 r9 r9' two hB hHa hcs
          go_wp2_with fail
          go_roundw
          case rel => exact ⟨k + 1, _, _, _, l2, r2, lb, rb, tc + n, by omega, by go_num, HFN, T9, by omega, HB9, HH9, hHb, Lib.hid (HSL.out.trans hlw.out)⟩
          case measure => simp [intOf]; omega
      · have hfe : l.take k = l := List.take_of_length_le (by omega)
        have hE := rc_case HX.out l
        rw [← hfe, hf.out] at hE
        have k1 : ¬ (k : Int) < l.length := by omega
        have htc : 0 ≤ tc ∧ tc ≤ 200 := by omega
        clear hf hfe hk hlt hc HX HW
        have hal := alone_any two.out.ta' two.out.oa ⟨by omega, by omega⟩ true
        unfold Tk.raceEnd at hE
        dsimp only at hE
        have hoa := Tk.alone_ok true 200 0 two.out.oa
        have hla : (Tk.alone true 200 0 a ws).2.2.length = 8 := by
          have h1 := hoa.len
          have h2 := two.out.oa.len
          have h3 := Tk.alone_cf true 200 0 two.out.oa
          have := hlw.out
          rw [h3] at h1
          omega
        generalize hr1 : Tk.alone true 200 0 a ws = r1 at *
        obtain ⟨n1, a2, ws2⟩ := r1
        clear hr1
        dsimp only at *
        have HE := Lib.hid hE
        clear hE
        go_wp2_with fail
        refine hal.mono ?_
        rintro e w9 ⟨rfl, l2, r2, tc2, h9, ht2, r9⟩
        have r9' : TR wr ta mb wb la ra w9 l2 r2 := r9
        have T9 : TwoAt w9 ta tb mb wb l2 r2 lb rb a2 b ws2 tc2 := two.out.stepA h9 r9' hoa (by rw [hla, hlw.out])
        have hB9 := hB.out.trans (r9'.hiBelow hHa.out hmb hwb hcs)
        have hH9 := r9'.hi hHa.out hcs
        have hcs9 : cb + 1 ≤ w9.heap.size := Nat.le_trans hcs r9'.2.2.size
        clear hal h9 r9 r9' two hB hHa hcs hoa hBW
        have hbl := alone_any T9.tb' T9.ob ⟨by omega, by omega⟩ true
        have hob := Tk.alone_ok true 200 0 T9.ob
        have hlb : (Tk.alone true 200 0 b ws2).2.2.length = 8 := by
          have h1 := hob.len
          have h2 := T9.ob.len
          have h3 := Tk.alone_cf true 200 0 T9.ob
          rw [h3] at h1
          omega
        have hE := HE.out
        clear HE
        generalize hr2 : Tk.alone true 200 0 b ws2 = r2 at *
        obtain ⟨n2, b2, ws3⟩ := r2
        clear hr2
        dsimp only at *
        have HE := Lib.hid hE
        have T9 := Lib.hid T9
        have HB9 := Lib.hid hB9
        have HH9 := Lib.hid hH9
        clear hE hB9 hH9
        go_wp2_with fail
        refine hbl.mono ?_
        rintro e w10 ⟨rfl, l3, r3, tc3, h10, ht3, r10⟩
        have r10' : TR w9 tb mb wb lb rb w10 l3 r3 := r10
        have T10 : TwoAt w10 ta tb mb wb l2 r2 l3 r3 a2 b2 ws3 tc3 := T9.out.stepB h10 r10' hob (by rw [hlb, hla])
        have hB10 := HB9.out.trans (r10'.hiBelow hHb.out hmb hwb hcs9)
        have hA := answer_any T10.ta'
        have T10 := Lib.hid T10
        have HB10 := Lib.hid hB10
        clear hbl h10 r10 r10' T9 HB9 HH9 hHb hob hB10 hcs9
        go_wp2_with fail
        refine hA.mono ?_
        rintro e w11 ⟨rfl, hb11⟩
        have T11 := T10.out.below hb11
        have hB11 := HB10.out.trans (hb11.mono (by have := HB10.out.size; have := RowAt.lt HR.out; omega))
        have hA := answer_any T11.tb'
        have T11 := Lib.hid T11
        have HB11 := Lib.hid hB11
        clear T10 HB10 hb11 hB11
        go_wp2_with fail
        refine hA.mono ?_
        rintro e w12 ⟨rfl, hb12⟩
        have T12 := T11.out.below hb12
        have hB12 := HB11.out.trans (hb12.mono (by have := HB11.out.size; have := RowAt.lt HR.out; omega))
        have hr12 : RowAt w12 cb #[.int .i64 2, .int .i64 1, .int .i64 0, .int .i64 0, .int .i64 9] 25 := (hB12.block cb (by omega)).trans HR.out
        obtain ⟨s, hs, hE2⟩ : ∃ s, dec (Tk.rd ws3 7) = some s ∧ ((s.state == 3 && s.gen == 1) && (if a2.answer.1 = 0 then a2.answer.2.2 == 1 && (b2.answer.1 == 3 && s.own == 0) else a2.answer.1 == 3 && (b2.answer.1 == 0 && (b2.answer.2.2 == 1 && s.own == 1)))) = true := by
          have hE := HE.out
          cases hd : dec (Tk.rd ws3 7) with
          | none => rw [hd] at hE; cases hE
          | some s => rw [hd] at hE; exact ⟨s, rfl, hE⟩
        have hrd := rd_some (ws := ws3) (i := 7) (by omega)
        have hld := load_any T12.ta'.mem ⟨by omega, by omega⟩ 7 _ hrd
        have hdc := fun w => ref_decode_any w (Tk.rd ws3 7) (by rw [← (word_dec hs).2]; have := word_bd (word_dec hs).1; omega)
        rw [hs] at hdc
        simp only [Option.getD_some, Option.isSome_some] at hdc
        clear T11 HB11 HE hb12 hs hrd hA
        have hB12 := Lib.hid hB12
        have T12 := Lib.hid T12
        go_upto_region 23 with (fail)
        refine wp_region_lit ?_
        refine gl (.pointer (some ⟨mb, 0, none⟩)) ?_
        refine grow hr12 25 (.tmp 8) Tryz.underlying25 ?_
        try simp only [Act.put, sA, sZ, sS]
        refine gcall 12 #[.tmp 94, .const (.int .i64 0)] #[25, 3] #[.agg #[.int .i64 2, .int .i64 1, .int .i64 0, .int .i64 0, .int .i64 9], .int .i64 0] (enters_of Tryz.func12 (by kernel_rfl) rfl) ?_
        refine (hsl _).mono ?_
        rintro e w13 ⟨rfl, hb13⟩
        refine ⟨_, rfl, ?_⟩
        have hb13 : Below w12.heap.size w12 w13 := hb13
        have hld13 := load_any (T12.out.below hb13).ta'.mem ⟨by omega, by omega⟩ 7 _ (rd_some (ws := ws3) (i := 7) (by omega))
        have hL13 := ((T12.out.below hb13).ta').laid
        have hB13 := hB12.out.trans (hb13.mono (by have := hB12.out.size; have := RowAt.lt HR.out; omega))
        dsimp only
        refine gcall 19 #[.tmp 93, .tmp 95] #[32, 3] #[.pointer (some ⟨mb, 0, none⟩), .int .i64 7] (enters_of Tryz.func19 (by kernel_rfl) rfl) ?_
        refine hld13.mono ?_
        rintro e w14 ⟨rfl, hM14, hC14⟩
        refine ⟨_, rfl, ?_⟩
        have hB14 := hB13.trans (hC14.below (by have := hB13.size; have := RowAt.lt HR.out; omega) (fun k hk => by rcases hk with rfl | rfl <;> assumption))
        have hs14 : W.heap.size ≤ w14.heap.size := by have := hB14.size; have := HB.out.size; omega
        dsimp only
        refine gcall 18 #[.tmp 96] #[3] #[.int .i64 (Tk.rd ws3 7)] (enters_of Tryz.func18 (by kernel_rfl) rfl) ?_
        refine (hdc _).mono ?_
        rintro e w15 ⟨rfl, hb15⟩
        refine ⟨_, rfl, ?_⟩
        dsimp only
        refine gl (.tuple #[s.val, .bool true]) ?_
        refine gl s.val ?_
        refine gl (.bool true) ?_
        refine gbox (ob := .cells zero9 30) (Z := zero9) (cs := s.cells) (t := 30) 30 (.tmp 20) (.tmp 98) rfl ?_
        refine gl (.bool true) ?_
        try simp only [Act.put, sA, sZ, sS]
        rw [setRow_new]
        have hB16 : Below W.heap.size W (w15.alloc (.cells s.cells 30)) := ((HB.out.trans (hB14.mono (by omega))).trans (hb15.mono hs14)).alloc (Nat.le_trans hs14 hb15.size) _
        have hs16 : RowAt (w15.alloc (.cells s.cells 30)) w15.heap.size s.cells 30 := heap_alloc_new w15 _
        generalize (w15.alloc (.cells s.cells 30)) = w16 at *
        generalize w15.heap.size = sb at *
        have HB16 := Lib.hid hB16
        clear hsl hdc hb13 hB13 hM14 hC14 hB14 hs14 hb15 hB16 T12 hld13 hL13 hld
        simp only [Bool.and_eq_true, beq_iff_eq] at hE2
        obtain ⟨⟨s3, sg⟩, hE3⟩ := hE2
        have c0 : w16.cell? ⟨sb, 0, none⟩ = some (.int .i64 3) := (RowAt.cell hs16 0).trans (by show some (Value.int .i64 s.state) = _; rw [s3])
        have c6 : w16.cell? ⟨sb, 6, none⟩ = some (.int .i64 1) := (RowAt.cell hs16 6).trans (by show some (Value.int .i64 s.gen) = _; rw [sg])
        have c1 : w16.cell? ⟨sb, 1, none⟩ = some (.int .i64 s.own) := RowAt.cell hs16 1
        by_cases he : a2.answer.1 = 0
        · rw [if_pos he] at hE3
          simp only [Bool.and_eq_true, beq_iff_eq] at hE3
          obtain ⟨q1, q2, q3⟩ := hE3
          rw [he, q1, q2]
          rw [q3] at c1
          clear he q1 q2 q3 s3 sg
          go_wp2_with fail
          go_ret
          exact ⟨rfl, HB16.out⟩
        · rw [if_neg he] at hE3
          simp only [Bool.and_eq_true, beq_iff_eq] at hE3
          obtain ⟨q1, q2, q3, q4⟩ := hE3
          rw [q1, q2, q3]
          rw [q4] at c1
          clear he q1 q2 q3 q4 s3 sg
          go_wp2_with fail
          go_ret
          exact ⟨rfl, HB16.out⟩
end Go.Proofs.YtefpoidnklflnaaGreatDoor.Mod

namespace Go.Proofs.YtefpoidnklflnaaGreatDoor.takeRace
open Go.ChangeShapes Go.WideShapes Go.ChangeAt Go.RowKit
set_option linter.unusedVariables false
set_option linter.unusedSimpArgs false

theorem own : ownKnob Tryz.prog.godebug = none := by kernel_rfl
theorem laidOut : laidOutB Tryz.prog = true := by kernel_rfl

set_option maxRecDepth 100000 in
theorem lifted (os : Os) (started : os.Started) (H : Type) (enc : TypeId × Value → H) :
    ReturnsInHanded {} Tryz.checked os 3 .any (fun w args => (Rows.takeRaceSpec.pre enc Tryz.prog Tryz.f3 [] false w args ∧ laidMetH Tryz.prog Mod.lst w) ∧ sizedMet enc Tryz.prog Tryz.f3 (OpenSpec.ofChange Rows.takeRaceSpec) false w args) (Rows.takeRaceSpec.post enc Tryz.prog Tryz.f3 false true false false) := by
  refine returnsInHanded_of_change_and (C := Tryz.checked) (X := fun w _ => laidMetH Tryz.prog Mod.lst w) (fun _ _ _ hh h => h.of_heap hh) own started (by kernel_rfl) Tryz.func3
    (ChangeSpec.witness_shaped (enc := enc) (C := Tryz.checked) (os := os) (X := fun w _ => laidMetH Tryz.prog Mod.lst w) false (World.doorLaid Tryz.prog 23 os) #[.bool false, .int .u8 0, .slice none 0 0] 8 rfl (World.shaped_of_RefB (by kernel_rfl) (by kernel_rfl)) (by kernel_rfl) (by kernel_rfl) (by kernel_rfl) (Mod.door_met os _)) ?_
  intro W base args ds gs before hval0 hW _ _ hL _
  have hval : ∀ (j : Nat) t v, Tryz.f3.params[j]? = some t → args[j]? = some v → Value.okWide Tryz.prog W .any base t v := hval0
  have hW' := hW
  obtain ⟨p, q, hA0, hV, rfl, hfz, hnd⟩ := hW
  have hA : DataW.TrodAll enc Tryz.prog W 0 (fun _ => true) true Tryz.f3.params.toList args.toList ds p := hA0
  rw [Tryz.params3] at hA hval
  obtain ⟨v0, vs0, d0, ds0, p0, q0, hargs, rfl, rfl, h0, r0⟩ := trodAll_cons hA
  obtain ⟨v1, vs1, d1, ds1, p1, q1, rfl, rfl, rfl, h1, r1⟩ := trodAll_cons r0
  obtain ⟨v2, vs2, d2, ds2, p2, q2, rfl, rfl, rfl, h2, r2⟩ := trodAll_cons r1
  obtain ⟨rfl, rfl, rfl⟩ := trodAll_nil r2
  obtain rfl : args = #[v0, v1, v2] := by cases args; simp_all
  obtain ⟨rfl, rfl⟩ := trodVars_none hV
  obtain ⟨a0, rfl, rfl, rfl⟩ := open_bool Tryz.underlying4 (hval 0 4 v0 rfl rfl) h0
  obtain ⟨a1, rfl, rfl, rfl, w1⟩ := open_int Tryz.underlying5 (hval 1 5 v1 rfl rfl) h1
  have k2 := h2
  have lt2 : ∀ x ∈ p2, x.block < W.heap.size := by obtain ⟨m, hm⟩ := k2; exact DataW.trod_lt m _ _ _ hm
  obtain ⟨a2, len2, cap2, rfl⟩ := okWide_slice Tryz.underlying22 (hval 2 22 v2 rfl rfl)
  obtain ⟨b2, off2, l2, w2⟩ : ∃ b off l, Base.BoolsAt W a2 len2 cap2 b off l := by
    obtain ⟨fuel, hf⟩ := h2
    rcases Go.Deep.open_bools Tryz.underlying22 Tryz.underlying4 (by kernel_rfl) hf with ⟨hcs, _⟩ | ⟨x, l, c, zs, hcs, _, hl, hm, _, hcell⟩
    · simp [Value.cells] at hcs
      obtain ⟨rfl, rfl, rfl⟩ := hcs
      exact ⟨0, 0, [], Base.boolsAt_nil _⟩
    · simp [Value.cells] at hcs
      obtain ⟨rfl, rfl, rfl⟩ := hcs
      obtain ⟨b, off, h⟩ := Base.boolsAt_some hl hm hcell
      exact ⟨b, off, _, h⟩
  have hLd := Mod.of_laid hL
  clear hA0 hval0
  refine (Mod.takeRace_walk W hLd a0 _ (Mod.u8_bd w1) _ _ _ _ _ _ w2).mono fun e W' ⟨he, bel⟩ => ?_
  subst he
  exact ⟨_, rfl, _, _, _, [], _, [], hW', trodAll_mk1 (shut_bool Tryz.underlying4 _), (trodAll_cons_mk (shut_bool Tryz.underlying4 _) (trodAll_cons_mk (shut_int Tryz.underlying5 w1) (trodAll_cons_mk (Below.trod laidOut (by kernel_rfl) (of_decide_eq_true (by kernel_rfl)) k2 bel lt2) trodAll_mk0))), rfl, bel.frame _, fun h => by cases h⟩

theorem over : Rows.takeRaceRow.holds Tryz.pinned (OpenSpec.ofChange Rows.takeRaceSpec) :=
  OpenClaim.holds_of_wide 3 Tryz.f3 rfl rfl rfl rfl rfl rfl rfl ⟨rfl, rfl, rfl, rfl, rfl⟩ rfl rfl rfl rfl rfl (by kernel_rfl) Tryz.func3 (by kernel_rfl)
    (of_decide_eq_true (by kernel_rfl)) (by unfold Func.isWrapper; first | (rw [if_pos (by decide +kernel)]; kernel_rfl) | (rw [if_neg (by decide +kernel)]; exact ⟨rfl, rfl⟩))
    (fun os started H enc _ => lifted os started H enc)

theorem proved : Rows.TakeRaceCardSaid :=
  Claim7.holds_tied_plain_at .later [] [.data] true (true, "9b8bff58fe40348fefb797c643549a366003180c2937cd5f0cb8670f9547f7cb") false
    over (fun _ h => by cases h) (by kernel_rfl) (fun _ h => by cases h) takeRace_row_tie rfl ⟨rfl, rfl⟩ (by kernel_rfl) rfl
    (fun f fn hf hfn => by
      obtain rfl : f = 3 := Option.some.inj ((show Tryz.prog.funcNamed "coachhouse/coachhouselaw17.TakeRace" = some 3 by kernel_rfl).symm.trans hf) |>.symm
      obtain rfl : fn = Tryz.f3 := (Option.some.inj (Tryz.func3.symm.trans hfn)).symm
      exact ⟨by kernel_rfl, fun j t ht => by
        rw [Tryz.params3] at ht
        have hm : t ∈ [4, 5, 22] := by simpa using Array.mem_of_getElem? ht
        have hall : ([4, 5, 22].all fun u => !Tryz.prog.wantsStandIn u) = true := by kernel_rfl
        exact (show Tryz.prog.wantsStandIn t = false by simpa using List.all_eq_true.1 hall t hm)⟩)
    (by kernel_rfl)
#print axioms proved
end Go.Proofs.YtefpoidnklflnaaGreatDoor.takeRace

