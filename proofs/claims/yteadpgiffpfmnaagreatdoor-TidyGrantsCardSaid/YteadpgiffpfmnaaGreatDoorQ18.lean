/- A supplement of the packs. -/
import Derived.Test.YteadpgiffpfmnaaGreatDoorQ1
import Derived.Test.YteadpgiffpfmnaaGreatDoorQ2
import Derived.Test.YteadpgiffpfmnaaGreatDoorQ3
import Derived.Test.YteadpgiffpfmnaaGreatDoorQ4
import Derived.Test.YteadpgiffpfmnaaGreatDoorQ5
import Derived.Test.YteadpgiffpfmnaaGreatDoorQ6
import Derived.Test.YteadpgiffpfmnaaGreatDoorQ7
import Derived.Test.YteadpgiffpfmnaaGreatDoorQ8
import Derived.Test.YteadpgiffpfmnaaGreatDoorQ9
import Derived.Test.YteadpgiffpfmnaaGreatDoorQ10
import Derived.Test.YteadpgiffpfmnaaGreatDoorQ11
import Derived.Test.YteadpgiffpfmnaaGreatDoorQ12
import Derived.Test.YteadpgiffpfmnaaGreatDoorQ13
import Derived.Test.YteadpgiffpfmnaaGreatDoorQ14
import Derived.Test.YteadpgiffpfmnaaGreatDoorQ15
set_option maxRecDepth 100000
set_option maxHeartbeats 16000000
set_option linter.unusedVariables false
set_option linter.unusedSimpArgs false
namespace Go.Proofs.YteadpgiffpfmnaaGreatDoor.RowL
open Go.RowKit Hp
section
variable {P : Program} {ops : Array Oper} {Q : Exit → Act → World → Prop} {md : Region.Mode} {S : World → Prop}
end
section
variable {P : Program} {ops : Array Oper} {Q : Exit → Act → World → Prop} {rest : List Oper} {o : Oper} {a : Act} {w : World}
end
section
variable {P : Program} {fn : Func} {R : Ending → World → Prop} {a : Act} {w : World} {p q : Tmp} {ty t : TypeId} {cs : Array Value} {d : TypeDesc}
end
end Go.Proofs.YteadpgiffpfmnaaGreatDoor.RowL
namespace Go.Proofs.YteadpgiffpfmnaaGreatDoor.Ty
open Go.RowKit Hp Slot RowL Life Tk
section
variable {c : Conf.Cf} {ws : List Int} {t : Ty}
theorem it_succ (n : Nat) (t : Ty) (ws : List Int) : it (n + 1) (t, ws) = it n ((t.step ws).1, (t.step ws).2.1) := rfl
end
end Go.Proofs.YteadpgiffpfmnaaGreatDoor.Ty
namespace Go.Proofs.YteadpgiffpfmnaaGreatDoor.Cl
open Go.RowKit Hp Slot RowL Life
theorem put_take {l : List Int} {k : Nat} {x : Int} (hk : k < l.length) (hx : l[k]? = some x) : (l.take k ++ List.replicate (l.length - k) 0).set k x = l.take (k + 1) ++ List.replicate (l.length - (k + 1)) 0 := by
  have e : l.length - k = (l.length - (k + 1)) + 1 := by omega
  have e1 : (l.take k).length = k := by rw [List.length_take]; omega
  rw [List.set_append_right _ _ (by omega), e1, Nat.sub_self, e, List.replicate_succ, List.set_cons_zero, List.take_add_one, hx]
  simp
theorem laid_any (W : World) (c : Conf.Cf) (hr : c.right = true) (g o cap : Nat) (l : List Int) (hl : l.length = Tk.sc c (Tk.ns c)) (hs : IntsB W g o l) :
    Calls Tryz.prog 11 #[c.val, .slice (some ⟨g, o, none⟩) l.length cap] W fun e W' => ∃ mb wb, e = .returned (.pointer (some ⟨mb, 0, none⟩)) ∧ CAt W' mb wb l l.length ∧ W.heap.size ≤ mb ∧ W.heap.size ≤ wb ∧ Below W.heap.size W W' := by
  have hm := fun w => mem_any w c hr
  rw [← hl] at hm
  have hlen : 1 ≤ l.length ∧ l.length ≤ 4096 := by
    obtain ⟨⟨a0, a1⟩, b0, b1⟩ := right_small hr
    rw [hl]; unfold Tk.sc Tk.ns; omega
  clear hl hr
  obtain ⟨cw, cs, cst, cwa, cu⟩ := c
  simp only [Conf.Cf.val, Conf.Cf.cells, Ae, Value.i] at hm
  have hA : Below W.heap.size W (W.alloc (.cells #[.int .i64 cw, .int .i64 cs, .int .i64 cst, .int .i64 cwa, .int .i64 cu] 30)) := (Below.refl _ _).alloc (Nat.le_refl _) _
  go_enter Tryz.func11, Tryz.ntmps11
  simp only [Conf.Cf.val, Conf.Cf.cells, Ae, Value.i]
  go_wp2_with fail
  refine (hm _).mono ?_
  rintro e w1 ⟨mb, wb, rfl, hM, h1, h2, hb⟩
  have hB := hA.trans (hb.mono hA.size)
  have hs1 := hA.size
  have hmb : W.heap.size ≤ mb := by omega
  have hwb : W.heap.size ≤ wb := by omega
  clear hm hb hA h1 h2 hs1
  have HM := Lib.hid hM
  have HB := Lib.hid hB
  have HS := Lib.hid hs
  have HL := Lib.hid hlen
  clear hM hB hs hlen
  go_wp2_with fail
  go_loopw [7] (fun i wr => ∃ k : Nat, k ≤ l.length ∧ i = .int .i64 k ∧ CAt wr mb wb (l.take k ++ List.replicate (l.length - k) 0) k ∧ Below W.heap.size W wr) (fun i _ => l.length - (intOf i).toNat)
  case atStart => exact ⟨0, by omega, rfl, by simpa using HM.out, HB.out⟩
  case round =>
    obtain ⟨k, hk, rfl, hM, hB⟩ := hrel
    by_cases hlt : k < l.length
    · obtain ⟨x, hx⟩ : ∃ x, l[k]? = some x := ⟨_, List.getElem?_eq_getElem hlt⟩
      have e1 := Field.bkeep hB (HS.out k x hx)
      have hzl : (l.take k ++ List.replicate (l.length - k) 0)[k]? = some (0 : Int) := by
        have e1 : (l.take k).length = k := by rw [List.length_take]; omega
        rw [List.getElem?_append_right (by omega), e1, Nat.sub_self, List.getElem?_replicate]
        simp; omega
      have hst := fun w (h : CAt w mb wb (l.take k ++ List.replicate (l.length - k) 0) (k : Int)) => store_any h ⟨by omega, by have := HL.out.2; omega⟩ k 0 hzl x
      rw [put_take hlt hx] at hst
      have hMd := fun (w : World) (h : Below w1.heap.size w1 w) => hM
      have k0 : (0 : Int) ≤ (k : Int) := by omega
      have k1 : (k : Int) < (l.length : Int) := by omega
      have k2 : (k : Int) ≤ (l.length : Int) - 1 := by omega
      have kb : k ≤ 4096 := by have := HL.out.2; omega
      have HMk := Lib.hid hM
      have HBk := Lib.hid hB
      have Hx := Lib.hid hx
      clear hM hB hx hzl hMd
      go_wp2_with fail
      refine (hst _ (HMk.out.below (Below.refl _ _))).mono ?_
      rintro e w3 ⟨rfl, hM3, hC3⟩
      have hB3 := HBk.out.trans ((hC3.below (B := W.heap.size) HBk.out.size (fun q hq => by rcases hq with rfl | rfl <;> assumption)))
      have HM3 := Lib.hid hM3
      have HB3 := Lib.hid hB3
      clear hst hM3 hC3 hB3
      go_wp2_with fail
      go_roundw
      case rel => exact ⟨k + 1, by omega, by go_num, by simpa using HM3.out, HB3.out⟩
      case measure => simp [intOf]; omega
    · have hke : k = l.length := by omega
      subst hke
      have HMk := Lib.hid hM
      have HBk := Lib.hid hB
      clear hM hB
      go_wp2_with fail
      go_ret
      exact ⟨mb, wb, rfl, by simpa using HMk.out, hmb, hwb, HBk.out⟩
def YAlone (W : World) (mb wb : Nat) (r : Ty.Ty × List Int) (tc : Int) (e : Ending) (W' : World) : Prop :=
  e = .returned (.bool (decide (r.1.st = 17))) ∧ ∃ tc', CAt W' mb wb r.2 tc' ∧ (tc ≤ tc' ∧ tc' ≤ tc + 2000) ∧ Chg (cfp mb wb) W W'
theorem yalone_any {W : World} {mb wb : Nat} {ws : List Int} {tc : Int} (hm : CAt W mb wb ws tc) (hL : Laid W) (h0 : 0 ≠ mb) (hw0 : 0 ≠ wb) (ht : 0 ≤ tc ∧ tc ≤ 1000000000000) (c : Conf.Cf) (w : Nat) (hok : Ty.TyOk (Ty.Ty.new c w) ws.length) (hme : Ty.MemOk c ws) :
    Calls Tryz.prog 12 #[.pointer (some ⟨mb, 0, none⟩), c.val, .int .i64 w] W (YAlone W mb wb (Ty.it 2000 (Ty.Ty.new c w, ws)) tc) := by
  have hnw := fun W => ynew_any W c w
  have hri := yrt_in c w
  have hcf : (Ty.Ty.new c w).cf = c := rfl
  have hlo : (Ty.Ty.new c w).look = none := rfl
  have hrt : (Ty.Ty.new c w).rt = none := rfl
  have hs0 : (Ty.Ty.new c w).st ≠ 17 := by simp [Ty.Ty.new]
  rw [← hcf] at hme
  generalize Ty.Ty.new c w = t0 at *
  generalize hr : Ty.it 2000 (t0, ws) = r at *
  have HR := Lib.hid hr
  have H := Lib.hid (And.intro hm (And.intro hL (And.intro hok (And.intro hme (And.intro hri (And.intro hlo (And.intro hrt hs0)))))))
  clear hr hm hL hok hme hri hlo hrt hs0 hcf
  obtain ⟨cw, cs, cst, cwa, cu⟩ := c
  simp only [Conf.Cf.val, Conf.Cf.cells, Ae, Value.i] at hnw
  go_enter Tryz.func12, Tryz.ntmps12
  simp only [Conf.Cf.val, Conf.Cf.cells, Ae, Value.i]
  go_wp2_with fail
  refine (hnw _).mono ?_
  rintro e w5 ⟨tb, rfl, hrow, htb, hb5⟩
  obtain ⟨hm, hL, hok, hme, hri, hlo, hrt, hs0⟩ := H.out
  have hb := (Below.refl W.heap.size W).alloc (Nat.le_refl _) (.cells #[.int .i64 cw, .int .i64 cs, .int .i64 cst, .int .i64 cwa, .int .i64 cu] 30) |>.trans (hb5.mono (by simp))
  have htb2 : W.heap.size ≤ tb := by simp at htb; omega
  have h5 := TyAt.fresh hm hL h0 hw0 hb htb2 hrow hlo hrt
  have H5 := Lib.hid h5
  have HB := Lib.hid hb
  have HO := Lib.hid (And.intro hok (And.intro hme (And.intro hri hs0)))
  clear hnw hrow htb hb5 hm hL hok hme hri hlo hrt hs0 h5 hb H
  go_wp2_with fail
  go_loopw [8] (fun i wr => ∃ (k : Nat) (t' : Ty.Ty) (ws' : List Int) (lo' ro' : Option Nat) (tc' : Int), k ≤ 2000 ∧ i = .int .i64 k ∧ RowKit.Hid (Ty.it (2000 - k) (t', ws') = r) ∧ RowKit.Hid (TyAt wr tb mb wb lo' ro' t' ws' tc') ∧ RowKit.Hid (Ty.TyOk t' ws'.length ∧ Ty.MemOk t'.cf ws' ∧ Ty.RtIn t' ∧ t'.st ≠ 17) ∧ (tc ≤ tc' ∧ tc' ≤ tc + k) ∧ RowKit.Hid (TR w5 tb mb wb none none wr lo' ro')) (fun i _ => 2000 - (intOf i).toNat)
  case atStart => exact ⟨0, t0, ws, none, none, tc, by omega, rfl, HR.out, H5.out, HO.out, by omega, TR.refl⟩
  case round =>
    obtain ⟨k, t', ws', lo', ro', tc', hk, rfl, hA, hT, hO, hc, hQ⟩ := hrel
    clear HO HR H5
    by_cases hlt : k < 2000
    · obtain ⟨hok, hme, hri, hs⟩ := hO.out
      have hst := ystep_any hT.out hok (MemOk.ymem hme) ⟨by omega, by omega⟩
      have hfew := Ty.step_touch t' ws'
      have hok' := hok.step hme.qok
      have hme' := hme.step hok hri
      have hri' := hri.step (ws := ws') hok.hasr
      have hcf' := Ty.step_cf t' ws'
      have e2 : 2000 - k = (2000 - (k + 1)) + 1 := by omega
      have hA2 := hA.out
      rw [e2, Ty.it_succ] at hA2
      unfold YStepPost at hst
      have k1 : (k : Int) < 2000 := by omega
      by_cases hd : (t'.step ws').1.st = 17
      · rw [Ty.it_done _ hd] at hA2
        rw [decide_eq_true hd] at hst
        have hfin : decide (r.1.st = 17) = true := by rw [← hA2]; exact decide_eq_true hd
        have HFIN := Lib.hid hfin
        clear hfin
        clear hok' hme' hri' hcf' hd hT hO hok hme hri hs e2
        generalize t'.step ws' = q at *
        obtain ⟨t2, ws2, n⟩ := q
        subst hA2
        dsimp only at *
        go_wp2_with fail
        refine hst.mono ?_
        rintro e w3 ⟨rfl, lo3, ro3, h3, r3⟩
        have q3 : TR w5 tb mb wb none none w3 lo3 ro3 := hQ.out.trans r3
        have hch : Chg (cfp mb wb) W w3 := (Chg.ofBelow (F := cfp mb wb) HB.out).trans q3.2.2 (fun x hx e => e.elim (fun e => by rcases e with e | e | e; omega; cases e; cases e) id)
        have H3 := Lib.hid h3
        have Q3 := Lib.hid hch
        clear hst h3 r3 q3 hch
        go_wp2_with fail
        go_ret
        exact ⟨congrArg (fun b => Ending.returned (Value.bool b)) HFIN.out.symm, _, H3.out.mem, ⟨by omega, by omega⟩, Q3.out⟩
      · rw [decide_eq_false hd] at hst
        have hO' : Ty.TyOk (t'.step ws').1 (t'.step ws').2.1.length ∧ Ty.MemOk (t'.step ws').1.cf (t'.step ws').2.1 ∧ Ty.RtIn (t'.step ws').1 ∧ (t'.step ws').1.st ≠ 17 := ⟨by rw [hok'.2]; exact hok'.1, by rw [hcf'.1]; exact hme', hri', hd⟩
        clear hok' hme' hri' hcf' hd hT hO hok hme hri hs e2 hA
        generalize t'.step ws' = q at *
        obtain ⟨t2, ws2, n⟩ := q
        dsimp only at *
        have HA2 := Lib.hid hA2
        have HO' := Lib.hid hO'
        clear hA2 hO'
        go_wp2_with fail
        refine hst.mono ?_
        rintro e w3 ⟨rfl, lo3, ro3, h3, r3⟩
        have q3 : TR w5 tb mb wb none none w3 lo3 ro3 := hQ.out.trans r3
        have H3 := Lib.hid h3
        have Q3 := Lib.hid q3
        clear hst h3 r3 q3
        go_wp2_with fail
        go_roundw
        case rel => exact ⟨k + 1, t2, ws2, lo3, ro3, tc' + n, by omega, by go_num, HA2, H3, HO', by omega, Q3⟩
        case measure => simp [intOf]; omega
    · have hke : k = 2000 := by omega
      subst hke
      have hA2 := hA.out
      simp only [Nat.sub_self, Ty.it] at hA2
      have hfin : decide (r.1.st = 17) = false := by rw [← hA2]; exact decide_eq_false hO.out.2.2.2
      have HFIN := Lib.hid hfin
      have hch : Chg (cfp mb wb) W wr := (Chg.ofBelow (F := cfp mb wb) HB.out).trans hQ.out.2.2 (fun x hx e => e.elim (fun e => by rcases e with e | e | e; omega; cases e; cases e) id)
      have HC := Lib.hid hch
      subst hA2
      clear hO hfin hch hA
      go_wp2_with fail
      go_ret
      exact ⟨congrArg (fun b => Ending.returned (Value.bool b)) HFIN.out.symm, tc', hT.out.mem, ⟨by omega, by omega⟩, HC.out⟩
end Go.Proofs.YteadpgiffpfmnaaGreatDoor.Cl
