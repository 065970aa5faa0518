/- Part 26 of the walks and plain laws that the last text joins. -/
import Derived.Test.YtpmkgddjgebojaaGreatDoorE19
set_option maxRecDepth 100000
set_option maxHeartbeats 16000000
set_option linter.unusedVariables false
set_option linter.unusedSimpArgs false
namespace Go.Proofs.YtpmkgddjgebojaaGreatDoor.Mod
open Go.RowKit Hp Slot RowL Life
def cnt (p : S → Bool) (l : List S) (k : Nat) : Int:=M.countL p (l.take k)
theorem cnt_bd (p : S → Bool) (l : List S) (k : Nat) : 0 ≤ cnt p l k ∧ cnt p l k ≤ k:=by
 unfold cnt M.countL
 have h1:=List.length_filter_le p (l.take k)
 have h2 : (l.take k).length ≤ k:=List.length_take_le _ _
 omega
theorem cnt_step (p : S → Bool) {l : List S} {k : Nat} {s : S} (h : l[k]? = some s) : cnt p l (k + 1) = cnt p l k + if p s then 1 else 0:=by
 unfold cnt M.countL
 obtain ⟨hl, h⟩:=List.getElem?_eq_some_iff.1 h
 rw [List.take_succ_eq_append_getElem hl, List.filter_append, h]
 cases hp : p s <;> simp [hp]
theorem cnt_all (p : S → Bool) (l : List S) : cnt p l l.length = M.countL p l:=by unfold cnt; rw [List.take_length]
def isIdle (s : S) : Bool:=s.state == 2
def isLeased (s : S) : Bool:=s.state == 3
def isEmpty (s : S) : Bool:=s.state == 0
def isOther (s : S) : Bool:=s.state != 2 && (s.state != 3 && s.state != 0)
theorem stats_eq (m : M) : m.stats = { Ev.zero with idle:=cnt isIdle m.ss m.ss.length, leased:=cnt isLeased m.ss m.ss.length, empty:=cnt isEmpty m.ss m.ss.length, other:=cnt isOther m.ss m.ss.length }:=by
 simp only [cnt_all]; rfl
theorem m_stats {W : World} {p : Pl} {m : M} (h : MAt W p m) : Calls Tryz.prog 80 #[.pointer (some ⟨p.mb, 0, none⟩)] W fun e W' => e = .returned m.stats.val ∧ Below W.heap.size W W':=by
 have hR:=stats_eq m
 generalize m.stats = R at *
 have HR:=Lib.hid hR
 have hlt : p.mb < W.heap.size:=h.lt (.inl rfl)
 have c5:=h.hd.c5
 have hns:=h.ok.ns
 have H:=Lib.hid h
 clear hR h
 have hB : Below W.heap.size W ((W.alloc (.cells ev0 36)).alloc (.cells #[.i 0, .i 0, .i 0, .i 0] 34)):=((Below.refl _ _).alloc (Nat.le_refl _) _).alloc (by simp) _
 have e0 : ERow ((W.alloc (.cells ev0 36)).alloc (.cells #[.i 0, .i 0, .i 0, .i 0] 34)) W.heap.size:=⟨ev0, rfl, heap_alloc2_old W _ _⟩
 have q0 : RowAt ((W.alloc (.cells ev0 36)).alloc (.cells #[.i 0, .i 0, .i 0, .i 0] 34)) (W.heap.size + 1) #[.i 0, .i 0, .i 0, .i 0] 34:=heap_alloc2_new W _ _
 have E0:=Lib.hid e0
 have Q0:=Lib.hid q0
 have HB:=Lib.hid hB
 clear e0 q0 hB
 go_enter Tryz.func80, Tryz.ntmps80
 go_wp2_with fail
 clear c5
 go_loopw [11] (fun i wr => ∃ k : Nat, k ≤ m.ss.length ∧ i = .i k ∧ Below W.heap.size W wr ∧ ERow wr W.heap.size ∧ RowAt wr (W.heap.size + 1) #[.i (cnt isIdle m.ss k), .i (cnt isLeased m.ss k), .i (cnt isEmpty m.ss k), .i (cnt isOther m.ss k)] 34) (fun i _ => m.ss.length - (intOf i).toNat)
 case atStart => exact ⟨0, by omega, rfl, HB.out, E0.out, Q0.out⟩
 case round =>
  clear E0 Q0 HB
  obtain ⟨k, hk, rfl, hb, e1, q1⟩:=hrel
  have k0 : (0 : Int) ≤ (k : Int):=by omega
  by_cases hlt : k < m.ss.length
  ·obtain ⟨s, hs⟩ : ∃ s, m.ss[k]? = some s:=⟨_, List.getElem?_eq_getElem hlt⟩
   have d:=(H.out.below hb).slots.get hs
   have n1:=cnt_bd isIdle m.ss k
   have n2:=cnt_bd isLeased m.ss k
   have n3:=cnt_bd isEmpty m.ss k
   have n4:=cnt_bd isOther m.ss k
   have S1:=Lib.hid (cnt_step isIdle hs)
   have S2:=Lib.hid (cnt_step isLeased hs)
   have S3:=Lib.hid (cnt_step isEmpty hs)
   have S4:=Lib.hid (cnt_step isOther hs)
   have E1:=Lib.hid e1
   have Q1:=Lib.hid q1
   have HB:=Lib.hid hb
   have c0:=q1.cell 0
   have c1:=q1.cell 1
   have c2:=q1.cell 2
   have c3:=q1.cell 3
   have f0:=q1.frozen 0
   have f1:=q1.frozen 1
   have f2:=q1.frozen 2
   have f3:=q1.frozen 3
   have hlw : W.heap.size + 1 < wr.heap.size:=q1.lt
   simp only [List.getElem?_toArray, List.getElem?_cons_zero, List.getElem?_cons_succ] at c0 c1 c2 c3
   generalize cnt isIdle m.ss k = a1 at *
   generalize cnt isLeased m.ss k = a2 at *
   generalize cnt isEmpty m.ss k = a3 at *
   generalize cnt isOther m.ss k = a4 at *
   obtain ⟨n1, n1'⟩:=n1
   obtain ⟨n2, n2'⟩:=n2
   obtain ⟨n3, n3'⟩:=n3
   obtain ⟨n4, n4'⟩:=n4
   clear hs e1 q1 hb
   obtain ⟨s0, s1, s2, s3, s4, s5, s6, s7, s8⟩:=s
   obtain ⟨d0, d1, d2, d3, d4, d5, d6, d7, d8⟩:=d
   simp only [isIdle, isLeased, isEmpty, isOther] at S1 S2 S3 S4
   by_cases x2 : s0 = 2
   ·subst x2
    have hr : RowAt ((wr.setCell ⟨W.heap.size + 1, 0, none⟩ (.i (a1 + 1))).alloc (.cells (Ac 2 s1 s2 s3 s4 s5 s6 s7 s8) 59)) (W.heap.size + 1) #[.i (cnt isIdle m.ss (k + 1)), .i (cnt isLeased m.ss (k + 1)), .i (cnt isEmpty m.ss (k + 1)), .i (cnt isOther m.ss (k + 1))] 34:=by
     rw [S1.out, S2.out, S3.out, S4.out]
     have:=(Q1.out.setc 0 (.i (a1 + 1))).alloc (.cells (Ac 2 s1 s2 s3 s4 s5 s6 s7 s8) 59)
     simpa [] using this
    have HRr:=Lib.hid hr
    clear hr
    go_wp2_with fail
    go_roundw
    case rel => exact ⟨k + 1, by omega, by go_num, (HB.out.setCell (by simp) _).alloc (by simpa using HB.out.size) _, E1.out.chg (F:=fun k => k = W.heap.size + 1) (((Chg.refl (fun k => k = W.heap.size + 1) wr).setCell _ _ (fun _ => rfl)).alloc _) (by omega), HRr.out⟩
    case measure => simp [intOf]; omega
   ·have z2 : (s0 == 2) = false:=by simp [x2]
    have z2' : (s0 != 2) = true:=by simp [x2]
    by_cases x3 : s0 = 3
    ·subst x3
     have hr : RowAt ((wr.setCell ⟨W.heap.size + 1, 1, none⟩ (.i (a2 + 1))).alloc (.cells (Ac 3 s1 s2 s3 s4 s5 s6 s7 s8) 59)) (W.heap.size + 1) #[.i (cnt isIdle m.ss (k + 1)), .i (cnt isLeased m.ss (k + 1)), .i (cnt isEmpty m.ss (k + 1)), .i (cnt isOther m.ss (k + 1))] 34:=by
      rw [S1.out, S2.out, S3.out, S4.out]
      have:=(Q1.out.setc 1 (.i (a2 + 1))).alloc (.cells (Ac 3 s1 s2 s3 s4 s5 s6 s7 s8) 59)
      simpa [] using this
     have HRr:=Lib.hid hr
     clear hr
     go_wp2_with fail
     go_roundw
     case rel => exact ⟨k + 1, by omega, by go_num, (HB.out.setCell (by simp) _).alloc (by simpa using HB.out.size) _, E1.out.chg (F:=fun k => k = W.heap.size + 1) (((Chg.refl (fun k => k = W.heap.size + 1) wr).setCell _ _ (fun _ => rfl)).alloc _) (by omega), HRr.out⟩
     case measure => simp [intOf]; omega
    ·have z3 : (s0 == 3) = false:=by simp [x3]
     have z3' : (s0 != 3) = true:=by simp [x3]
     by_cases x0 : s0 = 0
     ·subst x0
      have hr : RowAt ((wr.setCell ⟨W.heap.size + 1, 2, none⟩ (.i (a3 + 1))).alloc (.cells (Ac 0 s1 s2 s3 s4 s5 s6 s7 s8) 59)) (W.heap.size + 1) #[.i (cnt isIdle m.ss (k + 1)), .i (cnt isLeased m.ss (k + 1)), .i (cnt isEmpty m.ss (k + 1)), .i (cnt isOther m.ss (k + 1))] 34:=by
       rw [S1.out, S2.out, S3.out, S4.out]
       have:=(Q1.out.setc 2 (.i (a3 + 1))).alloc (.cells (Ac 0 s1 s2 s3 s4 s5 s6 s7 s8) 59)
       simpa [] using this
      have HRr:=Lib.hid hr
      clear hr
      go_wp2_with fail
      go_roundw
      case rel => exact ⟨k + 1, by omega, by go_num, (HB.out.setCell (by simp) _).alloc (by simpa using HB.out.size) _, E1.out.chg (F:=fun k => k = W.heap.size + 1) (((Chg.refl (fun k => k = W.heap.size + 1) wr).setCell _ _ (fun _ => rfl)).alloc _) (by omega), HRr.out⟩
      case measure => simp [intOf]; omega
     ·have z0 : (s0 == 0) = false:=by simp [x0]
      have z0' : (s0 != 0) = true:=by simp [x0]
      have hr : RowAt ((wr.setCell ⟨W.heap.size + 1, 3, none⟩ (.i (a4 + 1))).alloc (.cells (Ac s0 s1 s2 s3 s4 s5 s6 s7 s8) 59)) (W.heap.size + 1) #[.i (cnt isIdle m.ss (k + 1)), .i (cnt isLeased m.ss (k + 1)), .i (cnt isEmpty m.ss (k + 1)), .i (cnt isOther m.ss (k + 1))] 34:=by
       rw [S1.out, S2.out, S3.out, S4.out]
       have:=(Q1.out.setc 3 (.i (a4 + 1))).alloc (.cells (Ac s0 s1 s2 s3 s4 s5 s6 s7 s8) 59)
       simpa [x0, x2, x3] using this
      have HRr:=Lib.hid hr
      clear hr
      go_wp2_with fail
      go_roundw
      case rel => exact ⟨k + 1, by omega, by go_num, (HB.out.setCell (by simp) _).alloc (by simpa using HB.out.size) _, E1.out.chg (F:=fun k => k = W.heap.size + 1) (((Chg.refl (fun k => k = W.heap.size + 1) wr).setCell _ _ (fun _ => rfl)).alloc _) (by omega), HRr.out⟩
      case measure => simp [intOf]; omega
  ·have hkk : k = m.ss.length:=by omega
   have HR2 : RowKit.Hid (R = { Ev.zero with idle:=cnt isIdle m.ss k, leased:=cnt isLeased m.ss k, empty:=cnt isEmpty m.ss k, other:=cnt isOther m.ss k }):=Lib.hid (by rw [hkk]; exact HR.out)
   have c0:=q1.cell 0
   have c1:=q1.cell 1
   have c2:=q1.cell 2
   have c3:=q1.cell 3
   simp only [List.getElem?_toArray, List.getElem?_cons_zero, List.getElem?_cons_succ] at c0 c1 c2 c3
   generalize cnt isIdle m.ss k = a1 at *
   generalize cnt isLeased m.ss k = a2 at *
   generalize cnt isEmpty m.ss k = a3 at *
   generalize cnt isOther m.ss k = a4 at *
   have HB:=Lib.hid hb
   clear hkk HR hb q1
   go_upto_region 14 with (fail)
   obtain ⟨Z, z1, z2⟩:=e1
   refine wp_region_lit ?_
   refine RowL.gl (.agg #[.i a1, .i a2, .i a3, .i a4]) ?_ (by go_simp; try rfl)
   refine RowL.gl ({ Ev.zero with idle:=a1, leased:=a2, empty:=a3, other:=a4 } : Ev).val ?_ (by go_simp; try rfl)
   refine RowL.gSt z2 ({ Ev.zero with idle:=a1, leased:=a2, empty:=a3, other:=a4 } : Ev).cells 36 (.tmp 2) (.tmp 41) ?_ (hsz:=z1) (h1:=ev_one _)
   go_wp2_with fail
   refine bR1 W.heap.size (z2.set _) Tryz.underlying36 ?_
   exact ⟨by rw [HR2.out], HB.out.trans ((chg_setRow (F:=fun k => k = W.heap.size) (Chg.refl _ _) _ _ (fun _ => rfl)).below HB.out.size (fun k e => by omega))⟩
end Go.Proofs.YtpmkgddjgebojaaGreatDoor.Mod
