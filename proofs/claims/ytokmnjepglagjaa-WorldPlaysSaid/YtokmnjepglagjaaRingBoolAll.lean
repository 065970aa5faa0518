/- Package ring at one element type: All, and its iterator. -/
import Derived.Test.YtokmnjepglagjaaRingBool
import Derived.Test.YtokmnjepglagjaaRange
namespace Go.Proofs.Ytokmnjepglagjaa.RingBool
set_option linter.unusedVariables false
set_option linter.unusedSimpArgs false
open Go.RowKit Go.Shelf Hp Rng
attribute [local go_sem] Oper.semAt_some

theorem At.turn {B : Nat} {w w' : World} {rb : Nat} {v : Value} {l : List El} {room : Int} (h : At w rb v l room) (ht : Turn B w w') : At w' rb v l room :=
  ⟨ht.cell h.c0, ht.cell h.c1, (ht.frozen h.c0).trans h.f0, ht.own h.own, h.sep, h.r0, h.r1, h.fits⟩

set_option maxHeartbeats 400000 in
theorem all_any (w : World) (rb : Nat) : Calls Try.prog 20 #[.pointer (some ⟨rb, 0, none⟩)] w fun e w' =>
    e = .returned (.func (.func 22) #[] #[.pointer (some ⟨w.heap.size, 0, none⟩)]) ∧ w' = w.alloc (.cells #[.pointer (some ⟨rb, 0, none⟩)] 39) := by
  go_enter Try.func20, Try.ntmps20
  go_wp2
  go_ret
  exact ⟨rfl, rfl⟩

def allRd (bx rb : Nat) (v : Value) (k : Nat) : Prop := k = bx ∨ fp rb v k

set_option maxHeartbeats 2000000 in
theorem all_seq (bx rb : Nat) (v : Value) (l : List El) (room : Int) (W : World) (h : At W rb v l room) (hb : W.cell? ⟨bx, 0, none⟩ = some (.pointer (some ⟨rb, 0, none⟩))) :
    SeqAt Try.prog 22 #[.pointer (some ⟨bx, 0, none⟩)] (fun x : El => #[val x]) (fun (_ : Nat) _ => True) (allRd bx rb v) (fun _ => False) (fun _ _ _ => False)
      (fun i _ x i' => l[i]? = some x ∧ i' = i + 1) (fun i _ => i = l.length) 0 W := by
  intro L J Jx _ hJs _ hY h0
  have hdr : ∀ i W, J i W → J i W.drew := fun i W hj => hJs i W _ hj (Chg.refl _ _).drew
  have hlen := h.own.len
  have hown := h.own
  obtain ⟨a, c, rfl⟩ := h.own.form
  have hc0 := h.c0
  refine callsIn_of_wp Try.func22 rfl trivial ?_ rfl
  simp only [Try.ntmps22, List.size_toArray, List.length_cons, List.length_nil, Nat.reduceAdd, Nat.reduceSub, Array.replicate_succ, Array.replicate_zero, List.push_toArray, List.append_toArray, List.nil_append, List.cons_append]
  gi_wp2
  gi_loopw [9] (fun i wr => ∃ k : Nat, k ≤ l.length ∧ i = .int .i64 k ∧ At wr rb (.slice a l.length c) l room ∧ wr.cell? ⟨bx, 0, none⟩ = some (.pointer (some ⟨rb, 0, none⟩)) ∧ J k wr) (fun i _ => l.length - (intOf i).toNat)
  case atStart => exact ⟨0, by omega, rfl, h, hb, h0⟩
  case round =>
    obtain ⟨k, hk, rfl, hat, hbx, hj⟩ := hrel
    have hc0 := hat.c0
    by_cases hlt : k < l.length
    · obtain ⟨g, off, cap, he, h1, h2, h3, h4, h5, h6⟩ := hat.own.some (by omega)
      cases he
      have hx : wr.cell? ⟨g, off + k, none⟩ = some (val l[k]) := h6 k _ (by rw [List.getElem?_map, List.getElem?_eq_getElem hlt]; rfl)
      have hlk : l[k]? = some l[k] := List.getElem?_eq_getElem hlt
      generalize l[k] = x at hx hlk
      obtain ⟨fn, tmps, assign, body, hy, hR⟩ := hY k x (k + 1) wr hj ⟨hlk, rfl⟩
      have Hlk := Lib.hid hlk
      clear hlk h1 h2 h3 h4 h5 h6
      gi_wp2
      refine hR.mono ?_
      rintro e W3 (⟨rfl, hJ3, hs3, hk3⟩ | ⟨rfl, hJx3⟩)
      · have hat3 := hat.stable hs3 fun q hq => hk3 q (.inl (.inr hq))
        have hbx3 : W3.cell? ⟨bx, 0, none⟩ = some (.pointer (some ⟨rb, 0, none⟩)) := (World.cell?_of_block (w := wr) (hk3 bx (.inl (.inl rfl)))).trans hbx
        clear hc0 hx
        gi_wp2
        go_roundw
        case rel => exact ⟨k + 1, by omega, by go_num, hat3, hbx3, hJ3⟩
        case measure => simp [intOf]; omega
      · gi_wp2
        refine bodyPost_ret (results_none rfl _ _ _) rfl ?_
        exact ⟨⟨_, rfl⟩, .inr hJx3⟩
    · gi_wp2
      go_end0
      exact ⟨⟨_, rfl⟩, .inl ⟨k, by omega, hj⟩⟩
end Go.Proofs.Ytokmnjepglagjaa.RingBool
