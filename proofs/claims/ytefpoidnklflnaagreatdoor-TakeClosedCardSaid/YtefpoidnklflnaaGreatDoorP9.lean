/- Part 9 of the walks and plain laws that the last text joins. -/
import Derived.Test.YtefpoidnklflnaaGreatDoorP8
set_option maxRecDepth 100000
set_option maxHeartbeats 16000000
set_option linter.unusedVariables false
set_option linter.unusedSimpArgs false
namespace Go.Proofs.YtefpoidnklflnaaGreatDoor.Cl
open Go.RowKit Hp Slot RowL Life
def BytesIn (W : World) (a : Option Addr) (l : List Int) : Prop:=∀ (k : Nat) x, l[k]? = some x → (0 ≤ x ∧ x < 256) ∧ ∃ g o, a = some ⟨g, o, none⟩ ∧ W.cell? ⟨g, o + k, none⟩ = some (.int .u8 x)
def SlotsIn (W : World) (a : Option Addr) (l : List S) : Prop:=∀ (k : Nat) s, l[k]? = some s → ∃ g o, a = some ⟨g, o, none⟩ ∧ ∀ j v, s.cells[j]? = some v → W.cell? ⟨g, o + k * 9 + j, none⟩ = some v
theorem BytesIn.below {W W' : World} {a : Option Addr} {l : List Int} (h : BytesIn W a l) (hb : Below W.heap.size W W') : BytesIn W' a l:=by
 intro k x hx
 obtain ⟨h1, g, o, h2, h3⟩:=h k x hx
 exact ⟨h1, g, o, h2, Field.bkeep hb h3⟩
theorem SlotsIn.below {W W' : World} {a : Option Addr} {l : List S} (h : SlotsIn W a l) (hb : Below W.heap.size W W') : SlotsIn W' a l:=by
 intro k s hs
 obtain ⟨g, o, h2, h3⟩:=h k s hs
 exact ⟨g, o, h2, fun j v hv => Field.bkeep hb (h3 j v hv)⟩
structure Gv where
 b0 : Int
 b1 : Int
 b2 : Int
 b3 : Int
 b4 : Int
 sa : Option Addr
 sc : Nat
 ss : List S
 fa : Option Addr
 fc : Nat
 fs : List Int
 pa : Option Addr
 pc : Nat
 ps : List Int
def Gv.cells (g : Gv) : Array Value:=#[.int .u8 g.b0, .int .u8 g.b1, .int .u8 g.b2, .int .u8 g.b3, .int .u8 g.b4, .slice g.sa g.ss.length g.sc, .slice g.fa g.fs.length g.fc, .slice g.pa g.ps.length g.pc]
abbrev Gv.val (g : Gv) : Value:=.agg g.cells
structure GvAt (W : World) (g : Gv) : Prop where
 b0 : 0 ≤ g.b0 ∧ g.b0 < 256
 b1 : 0 ≤ g.b1 ∧ g.b1 < 256
 b2 : 0 ≤ g.b2 ∧ g.b2 < 256
 b3 : 0 ≤ g.b3 ∧ g.b3 < 256
 b4 : 0 ≤ g.b4 ∧ g.b4 < 256
 ss : SlotsIn W g.sa g.ss
 fs : BytesIn W g.fa g.fs
 ps : BytesIn W g.pa g.ps
theorem GvAt.below {W W' : World} {g : Gv} (h : GvAt W g) (hb : Below W.heap.size W W') : GvAt W' g:=⟨h.b0, h.b1, h.b2, h.b3, h.b4, h.ss.below hb, h.fs.below hb, h.ps.below hb⟩
structure PreOk (c : Conf.Cf) (pre : List Int) : Prop where
 len : pre.length = 3 + 2 * c.workers.toNat
 closed : 0 ≤ pre.getD 0 0 ∧ pre.getD 0 0 ≤ 2
 line : pre.getD 1 0 = 0
 ep : 0 ≤ pre.getD 2 0 ∧ pre.getD 2 0 ≤ 255
 pin : ∀ j, 3 ≤ j → 0 ≤ pre.getD j 0 ∧ pre.getD j 0 ≤ 255
 gr : ∀ j, 3 + c.workers.toNat ≤ j → pre.getD j 0 = 0
theorem getD_rep (n j : Nat) : (List.replicate n (0 : Int)).getD j 0 = 0:=by
 rw [List.getD_eq_getElem?_getD, List.getElem?_replicate]
 split <;> rfl
theorem PreOk.zero (c : Conf.Cf) : PreOk c (List.replicate (3 + 2 * c.workers.toNat) 0):=by
 refine ⟨by simp, ?_, ?_, ?_, ?_, ?_⟩
 ·rw [getD_rep]; omega
 ·rw [getD_rep]
 ·rw [getD_rep]; omega
 ·intro j _; rw [getD_rep]; omega
 ·intro j _; rw [getD_rep]
end Go.Proofs.YtefpoidnklflnaaGreatDoor.Cl
