/- Part 11 of the walks and plain laws that the last text joins. -/
import Derived.Test.YtefpoidnklflnaaGreatDoorP10
import Derived.Great.BuildSlice
import Derived.Deep.Slices
import Derived.Deep.Fields
import Derived.ChangeSame
import Derived.Lib.SmallJoins
set_option maxRecDepth 100000
set_option maxHeartbeats 16000000
set_option linter.unusedVariables false
set_option linter.unusedSimpArgs false
namespace Go.Proofs.YtefpoidnklflnaaGreatDoor.Cl
open Go.RowKit Hp RowL Conf Tk
def rfun (rb : Nat) : Nat → Value
 | 0 => .func (.func 110) #[.pointer (some ⟨rb, 0, none⟩)] #[]
 | 1 => .func (.func 124) #[.pointer (some ⟨rb, 0, none⟩)] #[]
 | 2 => .func (.func 151) #[.pointer (some ⟨rb, 0, none⟩)] #[]
 | 3 => .func (.func 167) #[.pointer (some ⟨rb, 0, none⟩)] #[]
 | _ => .func (.func 123) #[.pointer (some ⟨rb, 0, none⟩)] #[]
def rcells (rb : Nat) (r : Rt) : Array Value:=#[.i r.cell, .i r.word, .i r.epoch, rfun rb r.st, .bool r.swapped, .bool r.done]
def RtAt (W : World) (rb : Nat) (r : Rt) : Prop:=RowAt W rb (rcells rb r) 143
section
variable {W : World} {rb : Nat} {r : Rt}
theorem RtAt.lt (h : RtAt W rb r) : rb < W.heap.size:=RowAt.lt h
theorem RtAt.below {W' : World} (h : RtAt W rb r) (hb : Below W.heap.size W W') : RtAt W' rb r:=(hb.block _ h.lt).trans h
theorem RtAt.chg {W' : World} {F : Nat → Prop} (h : RtAt W rb r) (hc : Chg F W W') (hF : ¬ F rb) : RtAt W' rb r:=(hc.block _ h.lt hF).trans h
theorem RtAt.cell (h : RtAt W rb r) (i : Nat) : W.cell? ⟨rb, i, none⟩ = (rcells rb r)[i]?:=RowAt.cell h i
theorem RtAt.frozen (h : RtAt W rb r) (i : Nat) : W.frozen? ⟨rb, i, none⟩ = false:=RowAt.frozen h i
theorem RtAt.setWord (h : RtAt W rb r) (x : Int) : RtAt (W.setCell ⟨rb, 1, none⟩ (.i x)) rb { r with word:=x }:=RowAt.setc h 1 _
theorem RtAt.setEpoch (h : RtAt W rb r) (x : Int) : RtAt (W.setCell ⟨rb, 2, none⟩ (.i x)) rb { r with epoch:=x }:=RowAt.setc h 2 _
theorem RtAt.setSt (h : RtAt W rb r) (k : Nat) : RtAt (W.setCell ⟨rb, 3, none⟩ (rfun rb k)) rb { r with st:=k }:=RowAt.setc h 3 _
theorem RtAt.setSwapped (h : RtAt W rb r) (b : Bool) : RtAt (W.setCell ⟨rb, 4, none⟩ (.bool b)) rb { r with swapped:=b }:=RowAt.setc h 4 _
theorem RtAt.setDone (h : RtAt W rb r) (b : Bool) : RtAt (W.setCell ⟨rb, 5, none⟩ (.bool b)) rb { r with done:=b }:=RowAt.setc h 5 _
end
theorem rdone_any {W : World} {rb : Nat} {r : Rt} (h : RtAt W rb r) : Calls Tryz.prog 98 #[.pointer (some ⟨rb, 0, none⟩)] W fun e w' => e = .returned (.tuple #[.bool r.swapped, .bool r.done]) ∧ Below W.heap.size W w':=by
 have c4 : W.cell? ⟨rb, 4, none⟩ = some (.bool r.swapped):=h.cell 4
 have c5 : W.cell? ⟨rb, 5, none⟩ = some (.bool r.done):=h.cell 5
 clear h
 go_enter Tryz.func98, Tryz.ntmps98
 go_wp2_with fail
 go_region
 go_wp2_with fail
 go_ret2
 exact ⟨rfl, (Below.refl _ _).drew⟩
theorem rend_any {W : World} {rb mb : Nat} {r : Rt} (h : RtAt W rb r) : Calls Tryz.prog 123 #[.pointer (some ⟨rb, 0, none⟩), .pointer (some ⟨mb, 0, none⟩)] W fun e w' => e = .returned (.bool true) ∧ RtAt w' rb r.end' ∧ Chg (fun k => k = rb) W w':=by
 have c3 : W.cell? ⟨rb, 3, none⟩ = some (rfun rb r.st):=h.cell 3
 have c5 : W.cell? ⟨rb, 5, none⟩ = some (.bool r.done):=h.cell 5
 have f3:=h.frozen 3
 have f5:=h.frozen 5
 have H:=Lib.hid h
 clear h
 go_enter Tryz.func123, Tryz.ntmps123
 go_wp2_with fail
 go_ret
 have h1 : Chg (fun k => k = rb) W (W.setCell ⟨rb, 5, none⟩ (.bool true)):=(Chg.refl _ _).setCell _ _ (fun _ => rfl)
 exact ⟨rfl, (H.out.setDone true).setSt 4, h1.setCell ⟨rb, 3, none⟩ _ (fun _ => rfl)⟩
theorem rnew_any (w : World) (c : Cf) (i : Nat) (word : Int) (hc : Small c) (hi : i < ns c) : Calls Tryz.prog 96 #[c.val, .i i, .i word] w fun e w' => ∃ rb, e = .returned (.pointer (some ⟨rb, 0, none⟩)) ∧ RtAt w' rb (Rt.new (sc c i) word) ∧ w.heap.size ≤ rb ∧ Below w.heap.size w w':=by
 have hsl:=fun W => slot_any W c i hc.w ⟨by have:=hc.s; unfold ns at hi; omega, hc.s.2⟩
 have hsc : (3 + 2 * c.workers + (i : Int)) = ((sc c i : Nat) : Int):=by have:=hc.w; unfold sc; omega
 simp only [hsc, Cf.val, Cf.cells] at hsl
 go_enter Tryz.func96, Tryz.ntmps96
 simp only [Cf.val, Cf.cells]
 go_wp2_with fail
 refine (hsl _).mono ?_
 rintro e w5 ⟨rfl, hb5⟩
 have hB : Below w.heap.size w w5:=((Below.refl _ _).alloc (Nat.le_refl _) _).trans (hb5.mono (by simp))
 clear hsl hb5
 go_wp2_with fail
 go_ret
 refine ⟨w5.heap.size, rfl, ?_, hB.size, ?_⟩
 ·exact RowAt.new w5 _ _
 ·exact hB.trans (((Below.refl _ _).alloc (Nat.le_refl _) _).mono hB.size)
def RPost (W : World) (rb mb wb : Nat) (tc : Int) (r : Bool × Rt × List Int × Nat) (e : Ending) (W' : World) : Prop :=
 e = .returned (.bool r.1) ∧ RtAt W' rb r.2.1 ∧ CAt W' mb wb r.2.2.1 (tc + r.2.2.2) ∧ Chg (fun k => k = rb ∨ cfp mb wb k) W W'
theorem CAt.far {W : World} {mb wb : Nat} {ws : List Int} {tc : Int} (h : CAt W mb wb ws tc) (g o : Nat) (v : Value) (h1 : mb ≠ g) (h2 : wb ≠ g) : CAt (W.setCell ⟨g, o, none⟩ v) mb wb ws tc :=
 h.stable (heap_setCell_other W ⟨g, o, none⟩ mb v h1) (heap_setCell_other W ⟨g, o, none⟩ wb v h2)
theorem rlook_any {W : World} {rb mb wb : Nat} {r : Rt} {ws : List Int} {tc : Int} (h : RtAt W rb r) (hm : CAt W mb wb ws tc) (ha : Apart rb mb wb) (ht : 0 ≤ tc ∧ tc ≤ 4000000000000000000) (hl : 3 ≤ ws.length) (hst : r.st = 1) :
  Calls Tryz.prog 124 #[.pointer (some ⟨rb, 0, none⟩), .pointer (some ⟨mb, 0, none⟩)] W (RPost W rb mb wb tc (r.step ws)):=by
 have hx : ws[2]? = some (rd ws 2):=by unfold rd; rw [List.getD_eq_getElem?_getD, List.getElem?_eq_getElem (by omega)]; rfl
 have hs : r.step ws = (false, { r with epoch:=rd ws 2, st:=2 }, ws, 1):=by unfold Rt.step; rw [hst]; rfl
 rw [hs]
 have hld : Calls Tryz.prog 19 #[.pointer (some ⟨mb, 0, none⟩), .i 2] W _:=load_any hm ht 2 _ hx
 have c2 : W.cell? ⟨rb, 2, none⟩ = some (.i r.epoch):=h.cell 2
 have c3 : W.cell? ⟨rb, 3, none⟩ = some (rfun rb r.st):=h.cell 3
 have f2:=h.frozen 2
 have f3:=h.frozen 3
 have H:=Lib.hid h
 clear h hm hs hx
 go_enter Tryz.func124, Tryz.ntmps124
 go_wp2_with fail
 refine hld.mono ?_
 rintro e w5 ⟨rfl, hm5, hc5⟩
 have hn : ¬ cfp mb wb rb:=fun e => e.elim ha.m ha.w
 have hr5:=H.out.chg hc5 hn
 have d2 : w5.cell? ⟨rb, 2, none⟩ = some (.i r.epoch):=hr5.cell 2
 have d3 : w5.cell? ⟨rb, 3, none⟩ = some (rfun rb r.st):=hr5.cell 3
 have g2:=hr5.frozen 2
 have g3:=hr5.frozen 3
 have R5:=Lib.hid hr5
 have M5:=Lib.hid hm5
 have C5:=Lib.hid hc5
 clear hld hr5 hm5 hc5 c2 c3 f2 f3
 go_wp2_with fail
 go_ret
 have h1 : Chg (fun k => k = rb ∨ cfp mb wb k) W (w5.setCell ⟨rb, 2, none⟩ (.i (rd ws 2))):=(C5.out.mono (fun _ _ h => .inr h)).setCell _ _ (fun _ => .inl rfl)
 exact ⟨rfl, (R5.out.setEpoch _).setSt 2, (M5.out.far rb 2 _ (fun e => ha.m e.symm) (fun e => ha.w e.symm)).far rb 3 _ (fun e => ha.m e.symm) (fun e => ha.w e.symm), h1.setCell ⟨rb, 3, none⟩ _ (fun _ => .inl rfl)⟩
theorem rgoon_any {W : World} {rb mb wb : Nat} {r : Rt} {ws : List Int} {tc : Int} (h : RtAt W rb r) (hm : CAt W mb wb ws tc) (ha : Apart rb mb wb) (ht : 0 ≤ tc ∧ tc ≤ 4000000000000000000) (hl : 3 ≤ ws.length) (hst : r.st = 3) :
  Calls Tryz.prog 167 #[.pointer (some ⟨rb, 0, none⟩), .pointer (some ⟨mb, 0, none⟩)] W (RPost W rb mb wb tc (r.step ws)):=by
 have hx : ws[2]? = some (rd ws 2):=by unfold rd; rw [List.getD_eq_getElem?_getD, List.getElem?_eq_getElem (by omega)]; rfl
 have hs : r.step ws = (true, r.end', ws.set 2 (wrap64 (rd ws 2 + 1)), 1):=by unfold Rt.step; rw [hst]; rfl
 rw [hs]
 have hld : Calls Tryz.prog 169 #[.pointer (some ⟨mb, 0, none⟩), .i 2, .i 1] W _:=add_any hm ht 2 _ hx 1
 have H:=Lib.hid h
 clear h hm hs hx
 go_enter Tryz.func167, Tryz.ntmps167
 go_wp2_with fail
 refine hld.mono ?_
 rintro e w5 ⟨rfl, hm5, hc5⟩
 have hn : ¬ cfp mb wb rb:=fun e => e.elim ha.m ha.w
 have hr5:=H.out.chg hc5 hn
 have hen:=rend_any (mb:=mb) hr5
 have M5:=Lib.hid hm5
 have C5:=Lib.hid hc5
 clear hld hr5 hm5 hc5
 go_wp2_with fail
 refine hen.mono ?_
 rintro e w6 ⟨rfl, hr6, hc6⟩
 have hP : RPost W rb mb wb tc (true, r.end', ws.set 2 (wrap64 (rd ws 2 + 1)), 1) (.returned (.bool true)) w6 :=
  ⟨rfl, hr6, M5.out.chg hc6 (fun e => ha.m e.symm) (fun e => ha.w e.symm), (C5.out.mono (fun _ _ h => .inr h)).trans hc6 (fun _ _ h => .inl h)⟩
 have HP:=Lib.hid hP
 clear hP hen hr6 hc6
 go_wp2_with fail
 go_ret
 exact HP.out
theorem rstep_swap {W : World} {rb mb wb : Nat} {r : Rt} {tc : Int} {q : Bool × Rt × List Int × Nat} (h : RtAt W rb r) (hst : r.st = 0)
  (hc : Calls Tryz.prog 110 #[.pointer (some ⟨rb, 0, none⟩), .pointer (some ⟨mb, 0, none⟩)] W (RPost W rb mb wb tc q)) :
  Calls Tryz.prog 97 #[.pointer (some ⟨rb, 0, none⟩), .pointer (some ⟨mb, 0, none⟩)] W (RPost W rb mb wb tc q):=by
 have c3 : W.cell? ⟨rb, 3, none⟩ = some (.func (.func 110) #[.pointer (some ⟨rb, 0, none⟩)] #[]):=by
  have c:=h.cell 3
  unfold rcells at c
  rw [hst] at c
  exact c
 clear h
 go_enter Tryz.func97, Tryz.ntmps97
 go_wp2_with fail
 refine hc.mono ?_
 rintro e w5 ⟨rfl, h2⟩
 have H2:=Lib.hid h2
 clear hc h2
 go_wp2_with fail
 go_ret
 exact ⟨rfl, H2.out⟩
theorem rstep_look {W : World} {rb mb wb : Nat} {r : Rt} {tc : Int} {q : Bool × Rt × List Int × Nat} (h : RtAt W rb r) (hst : r.st = 1)
  (hc : Calls Tryz.prog 124 #[.pointer (some ⟨rb, 0, none⟩), .pointer (some ⟨mb, 0, none⟩)] W (RPost W rb mb wb tc q)) :
  Calls Tryz.prog 97 #[.pointer (some ⟨rb, 0, none⟩), .pointer (some ⟨mb, 0, none⟩)] W (RPost W rb mb wb tc q):=by
 have c3 : W.cell? ⟨rb, 3, none⟩ = some (.func (.func 124) #[.pointer (some ⟨rb, 0, none⟩)] #[]):=by
  have c:=h.cell 3
  unfold rcells at c
  rw [hst] at c
  exact c
 clear h
 go_enter Tryz.func97, Tryz.ntmps97
 go_wp2_with fail
 refine hc.mono ?_
 rintro e w5 ⟨rfl, h2⟩
 have H2:=Lib.hid h2
 clear hc h2
 go_wp2_with fail
 go_ret
 exact ⟨rfl, H2.out⟩
theorem rstep_age {W : World} {rb mb wb : Nat} {r : Rt} {tc : Int} {q : Bool × Rt × List Int × Nat} (h : RtAt W rb r) (hst : r.st = 2)
  (hc : Calls Tryz.prog 151 #[.pointer (some ⟨rb, 0, none⟩), .pointer (some ⟨mb, 0, none⟩)] W (RPost W rb mb wb tc q)) :
  Calls Tryz.prog 97 #[.pointer (some ⟨rb, 0, none⟩), .pointer (some ⟨mb, 0, none⟩)] W (RPost W rb mb wb tc q):=by
 have c3 : W.cell? ⟨rb, 3, none⟩ = some (.func (.func 151) #[.pointer (some ⟨rb, 0, none⟩)] #[]):=by
  have c:=h.cell 3
  unfold rcells at c
  rw [hst] at c
  exact c
 clear h
 go_enter Tryz.func97, Tryz.ntmps97
 go_wp2_with fail
 refine hc.mono ?_
 rintro e w5 ⟨rfl, h2⟩
 have H2:=Lib.hid h2
 clear hc h2
 go_wp2_with fail
 go_ret
 exact ⟨rfl, H2.out⟩
theorem rstep_goOn {W : World} {rb mb wb : Nat} {r : Rt} {tc : Int} {q : Bool × Rt × List Int × Nat} (h : RtAt W rb r) (hst : r.st = 3)
  (hc : Calls Tryz.prog 167 #[.pointer (some ⟨rb, 0, none⟩), .pointer (some ⟨mb, 0, none⟩)] W (RPost W rb mb wb tc q)) :
  Calls Tryz.prog 97 #[.pointer (some ⟨rb, 0, none⟩), .pointer (some ⟨mb, 0, none⟩)] W (RPost W rb mb wb tc q):=by
 have c3 : W.cell? ⟨rb, 3, none⟩ = some (.func (.func 167) #[.pointer (some ⟨rb, 0, none⟩)] #[]):=by
  have c:=h.cell 3
  unfold rcells at c
  rw [hst] at c
  exact c
 clear h
 go_enter Tryz.func97, Tryz.ntmps97
 go_wp2_with fail
 refine hc.mono ?_
 rintro e w5 ⟨rfl, h2⟩
 have H2:=Lib.hid h2
 clear hc h2
 go_wp2_with fail
 go_ret
 exact ⟨rfl, H2.out⟩
theorem rstep_end {W : World} {rb mb wb : Nat} {r : Rt} {tc : Int} {q : Bool × Rt × List Int × Nat} (h : RtAt W rb r) (hst : r.st = 4)
  (hc : Calls Tryz.prog 123 #[.pointer (some ⟨rb, 0, none⟩), .pointer (some ⟨mb, 0, none⟩)] W (RPost W rb mb wb tc q)) :
  Calls Tryz.prog 97 #[.pointer (some ⟨rb, 0, none⟩), .pointer (some ⟨mb, 0, none⟩)] W (RPost W rb mb wb tc q):=by
 have c3 : W.cell? ⟨rb, 3, none⟩ = some (.func (.func 123) #[.pointer (some ⟨rb, 0, none⟩)] #[]):=by
  have c:=h.cell 3
  unfold rcells at c
  rw [hst] at c
  exact c
 clear h
 go_enter Tryz.func97, Tryz.ntmps97
 go_wp2_with fail
 refine hc.mono ?_
 rintro e w5 ⟨rfl, h2⟩
 have H2:=Lib.hid h2
 clear hc h2
 go_wp2_with fail
 go_ret
 exact ⟨rfl, H2.out⟩
def ptrOf : Option Nat → Value
 | some b => .pointer (some ⟨b, 0, none⟩)
 | none => .pointer none
def tcells (t : Tk) (lo ro : Option Nat) : Array Value:=#[.i t.cf.workers, .i t.cf.slots, .i t.cf.streams, .i t.cf.waiters, .i t.cf.uses, .i t.w, .i t.st, ptrOf lo, .i t.i, .i t.word, .i t.gen, .bool t.passes, ptrOf ro, .i t.e]
def TRow (W : World) (tb : Nat) (t : Tk) (lo ro : Option Nat) : Prop:=RowAt W tb (tcells t lo ro) 85
def tfp (tb : Nat) (lo ro : Option Nat) (k : Nat) : Prop:=k = tb ∨ lo = some k ∨ ro = some k
structure TkAt (W : World) (tb mb wb : Nat) (lo ro : Option Nat) (t : Tk) (ws : List Int) (tc : Int) : Prop where
 row : TRow W tb t lo ro
 look : ∀ f, t.look = some f → ∃ fb, lo = some fb ∧ FdAt W fb t.cf f
 ret : ∀ r, t.rt = some r → ∃ rb, ro = some rb ∧ RtAt W rb r
 la : ∀ b, lo = some b → Apart b mb wb ∧ b ≠ tb ∧ b < W.heap.size
 ra : ∀ b, ro = some b → Apart b mb wb ∧ b ≠ tb ∧ b < W.heap.size
 lr : ∀ a b, lo = some a → ro = some b → a ≠ b
 mem : CAt W mb wb ws tc
 ap : Apart tb mb wb
 laid : Slot.Laid W
def Grow (W : World) (lo lo' : Option Nat) : Prop:=lo' = lo ∨ ∃ b, lo' = some b ∧ W.heap.size ≤ b
def TPost (W : World) (tb mb wb : Nat) (lo ro : Option Nat) (v : Value) (t : Tk) (ws : List Int) (tc : Int) (e : Ending) (W' : World) : Prop :=
 e = .returned v ∧ ∃ lo' ro', TkAt W' tb mb wb lo' ro' t ws tc ∧ Grow W lo lo' ∧ Grow W ro ro' ∧ Chg (fun k => tfp tb lo ro k ∨ cfp mb wb k) W W'
section
variable {W W' : World} {tb mb wb : Nat} {lo ro : Option Nat} {t : Tk} {ws : List Int} {tc : Int}
theorem TkAt.lt (h : TkAt W tb mb wb lo ro t ws tc) : tb < W.heap.size:=RowAt.lt h.row
theorem TkAt.cell (h : TkAt W tb mb wb lo ro t ws tc) (i : Nat) : W.cell? ⟨tb, i, none⟩ = (tcells t lo ro)[i]?:=RowAt.cell h.row i
theorem TkAt.frozen (h : TkAt W tb mb wb lo ro t ws tc) (i : Nat) : W.frozen? ⟨tb, i, none⟩ = false:=RowAt.frozen h.row i
theorem TkAt.chg {F : Nat → Prop} (h : TkAt W tb mb wb lo ro t ws tc) (hc : Chg F W W') (h0 : ¬ F 0) (hF : ∀ k, tfp tb lo ro k → ¬ F k) {ws' : List Int} {tc' : Int} (hm : CAt W' mb wb ws' tc') : TkAt W' tb mb wb lo ro t ws' tc':=by
 have hs:=hc.size
 refine ⟨(hc.block _ h.lt (hF _ (.inl rfl))).trans h.row, ?_, ?_, ?_, ?_, h.lr, hm, h.ap, h.laid.stable (hc.block 0 (h.laid.lt (by decide)) h0)⟩
 ·intro f hf
  obtain ⟨fb, h1, h2⟩:=h.look f hf
  exact ⟨fb, h1, h2.chg hc (hF _ (.inr (.inl h1)))⟩
 ·intro r hr
  obtain ⟨rb, h1, h2⟩:=h.ret r hr
  exact ⟨rb, h1, h2.chg hc (hF _ (.inr (.inr h1)))⟩
 ·intro b hb
  obtain ⟨h1, h2, h3⟩:=h.la b hb
  exact ⟨h1, h2, by omega⟩
 ·intro b hb
  obtain ⟨h1, h2, h3⟩:=h.ra b hb
  exact ⟨h1, h2, by omega⟩
theorem TkAt.below (h : TkAt W tb mb wb lo ro t ws tc) (hb : Below W.heap.size W W') : TkAt W' tb mb wb lo ro t ws tc:=by
 have hc : Chg (fun _ => False) W W':=Chg.ofBelow hb
 exact h.chg hc (fun e => e) (fun _ _ e => e) (h.mem.below hb)
theorem TkAt.mems (h : TkAt W tb mb wb lo ro t ws tc) (hc : Chg (cfp mb wb) W W') {ws' : List Int} {tc' : Int} (hm : CAt W' mb wb ws' tc') : TkAt W' tb mb wb lo ro t ws' tc':=by
 refine h.chg hc (fun e => e.elim h.ap.m0 h.ap.w0) (fun k hk e => ?_) hm
 rcases hk with rfl | hk | hk
 ·exact e.elim h.ap.m h.ap.w
 ·exact e.elim (h.la k hk).1.m (h.la k hk).1.w
 ·exact e.elim (h.ra k hk).1.m (h.ra k hk).1.w
theorem TkAt.put (h : TkAt W tb mb wb lo ro t ws tc) (i : Nat) (v : Value) (t' : Tk) (hrow : (tcells t lo ro).setIfInBounds i v = tcells t' lo ro) (hcf : t'.cf = t.cf) (hl : t'.look = t.look) (hr : t'.rt = t.rt) : TkAt (W.setCell ⟨tb, i, none⟩ v) tb mb wb lo ro t' ws tc:=by
 have hc : Chg (fun k => k = tb) W (W.setCell ⟨tb, i, none⟩ v):=(Chg.refl _ _).setCell _ _ (fun _ => rfl)
 have hs:=hc.size
 refine ⟨?_, ?_, ?_, ?_, ?_, h.lr, h.mem.far tb i v (fun e => h.ap.m e.symm) (fun e => h.ap.w e.symm), h.ap, h.laid.stable (hc.block 0 (h.laid.lt (by decide)) h.ap.f0)⟩
 ·have:=RowAt.setc h.row i v
  rw [hrow] at this
  exact this
 ·intro f hf
  rw [hl] at hf
  obtain ⟨fb, h1, h2⟩:=h.look f hf
  rw [hcf]
  exact ⟨fb, h1, h2.chg hc (h.la fb h1).2.1⟩
 ·intro r hq
  rw [hr] at hq
  obtain ⟨rb, h1, h2⟩:=h.ret r hq
  exact ⟨rb, h1, h2.chg hc (h.ra rb h1).2.1⟩
 ·intro b hb
  obtain ⟨h1, h2, h3⟩:=h.la b hb
  exact ⟨h1, h2, by omega⟩
 ·intro b hb
  obtain ⟨h1, h2, h3⟩:=h.ra b hb
  exact ⟨h1, h2, by omega⟩
theorem TkAt.putLook (h : TkAt W tb mb wb lo ro t ws tc) {fb : Nat} {f : Tk.Fd} (hf : FdAt W fb t.cf f) (ha : Apart fb mb wb) (hne : fb ≠ tb) (hr : ro ≠ some fb) : TkAt (W.setCell ⟨tb, 7, none⟩ (.pointer (some ⟨fb, 0, none⟩))) tb mb wb (some fb) ro { t with look:=some f } ws tc:=by
 have hc : Chg (fun k => k = tb) W (W.setCell ⟨tb, 7, none⟩ (.pointer (some ⟨fb, 0, none⟩))):=(Chg.refl _ _).setCell _ _ (fun _ => rfl)
 have hs:=hc.size
 refine ⟨RowAt.setc h.row 7 _, ?_, ?_, ?_, ?_, ?_, h.mem.far tb 7 _ (fun e => h.ap.m e.symm) (fun e => h.ap.w e.symm), h.ap, h.laid.stable (hc.block 0 (h.laid.lt (by decide)) h.ap.f0)⟩
 ·intro f' hf'
  cases hf'
  exact ⟨fb, rfl, hf.chg hc hne⟩
 ·intro r hq
  obtain ⟨rb, h1, h2⟩:=h.ret r hq
  exact ⟨rb, h1, h2.chg hc (h.ra rb h1).2.1⟩
 ·intro b hb
  cases hb
  have:=hf.lt
  exact ⟨ha, hne, by omega⟩
 ·intro b hb
  obtain ⟨h1, h2, h3⟩:=h.ra b hb
  exact ⟨h1, h2, by omega⟩
 ·intro a b h1 h2 h3
  cases h1
  exact hr (by rw [h2, h3])
theorem TkAt.putRet (h : TkAt W tb mb wb lo ro t ws tc) {rb : Nat} {r : Rt} (hf : RtAt W rb r) (ha : Apart rb mb wb) (hne : rb ≠ tb) (hr : lo ≠ some rb) : TkAt (W.setCell ⟨tb, 12, none⟩ (.pointer (some ⟨rb, 0, none⟩))) tb mb wb lo (some rb) { t with rt:=some r } ws tc:=by
 have hc : Chg (fun k => k = tb) W (W.setCell ⟨tb, 12, none⟩ (.pointer (some ⟨rb, 0, none⟩))):=(Chg.refl _ _).setCell _ _ (fun _ => rfl)
 have hs:=hc.size
 refine ⟨RowAt.setc h.row 12 _, ?_, ?_, ?_, ?_, ?_, h.mem.far tb 12 _ (fun e => h.ap.m e.symm) (fun e => h.ap.w e.symm), h.ap, h.laid.stable (hc.block 0 (h.laid.lt (by decide)) h.ap.f0)⟩
 ·intro f hq
  obtain ⟨fb, h1, h2⟩:=h.look f hq
  exact ⟨fb, h1, h2.chg hc (h.la fb h1).2.1⟩
 ·intro f' hf'
  cases hf'
  exact ⟨rb, rfl, hf.chg hc hne⟩
 ·intro b hb
  obtain ⟨h1, h2, h3⟩:=h.la b hb
  exact ⟨h1, h2, by omega⟩
 ·intro b hb
  cases hb
  have:=hf.lt
  exact ⟨ha, hne, by omega⟩
 ·intro a b h1 h2 h3
  cases h2
  exact hr (by rw [h1, h3])
theorem TkAt.fstep (h : TkAt W tb mb wb lo ro t ws tc) {fb : Nat} (hl : lo = some fb) (hc : Chg (fun k => k = fb ∨ cfp mb wb k) W W') {f : Tk.Fd} (hf : FdAt W' fb t.cf f) {ws' : List Int} {tc' : Int} (hm : CAt W' mb wb ws' tc') : TkAt W' tb mb wb lo ro { t with look:=some f } ws' tc':=by
 have hs:=hc.size
 have hA:=(h.la fb hl)
 refine ⟨(hc.block _ h.lt (fun e => e.elim (fun e => hA.2.1 e.symm) fun e => e.elim h.ap.m h.ap.w)).trans h.row, ?_, ?_, ?_, ?_, h.lr, hm, h.ap, h.laid.stable (hc.block 0 (h.laid.lt (by decide)) (fun e => e.elim hA.1.f0 fun e => e.elim h.ap.m0 h.ap.w0))⟩
 ·intro f' hf'
  cases hf'
  exact ⟨fb, hl, hf⟩
 ·intro r hq
  obtain ⟨rb, h1, h2⟩:=h.ret r hq
  exact ⟨rb, h1, h2.chg hc (fun e => e.elim (fun e => h.lr fb rb hl h1 e.symm) fun e => e.elim (h.ra rb h1).1.m (h.ra rb h1).1.w)⟩
 ·intro b hb
  obtain ⟨h1, h2, h3⟩:=h.la b hb
  exact ⟨h1, h2, by omega⟩
 ·intro b hb
  obtain ⟨h1, h2, h3⟩:=h.ra b hb
  exact ⟨h1, h2, by omega⟩
theorem TkAt.rstep (h : TkAt W tb mb wb lo ro t ws tc) {rb : Nat} (hl : ro = some rb) (hc : Chg (fun k => k = rb ∨ cfp mb wb k) W W') {r : Rt} (hf : RtAt W' rb r) {ws' : List Int} {tc' : Int} (hm : CAt W' mb wb ws' tc') : TkAt W' tb mb wb lo ro { t with rt:=some r } ws' tc':=by
 have hs:=hc.size
 have hA:=(h.ra rb hl)
 refine ⟨(hc.block _ h.lt (fun e => e.elim (fun e => hA.2.1 e.symm) fun e => e.elim h.ap.m h.ap.w)).trans h.row, ?_, ?_, ?_, ?_, h.lr, hm, h.ap, h.laid.stable (hc.block 0 (h.laid.lt (by decide)) (fun e => e.elim hA.1.f0 fun e => e.elim h.ap.m0 h.ap.w0))⟩
 ·intro f hq
  obtain ⟨fb, h1, h2⟩:=h.look f hq
  exact ⟨fb, h1, h2.chg hc (fun e => e.elim (fun e => h.lr fb rb h1 hl e) fun e => e.elim (h.la fb h1).1.m (h.la fb h1).1.w)⟩
 ·intro f' hf'
  cases hf'
  exact ⟨rb, hl, hf⟩
 ·intro b hb
  obtain ⟨h1, h2, h3⟩:=h.la b hb
  exact ⟨h1, h2, by omega⟩
 ·intro b hb
  obtain ⟨h1, h2, h3⟩:=h.ra b hb
  exact ⟨h1, h2, by omega⟩
theorem Grow.refl : Grow W lo lo:=.inl rfl
theorem Grow.trans {W1 : World} {l1 l2 : Option Nat} (h : Grow W lo l1) (h2 : Grow W1 l1 l2) (hs : W.heap.size ≤ W1.heap.size) : Grow W lo l2:=by
 rcases h2 with rfl | ⟨b, h2, h3⟩
 ·exact h
 ·exact .inr ⟨b, h2, by omega⟩
theorem Grow.fp {W1 : World} {l1 r1 : Option Nat} (hl : Grow W lo l1) (hr : Grow W ro r1) {k : Nat} (h : tfp tb l1 r1 k) : tfp tb lo ro k ∨ W.heap.size ≤ k:=by
 rcases h with rfl | h | h
 ·exact .inl (.inl rfl)
 ·rcases hl with rfl | ⟨b, h2, h3⟩
  ·exact .inl (.inr (.inl h))
  ·rw [h] at h2; cases h2; exact .inr h3
 ·rcases hr with rfl | ⟨b, h2, h3⟩
  ·exact .inl (.inr (.inr h))
  ·rw [h] at h2; cases h2; exact .inr h3
end
end Go.Proofs.YtefpoidnklflnaaGreatDoor.Cl
namespace Go.Proofs.YtefpoidnklflnaaGreatDoor.Cl
open Go.RowKit Hp Slot RowL Life
def nx (word : Int) (d : Nat) (own more : Int) : Option S:=(dec word).bind fun s => Tk.nextX s d own more
def nxW : Option S → Int
 | some s => s.word
 | none => 0
theorem nx_none {word : Int} {d : Nat} {own more : Int} (h : dec word = none) : nx word d own more = none:=by unfold nx; rw [h]; rfl
theorem nx_some {word : Int} {d : Nat} {own more : Int} {s : S} (h : dec word = some s) : nx word d own more = Tk.nextX s d own more:=by unfold nx; rw [h]; rfl
theorem tafter_any {W : World} {tb mb wb : Nat} {lo ro : Option Nat} {t : Tk.Tk} {ws : List Int} {tc : Int} (h : TkAt W tb mb wb lo ro t ws tc) (word : Int) (d : Nat) (hd : DoneT d) :
  Calls Tryz.prog 92 #[.pointer (some ⟨tb, 0, none⟩), .i word, .i d] W fun e W' =>
   e = .returned (.tuple #[((nx word d t.w 0).getD S.zero).val, .i (nxW (nx word d t.w 0)), .bool (nx word d t.w 0).isSome]) ∧ Below W.heap.size W W':=by
 have hA : Below W.heap.size W (W.alloc (.cells zero9 30)):=(Below.refl _ _).alloc (Nat.le_refl _) _
 have hdc:=decode_val (W.alloc (.cells zero9 30)) word (h.laid.stable (hA.block 0 (h.laid.lt (by decide))))
 have H:=Lib.hid h
 clear h
 cases hdw : dec word with
 | none =>
  rw [hdw] at hdc
  rw [nx_none hdw]
  simp only [Option.getD_none, Option.isSome_none, nxW] at hdc ⊢
  go_enter Tryz.func92, Tryz.ntmps92
  go_wp2_with fail
  refine hdc.mono ?_
  rintro e w5 ⟨rfl, hb5⟩
  have hB : Below W.heap.size W w5:=hA.trans (hb5.mono hA.size)
  have hr : RowAt w5 W.heap.size zero9 30:=RowAt.below (heap_alloc_new W _) hb5
  have hne : W.heap.size < w5.heap.size:=RowAt.lt hr
  clear hdc hb5 hA
  dsimp only
  go_step
  refine gl (.tuple #[S.zero.val, .bool false]) ?_
  refine gl S.zero.val ?_
  refine gl (.bool false) ?_
  refine gbox (ob:=.cells zero9 30) (Z:=zero9) (cs:=S.zero.cells) (t:=30) 30 (.tmp 9) (.tmp 15) rfl ?_
  refine gl (.bool false) ?_
  try simp only [Act.put, sA, sZ, sS]
  rw [setRow_new]
  have hz : RowAt (w5.alloc (.cells S.zero.cells 30)) W.heap.size zero9 30:=RowAt.below hr ((Below.refl _ _).alloc (Nat.le_refl _) _)
  have hBz : Below W.heap.size W (w5.alloc (.cells S.zero.cells 30)):=hB.alloc hB.size _
  generalize (w5.alloc (.cells S.zero.cells 30)) = wa at *
  go_upto_region 3 with (fail)
  refine wp_region_lit ?_
  refine gl (.agg Zs) ?_
  refine gSt hz Zs 30 (.tmp 6) (.tmp 19) ?_
  go_wp2_with fail
  refine bR3 W.heap.size (hz.set Zs) Tryz.underlying30 ?_
  exact ⟨rfl, bSetRow hBz (Nat.le_refl _) _⟩
 | some s =>
  rw [hdw] at hdc
  rw [nx_some hdw]
  simp only [Option.getD_some, Option.isSome_some] at hdc
  have hsr:=(word_dec hdw).1
  have hnr:=fun s' (h : Tk.nextX s d t.w 0 = some s') => Tk.next_right hd.x h
  have hnx:=fun w' hL => nextx_any w' s d t.w 0 hd hsr hL
  generalize Tk.nextX s d t.w 0 = N at *
  go_enter Tryz.func92, Tryz.ntmps92
  go_wp2_with fail
  refine hdc.mono ?_
  rintro e w5 ⟨rfl, hb5⟩
  have hB : Below W.heap.size W w5:=hA.trans (hb5.mono hA.size)
  have hr : RowAt w5 W.heap.size zero9 30:=RowAt.below (heap_alloc_new W _) hb5
  have hne : W.heap.size < w5.heap.size:=RowAt.lt hr
  clear hdc hb5 hA
  dsimp only
  go_step
  refine gl (.tuple #[s.val, .bool true]) ?_
  refine gl s.val ?_
  refine gl (.bool true) ?_
  refine gbox (ob:=.cells zero9 30) (Z:=zero9) (cs:=s.cells) (t:=30) 30 (.tmp 9) (.tmp 15) rfl ?_
  refine gl (.bool true) ?_
  try simp only [Act.put, sA, sZ, sS]
  rw [setRow_new]
  have hz : RowAt (w5.alloc (.cells s.cells 30)) W.heap.size zero9 30:=RowAt.below hr ((Below.refl _ _).alloc (Nat.le_refl _) _)
  have hs : RowAt (w5.alloc (.cells s.cells 30)) w5.heap.size s.cells 30:=heap_alloc_new w5 _
  have hBz : Below W.heap.size W (w5.alloc (.cells s.cells 30)):=hB.alloc hB.size _
  clear hr hB
  generalize (w5.alloc (.cells s.cells 30)) = wa at *
  generalize w5.heap.size = sb at *
  have h5 : ∀ w', Below W.heap.size W w' → w'.cell? ⟨tb, 5, none⟩ = some (.i t.w):=fun w' hb => (H.out.below hb).cell 5
  have hnx:=hnx wa.drew ((H.out.below hBz.drew).laid)
  have hBd:=hBz.drew
  go_upto_region 4 with (fail)
  refine wp_region_held_drew (S:=fun w' => Below W.heap.size W w') (by kernel_rfl) (by exact hBd) (fun hHeld => ?_)
  refine tKg 1 22 hHeld ?_
  try simp only [Act.put, sA, sZ, sS]
  refine tKg 2 23 hHeld ?_
  try simp only [Act.put, sA, sZ, sS]
  refine tKg 3 24 hHeld ?_
  try simp only [Act.put, sA, sZ, sS]
  refine tKg 4 25 hHeld ?_
  try simp only [Act.put, sA, sZ, sS]
  refine tKg 5 26 hHeld ?_
  try simp only [Act.put, sA, sZ, sS]
  refine rRow 0 21 (show RowAt wa.drew sb s.cells 30 from hs) 30 (.tmp 9) Tryz.underlying30 hHeld ?_
  try simp only [Act.put, sA, sZ, sS]
  refine rKc (i:=6) 108 #[.tmp 21, .tmp 22, .tmp 26, .const (.i 0)] #[30, 3, 3, 3] (some 27) none #[s.val, .i d, .i t.w, .i 0] (enters_of Tryz.func108 (by kernel_rfl) rfl) ?_
  refine hnx.mono ?_
  rintro e w6 ⟨rfl, hb6⟩
  have hB6:=hBd.trans (hb6.mono hBd.size)
  have hz6 : RowAt w6 W.heap.size zero9 30:=RowAt.below (w:=wa.drew) hz hb6
  have hs6 : RowAt w6 sb s.cells 30:=RowAt.below (w:=wa.drew) hs hb6
  clear hz hs hnx hb6 hBz hBd
  refine ⟨_, rfl, hB6, fun hHeld => ?_⟩
  try simp only [Act.put, sA, sZ, sS]
  refine tKg 7 20 hHeld ?_
  try simp only [Act.put, sA, sZ, sS]
  refine tKg 8 28 hHeld ?_
  try simp only [Act.put, sA, sZ, sS]
  refine tKg 9 29 hHeld ?_
  try simp only [Act.put, sA, sZ, sS]
  refine rSt 10 hs6 (N.getD S.zero).cells 30 (.tmp 9) (.tmp 28) (bSetRow hHeld (by omega) _) ?_
  try simp only [Act.put, sA, sZ, sS]
  refine tKg 11 10 (bSetRow hHeld (by omega) _) ?_
  try simp only [Act.put, sA, sZ, sS]
  refine wpAnyH_done (by kernel_rfl) ?_ _
  have hs7 : RowAt (w6.setRow sb (N.getD S.zero).cells) sb (N.getD S.zero).cells 30:=hs6.set _
  have hz7 : RowAt (w6.setRow sb (N.getD S.zero).cells) W.heap.size zero9 30:=(setRow_other _ _ _ _ (by omega)).trans hz6
  have hB7 : Below W.heap.size W (w6.setRow sb (N.getD S.zero).cells):=bSetRow hHeld (by omega) _
  generalize (w6.setRow sb (N.getD S.zero).cells) = wb at *
  clear hs6 hz6 hB6 hHeld
  cases N with
  | none =>
   simp only [Option.getD_none, Option.isSome_none, nxW] at *
   go_upto_region 6 with (fail)
   refine wp_region_lit ?_
   refine gl (.agg Zs) ?_
   refine gSt hz7 Zs 30 (.tmp 6) (.tmp 32) ?_
   go_wp2_with fail
   refine bR3 W.heap.size (hz7.set Zs) Tryz.underlying30 ?_
   exact ⟨rfl, bSetRow hB7 (Nat.le_refl _) _⟩
  | some n =>
   simp only [Option.getD_some, Option.isSome_some, nxW] at *
   have hen:=encode_word wb n ((H.out.below hB7).laid) (hnr n rfl)
   go_upto_region 7 with (fail)
   refine wp_region_lit ?_
   refine grow hs7 30 (.tmp 9) Tryz.underlying30 ?_
   try simp only [Act.put, sA, sZ, sS]
   refine gcall 107 #[.tmp 34] #[30] #[n.val] (enters_of Tryz.func107 (by kernel_rfl) rfl) ?_
   refine hen.mono ?_
   rintro e w8 ⟨rfl, hb8⟩
   refine ⟨_, rfl, ?_⟩
   have hs8 : RowAt w8 sb n.cells 30:=RowAt.below hs7 hb8
   have hz8 : RowAt w8 W.heap.size zero9 30:=RowAt.below hz7 hb8
   have hB8:=hB7.trans (hb8.mono hB7.size)
   clear hs7 hz7 hB7 hen hb8
   go_upto_region 8 with (fail)
   refine wp_region_lit ?_
   refine grow hs8 30 (.tmp 9) Tryz.underlying30 ?_
   refine gl (.i n.word) ?_
   refine gl (.bool true) ?_
   try simp only [Act.put, sA, sZ, sS]
   refine gSt hz8 n.cells 30 (.tmp 6) (.tmp 38) ?_
   go_wp2_with fail
   refine bR3 W.heap.size (hz8.set _) Tryz.underlying30 ?_
   exact ⟨rfl, bSetRow hB8 (Nat.le_refl _) _⟩
theorem TPost.same {W : World} {tb mb wb : Nat} {lo ro : Option Nat} {t : Tk.Tk} {ws : List Int} {tc : Int} (h : TkAt W tb mb wb lo ro t ws tc) {W' : World} {ws' : List Int} {tc' : Int} {v : Value} {e : Ending} (he : e = .returned v) (h' : TkAt W' tb mb wb lo ro t ws' tc') (hc : Chg (fun k => tfp tb lo ro k ∨ cfp mb wb k) W W') : TPost W tb mb wb lo ro v t ws' tc' e W' :=
 ⟨he, lo, ro, h', Grow.refl, Grow.refl, hc⟩
theorem rd_some {ws : List Int} {i : Nat} (h : i < ws.length) : ws[i]? = some (Tk.rd ws i):=by
 unfold Tk.rd
 rw [List.getD_eq_getElem?_getD, List.getElem?_eq_getElem h]
 rfl
theorem tswap_none {W : World} {tb mb wb : Nat} {lo ro : Option Nat} {t : Tk.Tk} {ws : List Int} {tc : Int} (h : TkAt W tb mb wb lo ro t ws tc) (i : Nat) (word : Int) (d : Nat) (hd : DoneT d) (hN : nx word d t.w 0 = none) :
  Calls Tryz.prog 95 #[.pointer (some ⟨tb, 0, none⟩), .pointer (some ⟨mb, 0, none⟩), .i i, .i word, .i d] W (TPost W tb mb wb lo ro (.bool false) t ws tc):=by
 have haf:=tafter_any h word d hd
 rw [hN] at haf
 simp only [Option.getD_none, Option.isSome_none, nxW] at haf
 have H:=Lib.hid h
 clear h
 go_enter Tryz.func95, Tryz.ntmps95
 go_wp2_with fail
 refine haf.mono ?_
 rintro e w5 ⟨rfl, hb5⟩
 clear haf
 dsimp only
 go_step
 refine gl (.tuple #[S.zero.val, .i 0, .bool false]) ?_
 refine gl S.zero.val ?_
 refine gl (.i 0) ?_
 refine gl (.bool false) ?_
 refine gbox (ob:=.cells zero9 30) (Z:=zero9) (cs:=S.zero.cells) (t:=30) 30 (.tmp 11) (.tmp 19) rfl ?_
 refine gl (.i 0) ?_
 refine gl (.bool false) ?_
 try simp only [Act.put, sA, sZ, sS]
 rw [setRow_new]
 have hB : Below W.heap.size W (w5.alloc (.cells S.zero.cells 30)):=hb5.alloc hb5.size _
 generalize (w5.alloc (.cells S.zero.cells 30)) = wa at *
 clear hb5
 go_wp2_with fail
 go_ret
 exact TPost.same H.out rfl (H.out.below hB) (Chg.ofBelow hB)
theorem tswap_eq {W : World} {tb mb wb : Nat} {lo ro : Option Nat} {t : Tk.Tk} {ws : List Int} {tc : Int} (h : TkAt W tb mb wb lo ro t ws tc) (hc : Small t.cf) (ht : 0 ≤ tc ∧ tc ≤ 4000000000000000000) (i : Nat) (hi : i < Tk.ns t.cf) (hlen : Tk.sc t.cf i < ws.length) (word : Int) (d : Nat) (hd : DoneT d) {s : S} (hN : nx word d t.w 0 = some s) (hx : Tk.rd ws (Tk.sc t.cf i) = word) :
  Calls Tryz.prog 95 #[.pointer (some ⟨tb, 0, none⟩), .pointer (some ⟨mb, 0, none⟩), .i i, .i word, .i d] W (TPost W tb mb wb lo ro (.bool true) { t with i:=i, word:=s.word, gen:=s.gen } (ws.set (Tk.sc t.cf i) s.word) (tc + 1)):=by
 have haf:=tafter_any h word d hd
 rw [hN] at haf
 simp only [Option.getD_some, Option.isSome_some, nxW] at haf
 have hsl:=fun W => slot_any W t.cf i hc.w ⟨by have:=hc.s; unfold Tk.ns at hi; omega, hc.s.2⟩
 have hsc : (3 + 2 * t.cf.workers + (i : Int)) = ((Tk.sc t.cf i : Nat) : Int):=by have:=hc.w; unfold Tk.sc; omega
 simp only [hsc, Conf.Cf.val, Conf.Cf.cells] at hsl
 have hrd:=rd_some hlen
 rw [hx] at hrd
 have hcs:=fun W (h : CAt W mb wb ws tc) => cas_eq h ht (Tk.sc t.cf i) word hrd s.word
 have H:=Lib.hid h
 have hml:=h.mem.lt
 have htl:=h.lt
 clear h hrd
 go_enter Tryz.func95, Tryz.ntmps95
 go_wp2_with fail
 refine haf.mono ?_
 rintro e w5 ⟨rfl, hb5⟩
 clear haf
 dsimp only
 go_step
 refine gl (.tuple #[s.val, .i s.word, .bool true]) ?_
 refine gl s.val ?_
 refine gl (.i s.word) ?_
 refine gl (.bool true) ?_
 refine gbox (ob:=.cells zero9 30) (Z:=zero9) (cs:=s.cells) (t:=30) 30 (.tmp 11) (.tmp 19) rfl ?_
 refine gl (.i s.word) ?_
 refine gl (.bool true) ?_
 try simp only [Act.put, sA, sZ, sS]
 rw [setRow_new]
 have hB : Below W.heap.size W (w5.alloc (.cells s.cells 30)):=hb5.alloc hb5.size _
 have hs : RowAt (w5.alloc (.cells s.cells 30)) w5.heap.size s.cells 30:=heap_alloc_new w5 _
 have hsb:=hb5.size
 generalize (w5.alloc (.cells s.cells 30)) = wa at *
 generalize w5.heap.size = sb at *
 clear hb5
 have ha:=H.out.below hB
 have c0 : wa.cell? ⟨tb, 0, none⟩ = some (.i t.cf.workers):=ha.cell 0
 have c1 : wa.cell? ⟨tb, 1, none⟩ = some (.i t.cf.slots):=ha.cell 1
 have c2 : wa.cell? ⟨tb, 2, none⟩ = some (.i t.cf.streams):=ha.cell 2
 have c3 : wa.cell? ⟨tb, 3, none⟩ = some (.i t.cf.waiters):=ha.cell 3
 have c4 : wa.cell? ⟨tb, 4, none⟩ = some (.i t.cf.uses):=ha.cell 4
 have Ha:=Lib.hid ha
 clear ha
 go_wp2_with fail
 refine (hsl _).mono ?_
 rintro e w6 ⟨rfl, hb6⟩
 have h6:=Ha.out.below hb6
 have hs6 : RowAt w6 sb s.cells 30:=RowAt.below hs hb6
 have hB6:=hB.trans (hb6.mono hB.size)
 have hcs6:=hcs w6 h6.mem
 have H6:=Lib.hid h6
 clear h6 hs hb6 hsl hcs c0 c1 c2 c3 c4
 go_wp2_with fail
 refine hcs6.mono ?_
 rintro e w7 ⟨rfl, hM7, hC7⟩
 have h7:=H6.out.mems hC7 hM7
 have hC : Chg (fun k => tfp tb lo ro k ∨ cfp mb wb k) W w7:=(Chg.ofBelow (F:=fun k => tfp tb lo ro k ∨ cfp mb wb k) hB6).trans hC7 (fun _ _ e => .inr e)
 have hs7 : RowAt w7 sb s.cells 30:=(hC7.block _ (RowAt.lt hs6) (fun e => e.elim (fun e => by omega) (fun e => by omega))).trans hs6
 have d8 : w7.cell? ⟨tb, 8, none⟩ = some (.i t.i):=h7.cell 8
 have d9 : w7.cell? ⟨tb, 9, none⟩ = some (.i t.word):=h7.cell 9
 have d10 : w7.cell? ⟨tb, 10, none⟩ = some (.i t.gen):=h7.cell 10
 have df8:=h7.frozen 8
 have df9:=h7.frozen 9
 have df10:=h7.frozen 10
 have s6 : w7.cell? ⟨sb, 6, none⟩ = some (.i s.gen):=RowAt.cell hs7 6
 have hne : sb ≠ tb:=by omega
 have H7:=Lib.hid h7
 have HC:=Lib.hid hC
 clear h7 hcs6 hs6 hs7 hM7 hC7 hC hB6
 go_wp2_with fail
 go_region
 go_wp2_with fail
 go_ret
 have hfin:=((H7.out.put 8 (.i i) { t with i:=i } rfl rfl rfl rfl).put 9 (.i s.word) { t with i:=i, word:=s.word } rfl rfl rfl rfl).put 10 (.i s.gen) { t with i:=i, word:=s.word, gen:=s.gen } rfl rfl rfl rfl
 refine ⟨rfl, lo, ro, hfin.below (Below.refl _ _).drew, Grow.refl, Grow.refl, ?_⟩
 exact (((HC.out.setCell ⟨tb, 8, none⟩ _ (fun _ => .inl (.inl rfl))).setCell ⟨tb, 9, none⟩ _ (fun _ => .inl (.inl rfl))).setCell ⟨tb, 10, none⟩ _ (fun _ => .inl (.inl rfl))).drew
theorem tswap_ne {W : World} {tb mb wb : Nat} {lo ro : Option Nat} {t : Tk.Tk} {ws : List Int} {tc : Int} (h : TkAt W tb mb wb lo ro t ws tc) (hc : Small t.cf) (ht : 0 ≤ tc ∧ tc ≤ 4000000000000000000) (i : Nat) (hi : i < Tk.ns t.cf) (hlen : Tk.sc t.cf i < ws.length) (word : Int) (d : Nat) (hd : DoneT d) {s : S} (hN : nx word d t.w 0 = some s) (hx : Tk.rd ws (Tk.sc t.cf i) ≠ word) :
  Calls Tryz.prog 95 #[.pointer (some ⟨tb, 0, none⟩), .pointer (some ⟨mb, 0, none⟩), .i i, .i word, .i d] W (TPost W tb mb wb lo ro (.bool false) t ws (tc + 1)):=by
 have haf:=tafter_any h word d hd
 rw [hN] at haf
 simp only [Option.getD_some, Option.isSome_some, nxW] at haf
 have hsl:=fun W => slot_any W t.cf i hc.w ⟨by have:=hc.s; unfold Tk.ns at hi; omega, hc.s.2⟩
 have hsc : (3 + 2 * t.cf.workers + (i : Int)) = ((Tk.sc t.cf i : Nat) : Int):=by have:=hc.w; unfold Tk.sc; omega
 simp only [hsc, Conf.Cf.val, Conf.Cf.cells] at hsl
 have hrd:=rd_some hlen
 generalize Tk.rd ws (Tk.sc t.cf i) = x at *
 have hcs:=fun W (h : CAt W mb wb ws tc) => cas_ne h ht (Tk.sc t.cf i) x hrd word s.word hx
 have H:=Lib.hid h
 have hml:=h.mem.lt
 have htl:=h.lt
 clear h hrd
 go_enter Tryz.func95, Tryz.ntmps95
 go_wp2_with fail
 refine haf.mono ?_
 rintro e w5 ⟨rfl, hb5⟩
 clear haf
 dsimp only
 go_step
 refine gl (.tuple #[s.val, .i s.word, .bool true]) ?_
 refine gl s.val ?_
 refine gl (.i s.word) ?_
 refine gl (.bool true) ?_
 refine gbox (ob:=.cells zero9 30) (Z:=zero9) (cs:=s.cells) (t:=30) 30 (.tmp 11) (.tmp 19) rfl ?_
 refine gl (.i s.word) ?_
 refine gl (.bool true) ?_
 try simp only [Act.put, sA, sZ, sS]
 rw [setRow_new]
 have hB : Below W.heap.size W (w5.alloc (.cells s.cells 30)):=hb5.alloc hb5.size _
 have hs : RowAt (w5.alloc (.cells s.cells 30)) w5.heap.size s.cells 30:=heap_alloc_new w5 _
 have hsb:=hb5.size
 generalize (w5.alloc (.cells s.cells 30)) = wa at *
 generalize w5.heap.size = sb at *
 clear hb5
 have ha:=H.out.below hB
 have c0 : wa.cell? ⟨tb, 0, none⟩ = some (.i t.cf.workers):=ha.cell 0
 have c1 : wa.cell? ⟨tb, 1, none⟩ = some (.i t.cf.slots):=ha.cell 1
 have c2 : wa.cell? ⟨tb, 2, none⟩ = some (.i t.cf.streams):=ha.cell 2
 have c3 : wa.cell? ⟨tb, 3, none⟩ = some (.i t.cf.waiters):=ha.cell 3
 have c4 : wa.cell? ⟨tb, 4, none⟩ = some (.i t.cf.uses):=ha.cell 4
 have Ha:=Lib.hid ha
 clear ha
 go_wp2_with fail
 refine (hsl _).mono ?_
 rintro e w6 ⟨rfl, hb6⟩
 have h6:=Ha.out.below hb6
 have hs6 : RowAt w6 sb s.cells 30:=RowAt.below hs hb6
 have hB6:=hB.trans (hb6.mono hB.size)
 have hcs6:=hcs w6 h6.mem
 have H6:=Lib.hid h6
 clear h6 hs hb6 hsl hcs c0 c1 c2 c3 c4
 go_wp2_with fail
 refine hcs6.mono ?_
 rintro e w7 ⟨rfl, hM7, hC7⟩
 have h7:=H6.out.mems hC7 hM7
 have hC : Chg (fun k => tfp tb lo ro k ∨ cfp mb wb k) W w7:=(Chg.ofBelow (F:=fun k => tfp tb lo ro k ∨ cfp mb wb k) hB6).trans hC7 (fun _ _ e => .inr e)
 have hs7 : RowAt w7 sb s.cells 30:=(hC7.block _ (RowAt.lt hs6) (fun e => e.elim (fun e => by omega) (fun e => by omega))).trans hs6
 have H7:=Lib.hid h7
 have HC:=Lib.hid hC
 clear h7 hcs6 hs6 hs7 hM7 hC7 hC hB6
 go_wp2_with fail
 go_ret
 exact TPost.same H.out rfl H7.out HC.out
theorem tswap_any {W : World} {tb mb wb : Nat} {lo ro : Option Nat} {t : Tk.Tk} {ws : List Int} {tc : Int} (h : TkAt W tb mb wb lo ro t ws tc) (hc : Small t.cf) (ht : 0 ≤ tc ∧ tc ≤ 4000000000000000000) (i : Nat) (hi : i < Tk.ns t.cf) (hlen : Tk.sc t.cf i < ws.length) (word : Int) (d : Nat) (hd : DoneT d) :
  Calls Tryz.prog 95 #[.pointer (some ⟨tb, 0, none⟩), .pointer (some ⟨mb, 0, none⟩), .i i, .i word, .i d] W (TPost W tb mb wb lo ro (.bool (t.swap i word d ws).1) (t.swap i word d ws).2.1 (t.swap i word d ws).2.2.1 (tc + (t.swap i word d ws).2.2.2)):=by
 have e : t.swap i word d ws = match nx word d t.w 0 with
  | some s => if Tk.rd ws (Tk.sc t.cf i) = word then (true, { t with i:=i, word:=s.word, gen:=s.gen }, ws.set (Tk.sc t.cf i) s.word, 1) else (false, t, ws, 1)
  | none => (false, t, ws, 0):=rfl
 rw [e]
 cases hN : nx word d t.w 0 with
 | none => simpa using tswap_none h i word d hd hN
 | some s =>
  dsimp only
  by_cases hx : Tk.rd ws (Tk.sc t.cf i) = word
  ·rw [if_pos hx]
   exact tswap_eq h hc ht i hi hlen word d hd hN hx
  ·rw [if_neg hx]
   exact tswap_ne h hc ht i hi hlen word d hd hN hx
theorem TkAt.newApart {W : World} {tb mb wb : Nat} {lo ro : Option Nat} {t : Tk.Tk} {ws : List Int} {tc : Int} (h : TkAt W tb mb wb lo ro t ws tc) {b : Nat} (hb : W.heap.size ≤ b) : Apart b mb wb ∧ b ≠ tb ∧ ro ≠ some b ∧ lo ≠ some b:=by
 have h1:=h.mem.lt
 have h2:=h.lt
 have h0 : 0 < W.heap.size:=h.laid.lt (by decide)
 refine ⟨⟨by omega, by omega, by omega, h.ap.m0, h.ap.w0⟩, by omega, fun e => ?_, fun e => ?_⟩
 ·have:=(h.ra b e).2.2
  omega
 ·have:=(h.la b e).2.2
  omega
theorem fstep_any {W : World} {fb mb wb : Nat} {c : Conf.Cf} {f : Tk.Fd} {ws : List Int} {tc : Int} (hL : Laid W) (h : FdAt W fb c f) (hm : CAt W mb wb ws tc) (hc : Small c) (ha : Apart fb mb wb) (ht : 0 ≤ tc ∧ tc ≤ 4000000000000000000)
  (hf : Tk.FdOk c f) (hlen : ws.length = 3 + 2 * c.workers.toNat + Tk.ns c) :
  Calls Tryz.prog 104 #[.pointer (some ⟨fb, 0, none⟩), .pointer (some ⟨mb, 0, none⟩)] W (FPost W fb mb wb c ws tc (f.step c ws)):=by
 by_cases hI : f.found = true ∨ Tk.ns c ≤ f.at'
 ·exact fstep_idle h hm hc hI
 ·simp only [not_or] at hI
  have hlt : Tk.sc c f.at' < ws.length:=by unfold Tk.sc; omega
  have hx : ws[Tk.sc c f.at']? = some ws[Tk.sc c f.at']:=List.getElem?_eq_getElem hlt
  exact fstep_look hL h hm hc ha ht (by have:=hf.1; omega) (by simpa using hI.1) (by omega) hx
theorem rest_step {W : World} {tb mb wb : Nat} {lo ro : Option Nat} {t : Tk.Tk} {ws : List Int} {tc : Int} (h : TkAt W tb mb wb lo ro t ws tc) (good : Bool) : Calls Tryz.prog 73 #[.pointer (some ⟨tb, 0, none⟩), .pointer (some ⟨mb, 0, none⟩), .bool good] W (TPost W tb mb wb lo ro (.tuple #[]) t ws tc):=by
 have H:=Lib.hid h
 clear h
 go_enter Tryz.func73, Tryz.ntmps73
 first | go_end0 | (go_wp2_with fail; first | go_end0 | refine bodyPost_ret (results_none rfl _ _ _) rfl ?_)
 exact ⟨rfl, lo, ro, H.out, Grow.refl, Grow.refl, Chg.refl _ _⟩
theorem tend_any {W : World} {tb mb wb : Nat} {lo ro : Option Nat} {t : Tk.Tk} {ws : List Int} {tc : Int} (h : TkAt W tb mb wb lo ro t ws tc) (e : Int) : Calls Tryz.prog 85 #[.pointer (some ⟨tb, 0, none⟩), .i e] W (TPost W tb mb wb lo ro (.tuple #[]) (t.finish e) ws tc):=by
 have c6 : W.cell? ⟨tb, 6, none⟩ = some (.i t.st):=h.cell 6
 have c9 : W.cell? ⟨tb, 9, none⟩ = some (.i t.word):=h.cell 9
 have cf6:=h.frozen 6
 have cf9:=h.frozen 9
 have c13 : W.cell? ⟨tb, 13, none⟩ = some (.i t.e):=h.cell 13
 have cf13:=h.frozen 13
 have H:=Lib.hid h
 clear h
 go_enter Tryz.func85, Tryz.ntmps85
 go_wp2_with fail
 first | go_end0 | refine bodyPost_ret (results_none rfl _ _ _) rfl ?_
 refine ⟨rfl, lo, ro, (H.out.put 13 (.i e) { t with e:=e } rfl rfl rfl rfl).put 6 (.i 15) (t.finish e) rfl rfl rfl rfl, Grow.refl, Grow.refl, ?_⟩
 exact ((Chg.refl _ W).setCell ⟨tb, 13, none⟩ _ (fun _ => .inl (.inl rfl))).setCell ⟨tb, 6, none⟩ _ (fun _ => .inl (.inl rfl))
theorem search_any {W : World} {tb mb wb : Nat} {lo ro : Option Nat} {t : Tk.Tk} {ws : List Int} {tc : Int} (h : TkAt W tb mb wb lo ro t ws tc) (st : Nat) (kind own : Int) : Calls Tryz.prog 86 #[.pointer (some ⟨tb, 0, none⟩), .i st, .i kind, .i own] W (TPost W tb mb wb lo ro (.tuple #[]) (t.search st kind own) ws tc):=by
 have hn:=fun W => fnew_any W t.cf kind own
 simp only [Conf.Cf.val, Conf.Cf.cells] at hn
 have c0 : W.cell? ⟨tb, 0, none⟩ = some (.i t.cf.workers):=h.cell 0
 have c1 : W.cell? ⟨tb, 1, none⟩ = some (.i t.cf.slots):=h.cell 1
 have c2 : W.cell? ⟨tb, 2, none⟩ = some (.i t.cf.streams):=h.cell 2
 have c3 : W.cell? ⟨tb, 3, none⟩ = some (.i t.cf.waiters):=h.cell 3
 have c4 : W.cell? ⟨tb, 4, none⟩ = some (.i t.cf.uses):=h.cell 4
 have c6 : W.cell? ⟨tb, 6, none⟩ = some (.i t.st):=h.cell 6
 have c7 : W.cell? ⟨tb, 7, none⟩ = some (ptrOf lo):=h.cell 7
 have cf6:=h.frozen 6
 have cf7:=h.frozen 7
 have H:=Lib.hid h
 clear h
 go_enter Tryz.func86, Tryz.ntmps86
 go_wp2_with fail
 refine (hn _).mono ?_
 rintro e w5 ⟨fb, rfl, hF, hge, hb5⟩
 have h5:=H.out.below hb5
 have d6 : w5.cell? ⟨tb, 6, none⟩ = some (.i t.st):=h5.cell 6
 have d7 : w5.cell? ⟨tb, 7, none⟩ = some (ptrOf lo):=h5.cell 7
 have df6:=h5.frozen 6
 have df7:=h5.frozen 7
 have H5:=Lib.hid h5
 have HF:=Lib.hid hF
 have HB:=Lib.hid hb5
 clear h5 hF hb5 hn c0 c1 c2 c3 c4 c6 c7 cf6 cf7
 go_wp2_with fail
 first | go_end0 | refine bodyPost_ret (results_none rfl _ _ _) rfl ?_
 obtain ⟨n1, n2, n3, n4⟩:=H.out.newApart hge
 refine ⟨rfl, some fb, ro, (H5.out.putLook HF.out n1 n2 n3).put 6 (.i st) (t.search st kind own) rfl rfl rfl rfl, .inr ⟨fb, rfl, hge⟩, Grow.refl, ?_⟩
 exact ((Chg.ofBelow (F:=fun k => tfp tb lo ro k ∨ cfp mb wb k) HB.out).setCell ⟨tb, 7, none⟩ _ (fun _ => .inl (.inl rfl))).setCell ⟨tb, 6, none⟩ _ (fun _ => .inl (.inl rfl))
theorem seek_any {W : World} {tb mb wb : Nat} {lo ro : Option Nat} {t : Tk.Tk} {ws : List Int} {tc : Int} (h : TkAt W tb mb wb lo ro t ws tc) (hok : Tk.TkOk t ws) (ht : 0 ≤ tc ∧ tc ≤ 4000000000000000000) (h1 : 1 ≤ t.st) (h8 : t.st ≤ 8) :
  Calls Tryz.prog 87 #[.pointer (some ⟨tb, 0, none⟩), .pointer (some ⟨mb, 0, none⟩)] W (TPost W tb mb wb lo ro (.tuple #[.bool (t.seek ws).1, .bool (t.seek ws).2.1]) (t.seek ws).2.2.1 ws (tc + (t.seek ws).2.2.2)):=by
 obtain ⟨f, hl, -⟩:=hok.has h1 h8
 obtain ⟨fb, rfl, hF⟩:=h.look f hl
 have hA:=h.la fb rfl
 rw [Tk.seek_eq hl]
 have hst:=fstep_any h.laid hF h.mem ⟨hok.c.w, hok.c.s⟩ hA.1 ht (hok.look f hl) hok.len
 clear hF
 generalize f.step t.cf ws = q at *
 obtain ⟨b, f', n⟩:=q
 dsimp only at *
 have c7 : W.cell? ⟨tb, 7, none⟩ = some (.pointer (some ⟨fb, 0, none⟩)):=h.cell 7
 have H:=Lib.hid h
 clear h
 go_enter Tryz.func87, Tryz.ntmps87
 go_wp2_with fail
 refine hst.mono ?_
 rintro e w5 ⟨rfl, hF5, hM5, hC5⟩
 have h5:=H.out.fstep rfl hC5 hF5 hM5
 have d7 : w5.cell? ⟨tb, 7, none⟩ = some (.pointer (some ⟨fb, 0, none⟩)):=h5.cell 7
 have hfo:=found_any hF5
 have H5:=Lib.hid h5
 have HC:=Lib.hid (hC5.mono (G:=fun k => tfp tb (some fb) ro k ∨ cfp mb wb k) fun k _ e => e.elim (fun e => .inl (.inr (.inl (by rw [e])))) .inr)
 clear h5 hst c7 hF5 hM5 hC5
 cases hf : f'.found <;> rw [hf] at hfo <;> cases b
 ·go_wp2_with fail
  refine hfo.mono ?_
  rintro e w6 ⟨rfl, hb6⟩
  clear hfo
  go_wp2_with fail
  go_ret2
  exact ⟨by (rw [hf]; rfl), some fb, ro, H5.out.below hb6, Grow.refl, Grow.refl, HC.out.trans (Chg.ofBelow hb6) (fun _ _ e => e)⟩
 ·go_wp2_with fail
  refine hfo.mono ?_
  rintro e w6 ⟨rfl, hb6⟩
  clear hfo
  go_wp2_with fail
  go_ret2
  exact ⟨by (rw [hf]; rfl), some fb, ro, H5.out.below hb6, Grow.refl, Grow.refl, HC.out.trans (Chg.ofBelow hb6) (fun _ _ e => e)⟩
 ·go_wp2_with fail
  refine hfo.mono ?_
  rintro e w6 ⟨rfl, hb6⟩
  clear hfo
  go_wp2_with fail
  go_ret2
  exact ⟨by (rw [hf]; rfl), some fb, ro, H5.out.below hb6, Grow.refl, Grow.refl, HC.out.trans (Chg.ofBelow hb6) (fun _ _ e => e)⟩
 ·go_wp2_with fail
  refine hfo.mono ?_
  rintro e w6 ⟨rfl, hb6⟩
  clear hfo
  go_wp2_with fail
  go_ret2
  exact ⟨by (rw [hf]; rfl), some fb, ro, H5.out.below hb6, Grow.refl, Grow.refl, HC.out.trans (Chg.ofBelow hb6) (fun _ _ e => e)⟩
theorem answer_any {W : World} {tb mb wb : Nat} {lo ro : Option Nat} {t : Tk.Tk} {ws : List Int} {tc : Int} (h : TkAt W tb mb wb lo ro t ws tc) : Calls Tryz.prog 17 #[.pointer (some ⟨tb, 0, none⟩)] W fun e W' => e = .returned (.tuple #[.i t.answer.1, .i t.answer.2.1, .i t.answer.2.2]) ∧ Below W.heap.size W W':=by
 have c6 : W.cell? ⟨tb, 6, none⟩ = some (.i t.st):=h.cell 6
 have c8 : W.cell? ⟨tb, 8, none⟩ = some (.i t.i):=h.cell 8
 have c10 : W.cell? ⟨tb, 10, none⟩ = some (.i t.gen):=h.cell 10
 have c13 : W.cell? ⟨tb, 13, none⟩ = some (.i t.e):=h.cell 13
 clear h
 go_enter Tryz.func17, Tryz.ntmps17
 by_cases h15 : t.st = 15
 ·rw [h15] at c6
  by_cases he : t.e = 0
  ·rw [he] at c13
   go_wp2_with fail
   go_region
   go_wp2_with fail
   go_ret3
   exact ⟨by simp [Tk.Tk.answer, h15, he], (Below.refl _ _).drew⟩
  ·go_wp2_with fail
   go_ret3
   exact ⟨by simp [Tk.Tk.answer, h15, he], Below.refl _ _⟩
 ·have hz : ¬ ((t.st : Int) = 15):=by omega
  go_wp2_with fail
  go_ret3
  exact ⟨by simp [Tk.Tk.answer, h15], Below.refl _ _⟩
theorem TkAt.fresh {W : World} {mb wb : Nat} {ws : List Int} {tc : Int} (hm : CAt W mb wb ws tc) (hL : Laid W) (h0 : 0 ≠ mb) (hw0 : 0 ≠ wb) {W' : World} {tb : Nat} (hb : Below W.heap.size W W') (ht : W.heap.size ≤ tb) {t : Tk.Tk} (hr : TRow W' tb t none none) (hl : t.look = none) (hq : t.rt = none) : TkAt W' tb mb wb none none t ws tc:=by
 have h1:=hm.lt
 have h2 : 0 < W.heap.size:=hL.lt (by decide)
 exact ⟨hr, fun f e => (by rw [hl] at e; cases e), fun r e => (by rw [hq] at e; cases e), fun _ e => (nomatch e), fun _ e => (nomatch e), fun _ _ e => (nomatch e), hm.below hb, ⟨by omega, by omega, by omega, h0, hw0⟩, hL.stable (hb.block 0 h2)⟩
theorem tnew_any (W : World) (c : Conf.Cf) (w : Int) : Calls Tryz.prog 14 #[c.val, .i w] W fun e W' => ∃ tb, e = .returned (.pointer (some ⟨tb, 0, none⟩)) ∧ TRow W' tb (Tk.Tk.new c w) none none ∧ W.heap.size ≤ tb ∧ Below W.heap.size W W':=by
 obtain ⟨cw, cs, cst, cwa, cu⟩:=c
 go_enter Tryz.func14, Tryz.ntmps14
 simp only [Conf.Cf.val, Conf.Cf.cells]
 go_wp2_with fail
 go_ret
 refine ⟨W.heap.size + 1, rfl, ?_, by omega, ((Below.refl _ _).alloc (Nat.le_refl _) _).alloc (by simp) _⟩
 exact heap_alloc2_new _ _ _
theorem tgranted_any (W : World) (c : Conf.Cf) (w : Int) (i : Nat) : Calls Tryz.prog 26 #[c.val, .i w, .i i] W fun e W' => ∃ tb, e = .returned (.pointer (some ⟨tb, 0, none⟩)) ∧ TRow W' tb (Tk.Tk.granted c w i) none none ∧ W.heap.size ≤ tb ∧ Below W.heap.size W W':=by
 obtain ⟨cw, cs, cst, cwa, cu⟩:=c
 go_enter Tryz.func26, Tryz.ntmps26
 simp only [Conf.Cf.val, Conf.Cf.cells]
 go_wp2_with fail
 go_ret
 refine ⟨W.heap.size + 1, rfl, ?_, by omega, ((Below.refl _ _).alloc (Nat.le_refl _) _).alloc (by simp) _⟩
 exact heap_alloc2_new _ _ _
def TR (W : World) (tb mb wb : Nat) (lo ro : Option Nat) (W' : World) (lo' ro' : Option Nat) : Prop:=Grow W lo lo' ∧ Grow W ro ro' ∧ Chg (fun k => tfp tb lo ro k ∨ cfp mb wb k) W W'
section
variable {W w w' : World} {tb mb wb : Nat} {lo ro l1 r1 l2 r2 : Option Nat}
theorem TR.refl : TR W tb mb wb lo ro W lo ro:=⟨Grow.refl, Grow.refl, Chg.refl _ _⟩
theorem TR.trans (h : TR W tb mb wb lo ro w l1 r1) (h2 : TR w tb mb wb l1 r1 w' l2 r2) : TR W tb mb wb lo ro w' l2 r2:=by
 refine ⟨h.1.trans h2.1 h.2.2.size, h.2.1.trans h2.2.1 h.2.2.size, h.2.2.trans h2.2.2 (fun k hk e => ?_)⟩
 rcases e with e | e
 ·rcases Grow.fp (W1:=w) (tb:=tb) h.1 h.2.1 e with e | e
  ·exact .inl e
  ·omega
 ·exact .inr e
theorem TR.chg {F : Nat → Prop} (h : TR W tb mb wb lo ro w l1 r1) (hc : Chg F w w') (hF : ∀ k, F k → tfp tb l1 r1 k ∨ cfp mb wb k) : TR W tb mb wb lo ro w' l1 r1:=h.trans ⟨Grow.refl, Grow.refl, hc.mono (fun k _ e => hF k e)⟩
theorem TR.below (h : TR W tb mb wb lo ro w l1 r1) (hb : Below w.heap.size w w') : TR W tb mb wb lo ro w' l1 r1:=h.trans ⟨Grow.refl, Grow.refl, Chg.ofBelow hb⟩
theorem TR.set (h : TR W tb mb wb lo ro w l1 r1) (i : Nat) (v : Value) : TR W tb mb wb lo ro (w.setCell ⟨tb, i, none⟩ v) l1 r1:=h.trans ⟨Grow.refl, Grow.refl, (Chg.refl _ _).setCell ⟨tb, i, none⟩ _ (fun _ => .inl (.inl rfl))⟩
theorem TR.mem (h : TR W tb mb wb lo ro w l1 r1) (hc : Chg (cfp mb wb) w w') : TR W tb mb wb lo ro w' l1 r1:=h.chg hc (fun _ e => .inr e)
end
def SPost (W : World) (tb mb wb : Nat) (lo ro : Option Nat) (t : Tk.Tk) (ws : List Int) (tc : Int) (good : Bool) : Ending → World → Prop :=
 TPost W tb mb wb lo ro (.tuple #[]) (t.step ws good).1 (t.step ws good).2.1 (tc + (t.step ws good).2.2)
theorem len_sc {t : Tk.Tk} {ws : List Int} (hok : Tk.TkOk t ws) {i : Nat} (hi : i < Tk.ns t.cf) : Tk.sc t.cf i < ws.length:=by have:=hok.len; unfold Tk.sc; omega
theorem len_0 {t : Tk.Tk} {ws : List Int} (hok : Tk.TkOk t ws) : 0 < ws.length:=by have:=hok.len; omega
theorem seize_any {W : World} {tb mb wb : Nat} {lo ro : Option Nat} {t : Tk.Tk} {ws : List Int} {tc : Int} (h : TkAt W tb mb wb lo ro t ws tc) (hc : Small t.cf) (ht : 0 ≤ tc ∧ tc ≤ 4000000000000000000) {f : Tk.Fd} (hl : t.look = some f) (hf : f.found = true) (hi : f.at' < Tk.ns t.cf) (hlen : Tk.sc t.cf f.at' < ws.length) (d : Nat) (hd : DoneT d) :
  Calls Tryz.prog 88 #[.pointer (some ⟨tb, 0, none⟩), .pointer (some ⟨mb, 0, none⟩), .i d] W (TPost W tb mb wb lo ro (.bool (t.seize d ws).1) (t.seize d ws).2.1 (t.seize d ws).2.2.1 (tc + (t.seize d ws).2.2.2)):=by
 obtain ⟨fb, rfl, hF⟩:=h.look f hl
 have hfd : t.fd = f:=by unfold Tk.Tk.fd; rw [hl]; rfl
 have hfo:=found_any hF
 rw [hf, if_pos rfl] at hfo
 have hsw:=fun w h => tswap_any (W:=w) (lo:=some fb) (ro:=ro) (tb:=tb) (mb:=mb) (wb:=wb) (t:=t) (ws:=ws) (tc:=tc) h hc ht f.at' hi hlen f.word d hd
 have hse : t.seize d ws = if (t.swap f.at' f.word d ws).1 then t.swap f.at' f.word d ws else (false, { (t.swap f.at' f.word d ws).2.1 with look:=some (t.swap f.at' f.word d ws).2.1.fd.again }, (t.swap f.at' f.word d ws).2.2):=by unfold Tk.Tk.seize; rw [hfd]
 have hst:=Tk.swap_take t f.at' f.word d ws
 rw [hse]
 clear hse
 generalize t.swap f.at' f.word d ws = q at *
 obtain ⟨b, t', ws', n⟩:=q
 dsimp only at *
 have c7 : W.cell? ⟨tb, 7, none⟩ = some (.pointer (some ⟨fb, 0, none⟩)):=h.cell 7
 have H:=Lib.hid h
 clear h
 cases b
 ·have ht' : t' = t:=by
   rcases hst with ⟨x, g, -, e⟩ | ⟨e, -⟩
   ·cases e
   ·exact e
  subst ht'
  rw [if_neg (by simp), hfd]
  dsimp only
  go_enter Tryz.func88, Tryz.ntmps88
  go_wp2_with fail
  refine hfo.mono ?_
  rintro e w5 ⟨rfl, hb5⟩
  have hS:=hsw w5 (H.out.below hb5)
  clear hfo hsw c7
  go_wp2_with fail
  refine hS.mono ?_
  rintro e w6 ⟨rfl, lo6, ro6, h6, r6⟩
  have q6:=(TR.refl.below hb5).trans r6
  obtain ⟨fb6, rfl, hF6⟩:=h6.look f hl
  have d7 : w6.cell? ⟨tb, 7, none⟩ = some (.pointer (some ⟨fb6, 0, none⟩)):=h6.cell 7
  have hag:=again_any hF6
  have H6:=Lib.hid h6
  have Q6:=Lib.hid q6
  clear hS r6 q6 h6 hF6 hb5
  go_wp2_with fail
  refine hag.mono ?_
  rintro e w7 ⟨rfl, hF7, hC7⟩
  have hA:=H6.out.la fb6 rfl
  have h7:=H6.out.fstep rfl (hC7.mono (G:=fun k => k = fb6 ∨ cfp mb wb k) (fun _ _ e => .inl e)) hF7 (H6.out.mem.chg hC7 (fun e => hA.1.m e.symm) (fun e => hA.1.w e.symm))
  have q7:=Q6.out.chg hC7 (fun k e => .inl (.inr (.inl (by rw [e]))))
  have H7:=Lib.hid h7
  have Q7:=Lib.hid q7
  clear h7 q7 hag hF7 hC7 d7
  go_wp2_with fail
  go_ret
  exact ⟨rfl, some fb6, ro6, H7.out, Q7.out⟩
 ·rw [if_pos rfl]
  dsimp only
  go_enter Tryz.func88, Tryz.ntmps88
  go_wp2_with fail
  refine hfo.mono ?_
  rintro e w5 ⟨rfl, hb5⟩
  have hS:=hsw w5 (H.out.below hb5)
  clear hfo hsw c7
  go_wp2_with fail
  refine hS.mono ?_
  rintro e w6 ⟨rfl, lo6, ro6, h6, r6⟩
  have q6:=(TR.refl.below hb5).trans r6
  have H6:=Lib.hid h6
  have Q6:=Lib.hid q6
  clear hS r6 q6 h6 hb5
  go_wp2_with fail
  go_ret
  exact ⟨rfl, lo6, ro6, H6.out, Q6.out⟩
theorem m_closed {W : World} {tb mb wb : Nat} {lo ro : Option Nat} {t : Tk.Tk} {ws : List Int} {tc : Int} (h : TkAt W tb mb wb lo ro t ws tc) (hok : Tk.TkOk t ws) (ht : 0 ≤ tc ∧ tc ≤ 4000000000000000000) (hk : t.st = 0) (good : Bool) : Calls Tryz.prog 58 #[.pointer (some ⟨tb, 0, none⟩), .pointer (some ⟨mb, 0, none⟩), .bool good] W (SPost W tb mb wb lo ro t ws tc good):=by
 unfold SPost
 have hx:=rd_some (len_0 hok)
 have hld : Calls Tryz.prog 19 #[.pointer (some ⟨mb, 0, none⟩), .i 0] W _:=load_any h.mem ht 0 _ hx
 rw [Tk.st_0 hk]
 generalize Tk.rd ws 0 = x at *
 have H:=Lib.hid h
 clear h hx
 by_cases hz : x = 0
 ·subst hz
  try rw [if_neg (by simp)]
  dsimp only
  go_enter Tryz.func58, Tryz.ntmps58
  go_wp2_with fail
  refine hld.mono ?_
  rintro e w5 ⟨rfl, hM5, hC5⟩
  have h5:=H.out.mems hC5 hM5
  have q5:=(TR.refl (W:=W) (tb:=tb) (mb:=mb) (wb:=wb) (lo:=lo) (ro:=ro)).mem hC5
  have d5 : w5.cell? ⟨tb, 5, none⟩ = some (.i t.w):=h5.cell 5
  have hcl:=search_any h5 1 0 t.w
  have Q5:=Lib.hid q5
  clear q5
  go_wp2_with fail
  refine hcl.mono ?_
  rintro e w6 ⟨rfl, lo6, ro6, h6, r6⟩
  have H6:=Lib.hid h6
  have Q6:=Lib.hid (Q5.out.trans r6)
  clear hcl h6 r6
  go_wp2_with fail
  first | go_end0 | refine bodyPost_ret (results_none rfl _ _ _) rfl ?_
  exact ⟨rfl, lo6, ro6, H6.out, Q6.out⟩
 ·have hz2:=hz
  rw [if_pos hz]
  dsimp only
  go_enter Tryz.func58, Tryz.ntmps58
  go_wp2_with fail
  refine hld.mono ?_
  rintro e w5 ⟨rfl, hM5, hC5⟩
  have h5:=H.out.mems hC5 hM5
  have q5:=(TR.refl (W:=W) (tb:=tb) (mb:=mb) (wb:=wb) (lo:=lo) (ro:=ro)).mem hC5
  have hcl:=tend_any h5 5
  have Q5:=Lib.hid q5
  clear q5
  go_wp2_with fail
  refine hcl.mono ?_
  rintro e w6 ⟨rfl, lo6, ro6, h6, r6⟩
  have H6:=Lib.hid h6
  have Q6:=Lib.hid (Q5.out.trans r6)
  clear hcl h6 r6
  go_wp2_with fail
  first | go_end0 | refine bodyPost_ret (results_none rfl _ _ _) rfl ?_
  exact ⟨rfl, lo6, ro6, H6.out, Q6.out⟩
theorem m_check {W : World} {tb mb wb : Nat} {lo ro : Option Nat} {t : Tk.Tk} {ws : List Int} {tc : Int} (h : TkAt W tb mb wb lo ro t ws tc) (hok : Tk.TkOk t ws) (ht : 0 ≤ tc ∧ tc ≤ 4000000000000000000) (hk : t.st = 10) (good : Bool) : Calls Tryz.prog 68 #[.pointer (some ⟨tb, 0, none⟩), .pointer (some ⟨mb, 0, none⟩), .bool good] W (SPost W tb mb wb lo ro t ws tc good):=by
 unfold SPost
 have hx:=rd_some (len_0 hok)
 have hld : Calls Tryz.prog 19 #[.pointer (some ⟨mb, 0, none⟩), .i 0] W _:=load_any h.mem ht 0 _ hx
 rw [Tk.st_10 hk]
 generalize Tk.rd ws 0 = x at *
 have H:=Lib.hid h
 clear h hx
 by_cases hz : x = 0
 ·subst hz
  try rw [if_pos rfl]
  dsimp only
  go_enter Tryz.func68, Tryz.ntmps68
  go_wp2_with fail
  refine hld.mono ?_
  rintro e w5 ⟨rfl, hM5, hC5⟩
  have h5:=H.out.mems hC5 hM5
  have q5:=(TR.refl (W:=W) (tb:=tb) (mb:=mb) (wb:=wb) (lo:=lo) (ro:=ro)).mem hC5
  have hcl:=tend_any h5 0
  have Q5:=Lib.hid q5
  clear q5
  go_wp2_with fail
  refine hcl.mono ?_
  rintro e w6 ⟨rfl, lo6, ro6, h6, r6⟩
  have H6:=Lib.hid h6
  have Q6:=Lib.hid (Q5.out.trans r6)
  clear hcl h6 r6
  go_wp2_with fail
  first | go_end0 | refine bodyPost_ret (results_none rfl _ _ _) rfl ?_
  exact ⟨rfl, lo6, ro6, H6.out, Q6.out⟩
 ·have hz2:=hz
  rw [if_neg hz]
  dsimp only
  go_enter Tryz.func68, Tryz.ntmps68
  go_wp2_with fail
  refine hld.mono ?_
  rintro e w5 ⟨rfl, hM5, hC5⟩
  have h5:=H.out.mems hC5 hM5
  have q5:=(TR.refl (W:=W) (tb:=tb) (mb:=mb) (wb:=wb) (lo:=lo) (ro:=ro)).mem hC5
  have d6 : w5.cell? ⟨tb, 6, none⟩ = some (.i t.st):=h5.cell 6
  have df6:=h5.frozen 6
  have H5:=Lib.hid h5
  have Q5:=Lib.hid q5
  clear h5 q5 hM5 hC5
  go_wp2_with fail
  first | go_end0 | refine bodyPost_ret (results_none rfl _ _ _) rfl ?_
  exact ⟨rfl, lo, ro, H5.out.put 6 (.i 11) { t with st:=11 } rfl rfl rfl rfl, Q5.out.set 6 _⟩
theorem m_own {W : World} {tb mb wb : Nat} {lo ro : Option Nat} {t : Tk.Tk} {ws : List Int} {tc : Int} (h : TkAt W tb mb wb lo ro t ws tc) (hok : Tk.TkOk t ws) (ht : 0 ≤ tc ∧ tc ≤ 4000000000000000000) (hk : t.st = 1) (good : Bool) : Calls Tryz.prog 59 #[.pointer (some ⟨tb, 0, none⟩), .pointer (some ⟨mb, 0, none⟩), .bool good] W (SPost W tb mb wb lo ro t ws tc good):=by
 unfold SPost
 have hsk:=seek_any h hok ht (by omega) (by omega)
 rw [Tk.st_1 hk]
 have hw : (t.seek ws).2.2.1.w = t.w:=rfl
 generalize t.seek ws = q at *
 obtain ⟨b1, b2, t', n⟩:=q
 dsimp only at *
 try rw [← hw]
 have H:=Lib.hid h
 clear h hw
 cases b1
 ·rw [if_neg (by simp)]
  cases b2
  ·rw [if_neg (by simp)]
   dsimp only
   go_enter Tryz.func59, Tryz.ntmps59
   go_wp2_with fail
   refine hsk.mono ?_
   rintro e w5 ⟨rfl, lo5, ro5, h5, r5⟩
   have q5 : TR W tb mb wb lo ro w5 lo5 ro5:=r5
   have H5:=Lib.hid h5
   clear h5 r5 hsk
   go_wp2_with fail
   first | go_end0 | refine bodyPost_ret (results_none rfl _ _ _) rfl ?_
   exact ⟨rfl, lo5, ro5, H5.out, q5⟩
  ·rw [if_pos rfl]
   dsimp only
   go_enter Tryz.func59, Tryz.ntmps59
   go_wp2_with fail
   refine hsk.mono ?_
   rintro e w5 ⟨rfl, lo5, ro5, h5, r5⟩
   have q5 : TR W tb mb wb lo ro w5 lo5 ro5:=r5
   have d5 : w5.cell? ⟨tb, 5, none⟩ = some (.i t'.w):=h5.cell 5
   have hcl:=search_any h5 3 1 t'.w
   have Q5:=Lib.hid q5
   clear q5
   go_wp2_with fail
   refine hcl.mono ?_
   rintro e w6 ⟨rfl, lo6, ro6, h6, r6⟩
   have H6:=Lib.hid h6
   have Q6:=Lib.hid (Q5.out.trans r6)
   clear hcl h6 r6
   go_wp2_with fail
   first | go_end0 | refine bodyPost_ret (results_none rfl _ _ _) rfl ?_
   exact ⟨rfl, lo6, ro6, H6.out, Q6.out⟩
 ·rw [if_pos rfl]
  dsimp only
  go_enter Tryz.func59, Tryz.ntmps59
  go_wp2_with fail
  refine hsk.mono ?_
  rintro e w5 ⟨rfl, lo5, ro5, h5, r5⟩
  have q5 : TR W tb mb wb lo ro w5 lo5 ro5:=r5
  have d6 : w5.cell? ⟨tb, 6, none⟩ = some (.i t'.st):=h5.cell 6
  have df6:=h5.frozen 6
  have H5:=Lib.hid h5
  have Q5:=Lib.hid q5
  clear h5 r5 q5 hsk
  go_wp2_with fail
  first | go_end0 | refine bodyPost_ret (results_none rfl _ _ _) rfl ?_
  exact ⟨rfl, lo5, ro5, H5.out.put 6 (.i 2) { t' with st:=2 } rfl rfl rfl rfl, Q5.out.set 6 _⟩
theorem m_any {W : World} {tb mb wb : Nat} {lo ro : Option Nat} {t : Tk.Tk} {ws : List Int} {tc : Int} (h : TkAt W tb mb wb lo ro t ws tc) (hok : Tk.TkOk t ws) (ht : 0 ≤ tc ∧ tc ≤ 4000000000000000000) (hk : t.st = 3) (good : Bool) : Calls Tryz.prog 61 #[.pointer (some ⟨tb, 0, none⟩), .pointer (some ⟨mb, 0, none⟩), .bool good] W (SPost W tb mb wb lo ro t ws tc good):=by
 unfold SPost
 have hsk:=seek_any h hok ht (by omega) (by omega)
 rw [Tk.st_3 hk]
 have hw : (t.seek ws).2.2.1.w = t.w:=rfl
 generalize t.seek ws = q at *
 obtain ⟨b1, b2, t', n⟩:=q
 dsimp only at *
 try rw [← hw]
 have H:=Lib.hid h
 clear h hw
 cases b1
 ·rw [if_neg (by simp)]
  cases b2
  ·rw [if_neg (by simp)]
   dsimp only
   go_enter Tryz.func61, Tryz.ntmps61
   go_wp2_with fail
   refine hsk.mono ?_
   rintro e w5 ⟨rfl, lo5, ro5, h5, r5⟩
   have q5 : TR W tb mb wb lo ro w5 lo5 ro5:=r5
   have H5:=Lib.hid h5
   clear h5 r5 hsk
   go_wp2_with fail
   first | go_end0 | refine bodyPost_ret (results_none rfl _ _ _) rfl ?_
   exact ⟨rfl, lo5, ro5, H5.out, q5⟩
  ·rw [if_pos rfl]
   dsimp only
   go_enter Tryz.func61, Tryz.ntmps61
   go_wp2_with fail
   refine hsk.mono ?_
   rintro e w5 ⟨rfl, lo5, ro5, h5, r5⟩
   have q5 : TR W tb mb wb lo ro w5 lo5 ro5:=r5
   have d5 : w5.cell? ⟨tb, 5, none⟩ = some (.i t'.w):=h5.cell 5
   have hcl:=search_any h5 7 2 t'.w
   have Q5:=Lib.hid q5
   clear q5
   go_wp2_with fail
   refine hcl.mono ?_
   rintro e w6 ⟨rfl, lo6, ro6, h6, r6⟩
   have H6:=Lib.hid h6
   have Q6:=Lib.hid (Q5.out.trans r6)
   clear hcl h6 r6
   go_wp2_with fail
   first | go_end0 | refine bodyPost_ret (results_none rfl _ _ _) rfl ?_
   exact ⟨rfl, lo6, ro6, H6.out, Q6.out⟩
 ·rw [if_pos rfl]
  dsimp only
  go_enter Tryz.func61, Tryz.ntmps61
  go_wp2_with fail
  refine hsk.mono ?_
  rintro e w5 ⟨rfl, lo5, ro5, h5, r5⟩
  have q5 : TR W tb mb wb lo ro w5 lo5 ro5:=r5
  have d6 : w5.cell? ⟨tb, 6, none⟩ = some (.i t'.st):=h5.cell 6
  have df6:=h5.frozen 6
  have H5:=Lib.hid h5
  have Q5:=Lib.hid q5
  clear h5 r5 q5 hsk
  go_wp2_with fail
  first | go_end0 | refine bodyPost_ret (results_none rfl _ _ _) rfl ?_
  exact ⟨rfl, lo5, ro5, H5.out.put 6 (.i 4) { t' with st:=4 } rfl rfl rfl rfl, Q5.out.set 6 _⟩
theorem m_free {W : World} {tb mb wb : Nat} {lo ro : Option Nat} {t : Tk.Tk} {ws : List Int} {tc : Int} (h : TkAt W tb mb wb lo ro t ws tc) (hok : Tk.TkOk t ws) (ht : 0 ≤ tc ∧ tc ≤ 4000000000000000000) (hk : t.st = 7) (good : Bool) : Calls Tryz.prog 65 #[.pointer (some ⟨tb, 0, none⟩), .pointer (some ⟨mb, 0, none⟩), .bool good] W (SPost W tb mb wb lo ro t ws tc good):=by
 unfold SPost
 have hsk:=seek_any h hok ht (by omega) (by omega)
 rw [Tk.st_7 hk]
 have hw : (t.seek ws).2.2.1.w = t.w:=rfl
 generalize t.seek ws = q at *
 obtain ⟨b1, b2, t', n⟩:=q
 dsimp only at *
 try rw [← hw]
 have H:=Lib.hid h
 clear h hw
 cases b1
 ·rw [if_neg (by simp)]
  cases b2
  ·rw [if_neg (by simp)]
   dsimp only
   go_enter Tryz.func65, Tryz.ntmps65
   go_wp2_with fail
   refine hsk.mono ?_
   rintro e w5 ⟨rfl, lo5, ro5, h5, r5⟩
   have q5 : TR W tb mb wb lo ro w5 lo5 ro5:=r5
   have H5:=Lib.hid h5
   clear h5 r5 hsk
   go_wp2_with fail
   first | go_end0 | refine bodyPost_ret (results_none rfl _ _ _) rfl ?_
   exact ⟨rfl, lo5, ro5, H5.out, q5⟩
  ·rw [if_pos rfl]
   dsimp only
   go_enter Tryz.func65, Tryz.ntmps65
   go_wp2_with fail
   refine hsk.mono ?_
   rintro e w5 ⟨rfl, lo5, ro5, h5, r5⟩
   have q5 : TR W tb mb wb lo ro w5 lo5 ro5:=r5
   have d5 : w5.cell? ⟨tb, 5, none⟩ = some (.i t'.w):=h5.cell 5
   have hcl:=tend_any h5 3
   have Q5:=Lib.hid q5
   clear q5
   go_wp2_with fail
   refine hcl.mono ?_
   rintro e w6 ⟨rfl, lo6, ro6, h6, r6⟩
   have H6:=Lib.hid h6
   have Q6:=Lib.hid (Q5.out.trans r6)
   clear hcl h6 r6
   go_wp2_with fail
   first | go_end0 | refine bodyPost_ret (results_none rfl _ _ _) rfl ?_
   exact ⟨rfl, lo6, ro6, H6.out, Q6.out⟩
 ·rw [if_pos rfl]
  dsimp only
  go_enter Tryz.func65, Tryz.ntmps65
  go_wp2_with fail
  refine hsk.mono ?_
  rintro e w5 ⟨rfl, lo5, ro5, h5, r5⟩
  have q5 : TR W tb mb wb lo ro w5 lo5 ro5:=r5
  have d6 : w5.cell? ⟨tb, 6, none⟩ = some (.i t'.st):=h5.cell 6
  have df6:=h5.frozen 6
  have H5:=Lib.hid h5
  have Q5:=Lib.hid q5
  clear h5 r5 q5 hsk
  go_wp2_with fail
  first | go_end0 | refine bodyPost_ret (results_none rfl _ _ _) rfl ?_
  exact ⟨rfl, lo5, ro5, H5.out.put 6 (.i 8) { t' with st:=8 } rfl rfl rfl rfl, Q5.out.set 6 _⟩
theorem m_ownSwap {W : World} {tb mb wb : Nat} {lo ro : Option Nat} {t : Tk.Tk} {ws : List Int} {tc : Int} (h : TkAt W tb mb wb lo ro t ws tc) (hok : Tk.TkOk t ws) (ht : 0 ≤ tc ∧ tc ≤ 4000000000000000000) (hk : t.st = 2) (good : Bool) : Calls Tryz.prog 60 #[.pointer (some ⟨tb, 0, none⟩), .pointer (some ⟨mb, 0, none⟩), .bool good] W (SPost W tb mb wb lo ro t ws tc good):=by
 unfold SPost
 obtain ⟨f, hl, hfo⟩:=hok.has (by omega) (by omega)
 have hf:=hfo (by omega)
 have hat:=(hok.look f hl).2.2 hf
 have h1:=h.put 6 (.i 1) { t with st:=1 } rfl rfl rfl rfl
 have hz:=seize_any h1 ⟨hok.c.w, hok.c.s⟩ ht hl hf hat (len_sc hok hat) 3 (by simp [DoneT])
 rw [Tk.st_2 hk]
 generalize Tk.Tk.seize { t with st:=1 } 3 ws = q at *
 obtain ⟨b, t', ws', n⟩:=q
 dsimp only at *
 have c6 : W.cell? ⟨tb, 6, none⟩ = some (.i t.st):=h.cell 6
 have cf6:=h.frozen 6
 clear h h1
 cases b
 ·rw [if_neg (by simp)]
  go_enter Tryz.func60, Tryz.ntmps60
  go_wp2_with fail
  refine hz.mono ?_
  rintro e w5 ⟨rfl, lo5, ro5, h5, r5⟩
  have q5:=((TR.refl (W:=W) (tb:=tb) (mb:=mb) (wb:=wb) (lo:=lo) (ro:=ro)).set 6 (.i 1)).trans r5
  have H5:=Lib.hid h5
  have Q5:=Lib.hid q5
  clear h5 r5 q5 hz c6 cf6
  go_wp2_with fail
  first | go_end0 | refine bodyPost_ret (results_none rfl _ _ _) rfl ?_
  exact ⟨rfl, lo5, ro5, H5.out, Q5.out⟩
 ·rw [if_pos rfl]
  go_enter Tryz.func60, Tryz.ntmps60
  go_wp2_with fail
  refine hz.mono ?_
  rintro e w5 ⟨rfl, lo5, ro5, h5, r5⟩
  have q5:=((TR.refl (W:=W) (tb:=tb) (mb:=mb) (wb:=wb) (lo:=lo) (ro:=ro)).set 6 (.i 1)).trans r5
  have d6 : w5.cell? ⟨tb, 6, none⟩ = some (.i t'.st):=h5.cell 6
  have df6:=h5.frozen 6
  have H5:=Lib.hid h5
  have Q5:=Lib.hid q5
  clear h5 r5 q5 hz c6 cf6
  go_wp2_with fail
  first | go_end0 | refine bodyPost_ret (results_none rfl _ _ _) rfl ?_
  exact ⟨rfl, lo5, ro5, H5.out.put 6 (.i 10) { t' with st:=10 } rfl rfl rfl rfl, Q5.out.set 6 _⟩
theorem m_freeSwap {W : World} {tb mb wb : Nat} {lo ro : Option Nat} {t : Tk.Tk} {ws : List Int} {tc : Int} (h : TkAt W tb mb wb lo ro t ws tc) (hok : Tk.TkOk t ws) (ht : 0 ≤ tc ∧ tc ≤ 4000000000000000000) (hk : t.st = 8) (good : Bool) : Calls Tryz.prog 66 #[.pointer (some ⟨tb, 0, none⟩), .pointer (some ⟨mb, 0, none⟩), .bool good] W (SPost W tb mb wb lo ro t ws tc good):=by
 unfold SPost
 obtain ⟨f, hl, hfo⟩:=hok.has (by omega) (by omega)
 have hf:=hfo (by omega)
 have hat:=(hok.look f hl).2.2 hf
 have h1:=h.put 6 (.i 7) { t with st:=7 } rfl rfl rfl rfl
 have hz:=seize_any h1 ⟨hok.c.w, hok.c.s⟩ ht hl hf hat (len_sc hok hat) 0 (by simp [DoneT])
 rw [Tk.st_8 hk]
 generalize Tk.Tk.seize { t with st:=7 } 0 ws = q at *
 obtain ⟨b, t', ws', n⟩:=q
 dsimp only at *
 have c6 : W.cell? ⟨tb, 6, none⟩ = some (.i t.st):=h.cell 6
 have cf6:=h.frozen 6
 clear h h1
 cases b
 ·rw [if_neg (by simp)]
  go_enter Tryz.func66, Tryz.ntmps66
  go_wp2_with fail
  refine hz.mono ?_
  rintro e w5 ⟨rfl, lo5, ro5, h5, r5⟩
  have q5:=((TR.refl (W:=W) (tb:=tb) (mb:=mb) (wb:=wb) (lo:=lo) (ro:=ro)).set 6 (.i 7)).trans r5
  have H5:=Lib.hid h5
  have Q5:=Lib.hid q5
  clear h5 r5 q5 hz c6 cf6
  go_wp2_with fail
  first | go_end0 | refine bodyPost_ret (results_none rfl _ _ _) rfl ?_
  exact ⟨rfl, lo5, ro5, H5.out, Q5.out⟩
 ·rw [if_pos rfl]
  go_enter Tryz.func66, Tryz.ntmps66
  go_wp2_with fail
  refine hz.mono ?_
  rintro e w5 ⟨rfl, lo5, ro5, h5, r5⟩
  have q5:=((TR.refl (W:=W) (tb:=tb) (mb:=mb) (wb:=wb) (lo:=lo) (ro:=ro)).set 6 (.i 7)).trans r5
  have d6 : w5.cell? ⟨tb, 6, none⟩ = some (.i t'.st):=h5.cell 6
  have df6:=h5.frozen 6
  have H5:=Lib.hid h5
  have Q5:=Lib.hid q5
  clear h5 r5 q5 hz c6 cf6
  go_wp2_with fail
  first | go_end0 | refine bodyPost_ret (results_none rfl _ _ _) rfl ?_
  exact ⟨rfl, lo5, ro5, H5.out.put 6 (.i 9) { t' with st:=9 } rfl rfl rfl rfl, Q5.out.set 6 _⟩
end Go.Proofs.YtefpoidnklflnaaGreatDoor.Cl
namespace Go.Proofs.YtefpoidnklflnaaGreatDoor.Tk
open Go.RowKit Hp Slot RowL Life
theorem fd_few (c : Conf.Cf) (f : Tk.Fd) (ws : List Int) : (f.step c ws).2.2 ≤ 1:=by
 unfold Fd.step
 split
 ·simp
 ·split <;> simp
theorem seek_few (t : Tk) (ws : List Int) : (t.seek ws).2.2.2 ≤ 1:=fd_few _ _ _
theorem swap_few (t : Tk) (i : Nat) (word : Int) (d : Nat) (ws : List Int) : (t.swap i word d ws).2.2.2 ≤ 1:=by
 unfold Tk.swap
 split
 ·split <;> simp
 ·simp
theorem seize_few (t : Tk) (d : Nat) (ws : List Int) : (t.seize d ws).2.2.2 ≤ 1:=by
 have h:=swap_few t t.fd.at' t.fd.word d ws
 unfold Tk.seize
 dsimp only
 split <;> exact h
theorem rt_few (r : Rt) (ws : List Int) : (r.step ws).2.2.2 ≤ 1:=by
 unfold Rt.step
 split
 ·split
  ·split <;> simp
  ·simp
 ·simp
 ·split <;> simp
 ·simp
 ·simp
theorem step_few (t : Tk) (ws : List Int) (good : Bool) : (t.step ws good).2.2 ≤ 1:=by
 have a:=seek_few t ws
 have z2:=seize_few { t with st:=1 } 3 ws
 have z4:=seize_few { t with st:=3 } 3 ws
 have z8:=seize_few { t with st:=7 } 0 ws
 have s9:=fun d => swap_few t t.i t.word d ws
 have r12:=rt_few t.ret ws
 unfold Tk.step
 split
 ·split <;> simp
 ·dsimp only; split; exact a; split <;> exact a
 ·dsimp only; split <;> exact z2
 ·dsimp only; split; exact a; split <;> exact a
 ·dsimp only
  split
  ·split
   ·split <;> exact z4
   ·exact z4
  ·exact z4
 ·dsimp only; split; exact a; split; exact a; split <;> exact a
 ·split <;> simp
 ·dsimp only; split; exact a; split <;> exact a
 ·dsimp only; split <;> exact z8
 ·dsimp only; generalize (if good = true then 1 else 2) = d; split <;> exact s9 _
 ·split <;> simp
 ·dsimp only
  split
  ·split <;> simp
  ·simp
 ·dsimp only
  split
  ·split <;> exact r12
  ·exact r12
 ·simp
 ·split
  ·simp
  ·dsimp only
   split
   ·split <;> exact s9 _
   ·exact s9 _
 ·simp
theorem alone_ok (good : Bool) : ∀ (f n : Nat) {t : Tk} {ws : List Int}, TkOk t ws → TkOk (alone good f n t ws).2.1 (alone good f n t ws).2.2
 | 0, n, t, ws, h => h
 | f + 1, n, t, ws, h => by
  have h1:=h.step good
  unfold alone
  split
  ·exact h1
  ·exact alone_ok good f (n + 1) h1
theorem alone_cf (good : Bool) : ∀ (f n : Nat) {t : Tk} {ws : List Int}, TkOk t ws → (alone good f n t ws).2.1.cf = t.cf
 | 0, n, t, ws, h => rfl
 | f + 1, n, t, ws, h => by
  have h1:=(step_cf t ws good h.st).1
  unfold alone
  split
  ·exact h1
  ·rw [alone_cf good f (n + 1) (h.step good)]
   exact h1
theorem alone_no (good : Bool) {f n : Nat} {t : Tk} {ws : List Int} (h : (t.step ws good).1.st ≠ 15) : alone good (f + 1) n t ws = alone good f (n + 1) (t.step ws good).1 (t.step ws good).2.1:=by
 rw [alone]
 exact if_neg h
theorem alone_yes (good : Bool) {f n : Nat} {t : Tk} {ws : List Int} (h : (t.step ws good).1.st = 15) : alone good (f + 1) n t ws = (n + 1, (t.step ws good).1, (t.step ws good).2.1):=by
 rw [alone]
 exact if_pos h
end Go.Proofs.YtefpoidnklflnaaGreatDoor.Tk
namespace Go.Proofs.YtefpoidnklflnaaGreatDoor.Cl
open Go.RowKit Hp Slot RowL Life
def flatS (l : List S) : List Value:=(l.map fun s => s.cells.toList).flatten
theorem flatS_len (l : List S) : (flatS l).length = l.length * 9:=by
 induction l with
 | nil => rfl
 | cons s l ih =>
  have e : flatS (s :: l) = s.cells.toList ++ flatS l:=rfl
  rw [e, List.length_append, ih, List.length_cons]
  show 9 + l.length * 9 = _
  omega
theorem flatS_get (l : List S) (k : Nat) (s : S) (h : l[k]? = some s) (j : Nat) (v : Value) (hv : s.cells[j]? = some v) : (flatS l)[k * 9 + j]? = some v:=by
 induction l generalizing k with
 | nil => simp at h
 | cons x l ih =>
  have e : flatS (x :: l) = x.cells.toList ++ flatS l:=rfl
  have hx : x.cells.toList.length = 9:=rfl
  have hj : j < 9:=by have:=(Array.getElem?_eq_some_iff.1 hv).1; simpa [S.cells] using this
  cases k with
  | zero =>
   simp at h
   subst h
   rw [e, List.getElem?_append_left (by omega), ← hv]
   simp
  | succ k =>
   rw [e, List.getElem?_append_right (by omega), hx, show (k + 1) * 9 + j - 9 = k * 9 + j by omega]
   exact ih k (by simpa using h)
theorem flatS_add (l : List S) (s : S) : flatS (l ++ [s]) = flatS l ++ s.cells.toList:=by simp [flatS]
theorem rd_here {ws : List Int} {i : Nat} (h : i < ws.length) : ws[i]? = some (Tk.rd ws i):=by
 unfold Tk.rd
 rw [List.getD_eq_getElem?_getD, List.getElem?_eq_getElem h]
 rfl
def decZ (x : Int) : S:=(dec x).getD S.zero
def slotsOf (c : Conf.Cf) (ws : List Int) : List S:=(List.range (Tk.ns c)).map fun k => decZ (Tk.rd ws (Tk.sc c k))
theorem slotsOf_len (c : Conf.Cf) (ws : List Int) : (slotsOf c ws).length = Tk.ns c:=by simp [slotsOf]
theorem slotsOf_get (c : Conf.Cf) (ws : List Int) {k : Nat} (h : k < Tk.ns c) : (slotsOf c ws)[k]? = some (decZ (Tk.rd ws (Tk.sc c k))):=by simp [slotsOf, h]
theorem slotsOf_cells {c : Conf.Cf} {pre : List Int} {ss : List S} (h : Tk.Pool c pre ss) : slotsOf c (Tk.cells pre ss) = ss:=by
 apply List.ext_getElem?
 intro k
 by_cases hk : k < Tk.ns c
 ·obtain ⟨s, hs⟩ : ∃ s, ss[k]? = some s:=⟨_, List.getElem?_eq_getElem (by rw [h.sl]; exact hk)⟩
  rw [slotsOf_get c _ hk, Tk.rd_slot h hs, hs]
  unfold decZ
  rw [dec_word (h.get hs)]
  rfl
 ·rw [List.getElem?_eq_none (by rw [slotsOf_len]; omega), List.getElem?_eq_none (by rw [h.sl]; omega)]
theorem s_new (w : World) (y : S) : ∀ j u, y.cells.toList[j]? = some u → (w.alloc (.cells y.cells 30)).cell? ((⟨w.heap.size, 0, none⟩ : Addr).add j) = some u:=by
 intro j u hu
 have h:=RowAt.cell (RowAt.new w y.cells 30) j
 have he : (⟨w.heap.size, 0, none⟩ : Addr).add j = ⟨w.heap.size, j, none⟩:=by by_cases h0 : j = 0 <;> simp [Addr.add, h0]
 rw [he, h]
 simpa using hu
theorem s_one (y : S) : ∀ u ∈ y.cells.toList, u.oneCell' = true:=by
 intro u hu
 simp [S.cells] at hu
 rcases hu with rfl | rfl | rfl | rfl | rfl | rfl | rfl | rfl | rfl <;> rfl
theorem slot_info : ∃ i0, Tryz.prog.info? 30 = some i0 ∧ i0.zero = some S.zero.val ∧ i0.size = 9 ∧ i0.bytes = 64:=by
 have h : (Tryz.prog.info? 30).map (fun i => (i.zero, i.size, i.bytes)) = some (some S.zero.val, 9, 64):=by kernel_rfl
 cases hi : Tryz.prog.info? 30 with
 | none => rw [hi] at h; cases h
 | some i =>
  rw [hi] at h
  simp only [Option.map_some, Option.some.injEq, Prod.mk.injEq] at h
  exact ⟨i, rfl, h.1, h.2.1, h.2.2⟩
theorem s_fill (y : S) : Instr.fill (fun i => some (i * 9, 9)) ((Array.range (1 * 9)).map (S.zero.val.cells[· % S.zero.val.cells.size]!)) [(0, y.val)] = some y.cells:=by kernel_rfl
theorem build_s (w : World) (y : S) : (Instr.buildSlice 47 1 #[(0, .agg y.cells)]).run Tryz.prog w = .ok (.slice (some ⟨w.heap.size, 0, none⟩) 1 1) (w.alloc (.cells y.cells 30)):=by
 obtain ⟨ie, hi, hz, hs, hb⟩:=slot_info
 refine run_buildSlice w 47 30 1 #[(0, .agg y.cells)] y.cells ie S.zero.val Tryz.underlying47 hi hz (by rw [hs]; omega) (by rw [hs]; omega) ?_
 rw [hs]
 exact s_fill y
theorem wpList_build_s {ops : Array Oper} {rest : List Oper} {o : Oper} {a : Act} {w : World} {Q : Exit → Act → World → Prop} (hg : o.guard = none) (x : Operand) (ho : o.op = .buildSlice 47 1 #[(0, x)]) (y : S) (hx : a.eval x = .agg y.cells)
  (h : wpList Tryz.prog ops Q rest (a.put o.dst (.slice (some ⟨w.heap.size, 0, none⟩) 1 1)) (w.alloc (.cells y.cells 30))) : wpList Tryz.prog ops Q (o :: rest) a w :=
 wpList_plain hg fun _ hK => by
  have e : ((#[(0, x)] : Array (Nat × Operand)).map fun (i, x) => (i, a.eval x)) = #[(0, .agg y.cells)]:=by simp [hx]
  unfold Oper.wp execOp
  simp only [ho]
  rw [e]
  simp only [Sem.run_bind, build_s w y, Result.andThen_ok]
  exact hK _ _ h
def SlotsPost (W : World) (ss : List S) (e : Ending) (W' : World) : Prop :=
 ∃ a c, e = .returned (.slice a ss.length c) ∧ SlotsIn W' a ss ∧ Below W.heap.size W W'
theorem slotsIn_own {W : World} {a : Option Addr} {n c : Nat} {l : List S} (h : OwnS W (.slice a n c) n 9 (flatS l)) (hn : l.length = n) : SlotsIn W a l:=by
 intro k s hs
 have hk : k < l.length:=(List.getElem?_eq_some_iff.1 hs).1
 rcases h.2 with ⟨e, h0⟩ | ⟨g, off, cap, e, h1, h2, h3, h4, h5, h6⟩
 ·omega
 ·cases e
  exact ⟨g, off, rfl, fun j v hv => by rw [Nat.add_assoc]; exact h6 _ _ (flatS_get l k s hs j v hv)⟩
theorem ref_slots_any (W : World) (c : Conf.Cf) (hr : c.right = true) (g o cap : Nat) (ws : List Int) (hl : ws.length = Tk.sc c (Tk.ns c)) (hs : IntsB W g o ws) (hw : ∀ x ∈ ws, x < 9223372036854775808) :
  Calls Tryz.prog 21 #[c.val, .slice (some ⟨g, o, none⟩) ws.length cap] W (SlotsPost W (slotsOf c ws)):=by
 obtain ⟨⟨a0, a1⟩, b0, b1⟩:=right_small hr
 have hce:=fun w => ref_cells_any w c ⟨by omega, a1⟩ ⟨b0, by omega⟩
 have hn : 3 + 2 * c.workers + c.slots = (ws.length : Int):=by rw [hl]; unfold Tk.sc Tk.ns; omega
 simp only [hn] at hce
 have hsl : ∀ k, k < Tk.ns c → ∃ j x, j < ws.length ∧ ws[j]? = some x ∧ decZ x = decZ (Tk.rd ws (Tk.sc c k)) ∧ x < 9223372036854775808 ∧ ∀ w, Calls Tryz.prog 12 #[c.val, .i k] w fun e w' => e = .returned (.i (j : Nat)) ∧ Below w.heap.size w w':=by
  intro k hk
  have hj : Tk.sc c k < ws.length:=by rw [hl]; unfold Tk.sc Tk.ns at *; omega
  refine ⟨Tk.sc c k, Tk.rd ws (Tk.sc c k), hj, rd_here hj, rfl, hw _ (List.mem_of_getElem? (rd_here hj)), fun w => ?_⟩
  have h:=ref_slot_any w c k ⟨by omega, a1⟩ ⟨by unfold Tk.ns at hk; omega, by omega⟩
  rwa [show 3 + 2 * c.workers + (k : Int) = ((Tk.sc c k : Nat) : Int) by unfold Tk.sc; omega] at h
 have hdl:=slotsOf_len c ws
 have hdg:=fun k (h : k < Tk.ns c) => slotsOf_get c ws h
 have hnc : (Tk.ns c : Int) = c.slots:=by unfold Tk.ns; omega
 have hnl : 1 ≤ ws.length ∧ ws.length ≤ 4096:=by rw [hl]; unfold Tk.sc Tk.ns; omega
 have hds : ∀ k, k < Tk.ns c → ∃ j x, j < ws.length ∧ ws[j]? = some x ∧ (slotsOf c ws)[k]? = some (decZ x) ∧ x < 9223372036854775808 ∧ ∀ w, Calls Tryz.prog 12 #[c.val, .i k] w fun e w' => e = .returned (.i (j : Nat)) ∧ Below w.heap.size w w':=by
  intro k hk
  obtain ⟨j, x, h1, h2, h3, h4, h5⟩:=hsl k hk
  exact ⟨j, x, h1, h2, by rw [hdg k hk, h3], h4, h5⟩
 clear hsl hdg hw
 generalize slotsOf c ws = ds at *
 generalize hN : Tk.ns c = N at *
 clear hl hr hN
 obtain ⟨i0, hi, hz0, hz1, hz2⟩:=slot_info
 have HI:=Lib.hid hi
 clear hi
 obtain ⟨cw, cs, cst, cwa, cu⟩:=c
 simp only [Conf.Cf.val, Conf.Cf.cells] at hce hds
 dsimp only at *
 subst hnc
 have hA : Below W.heap.size W (W.alloc (.cells (Aa cw N cst cwa cu) 25)):=(Below.refl _ _).alloc (Nat.le_refl _) _
 have hrow : RowAt (W.alloc (.cells (Aa cw N cst cwa cu) 25)) W.heap.size (Aa cw N cst cwa cu) 25:=RowAt.new _ _ _
 have hgl : g < W.heap.size:=hs.lt (by omega)
 have hs1:=hs.below hA
 have Hds:=Lib.hid hds
 have HA:=Lib.hid hA
 have HR:=Lib.hid hrow
 have HS:=Lib.hid hs1
 clear hs hA hrow hs1 hds
 go_enter Tryz.func21, Tryz.ntmps21
 simp only [Conf.Cf.val, Conf.Cf.cells]
 go_wp2_with fail
 generalize (W.alloc (.cells (Aa cw N cst cwa cu) 25)) = w0 at *
 go_loopw [5, 6] (fun v i wr => ∃ k : Nat, k ≤ N ∧ i = .i k ∧ RowKit.Hid (OwnS wr v k 9 (flatS (ds.take k))) ∧ RowKit.Hid (∀ x, Fp v x → W.heap.size + 1 ≤ x) ∧ RowKit.Hid (Below W.heap.size W wr) ∧ RowKit.Hid (RowAt wr W.heap.size (Aa cw N cst cwa cu) 25) ∧ RowKit.Hid (IntsB wr g o ws)) (fun v i _ => N - (intOf i).toNat)
 case atStart => exact ⟨0, by omega, rfl, Lib.hid (by rw [List.take_zero]; exact ownS_nil _ 9), fun x h => absurd h (fp_nil x), HA, HR, HS⟩
 case round =>
  obtain ⟨k, hk, rfl, hown, hfp, hB, hrw, hI⟩:=hrel
  obtain ⟨a, cp, rfl⟩:=hown.out.form
  clear HA HR HS
  have c0 : wr.cell? ⟨W.heap.size, 0, none⟩ = some (.i cw):=RowAt.cell hrw.out 0
  have c1 : wr.cell? ⟨W.heap.size, 1, none⟩ = some (.i N):=RowAt.cell hrw.out 1
  have c2 : wr.cell? ⟨W.heap.size, 2, none⟩ = some (.i cst):=RowAt.cell hrw.out 2
  have c3 : wr.cell? ⟨W.heap.size, 3, none⟩ = some (.i cwa):=RowAt.cell hrw.out 3
  have c4 : wr.cell? ⟨W.heap.size, 4, none⟩ = some (.i cu):=RowAt.cell hrw.out 4
  by_cases hlt : k < N
  ·obtain ⟨j, x, j1, j2, j3, j4, j5⟩:=Hds.out k hlt
   have k1 : (k : Int) < N:=by omega
   have kl : k ≤ 100:=by omega
   have j6 : (0 : Int) ≤ (j : Int):=by omega
   have j7 : (j : Int) < (ws.length : Int):=by omega
   have hx:=fun w (h : Below wr.heap.size wr w) => Field.bkeep h (hI.out j x j2)
   have HX:=Lib.hid hx
   have HJ3:=Lib.hid j3
   clear j2 j3 hx
   go_wp2_with fail
   refine (hce _).mono ?_
   rintro e w1 ⟨rfl, hb1⟩
   have d0:=Field.bkeep hb1 c0
   have d1:=Field.bkeep hb1 c1
   have d2:=Field.bkeep hb1 c2
   have d3:=Field.bkeep hb1 c3
   have d4:=Field.bkeep hb1 c4
   clear c0 c1 c2 c3 c4
   go_wp2_with fail
   refine (j5 _).mono ?_
   rintro e w2 ⟨rfl, hb2⟩
   have hb2:=hb1.trans (hb2.mono hb1.size)
   have ex:=HX.out w2 hb2
   have hdc:=ref_decode_any w2 x j4
   clear d0 d1 d2 d3 d4 hb1
   go_wp2_with fail
   refine hdc.mono ?_
   rintro e w3 ⟨rfl, hb3⟩
   have hb3:=hb2.trans (hb3.mono hb2.size)
   have hdz : (dec x).getD S.zero = decZ x:=rfl
   rw [hdz]
   generalize (dec x).isSome = isd at *
   generalize decZ x = y at *
   clear hdc ex hb2 hdz
   dsimp only
   go_step
   refine gl (.tuple #[y.val, .bool isd]) ?_
   refine gl y.val ?_
   refine gl (.bool isd) ?_
   refine gbox (ob:=.cells zero9 30) (Z:=zero9) (cs:=y.cells) (t:=30) 30 (.tmp 7) (.tmp 30) rfl ?_
   refine gl (.bool isd) ?_
   try simp only [Act.put, sA, sZ, sS]
   rw [setRow_new]
   have hb4 : Below wr.heap.size wr (w3.alloc (.cells y.cells 30)):=hb3.alloc hb3.size _
   have hy : RowAt (w3.alloc (.cells y.cells 30)) w3.heap.size y.cells 30:=heap_alloc_new w3 _
   have hs3:=hb3.size
   clear hb3
   generalize (w3.alloc (.cells y.cells 30)) = w4 at *
   generalize w3.heap.size = yb at *
   have hown4:=(hown.out.stable hb4.size (fun x hx => hb4.block x (hown.out.lt hx)))
   have hi:=HI.out
   go_upto_region 6 with (fail)
   refine wp_region_lit ?_
   refine gl (.slice a k cp) ?_
   refine grow hy 30 (.tmp 7) Tryz.underlying30 ?_
   try simp only [Act.put, sA, sZ, sS]
   refine wpList_build_s rfl (.tmp 33) rfl y rfl ?_
   try simp only [Act.put, sA, sZ, sS]
   refine Hp.wpList_append _ rfl (.tmp 32) (.tmp 34) 47 rfl 30 i0 S.zero.val 9 64 Tryz.underlying47 hi hz0 hz1 hz2 rfl (by decide) (.slice a k cp) k (flatS (ds.take k)) rfl (hown4.alloc _) ⟨w4.heap.size, 0, none⟩ 1 1 y.cells.toList rfl rfl (s_new w4 y) (s_one y) ?c3 ?c4 ?_
   case c3 => unfold maxLen; omega
   case c4 => omega
   intro a' cn w9 hown' hfp' hch
   have hbn : Below w4.heap.size w4 (w4.alloc (.cells y.cells 30)):=(Below.refl _ _).alloc (Nat.le_refl _) _
   have hb9 : Below (W.heap.size + 1) wr w9:=(hb4.trans (hbn.mono hb4.size)).mono (by have:=(hrw.out).lt; omega) |>.trans (hch.below (B:=W.heap.size + 1) (by have:=(hrw.out).lt; have:=hb4.size; have:=hbn.size; omega) (fun q hq => hfp.out q hq))
   have hx9 : flatS (ds.take k) ++ y.cells.toList = flatS (ds.take (k + 1)):=by rw [← flatS_add, List.take_add_one, HJ3.out]; rfl
   rw [hx9] at hown'
   have HB9:=Lib.hid (hB.out.trans (hb9.mono (Nat.le_succ _)))
   have HO9:=Lib.hid hown'
   have HR9:=Lib.hid (show RowAt w9 W.heap.size (Aa cw N cst cwa cu) 25 from (hb9.block W.heap.size (Nat.lt_succ_self _)).trans hrw.out)
   have HI9:=Lib.hid (show IntsB w9 g o ws from fun q z hz => (World.cell?_of_block (w:=wr) (hb9.block g (by omega))).trans (hI.out q z hz))
   have HF9:=Lib.hid (show ∀ x, Fp (.slice a' (k + 1) cn) x → W.heap.size + 1 ≤ x from fun q hq => (hfp' q hq).elim (hfp.out q) (fun h => by have:=(hrw.out).lt; have:=hb4.size; have:=hbn.size; omega))
   clear hb9 hown' hx9 hbn hb4 hown4 hch hfp' hy hi hB hrw hI hfp hown HX HJ3
   dsimp only
   go_wp2_with fail
   go_roundw
   case rel => exact ⟨k + 1, by omega, by go_num, HO9, HF9, HB9, HR9, HI9⟩
   case measure => simp [intOf]; omega
  ·have hke : k = N:=by omega
   subst hke
   have k1 : ¬ (k : Int) < k:=by omega
   go_wp2_with fail
   go_ret
   have ho:=hown.out
   have hl : ds.take k = ds:=List.take_of_length_le (by omega)
   rw [hl] at ho
   exact ⟨a, cp, by rw [hdl]; rfl, slotsIn_own ho hdl, hB.out⟩
end Go.Proofs.YtefpoidnklflnaaGreatDoor.Cl
namespace Go.Proofs.YtefpoidnklflnaaGreatDoor.Tk
open Go.RowKit Hp Slot RowL Life
theorem leasedV_state (s : S) (w : Int) : (leasedV s w).state = 3 ∧ (leasedV s w).own = w:=by
 unfold leasedV leased «to»
 simp
section
variable {c : Conf.Cf} {pre : List Int} {ss : List S} {t : Tk} {kd ow wd w : Int} {k j : Nat} {good : Bool}
theorem step10 (h : Pool c pre ss) (hst : t.st = 10) (h0 : pre.getD 0 0 = 0) : t.step (cells pre ss) good = (t.finish 0, cells pre ss, 1):=by
 have e:=rd_pre h (i:=0) (by omega)
 unfold Tk.step; rw [hst]; simp only [e, h0, if_true]
theorem it_seq {m n : Nat} {x y z : Tk × List Int} (h1 : it good m x = y) (h2 : it good n y = z) : it good (m + n) x = z:=by rw [it_add, h1, h2]
theorem step9 (h : Pool c pre ss) (hc : t.cf = c) (hst : t.st = 9) {s s' : S} (hs : ss[t.i]? = some s) (hwd : t.word = s.word) (hn : nextX s (if good then 1 else 2) t.w 0 = some s') :
  t.step (cells pre ss) good = (if good then { t with word:=s'.word, gen:=s'.gen, st:=10 } else ({ t with word:=s'.word, gen:=s'.gen } : Tk).finish 6, cells pre (ss.set t.i s'), 1):=by
 have e:=swap_own h hc hs hn
 rw [← hwd] at e
 unfold Tk.step; rw [hst]; simp only [e]
 cases good <;> simp [Tk.finish]
theorem dialV_state (s : S) (w : Int) : (dialV s w).state = 1 ∧ (dialV s w).own = w:=by
 unfold dialV «to»
 simp
end
theorem moveV_state (s : S) (w : Int) : (moveV s w).state = 2 ∧ (moveV s w).own = w:=by
 unfold moveV «to»
 simp
theorem moveL_at (v w : Int) : ∀ (l : List S) (p : Bool) (i : Nat) (s : S), l[i]? = some s → (moveL v w p l)[i]? = some s ∨ (Find.fits s 0 v = true ∧ (moveL v w p l)[i]? = some (moveV s w)):=by
 intro l
 induction l with
 | nil => intro p i s h; simp at h
 | cons x l ih =>
  intro p i s h
  cases i with
  | zero =>
   simp only [List.getElem?_cons_zero, Option.some.injEq] at h
   subst h
   unfold moveL
   by_cases hf : Find.fits x 0 v = true
   ·rw [if_pos hf]
    cases p
    ·right; exact ⟨hf, rfl⟩
    ·left; rfl
   ·rw [if_neg hf]
    left; rfl
  | succ i =>
   simp only [List.getElem?_cons_succ] at h
   unfold moveL
   by_cases hf : Find.fits x 0 v = true
   ·rw [if_pos hf]
    cases p
    ·simpa using ih true i s h
    ·simpa using ih false i s h
   ·rw [if_neg hf]
    simpa using ih p i s h
def ownN (w : Int) (l : List S) : Nat:=l.countP fun s => s.own == w
def fitN (v : Int) (l : List S) : Nat:=l.countP fun s => Find.fits s 0 v
theorem moveL_cnt (v w : Int) (hvw : v ≠ w) : ∀ (l : List S) (p : Bool), (∀ s ∈ l, s.own ≠ w) → ownN w (moveL v w p l) = (fitN v l + (if p then 0 else 1)) / 2:=by
 intro l
 induction l with
 | nil => intro p h; cases p <;> simp [moveL, ownN, fitN]
 | cons x l ih =>
  intro p h
  have hx : (x.own == w) = false:=by simpa using h x (by simp)
  have hl:=fun s hs => h s (List.mem_cons_of_mem x hs)
  have hmv : ((moveV x w).own == w) = true:=by simp [(moveV_state x w).2]
  by_cases hf : Find.fits x 0 v = true
  ·have e : fitN v (x :: l) = fitN v l + 1:=by unfold fitN; rw [List.countP_cons, if_pos hf]
   cases p
   ·have e2 : moveL v w false (x :: l) = moveV x w :: moveL v w true l:=by rw [moveL, if_pos hf]; rfl
    have i2:=ih true hl
    unfold ownN at i2 ⊢
    rw [e2, List.countP_cons, if_pos hmv, i2, e]
    simp
    omega
   ·have e2 : moveL v w true (x :: l) = x :: moveL v w false l:=by rw [moveL, if_pos hf]; rfl
    have i2:=ih false hl
    unfold ownN at i2 ⊢
    rw [e2, List.countP_cons, if_neg (by simp [hx]), i2, e]
    simp
  ·have e : fitN v (x :: l) = fitN v l:=by unfold fitN; rw [List.countP_cons, if_neg hf]; rfl
   have e2 : moveL v w p (x :: l) = x :: moveL v w p l:=by rw [moveL, if_neg hf]
   have i2:=ih p hl
   unfold ownN at i2 ⊢
   rw [e2, List.countP_cons, if_neg (by simp [hx]), i2, e]
   rfl
section
variable {c : Conf.Cf} {pre : List Int} {ss : List S} {w : Int} {k : Nat}
structure Got (good : Bool) (c : Conf.Cf) (w : Int) (k : Nat) (pre : List Int) (ss : List S) (n : Nat) (t' : Tk) (s' : S) : Prop where
 run : it good n (Tk.granted c w k, cells pre ss) = (t', cells pre (ss.set k s'))
 few : 1 ≤ n ∧ n ≤ 4
 done : t'.st = 15
 right : s'.right = true
theorem done16 : DoneX 16:=.inl (by simp [Mod.Done])
theorem step13 {t : Tk} {good : Bool} (h : Pool c pre ss) (hc : t.cf = c) (hst : t.st = 13) {s : S} (hs : ss[t.i]? = some s) : t.step (cells pre ss) good = ({ t with word:=s.word, st:=14 }, cells pre ss, 1):=by
 unfold Tk.step; rw [hst]; simp only [hc, rd_slot h hs]
theorem step14 {t : Tk} {good : Bool} (h : Pool c pre ss) (hc : t.cf = c) (hst : t.st = 14) {s s' : S} (hs : ss[t.i]? = some s) (hwd : t.word = s.word) (hn : nextX s 16 t.w 0 = some s') :
  t.step (cells pre ss) good = (if s'.state = 3 then { t with word:=s'.word, gen:=s'.gen, st:=10 } else { t with word:=s'.word, gen:=s'.gen, st:=9 }, cells pre (ss.set t.i s'), 1):=by
 have e:=swap_own h hc hs hn
 rw [← hwd] at e
 unfold Tk.step; rw [hst]
 simp only [hwd, dec_word (h.get hs), Option.bind_some, hn]
 rw [← hwd]
 simp only [e, if_true]
 split <;> rfl
theorem step14_no {t : Tk} {good : Bool} (h : Pool c pre ss) (hst : t.st = 14) {s : S} (hs : ss[t.i]? = some s) (hwd : t.word = s.word) (hn : nextX s 16 t.w 0 = none) :
  t.step (cells pre ss) good = (t.finish 5, cells pre ss, 0):=by
 unfold Tk.step; rw [hst]
 simp only [hwd, dec_word (h.get hs), Option.bind_some, hn]
theorem set_self {s : S} (hs : ss[k]? = some s) : ss.set k s = ss:=by
 apply List.ext_getElem?
 intro i
 rw [List.getElem?_set]
 split
 ·rename_i e; subst e; rw [hs]; simp [(List.getElem?_eq_some_iff.1 hs).1]
 ·rfl
theorem take_no {s : S} (hw : 0 ≤ w ∧ w ≤ 15) (hn : ¬ (s.own = w ∧ (s.state = 4 ∨ s.state = 5))) : nextX s 16 w 0 = none:=by
 apply next_no
 simp only [actX, Mod.act]
 by_cases h5 : s.state = 5 ∧ s.own = w
 ·exact absurd ⟨h5.2, .inr h5.1⟩ hn
 ·by_cases h4 : s.state = 4 ∧ s.own = w
  ·exact absurd ⟨h4.2, .inl h4.1⟩ hn
  ·rw [if_neg (by simpa using h5)]
   simpa using h4
theorem granted_no (h : Pool c pre ss) {s : S} (hs : ss[k]? = some s) (hw : 0 ≤ w ∧ w ≤ 15) (good : Bool) (hn : ¬ (s.own = w ∧ (s.state = 4 ∨ s.state = 5))) :
  ∃ n t', Got good c w k pre ss n t' s ∧ t'.e = 5:=by
 have a0:=it_one good (step13 (good:=good) (t:=Tk.granted c w k) h rfl rfl hs)
 have a1:=it_one good (step14_no (good:=good) (t:={ Tk.granted c w k with word:=s.word, st:=14 }) h rfl hs rfl (take_no hw hn))
 have hr:=it_seq a0 a1
 refine ⟨_, _, ⟨by rw [set_self hs]; exact hr, by omega, rfl, h.get hs⟩, rfl⟩
theorem granted_kept (h : Pool c pre ss) (h0 : pre.getD 0 0 = 0) {s : S} (hs : ss[k]? = some s) (hw : 0 ≤ w ∧ w ≤ 15) (good : Bool) (ho : s.own = w) (h4 : s.state = 4) :
  ∃ n t' s', Got good c w k pre ss n t' s' ∧ t'.e = 0 ∧ t'.i = k ∧ s'.state = 3 ∧ s'.own = w ∧ s'.gen = t'.gen ∧ s'.broken = s.broken:=by
 have hn : nextX s 16 w 0 = some (leasedV s w):=by rw [next_is (h.get hs) hw (by simp [actX, Mod.act, h4, ho])]; simp [actX, Mod.act, h4, leasedV]
 have hr:=next_right done16 hn
 have h2:=h.set (i:=k) hr
 have a0:=it_one good (step13 (good:=good) (t:=Tk.granted c w k) h rfl rfl hs)
 have a1:=step14 (good:=good) (t:={ Tk.granted c w k with word:=s.word, st:=14 }) h rfl rfl hs rfl hn
 have a1':=it_one good (a1.trans (congrArg (fun x => (x, cells pre (ss.set k (leasedV s w)), 1)) (if_pos (leasedV_state s w).1)))
 have a2:=it_one good (step10 (good:=good) (t:={ Tk.granted c w k with word:=(leasedV s w).word, gen:=(leasedV s w).gen, st:=10 }) h2 rfl h0)
 exact ⟨_, _, leasedV s w, ⟨it_seq (it_seq a0 a1') a2, by omega, rfl, hr⟩, rfl, rfl, (leasedV_state s w).1, (leasedV_state s w).2, rfl, by simp [leasedV, leased, «to»]⟩
theorem granted_held (h : Pool c pre ss) (h0 : pre.getD 0 0 = 0) {s : S} (hs : ss[k]? = some s) (hw : 0 ≤ w ∧ w ≤ 15) (good : Bool) (ho : s.own = w) (h5 : s.state = 5) :
  ∃ n t' s', Got good c w k pre ss n t' s' ∧ (if good then t'.e = 0 ∧ t'.i = k ∧ s'.state = 3 ∧ s'.own = w ∧ s'.gen = t'.gen ∧ s'.broken = s.broken else t'.e = 6 ∧ s'.state = 0):=by
 have hn : nextX s 16 w 0 = some (dialV s w):=by rw [next_is (h.get hs) hw (by simp [actX, Mod.act, h5, ho])]; simp [actX, Mod.act, h5, ho, dialV]
 have hr:=next_right done16 hn
 have h2:=h.set (i:=k) hr
 have hk : k < ss.length:=(List.getElem?_eq_some_iff.1 hs).1
 have hs2 : (ss.set k (dialV s w))[k]? = some (dialV s w):=List.getElem?_set_self hk
 have a0:=it_one good (step13 (good:=good) (t:=Tk.granted c w k) h rfl rfl hs)
 have a1:=step14 (good:=good) (t:={ Tk.granted c w k with word:=s.word, st:=14 }) h rfl rfl hs rfl hn
 have a1':=it_one good (a1.trans (congrArg (fun x => (x, cells pre (ss.set k (dialV s w)), 1)) (if_neg (by rw [(dialV_state s w).1]; decide))))
 have hbr : s.broken = false:=by
  have:=(right_iff s).1 (h.get hs)
  have h3:=this.2.2.2.1
  rw [h5] at h3
  simpa using (h3.resolve_left (by decide)).1
 obtain ⟨u, hu, hu2⟩ : ∃ u, nextX (dialV s w) (if good then 1 else 2) w 0 = some u ∧ (if good then u.state = 3 ∧ u.own = w ∧ u.broken = s.broken else u.state = 0):=by
  cases good
  ·exact ⟨_, next_is hr hw (by simp [actX, Mod.act, dialV_state]), by simp [actX, Mod.act, «to»]⟩
  ·exact ⟨_, next_is hr hw (by simp [actX, Mod.act, dialV_state]), by simp [actX, Mod.act, leased, «to», dialV, hbr]⟩
 have hur : u.right = true:=next_right (by cases good; exact done2; exact done1) hu
 have h3:=h2.set (i:=k) hur
 have a2:=it_one good (step9 (good:=good) (t:={ Tk.granted c w k with word:=(dialV s w).word, gen:=(dialV s w).gen, st:=9 }) h2 rfl rfl hs2 rfl hu)
 have hto:=it_seq (it_seq a0 a1') a2
 have hset : (ss.set k (dialV s w)).set k u = ss.set k u:=by simp
 cases good
 ·have hto2:=hto.trans (congrArg (fun l => (_, cells pre l)) hset)
  exact ⟨_, _, u, ⟨hto2, by decide, rfl, hur⟩, rfl, by simpa using hu2⟩
 ·have a3:=it_one true (step10 (good:=true) (t:={ Tk.granted c w k with word:=u.word, gen:=u.gen, st:=10 }) h3 rfl h0)
  simp only [if_true] at hu2
  have hto2:=(it_seq hto a3).trans (congrArg (fun l => (_, cells pre l)) hset)
  exact ⟨_, _, u, ⟨hto2, by decide, rfl, hur⟩, rfl, rfl, hu2.1, hu2.2.1, rfl, hu2.2.2⟩
end
end Go.Proofs.YtefpoidnklflnaaGreatDoor.Tk
namespace Go.Proofs.YtefpoidnklflnaaGreatDoor.Mod
open Go.RowKit Hp Slot RowL Life Cl Go.ChangeShapes Go.WideShapes Go.Deep Go.Joins
section
variable {H : Type} {enc : TypeId × Value → H} {P : Program} {w : World} {base : Nat} {spare : Nat → Bool} {held : Bool}
theorem open_slice_fields {t e : TypeId} {fs : Array Field} {fuel : Nat} {cs : List Value} {x : DataW H × List MemPlace} (ht : P.underlying t = some (.slice e)) (he : P.underlying e = some (.struct fs))
  (hone : oneCellFields P fs = true) (hC : P.cellsOf e = fs.size) (h : DataW.trod enc P w base spare held fuel t cs = some x) :
  (cs = [.slice none 0 0]) ∨
  ∃ (a : Addr) (len cap m : Nat), cs = [.slice (some a) len cap] ∧ len ≤ cap ∧ cap ≤ maxLen ∧ len ≤ m ∧
   ∀ i, i < m → ∀ (j : Nat) (f : Field), fs[j]? = some f → ∃ (v : Value) (y : DataW H × List MemPlace) (n : Nat), w.cell? (a.add (i * fs.size + j)) = some v ∧ DataW.trod enc P w base spare held n f.type [v] = some y:=by
 rcases open_slice ht h with h0 | ⟨a, len, cap, m, n, D, Pl, hcs, hb, hl, hm, hmm, hx, hi⟩
 ·exact .inl h0.1
 ·refine .inr ⟨a, len, cap, m, hcs, hl, hm, by rw [hmm]; split <;> omega, fun i him j f hj => ?_⟩
  obtain ⟨cs', hc, ht'⟩:=hi i him
  rw [hC] at hc
  obtain ⟨ys, n', hn', hy, hlen, hyl, hf⟩:=DataW.trod_struct he ht'
  obtain ⟨_, hcl, hat⟩:=World.cells?_some hc
  obtain ⟨ho, hk⟩:=hone_of hone j f hj
  have hjl : j < fs.size:=(Array.getElem?_eq_some_iff.1 hj).1
  have hcell:=hat j hjl
  have hv : cs'[j]? = some (cs'[j]'(by omega)):=List.getElem?_eq_getElem (by omega)
  have h1:=hf j f hj
  rw [ho, hk] at h1
  have hone' : (cs'.drop j).take 1 = [cs'[j]'(by omega)]:=by
   rw [List.drop_eq_getElem_cons (by omega)]
   rfl
  rw [hone'] at h1
  have hys : ys[j]? = some (ys[j]'(by omega)):=List.getElem?_eq_getElem (by omega)
  refine ⟨_, _, n', ?_, h1.trans hys⟩
  rw [← Go.Deep.add_add, hcell, hv]
theorem open_agg_any {r : Reach} {b0 : Nat} {t : TypeId} {fs : Array Field} {v : Value} {d : DataW H} {p : List MemPlace} (hs : P.underlying t = some (.struct fs)) (hone : oneCellFields P fs = true) (hC : P.cellsOf t = fs.size)
  (hv : Value.okWide P w r b0 t v) (h : DataW.Trod enc P w base spare held t v d p) :
  ∃ cs : List Value, v = .agg ⟨cs⟩ ∧ cs.length = fs.size ∧ ∀ (j : Nat) (f : Field), fs[j]? = some f → ∃ (u : Value) (y : DataW H × List MemPlace) (n : Nat), cs[j]? = some u ∧ DataW.trod enc P w base spare held n f.type [u] = some y:=by
 obtain ⟨cs, rfl, hsz⟩:=okWide_struct hs hv
 obtain ⟨l⟩:=cs
 have hl : l.length = fs.size:=hsz.trans hC
 obtain ⟨fuel, hf⟩:=h
 obtain ⟨xs, n, _, hx, _, hlen, hg⟩:=DataW.trod_struct hs hf
 refine ⟨l, rfl, hl, fun j f hj => ?_⟩
 obtain ⟨ho, hk⟩:=hone_of hone j f hj
 have hjl : j < fs.size:=(Array.getElem?_eq_some_iff.1 hj).1
 have h1:=hg j f hj
 rw [ho, hk] at h1
 have hone' : ((Value.agg ⟨l⟩).cells.toList.drop j).take 1 = [l[j]'(by omega)]:=by
  show (l.drop j).take 1 = _
  rw [List.drop_eq_getElem_cons (by omega)]
  rfl
 rw [hone'] at h1
 have hxs : xs[j]? = some (xs[j]'(by omega)):=List.getElem?_eq_getElem (by omega)
 exact ⟨_, _, n, List.getElem?_eq_getElem (by omega), h1.trans hxs⟩
end
section
variable {H : Type} {enc : TypeId × Value → H} {w : World} {base : Nat} {spare : Nat → Bool} {held : Bool}
theorem u8_bd {n : Int} (h : (Lit.int .u8 n).wf = true) : 0 ≤ n ∧ n < 256:=by
 have:=Base.wf_u8_bounds h
 omega
theorem i64_bd {n : Int} (h : (Lit.int .i64 n).wf = true) : -9223372036854775808 ≤ n ∧ n ≤ 9223372036854775807:=Base.wf_i64_bounds h
theorem open_u8_at {cs : List Value} {fs : Array Field} {j : Nat} {f : Field} (h : ∀ (j : Nat) (f : Field), fs[j]? = some f → ∃ (u : Value) (y : DataW H × List MemPlace) (n : Nat), cs[j]? = some u ∧ DataW.trod enc Tryz.prog w base spare held n f.type [u] = some y) (hj : fs[j]? = some f) (ht : f.type = 5) : ∃ a : Int, cs[j]? = some (.int .u8 a) ∧ 0 ≤ a ∧ a < 256:=by
 obtain ⟨u, y, n, h1, h2⟩:=h j f hj
 rw [ht] at h2
 obtain ⟨k, e1, -, e3⟩:=DataW.trod_int Tryz.underlying5 h2
 cases e1
 exact ⟨k, h1, u8_bd e3⟩
theorem open_int_at {cs : List Value} {fs : Array Field} {j : Nat} {f : Field} (h : ∀ (j : Nat) (f : Field), fs[j]? = some f → ∃ (u : Value) (y : DataW H × List MemPlace) (n : Nat), cs[j]? = some u ∧ DataW.trod enc Tryz.prog w base spare held n f.type [u] = some y) (hj : fs[j]? = some f) (ht : f.type = 3) : ∃ a : Int, cs[j]? = some (.i a) ∧ -9223372036854775808 ≤ a ∧ a ≤ 9223372036854775807:=by
 obtain ⟨u, y, n, h1, h2⟩:=h j f hj
 rw [ht] at h2
 obtain ⟨k, e1, -, e3⟩:=DataW.trod_int Tryz.underlying3 h2
 cases e1
 exact ⟨k, h1, i64_bd e3⟩
theorem open_bool_at {cs : List Value} {fs : Array Field} {j : Nat} {f : Field} (h : ∀ (j : Nat) (f : Field), fs[j]? = some f → ∃ (u : Value) (y : DataW H × List MemPlace) (n : Nat), cs[j]? = some u ∧ DataW.trod enc Tryz.prog w base spare held n f.type [u] = some y) (hj : fs[j]? = some f) (ht : f.type = 4) : ∃ a : Bool, cs[j]? = some (.bool a):=by
 obtain ⟨u, y, n, h1, h2⟩:=h j f hj
 rw [ht] at h2
 obtain ⟨k, e1, -⟩:=DataW.trod_bool Tryz.underlying4 h2
 cases e1
 exact ⟨k, h1⟩
theorem list_of_get {α : Type} : ∀ {cs : List α} {xs : List α}, cs.length = xs.length → (∀ (j : Nat) x, xs[j]? = some x → cs[j]? = some x) → cs = xs:=fun {cs xs} hl h => List.ext_getElem? fun j => by
 cases hx : xs[j]? with
 | none => rw [List.getElem?_eq_none_iff] at hx ⊢; omega
 | some x => exact h j x hx
def numIn : Option Value → Int
 | some (.int _ n) => n
 | _ => 0
def boolIn : Option Value → Bool
 | some (.bool b) => b
 | _ => false
def slotIn (w : World) (a : Addr) (i : Nat) : S:=⟨numIn (w.cell? (a.add (i * 9 + 0))), numIn (w.cell? (a.add (i * 9 + 1))), numIn (w.cell? (a.add (i * 9 + 2))), boolIn (w.cell? (a.add (i * 9 + 3))), boolIn (w.cell? (a.add (i * 9 + 4))), numIn (w.cell? (a.add (i * 9 + 5))), numIn (w.cell? (a.add (i * 9 + 6))), numIn (w.cell? (a.add (i * 9 + 7))), numIn (w.cell? (a.add (i * 9 + 8)))⟩
theorem in_int {u : Value} {y : DataW H × List MemPlace} {q : Nat} {x : Option Value} (h1 : x = some u) (h2 : DataW.trod enc Tryz.prog w base spare held q 3 [u] = some y) : x = some (.i (numIn x)):=by
 obtain ⟨k, e1, -, -⟩:=DataW.trod_int Tryz.underlying3 h2
 cases e1
 rw [h1]
 rfl
theorem in_bool {u : Value} {y : DataW H × List MemPlace} {q : Nat} {x : Option Value} (h1 : x = some u) (h2 : DataW.trod enc Tryz.prog w base spare held q 4 [u] = some y) : x = some (.bool (boolIn x)):=by
 obtain ⟨k, e1, -⟩:=DataW.trod_bool Tryz.underlying4 h2
 cases e1
 rw [h1]
 rfl
theorem open_slots {fuel : Nat} {v : Value} {x : DataW H × List MemPlace} (h : DataW.trod enc Tryz.prog w base spare held fuel 47 [v] = some x) : ∃ a l c, v = .slice a (l : List S).length c ∧ SlotsIn w a l:=by
 rcases open_slice_fields Tryz.underlying47 Tryz.underlying30 (by kernel_rfl) (by kernel_rfl) h with hcs | ⟨x, n, cap, m, hcs, hl, hm, hmm, hi⟩
 ·simp at hcs
  subst hcs
  exact ⟨none, [], 0, rfl, fun k s hs => by simp at hs⟩
 ·simp at hcs
  subst hcs
  have key : ∀ i, i < n → ∀ (j : Nat) (v : Value), (slotIn w x i).cells[j]? = some v → w.cell? (x.add (i * 9 + j)) = some v:=fun i hin j v hv => by
   have hj : j < 9:=by have:=(Array.getElem?_eq_some_iff.1 hv).1; simpa [S.cells] using this
   rcases (by omega : j = 0 ∨ j = 1 ∨ j = 2 ∨ j = 3 ∨ j = 4 ∨ j = 5 ∨ j = 6 ∨ j = 7 ∨ j = 8) with rfl | rfl | rfl | rfl | rfl | rfl | rfl | rfl | rfl
   ·obtain ⟨u, y, q, h1, h2⟩:=hi i (by omega) 0 _ rfl
    exact (in_int (show w.cell? (x.add (i * 9 + 0)) = some u from h1) h2).trans hv
   ·obtain ⟨u, y, q, h1, h2⟩:=hi i (by omega) 1 _ rfl
    exact (in_int (show w.cell? (x.add (i * 9 + 1)) = some u from h1) h2).trans hv
   ·obtain ⟨u, y, q, h1, h2⟩:=hi i (by omega) 2 _ rfl
    exact (in_int (show w.cell? (x.add (i * 9 + 2)) = some u from h1) h2).trans hv
   ·obtain ⟨u, y, q, h1, h2⟩:=hi i (by omega) 3 _ rfl
    exact (in_bool (show w.cell? (x.add (i * 9 + 3)) = some u from h1) h2).trans hv
   ·obtain ⟨u, y, q, h1, h2⟩:=hi i (by omega) 4 _ rfl
    exact (in_bool (show w.cell? (x.add (i * 9 + 4)) = some u from h1) h2).trans hv
   ·obtain ⟨u, y, q, h1, h2⟩:=hi i (by omega) 5 _ rfl
    exact (in_int (show w.cell? (x.add (i * 9 + 5)) = some u from h1) h2).trans hv
   ·obtain ⟨u, y, q, h1, h2⟩:=hi i (by omega) 6 _ rfl
    exact (in_int (show w.cell? (x.add (i * 9 + 6)) = some u from h1) h2).trans hv
   ·obtain ⟨u, y, q, h1, h2⟩:=hi i (by omega) 7 _ rfl
    exact (in_int (show w.cell? (x.add (i * 9 + 7)) = some u from h1) h2).trans hv
   ·obtain ⟨u, y, q, h1, h2⟩:=hi i (by omega) 8 _ rfl
    exact (in_int (show w.cell? (x.add (i * 9 + 8)) = some u from h1) h2).trans hv
  by_cases hn : n = 0
  ·subst hn
   exact ⟨some x, [], cap, rfl, fun k s hs => by simp at hs⟩
  obtain ⟨g, off, rfl⟩:=Base.addr_plain (w:=w) (x:=x) (by have:=key 0 (by omega) 0 _ rfl; simpa using this)
  have hlen : ((List.range n).map (slotIn w ⟨g, off, none⟩)).length = n:=by simp
  refine ⟨some ⟨g, off, none⟩, (List.range n).map (slotIn w ⟨g, off, none⟩), cap, by rw [hlen], fun k s hs => ⟨g, off, rfl, fun j v hv => ?_⟩⟩
  have hin : k < n:=by have:=(List.getElem?_eq_some_iff.1 hs).1; rw [hlen] at this; exact this
  rw [List.getElem?_map, List.getElem?_range hin] at hs
  simp at hs
  subst hs
  have hk:=key k hin j v hv
  have he : (⟨g, off, none⟩ : Addr).add (k * 9 + j) = ⟨g, off + k * 9 + j, none⟩:=by simp [Addr.add, Nat.add_assoc]
  rwa [he] at hk
theorem open_bytes {fuel : Nat} {v : Value} {x : DataW H × List MemPlace} (h : DataW.trod enc Tryz.prog w base (fun _ => true) held fuel 48 [v] = some x) : ∃ a l c, v = .slice a (l : List Int).length c ∧ BytesIn w a l:=by
 rcases open_ints Tryz.underlying48 Tryz.underlying5 (by kernel_rfl) h with ⟨hcs, _⟩ | ⟨x, l, c, zs, hcs, _, hl, hm, hz, _, hcell, hwz⟩
 ·simp at hcs
  subst hcs
  exact ⟨none, [], 0, rfl, fun k s hs => by simp at hs⟩
 ·simp at hcs
  subst hcs
  obtain ⟨b, off, hw⟩:=Base.intsAt_some hl hm (by simpa using hz) hcell hwz
  refine ⟨some x, zs.take l, c, by rw [← hw.len_eq], fun k y hy => ?_⟩
  have hk : k < l:=by have:=(List.getElem?_eq_some_iff.1 hy).1; rw [← hw.len_eq] at this; exact this
  obtain ⟨z, h1, h2, h3, h4, h5⟩:=hw.get hk
  rw [hy] at h1
  cases h1
  exact ⟨u8_bd h2, b, off, h4, h3⟩
theorem c_given12 : Tryz.prog.cellsOf 46 = 5:=by kernel_rfl
theorem c_given14 : Tryz.prog.cellsOf 50 = 8:=by kernel_rfl
theorem c_slots : Tryz.prog.cellsOf 47 = 1:=by kernel_rfl
theorem c_bytes : Tryz.prog.cellsOf 48 = 1:=by kernel_rfl
theorem c_u8 : Tryz.prog.cellsOf 5 = 1:=by kernel_rfl
theorem u8_one {fuel : Nat} {v : Value} {x : DataW H × List MemPlace} (h : DataW.trod enc Tryz.prog w base (fun _ => true) held fuel 5 [v] = some x) : ∃ k : Int, v = .int .u8 k ∧ 0 ≤ k ∧ k < 256:=by
 obtain ⟨k, e1, -, e3⟩:=DataW.trod_int Tryz.underlying5 h
 cases e1
 exact ⟨k, rfl, u8_bd e3⟩
theorem open_gv {r : Reach} {b0 : Nat} {v : Value} {d : DataW H} {p : List MemPlace} (hv : Value.okWide Tryz.prog w r b0 50 v) (h : DataW.Trod enc Tryz.prog w base (fun _ => true) held 50 v d p) :
  ∃ g : Gv, v = g.val ∧ GvAt w g:=by
 obtain ⟨cs, rfl, hsz⟩:=okWide_struct Tryz.underlying50 hv
 obtain ⟨l⟩:=cs
 have hl : l.length = 8:=hsz.trans c_given14
 obtain ⟨fuel, hf⟩:=h
 obtain ⟨xs, n, _, hx, _, hlen, hg⟩:=DataW.trod_struct Tryz.underlying50 hf
 have hxl : xs.length = 4:=hlen
 match l, hl with
 | [c0, c1, c2, c3, c4, c5, c6, c7], _ =>
  have h0 : DataW.trod enc Tryz.prog w base (fun _ => true) held n 46 (([c0, c1, c2, c3, c4, c5, c6, c7].drop 0).take (Tryz.prog.cellsOf 46)) = xs[0]?:=hg 0 _ rfl
  have h1 : DataW.trod enc Tryz.prog w base (fun _ => true) held n 47 (([c0, c1, c2, c3, c4, c5, c6, c7].drop 5).take (Tryz.prog.cellsOf 47)) = xs[1]?:=hg 1 _ rfl
  have h2 : DataW.trod enc Tryz.prog w base (fun _ => true) held n 48 (([c0, c1, c2, c3, c4, c5, c6, c7].drop 6).take (Tryz.prog.cellsOf 48)) = xs[2]?:=hg 2 _ rfl
  have h3 : DataW.trod enc Tryz.prog w base (fun _ => true) held n 48 (([c0, c1, c2, c3, c4, c5, c6, c7].drop 7).take (Tryz.prog.cellsOf 48)) = xs[3]?:=hg 3 _ rfl
  rw [c_given12] at h0
  rw [c_slots] at h1
  rw [c_bytes] at h2 h3
  rw [List.getElem?_eq_getElem (by omega)] at h0 h1 h2 h3
  obtain ⟨sa, ss, sc, rfl, hS⟩:=open_slots (show DataW.trod enc Tryz.prog w base (fun _ => true) held n 47 [c5] = _ from h1)
  obtain ⟨fa, fs, fc, rfl, hF⟩:=open_bytes (show DataW.trod enc Tryz.prog w base (fun _ => true) held n 48 [c6] = _ from h2)
  obtain ⟨pa, ps, pc, rfl, hP⟩:=open_bytes (show DataW.trod enc Tryz.prog w base (fun _ => true) held n 48 [c7] = _ from h3)
  obtain ⟨ys, n', _, hy, _, hyl, hh⟩:=DataW.trod_struct Tryz.underlying46 (show DataW.trod enc Tryz.prog w base (fun _ => true) held n 46 [c0, c1, c2, c3, c4] = _ from h0)
  have hyl5 : ys.length = 5:=hyl
  have g0 : DataW.trod enc Tryz.prog w base (fun _ => true) held n' 5 (([c0, c1, c2, c3, c4].drop 0).take (Tryz.prog.cellsOf 5)) = ys[0]?:=hh 0 _ rfl
  have g1 : DataW.trod enc Tryz.prog w base (fun _ => true) held n' 5 (([c0, c1, c2, c3, c4].drop 1).take (Tryz.prog.cellsOf 5)) = ys[1]?:=hh 1 _ rfl
  have g2 : DataW.trod enc Tryz.prog w base (fun _ => true) held n' 5 (([c0, c1, c2, c3, c4].drop 2).take (Tryz.prog.cellsOf 5)) = ys[2]?:=hh 2 _ rfl
  have g3 : DataW.trod enc Tryz.prog w base (fun _ => true) held n' 5 (([c0, c1, c2, c3, c4].drop 3).take (Tryz.prog.cellsOf 5)) = ys[3]?:=hh 3 _ rfl
  have g4 : DataW.trod enc Tryz.prog w base (fun _ => true) held n' 5 (([c0, c1, c2, c3, c4].drop 4).take (Tryz.prog.cellsOf 5)) = ys[4]?:=hh 4 _ rfl
  rw [c_u8] at g0 g1 g2 g3 g4
  rw [List.getElem?_eq_getElem (by omega)] at g0 g1 g2 g3 g4
  obtain ⟨b0', rfl, w0⟩:=u8_one (show DataW.trod enc Tryz.prog w base (fun _ => true) held n' 5 [c0] = _ from g0)
  obtain ⟨b1', rfl, w1⟩:=u8_one (show DataW.trod enc Tryz.prog w base (fun _ => true) held n' 5 [c1] = _ from g1)
  obtain ⟨b2', rfl, w2⟩:=u8_one (show DataW.trod enc Tryz.prog w base (fun _ => true) held n' 5 [c2] = _ from g2)
  obtain ⟨b3', rfl, w3⟩:=u8_one (show DataW.trod enc Tryz.prog w base (fun _ => true) held n' 5 [c3] = _ from g3)
  obtain ⟨b4', rfl, w4⟩:=u8_one (show DataW.trod enc Tryz.prog w base (fun _ => true) held n' 5 [c4] = _ from g4)
  exact ⟨⟨b0', b1', b2', b3', b4', sa, sc, ss, fa, fc, fs, pa, pc, ps⟩, rfl, w0, w1, w2, w3, w4, hS, hF, hP⟩
end
end Go.Proofs.YtefpoidnklflnaaGreatDoor.Mod
