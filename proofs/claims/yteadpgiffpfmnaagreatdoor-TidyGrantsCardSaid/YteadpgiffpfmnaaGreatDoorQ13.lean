/- Part 13 of the walks and plain laws that the last text joins. -/
import Derived.Test.YteadpgiffpfmnaaGreatDoorQ12
set_option maxRecDepth 100000
set_option maxHeartbeats 16000000
set_option linter.unusedVariables false
set_option linter.unusedSimpArgs false
namespace Go.Proofs.YteadpgiffpfmnaaGreatDoor.Cl
open Go.RowKit Hp Slot RowL Life
theorem yswap_none {W : World} {tb mb wb : Nat} {lo ro : Option Nat} {t : Ty.Ty} {ws : List Int} {tc : Int} (h : TyAt W tb mb wb lo ro t ws tc) (hc : Small t.cf) (ht : 0 ≤ tc ∧ tc ≤ 4000000000000000000) (hi : t.i < Tk.ns t.cf) (hlen : Tk.sc t.cf t.i < ws.length) (d : Nat) (hd : DoneY d) (own : Int) (hN : dec t.word = none) :
  Calls Tryz.prog 102 #[.pointer (some ⟨tb, 0, none⟩), .pointer (some ⟨mb, 0, none⟩), .i d, .i own] W (YPost W tb mb wb lo ro (.bool false) t ws tc):=by
 have hdc:=decode_val W t.word h.laid
 rw [hN] at hdc
 simp only [Option.getD_none, Option.isSome_none] at hdc
 have c12 : W.cell? ⟨tb, 12, none⟩ = some (.i t.word):=h.cell 12
 have H:=Lib.hid h
 clear h
 go_enter Tryz.func102, Tryz.ntmps102
 go_wp2_with fail
 refine hdc.mono ?_
 rintro e w5 ⟨rfl, hb5⟩
 dsimp only
 go_step
 refine gl (.tuple #[S.zero.val, .bool false]) ?_
 refine gl S.zero.val ?_
 refine gl (.bool false) ?_
 refine gbox (ob:=.cells zero9 41) (Z:=zero9) (cs:=S.zero.cells) (t:=41) 41 (.tmp 9) (.tmp 18) rfl ?_
 refine gl (.bool false) ?_
 try simp only [Act.put, sA, sZ, sS]
 rw [setRow_new]
 have hB : Below W.heap.size W (w5.alloc (.cells S.zero.cells 41)):=hb5.alloc hb5.size _
 generalize (w5.alloc (.cells S.zero.cells 41)) = wa at *
 clear hdc hb5
 go_wp2_with fail
 go_ret
 exact ⟨rfl, lo, ro, H.out.below hB, Grow.refl, Grow.refl, Chg.ofBelow hB⟩
theorem yswap_no {W : World} {tb mb wb : Nat} {lo ro : Option Nat} {t : Ty.Ty} {ws : List Int} {tc : Int} (h : TyAt W tb mb wb lo ro t ws tc) (hc : Small t.cf) (ht : 0 ≤ tc ∧ tc ≤ 4000000000000000000) (hi : t.i < Tk.ns t.cf) (hlen : Tk.sc t.cf t.i < ws.length) (d : Nat) (hd : DoneY d) (own : Int) {s : S} (hD : dec t.word = some s) (hN : Tk.nextX s d own 0 = none) :
  Calls Tryz.prog 102 #[.pointer (some ⟨tb, 0, none⟩), .pointer (some ⟨mb, 0, none⟩), .i d, .i own] W (YPost W tb mb wb lo ro (.bool false) t ws tc):=by
 have hdc:=decode_val W t.word h.laid
 rw [hD] at hdc
 simp only [Option.getD_some, Option.isSome_some] at hdc
 have hsr:=(word_dec hD).1
 have hnx:=fun w' hL => nexty_any w' s d own 0 hd hsr hL
 rw [hN] at hnx
 simp only [Option.getD_none, Option.isSome_none] at hnx
 have c12 : W.cell? ⟨tb, 12, none⟩ = some (.i t.word):=h.cell 12
 have H:=Lib.hid h
 clear h
 go_enter Tryz.func102, Tryz.ntmps102
 go_wp2_with fail
 refine hdc.mono ?_
 rintro e w5 ⟨rfl, hb5⟩
 dsimp only
 go_step
 refine gl (.tuple #[s.val, .bool true]) ?_
 refine gl s.val ?_
 refine gl (.bool true) ?_
 refine gbox (ob:=.cells zero9 41) (Z:=zero9) (cs:=s.cells) (t:=41) 41 (.tmp 9) (.tmp 18) rfl ?_
 refine gl (.bool true) ?_
 try simp only [Act.put, sA, sZ, sS]
 rw [setRow_new]
 have hB : Below W.heap.size W (w5.alloc (.cells s.cells 41)):=hb5.alloc hb5.size _
 have hs : RowAt (w5.alloc (.cells s.cells 41)) w5.heap.size s.cells 41:=heap_alloc_new w5 _
 have hsb:=hb5.size
 generalize (w5.alloc (.cells s.cells 41)) = wa at *
 generalize w5.heap.size = sb at *
 clear hdc hb5
 have hnx:=hnx wa (H.out.below hB).laid
 go_upto_region 4 with (fail)
 refine wp_region_lit ?_
 refine grow hs 41 (.tmp 9) Tryz.underlying41 ?_
 try simp only [Act.put, sA, sZ, sS]
 refine gl (.i d) ?_
 try simp only [Act.put, sA, sZ, sS]
 refine gl (.i own) ?_
 try simp only [Act.put, sA, sZ, sS]
 refine gcall 121 #[.tmp 23, .tmp 24, .tmp 25, .const (.i 0)] #[41, 3, 3, 3] #[s.val, .i d, .i own, .i 0] (enters_of Tryz.func121 (by kernel_rfl) rfl) ?_
 refine hnx.mono ?_
 rintro e w6 ⟨rfl, hb6⟩
 refine ⟨_, rfl, ?_⟩
 have hs6 : RowAt w6 sb s.cells 41:=RowAt.below hs hb6
 have hB6:=hB.trans (hb6.mono hB.size)
 clear hs hnx hb6 hB
 try simp only [Act.put, sA, sZ, sS]
 refine gl (.tuple #[S.zero.val, .bool false]) ?_
 try simp only [Act.put, sA, sZ, sS]
 refine gl S.zero.val ?_
 try simp only [Act.put, sA, sZ, sS]
 refine gl (.bool false) ?_
 try simp only [Act.put, sA, sZ, sS]
 refine gSt hs6 S.zero.cells 41 (.tmp 9) (.tmp 27) ?_
 try simp only [Act.put, sA, sZ, sS]
 refine gl (.bool false) ?_
 try simp only [Act.put, sA, sZ, sS]
 have hs7 : RowAt (w6.setRow sb S.zero.cells) sb S.zero.cells 41:=hs6.set _
 have hB7 : Below W.heap.size W (w6.setRow sb S.zero.cells):=bSetRow hB6 (by omega) _
 generalize (w6.setRow sb S.zero.cells) = w7 at *
 clear hs6 hB6
 go_wp2_with fail
 go_ret
 exact ⟨rfl, lo, ro, H.out.below hB7, Grow.refl, Grow.refl, Chg.ofBelow hB7⟩
theorem yswap_eq {W : World} {tb mb wb : Nat} {lo ro : Option Nat} {t : Ty.Ty} {ws : List Int} {tc : Int} (h : TyAt W tb mb wb lo ro t ws tc) (hc : Small t.cf) (ht : 0 ≤ tc ∧ tc ≤ 4000000000000000000) (hi : t.i < Tk.ns t.cf) (hlen : Tk.sc t.cf t.i < ws.length) (d : Nat) (hd : DoneY d) (own : Int) {s n : S} (hD : dec t.word = some s) (hN : Tk.nextX s d own 0 = some n) (hx : Tk.rd ws (Tk.sc t.cf t.i) = t.word) :
  Calls Tryz.prog 102 #[.pointer (some ⟨tb, 0, none⟩), .pointer (some ⟨mb, 0, none⟩), .i d, .i own] W (YPost W tb mb wb lo ro (.bool true) t (ws.set (Tk.sc t.cf t.i) n.word) (tc + 1)):=by
 have hnr:=Tk.next_right hd.x hN
 have hsl:=fun W => slot_any W t.cf t.i hc.w ⟨by have:=hc.s; unfold Tk.ns at hi; omega, hc.s.2⟩
 have hsc : (3 + 2 * t.cf.workers + (t.i : Int)) = ((Tk.sc t.cf t.i : Nat) : Int):=by have:=hc.w; unfold Tk.sc; omega
 simp only [hsc, Conf.Cf.val, Conf.Cf.cells] at hsl
 have hrd:=rd_some hlen
 rw [hx] at hrd
 have hcs:=fun W (h : CAt W mb wb ws tc) => cas_eq h ht (Tk.sc t.cf t.i) t.word hrd n.word
 clear hrd hsc
 have hdc:=decode_val W t.word h.laid
 rw [hD] at hdc
 simp only [Option.getD_some, Option.isSome_some] at hdc
 have hsr:=(word_dec hD).1
 have hnx:=fun w' hL => nexty_any w' s d own 0 hd hsr hL
 rw [hN] at hnx
 simp only [Option.getD_some, Option.isSome_some] at hnx
 have c12 : W.cell? ⟨tb, 12, none⟩ = some (.i t.word):=h.cell 12
 have H:=Lib.hid h
 clear h
 go_enter Tryz.func102, Tryz.ntmps102
 go_wp2_with fail
 refine hdc.mono ?_
 rintro e w5 ⟨rfl, hb5⟩
 dsimp only
 go_step
 refine gl (.tuple #[s.val, .bool true]) ?_
 refine gl s.val ?_
 refine gl (.bool true) ?_
 refine gbox (ob:=.cells zero9 41) (Z:=zero9) (cs:=s.cells) (t:=41) 41 (.tmp 9) (.tmp 18) rfl ?_
 refine gl (.bool true) ?_
 try simp only [Act.put, sA, sZ, sS]
 rw [setRow_new]
 have hB : Below W.heap.size W (w5.alloc (.cells s.cells 41)):=hb5.alloc hb5.size _
 have hs : RowAt (w5.alloc (.cells s.cells 41)) w5.heap.size s.cells 41:=heap_alloc_new w5 _
 have hsb:=hb5.size
 generalize (w5.alloc (.cells s.cells 41)) = wa at *
 generalize w5.heap.size = sb at *
 clear hdc hb5
 have hnx:=hnx wa (H.out.below hB).laid
 go_upto_region 4 with (fail)
 refine wp_region_lit ?_
 refine grow hs 41 (.tmp 9) Tryz.underlying41 ?_
 try simp only [Act.put, sA, sZ, sS]
 refine gl (.i d) ?_
 try simp only [Act.put, sA, sZ, sS]
 refine gl (.i own) ?_
 try simp only [Act.put, sA, sZ, sS]
 refine gcall 121 #[.tmp 23, .tmp 24, .tmp 25, .const (.i 0)] #[41, 3, 3, 3] #[s.val, .i d, .i own, .i 0] (enters_of Tryz.func121 (by kernel_rfl) rfl) ?_
 refine hnx.mono ?_
 rintro e w6 ⟨rfl, hb6⟩
 refine ⟨_, rfl, ?_⟩
 have hs6 : RowAt w6 sb s.cells 41:=RowAt.below hs hb6
 have hB6:=hB.trans (hb6.mono hB.size)
 clear hs hnx hb6 hB
 try simp only [Act.put, sA, sZ, sS]
 refine gl (.tuple #[n.val, .bool true]) ?_
 try simp only [Act.put, sA, sZ, sS]
 refine gl n.val ?_
 try simp only [Act.put, sA, sZ, sS]
 refine gl (.bool true) ?_
 try simp only [Act.put, sA, sZ, sS]
 refine gSt hs6 n.cells 41 (.tmp 9) (.tmp 27) ?_
 try simp only [Act.put, sA, sZ, sS]
 refine gl (.bool true) ?_
 try simp only [Act.put, sA, sZ, sS]
 have hs7 : RowAt (w6.setRow sb n.cells) sb n.cells 41:=hs6.set _
 have hB7 : Below W.heap.size W (w6.setRow sb n.cells):=bSetRow hB6 (by omega) _
 generalize (w6.setRow sb n.cells) = w7 at *
 clear hs6 hB6
 have hen:=encode_word w7 n ((H.out.below hB7).laid) hnr
 go_upto_region 7 with (fail)
 refine wp_region_lit ?_
 refine grow hs7 41 (.tmp 9) Tryz.underlying41 ?_
 try simp only [Act.put, sA, sZ, sS]
 refine gcall 119 #[.tmp 32] #[41] #[n.val] (enters_of Tryz.func119 (by kernel_rfl) rfl) ?_
 refine hen.mono ?_
 rintro e w8 ⟨rfl, hb8⟩
 refine ⟨_, rfl, ?_⟩
 have hB8:=hB7.trans (hb8.mono hB7.size)
 clear hs7 hB7 hen hb8
 try simp only [Act.put, sA, sZ, sS]
 refine gl (.tuple #[.i n.word, .bool true]) ?_
 try simp only [Act.put, sA, sZ, sS]
 refine gl (.i n.word) ?_
 try simp only [Act.put, sA, sZ, sS]
 refine gl (.bool true) ?_
 try simp only [Act.put, sA, sZ, sS]
 refine gl (.i n.word) ?_
 try simp only [Act.put, sA, sZ, sS]
 refine gl (.bool true) ?_
 try simp only [Act.put, sA, sZ, sS]
 have hB8d:=hB8.drew
 have h8:=H.out.below hB8d
 have H8:=Lib.hid h8
 have q0 : w8.drew.cell? ⟨tb, 0, none⟩ = some (.i t.cf.workers):=h8.cell 0
 have q1 : w8.drew.cell? ⟨tb, 1, none⟩ = some (.i t.cf.slots):=h8.cell 1
 have q2 : w8.drew.cell? ⟨tb, 2, none⟩ = some (.i t.cf.streams):=h8.cell 2
 have q3 : w8.drew.cell? ⟨tb, 3, none⟩ = some (.i t.cf.waiters):=h8.cell 3
 have q4 : w8.drew.cell? ⟨tb, 4, none⟩ = some (.i t.cf.uses):=h8.cell 4
 have q11 : w8.drew.cell? ⟨tb, 11, none⟩ = some (.i t.i):=h8.cell 11
 have q12 : w8.drew.cell? ⟨tb, 12, none⟩ = some (.i t.word):=h8.cell 12
 clear h8
 go_upto_region 8 with (fail)
 refine wp_region_held_drew (S:=(fun w' => w'.cell? ⟨tb, 0, none⟩ = some (.i t.cf.workers) ∧ w'.cell? ⟨tb, 1, none⟩ = some (.i t.cf.slots) ∧ w'.cell? ⟨tb, 2, none⟩ = some (.i t.cf.streams) ∧ w'.cell? ⟨tb, 3, none⟩ = some (.i t.cf.waiters) ∧ w'.cell? ⟨tb, 4, none⟩ = some (.i t.cf.uses) ∧ w'.cell? ⟨tb, 11, none⟩ = some (.i t.i) ∧ w'.cell? ⟨tb, 12, none⟩ = some (.i t.word))) (by kernel_rfl) (by exact ⟨q0, q1, q2, q3, q4, q11, q12⟩) (fun hHeld => ?_)
 refine tKg 0 36 hHeld ?_
 try simp only [Act.put, sA, sZ, sS]
 refine tKg 1 37 hHeld ?_
 try simp only [Act.put, sA, sZ, sS]
 refine tKg 2 38 hHeld ?_
 try simp only [Act.put, sA, sZ, sS]
 refine tKg 3 39 hHeld ?_
 try simp only [Act.put, sA, sZ, sS]
 refine tKg 4 40 hHeld ?_
 try simp only [Act.put, sA, sZ, sS]
 refine tKg 5 41 hHeld ?_
 try simp only [Act.put, sA, sZ, sS]
 refine tKg 6 42 hHeld ?_
 try simp only [Act.put, sA, sZ, sS]
 refine tKg 7 43 hHeld ?_
 try simp only [Act.put, sA, sZ, sS]
 refine tKg 8 44 hHeld ?_
 try simp only [Act.put, sA, sZ, sS]
 refine tKg 9 45 hHeld ?_
 try simp only [Act.put, sA, sZ, sS]
 refine tKg 10 46 hHeld ?_
 try simp only [Act.put, sA, sZ, sS]
 refine tKg 12 48 hHeld ?_
 try simp only [Act.put, sA, sZ, sS]
 refine tKg 13 49 hHeld ?_
 try simp only [Act.put, sA, sZ, sS]
 refine tKg 14 50 hHeld ?_
 try simp only [Act.put, sA, sZ, sS]
 refine tKg 15 51 hHeld ?_
 try simp only [Act.put, sA, sZ, sS]
 refine tKg 16 52 hHeld ?_
 try simp only [Act.put, sA, sZ, sS]
 refine rKc (i:=11) 108 #[.tmp 42, .tmp 46] #[30, 3] (some 47) (some (1, true)) #[.agg (Ae t.cf.workers t.cf.slots t.cf.streams t.cf.waiters t.cf.uses), .i t.i] (enters_of Tryz.func108 (by kernel_rfl) rfl) ?_
 refine (hsl _).mono ?_
 rintro e w9 ⟨rfl, hb9⟩
 have h9:=H8.out.below hb9
 have hB9:=hB8d.trans (hb9.mono hB8d.size)
 have r0 : w9.cell? ⟨tb, 0, none⟩ = some (.i t.cf.workers):=h9.cell 0
 have r1 : w9.cell? ⟨tb, 1, none⟩ = some (.i t.cf.slots):=h9.cell 1
 have r2 : w9.cell? ⟨tb, 2, none⟩ = some (.i t.cf.streams):=h9.cell 2
 have r3 : w9.cell? ⟨tb, 3, none⟩ = some (.i t.cf.waiters):=h9.cell 3
 have r4 : w9.cell? ⟨tb, 4, none⟩ = some (.i t.cf.uses):=h9.cell 4
 have r11 : w9.cell? ⟨tb, 11, none⟩ = some (.i t.i):=h9.cell 11
 have r12 : w9.cell? ⟨tb, 12, none⟩ = some (.i t.word):=h9.cell 12
 have hcs9:=hcs w9 h9.mem
 have H9:=Lib.hid h9
 clear h9 hsl hcs
 refine ⟨_, rfl, ⟨r0, r1, r2, r3, r4, r11, r12⟩, fun hHeld => ?_⟩
 try simp only [Act.put, sA, sZ, sS]
 refine rKc (i:=17) 105 #[.tmp 38, .tmp 47, .tmp 51, .tmp 52] #[34, 3, 3, 3] (some 53) (some (1, true)) #[.pointer (some ⟨mb, 0, none⟩), .i (Tk.sc t.cf t.i), .i t.word, .i n.word] (enters_of Tryz.func105 (by kernel_rfl) rfl) ?_
 refine (hcs9).mono ?_
 rintro e wb7 ⟨rfl, hM7, hC7⟩
 have h10:=H9.out.mems hC7 hM7
 have u0 : wb7.cell? ⟨tb, 0, none⟩ = some (.i t.cf.workers):=h10.cell 0
 have u1 : wb7.cell? ⟨tb, 1, none⟩ = some (.i t.cf.slots):=h10.cell 1
 have u2 : wb7.cell? ⟨tb, 2, none⟩ = some (.i t.cf.streams):=h10.cell 2
 have u3 : wb7.cell? ⟨tb, 3, none⟩ = some (.i t.cf.waiters):=h10.cell 3
 have u4 : wb7.cell? ⟨tb, 4, none⟩ = some (.i t.cf.uses):=h10.cell 4
 have u11 : wb7.cell? ⟨tb, 11, none⟩ = some (.i t.i):=h10.cell 11
 have u12 : wb7.cell? ⟨tb, 12, none⟩ = some (.i t.word):=h10.cell 12
 have H10:=Lib.hid h10
 have hC:=Lib.hid ((Chg.ofBelow (F:=fun k => tfp tb lo ro k ∨ cfp mb wb k) hB9).trans hC7 (fun _ _ e => .inr e))
 clear h10 hcs9 hM7 hC7
 refine ⟨_, rfl, ⟨u0, u1, u2, u3, u4, u11, u12⟩, fun hHeld => ?_⟩
 try simp only [Act.put, sA, sZ, sS]
 refine tKg 18 54 hHeld ?_
 try simp only [Act.put, sA, sZ, sS]
 refine tKg 19 8 hHeld ?_
 try simp only [Act.put, sA, sZ, sS]
 refine wpAnyH_done (by kernel_rfl) ?_ _
 go_wp2_with fail
 go_ret
 exact ⟨rfl, lo, ro, H10.out, Grow.refl, Grow.refl, hC.out⟩
theorem yswap_ne {W : World} {tb mb wb : Nat} {lo ro : Option Nat} {t : Ty.Ty} {ws : List Int} {tc : Int} (h : TyAt W tb mb wb lo ro t ws tc) (hc : Small t.cf) (ht : 0 ≤ tc ∧ tc ≤ 4000000000000000000) (hi : t.i < Tk.ns t.cf) (hlen : Tk.sc t.cf t.i < ws.length) (d : Nat) (hd : DoneY d) (own : Int) {s n : S} (hD : dec t.word = some s) (hN : Tk.nextX s d own 0 = some n) (hx : Tk.rd ws (Tk.sc t.cf t.i) ≠ t.word) :
  Calls Tryz.prog 102 #[.pointer (some ⟨tb, 0, none⟩), .pointer (some ⟨mb, 0, none⟩), .i d, .i own] W (YPost W tb mb wb lo ro (.bool false) t ws (tc + 1)):=by
 have hnr:=Tk.next_right hd.x hN
 have hsl:=fun W => slot_any W t.cf t.i hc.w ⟨by have:=hc.s; unfold Tk.ns at hi; omega, hc.s.2⟩
 have hsc : (3 + 2 * t.cf.workers + (t.i : Int)) = ((Tk.sc t.cf t.i : Nat) : Int):=by have:=hc.w; unfold Tk.sc; omega
 simp only [hsc, Conf.Cf.val, Conf.Cf.cells] at hsl
 have hrd:=rd_some hlen
 generalize Tk.rd ws (Tk.sc t.cf t.i) = x at *
 have hcs:=fun W (h : CAt W mb wb ws tc) => cas_ne h ht (Tk.sc t.cf t.i) x hrd t.word n.word hx
 clear hrd hsc
 have hdc:=decode_val W t.word h.laid
 rw [hD] at hdc
 simp only [Option.getD_some, Option.isSome_some] at hdc
 have hsr:=(word_dec hD).1
 have hnx:=fun w' hL => nexty_any w' s d own 0 hd hsr hL
 rw [hN] at hnx
 simp only [Option.getD_some, Option.isSome_some] at hnx
 have c12 : W.cell? ⟨tb, 12, none⟩ = some (.i t.word):=h.cell 12
 have H:=Lib.hid h
 clear h
 go_enter Tryz.func102, Tryz.ntmps102
 go_wp2_with fail
 refine hdc.mono ?_
 rintro e w5 ⟨rfl, hb5⟩
 dsimp only
 go_step
 refine gl (.tuple #[s.val, .bool true]) ?_
 refine gl s.val ?_
 refine gl (.bool true) ?_
 refine gbox (ob:=.cells zero9 41) (Z:=zero9) (cs:=s.cells) (t:=41) 41 (.tmp 9) (.tmp 18) rfl ?_
 refine gl (.bool true) ?_
 try simp only [Act.put, sA, sZ, sS]
 rw [setRow_new]
 have hB : Below W.heap.size W (w5.alloc (.cells s.cells 41)):=hb5.alloc hb5.size _
 have hs : RowAt (w5.alloc (.cells s.cells 41)) w5.heap.size s.cells 41:=heap_alloc_new w5 _
 have hsb:=hb5.size
 generalize (w5.alloc (.cells s.cells 41)) = wa at *
 generalize w5.heap.size = sb at *
 clear hdc hb5
 have hnx:=hnx wa (H.out.below hB).laid
 go_upto_region 4 with (fail)
 refine wp_region_lit ?_
 refine grow hs 41 (.tmp 9) Tryz.underlying41 ?_
 try simp only [Act.put, sA, sZ, sS]
 refine gl (.i d) ?_
 try simp only [Act.put, sA, sZ, sS]
 refine gl (.i own) ?_
 try simp only [Act.put, sA, sZ, sS]
 refine gcall 121 #[.tmp 23, .tmp 24, .tmp 25, .const (.i 0)] #[41, 3, 3, 3] #[s.val, .i d, .i own, .i 0] (enters_of Tryz.func121 (by kernel_rfl) rfl) ?_
 refine hnx.mono ?_
 rintro e w6 ⟨rfl, hb6⟩
 refine ⟨_, rfl, ?_⟩
 have hs6 : RowAt w6 sb s.cells 41:=RowAt.below hs hb6
 have hB6:=hB.trans (hb6.mono hB.size)
 clear hs hnx hb6 hB
 try simp only [Act.put, sA, sZ, sS]
 refine gl (.tuple #[n.val, .bool true]) ?_
 try simp only [Act.put, sA, sZ, sS]
 refine gl n.val ?_
 try simp only [Act.put, sA, sZ, sS]
 refine gl (.bool true) ?_
 try simp only [Act.put, sA, sZ, sS]
 refine gSt hs6 n.cells 41 (.tmp 9) (.tmp 27) ?_
 try simp only [Act.put, sA, sZ, sS]
 refine gl (.bool true) ?_
 try simp only [Act.put, sA, sZ, sS]
 have hs7 : RowAt (w6.setRow sb n.cells) sb n.cells 41:=hs6.set _
 have hB7 : Below W.heap.size W (w6.setRow sb n.cells):=bSetRow hB6 (by omega) _
 generalize (w6.setRow sb n.cells) = w7 at *
 clear hs6 hB6
 have hen:=encode_word w7 n ((H.out.below hB7).laid) hnr
 go_upto_region 7 with (fail)
 refine wp_region_lit ?_
 refine grow hs7 41 (.tmp 9) Tryz.underlying41 ?_
 try simp only [Act.put, sA, sZ, sS]
 refine gcall 119 #[.tmp 32] #[41] #[n.val] (enters_of Tryz.func119 (by kernel_rfl) rfl) ?_
 refine hen.mono ?_
 rintro e w8 ⟨rfl, hb8⟩
 refine ⟨_, rfl, ?_⟩
 have hB8:=hB7.trans (hb8.mono hB7.size)
 clear hs7 hB7 hen hb8
 try simp only [Act.put, sA, sZ, sS]
 refine gl (.tuple #[.i n.word, .bool true]) ?_
 try simp only [Act.put, sA, sZ, sS]
 refine gl (.i n.word) ?_
 try simp only [Act.put, sA, sZ, sS]
 refine gl (.bool true) ?_
 try simp only [Act.put, sA, sZ, sS]
 refine gl (.i n.word) ?_
 try simp only [Act.put, sA, sZ, sS]
 refine gl (.bool true) ?_
 try simp only [Act.put, sA, sZ, sS]
 have hB8d:=hB8.drew
 have h8:=H.out.below hB8d
 have H8:=Lib.hid h8
 have q0 : w8.drew.cell? ⟨tb, 0, none⟩ = some (.i t.cf.workers):=h8.cell 0
 have q1 : w8.drew.cell? ⟨tb, 1, none⟩ = some (.i t.cf.slots):=h8.cell 1
 have q2 : w8.drew.cell? ⟨tb, 2, none⟩ = some (.i t.cf.streams):=h8.cell 2
 have q3 : w8.drew.cell? ⟨tb, 3, none⟩ = some (.i t.cf.waiters):=h8.cell 3
 have q4 : w8.drew.cell? ⟨tb, 4, none⟩ = some (.i t.cf.uses):=h8.cell 4
 have q11 : w8.drew.cell? ⟨tb, 11, none⟩ = some (.i t.i):=h8.cell 11
 have q12 : w8.drew.cell? ⟨tb, 12, none⟩ = some (.i t.word):=h8.cell 12
 clear h8
 go_upto_region 8 with (fail)
 refine wp_region_held_drew (S:=(fun w' => w'.cell? ⟨tb, 0, none⟩ = some (.i t.cf.workers) ∧ w'.cell? ⟨tb, 1, none⟩ = some (.i t.cf.slots) ∧ w'.cell? ⟨tb, 2, none⟩ = some (.i t.cf.streams) ∧ w'.cell? ⟨tb, 3, none⟩ = some (.i t.cf.waiters) ∧ w'.cell? ⟨tb, 4, none⟩ = some (.i t.cf.uses) ∧ w'.cell? ⟨tb, 11, none⟩ = some (.i t.i) ∧ w'.cell? ⟨tb, 12, none⟩ = some (.i t.word))) (by kernel_rfl) (by exact ⟨q0, q1, q2, q3, q4, q11, q12⟩) (fun hHeld => ?_)
 refine tKg 0 36 hHeld ?_
 try simp only [Act.put, sA, sZ, sS]
 refine tKg 1 37 hHeld ?_
 try simp only [Act.put, sA, sZ, sS]
 refine tKg 2 38 hHeld ?_
 try simp only [Act.put, sA, sZ, sS]
 refine tKg 3 39 hHeld ?_
 try simp only [Act.put, sA, sZ, sS]
 refine tKg 4 40 hHeld ?_
 try simp only [Act.put, sA, sZ, sS]
 refine tKg 5 41 hHeld ?_
 try simp only [Act.put, sA, sZ, sS]
 refine tKg 6 42 hHeld ?_
 try simp only [Act.put, sA, sZ, sS]
 refine tKg 7 43 hHeld ?_
 try simp only [Act.put, sA, sZ, sS]
 refine tKg 8 44 hHeld ?_
 try simp only [Act.put, sA, sZ, sS]
 refine tKg 9 45 hHeld ?_
 try simp only [Act.put, sA, sZ, sS]
 refine tKg 10 46 hHeld ?_
 try simp only [Act.put, sA, sZ, sS]
 refine tKg 12 48 hHeld ?_
 try simp only [Act.put, sA, sZ, sS]
 refine tKg 13 49 hHeld ?_
 try simp only [Act.put, sA, sZ, sS]
 refine tKg 14 50 hHeld ?_
 try simp only [Act.put, sA, sZ, sS]
 refine tKg 15 51 hHeld ?_
 try simp only [Act.put, sA, sZ, sS]
 refine tKg 16 52 hHeld ?_
 try simp only [Act.put, sA, sZ, sS]
 refine rKc (i:=11) 108 #[.tmp 42, .tmp 46] #[30, 3] (some 47) (some (1, true)) #[.agg (Ae t.cf.workers t.cf.slots t.cf.streams t.cf.waiters t.cf.uses), .i t.i] (enters_of Tryz.func108 (by kernel_rfl) rfl) ?_
 refine (hsl _).mono ?_
 rintro e w9 ⟨rfl, hb9⟩
 have h9:=H8.out.below hb9
 have hB9:=hB8d.trans (hb9.mono hB8d.size)
 have r0 : w9.cell? ⟨tb, 0, none⟩ = some (.i t.cf.workers):=h9.cell 0
 have r1 : w9.cell? ⟨tb, 1, none⟩ = some (.i t.cf.slots):=h9.cell 1
 have r2 : w9.cell? ⟨tb, 2, none⟩ = some (.i t.cf.streams):=h9.cell 2
 have r3 : w9.cell? ⟨tb, 3, none⟩ = some (.i t.cf.waiters):=h9.cell 3
 have r4 : w9.cell? ⟨tb, 4, none⟩ = some (.i t.cf.uses):=h9.cell 4
 have r11 : w9.cell? ⟨tb, 11, none⟩ = some (.i t.i):=h9.cell 11
 have r12 : w9.cell? ⟨tb, 12, none⟩ = some (.i t.word):=h9.cell 12
 have hcs9:=hcs w9 h9.mem
 have H9:=Lib.hid h9
 clear h9 hsl hcs
 refine ⟨_, rfl, ⟨r0, r1, r2, r3, r4, r11, r12⟩, fun hHeld => ?_⟩
 try simp only [Act.put, sA, sZ, sS]
 refine rKc (i:=17) 105 #[.tmp 38, .tmp 47, .tmp 51, .tmp 52] #[34, 3, 3, 3] (some 53) (some (1, true)) #[.pointer (some ⟨mb, 0, none⟩), .i (Tk.sc t.cf t.i), .i t.word, .i n.word] (enters_of Tryz.func105 (by kernel_rfl) rfl) ?_
 refine (hcs9).mono ?_
 rintro e wb7 ⟨rfl, hM7, hC7⟩
 have h10:=H9.out.mems hC7 hM7
 have u0 : wb7.cell? ⟨tb, 0, none⟩ = some (.i t.cf.workers):=h10.cell 0
 have u1 : wb7.cell? ⟨tb, 1, none⟩ = some (.i t.cf.slots):=h10.cell 1
 have u2 : wb7.cell? ⟨tb, 2, none⟩ = some (.i t.cf.streams):=h10.cell 2
 have u3 : wb7.cell? ⟨tb, 3, none⟩ = some (.i t.cf.waiters):=h10.cell 3
 have u4 : wb7.cell? ⟨tb, 4, none⟩ = some (.i t.cf.uses):=h10.cell 4
 have u11 : wb7.cell? ⟨tb, 11, none⟩ = some (.i t.i):=h10.cell 11
 have u12 : wb7.cell? ⟨tb, 12, none⟩ = some (.i t.word):=h10.cell 12
 have H10:=Lib.hid h10
 have hC:=Lib.hid ((Chg.ofBelow (F:=fun k => tfp tb lo ro k ∨ cfp mb wb k) hB9).trans hC7 (fun _ _ e => .inr e))
 clear h10 hcs9 hM7 hC7
 refine ⟨_, rfl, ⟨u0, u1, u2, u3, u4, u11, u12⟩, fun hHeld => ?_⟩
 try simp only [Act.put, sA, sZ, sS]
 refine tKg 18 54 hHeld ?_
 try simp only [Act.put, sA, sZ, sS]
 refine tKg 19 8 hHeld ?_
 try simp only [Act.put, sA, sZ, sS]
 refine wpAnyH_done (by kernel_rfl) ?_ _
 go_wp2_with fail
 go_ret
 exact ⟨rfl, lo, ro, H10.out, Grow.refl, Grow.refl, hC.out⟩
theorem yswap_any {W : World} {tb mb wb : Nat} {lo ro : Option Nat} {t : Ty.Ty} {ws : List Int} {tc : Int} (h : TyAt W tb mb wb lo ro t ws tc) (hc : Small t.cf) (ht : 0 ≤ tc ∧ tc ≤ 4000000000000000000) (hi : t.i < Tk.ns t.cf) (hlen : Tk.sc t.cf t.i < ws.length) (d : Nat) (hd : DoneY d) (own : Int) :
  Calls Tryz.prog 102 #[.pointer (some ⟨tb, 0, none⟩), .pointer (some ⟨mb, 0, none⟩), .i d, .i own] W (YPost W tb mb wb lo ro (.bool (t.swap d own ws).1) t (t.swap d own ws).2.1 (tc + (t.swap d own ws).2.2)):=by
 cases hD : dec t.word with
 | none =>
  have e : t.swap d own ws = (false, ws, 0):=by unfold Ty.Ty.swap Tk.nextW; rw [hD]; rfl
  rw [e]
  simpa using yswap_none h hc ht hi hlen d hd own hD
 | some s =>
  cases hN : Tk.nextX s d own 0 with
  | none =>
   have e : t.swap d own ws = (false, ws, 0):=by unfold Ty.Ty.swap Tk.nextW; rw [hD]; simp only [Option.bind_some, hN]; rfl
   rw [e]
   simpa using yswap_no h hc ht hi hlen d hd own hD hN
  | some n =>
   by_cases hx : Tk.rd ws (Tk.sc t.cf t.i) = t.word
   ·have e : t.swap d own ws = (true, ws.set (Tk.sc t.cf t.i) n.word, 1):=by unfold Ty.Ty.swap Tk.nextW; rw [hD]; simp only [Option.bind_some, hN, Option.map_some, Tk.cas, if_pos hx]
    rw [e]
    exact yswap_eq h hc ht hi hlen d hd own hD hN hx
   ·have e : t.swap d own ws = (false, ws, 1):=by unfold Ty.Ty.swap Tk.nextW; rw [hD]; simp only [Option.bind_some, hN, Option.map_some, Tk.cas, if_neg hx]
    rw [e]
    exact yswap_ne h hc ht hi hlen d hd own hD hN hx
end Go.Proofs.YteadpgiffpfmnaaGreatDoor.Cl
