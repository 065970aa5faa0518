/- Part 11 of the walks and plain laws that the last text joins. -/
import Derived.Test.YtefpoidnklflnaaGreatDoorP10
set_option maxRecDepth 100000
set_option maxHeartbeats 16000000
set_option linter.unusedVariables false
set_option linter.unusedSimpArgs false
namespace Go.Proofs.YtefpoidnklflnaaGreatDoor.Cl
open Go.RowKit Hp Slot RowL Life
def nx (word : Int) (d : Nat) (own more : Int) : Option S:=(dec word).bind fun s => Tk.nextX s d own more
def nxW : Option S → Int
 | some s => s.word
 | none => 0
theorem nx_none {word : Int} {d : Nat} {own more : Int} (h : dec word = none) : nx word d own more = none:=by unfold nx; rw [h]; rfl
theorem nx_some {word : Int} {d : Nat} {own more : Int} {s : S} (h : dec word = some s) : nx word d own more = Tk.nextX s d own more:=by unfold nx; rw [h]; rfl
theorem tafter_any {W : World} {tb mb wb : Nat} {lo ro : Option Nat} {t : Tk.Tk} {ws : List Int} {tc : Int} (h : TkAt W tb mb wb lo ro t ws tc) (word : Int) (d : Nat) (hd : DoneT d) :
  Calls Tryz.prog 92 #[.pointer (some ⟨tb, 0, none⟩), .i word, .i d] W fun e W' =>
   e = .returned (.tuple #[((nx word d t.w 0).getD S.zero).val, .i (nxW (nx word d t.w 0)), .bool (nx word d t.w 0).isSome]) ∧ Below W.heap.size W W':=by
 have hA : Below W.heap.size W (W.alloc (.cells zero9 30)):=(Below.refl _ _).alloc (Nat.le_refl _) _
 have hdc:=decode_val (W.alloc (.cells zero9 30)) word (h.laid.stable (hA.block 0 (h.laid.lt (by decide))))
 have H:=Lib.hid h
 clear h
 cases hdw : dec word with
 | none =>
  rw [hdw] at hdc
  rw [nx_none hdw]
  simp only [Option.getD_none, Option.isSome_none, nxW] at hdc ⊢
  go_enter Tryz.func92, Tryz.ntmps92
  go_wp2_with fail
  refine hdc.mono ?_
  rintro e w5 ⟨rfl, hb5⟩
  have hB : Below W.heap.size W w5:=hA.trans (hb5.mono hA.size)
  have hr : RowAt w5 W.heap.size zero9 30:=RowAt.below (heap_alloc_new W _) hb5
  have hne : W.heap.size < w5.heap.size:=RowAt.lt hr
  clear hdc hb5 hA
  dsimp only
  go_step
  refine gl (.tuple #[S.zero.val, .bool false]) ?_
  refine gl S.zero.val ?_
  refine gl (.bool false) ?_
  refine gbox (ob:=.cells zero9 30) (Z:=zero9) (cs:=S.zero.cells) (t:=30) 30 (.tmp 9) (.tmp 15) rfl ?_
  refine gl (.bool false) ?_
  try simp only [Act.put, sA, sZ, sS]
  rw [setRow_new]
  have hz : RowAt (w5.alloc (.cells S.zero.cells 30)) W.heap.size zero9 30:=RowAt.below hr ((Below.refl _ _).alloc (Nat.le_refl _) _)
  have hBz : Below W.heap.size W (w5.alloc (.cells S.zero.cells 30)):=hB.alloc hB.size _
  generalize (w5.alloc (.cells S.zero.cells 30)) = wa at *
  go_upto_region 3 with (fail)
  refine wp_region_lit ?_
  refine gl (.agg Zs) ?_
  refine gSt hz Zs 30 (.tmp 6) (.tmp 19) ?_
  go_wp2_with fail
  refine bR3 W.heap.size (hz.set Zs) Tryz.underlying30 ?_
  exact ⟨rfl, bSetRow hBz (Nat.le_refl _) _⟩
 | some s =>
  rw [hdw] at hdc
  rw [nx_some hdw]
  simp only [Option.getD_some, Option.isSome_some] at hdc
  have hsr:=(word_dec hdw).1
  have hnr:=fun s' (h : Tk.nextX s d t.w 0 = some s') => Tk.next_right hd.x h
  have hnx:=fun w' hL => nextx_any w' s d t.w 0 hd hsr hL
  generalize Tk.nextX s d t.w 0 = N at *
  go_enter Tryz.func92, Tryz.ntmps92
  go_wp2_with fail
  refine hdc.mono ?_
  rintro e w5 ⟨rfl, hb5⟩
  have hB : Below W.heap.size W w5:=hA.trans (hb5.mono hA.size)
  have hr : RowAt w5 W.heap.size zero9 30:=RowAt.below (heap_alloc_new W _) hb5
  have hne : W.heap.size < w5.heap.size:=RowAt.lt hr
  clear hdc hb5 hA
  dsimp only
  go_step
  refine gl (.tuple #[s.val, .bool true]) ?_
  refine gl s.val ?_
  refine gl (.bool true) ?_
  refine gbox (ob:=.cells zero9 30) (Z:=zero9) (cs:=s.cells) (t:=30) 30 (.tmp 9) (.tmp 15) rfl ?_
  refine gl (.bool true) ?_
  try simp only [Act.put, sA, sZ, sS]
  rw [setRow_new]
  have hz : RowAt (w5.alloc (.cells s.cells 30)) W.heap.size zero9 30:=RowAt.below hr ((Below.refl _ _).alloc (Nat.le_refl _) _)
  have hs : RowAt (w5.alloc (.cells s.cells 30)) w5.heap.size s.cells 30:=heap_alloc_new w5 _
  have hBz : Below W.heap.size W (w5.alloc (.cells s.cells 30)):=hB.alloc hB.size _
  clear hr hB
  generalize (w5.alloc (.cells s.cells 30)) = wa at *
  generalize w5.heap.size = sb at *
  have h5 : ∀ w', Below W.heap.size W w' → w'.cell? ⟨tb, 5, none⟩ = some (.i t.w):=fun w' hb => (H.out.below hb).cell 5
  have hnx:=hnx wa.drew ((H.out.below hBz.drew).laid)
  have hBd:=hBz.drew
  go_upto_region 4 with (fail)
  refine wp_region_held_drew (S:=fun w' => Below W.heap.size W w') (by kernel_rfl) (by exact hBd) (fun hHeld => ?_)
  refine tKg 1 22 hHeld ?_
  try simp only [Act.put, sA, sZ, sS]
  refine tKg 2 23 hHeld ?_
  try simp only [Act.put, sA, sZ, sS]
  refine tKg 3 24 hHeld ?_
  try simp only [Act.put, sA, sZ, sS]
  refine tKg 4 25 hHeld ?_
  try simp only [Act.put, sA, sZ, sS]
  refine tKg 5 26 hHeld ?_
  try simp only [Act.put, sA, sZ, sS]
  refine rRow 0 21 (show RowAt wa.drew sb s.cells 30 from hs) 30 (.tmp 9) Tryz.underlying30 hHeld ?_
  try simp only [Act.put, sA, sZ, sS]
  refine rKc (i:=6) 108 #[.tmp 21, .tmp 22, .tmp 26, .const (.i 0)] #[30, 3, 3, 3] (some 27) none #[s.val, .i d, .i t.w, .i 0] (enters_of Tryz.func108 (by kernel_rfl) rfl) ?_
  refine hnx.mono ?_
  rintro e w6 ⟨rfl, hb6⟩
  have hB6:=hBd.trans (hb6.mono hBd.size)
  have hz6 : RowAt w6 W.heap.size zero9 30:=RowAt.below (w:=wa.drew) hz hb6
  have hs6 : RowAt w6 sb s.cells 30:=RowAt.below (w:=wa.drew) hs hb6
  clear hz hs hnx hb6 hBz hBd
  refine ⟨_, rfl, hB6, fun hHeld => ?_⟩
  try simp only [Act.put, sA, sZ, sS]
  refine tKg 7 20 hHeld ?_
  try simp only [Act.put, sA, sZ, sS]
  refine tKg 8 28 hHeld ?_
  try simp only [Act.put, sA, sZ, sS]
  refine tKg 9 29 hHeld ?_
  try simp only [Act.put, sA, sZ, sS]
  refine rSt 10 hs6 (N.getD S.zero).cells 30 (.tmp 9) (.tmp 28) (bSetRow hHeld (by omega) _) ?_
  try simp only [Act.put, sA, sZ, sS]
  refine tKg 11 10 (bSetRow hHeld (by omega) _) ?_
  try simp only [Act.put, sA, sZ, sS]
  refine wpAnyH_done (by kernel_rfl) ?_ _
  have hs7 : RowAt (w6.setRow sb (N.getD S.zero).cells) sb (N.getD S.zero).cells 30:=hs6.set _
  have hz7 : RowAt (w6.setRow sb (N.getD S.zero).cells) W.heap.size zero9 30:=(setRow_other _ _ _ _ (by omega)).trans hz6
  have hB7 : Below W.heap.size W (w6.setRow sb (N.getD S.zero).cells):=bSetRow hHeld (by omega) _
  generalize (w6.setRow sb (N.getD S.zero).cells) = wb at *
  clear hs6 hz6 hB6 hHeld
  cases N with
  | none =>
   simp only [Option.getD_none, Option.isSome_none, nxW] at *
   go_upto_region 6 with (fail)
   refine wp_region_lit ?_
   refine gl (.agg Zs) ?_
   refine gSt hz7 Zs 30 (.tmp 6) (.tmp 32) ?_
   go_wp2_with fail
   refine bR3 W.heap.size (hz7.set Zs) Tryz.underlying30 ?_
   exact ⟨rfl, bSetRow hB7 (Nat.le_refl _) _⟩
  | some n =>
   simp only [Option.getD_some, Option.isSome_some, nxW] at *
   have hen:=encode_word wb n ((H.out.below hB7).laid) (hnr n rfl)
   go_upto_region 7 with (fail)
   refine wp_region_lit ?_
   refine grow hs7 30 (.tmp 9) Tryz.underlying30 ?_
   try simp only [Act.put, sA, sZ, sS]
   refine gcall 107 #[.tmp 34] #[30] #[n.val] (enters_of Tryz.func107 (by kernel_rfl) rfl) ?_
   refine hen.mono ?_
   rintro e w8 ⟨rfl, hb8⟩
   refine ⟨_, rfl, ?_⟩
   have hs8 : RowAt w8 sb n.cells 30:=RowAt.below hs7 hb8
   have hz8 : RowAt w8 W.heap.size zero9 30:=RowAt.below hz7 hb8
   have hB8:=hB7.trans (hb8.mono hB7.size)
   clear hs7 hz7 hB7 hen hb8
   go_upto_region 8 with (fail)
   refine wp_region_lit ?_
   refine grow hs8 30 (.tmp 9) Tryz.underlying30 ?_
   refine gl (.i n.word) ?_
   refine gl (.bool true) ?_
   try simp only [Act.put, sA, sZ, sS]
   refine gSt hz8 n.cells 30 (.tmp 6) (.tmp 38) ?_
   go_wp2_with fail
   refine bR3 W.heap.size (hz8.set _) Tryz.underlying30 ?_
   exact ⟨rfl, bSetRow hB8 (Nat.le_refl _) _⟩
theorem TPost.same {W : World} {tb mb wb : Nat} {lo ro : Option Nat} {t : Tk.Tk} {ws : List Int} {tc : Int} (h : TkAt W tb mb wb lo ro t ws tc) {W' : World} {ws' : List Int} {tc' : Int} {v : Value} {e : Ending} (he : e = .returned v) (h' : TkAt W' tb mb wb lo ro t ws' tc') (hc : Chg (fun k => tfp tb lo ro k ∨ cfp mb wb k) W W') : TPost W tb mb wb lo ro v t ws' tc' e W' :=
 ⟨he, lo, ro, h', Grow.refl, Grow.refl, hc⟩
theorem rd_some {ws : List Int} {i : Nat} (h : i < ws.length) : ws[i]? = some (Tk.rd ws i):=by
 unfold Tk.rd
 rw [List.getD_eq_getElem?_getD, List.getElem?_eq_getElem h]
 rfl
theorem tswap_none {W : World} {tb mb wb : Nat} {lo ro : Option Nat} {t : Tk.Tk} {ws : List Int} {tc : Int} (h : TkAt W tb mb wb lo ro t ws tc) (i : Nat) (word : Int) (d : Nat) (hd : DoneT d) (hN : nx word d t.w 0 = none) :
  Calls Tryz.prog 95 #[.pointer (some ⟨tb, 0, none⟩), .pointer (some ⟨mb, 0, none⟩), .i i, .i word, .i d] W (TPost W tb mb wb lo ro (.bool false) t ws tc):=by
 have haf:=tafter_any h word d hd
 rw [hN] at haf
 simp only [Option.getD_none, Option.isSome_none, nxW] at haf
 have H:=Lib.hid h
 clear h
 go_enter Tryz.func95, Tryz.ntmps95
 go_wp2_with fail
 refine haf.mono ?_
 rintro e w5 ⟨rfl, hb5⟩
 clear haf
 dsimp only
 go_step
 refine gl (.tuple #[S.zero.val, .i 0, .bool false]) ?_
 refine gl S.zero.val ?_
 refine gl (.i 0) ?_
 refine gl (.bool false) ?_
 refine gbox (ob:=.cells zero9 30) (Z:=zero9) (cs:=S.zero.cells) (t:=30) 30 (.tmp 11) (.tmp 19) rfl ?_
 refine gl (.i 0) ?_
 refine gl (.bool false) ?_
 try simp only [Act.put, sA, sZ, sS]
 rw [setRow_new]
 have hB : Below W.heap.size W (w5.alloc (.cells S.zero.cells 30)):=hb5.alloc hb5.size _
 generalize (w5.alloc (.cells S.zero.cells 30)) = wa at *
 clear hb5
 go_wp2_with fail
 go_ret
 exact TPost.same H.out rfl (H.out.below hB) (Chg.ofBelow hB)
theorem tswap_eq {W : World} {tb mb wb : Nat} {lo ro : Option Nat} {t : Tk.Tk} {ws : List Int} {tc : Int} (h : TkAt W tb mb wb lo ro t ws tc) (hc : Small t.cf) (ht : 0 ≤ tc ∧ tc ≤ 4000000000000000000) (i : Nat) (hi : i < Tk.ns t.cf) (hlen : Tk.sc t.cf i < ws.length) (word : Int) (d : Nat) (hd : DoneT d) {s : S} (hN : nx word d t.w 0 = some s) (hx : Tk.rd ws (Tk.sc t.cf i) = word) :
  Calls Tryz.prog 95 #[.pointer (some ⟨tb, 0, none⟩), .pointer (some ⟨mb, 0, none⟩), .i i, .i word, .i d] W (TPost W tb mb wb lo ro (.bool true) { t with i:=i, word:=s.word, gen:=s.gen } (ws.set (Tk.sc t.cf i) s.word) (tc + 1)):=by
 have haf:=tafter_any h word d hd
 rw [hN] at haf
 simp only [Option.getD_some, Option.isSome_some, nxW] at haf
 have hsl:=fun W => slot_any W t.cf i hc.w ⟨by have:=hc.s; unfold Tk.ns at hi; omega, hc.s.2⟩
 have hsc : (3 + 2 * t.cf.workers + (i : Int)) = ((Tk.sc t.cf i : Nat) : Int):=by have:=hc.w; unfold Tk.sc; omega
 simp only [hsc, Conf.Cf.val, Conf.Cf.cells] at hsl
 have hrd:=rd_some hlen
 rw [hx] at hrd
 have hcs:=fun W (h : CAt W mb wb ws tc) => cas_eq h ht (Tk.sc t.cf i) word hrd s.word
 have H:=Lib.hid h
 have hml:=h.mem.lt
 have htl:=h.lt
 clear h hrd
 go_enter Tryz.func95, Tryz.ntmps95
 go_wp2_with fail
 refine haf.mono ?_
 rintro e w5 ⟨rfl, hb5⟩
 clear haf
 dsimp only
 go_step
 refine gl (.tuple #[s.val, .i s.word, .bool true]) ?_
 refine gl s.val ?_
 refine gl (.i s.word) ?_
 refine gl (.bool true) ?_
 refine gbox (ob:=.cells zero9 30) (Z:=zero9) (cs:=s.cells) (t:=30) 30 (.tmp 11) (.tmp 19) rfl ?_
 refine gl (.i s.word) ?_
 refine gl (.bool true) ?_
 try simp only [Act.put, sA, sZ, sS]
 rw [setRow_new]
 have hB : Below W.heap.size W (w5.alloc (.cells s.cells 30)):=hb5.alloc hb5.size _
 have hs : RowAt (w5.alloc (.cells s.cells 30)) w5.heap.size s.cells 30:=heap_alloc_new w5 _
 have hsb:=hb5.size
 generalize (w5.alloc (.cells s.cells 30)) = wa at *
 generalize w5.heap.size = sb at *
 clear hb5
 have ha:=H.out.below hB
 have c0 : wa.cell? ⟨tb, 0, none⟩ = some (.i t.cf.workers):=ha.cell 0
 have c1 : wa.cell? ⟨tb, 1, none⟩ = some (.i t.cf.slots):=ha.cell 1
 have c2 : wa.cell? ⟨tb, 2, none⟩ = some (.i t.cf.streams):=ha.cell 2
 have c3 : wa.cell? ⟨tb, 3, none⟩ = some (.i t.cf.waiters):=ha.cell 3
 have c4 : wa.cell? ⟨tb, 4, none⟩ = some (.i t.cf.uses):=ha.cell 4
 have Ha:=Lib.hid ha
 clear ha
 go_wp2_with fail
 refine (hsl _).mono ?_
 rintro e w6 ⟨rfl, hb6⟩
 have h6:=Ha.out.below hb6
 have hs6 : RowAt w6 sb s.cells 30:=RowAt.below hs hb6
 have hB6:=hB.trans (hb6.mono hB.size)
 have hcs6:=hcs w6 h6.mem
 have H6:=Lib.hid h6
 clear h6 hs hb6 hsl hcs c0 c1 c2 c3 c4
 go_wp2_with fail
 refine hcs6.mono ?_
 rintro e w7 ⟨rfl, hM7, hC7⟩
 have h7:=H6.out.mems hC7 hM7
 have hC : Chg (fun k => tfp tb lo ro k ∨ cfp mb wb k) W w7:=(Chg.ofBelow (F:=fun k => tfp tb lo ro k ∨ cfp mb wb k) hB6).trans hC7 (fun _ _ e => .inr e)
 have hs7 : RowAt w7 sb s.cells 30:=(hC7.block _ (RowAt.lt hs6) (fun e => e.elim (fun e => by omega) (fun e => by omega))).trans hs6
 have d8 : w7.cell? ⟨tb, 8, none⟩ = some (.i t.i):=h7.cell 8
 have d9 : w7.cell? ⟨tb, 9, none⟩ = some (.i t.word):=h7.cell 9
 have d10 : w7.cell? ⟨tb, 10, none⟩ = some (.i t.gen):=h7.cell 10
 have df8:=h7.frozen 8
 have df9:=h7.frozen 9
 have df10:=h7.frozen 10
 have s6 : w7.cell? ⟨sb, 6, none⟩ = some (.i s.gen):=RowAt.cell hs7 6
 have hne : sb ≠ tb:=by omega
 have H7:=Lib.hid h7
 have HC:=Lib.hid hC
 clear h7 hcs6 hs6 hs7 hM7 hC7 hC hB6
 go_wp2_with fail
 go_region
 go_wp2_with fail
 go_ret
 have hfin:=((H7.out.put 8 (.i i) { t with i:=i } rfl rfl rfl rfl).put 9 (.i s.word) { t with i:=i, word:=s.word } rfl rfl rfl rfl).put 10 (.i s.gen) { t with i:=i, word:=s.word, gen:=s.gen } rfl rfl rfl rfl
 refine ⟨rfl, lo, ro, hfin.below (Below.refl _ _).drew, Grow.refl, Grow.refl, ?_⟩
 exact (((HC.out.setCell ⟨tb, 8, none⟩ _ (fun _ => .inl (.inl rfl))).setCell ⟨tb, 9, none⟩ _ (fun _ => .inl (.inl rfl))).setCell ⟨tb, 10, none⟩ _ (fun _ => .inl (.inl rfl))).drew
theorem tswap_ne {W : World} {tb mb wb : Nat} {lo ro : Option Nat} {t : Tk.Tk} {ws : List Int} {tc : Int} (h : TkAt W tb mb wb lo ro t ws tc) (hc : Small t.cf) (ht : 0 ≤ tc ∧ tc ≤ 4000000000000000000) (i : Nat) (hi : i < Tk.ns t.cf) (hlen : Tk.sc t.cf i < ws.length) (word : Int) (d : Nat) (hd : DoneT d) {s : S} (hN : nx word d t.w 0 = some s) (hx : Tk.rd ws (Tk.sc t.cf i) ≠ word) :
  Calls Tryz.prog 95 #[.pointer (some ⟨tb, 0, none⟩), .pointer (some ⟨mb, 0, none⟩), .i i, .i word, .i d] W (TPost W tb mb wb lo ro (.bool false) t ws (tc + 1)):=by
 have haf:=tafter_any h word d hd
 rw [hN] at haf
 simp only [Option.getD_some, Option.isSome_some, nxW] at haf
 have hsl:=fun W => slot_any W t.cf i hc.w ⟨by have:=hc.s; unfold Tk.ns at hi; omega, hc.s.2⟩
 have hsc : (3 + 2 * t.cf.workers + (i : Int)) = ((Tk.sc t.cf i : Nat) : Int):=by have:=hc.w; unfold Tk.sc; omega
 simp only [hsc, Conf.Cf.val, Conf.Cf.cells] at hsl
 have hrd:=rd_some hlen
 generalize Tk.rd ws (Tk.sc t.cf i) = x at *
 have hcs:=fun W (h : CAt W mb wb ws tc) => cas_ne h ht (Tk.sc t.cf i) x hrd word s.word hx
 have H:=Lib.hid h
 have hml:=h.mem.lt
 have htl:=h.lt
 clear h hrd
 go_enter Tryz.func95, Tryz.ntmps95
 go_wp2_with fail
 refine haf.mono ?_
 rintro e w5 ⟨rfl, hb5⟩
 clear haf
 dsimp only
 go_step
 refine gl (.tuple #[s.val, .i s.word, .bool true]) ?_
 refine gl s.val ?_
 refine gl (.i s.word) ?_
 refine gl (.bool true) ?_
 refine gbox (ob:=.cells zero9 30) (Z:=zero9) (cs:=s.cells) (t:=30) 30 (.tmp 11) (.tmp 19) rfl ?_
 refine gl (.i s.word) ?_
 refine gl (.bool true) ?_
 try simp only [Act.put, sA, sZ, sS]
 rw [setRow_new]
 have hB : Below W.heap.size W (w5.alloc (.cells s.cells 30)):=hb5.alloc hb5.size _
 have hs : RowAt (w5.alloc (.cells s.cells 30)) w5.heap.size s.cells 30:=heap_alloc_new w5 _
 have hsb:=hb5.size
 generalize (w5.alloc (.cells s.cells 30)) = wa at *
 generalize w5.heap.size = sb at *
 clear hb5
 have ha:=H.out.below hB
 have c0 : wa.cell? ⟨tb, 0, none⟩ = some (.i t.cf.workers):=ha.cell 0
 have c1 : wa.cell? ⟨tb, 1, none⟩ = some (.i t.cf.slots):=ha.cell 1
 have c2 : wa.cell? ⟨tb, 2, none⟩ = some (.i t.cf.streams):=ha.cell 2
 have c3 : wa.cell? ⟨tb, 3, none⟩ = some (.i t.cf.waiters):=ha.cell 3
 have c4 : wa.cell? ⟨tb, 4, none⟩ = some (.i t.cf.uses):=ha.cell 4
 have Ha:=Lib.hid ha
 clear ha
 go_wp2_with fail
 refine (hsl _).mono ?_
 rintro e w6 ⟨rfl, hb6⟩
 have h6:=Ha.out.below hb6
 have hs6 : RowAt w6 sb s.cells 30:=RowAt.below hs hb6
 have hB6:=hB.trans (hb6.mono hB.size)
 have hcs6:=hcs w6 h6.mem
 have H6:=Lib.hid h6
 clear h6 hs hb6 hsl hcs c0 c1 c2 c3 c4
 go_wp2_with fail
 refine hcs6.mono ?_
 rintro e w7 ⟨rfl, hM7, hC7⟩
 have h7:=H6.out.mems hC7 hM7
 have hC : Chg (fun k => tfp tb lo ro k ∨ cfp mb wb k) W w7:=(Chg.ofBelow (F:=fun k => tfp tb lo ro k ∨ cfp mb wb k) hB6).trans hC7 (fun _ _ e => .inr e)
 have hs7 : RowAt w7 sb s.cells 30:=(hC7.block _ (RowAt.lt hs6) (fun e => e.elim (fun e => by omega) (fun e => by omega))).trans hs6
 have H7:=Lib.hid h7
 have HC:=Lib.hid hC
 clear h7 hcs6 hs6 hs7 hM7 hC7 hC hB6
 go_wp2_with fail
 go_ret
 exact TPost.same H.out rfl H7.out HC.out
theorem tswap_any {W : World} {tb mb wb : Nat} {lo ro : Option Nat} {t : Tk.Tk} {ws : List Int} {tc : Int} (h : TkAt W tb mb wb lo ro t ws tc) (hc : Small t.cf) (ht : 0 ≤ tc ∧ tc ≤ 4000000000000000000) (i : Nat) (hi : i < Tk.ns t.cf) (hlen : Tk.sc t.cf i < ws.length) (word : Int) (d : Nat) (hd : DoneT d) :
  Calls Tryz.prog 95 #[.pointer (some ⟨tb, 0, none⟩), .pointer (some ⟨mb, 0, none⟩), .i i, .i word, .i d] W (TPost W tb mb wb lo ro (.bool (t.swap i word d ws).1) (t.swap i word d ws).2.1 (t.swap i word d ws).2.2.1 (tc + (t.swap i word d ws).2.2.2)):=by
 have e : t.swap i word d ws = match nx word d t.w 0 with
  | some s => if Tk.rd ws (Tk.sc t.cf i) = word then (true, { t with i:=i, word:=s.word, gen:=s.gen }, ws.set (Tk.sc t.cf i) s.word, 1) else (false, t, ws, 1)
  | none => (false, t, ws, 0):=rfl
 rw [e]
 cases hN : nx word d t.w 0 with
 | none => simpa using tswap_none h i word d hd hN
 | some s =>
  dsimp only
  by_cases hx : Tk.rd ws (Tk.sc t.cf i) = word
  ·rw [if_pos hx]
   exact tswap_eq h hc ht i hi hlen word d hd hN hx
  ·rw [if_neg hx]
   exact tswap_ne h hc ht i hi hlen word d hd hN hx
theorem TkAt.newApart {W : World} {tb mb wb : Nat} {lo ro : Option Nat} {t : Tk.Tk} {ws : List Int} {tc : Int} (h : TkAt W tb mb wb lo ro t ws tc) {b : Nat} (hb : W.heap.size ≤ b) : Apart b mb wb ∧ b ≠ tb ∧ ro ≠ some b ∧ lo ≠ some b:=by
 have h1:=h.mem.lt
 have h2:=h.lt
 have h0 : 0 < W.heap.size:=h.laid.lt (by decide)
 refine ⟨⟨by omega, by omega, by omega, h.ap.m0, h.ap.w0⟩, by omega, fun e => ?_, fun e => ?_⟩
 ·have:=(h.ra b e).2.2
  omega
 ·have:=(h.la b e).2.2
  omega
theorem fstep_any {W : World} {fb mb wb : Nat} {c : Conf.Cf} {f : Tk.Fd} {ws : List Int} {tc : Int} (hL : Laid W) (h : FdAt W fb c f) (hm : CAt W mb wb ws tc) (hc : Small c) (ha : Apart fb mb wb) (ht : 0 ≤ tc ∧ tc ≤ 4000000000000000000)
  (hf : Tk.FdOk c f) (hlen : ws.length = 3 + 2 * c.workers.toNat + Tk.ns c) :
  Calls Tryz.prog 104 #[.pointer (some ⟨fb, 0, none⟩), .pointer (some ⟨mb, 0, none⟩)] W (FPost W fb mb wb c ws tc (f.step c ws)):=by
 by_cases hI : f.found = true ∨ Tk.ns c ≤ f.at'
 ·exact fstep_idle h hm hc hI
 ·simp only [not_or] at hI
  have hlt : Tk.sc c f.at' < ws.length:=by unfold Tk.sc; omega
  have hx : ws[Tk.sc c f.at']? = some ws[Tk.sc c f.at']:=List.getElem?_eq_getElem hlt
  exact fstep_look hL h hm hc ha ht (by have:=hf.1; omega) (by simpa using hI.1) (by omega) hx
theorem rest_step {W : World} {tb mb wb : Nat} {lo ro : Option Nat} {t : Tk.Tk} {ws : List Int} {tc : Int} (h : TkAt W tb mb wb lo ro t ws tc) (good : Bool) : Calls Tryz.prog 73 #[.pointer (some ⟨tb, 0, none⟩), .pointer (some ⟨mb, 0, none⟩), .bool good] W (TPost W tb mb wb lo ro (.tuple #[]) t ws tc):=by
 have H:=Lib.hid h
 clear h
 go_enter Tryz.func73, Tryz.ntmps73
 first | go_end0 | (go_wp2_with fail; first | go_end0 | refine bodyPost_ret (results_none rfl _ _ _) rfl ?_)
 exact ⟨rfl, lo, ro, H.out, Grow.refl, Grow.refl, Chg.refl _ _⟩
theorem tend_any {W : World} {tb mb wb : Nat} {lo ro : Option Nat} {t : Tk.Tk} {ws : List Int} {tc : Int} (h : TkAt W tb mb wb lo ro t ws tc) (e : Int) : Calls Tryz.prog 85 #[.pointer (some ⟨tb, 0, none⟩), .i e] W (TPost W tb mb wb lo ro (.tuple #[]) (t.finish e) ws tc):=by
 have c6 : W.cell? ⟨tb, 6, none⟩ = some (.i t.st):=h.cell 6
 have c9 : W.cell? ⟨tb, 9, none⟩ = some (.i t.word):=h.cell 9
 have cf6:=h.frozen 6
 have cf9:=h.frozen 9
 have c13 : W.cell? ⟨tb, 13, none⟩ = some (.i t.e):=h.cell 13
 have cf13:=h.frozen 13
 have H:=Lib.hid h
 clear h
 go_enter Tryz.func85, Tryz.ntmps85
 go_wp2_with fail
 first | go_end0 | refine bodyPost_ret (results_none rfl _ _ _) rfl ?_
 refine ⟨rfl, lo, ro, (H.out.put 13 (.i e) { t with e:=e } rfl rfl rfl rfl).put 6 (.i 15) (t.finish e) rfl rfl rfl rfl, Grow.refl, Grow.refl, ?_⟩
 exact ((Chg.refl _ W).setCell ⟨tb, 13, none⟩ _ (fun _ => .inl (.inl rfl))).setCell ⟨tb, 6, none⟩ _ (fun _ => .inl (.inl rfl))
theorem search_any {W : World} {tb mb wb : Nat} {lo ro : Option Nat} {t : Tk.Tk} {ws : List Int} {tc : Int} (h : TkAt W tb mb wb lo ro t ws tc) (st : Nat) (kind own : Int) : Calls Tryz.prog 86 #[.pointer (some ⟨tb, 0, none⟩), .i st, .i kind, .i own] W (TPost W tb mb wb lo ro (.tuple #[]) (t.search st kind own) ws tc):=by
 have hn:=fun W => fnew_any W t.cf kind own
 simp only [Conf.Cf.val, Conf.Cf.cells] at hn
 have c0 : W.cell? ⟨tb, 0, none⟩ = some (.i t.cf.workers):=h.cell 0
 have c1 : W.cell? ⟨tb, 1, none⟩ = some (.i t.cf.slots):=h.cell 1
 have c2 : W.cell? ⟨tb, 2, none⟩ = some (.i t.cf.streams):=h.cell 2
 have c3 : W.cell? ⟨tb, 3, none⟩ = some (.i t.cf.waiters):=h.cell 3
 have c4 : W.cell? ⟨tb, 4, none⟩ = some (.i t.cf.uses):=h.cell 4
 have c6 : W.cell? ⟨tb, 6, none⟩ = some (.i t.st):=h.cell 6
 have c7 : W.cell? ⟨tb, 7, none⟩ = some (ptrOf lo):=h.cell 7
 have cf6:=h.frozen 6
 have cf7:=h.frozen 7
 have H:=Lib.hid h
 clear h
 go_enter Tryz.func86, Tryz.ntmps86
 go_wp2_with fail
 refine (hn _).mono ?_
 rintro e w5 ⟨fb, rfl, hF, hge, hb5⟩
 have h5:=H.out.below hb5
 have d6 : w5.cell? ⟨tb, 6, none⟩ = some (.i t.st):=h5.cell 6
 have d7 : w5.cell? ⟨tb, 7, none⟩ = some (ptrOf lo):=h5.cell 7
 have df6:=h5.frozen 6
 have df7:=h5.frozen 7
 have H5:=Lib.hid h5
 have HF:=Lib.hid hF
 have HB:=Lib.hid hb5
 clear h5 hF hb5 hn c0 c1 c2 c3 c4 c6 c7 cf6 cf7
 go_wp2_with fail
 first | go_end0 | refine bodyPost_ret (results_none rfl _ _ _) rfl ?_
 obtain ⟨n1, n2, n3, n4⟩:=H.out.newApart hge
 refine ⟨rfl, some fb, ro, (H5.out.putLook HF.out n1 n2 n3).put 6 (.i st) (t.search st kind own) rfl rfl rfl rfl, .inr ⟨fb, rfl, hge⟩, Grow.refl, ?_⟩
 exact ((Chg.ofBelow (F:=fun k => tfp tb lo ro k ∨ cfp mb wb k) HB.out).setCell ⟨tb, 7, none⟩ _ (fun _ => .inl (.inl rfl))).setCell ⟨tb, 6, none⟩ _ (fun _ => .inl (.inl rfl))
theorem seek_any {W : World} {tb mb wb : Nat} {lo ro : Option Nat} {t : Tk.Tk} {ws : List Int} {tc : Int} (h : TkAt W tb mb wb lo ro t ws tc) (hok : Tk.TkOk t ws) (ht : 0 ≤ tc ∧ tc ≤ 4000000000000000000) (h1 : 1 ≤ t.st) (h8 : t.st ≤ 8) :
  Calls Tryz.prog 87 #[.pointer (some ⟨tb, 0, none⟩), .pointer (some ⟨mb, 0, none⟩)] W (TPost W tb mb wb lo ro (.tuple #[.bool (t.seek ws).1, .bool (t.seek ws).2.1]) (t.seek ws).2.2.1 ws (tc + (t.seek ws).2.2.2)):=by
 obtain ⟨f, hl, -⟩:=hok.has h1 h8
 obtain ⟨fb, rfl, hF⟩:=h.look f hl
 have hA:=h.la fb rfl
 rw [Tk.seek_eq hl]
 have hst:=fstep_any h.laid hF h.mem ⟨hok.c.w, hok.c.s⟩ hA.1 ht (hok.look f hl) hok.len
 clear hF
 generalize f.step t.cf ws = q at *
 obtain ⟨b, f', n⟩:=q
 dsimp only at *
 have c7 : W.cell? ⟨tb, 7, none⟩ = some (.pointer (some ⟨fb, 0, none⟩)):=h.cell 7
 have H:=Lib.hid h
 clear h
 go_enter Tryz.func87, Tryz.ntmps87
 go_wp2_with fail
 refine hst.mono ?_
 rintro e w5 ⟨rfl, hF5, hM5, hC5⟩
 have h5:=H.out.fstep rfl hC5 hF5 hM5
 have d7 : w5.cell? ⟨tb, 7, none⟩ = some (.pointer (some ⟨fb, 0, none⟩)):=h5.cell 7
 have hfo:=found_any hF5
 have H5:=Lib.hid h5
 have HC:=Lib.hid (hC5.mono (G:=fun k => tfp tb (some fb) ro k ∨ cfp mb wb k) fun k _ e => e.elim (fun e => .inl (.inr (.inl (by rw [e])))) .inr)
 clear h5 hst c7 hF5 hM5 hC5
 cases hf : f'.found <;> rw [hf] at hfo <;> cases b
 ·go_wp2_with fail
  refine hfo.mono ?_
  rintro e w6 ⟨rfl, hb6⟩
  clear hfo
  go_wp2_with fail
  go_ret2
  exact ⟨by (rw [hf]; rfl), some fb, ro, H5.out.below hb6, Grow.refl, Grow.refl, HC.out.trans (Chg.ofBelow hb6) (fun _ _ e => e)⟩
 ·go_wp2_with fail
  refine hfo.mono ?_
  rintro e w6 ⟨rfl, hb6⟩
  clear hfo
  go_wp2_with fail
  go_ret2
  exact ⟨by (rw [hf]; rfl), some fb, ro, H5.out.below hb6, Grow.refl, Grow.refl, HC.out.trans (Chg.ofBelow hb6) (fun _ _ e => e)⟩
 ·go_wp2_with fail
  refine hfo.mono ?_
  rintro e w6 ⟨rfl, hb6⟩
  clear hfo
  go_wp2_with fail
  go_ret2
  exact ⟨by (rw [hf]; rfl), some fb, ro, H5.out.below hb6, Grow.refl, Grow.refl, HC.out.trans (Chg.ofBelow hb6) (fun _ _ e => e)⟩
 ·go_wp2_with fail
  refine hfo.mono ?_
  rintro e w6 ⟨rfl, hb6⟩
  clear hfo
  go_wp2_with fail
  go_ret2
  exact ⟨by (rw [hf]; rfl), some fb, ro, H5.out.below hb6, Grow.refl, Grow.refl, HC.out.trans (Chg.ofBelow hb6) (fun _ _ e => e)⟩
theorem answer_any {W : World} {tb mb wb : Nat} {lo ro : Option Nat} {t : Tk.Tk} {ws : List Int} {tc : Int} (h : TkAt W tb mb wb lo ro t ws tc) : Calls Tryz.prog 17 #[.pointer (some ⟨tb, 0, none⟩)] W fun e W' => e = .returned (.tuple #[.i t.answer.1, .i t.answer.2.1, .i t.answer.2.2]) ∧ Below W.heap.size W W':=by
 have c6 : W.cell? ⟨tb, 6, none⟩ = some (.i t.st):=h.cell 6
 have c8 : W.cell? ⟨tb, 8, none⟩ = some (.i t.i):=h.cell 8
 have c10 : W.cell? ⟨tb, 10, none⟩ = some (.i t.gen):=h.cell 10
 have c13 : W.cell? ⟨tb, 13, none⟩ = some (.i t.e):=h.cell 13
 clear h
 go_enter Tryz.func17, Tryz.ntmps17
 by_cases h15 : t.st = 15
 ·rw [h15] at c6
  by_cases he : t.e = 0
  ·rw [he] at c13
   go_wp2_with fail
   go_region
   go_wp2_with fail
   go_ret3
   exact ⟨by simp [Tk.Tk.answer, h15, he], (Below.refl _ _).drew⟩
  ·go_wp2_with fail
   go_ret3
   exact ⟨by simp [Tk.Tk.answer, h15, he], Below.refl _ _⟩
 ·have hz : ¬ ((t.st : Int) = 15):=by omega
  go_wp2_with fail
  go_ret3
  exact ⟨by simp [Tk.Tk.answer, h15], Below.refl _ _⟩
theorem TkAt.fresh {W : World} {mb wb : Nat} {ws : List Int} {tc : Int} (hm : CAt W mb wb ws tc) (hL : Laid W) (h0 : 0 ≠ mb) (hw0 : 0 ≠ wb) {W' : World} {tb : Nat} (hb : Below W.heap.size W W') (ht : W.heap.size ≤ tb) {t : Tk.Tk} (hr : TRow W' tb t none none) (hl : t.look = none) (hq : t.rt = none) : TkAt W' tb mb wb none none t ws tc:=by
 have h1:=hm.lt
 have h2 : 0 < W.heap.size:=hL.lt (by decide)
 exact ⟨hr, fun f e => (by rw [hl] at e; cases e), fun r e => (by rw [hq] at e; cases e), fun _ e => (nomatch e), fun _ e => (nomatch e), fun _ _ e => (nomatch e), hm.below hb, ⟨by omega, by omega, by omega, h0, hw0⟩, hL.stable (hb.block 0 h2)⟩
theorem tnew_any (W : World) (c : Conf.Cf) (w : Int) : Calls Tryz.prog 14 #[c.val, .i w] W fun e W' => ∃ tb, e = .returned (.pointer (some ⟨tb, 0, none⟩)) ∧ TRow W' tb (Tk.Tk.new c w) none none ∧ W.heap.size ≤ tb ∧ Below W.heap.size W W':=by
 obtain ⟨cw, cs, cst, cwa, cu⟩:=c
 go_enter Tryz.func14, Tryz.ntmps14
 simp only [Conf.Cf.val, Conf.Cf.cells]
 go_wp2_with fail
 go_ret
 refine ⟨W.heap.size + 1, rfl, ?_, by omega, ((Below.refl _ _).alloc (Nat.le_refl _) _).alloc (by simp) _⟩
 exact heap_alloc2_new _ _ _
def TR (W : World) (tb mb wb : Nat) (lo ro : Option Nat) (W' : World) (lo' ro' : Option Nat) : Prop:=Grow W lo lo' ∧ Grow W ro ro' ∧ Chg (fun k => tfp tb lo ro k ∨ cfp mb wb k) W W'
section
variable {W w w' : World} {tb mb wb : Nat} {lo ro l1 r1 l2 r2 : Option Nat}
theorem TR.refl : TR W tb mb wb lo ro W lo ro:=⟨Grow.refl, Grow.refl, Chg.refl _ _⟩
theorem TR.trans (h : TR W tb mb wb lo ro w l1 r1) (h2 : TR w tb mb wb l1 r1 w' l2 r2) : TR W tb mb wb lo ro w' l2 r2:=by
 refine ⟨h.1.trans h2.1 h.2.2.size, h.2.1.trans h2.2.1 h.2.2.size, h.2.2.trans h2.2.2 (fun k hk e => ?_)⟩
 rcases e with e | e
 ·rcases Grow.fp (W1:=w) (tb:=tb) h.1 h.2.1 e with e | e
  ·exact .inl e
  ·omega
 ·exact .inr e
theorem TR.chg {F : Nat → Prop} (h : TR W tb mb wb lo ro w l1 r1) (hc : Chg F w w') (hF : ∀ k, F k → tfp tb l1 r1 k ∨ cfp mb wb k) : TR W tb mb wb lo ro w' l1 r1:=h.trans ⟨Grow.refl, Grow.refl, hc.mono (fun k _ e => hF k e)⟩
theorem TR.below (h : TR W tb mb wb lo ro w l1 r1) (hb : Below w.heap.size w w') : TR W tb mb wb lo ro w' l1 r1:=h.trans ⟨Grow.refl, Grow.refl, Chg.ofBelow hb⟩
theorem TR.set (h : TR W tb mb wb lo ro w l1 r1) (i : Nat) (v : Value) : TR W tb mb wb lo ro (w.setCell ⟨tb, i, none⟩ v) l1 r1:=h.trans ⟨Grow.refl, Grow.refl, (Chg.refl _ _).setCell ⟨tb, i, none⟩ _ (fun _ => .inl (.inl rfl))⟩
theorem TR.mem (h : TR W tb mb wb lo ro w l1 r1) (hc : Chg (cfp mb wb) w w') : TR W tb mb wb lo ro w' l1 r1:=h.chg hc (fun _ e => .inr e)
end
def SPost (W : World) (tb mb wb : Nat) (lo ro : Option Nat) (t : Tk.Tk) (ws : List Int) (tc : Int) (good : Bool) : Ending → World → Prop :=
 TPost W tb mb wb lo ro (.tuple #[]) (t.step ws good).1 (t.step ws good).2.1 (tc + (t.step ws good).2.2)
theorem len_sc {t : Tk.Tk} {ws : List Int} (hok : Tk.TkOk t ws) {i : Nat} (hi : i < Tk.ns t.cf) : Tk.sc t.cf i < ws.length:=by have:=hok.len; unfold Tk.sc; omega
theorem len_0 {t : Tk.Tk} {ws : List Int} (hok : Tk.TkOk t ws) : 0 < ws.length:=by have:=hok.len; omega
theorem seize_any {W : World} {tb mb wb : Nat} {lo ro : Option Nat} {t : Tk.Tk} {ws : List Int} {tc : Int} (h : TkAt W tb mb wb lo ro t ws tc) (hc : Small t.cf) (ht : 0 ≤ tc ∧ tc ≤ 4000000000000000000) {f : Tk.Fd} (hl : t.look = some f) (hf : f.found = true) (hi : f.at' < Tk.ns t.cf) (hlen : Tk.sc t.cf f.at' < ws.length) (d : Nat) (hd : DoneT d) :
  Calls Tryz.prog 88 #[.pointer (some ⟨tb, 0, none⟩), .pointer (some ⟨mb, 0, none⟩), .i d] W (TPost W tb mb wb lo ro (.bool (t.seize d ws).1) (t.seize d ws).2.1 (t.seize d ws).2.2.1 (tc + (t.seize d ws).2.2.2)):=by
 obtain ⟨fb, rfl, hF⟩:=h.look f hl
 have hfd : t.fd = f:=by unfold Tk.Tk.fd; rw [hl]; rfl
 have hfo:=found_any hF
 rw [hf, if_pos rfl] at hfo
 have hsw:=fun w h => tswap_any (W:=w) (lo:=some fb) (ro:=ro) (tb:=tb) (mb:=mb) (wb:=wb) (t:=t) (ws:=ws) (tc:=tc) h hc ht f.at' hi hlen f.word d hd
 have hse : t.seize d ws = if (t.swap f.at' f.word d ws).1 then t.swap f.at' f.word d ws else (false, { (t.swap f.at' f.word d ws).2.1 with look:=some (t.swap f.at' f.word d ws).2.1.fd.again }, (t.swap f.at' f.word d ws).2.2):=by unfold Tk.Tk.seize; rw [hfd]
 have hst:=Tk.swap_take t f.at' f.word d ws
 rw [hse]
 clear hse
 generalize t.swap f.at' f.word d ws = q at *
 obtain ⟨b, t', ws', n⟩:=q
 dsimp only at *
 have c7 : W.cell? ⟨tb, 7, none⟩ = some (.pointer (some ⟨fb, 0, none⟩)):=h.cell 7
 have H:=Lib.hid h
 clear h
 cases b
 ·have ht' : t' = t:=by
   rcases hst with ⟨x, g, -, e⟩ | ⟨e, -⟩
   ·cases e
   ·exact e
  subst ht'
  rw [if_neg (by simp), hfd]
  dsimp only
  go_enter Tryz.func88, Tryz.ntmps88
  go_wp2_with fail
  refine hfo.mono ?_
  rintro e w5 ⟨rfl, hb5⟩
  have hS:=hsw w5 (H.out.below hb5)
  clear hfo hsw c7
  go_wp2_with fail
  refine hS.mono ?_
  rintro e w6 ⟨rfl, lo6, ro6, h6, r6⟩
  have q6:=(TR.refl.below hb5).trans r6
  obtain ⟨fb6, rfl, hF6⟩:=h6.look f hl
  have d7 : w6.cell? ⟨tb, 7, none⟩ = some (.pointer (some ⟨fb6, 0, none⟩)):=h6.cell 7
  have hag:=again_any hF6
  have H6:=Lib.hid h6
  have Q6:=Lib.hid q6
  clear hS r6 q6 h6 hF6 hb5
  go_wp2_with fail
  refine hag.mono ?_
  rintro e w7 ⟨rfl, hF7, hC7⟩
  have hA:=H6.out.la fb6 rfl
  have h7:=H6.out.fstep rfl (hC7.mono (G:=fun k => k = fb6 ∨ cfp mb wb k) (fun _ _ e => .inl e)) hF7 (H6.out.mem.chg hC7 (fun e => hA.1.m e.symm) (fun e => hA.1.w e.symm))
  have q7:=Q6.out.chg hC7 (fun k e => .inl (.inr (.inl (by rw [e]))))
  have H7:=Lib.hid h7
  have Q7:=Lib.hid q7
  clear h7 q7 hag hF7 hC7 d7
  go_wp2_with fail
  go_ret
  exact ⟨rfl, some fb6, ro6, H7.out, Q7.out⟩
 ·rw [if_pos rfl]
  dsimp only
  go_enter Tryz.func88, Tryz.ntmps88
  go_wp2_with fail
  refine hfo.mono ?_
  rintro e w5 ⟨rfl, hb5⟩
  have hS:=hsw w5 (H.out.below hb5)
  clear hfo hsw c7
  go_wp2_with fail
  refine hS.mono ?_
  rintro e w6 ⟨rfl, lo6, ro6, h6, r6⟩
  have q6:=(TR.refl.below hb5).trans r6
  have H6:=Lib.hid h6
  have Q6:=Lib.hid q6
  clear hS r6 q6 h6 hb5
  go_wp2_with fail
  go_ret
  exact ⟨rfl, lo6, ro6, H6.out, Q6.out⟩
theorem m_closed {W : World} {tb mb wb : Nat} {lo ro : Option Nat} {t : Tk.Tk} {ws : List Int} {tc : Int} (h : TkAt W tb mb wb lo ro t ws tc) (hok : Tk.TkOk t ws) (ht : 0 ≤ tc ∧ tc ≤ 4000000000000000000) (hk : t.st = 0) (good : Bool) : Calls Tryz.prog 58 #[.pointer (some ⟨tb, 0, none⟩), .pointer (some ⟨mb, 0, none⟩), .bool good] W (SPost W tb mb wb lo ro t ws tc good):=by
 unfold SPost
 have hx:=rd_some (len_0 hok)
 have hld : Calls Tryz.prog 19 #[.pointer (some ⟨mb, 0, none⟩), .i 0] W _:=load_any h.mem ht 0 _ hx
 rw [Tk.st_0 hk]
 generalize Tk.rd ws 0 = x at *
 have H:=Lib.hid h
 clear h hx
 by_cases hz : x = 0
 ·subst hz
  try rw [if_neg (by simp)]
  dsimp only
  go_enter Tryz.func58, Tryz.ntmps58
  go_wp2_with fail
  refine hld.mono ?_
  rintro e w5 ⟨rfl, hM5, hC5⟩
  have h5:=H.out.mems hC5 hM5
  have q5:=(TR.refl (W:=W) (tb:=tb) (mb:=mb) (wb:=wb) (lo:=lo) (ro:=ro)).mem hC5
  have d5 : w5.cell? ⟨tb, 5, none⟩ = some (.i t.w):=h5.cell 5
  have hcl:=search_any h5 1 0 t.w
  have Q5:=Lib.hid q5
  clear q5
  go_wp2_with fail
  refine hcl.mono ?_
  rintro e w6 ⟨rfl, lo6, ro6, h6, r6⟩
  have H6:=Lib.hid h6
  have Q6:=Lib.hid (Q5.out.trans r6)
  clear hcl h6 r6
  go_wp2_with fail
  first | go_end0 | refine bodyPost_ret (results_none rfl _ _ _) rfl ?_
  exact ⟨rfl, lo6, ro6, H6.out, Q6.out⟩
 ·have hz2:=hz
  rw [if_pos hz]
  dsimp only
  go_enter Tryz.func58, Tryz.ntmps58
  go_wp2_with fail
  refine hld.mono ?_
  rintro e w5 ⟨rfl, hM5, hC5⟩
  have h5:=H.out.mems hC5 hM5
  have q5:=(TR.refl (W:=W) (tb:=tb) (mb:=mb) (wb:=wb) (lo:=lo) (ro:=ro)).mem hC5
  have hcl:=tend_any h5 5
  have Q5:=Lib.hid q5
  clear q5
  go_wp2_with fail
  refine hcl.mono ?_
  rintro e w6 ⟨rfl, lo6, ro6, h6, r6⟩
  have H6:=Lib.hid h6
  have Q6:=Lib.hid (Q5.out.trans r6)
  clear hcl h6 r6
  go_wp2_with fail
  first | go_end0 | refine bodyPost_ret (results_none rfl _ _ _) rfl ?_
  exact ⟨rfl, lo6, ro6, H6.out, Q6.out⟩
theorem m_check {W : World} {tb mb wb : Nat} {lo ro : Option Nat} {t : Tk.Tk} {ws : List Int} {tc : Int} (h : TkAt W tb mb wb lo ro t ws tc) (hok : Tk.TkOk t ws) (ht : 0 ≤ tc ∧ tc ≤ 4000000000000000000) (hk : t.st = 10) (good : Bool) : Calls Tryz.prog 68 #[.pointer (some ⟨tb, 0, none⟩), .pointer (some ⟨mb, 0, none⟩), .bool good] W (SPost W tb mb wb lo ro t ws tc good):=by
 unfold SPost
 have hx:=rd_some (len_0 hok)
 have hld : Calls Tryz.prog 19 #[.pointer (some ⟨mb, 0, none⟩), .i 0] W _:=load_any h.mem ht 0 _ hx
 rw [Tk.st_10 hk]
 generalize Tk.rd ws 0 = x at *
 have H:=Lib.hid h
 clear h hx
 by_cases hz : x = 0
 ·subst hz
  try rw [if_pos rfl]
  dsimp only
  go_enter Tryz.func68, Tryz.ntmps68
  go_wp2_with fail
  refine hld.mono ?_
  rintro e w5 ⟨rfl, hM5, hC5⟩
  have h5:=H.out.mems hC5 hM5
  have q5:=(TR.refl (W:=W) (tb:=tb) (mb:=mb) (wb:=wb) (lo:=lo) (ro:=ro)).mem hC5
  have hcl:=tend_any h5 0
  have Q5:=Lib.hid q5
  clear q5
  go_wp2_with fail
  refine hcl.mono ?_
  rintro e w6 ⟨rfl, lo6, ro6, h6, r6⟩
  have H6:=Lib.hid h6
  have Q6:=Lib.hid (Q5.out.trans r6)
  clear hcl h6 r6
  go_wp2_with fail
  first | go_end0 | refine bodyPost_ret (results_none rfl _ _ _) rfl ?_
  exact ⟨rfl, lo6, ro6, H6.out, Q6.out⟩
 ·have hz2:=hz
  rw [if_neg hz]
  dsimp only
  go_enter Tryz.func68, Tryz.ntmps68
  go_wp2_with fail
  refine hld.mono ?_
  rintro e w5 ⟨rfl, hM5, hC5⟩
  have h5:=H.out.mems hC5 hM5
  have q5:=(TR.refl (W:=W) (tb:=tb) (mb:=mb) (wb:=wb) (lo:=lo) (ro:=ro)).mem hC5
  have d6 : w5.cell? ⟨tb, 6, none⟩ = some (.i t.st):=h5.cell 6
  have df6:=h5.frozen 6
  have H5:=Lib.hid h5
  have Q5:=Lib.hid q5
  clear h5 q5 hM5 hC5
  go_wp2_with fail
  first | go_end0 | refine bodyPost_ret (results_none rfl _ _ _) rfl ?_
  exact ⟨rfl, lo, ro, H5.out.put 6 (.i 11) { t with st:=11 } rfl rfl rfl rfl, Q5.out.set 6 _⟩
theorem m_own {W : World} {tb mb wb : Nat} {lo ro : Option Nat} {t : Tk.Tk} {ws : List Int} {tc : Int} (h : TkAt W tb mb wb lo ro t ws tc) (hok : Tk.TkOk t ws) (ht : 0 ≤ tc ∧ tc ≤ 4000000000000000000) (hk : t.st = 1) (good : Bool) : Calls Tryz.prog 59 #[.pointer (some ⟨tb, 0, none⟩), .pointer (some ⟨mb, 0, none⟩), .bool good] W (SPost W tb mb wb lo ro t ws tc good):=by
 unfold SPost
 have hsk:=seek_any h hok ht (by omega) (by omega)
 rw [Tk.st_1 hk]
 have hw : (t.seek ws).2.2.1.w = t.w:=rfl
 generalize t.seek ws = q at *
 obtain ⟨b1, b2, t', n⟩:=q
 dsimp only at *
 try rw [← hw]
 have H:=Lib.hid h
 clear h hw
 cases b1
 ·rw [if_neg (by simp)]
  cases b2
  ·rw [if_neg (by simp)]
   dsimp only
   go_enter Tryz.func59, Tryz.ntmps59
   go_wp2_with fail
   refine hsk.mono ?_
   rintro e w5 ⟨rfl, lo5, ro5, h5, r5⟩
   have q5 : TR W tb mb wb lo ro w5 lo5 ro5:=r5
   have H5:=Lib.hid h5
   clear h5 r5 hsk
   go_wp2_with fail
   first | go_end0 | refine bodyPost_ret (results_none rfl _ _ _) rfl ?_
   exact ⟨rfl, lo5, ro5, H5.out, q5⟩
  ·rw [if_pos rfl]
   dsimp only
   go_enter Tryz.func59, Tryz.ntmps59
   go_wp2_with fail
   refine hsk.mono ?_
   rintro e w5 ⟨rfl, lo5, ro5, h5, r5⟩
   have q5 : TR W tb mb wb lo ro w5 lo5 ro5:=r5
   have d5 : w5.cell? ⟨tb, 5, none⟩ = some (.i t'.w):=h5.cell 5
   have hcl:=search_any h5 3 1 t'.w
   have Q5:=Lib.hid q5
   clear q5
   go_wp2_with fail
   refine hcl.mono ?_
   rintro e w6 ⟨rfl, lo6, ro6, h6, r6⟩
   have H6:=Lib.hid h6
   have Q6:=Lib.hid (Q5.out.trans r6)
   clear hcl h6 r6
   go_wp2_with fail
   first | go_end0 | refine bodyPost_ret (results_none rfl _ _ _) rfl ?_
   exact ⟨rfl, lo6, ro6, H6.out, Q6.out⟩
 ·rw [if_pos rfl]
  dsimp only
  go_enter Tryz.func59, Tryz.ntmps59
  go_wp2_with fail
  refine hsk.mono ?_
  rintro e w5 ⟨rfl, lo5, ro5, h5, r5⟩
  have q5 : TR W tb mb wb lo ro w5 lo5 ro5:=r5
  have d6 : w5.cell? ⟨tb, 6, none⟩ = some (.i t'.st):=h5.cell 6
  have df6:=h5.frozen 6
  have H5:=Lib.hid h5
  have Q5:=Lib.hid q5
  clear h5 r5 q5 hsk
  go_wp2_with fail
  first | go_end0 | refine bodyPost_ret (results_none rfl _ _ _) rfl ?_
  exact ⟨rfl, lo5, ro5, H5.out.put 6 (.i 2) { t' with st:=2 } rfl rfl rfl rfl, Q5.out.set 6 _⟩
theorem m_any {W : World} {tb mb wb : Nat} {lo ro : Option Nat} {t : Tk.Tk} {ws : List Int} {tc : Int} (h : TkAt W tb mb wb lo ro t ws tc) (hok : Tk.TkOk t ws) (ht : 0 ≤ tc ∧ tc ≤ 4000000000000000000) (hk : t.st = 3) (good : Bool) : Calls Tryz.prog 61 #[.pointer (some ⟨tb, 0, none⟩), .pointer (some ⟨mb, 0, none⟩), .bool good] W (SPost W tb mb wb lo ro t ws tc good):=by
 unfold SPost
 have hsk:=seek_any h hok ht (by omega) (by omega)
 rw [Tk.st_3 hk]
 have hw : (t.seek ws).2.2.1.w = t.w:=rfl
 generalize t.seek ws = q at *
 obtain ⟨b1, b2, t', n⟩:=q
 dsimp only at *
 try rw [← hw]
 have H:=Lib.hid h
 clear h hw
 cases b1
 ·rw [if_neg (by simp)]
  cases b2
  ·rw [if_neg (by simp)]
   dsimp only
   go_enter Tryz.func61, Tryz.ntmps61
   go_wp2_with fail
   refine hsk.mono ?_
   rintro e w5 ⟨rfl, lo5, ro5, h5, r5⟩
   have q5 : TR W tb mb wb lo ro w5 lo5 ro5:=r5
   have H5:=Lib.hid h5
   clear h5 r5 hsk
   go_wp2_with fail
   first | go_end0 | refine bodyPost_ret (results_none rfl _ _ _) rfl ?_
   exact ⟨rfl, lo5, ro5, H5.out, q5⟩
  ·rw [if_pos rfl]
   dsimp only
   go_enter Tryz.func61, Tryz.ntmps61
   go_wp2_with fail
   refine hsk.mono ?_
   rintro e w5 ⟨rfl, lo5, ro5, h5, r5⟩
   have q5 : TR W tb mb wb lo ro w5 lo5 ro5:=r5
   have d5 : w5.cell? ⟨tb, 5, none⟩ = some (.i t'.w):=h5.cell 5
   have hcl:=search_any h5 7 2 t'.w
   have Q5:=Lib.hid q5
   clear q5
   go_wp2_with fail
   refine hcl.mono ?_
   rintro e w6 ⟨rfl, lo6, ro6, h6, r6⟩
   have H6:=Lib.hid h6
   have Q6:=Lib.hid (Q5.out.trans r6)
   clear hcl h6 r6
   go_wp2_with fail
   first | go_end0 | refine bodyPost_ret (results_none rfl _ _ _) rfl ?_
   exact ⟨rfl, lo6, ro6, H6.out, Q6.out⟩
 ·rw [if_pos rfl]
  dsimp only
  go_enter Tryz.func61, Tryz.ntmps61
  go_wp2_with fail
  refine hsk.mono ?_
  rintro e w5 ⟨rfl, lo5, ro5, h5, r5⟩
  have q5 : TR W tb mb wb lo ro w5 lo5 ro5:=r5
  have d6 : w5.cell? ⟨tb, 6, none⟩ = some (.i t'.st):=h5.cell 6
  have df6:=h5.frozen 6
  have H5:=Lib.hid h5
  have Q5:=Lib.hid q5
  clear h5 r5 q5 hsk
  go_wp2_with fail
  first | go_end0 | refine bodyPost_ret (results_none rfl _ _ _) rfl ?_
  exact ⟨rfl, lo5, ro5, H5.out.put 6 (.i 4) { t' with st:=4 } rfl rfl rfl rfl, Q5.out.set 6 _⟩
theorem m_free {W : World} {tb mb wb : Nat} {lo ro : Option Nat} {t : Tk.Tk} {ws : List Int} {tc : Int} (h : TkAt W tb mb wb lo ro t ws tc) (hok : Tk.TkOk t ws) (ht : 0 ≤ tc ∧ tc ≤ 4000000000000000000) (hk : t.st = 7) (good : Bool) : Calls Tryz.prog 65 #[.pointer (some ⟨tb, 0, none⟩), .pointer (some ⟨mb, 0, none⟩), .bool good] W (SPost W tb mb wb lo ro t ws tc good):=by
 unfold SPost
 have hsk:=seek_any h hok ht (by omega) (by omega)
 rw [Tk.st_7 hk]
 have hw : (t.seek ws).2.2.1.w = t.w:=rfl
 generalize t.seek ws = q at *
 obtain ⟨b1, b2, t', n⟩:=q
 dsimp only at *
 try rw [← hw]
 have H:=Lib.hid h
 clear h hw
 cases b1
 ·rw [if_neg (by simp)]
  cases b2
  ·rw [if_neg (by simp)]
   dsimp only
   go_enter Tryz.func65, Tryz.ntmps65
   go_wp2_with fail
   refine hsk.mono ?_
   rintro e w5 ⟨rfl, lo5, ro5, h5, r5⟩
   have q5 : TR W tb mb wb lo ro w5 lo5 ro5:=r5
   have H5:=Lib.hid h5
   clear h5 r5 hsk
   go_wp2_with fail
   first | go_end0 | refine bodyPost_ret (results_none rfl _ _ _) rfl ?_
   exact ⟨rfl, lo5, ro5, H5.out, q5⟩
  ·rw [if_pos rfl]
   dsimp only
   go_enter Tryz.func65, Tryz.ntmps65
   go_wp2_with fail
   refine hsk.mono ?_
   rintro e w5 ⟨rfl, lo5, ro5, h5, r5⟩
   have q5 : TR W tb mb wb lo ro w5 lo5 ro5:=r5
   have d5 : w5.cell? ⟨tb, 5, none⟩ = some (.i t'.w):=h5.cell 5
   have hcl:=tend_any h5 3
   have Q5:=Lib.hid q5
   clear q5
   go_wp2_with fail
   refine hcl.mono ?_
   rintro e w6 ⟨rfl, lo6, ro6, h6, r6⟩
   have H6:=Lib.hid h6
   have Q6:=Lib.hid (Q5.out.trans r6)
   clear hcl h6 r6
   go_wp2_with fail
   first | go_end0 | refine bodyPost_ret (results_none rfl _ _ _) rfl ?_
   exact ⟨rfl, lo6, ro6, H6.out, Q6.out⟩
 ·rw [if_pos rfl]
  dsimp only
  go_enter Tryz.func65, Tryz.ntmps65
  go_wp2_with fail
  refine hsk.mono ?_
  rintro e w5 ⟨rfl, lo5, ro5, h5, r5⟩
  have q5 : TR W tb mb wb lo ro w5 lo5 ro5:=r5
  have d6 : w5.cell? ⟨tb, 6, none⟩ = some (.i t'.st):=h5.cell 6
  have df6:=h5.frozen 6
  have H5:=Lib.hid h5
  have Q5:=Lib.hid q5
  clear h5 r5 q5 hsk
  go_wp2_with fail
  first | go_end0 | refine bodyPost_ret (results_none rfl _ _ _) rfl ?_
  exact ⟨rfl, lo5, ro5, H5.out.put 6 (.i 8) { t' with st:=8 } rfl rfl rfl rfl, Q5.out.set 6 _⟩
theorem m_ownSwap {W : World} {tb mb wb : Nat} {lo ro : Option Nat} {t : Tk.Tk} {ws : List Int} {tc : Int} (h : TkAt W tb mb wb lo ro t ws tc) (hok : Tk.TkOk t ws) (ht : 0 ≤ tc ∧ tc ≤ 4000000000000000000) (hk : t.st = 2) (good : Bool) : Calls Tryz.prog 60 #[.pointer (some ⟨tb, 0, none⟩), .pointer (some ⟨mb, 0, none⟩), .bool good] W (SPost W tb mb wb lo ro t ws tc good):=by
 unfold SPost
 obtain ⟨f, hl, hfo⟩:=hok.has (by omega) (by omega)
 have hf:=hfo (by omega)
 have hat:=(hok.look f hl).2.2 hf
 have h1:=h.put 6 (.i 1) { t with st:=1 } rfl rfl rfl rfl
 have hz:=seize_any h1 ⟨hok.c.w, hok.c.s⟩ ht hl hf hat (len_sc hok hat) 3 (by simp [DoneT])
 rw [Tk.st_2 hk]
 generalize Tk.Tk.seize { t with st:=1 } 3 ws = q at *
 obtain ⟨b, t', ws', n⟩:=q
 dsimp only at *
 have c6 : W.cell? ⟨tb, 6, none⟩ = some (.i t.st):=h.cell 6
 have cf6:=h.frozen 6
 clear h h1
 cases b
 ·rw [if_neg (by simp)]
  go_enter Tryz.func60, Tryz.ntmps60
  go_wp2_with fail
  refine hz.mono ?_
  rintro e w5 ⟨rfl, lo5, ro5, h5, r5⟩
  have q5:=((TR.refl (W:=W) (tb:=tb) (mb:=mb) (wb:=wb) (lo:=lo) (ro:=ro)).set 6 (.i 1)).trans r5
  have H5:=Lib.hid h5
  have Q5:=Lib.hid q5
  clear h5 r5 q5 hz c6 cf6
  go_wp2_with fail
  first | go_end0 | refine bodyPost_ret (results_none rfl _ _ _) rfl ?_
  exact ⟨rfl, lo5, ro5, H5.out, Q5.out⟩
 ·rw [if_pos rfl]
  go_enter Tryz.func60, Tryz.ntmps60
  go_wp2_with fail
  refine hz.mono ?_
  rintro e w5 ⟨rfl, lo5, ro5, h5, r5⟩
  have q5:=((TR.refl (W:=W) (tb:=tb) (mb:=mb) (wb:=wb) (lo:=lo) (ro:=ro)).set 6 (.i 1)).trans r5
  have d6 : w5.cell? ⟨tb, 6, none⟩ = some (.i t'.st):=h5.cell 6
  have df6:=h5.frozen 6
  have H5:=Lib.hid h5
  have Q5:=Lib.hid q5
  clear h5 r5 q5 hz c6 cf6
  go_wp2_with fail
  first | go_end0 | refine bodyPost_ret (results_none rfl _ _ _) rfl ?_
  exact ⟨rfl, lo5, ro5, H5.out.put 6 (.i 10) { t' with st:=10 } rfl rfl rfl rfl, Q5.out.set 6 _⟩
theorem m_freeSwap {W : World} {tb mb wb : Nat} {lo ro : Option Nat} {t : Tk.Tk} {ws : List Int} {tc : Int} (h : TkAt W tb mb wb lo ro t ws tc) (hok : Tk.TkOk t ws) (ht : 0 ≤ tc ∧ tc ≤ 4000000000000000000) (hk : t.st = 8) (good : Bool) : Calls Tryz.prog 66 #[.pointer (some ⟨tb, 0, none⟩), .pointer (some ⟨mb, 0, none⟩), .bool good] W (SPost W tb mb wb lo ro t ws tc good):=by
 unfold SPost
 obtain ⟨f, hl, hfo⟩:=hok.has (by omega) (by omega)
 have hf:=hfo (by omega)
 have hat:=(hok.look f hl).2.2 hf
 have h1:=h.put 6 (.i 7) { t with st:=7 } rfl rfl rfl rfl
 have hz:=seize_any h1 ⟨hok.c.w, hok.c.s⟩ ht hl hf hat (len_sc hok hat) 0 (by simp [DoneT])
 rw [Tk.st_8 hk]
 generalize Tk.Tk.seize { t with st:=7 } 0 ws = q at *
 obtain ⟨b, t', ws', n⟩:=q
 dsimp only at *
 have c6 : W.cell? ⟨tb, 6, none⟩ = some (.i t.st):=h.cell 6
 have cf6:=h.frozen 6
 clear h h1
 cases b
 ·rw [if_neg (by simp)]
  go_enter Tryz.func66, Tryz.ntmps66
  go_wp2_with fail
  refine hz.mono ?_
  rintro e w5 ⟨rfl, lo5, ro5, h5, r5⟩
  have q5:=((TR.refl (W:=W) (tb:=tb) (mb:=mb) (wb:=wb) (lo:=lo) (ro:=ro)).set 6 (.i 7)).trans r5
  have H5:=Lib.hid h5
  have Q5:=Lib.hid q5
  clear h5 r5 q5 hz c6 cf6
  go_wp2_with fail
  first | go_end0 | refine bodyPost_ret (results_none rfl _ _ _) rfl ?_
  exact ⟨rfl, lo5, ro5, H5.out, Q5.out⟩
 ·rw [if_pos rfl]
  go_enter Tryz.func66, Tryz.ntmps66
  go_wp2_with fail
  refine hz.mono ?_
  rintro e w5 ⟨rfl, lo5, ro5, h5, r5⟩
  have q5:=((TR.refl (W:=W) (tb:=tb) (mb:=mb) (wb:=wb) (lo:=lo) (ro:=ro)).set 6 (.i 7)).trans r5
  have d6 : w5.cell? ⟨tb, 6, none⟩ = some (.i t'.st):=h5.cell 6
  have df6:=h5.frozen 6
  have H5:=Lib.hid h5
  have Q5:=Lib.hid q5
  clear h5 r5 q5 hz c6 cf6
  go_wp2_with fail
  first | go_end0 | refine bodyPost_ret (results_none rfl _ _ _) rfl ?_
  exact ⟨rfl, lo5, ro5, H5.out.put 6 (.i 9) { t' with st:=9 } rfl rfl rfl rfl, Q5.out.set 6 _⟩
theorem seize_dec {t : Tk.Tk} {d : Nat} {ws : List Int} (h : (t.seize d ws).1 = true) : ∃ s, dec t.fd.word = some s:=by
 cases hd : dec t.fd.word with
 | some s => exact ⟨s, rfl⟩
 | none =>
  have e : (t.swap t.fd.at' t.fd.word d ws).1 = false:=by unfold Tk.Tk.swap; rw [hd]; rfl
  unfold Tk.Tk.seize at h
  simp [e] at h
theorem m_anySwap {W : World} {tb mb wb : Nat} {lo ro : Option Nat} {t : Tk.Tk} {ws : List Int} {tc : Int} (h : TkAt W tb mb wb lo ro t ws tc) (hok : Tk.TkOk t ws) (ht : 0 ≤ tc ∧ tc ≤ 4000000000000000000) (hk : t.st = 4) (good : Bool) : Calls Tryz.prog 62 #[.pointer (some ⟨tb, 0, none⟩), .pointer (some ⟨mb, 0, none⟩), .bool good] W (SPost W tb mb wb lo ro t ws tc good):=by
 unfold SPost
 obtain ⟨f, hl, hfo⟩:=hok.has (by omega) (by omega)
 have hf:=hfo (by omega)
 have hat:=(hok.look f hl).2.2 hf
 obtain ⟨fb, rfl, hF⟩:=h.look f hl
 have hfd : t.fd = f:=by unfold Tk.Tk.fd; rw [hl]; rfl
 have hfn:=found_any hF
 rw [hf, if_pos rfl] at hfn
 have hz:=fun w (h : TkAt w tb mb wb (some fb) ro t ws tc) => seize_any (h.put 6 (.i 3) { t with st:=3 } rfl rfl rfl rfl) ⟨hok.c.w, hok.c.s⟩ ht hl hf hat (len_sc hok hat) 3 (by simp [DoneT])
 have hde:=seize_dec (t:={ t with st:=3 }) (d:=3) (ws:=ws)
 have hw:=(Tk.seize_cf { t with st:=3 } 3 ws).2
 rw [Tk.st_4 hk, hfd]
 have hfd2 : Tk.Tk.fd { t with st:=3 } = f:=hfd
 rw [hfd2] at hde
 generalize Tk.Tk.seize { t with st:=3 } 3 ws = q at *
 obtain ⟨b, t', ws', n⟩:=q
 dsimp only at *
 rw [← hw]
 have c6 : W.cell? ⟨tb, 6, none⟩ = some (.i t.st):=h.cell 6
 have cf6:=h.frozen 6
 have c7 : W.cell? ⟨tb, 7, none⟩ = some (.pointer (some ⟨fb, 0, none⟩)):=h.cell 7
 have H:=Lib.hid h
 clear h hw hfd hfd2 hF hl
 cases b
 ·rw [if_neg (by simp)]
  go_enter Tryz.func62, Tryz.ntmps62
  go_wp2_with fail
  refine hfn.mono ?_
  rintro e w5 ⟨rfl, hb5⟩
  have h5:=H.out.below hb5
  have hS:=hz w5 h5
  have d6 : w5.cell? ⟨tb, 6, none⟩ = some (.i t.st):=h5.cell 6
  have df6:=h5.frozen 6
  clear h5 hfn hz c6 c7 cf6
  go_wp2_with fail
  refine hS.mono ?_
  rintro e w6 ⟨rfl, lo6, ro6, h6, r6⟩
  have q6:=(((TR.refl (W:=W) (tb:=tb) (mb:=mb) (wb:=wb) (lo:=some fb) (ro:=ro)).below hb5).set 6 (.i 3)).trans r6
  clear hb5 hS r6 d6 df6
  have H6:=Lib.hid h6
  have Q6:=Lib.hid q6
  clear h6 q6
  go_wp2_with fail
  first | go_end0 | refine bodyPost_ret (results_none rfl _ _ _) rfl ?_
  exact ⟨rfl, lo6, ro6, H6.out, Q6.out⟩
 ·rw [if_pos rfl]
  obtain ⟨s, hs⟩:=hde rfl
  rw [hs]
  dsimp only
  have hdc:=fun w hL => decode_val w f.word hL
  rw [hs] at hdc
  simp only [Option.getD_some, Option.isSome_some] at hdc
  clear hde hs
  by_cases ho : s.own = t'.w
  ·rw [if_neg (by simpa using ho)]
   dsimp only
   go_enter Tryz.func62, Tryz.ntmps62
   go_wp2_with fail
   refine hfn.mono ?_
   rintro e w5 ⟨rfl, hb5⟩
   have h5:=H.out.below hb5
   have hS:=hz w5 h5
   have d6 : w5.cell? ⟨tb, 6, none⟩ = some (.i t.st):=h5.cell 6
   have df6:=h5.frozen 6
   clear h5 hfn hz c6 c7 cf6
   go_wp2_with fail
   refine hS.mono ?_
   rintro e w6 ⟨rfl, lo6, ro6, h6, r6⟩
   have q6:=(((TR.refl (W:=W) (tb:=tb) (mb:=mb) (wb:=wb) (lo:=some fb) (ro:=ro)).below hb5).set 6 (.i 3)).trans r6
   clear hb5 hS r6 d6 df6
   have h7:=h6.put 6 (.i 10) { t' with st:=10 } rfl rfl rfl rfl
   have hD:=hdc _ h7.laid
   have q7:=q6.set 6 (.i 10)
   have e6 : w6.cell? ⟨tb, 6, none⟩ = some (.i t'.st):=h6.cell 6
   have ef6:=h6.frozen 6
   have H7:=Lib.hid h7
   have Q7:=Lib.hid q7
   clear h6 h7 q6 q7 hdc
   go_wp2_with fail
   refine hD.mono ?_
   rintro e w8 ⟨rfl, hb8⟩
   have h8:=H7.out.below hb8
   have q8:=Q7.out.below hb8
   clear hD hb8 e6 ef6
   dsimp only
   go_step
   refine gl (.tuple #[s.val, .bool true]) ?_
   refine gl s.val ?_
   refine gl (.bool true) ?_
   refine gbox (ob:=.cells zero9 30) (Z:=zero9) (cs:=s.cells) (t:=30) 30 (.tmp 9) (.tmp 33) rfl ?_
   refine gl (.bool true) ?_
   try simp only [Act.put, sA, sZ, sS]
   rw [setRow_new]
   have hb9 : Below w8.heap.size w8 (w8.alloc (.cells s.cells 30)):=(Below.refl _ _).alloc (Nat.le_refl _) _
   have hs9 : RowAt (w8.alloc (.cells s.cells 30)) w8.heap.size s.cells 30:=heap_alloc_new w8 _
   have h9:=h8.below hb9
   have q9:=q8.below hb9
   have hsb : w8.heap.size ≠ tb:=by have:=h8.lt; omega
   generalize (w8.alloc (.cells s.cells 30)) = w9 at *
   generalize w8.heap.size = sb at *
   have g5 : w9.cell? ⟨tb, 5, none⟩ = some (.i t'.w):=h9.cell 5
   have g6 : w9.cell? ⟨tb, 6, none⟩ = some (.i 10):=h9.cell 6
   have g11 : w9.cell? ⟨tb, 11, none⟩ = some (.bool t'.passes):=h9.cell 11
   have gf11:=h9.frozen 11
   have s1 : w9.cell? ⟨sb, 1, none⟩ = some (.i s.own):=RowAt.cell hs9 1
   have H9:=Lib.hid h9
   have Q9:=Lib.hid q9
   clear h8 q8 h9 q9 hb9 hs9
   rw [ho] at s1
   go_wp2_with fail
   go_region
   go_wp2_with fail
   first | go_end0 | refine bodyPost_ret (results_none rfl _ _ _) rfl ?_
   exact ⟨rfl, lo6, ro6, H9.out.below (Below.refl _ _).drew, Q9.out.below (Below.refl _ _).drew⟩
  ·rw [if_pos (by simpa using ho)]
   dsimp only
   go_enter Tryz.func62, Tryz.ntmps62
   go_wp2_with fail
   refine hfn.mono ?_
   rintro e w5 ⟨rfl, hb5⟩
   have h5:=H.out.below hb5
   have hS:=hz w5 h5
   have d6 : w5.cell? ⟨tb, 6, none⟩ = some (.i t.st):=h5.cell 6
   have df6:=h5.frozen 6
   clear h5 hfn hz c6 c7 cf6
   go_wp2_with fail
   refine hS.mono ?_
   rintro e w6 ⟨rfl, lo6, ro6, h6, r6⟩
   have q6:=(((TR.refl (W:=W) (tb:=tb) (mb:=mb) (wb:=wb) (lo:=some fb) (ro:=ro)).below hb5).set 6 (.i 3)).trans r6
   clear hb5 hS r6 d6 df6
   have h7:=h6.put 6 (.i 10) { t' with st:=10 } rfl rfl rfl rfl
   have hD:=hdc _ h7.laid
   have q7:=q6.set 6 (.i 10)
   have e6 : w6.cell? ⟨tb, 6, none⟩ = some (.i t'.st):=h6.cell 6
   have ef6:=h6.frozen 6
   have H7:=Lib.hid h7
   have Q7:=Lib.hid q7
   clear h6 h7 q6 q7 hdc
   go_wp2_with fail
   refine hD.mono ?_
   rintro e w8 ⟨rfl, hb8⟩
   have h8:=H7.out.below hb8
   have q8:=Q7.out.below hb8
   clear hD hb8 e6 ef6
   dsimp only
   go_step
   refine gl (.tuple #[s.val, .bool true]) ?_
   refine gl s.val ?_
   refine gl (.bool true) ?_
   refine gbox (ob:=.cells zero9 30) (Z:=zero9) (cs:=s.cells) (t:=30) 30 (.tmp 9) (.tmp 33) rfl ?_
   refine gl (.bool true) ?_
   try simp only [Act.put, sA, sZ, sS]
   rw [setRow_new]
   have hb9 : Below w8.heap.size w8 (w8.alloc (.cells s.cells 30)):=(Below.refl _ _).alloc (Nat.le_refl _) _
   have hs9 : RowAt (w8.alloc (.cells s.cells 30)) w8.heap.size s.cells 30:=heap_alloc_new w8 _
   have h9:=h8.below hb9
   have q9:=q8.below hb9
   have hsb : w8.heap.size ≠ tb:=by have:=h8.lt; omega
   generalize (w8.alloc (.cells s.cells 30)) = w9 at *
   generalize w8.heap.size = sb at *
   have g5 : w9.cell? ⟨tb, 5, none⟩ = some (.i t'.w):=h9.cell 5
   have g6 : w9.cell? ⟨tb, 6, none⟩ = some (.i 10):=h9.cell 6
   have g11 : w9.cell? ⟨tb, 11, none⟩ = some (.bool t'.passes):=h9.cell 11
   have gf11:=h9.frozen 11
   have s1 : w9.cell? ⟨sb, 1, none⟩ = some (.i s.own):=RowAt.cell hs9 1
   have H9:=Lib.hid h9
   have Q9:=Lib.hid q9
   clear h8 q8 h9 q9 hb9 hs9
   have ho2 : (s.own == t'.w) = false:=by simpa using ho
   have ho3 : (s.own != t'.w) = true:=by simpa using ho
   have h10:=(H9.out.below (Below.refl _ _).drew).put 11 (.bool false) { t' with st:=10, passes:=false } rfl rfl rfl rfl
   have q10:=(Q9.out.below (Below.refl _ _).drew).set 11 (.bool false)
   have hcl:=search_any h10 5 0 s.own
   have Q10:=Lib.hid q10
   clear h10 q10
   go_wp2_with fail
   go_region
   go_wp2_with fail
   refine hcl.mono ?_
   rintro e w11 ⟨rfl, lo11, ro11, h11, r11⟩
   have H11:=Lib.hid h11
   have Q11:=Lib.hid (Q10.out.trans r11)
   clear hcl h11 r11
   go_wp2_with fail
   first | go_end0 | refine bodyPost_ret (results_none rfl _ _ _) rfl ?_
   exact ⟨rfl, lo11, ro11, H11.out, Q11.out⟩
theorem m_move {W : World} {tb mb wb : Nat} {lo ro : Option Nat} {t : Tk.Tk} {ws : List Int} {tc : Int} (h : TkAt W tb mb wb lo ro t ws tc) (hok : Tk.TkOk t ws) (ht : 0 ≤ tc ∧ tc ≤ 4000000000000000000) (hk : t.st = 5) (good : Bool) : Calls Tryz.prog 63 #[.pointer (some ⟨tb, 0, none⟩), .pointer (some ⟨mb, 0, none⟩), .bool good] W (SPost W tb mb wb lo ro t ws tc good):=by
 unfold SPost
 obtain ⟨f, hl, -⟩:=hok.has (by omega) (by omega)
 have hsk:=seek_any h hok ht (by omega) (by omega)
 have hFo:=(hok.look f hl).step ws
 have hsl:=hok.c.s
 rw [Tk.st_5 hk]
 rw [Tk.seek_eq hl] at hsk ⊢
 generalize f.step t.cf ws = q at *
 obtain ⟨b2, f', n⟩:=q
 dsimp only at *
 have hat : f'.at' ≤ 1000:=by have:=hFo.2.1; unfold Tk.ns at this; omega
 have H:=Lib.hid h
 clear h hFo hsl
 skip
 cases hf : f'.found
 ·rw [if_neg (by simp [hf]), if_neg (by simp [hf])]
  rw [hf] at hsk
  cases b2
  ·rw [if_neg (by simp)]
   dsimp only
   go_enter Tryz.func63, Tryz.ntmps63
   go_wp2_with fail
   refine hsk.mono ?_
   rintro e w5 ⟨rfl, lo5, ro5, h5, r5⟩
   have q5 : TR W tb mb wb lo ro w5 lo5 ro5:=r5
   have d6 : w5.cell? ⟨tb, 6, none⟩ = some (.i ({ t with look:=some f' } : Tk.Tk).st):=h5.cell 6
   have d11 : w5.cell? ⟨tb, 11, none⟩ = some (.bool ({ t with look:=some f' } : Tk.Tk).passes):=h5.cell 11
   have df6:=h5.frozen 6
   have H5:=Lib.hid h5
   have Q5:=Lib.hid q5
   clear h5 r5 q5 hsk
   go_wp2_with fail
   first | go_end0 | refine bodyPost_ret (results_none rfl _ _ _) rfl ?_
   exact ⟨rfl, lo5, ro5, H5.out, Q5.out⟩
  ·rw [if_pos (by simp [hf])]
   dsimp only
   go_enter Tryz.func63, Tryz.ntmps63
   go_wp2_with fail
   refine hsk.mono ?_
   rintro e w5 ⟨rfl, lo5, ro5, h5, r5⟩
   have q5 : TR W tb mb wb lo ro w5 lo5 ro5:=r5
   have d6 : w5.cell? ⟨tb, 6, none⟩ = some (.i ({ t with look:=some f' } : Tk.Tk).st):=h5.cell 6
   have d11 : w5.cell? ⟨tb, 11, none⟩ = some (.bool ({ t with look:=some f' } : Tk.Tk).passes):=h5.cell 11
   have df6:=h5.frozen 6
   have H5:=Lib.hid h5
   have Q5:=Lib.hid q5
   clear h5 r5 q5 hsk
   go_wp2_with fail
   first | go_end0 | refine bodyPost_ret (results_none rfl _ _ _) rfl ?_
   exact ⟨rfl, lo5, ro5, H5.out.put 6 (.i 10) { t with look:=some f', st:=10 } rfl rfl rfl rfl, Q5.out.set 6 _⟩
 ·rw [hf] at hsk
  cases hp : t.passes
  ·rw [if_neg (by simp [hp]), if_pos rfl]
   dsimp only
   go_enter Tryz.func63, Tryz.ntmps63
   go_wp2_with fail
   refine hsk.mono ?_
   rintro e w5 ⟨rfl, lo5, ro5, h5, r5⟩
   have q5 : TR W tb mb wb lo ro w5 lo5 ro5:=r5
   have d6 : w5.cell? ⟨tb, 6, none⟩ = some (.i ({ t with look:=some f' } : Tk.Tk).st):=h5.cell 6
   have d11 : w5.cell? ⟨tb, 11, none⟩ = some (.bool false):=(h5.cell 11).trans (by show some (Value.bool t.passes) = _; rw [hp])
   have df6:=h5.frozen 6
   have df11:=h5.frozen 11
   have H5:=Lib.hid h5
   have Q5:=Lib.hid q5
   clear h5 r5 q5 hsk
   go_wp2_with fail
   first | go_end0 | refine bodyPost_ret (results_none rfl _ _ _) rfl ?_
   exact ⟨rfl, lo5, ro5, (H5.out.put 11 (.bool true) { t with look:=some f', passes:=true } rfl rfl rfl rfl).put 6 (.i 6) { t with look:=some f', passes:=true, st:=6 } rfl rfl rfl rfl, (Q5.out.set 11 _).set 6 _⟩
  ·rw [if_pos (by simp [hp])]
   dsimp only
   go_enter Tryz.func63, Tryz.ntmps63
   go_wp2_with fail
   refine hsk.mono ?_
   rintro e w5 ⟨rfl, lo5, ro5, h5, r5⟩
   have q5 : TR W tb mb wb lo ro w5 lo5 ro5:=r5
   obtain ⟨fb, rfl, hF5⟩:=h5.look f' rfl
   have hne:=(h5.la fb rfl).2.1
   have d6 : w5.cell? ⟨tb, 6, none⟩ = some (.i ({ t with look:=some f' } : Tk.Tk).st):=h5.cell 6
   have d11 : w5.cell? ⟨tb, 11, none⟩ = some (.bool true):=(h5.cell 11).trans (by show some (Value.bool t.passes) = _; rw [hp])
   have df6:=h5.frozen 6
   have df11:=h5.frozen 11
   have d7 : w5.cell? ⟨tb, 7, none⟩ = some (.pointer (some ⟨fb, 0, none⟩)):=h5.cell 7
   have h6:=h5.put 11 (.bool false) { t with look:=some f', passes:=false } rfl rfl rfl rfl
   have q6:=q5.set 11 (.bool false)
   obtain ⟨fb6, hfb6, hF6⟩:=h6.look f' rfl
   cases hfb6
   have hcl:=go_any hF6 hat
   have H6:=Lib.hid h6
   have Q6:=Lib.hid q6
   clear h5 h6 r5 q5 q6 hsk hF5 hF6
   go_wp2_with fail
   refine hcl.mono ?_
   rintro e w7 ⟨rfl, hF7, hC7⟩
   have hA:=H6.out.la fb rfl
   have h7:=H6.out.fstep rfl (hC7.mono (G:=fun k => k = fb ∨ cfp mb wb k) (fun _ _ e => .inl e)) hF7 (H6.out.mem.chg hC7 (fun e => hA.1.m e.symm) (fun e => hA.1.w e.symm))
   have q7:=Q6.out.chg hC7 (fun k e => .inl (.inr (.inl (by rw [e]))))
   have H7:=Lib.hid h7
   have Q7:=Lib.hid q7
   clear h7 q7 hcl hF7 hC7 d7
   go_wp2_with fail
   first | go_end0 | refine bodyPost_ret (results_none rfl _ _ _) rfl ?_
   exact ⟨rfl, some fb, ro5, H7.out, Q7.out⟩
theorem nextW_nx (w : Int) (d : Nat) (own more : Int) : Tk.nextW w d own more = (nx w d own more).map S.word:=by
 unfold Tk.nextW nx
 cases dec w <;> rfl
theorem m_moveSwap {W : World} {tb mb wb : Nat} {lo ro : Option Nat} {t : Tk.Tk} {ws : List Int} {tc : Int} (h : TkAt W tb mb wb lo ro t ws tc) (hok : Tk.TkOk t ws) (ht : 0 ≤ tc ∧ tc ≤ 4000000000000000000) (hk : t.st = 6) (good : Bool) : Calls Tryz.prog 64 #[.pointer (some ⟨tb, 0, none⟩), .pointer (some ⟨mb, 0, none⟩), .bool good] W (SPost W tb mb wb lo ro t ws tc good):=by
 unfold SPost
 obtain ⟨f, hl, hfo⟩:=hok.has (by omega) (by omega)
 have hf:=hfo (by omega)
 have hFo:=hok.look f hl
 have hi:=hFo.2.2 hf
 have hlen:=len_sc hok hi
 have hc : Small t.cf:=⟨hok.c.w, hok.c.s⟩
 obtain ⟨fb, rfl, hF⟩:=h.look f hl
 have hfd : t.fd = f:=by unfold Tk.Tk.fd; rw [hl]; rfl
 have hfn:=found_any hF
 rw [hf, if_pos rfl] at hfn
 have hat : f.at' ≤ 1000:=by have:=hFo.2.1; have:=hc.s; unfold Tk.ns at *; omega
 have haf:=fun w (h : TkAt w tb mb wb (some fb) ro t ws tc) => tafter_any h f.word 9 (by simp [DoneT])
 rw [Tk.st_6 hk, hfd, nextW_nx]
 have c7 : W.cell? ⟨tb, 7, none⟩ = some (.pointer (some ⟨fb, 0, none⟩)):=h.cell 7
 have H:=Lib.hid h
 clear h hF
 cases hN : nx f.word 9 t.w 0 with
 | none =>
  dsimp only [Option.map_none]
  rw [show tc + ((0 : Nat) : Int) = tc by simp]
  go_enter Tryz.func64, Tryz.ntmps64
  go_wp2_with fail
  refine hfn.mono ?_
  rintro e w5 ⟨rfl, hb5⟩
  have h5:=H.out.below hb5
  have q5:=(TR.refl (W:=W) (tb:=tb) (mb:=mb) (wb:=wb) (lo:=some fb) (ro:=ro)).below hb5
  have hS:=haf w5 h5
  rw [hN] at hS
  simp only [Option.getD_none, Option.isSome_none, Option.getD_some, Option.isSome_some, nxW] at hS
  clear hfn haf c7 hb5
  go_wp2_with fail
  refine hS.mono ?_
  rintro e w6 ⟨rfl, hb6⟩
  have h6:=h5.below hb6
  have q6:=q5.below hb6
  clear hS hb6 h5 q5
  dsimp only
  go_step
  refine gl (.tuple #[S.zero.val, .i 0, .bool false]) ?_
  refine gl S.zero.val ?_
  refine gl (.i 0) ?_
  refine gl (.bool false) ?_
  refine gbox (ob:=.cells zero9 30) (Z:=zero9) (cs:=S.zero.cells) (t:=30) 30 (.tmp 9) (.tmp 25) rfl ?_
  refine gl (.i 0) ?_
  refine gl (.bool false) ?_
  try simp only [Act.put, sA, sZ, sS]
  rw [setRow_new]
  have hb7 : Below w6.heap.size w6 (w6.alloc (.cells S.zero.cells 30)):=(Below.refl _ _).alloc (Nat.le_refl _) _
  have h7:=h6.below hb7
  have q7:=q6.below hb7
  generalize (w6.alloc (.cells S.zero.cells 30)) = w7 at *
  have d7 : w7.cell? ⟨tb, 7, none⟩ = some (.pointer (some ⟨fb, 0, none⟩)):=h7.cell 7
  have H7:=Lib.hid h7
  have Q7:=Lib.hid q7
  clear h6 q6 h7 q7 hb7
  obtain ⟨fbx, hfbx, hFx⟩:=H7.out.look f hl
  cases hfbx
  have hcl:=go_any hFx hat
  clear hFx
  go_wp2_with fail
  refine hcl.mono ?_
  rintro e wg ⟨rfl, hFg, hCg⟩
  have hA:=H7.out.la fb rfl
  have hg:=H7.out.fstep rfl (hCg.mono (G:=fun k => k = fb ∨ cfp mb wb k) (fun _ _ e => .inl e)) hFg (H7.out.mem.chg hCg (fun e => hA.1.m e.symm) (fun e => hA.1.w e.symm))
  have qg:=Q7.out.chg hCg (fun k e => .inl (.inr (.inl (by rw [e]))))
  have g6 : wg.cell? ⟨tb, 6, none⟩ = some (.i t.st):=hg.cell 6
  have gf6:=hg.frozen 6
  have HG:=Lib.hid hg
  have QG:=Lib.hid qg
  clear hg qg hcl hFg hCg
  go_wp2_with fail
  first | go_end0 | refine bodyPost_ret (results_none rfl _ _ _) rfl ?_
  exact ⟨rfl, some fb, ro, HG.out.put 6 (.i 5) { t with look:=some f.go, st:=5 } rfl rfl rfl rfl, QG.out.set 6 _⟩
 | some s =>
  dsimp only [Option.map_some]
  have hsl:=fun W => slot_any W t.cf f.at' hc.w ⟨by have:=hc.s; unfold Tk.ns at hi; omega, hc.s.2⟩
  have hsc : (3 + 2 * t.cf.workers + (f.at' : Int)) = ((Tk.sc t.cf f.at' : Nat) : Int):=by have:=hc.w; unfold Tk.sc; omega
  simp only [hsc, Conf.Cf.val, Conf.Cf.cells] at hsl
  clear hsc
  have hrd:=rd_some hlen
  unfold Tk.cas
  by_cases hx : Tk.rd ws (Tk.sc t.cf f.at') = f.word
  ·rw [if_pos hx]
   dsimp only
   rw [hx] at hrd
   have hcs:=fun W (h : CAt W mb wb ws tc) => cas_eq h ht (Tk.sc t.cf f.at') f.word hrd s.word
   go_enter Tryz.func64, Tryz.ntmps64
   go_wp2_with fail
   refine hfn.mono ?_
   rintro e w5 ⟨rfl, hb5⟩
   have h5:=H.out.below hb5
   have q5:=(TR.refl (W:=W) (tb:=tb) (mb:=mb) (wb:=wb) (lo:=some fb) (ro:=ro)).below hb5
   have hS:=haf w5 h5
   rw [hN] at hS
   simp only [Option.getD_none, Option.isSome_none, Option.getD_some, Option.isSome_some, nxW] at hS
   clear hfn haf c7 hb5
   go_wp2_with fail
   refine hS.mono ?_
   rintro e w6 ⟨rfl, hb6⟩
   have h6:=h5.below hb6
   have q6:=q5.below hb6
   clear hS hb6 h5 q5
   dsimp only
   go_step
   refine gl (.tuple #[s.val, .i s.word, .bool true]) ?_
   refine gl s.val ?_
   refine gl (.i s.word) ?_
   refine gl (.bool true) ?_
   refine gbox (ob:=.cells zero9 30) (Z:=zero9) (cs:=s.cells) (t:=30) 30 (.tmp 9) (.tmp 25) rfl ?_
   refine gl (.i s.word) ?_
   refine gl (.bool true) ?_
   try simp only [Act.put, sA, sZ, sS]
   rw [setRow_new]
   have hb7 : Below w6.heap.size w6 (w6.alloc (.cells s.cells 30)):=(Below.refl _ _).alloc (Nat.le_refl _) _
   have h7:=h6.below hb7
   have q7:=q6.below hb7
   generalize (w6.alloc (.cells s.cells 30)) = w7 at *
   have d0 : w7.cell? ⟨tb, 0, none⟩ = some (.i t.cf.workers):=h7.cell 0
   have d1 : w7.cell? ⟨tb, 1, none⟩ = some (.i t.cf.slots):=h7.cell 1
   have d2 : w7.cell? ⟨tb, 2, none⟩ = some (.i t.cf.streams):=h7.cell 2
   have d3 : w7.cell? ⟨tb, 3, none⟩ = some (.i t.cf.waiters):=h7.cell 3
   have d4 : w7.cell? ⟨tb, 4, none⟩ = some (.i t.cf.uses):=h7.cell 4
   have H7:=Lib.hid h7
   have Q7:=Lib.hid q7
   clear h6 q6 h7 q7 hb7 hrd
   go_wp2_with fail
   refine (hsl _).mono ?_
   rintro e w8 ⟨rfl, hb8⟩
   have h8:=H7.out.below hb8
   have q8:=Q7.out.below hb8
   have hS8:=hcs w8 h8.mem
   have H8:=Lib.hid h8
   have Q8:=Lib.hid q8
   clear h8 q8 hsl hcs hb8 d0 d1 d2 d3 d4
   go_wp2_with fail
   refine hS8.mono ?_
   rintro e w9 ⟨rfl, hM9, hC9⟩
   have h9:=H8.out.mems hC9 hM9
   have q9:=Q8.out.mem hC9
   have d7 : w9.cell? ⟨tb, 7, none⟩ = some (.pointer (some ⟨fb, 0, none⟩)):=h9.cell 7
   have H9:=Lib.hid h9
   have Q9:=Lib.hid q9
   clear h9 q9 hS8 hM9 hC9
   obtain ⟨fbx, hfbx, hFx⟩:=H9.out.look f hl
   cases hfbx
   have hcl:=go_any hFx hat
   clear hFx
   go_wp2_with fail
   refine hcl.mono ?_
   rintro e wg ⟨rfl, hFg, hCg⟩
   have hA:=H9.out.la fb rfl
   have hg:=H9.out.fstep rfl (hCg.mono (G:=fun k => k = fb ∨ cfp mb wb k) (fun _ _ e => .inl e)) hFg (H9.out.mem.chg hCg (fun e => hA.1.m e.symm) (fun e => hA.1.w e.symm))
   have qg:=Q9.out.chg hCg (fun k e => .inl (.inr (.inl (by rw [e]))))
   have g6 : wg.cell? ⟨tb, 6, none⟩ = some (.i t.st):=hg.cell 6
   have gf6:=hg.frozen 6
   have HG:=Lib.hid hg
   have QG:=Lib.hid qg
   clear hg qg hcl hFg hCg
   go_wp2_with fail
   first | go_end0 | refine bodyPost_ret (results_none rfl _ _ _) rfl ?_
   exact ⟨rfl, some fb, ro, HG.out.put 6 (.i 5) { t with look:=some f.go, st:=5 } rfl rfl rfl rfl, QG.out.set 6 _⟩
  ·rw [if_neg hx]
   dsimp only
   generalize Tk.rd ws (Tk.sc t.cf f.at') = x at *
   have hcs:=fun W (h : CAt W mb wb ws tc) => cas_ne h ht (Tk.sc t.cf f.at') x hrd f.word s.word hx
   go_enter Tryz.func64, Tryz.ntmps64
   go_wp2_with fail
   refine hfn.mono ?_
   rintro e w5 ⟨rfl, hb5⟩
   have h5:=H.out.below hb5
   have q5:=(TR.refl (W:=W) (tb:=tb) (mb:=mb) (wb:=wb) (lo:=some fb) (ro:=ro)).below hb5
   have hS:=haf w5 h5
   rw [hN] at hS
   simp only [Option.getD_none, Option.isSome_none, Option.getD_some, Option.isSome_some, nxW] at hS
   clear hfn haf c7 hb5
   go_wp2_with fail
   refine hS.mono ?_
   rintro e w6 ⟨rfl, hb6⟩
   have h6:=h5.below hb6
   have q6:=q5.below hb6
   clear hS hb6 h5 q5
   dsimp only
   go_step
   refine gl (.tuple #[s.val, .i s.word, .bool true]) ?_
   refine gl s.val ?_
   refine gl (.i s.word) ?_
   refine gl (.bool true) ?_
   refine gbox (ob:=.cells zero9 30) (Z:=zero9) (cs:=s.cells) (t:=30) 30 (.tmp 9) (.tmp 25) rfl ?_
   refine gl (.i s.word) ?_
   refine gl (.bool true) ?_
   try simp only [Act.put, sA, sZ, sS]
   rw [setRow_new]
   have hb7 : Below w6.heap.size w6 (w6.alloc (.cells s.cells 30)):=(Below.refl _ _).alloc (Nat.le_refl _) _
   have h7:=h6.below hb7
   have q7:=q6.below hb7
   generalize (w6.alloc (.cells s.cells 30)) = w7 at *
   have d0 : w7.cell? ⟨tb, 0, none⟩ = some (.i t.cf.workers):=h7.cell 0
   have d1 : w7.cell? ⟨tb, 1, none⟩ = some (.i t.cf.slots):=h7.cell 1
   have d2 : w7.cell? ⟨tb, 2, none⟩ = some (.i t.cf.streams):=h7.cell 2
   have d3 : w7.cell? ⟨tb, 3, none⟩ = some (.i t.cf.waiters):=h7.cell 3
   have d4 : w7.cell? ⟨tb, 4, none⟩ = some (.i t.cf.uses):=h7.cell 4
   have H7:=Lib.hid h7
   have Q7:=Lib.hid q7
   clear h6 q6 h7 q7 hb7 hrd
   go_wp2_with fail
   refine (hsl _).mono ?_
   rintro e w8 ⟨rfl, hb8⟩
   have h8:=H7.out.below hb8
   have q8:=Q7.out.below hb8
   have hS8:=hcs w8 h8.mem
   have H8:=Lib.hid h8
   have Q8:=Lib.hid q8
   clear h8 q8 hsl hcs hb8 d0 d1 d2 d3 d4
   go_wp2_with fail
   refine hS8.mono ?_
   rintro e w9 ⟨rfl, hM9, hC9⟩
   have h9:=H8.out.mems hC9 hM9
   have q9:=Q8.out.mem hC9
   have d7 : w9.cell? ⟨tb, 7, none⟩ = some (.pointer (some ⟨fb, 0, none⟩)):=h9.cell 7
   have H9:=Lib.hid h9
   have Q9:=Lib.hid q9
   clear h9 q9 hS8 hM9 hC9
   obtain ⟨fbx, hfbx, hFx⟩:=H9.out.look f hl
   cases hfbx
   have hcl:=go_any hFx hat
   clear hFx
   go_wp2_with fail
   refine hcl.mono ?_
   rintro e wg ⟨rfl, hFg, hCg⟩
   have hA:=H9.out.la fb rfl
   have hg:=H9.out.fstep rfl (hCg.mono (G:=fun k => k = fb ∨ cfp mb wb k) (fun _ _ e => .inl e)) hFg (H9.out.mem.chg hCg (fun e => hA.1.m e.symm) (fun e => hA.1.w e.symm))
   have qg:=Q9.out.chg hCg (fun k e => .inl (.inr (.inl (by rw [e]))))
   have g6 : wg.cell? ⟨tb, 6, none⟩ = some (.i t.st):=hg.cell 6
   have gf6:=hg.frozen 6
   have HG:=Lib.hid hg
   have QG:=Lib.hid qg
   clear hg qg hcl hFg hCg
   go_wp2_with fail
   first | go_end0 | refine bodyPost_ret (results_none rfl _ _ _) rfl ?_
   exact ⟨rfl, some fb, ro, HG.out.put 6 (.i 5) { t with look:=some f.go, st:=5 } rfl rfl rfl rfl, QG.out.set 6 _⟩
theorem m_back {W : World} {tb mb wb : Nat} {lo ro : Option Nat} {t : Tk.Tk} {ws : List Int} {tc : Int} (h : TkAt W tb mb wb lo ro t ws tc) (hok : Tk.TkOk t ws) (ht : 0 ≤ tc ∧ tc ≤ 4000000000000000000) (hk : t.st = 11) (good : Bool) : Calls Tryz.prog 69 #[.pointer (some ⟨tb, 0, none⟩), .pointer (some ⟨mb, 0, none⟩), .bool good] W (SPost W tb mb wb lo ro t ws tc good):=by
 unfold SPost
 have hc : Small t.cf:=⟨hok.c.w, hok.c.s⟩
 have hi:=hok.i
 have hlen:=len_sc hok hok.i
 have hsl:=fun W => slot_any W t.cf t.i hc.w ⟨by have:=hc.s; unfold Tk.ns at hi; omega, hc.s.2⟩
 have hsc : (3 + 2 * t.cf.workers + (t.i : Int)) = ((Tk.sc t.cf t.i : Nat) : Int):=by have:=hc.w; unfold Tk.sc; omega
 simp only [hsc, Conf.Cf.val, Conf.Cf.cells] at hsl
 clear hsc
 have hrd:=rd_some hlen
 rw [Tk.st_11 hk]
 dsimp only
 have hrn:=fun W x => rnew_any W t.cf t.i x hc hi
 simp only [Conf.Cf.val, Conf.Cf.cells] at hrn
 generalize Tk.rd ws (Tk.sc t.cf t.i) = x at *
 have hld:=fun W (h : CAt W mb wb ws tc) => load_any h ht (Tk.sc t.cf t.i) x hrd
 have hdc:=fun W hL => decode_val W x hL
 have c0 : W.cell? ⟨tb, 0, none⟩ = some (.i t.cf.workers):=h.cell 0
 have c1 : W.cell? ⟨tb, 1, none⟩ = some (.i t.cf.slots):=h.cell 1
 have c2 : W.cell? ⟨tb, 2, none⟩ = some (.i t.cf.streams):=h.cell 2
 have c3 : W.cell? ⟨tb, 3, none⟩ = some (.i t.cf.waiters):=h.cell 3
 have c4 : W.cell? ⟨tb, 4, none⟩ = some (.i t.cf.uses):=h.cell 4
 have c8 : W.cell? ⟨tb, 8, none⟩ = some (.i t.i):=h.cell 8
 have H:=Lib.hid h
 clear h hrd hi
 cases hdx : dec x with
 | none =>
  simp only [hdx, Option.getD_none, Option.isSome_none, Option.getD_some, Option.isSome_some] at hdc
  dsimp only
  clear hrn
  go_enter Tryz.func69, Tryz.ntmps69
  go_wp2_with fail
  go_region_held3 (fun w' => w'.cell? ⟨tb, 0, none⟩ = some (.i t.cf.workers) ∧ w'.cell? ⟨tb, 1, none⟩ = some (.i t.cf.slots) ∧ w'.cell? ⟨tb, 2, none⟩ = some (.i t.cf.streams) ∧ w'.cell? ⟨tb, 3, none⟩ = some (.i t.cf.waiters) ∧ w'.cell? ⟨tb, 4, none⟩ = some (.i t.cf.uses) ∧ w'.cell? ⟨tb, 8, none⟩ = some (.i t.i)) (first | go_keep | (refine ⟨?_, ?_, ?_, ?_, ?_, ?_⟩ <;> first | assumption | (rw [World.cell?_setCell_other _ _ _ _ (by simp)]; assumption)))
   ((first
   | (go_at_call 94; refine (hsl _).mono ?_; rintro e w6 ⟨rfl, hb6⟩; have h6:=(H.out.below (Below.refl _ _).drew).below hb6; have d0 : w6.cell? ⟨tb, 0, none⟩ = some (.i t.cf.workers):=h6.cell 0; have d1 : w6.cell? ⟨tb, 1, none⟩ = some (.i t.cf.slots):=h6.cell 1; have d2 : w6.cell? ⟨tb, 2, none⟩ = some (.i t.cf.streams):=h6.cell 2; have d3 : w6.cell? ⟨tb, 3, none⟩ = some (.i t.cf.waiters):=h6.cell 3; have d4 : w6.cell? ⟨tb, 4, none⟩ = some (.i t.cf.uses):=h6.cell 4; have d8 : w6.cell? ⟨tb, 8, none⟩ = some (.i t.i):=h6.cell 8)
   | (go_at_call 19; refine (hld _ h6.mem).mono ?_; rintro e w7 ⟨rfl, hM7, hC7⟩; have h7:=h6.mems hC7 hM7; have k9:=h7.frozen 9; have k99 : w7.cell? ⟨tb, 9, none⟩ = some (.i t.word):=h7.cell 9; have k0 : w7.cell? ⟨tb, 0, none⟩ = some (.i t.cf.workers):=h7.cell 0; have k1 : w7.cell? ⟨tb, 1, none⟩ = some (.i t.cf.slots):=h7.cell 1; have k2 : w7.cell? ⟨tb, 2, none⟩ = some (.i t.cf.streams):=h7.cell 2; have k3 : w7.cell? ⟨tb, 3, none⟩ = some (.i t.cf.waiters):=h7.cell 3; have k4 : w7.cell? ⟨tb, 4, none⟩ = some (.i t.cf.uses):=h7.cell 4; have k8 : w7.cell? ⟨tb, 8, none⟩ = some (.i t.i):=h7.cell 8)))
  have q7:=(((TR.refl (W:=W) (tb:=tb) (mb:=mb) (wb:=wb) (lo:=lo) (ro:=ro)).below (Below.refl _ _).drew).below hb6).mem hC7
  have hD:=hdc w7 h7.laid
  have H7:=Lib.hid h7
  have Q7:=Lib.hid q7
  clear h7 q7 h6 hM7 hC7 hb6 hsl hld hdc k9 k99 d0 d1 d2 d3 d4 d8 c0 c1 c2 c3 c4 c8 k0 k1 k2 k3 k4 k8
  go_wp2_with fail
  refine hD.mono ?_
  rintro e w8 ⟨rfl, hb8⟩
  have h8:=H7.out.below hb8
  have q8:=Q7.out.below hb8
  dsimp only
  go_step
  refine gl (.tuple #[S.zero.val, .bool false]) ?_
  refine gl S.zero.val ?_
  refine gl (.bool false) ?_
  refine gbox (ob:=.cells zero9 30) (Z:=zero9) (cs:=S.zero.cells) (t:=30) 30 (.tmp 7) (.tmp 23) rfl ?_
  refine gl (.bool false) ?_
  try simp only [Act.put, sA, sZ, sS]
  rw [setRow_new]
  have hb9 : Below w8.heap.size w8 (w8.alloc (.cells S.zero.cells 30)):=(Below.refl _ _).alloc (Nat.le_refl _) _
  have hs9 : RowAt (w8.alloc (.cells S.zero.cells 30)) w8.heap.size S.zero.cells 30:=heap_alloc_new w8 _
  have h9:=h8.below hb9
  have q9:=q8.below hb9
  generalize (w8.alloc (.cells S.zero.cells 30)) = w9 at *
  generalize w8.heap.size = sb at *
  have g5 : w9.cell? ⟨tb, 5, none⟩ = some (.i t.w):=h9.cell 5
  have g10 : w9.cell? ⟨tb, 10, none⟩ = some (.i t.gen):=h9.cell 10
  have s0 : w9.cell? ⟨sb, 0, none⟩ = some (.i 0):=RowAt.cell hs9 0
  have s1 : w9.cell? ⟨sb, 1, none⟩ = some (.i 0):=RowAt.cell hs9 1
  have s6 : w9.cell? ⟨sb, 6, none⟩ = some (.i 0):=RowAt.cell hs9 6
  have hcl:=tend_any (h9.below (Below.refl _ _).drew) 5
  have Q9:=Lib.hid (q9.below (Below.refl _ _).drew)
  clear h9 q9 h8 q8 hD hb8 hb9 hs9
  go_wp2_with fail
  go_region
  go_wp2_with fail
  refine hcl.mono ?_
  rintro e w10 ⟨rfl, lo10, ro10, h10, r10⟩
  have H10:=Lib.hid h10
  have Q10:=Lib.hid (Q9.out.trans r10)
  clear hcl h10 r10
  go_wp2_with fail
  first | go_end0 | refine bodyPost_ret (results_none rfl _ _ _) rfl ?_
  exact ⟨rfl, lo10, ro10, H10.out, Q10.out⟩
 | some s =>
  simp only [hdx, Option.getD_none, Option.isSome_none, Option.getD_some, Option.isSome_some] at hdc
  dsimp only
  by_cases e3 : s.state = 3
  ·by_cases eo : s.own = t.w
   ·by_cases eg : s.gen = t.gen
    ·rw [if_pos ⟨e3, eo, eg⟩]
     dsimp only
     go_enter Tryz.func69, Tryz.ntmps69
     go_wp2_with fail
     go_region_held3 (fun w' => w'.cell? ⟨tb, 0, none⟩ = some (.i t.cf.workers) ∧ w'.cell? ⟨tb, 1, none⟩ = some (.i t.cf.slots) ∧ w'.cell? ⟨tb, 2, none⟩ = some (.i t.cf.streams) ∧ w'.cell? ⟨tb, 3, none⟩ = some (.i t.cf.waiters) ∧ w'.cell? ⟨tb, 4, none⟩ = some (.i t.cf.uses) ∧ w'.cell? ⟨tb, 8, none⟩ = some (.i t.i)) (first | go_keep | (refine ⟨?_, ?_, ?_, ?_, ?_, ?_⟩ <;> first | assumption | (rw [World.cell?_setCell_other _ _ _ _ (by simp)]; assumption)))
      ((first
      | (go_at_call 94; refine (hsl _).mono ?_; rintro e w6 ⟨rfl, hb6⟩; have h6:=(H.out.below (Below.refl _ _).drew).below hb6; have d0 : w6.cell? ⟨tb, 0, none⟩ = some (.i t.cf.workers):=h6.cell 0; have d1 : w6.cell? ⟨tb, 1, none⟩ = some (.i t.cf.slots):=h6.cell 1; have d2 : w6.cell? ⟨tb, 2, none⟩ = some (.i t.cf.streams):=h6.cell 2; have d3 : w6.cell? ⟨tb, 3, none⟩ = some (.i t.cf.waiters):=h6.cell 3; have d4 : w6.cell? ⟨tb, 4, none⟩ = some (.i t.cf.uses):=h6.cell 4; have d8 : w6.cell? ⟨tb, 8, none⟩ = some (.i t.i):=h6.cell 8)
      | (go_at_call 19; refine (hld _ h6.mem).mono ?_; rintro e w7 ⟨rfl, hM7, hC7⟩; have h7:=h6.mems hC7 hM7; have k9:=h7.frozen 9; have k99 : w7.cell? ⟨tb, 9, none⟩ = some (.i t.word):=h7.cell 9; have k0 : w7.cell? ⟨tb, 0, none⟩ = some (.i t.cf.workers):=h7.cell 0; have k1 : w7.cell? ⟨tb, 1, none⟩ = some (.i t.cf.slots):=h7.cell 1; have k2 : w7.cell? ⟨tb, 2, none⟩ = some (.i t.cf.streams):=h7.cell 2; have k3 : w7.cell? ⟨tb, 3, none⟩ = some (.i t.cf.waiters):=h7.cell 3; have k4 : w7.cell? ⟨tb, 4, none⟩ = some (.i t.cf.uses):=h7.cell 4; have k8 : w7.cell? ⟨tb, 8, none⟩ = some (.i t.i):=h7.cell 8)))
     have q7:=(((TR.refl (W:=W) (tb:=tb) (mb:=mb) (wb:=wb) (lo:=lo) (ro:=ro)).below (Below.refl _ _).drew).below hb6).mem hC7
     have hD:=hdc w7 h7.laid
     have H7:=Lib.hid h7
     have Q7:=Lib.hid q7
     clear h7 q7 h6 hM7 hC7 hb6 hsl hld hdc k9 k99 d0 d1 d2 d3 d4 d8 c0 c1 c2 c3 c4 c8 k0 k1 k2 k3 k4 k8
     go_wp2_with fail
     refine hD.mono ?_
     rintro e w8 ⟨rfl, hb8⟩
     have h8:=H7.out.below hb8
     have q8:=Q7.out.below hb8
     dsimp only
     go_step
     refine gl (.tuple #[s.val, .bool true]) ?_
     refine gl s.val ?_
     refine gl (.bool true) ?_
     refine gbox (ob:=.cells zero9 30) (Z:=zero9) (cs:=s.cells) (t:=30) 30 (.tmp 7) (.tmp 23) rfl ?_
     refine gl (.bool true) ?_
     try simp only [Act.put, sA, sZ, sS]
     rw [setRow_new]
     have hb9 : Below w8.heap.size w8 (w8.alloc (.cells s.cells 30)):=(Below.refl _ _).alloc (Nat.le_refl _) _
     have hs9 : RowAt (w8.alloc (.cells s.cells 30)) w8.heap.size s.cells 30:=heap_alloc_new w8 _
     have h9:=h8.below hb9
     have q9:=q8.below hb9
     generalize (w8.alloc (.cells s.cells 30)) = w9 at *
     generalize w8.heap.size = sb at *
     have g5 : w9.cell? ⟨tb, 5, none⟩ = some (.i t.w):=h9.cell 5
     have g10 : w9.cell? ⟨tb, 10, none⟩ = some (.i t.gen):=h9.cell 10
     have s0 : w9.cell? ⟨sb, 0, none⟩ = some (.i 3):=(RowAt.cell hs9 0).trans (by show some (Value.int .i64 s.state) = _; first | rfl | rw [e3])
     have s1 : w9.cell? ⟨sb, 1, none⟩ = some (.i t.w):=(RowAt.cell hs9 1).trans (by show some (Value.int .i64 s.own) = _; first | rfl | rw [eo])
     have s6 : w9.cell? ⟨sb, 6, none⟩ = some (.i t.gen):=(RowAt.cell hs9 6).trans (by show some (Value.int .i64 s.gen) = _; first | rfl | rw [eg])
     have g0 : w9.cell? ⟨tb, 0, none⟩ = some (.i t.cf.workers):=h9.cell 0
     have g1 : w9.cell? ⟨tb, 1, none⟩ = some (.i t.cf.slots):=h9.cell 1
     have g2 : w9.cell? ⟨tb, 2, none⟩ = some (.i t.cf.streams):=h9.cell 2
     have g3 : w9.cell? ⟨tb, 3, none⟩ = some (.i t.cf.waiters):=h9.cell 3
     have g4 : w9.cell? ⟨tb, 4, none⟩ = some (.i t.cf.uses):=h9.cell 4
     have g8 : w9.cell? ⟨tb, 8, none⟩ = some (.i t.i):=h9.cell 8
     have g12 : w9.cell? ⟨tb, 12, none⟩ = some (ptrOf ro):=h9.cell 12
     have gf12:=h9.frozen 12
     have HN:=Lib.hid hrn
     have H9:=Lib.hid (h9.below (Below.refl _ _).drew)
     have Q9:=Lib.hid (q9.below (Below.refl _ _).drew)
     clear h9 q9 h8 q8 hD hb8 hb9 hs9 hrn e3 eo eg
     go_wp2_with fail
     go_region
     go_wp2_with fail
     go_region_held3 (fun w' => w'.cell? ⟨tb, 0, none⟩ = some (.i t.cf.workers) ∧ w'.cell? ⟨tb, 1, none⟩ = some (.i t.cf.slots) ∧ w'.cell? ⟨tb, 2, none⟩ = some (.i t.cf.streams) ∧ w'.cell? ⟨tb, 3, none⟩ = some (.i t.cf.waiters) ∧ w'.cell? ⟨tb, 4, none⟩ = some (.i t.cf.uses) ∧ w'.cell? ⟨tb, 8, none⟩ = some (.i t.i)) (first | go_keep | (refine ⟨?_, ?_, ?_, ?_, ?_, ?_⟩ <;> first | assumption | (rw [World.cell?_setCell_other _ _ _ _ (by simp)]; assumption)))
      ((first
      | (go_at_call 96; refine (HN.out _ x).mono ?_; rintro e w10 ⟨rb, rfl, hR, hge, hb10⟩; have h10:=(H9.out.below (Below.refl _ _).drew).below hb10; have k12 : w10.cell? ⟨tb, 12, none⟩ = some (ptrOf ro):=h10.cell 12; have kf12:=h10.frozen 12; have k0 : w10.cell? ⟨tb, 0, none⟩ = some (.i t.cf.workers):=h10.cell 0; have k1 : w10.cell? ⟨tb, 1, none⟩ = some (.i t.cf.slots):=h10.cell 1; have k2 : w10.cell? ⟨tb, 2, none⟩ = some (.i t.cf.streams):=h10.cell 2; have k3 : w10.cell? ⟨tb, 3, none⟩ = some (.i t.cf.waiters):=h10.cell 3; have k4 : w10.cell? ⟨tb, 4, none⟩ = some (.i t.cf.uses):=h10.cell 4; have k8 : w10.cell? ⟨tb, 8, none⟩ = some (.i t.i):=h10.cell 8)))
     have q10:=(Q9.out.below (Below.refl _ _).drew).below hb10
     obtain ⟨n1, n2, n3, n4⟩:=(H9.out.below (Below.refl _ _).drew).newApart hge
     have h11:=h10.putRet hR n1 n2 n4
     have q11 : TR W tb mb wb lo ro (w10.setCell ⟨tb, 12, none⟩ (.pointer (some ⟨rb, 0, none⟩))) lo (some rb):=⟨q10.1, .inr ⟨rb, rfl, Nat.le_trans (show W.heap.size ≤ w9.heap.size from Q9.out.2.2.size) hge⟩, q10.2.2.setCell ⟨tb, 12, none⟩ _ (fun _ => .inl (.inl rfl))⟩
     have m6 : (w10.setCell ⟨tb, 12, none⟩ (.pointer (some ⟨rb, 0, none⟩))).cell? ⟨tb, 6, none⟩ = some (.i t.st):=h11.cell 6
     have mf6:=h11.frozen 6
     have H11:=Lib.hid h11
     have Q11:=Lib.hid q11
     clear h10 q10 h11 q11 hR hb10 hge n1 n2 n3 n4
     go_wp2_with fail
     first | go_end0 | refine bodyPost_ret (results_none rfl _ _ _) rfl ?_
     exact ⟨rfl, lo, some rb, H11.out.put 6 (.i 12) { t with rt:=some (Tk.Rt.new (Tk.sc t.cf t.i) x), st:=12 } rfl rfl rfl rfl, Q11.out.set 6 _⟩
    ·rw [if_neg (by simp [eg])]
     dsimp only
     clear hrn
     go_enter Tryz.func69, Tryz.ntmps69
     go_wp2_with fail
     go_region_held3 (fun w' => w'.cell? ⟨tb, 0, none⟩ = some (.i t.cf.workers) ∧ w'.cell? ⟨tb, 1, none⟩ = some (.i t.cf.slots) ∧ w'.cell? ⟨tb, 2, none⟩ = some (.i t.cf.streams) ∧ w'.cell? ⟨tb, 3, none⟩ = some (.i t.cf.waiters) ∧ w'.cell? ⟨tb, 4, none⟩ = some (.i t.cf.uses) ∧ w'.cell? ⟨tb, 8, none⟩ = some (.i t.i)) (first | go_keep | (refine ⟨?_, ?_, ?_, ?_, ?_, ?_⟩ <;> first | assumption | (rw [World.cell?_setCell_other _ _ _ _ (by simp)]; assumption)))
      ((first
      | (go_at_call 94; refine (hsl _).mono ?_; rintro e w6 ⟨rfl, hb6⟩; have h6:=(H.out.below (Below.refl _ _).drew).below hb6; have d0 : w6.cell? ⟨tb, 0, none⟩ = some (.i t.cf.workers):=h6.cell 0; have d1 : w6.cell? ⟨tb, 1, none⟩ = some (.i t.cf.slots):=h6.cell 1; have d2 : w6.cell? ⟨tb, 2, none⟩ = some (.i t.cf.streams):=h6.cell 2; have d3 : w6.cell? ⟨tb, 3, none⟩ = some (.i t.cf.waiters):=h6.cell 3; have d4 : w6.cell? ⟨tb, 4, none⟩ = some (.i t.cf.uses):=h6.cell 4; have d8 : w6.cell? ⟨tb, 8, none⟩ = some (.i t.i):=h6.cell 8)
      | (go_at_call 19; refine (hld _ h6.mem).mono ?_; rintro e w7 ⟨rfl, hM7, hC7⟩; have h7:=h6.mems hC7 hM7; have k9:=h7.frozen 9; have k99 : w7.cell? ⟨tb, 9, none⟩ = some (.i t.word):=h7.cell 9; have k0 : w7.cell? ⟨tb, 0, none⟩ = some (.i t.cf.workers):=h7.cell 0; have k1 : w7.cell? ⟨tb, 1, none⟩ = some (.i t.cf.slots):=h7.cell 1; have k2 : w7.cell? ⟨tb, 2, none⟩ = some (.i t.cf.streams):=h7.cell 2; have k3 : w7.cell? ⟨tb, 3, none⟩ = some (.i t.cf.waiters):=h7.cell 3; have k4 : w7.cell? ⟨tb, 4, none⟩ = some (.i t.cf.uses):=h7.cell 4; have k8 : w7.cell? ⟨tb, 8, none⟩ = some (.i t.i):=h7.cell 8)))
     have q7:=(((TR.refl (W:=W) (tb:=tb) (mb:=mb) (wb:=wb) (lo:=lo) (ro:=ro)).below (Below.refl _ _).drew).below hb6).mem hC7
     have hD:=hdc w7 h7.laid
     have H7:=Lib.hid h7
     have Q7:=Lib.hid q7
     clear h7 q7 h6 hM7 hC7 hb6 hsl hld hdc k9 k99 d0 d1 d2 d3 d4 d8 c0 c1 c2 c3 c4 c8 k0 k1 k2 k3 k4 k8
     go_wp2_with fail
     refine hD.mono ?_
     rintro e w8 ⟨rfl, hb8⟩
     have h8:=H7.out.below hb8
     have q8:=Q7.out.below hb8
     dsimp only
     go_step
     refine gl (.tuple #[s.val, .bool true]) ?_
     refine gl s.val ?_
     refine gl (.bool true) ?_
     refine gbox (ob:=.cells zero9 30) (Z:=zero9) (cs:=s.cells) (t:=30) 30 (.tmp 7) (.tmp 23) rfl ?_
     refine gl (.bool true) ?_
     try simp only [Act.put, sA, sZ, sS]
     rw [setRow_new]
     have hb9 : Below w8.heap.size w8 (w8.alloc (.cells s.cells 30)):=(Below.refl _ _).alloc (Nat.le_refl _) _
     have hs9 : RowAt (w8.alloc (.cells s.cells 30)) w8.heap.size s.cells 30:=heap_alloc_new w8 _
     have h9:=h8.below hb9
     have q9:=q8.below hb9
     generalize (w8.alloc (.cells s.cells 30)) = w9 at *
     generalize w8.heap.size = sb at *
     have g5 : w9.cell? ⟨tb, 5, none⟩ = some (.i t.w):=h9.cell 5
     have g10 : w9.cell? ⟨tb, 10, none⟩ = some (.i t.gen):=h9.cell 10
     have s0 : w9.cell? ⟨sb, 0, none⟩ = some (.i 3):=(RowAt.cell hs9 0).trans (by show some (Value.int .i64 s.state) = _; first | rfl | rw [e3])
     have s1 : w9.cell? ⟨sb, 1, none⟩ = some (.i t.w):=(RowAt.cell hs9 1).trans (by show some (Value.int .i64 s.own) = _; first | rfl | rw [eo])
     have s6 : w9.cell? ⟨sb, 6, none⟩ = some (.i s.gen):=(RowAt.cell hs9 6).trans (by show some (Value.int .i64 s.gen) = _; first | rfl | rw [eg])
     have eg2 : (s.gen == t.gen) = false:=by simpa using eg
     have eg3 : (s.gen != t.gen) = true:=by simpa using eg
     have hcl:=tend_any (h9.below (Below.refl _ _).drew) 5
     have Q9:=Lib.hid (q9.below (Below.refl _ _).drew)
     clear h9 q9 h8 q8 hD hb8 hb9 hs9
     go_wp2_with fail
     go_region
     go_wp2_with fail
     refine hcl.mono ?_
     rintro e w10 ⟨rfl, lo10, ro10, h10, r10⟩
     have H10:=Lib.hid h10
     have Q10:=Lib.hid (Q9.out.trans r10)
     clear hcl h10 r10
     go_wp2_with fail
     first | go_end0 | refine bodyPost_ret (results_none rfl _ _ _) rfl ?_
     exact ⟨rfl, lo10, ro10, H10.out, Q10.out⟩
   ·rw [if_neg (by simp [eo])]
    dsimp only
    clear hrn
    go_enter Tryz.func69, Tryz.ntmps69
    go_wp2_with fail
    go_region_held3 (fun w' => w'.cell? ⟨tb, 0, none⟩ = some (.i t.cf.workers) ∧ w'.cell? ⟨tb, 1, none⟩ = some (.i t.cf.slots) ∧ w'.cell? ⟨tb, 2, none⟩ = some (.i t.cf.streams) ∧ w'.cell? ⟨tb, 3, none⟩ = some (.i t.cf.waiters) ∧ w'.cell? ⟨tb, 4, none⟩ = some (.i t.cf.uses) ∧ w'.cell? ⟨tb, 8, none⟩ = some (.i t.i)) (first | go_keep | (refine ⟨?_, ?_, ?_, ?_, ?_, ?_⟩ <;> first | assumption | (rw [World.cell?_setCell_other _ _ _ _ (by simp)]; assumption)))
     ((first
     | (go_at_call 94; refine (hsl _).mono ?_; rintro e w6 ⟨rfl, hb6⟩; have h6:=(H.out.below (Below.refl _ _).drew).below hb6; have d0 : w6.cell? ⟨tb, 0, none⟩ = some (.i t.cf.workers):=h6.cell 0; have d1 : w6.cell? ⟨tb, 1, none⟩ = some (.i t.cf.slots):=h6.cell 1; have d2 : w6.cell? ⟨tb, 2, none⟩ = some (.i t.cf.streams):=h6.cell 2; have d3 : w6.cell? ⟨tb, 3, none⟩ = some (.i t.cf.waiters):=h6.cell 3; have d4 : w6.cell? ⟨tb, 4, none⟩ = some (.i t.cf.uses):=h6.cell 4; have d8 : w6.cell? ⟨tb, 8, none⟩ = some (.i t.i):=h6.cell 8)
     | (go_at_call 19; refine (hld _ h6.mem).mono ?_; rintro e w7 ⟨rfl, hM7, hC7⟩; have h7:=h6.mems hC7 hM7; have k9:=h7.frozen 9; have k99 : w7.cell? ⟨tb, 9, none⟩ = some (.i t.word):=h7.cell 9; have k0 : w7.cell? ⟨tb, 0, none⟩ = some (.i t.cf.workers):=h7.cell 0; have k1 : w7.cell? ⟨tb, 1, none⟩ = some (.i t.cf.slots):=h7.cell 1; have k2 : w7.cell? ⟨tb, 2, none⟩ = some (.i t.cf.streams):=h7.cell 2; have k3 : w7.cell? ⟨tb, 3, none⟩ = some (.i t.cf.waiters):=h7.cell 3; have k4 : w7.cell? ⟨tb, 4, none⟩ = some (.i t.cf.uses):=h7.cell 4; have k8 : w7.cell? ⟨tb, 8, none⟩ = some (.i t.i):=h7.cell 8)))
    have q7:=(((TR.refl (W:=W) (tb:=tb) (mb:=mb) (wb:=wb) (lo:=lo) (ro:=ro)).below (Below.refl _ _).drew).below hb6).mem hC7
    have hD:=hdc w7 h7.laid
    have H7:=Lib.hid h7
    have Q7:=Lib.hid q7
    clear h7 q7 h6 hM7 hC7 hb6 hsl hld hdc k9 k99 d0 d1 d2 d3 d4 d8 c0 c1 c2 c3 c4 c8 k0 k1 k2 k3 k4 k8
    go_wp2_with fail
    refine hD.mono ?_
    rintro e w8 ⟨rfl, hb8⟩
    have h8:=H7.out.below hb8
    have q8:=Q7.out.below hb8
    dsimp only
    go_step
    refine gl (.tuple #[s.val, .bool true]) ?_
    refine gl s.val ?_
    refine gl (.bool true) ?_
    refine gbox (ob:=.cells zero9 30) (Z:=zero9) (cs:=s.cells) (t:=30) 30 (.tmp 7) (.tmp 23) rfl ?_
    refine gl (.bool true) ?_
    try simp only [Act.put, sA, sZ, sS]
    rw [setRow_new]
    have hb9 : Below w8.heap.size w8 (w8.alloc (.cells s.cells 30)):=(Below.refl _ _).alloc (Nat.le_refl _) _
    have hs9 : RowAt (w8.alloc (.cells s.cells 30)) w8.heap.size s.cells 30:=heap_alloc_new w8 _
    have h9:=h8.below hb9
    have q9:=q8.below hb9
    generalize (w8.alloc (.cells s.cells 30)) = w9 at *
    generalize w8.heap.size = sb at *
    have g5 : w9.cell? ⟨tb, 5, none⟩ = some (.i t.w):=h9.cell 5
    have g10 : w9.cell? ⟨tb, 10, none⟩ = some (.i t.gen):=h9.cell 10
    have s0 : w9.cell? ⟨sb, 0, none⟩ = some (.i 3):=(RowAt.cell hs9 0).trans (by show some (Value.int .i64 s.state) = _; first | rfl | rw [e3])
    have s1 : w9.cell? ⟨sb, 1, none⟩ = some (.i s.own):=(RowAt.cell hs9 1).trans (by show some (Value.int .i64 s.own) = _; first | rfl | rw [eo])
    have s6 : w9.cell? ⟨sb, 6, none⟩ = some (.i s.gen):=(RowAt.cell hs9 6).trans (by show some (Value.int .i64 s.gen) = _; first | rfl | rw [eg])
    have eo2 : (s.own == t.w) = false:=by simpa using eo
    have eo3 : (s.own != t.w) = true:=by simpa using eo
    have hcl:=tend_any (h9.below (Below.refl _ _).drew) 5
    have Q9:=Lib.hid (q9.below (Below.refl _ _).drew)
    clear h9 q9 h8 q8 hD hb8 hb9 hs9
    go_wp2_with fail
    go_region
    go_wp2_with fail
    refine hcl.mono ?_
    rintro e w10 ⟨rfl, lo10, ro10, h10, r10⟩
    have H10:=Lib.hid h10
    have Q10:=Lib.hid (Q9.out.trans r10)
    clear hcl h10 r10
    go_wp2_with fail
    first | go_end0 | refine bodyPost_ret (results_none rfl _ _ _) rfl ?_
    exact ⟨rfl, lo10, ro10, H10.out, Q10.out⟩
  ·rw [if_neg (by simp [e3])]
   dsimp only
   clear hrn
   go_enter Tryz.func69, Tryz.ntmps69
   go_wp2_with fail
   go_region_held3 (fun w' => w'.cell? ⟨tb, 0, none⟩ = some (.i t.cf.workers) ∧ w'.cell? ⟨tb, 1, none⟩ = some (.i t.cf.slots) ∧ w'.cell? ⟨tb, 2, none⟩ = some (.i t.cf.streams) ∧ w'.cell? ⟨tb, 3, none⟩ = some (.i t.cf.waiters) ∧ w'.cell? ⟨tb, 4, none⟩ = some (.i t.cf.uses) ∧ w'.cell? ⟨tb, 8, none⟩ = some (.i t.i)) (first | go_keep | (refine ⟨?_, ?_, ?_, ?_, ?_, ?_⟩ <;> first | assumption | (rw [World.cell?_setCell_other _ _ _ _ (by simp)]; assumption)))
    ((first
    | (go_at_call 94; refine (hsl _).mono ?_; rintro e w6 ⟨rfl, hb6⟩; have h6:=(H.out.below (Below.refl _ _).drew).below hb6; have d0 : w6.cell? ⟨tb, 0, none⟩ = some (.i t.cf.workers):=h6.cell 0; have d1 : w6.cell? ⟨tb, 1, none⟩ = some (.i t.cf.slots):=h6.cell 1; have d2 : w6.cell? ⟨tb, 2, none⟩ = some (.i t.cf.streams):=h6.cell 2; have d3 : w6.cell? ⟨tb, 3, none⟩ = some (.i t.cf.waiters):=h6.cell 3; have d4 : w6.cell? ⟨tb, 4, none⟩ = some (.i t.cf.uses):=h6.cell 4; have d8 : w6.cell? ⟨tb, 8, none⟩ = some (.i t.i):=h6.cell 8)
    | (go_at_call 19; refine (hld _ h6.mem).mono ?_; rintro e w7 ⟨rfl, hM7, hC7⟩; have h7:=h6.mems hC7 hM7; have k9:=h7.frozen 9; have k99 : w7.cell? ⟨tb, 9, none⟩ = some (.i t.word):=h7.cell 9; have k0 : w7.cell? ⟨tb, 0, none⟩ = some (.i t.cf.workers):=h7.cell 0; have k1 : w7.cell? ⟨tb, 1, none⟩ = some (.i t.cf.slots):=h7.cell 1; have k2 : w7.cell? ⟨tb, 2, none⟩ = some (.i t.cf.streams):=h7.cell 2; have k3 : w7.cell? ⟨tb, 3, none⟩ = some (.i t.cf.waiters):=h7.cell 3; have k4 : w7.cell? ⟨tb, 4, none⟩ = some (.i t.cf.uses):=h7.cell 4; have k8 : w7.cell? ⟨tb, 8, none⟩ = some (.i t.i):=h7.cell 8)))
   have q7:=(((TR.refl (W:=W) (tb:=tb) (mb:=mb) (wb:=wb) (lo:=lo) (ro:=ro)).below (Below.refl _ _).drew).below hb6).mem hC7
   have hD:=hdc w7 h7.laid
   have H7:=Lib.hid h7
   have Q7:=Lib.hid q7
   clear h7 q7 h6 hM7 hC7 hb6 hsl hld hdc k9 k99 d0 d1 d2 d3 d4 d8 c0 c1 c2 c3 c4 c8 k0 k1 k2 k3 k4 k8
   go_wp2_with fail
   refine hD.mono ?_
   rintro e w8 ⟨rfl, hb8⟩
   have h8:=H7.out.below hb8
   have q8:=Q7.out.below hb8
   dsimp only
   go_step
   refine gl (.tuple #[s.val, .bool true]) ?_
   refine gl s.val ?_
   refine gl (.bool true) ?_
   refine gbox (ob:=.cells zero9 30) (Z:=zero9) (cs:=s.cells) (t:=30) 30 (.tmp 7) (.tmp 23) rfl ?_
   refine gl (.bool true) ?_
   try simp only [Act.put, sA, sZ, sS]
   rw [setRow_new]
   have hb9 : Below w8.heap.size w8 (w8.alloc (.cells s.cells 30)):=(Below.refl _ _).alloc (Nat.le_refl _) _
   have hs9 : RowAt (w8.alloc (.cells s.cells 30)) w8.heap.size s.cells 30:=heap_alloc_new w8 _
   have h9:=h8.below hb9
   have q9:=q8.below hb9
   generalize (w8.alloc (.cells s.cells 30)) = w9 at *
   generalize w8.heap.size = sb at *
   have g5 : w9.cell? ⟨tb, 5, none⟩ = some (.i t.w):=h9.cell 5
   have g10 : w9.cell? ⟨tb, 10, none⟩ = some (.i t.gen):=h9.cell 10
   have s0 : w9.cell? ⟨sb, 0, none⟩ = some (.i s.state):=(RowAt.cell hs9 0).trans (by show some (Value.int .i64 s.state) = _; first | rfl | rw [e3])
   have s1 : w9.cell? ⟨sb, 1, none⟩ = some (.i s.own):=(RowAt.cell hs9 1).trans (by show some (Value.int .i64 s.own) = _; first | rfl | rw [eo])
   have s6 : w9.cell? ⟨sb, 6, none⟩ = some (.i s.gen):=(RowAt.cell hs9 6).trans (by show some (Value.int .i64 s.gen) = _; first | rfl | rw [eg])
   have e32 : (s.state == 3) = false:=by simpa using e3
   have e33 : (s.state != 3) = true:=by simpa using e3
   have hcl:=tend_any (h9.below (Below.refl _ _).drew) 5
   have Q9:=Lib.hid (q9.below (Below.refl _ _).drew)
   clear h9 q9 h8 q8 hD hb8 hb9 hs9
   go_wp2_with fail
   go_region
   go_wp2_with fail
   refine hcl.mono ?_
   rintro e w10 ⟨rfl, lo10, ro10, h10, r10⟩
   have H10:=Lib.hid h10
   have Q10:=Lib.hid (Q9.out.trans r10)
   clear hcl h10 r10
   go_wp2_with fail
   first | go_end0 | refine bodyPost_ret (results_none rfl _ _ _) rfl ?_
   exact ⟨rfl, lo10, ro10, H10.out, Q10.out⟩
end Go.Proofs.YtefpoidnklflnaaGreatDoor.Cl
namespace Go.Proofs.YtefpoidnklflnaaGreatDoor.Tk
open Go.RowKit Hp Slot RowL Life
def Fin (c : Conf.Cf) (old : List S) (t : Tk) (pre : List Int) (ss : List S) (B : Nat) : Prop :=
 ∃ n t' pre' ss', it true n (t, cells pre ss) = (t', cells pre' ss') ∧ 1 ≤ n ∧ n ≤ B ∧ t'.st = 15 ∧ (t'.e = 5 ∨ t'.e = 3) ∧ Pool c pre' ss' ∧ Nm old ss' none
section
variable {c : Conf.Cf} {pre : List Int} {ss old : List S} {t : Tk} {w : Int} {B : Nat}
theorem Fin.step {t1 : Tk} {pre1 : List Int} {ss1 : List S} {m : Nat} (hs : t.step (cells pre ss) true = (t1, cells pre1 ss1, m)) (h : Fin c old t1 pre1 ss1 B) : Fin c old t pre ss (B + 1):=by
 obtain ⟨n, t', pre', ss', h1, h2, h3, h4⟩:=h
 exact ⟨1 + n, t', pre', ss', it_seq (it_one true hs) h1, by omega, by omega, h4⟩
theorem Fin.run {t1 : Tk} {ss1 : List S} {n : Nat} (hs : it true n (t, cells pre ss) = (t1, cells pre ss1)) (h : Fin c old t1 pre ss1 B) : Fin c old t pre ss (n + B):=by
 obtain ⟨m, t', pre', ss', h1, h2, h3, h4⟩:=h
 exact ⟨n + m, t', pre', ss', it_seq hs h1, by omega, by omega, h4⟩
theorem Fin.mono {B' : Nat} (h : Fin c old t pre ss B) (hb : B ≤ B') : Fin c old t pre ss B':=by
 obtain ⟨n, t', pre', ss', h1, h2, h3, h4⟩:=h
 exact ⟨n, t', pre', ss', h1, h2, by omega, h4⟩
theorem Fin.end' {e : Int} {k : Nat} (he : e = 5 ∨ e = 3) (hs : t.step (cells pre ss) true = ({ t with st:=15, e:=e }, cells pre ss, k)) (h : Pool c pre ss) (hn : Nm old ss none) : Fin c old t pre ss 1 :=
 ⟨1, _, pre, ss, it_one true hs, Nat.le_refl _, Nat.le_refl _, rfl, he, h, hn⟩
theorem done11 : DoneX 11:=.inr (.inr (.inr (.inl rfl)))
theorem done17 : DoneX 17:=.inr (.inr (.inr (.inr (.inr rfl))))
def limboV (s : S) (e : Int) : S:={ «to» s 0 6 with epoch:=e, version:=(s.version + 1) % 32768 }
theorem limboV_state (s : S) (e : Int) : (limboV s e).state = 6:=by unfold limboV «to»; simp
theorem next_retire {s : S} (h : s.right = true) (h3 : s.state = 3 ∨ s.state = 2) : nextX s 11 0 4095 = some (limboV s 4095):=by
 rw [next_is h (by omega) (by rcases h3 with q | q <;> simp [actX, q])]
 rfl
theorem next_age {s : S} (h : s.right = true) (h3 : s.state = 6) {e : Int} (he : 0 ≤ e ∧ e ≤ 4095) : nextX s 17 0 e = some (limboV s e):=by
 rw [next_is h (by omega) (by simp [actX, h3, he])]
 rfl
theorem set_set {i : Nat} (x y : S) : (ss.set i x).set i y = ss.set i y:=by simp
theorem fin12 (h : Pool c pre ss) (he : 0 ≤ pre.getD 2 0 ∧ pre.getD 2 0 ≤ 4095) (hc : t.cf = c) (hst : t.st = 12) {s : S} (hs : ss[t.i]? = some s) (h3 : s.state = 3) (hrt : t.rt = some (Rt.new (sc c t.i) s.word)) (hn : Nm old ss (some t.i)) : Fin c old t pre ss 4:=by
 have hj : t.i < ss.length:=(List.getElem?_eq_some_iff.1 hs).1
 have hsr:=h.get hs
 have n1:=next_retire hsr (.inl h3)
 have r1:=next_right done11 n1
 have p1:=h.set (i:=t.i) r1
 have s1 : (ss.set t.i (limboV s 4095))[t.i]? = some (limboV s 4095):=List.getElem?_set_self hj
 have n2:=next_age r1 (limboV_state s 4095) he
 have r2:=next_right done17 n2
 have p2:=p1.set (i:=t.i) r2
 have s2 : ((ss.set t.i (limboV s 4095)).set t.i (limboV (limboV s 4095) (pre.getD 2 0)))[t.i]? = some (limboV (limboV s 4095) (pre.getD 2 0)):=List.getElem?_set_self (by simpa using hj)
 have g1 : t.step (cells pre ss) true = ({ t with rt:=some { Rt.new (sc c t.i) s.word with word:=(limboV s 4095).word, swapped:=true, st:=1 } }, cells pre (ss.set t.i (limboV s 4095)), 1):=by
  unfold Tk.step; rw [hst]
  simp only [Tk.ret, hrt, Option.getD_some, Rt.step, Rt.new, nextW, dec_word hsr, Option.bind_some, n1, Option.map_some]
  rw [if_pos (rd_slot h hs), set_slot h]
  simp [hst]
 have g2 : ({ t with rt:=some { Rt.new (sc c t.i) s.word with word:=(limboV s 4095).word, swapped:=true, st:=1 } } : Tk).step (cells pre (ss.set t.i (limboV s 4095))) true = ({ t with rt:=some { Rt.new (sc c t.i) s.word with word:=(limboV s 4095).word, swapped:=true, st:=2, epoch:=pre.getD 2 0 } }, cells pre (ss.set t.i (limboV s 4095)), 1):=by
  unfold Tk.step
  simp only [hst, Tk.ret, Option.getD_some, Rt.step, rd_pre p1 (i:=2) (by omega)]
  simp [hst]
 have g3 : ({ t with rt:=some { Rt.new (sc c t.i) s.word with word:=(limboV s 4095).word, swapped:=true, st:=2, epoch:=pre.getD 2 0 } } : Tk).step (cells pre (ss.set t.i (limboV s 4095))) true = ({ t with rt:=some { Rt.new (sc c t.i) s.word with word:=(limboV s 4095).word, swapped:=true, st:=3, epoch:=pre.getD 2 0 } }, cells pre ((ss.set t.i (limboV s 4095)).set t.i (limboV (limboV s 4095) (pre.getD 2 0))), 1):=by
  unfold Tk.step
  simp only [hst, Tk.ret, Option.getD_some, Rt.step, Rt.new, nextW, dec_word r1, Option.bind_some, n2, Option.map_some]
  unfold cas
  rw [if_pos (rd_slot p1 s1), set_slot p1]
  simp [hst]
 refine Fin.step g1 (Fin.step g2 (Fin.step g3 ?_))
 refine ⟨1, { t with rt:=some { Rt.new (sc c t.i) s.word with word:=(limboV s 4095).word, swapped:=true, st:=4, epoch:=pre.getD 2 0, done:=true }, st:=15, e:=5 }, pre.set 2 (wrap64 (pre.getD 2 0 + 1)), _, it_one true (k:=1) ?_, Nat.le_refl _, Nat.le_refl _, rfl, .inl rfl, p2.setPre _ _, ?_⟩
 ·unfold Tk.step
  simp only [hst, Tk.ret, Option.getD_some, Rt.step, Rt.end', rd_pre p2 (i:=2) (by omega), set_pre p2 (i:=2) (by omega)]
  simp [Tk.finish]
 ·exact ((hn.set (.inl rfl)).set (.inl rfl)).free s2 (by rw [limboV_state]; decide)
theorem fin10 (h : Pool c pre ss) (h0 : pre.getD 0 0 ≠ 0) (he : 0 ≤ pre.getD 2 0 ∧ pre.getD 2 0 ≤ 4095) (hc : t.cf = c) (htw : t.w = w) (hst : t.st = 10) (hm : Mine w old t ss) : Fin c old t pre ss 6:=by
 obtain ⟨s, hs, h3, ho, hg, hn⟩:=hm
 have g1 : t.step (cells pre ss) true = ({ t with st:=11 }, cells pre ss, 1):=by
  have e:=rd_pre h (i:=0) (by omega)
  unfold Tk.step; rw [hst]; simp only [e, h0, if_false]
 have g2 : ({ t with st:=11 } : Tk).step (cells pre ss) true = ({ t with st:=12, rt:=some (Rt.new (sc c t.i) s.word) }, cells pre ss, 1):=by
  unfold Tk.step
  simp only [hc, rd_slot h hs, dec_word (h.get hs)]
  rw [if_pos ⟨h3, by rw [ho, htw], hg⟩]
 exact Fin.step g1 (Fin.step g2 (fin12 (t:={ t with st:=12, rt:=some (Rt.new (sc c t.i) s.word) }) h he hc rfl hs h3 rfl hn))
theorem fin9 (h : Pool c pre ss) (h0 : pre.getD 0 0 ≠ 0) (he : 0 ≤ pre.getD 2 0 ∧ pre.getD 2 0 ≤ 4095) (hw : 0 ≤ w ∧ w ≤ 15) (hc : t.cf = c) (htw : t.w = w) (hst : t.st = 9) {s : S} (hs : ss[t.i]? = some s) (hwd : t.word = s.word) (hs1 : s.state = 1) (hso : s.own = w) (hn : Nm old ss (some t.i)) : Fin c old t pre ss 7:=by
 obtain ⟨u, hu⟩ : ∃ u, nextX s 1 t.w 0 = some u:=⟨_, next_is (h.get hs) (by rw [htw]; exact hw) (by simp [actX, Mod.act, hs1, hso, htw])⟩
 have hus:=upV_of hu
 have hj : t.i < ss.length:=(List.getElem?_eq_some_iff.1 hs).1
 exact Fin.step (step9 (good:=true) h hc hst hs hwd hu) (fin10 (h.set (next_right done1 hu)) h0 he hc htw rfl ⟨u, List.getElem?_set_self hj, hus.1, by rw [hus.2, htw], rfl, hn.set (.inl rfl)⟩)
theorem nm_move {i : Option Nat} (hn : Nm old ss i) (v : Int) (k : Nat) (p : Bool) : Nm old (ss.take k ++ moveL v w p (ss.drop k)) i:=by
 intro j s hs hj hst
 by_cases hk : j < (ss.take k).length
 ·rw [List.getElem?_append_left hk] at hs
  rw [List.getElem?_take] at hs
  split at hs
  ·exact hn j s hs hj hst
  ·cases hs
 ·rw [List.getElem?_append_right (by omega)] at hs
  have hlt : j - (ss.take k).length < (ss.drop k).length:=by
   have:=(List.getElem?_eq_some_iff.1 hs).1
   rwa [moveL_len] at this
  obtain ⟨x, hx⟩ : ∃ x, (ss.drop k)[j - (ss.take k).length]? = some x:=⟨_, List.getElem?_eq_getElem hlt⟩
  have hkl : k ≤ ss.length:=by
   rw [List.length_drop] at hlt
   omega
  have hjx : ss[j]? = some x:=by
   rw [List.getElem?_drop, List.length_take] at hx
   rw [← hx]
   congr 1
   rw [List.length_take] at hk
   omega
  rcases moveL_at v w _ p _ x hx with h1 | ⟨hf, h1⟩
  ·rw [h1] at hs
   simp only [Option.some.injEq] at hs
   subst hs
   exact hn j x hjx hj hst
  ·rw [h1] at hs
   simp only [Option.some.injEq] at hs
   subst hs
   have:=(moveV_state x w).1
   omega
theorem mine_move {t' : Tk} (hm : Mine w old t ss) (hi : t'.i = t.i) (hg : t'.gen = t.gen) (v : Int) {k : Nat} (hk : k ≤ ss.length) (p : Bool) : Mine w old t' (ss.take k ++ moveL v w p (ss.drop k)):=by
 obtain ⟨s, h1, h2, h3, h4, h5⟩:=hm
 refine ⟨s, ?_, h2, h3, by rw [hg]; exact h4, by rw [hi]; exact nm_move h5 v k p⟩
 rw [hi]
 have hl : (ss.take k).length = k:=by rw [List.length_take]; omega
 by_cases hik : t.i < k
 ·rw [List.getElem?_append_left (by rw [hl]; exact hik), List.getElem?_take, if_pos hik]
  exact h1
 ·rw [List.getElem?_append_right (by rw [hl]; omega), hl]
  apply moveL_get
  ·rw [List.getElem?_drop]
   rw [← h1]
   congr 1
   omega
  ·simp [Find.fits, Find.sound, h2]
theorem fin5 (h : Pool c pre ss) (h0 : pre.getD 0 0 ≠ 0) (he : 0 ≤ pre.getD 2 0 ∧ pre.getD 2 0 ≤ 4095) (hw : 0 ≤ w ∧ w ≤ 15) (hc : t.cf = c) (htw : t.w = w) (hst : t.st = 5) {v wd : Int} {k : Nat} (hl : t.look = lk 0 v k wd) (hk : k ≤ ns c) (hm : Mine w old t ss) : Fin c old t pre ss (2 * ns c + 7):=by
 have hkl : k ≤ ss.length:=by rw [h.sl]; exact hk
 have htk : (ss.take k).length = k:=by rw [List.length_take]; omega
 have e : ss.take k ++ ss.drop k = ss:=List.take_append_drop k ss
 obtain ⟨n, l', p', hn, hi⟩:=move_run (good:=true) (c:=c) (pre:=pre) hw v (ss.drop k) (ss.take k) t.passes t wd (by rw [e]; exact h) hc htw hst (by rw [htk]; exact hl) rfl
 rw [e] at hi
 have hdl : (ss.drop k).length ≤ ns c:=by rw [List.length_drop, h.sl]; omega
 have hP : Pool c pre (ss.take k ++ moveL v w t.passes (ss.drop k)):=by
  refine ⟨h.pl, ?_, fun s hs => ?_⟩
  ·rw [List.length_append, moveL_len, ← List.length_append, e]; exact h.sl
  ·rcases List.mem_append.1 hs with q | q
   ·exact h.ok s (List.mem_of_mem_take q)
   ·exact moveL_right v hw _ _ (fun s hs => h.ok s (List.mem_of_mem_drop hs)) s q
 exact (Fin.run hi (fin10 (t:={ t with look:=l', passes:=p', st:=10 }) hP h0 he hc htw rfl (mine_move hm rfl rfl v hkl _))).mono (by omega)
theorem fin_look (h : Pool c pre ss) (h1 : 1 ≤ ns c) {kd ow wd : Int} {Bf Be : Nat} (hst : t.st = 1 ∨ t.st = 3 ∨ t.st = 7) : ∀ (d k : Nat) (t' : Tk), t' = { t with look:=lk kd ow k wd } → t.cf = c → k + d = ns c → k < ns c →
  (∀ j s, ss[j]? = some s → Find.fits s kd ow = true → Fin c old { t with look:=some ⟨kd, ow, j, s.word, true⟩, st:=t.st + 1 } pre ss Bf) →
  Fin c old (if t.st = 1 then t.search 3 1 t.w else if t.st = 3 then t.search 7 2 t.w else { t with look:=lk kd ow (ns c) wd }.finish 3) pre ss Be → Fin c old t' pre ss (d + max Bf Be):=by
 intro d
 induction d with
 | zero => intro k t' e hc hk hk2; omega
 | succ d ih =>
  intro k t' e hc hk hk2 hF hE
  obtain ⟨s, hs⟩ : ∃ s, ss[k]? = some s:=⟨_, List.getElem?_eq_getElem (by rw [h.sl]; exact hk2)⟩
  subst e
  by_cases hf : Find.fits s kd ow = true
  ·have g:=hit_step (good:=true) (t:={ t with look:=lk kd ow k wd }) h hc rfl hs hf hst
   exact (Fin.step g (hF k s hs hf)).mono (by omega)
  ·have hf' : Find.fits s kd ow = false:=by simpa using hf
   by_cases hl : k + 1 < ns c
   ·have g:=step_miss (good:=true) (t:={ t with look:=lk kd ow k wd }) h hc (by rcases hst with q | q | q <;> simp [Looks, q]) rfl hs hf' hl
    exact (Fin.step g (ih (k + 1) _ rfl hc (by omega) hl hF hE)).mono (by omega)
   ·have ek : k = ns c - 1:=by omega
    subst ek
    have g:=end_step (good:=true) (t:={ t with look:=lk kd ow (ns c - 1) wd }) h hc rfl h1 hs hf' hst
    exact (Fin.step g hE).mono (by omega)
theorem J.fin (hJ : J c w old t ss) (h : Pool c pre ss) (h0 : pre.getD 0 0 ≠ 0) (he : 0 ≤ pre.getD 2 0 ∧ pre.getD 2 0 ≤ 4095) (hw : 0 ≤ w ∧ w ≤ 15) (h1 : 1 ≤ ns c) (hd : t.st ≠ 15) : Fin c old t pre ss (8 * ns c + 40):=by
 obtain ⟨hc, htw, hJ⟩:=hJ
 have lease : ∀ (t : Tk) (kd ow : Int) (j : Nat) (s : S), t.cf = c → t.w = w → (t.st = 2 ∨ t.st = 4) → t.look = some ⟨kd, ow, j, s.word, true⟩ → ss[j]? = some s → s.state = 2 → s.broken = false → Nm old ss none → Fin c old t pre ss (2 * ns c + 8):=by
  intro t kd ow j s hc htw hst hl hs hs2 hsb hn
  have hnx:=next_lease (w:=w) (h.get hs) hw hs2 hsb
  rw [← htw] at hnx
  have hr:=next_right done3 hnx
  have hls:=leasedV_state s t.w
  have hj : j < ss.length:=(List.getElem?_eq_some_iff.1 hs).1
  have hM : ∀ t' : Tk, t'.i = j → t'.gen = (leasedV s t.w).gen → Mine w old t' (ss.set j (leasedV s t.w)):=fun t' hi hg =>
   ⟨leasedV s t.w, by rw [hi]; exact List.getElem?_set_self hj, hls.1, by rw [hls.2, htw], hg.symm, by rw [hi]; exact (hn.mine j).set (.inl rfl)⟩
  have hP : Pool c pre (ss.set j (leasedV s t.w)):=h.set hr
  rcases hst with q | q
  ·exact (Fin.step (step2 h hc q hs hnx hl) (fin10 (t:={ t with i:=j, word:=(leasedV s t.w).word, gen:=(leasedV s t.w).gen, st:=10 }) hP h0 he hc htw rfl (hM _ rfl rfl))).mono (by omega)
  ·have g:=step4 (good:=true) h hc q hs hnx hl
   by_cases ho : s.own = t.w
   ·rw [if_neg (by simpa using ho)] at g
    exact (Fin.step g (fin10 (t:={ t with i:=j, word:=(leasedV s t.w).word, gen:=(leasedV s t.w).gen, st:=10 }) hP h0 he hc htw rfl (hM _ rfl rfl))).mono (by omega)
   ·rw [if_pos ho] at g
    exact (Fin.step g (fin5 (t:={ t with i:=j, word:=(leasedV s t.w).word, gen:=(leasedV s t.w).gen, passes:=false, look:=lk 0 s.own 0 0, st:=5 }) hP h0 he hw hc htw rfl rfl (by omega) (hM _ rfl rfl))).mono (by omega)
 have free : ∀ (t : Tk) (kd ow : Int) (j : Nat) (s : S), t.cf = c → t.w = w → t.st = 8 → t.look = some ⟨kd, ow, j, s.word, true⟩ → ss[j]? = some s → s.state = 0 → Nm old ss none → Fin c old t pre ss 8:=by
  intro t kd ow j s hc htw hst hl hs hs0 hn
  have hnx:=next_dial (w:=w) (h.get hs) hw hs0
  rw [← htw] at hnx
  have hr:=next_right done0 hnx
  have hds:=dialV_state s t.w
  have hj : j < ss.length:=(List.getElem?_eq_some_iff.1 hs).1
  exact Fin.step (step8 h hc hst hs hnx hl) (fin9 (t:={ t with i:=j, word:=(dialV s t.w).word, gen:=(dialV s t.w).gen, st:=9 }) (h.set hr) h0 he hw hc htw rfl (List.getElem?_set_self hj) rfl hds.1 (by rw [hds.2, htw]) ((hn.mine j).set (.inl rfl)))
 have look7 : ∀ (t : Tk) (ow wd : Int) (k : Nat), t.cf = c → t.w = w → t.st = 7 → t.look = lk 2 ow k wd → k < ns c → Nm old ss none → Fin c old t pre ss (ns c + 8):=by
  intro t ow wd k hc htw hst hl hk hn
  refine (fin_look (old:=old) (t:=t) (kd:=2) (ow:=ow) (wd:=wd) (Bf:=8) (Be:=8) h h1 (.inr (.inr hst)) (ns c - k) k t (by rw [← hl]) hc (by omega) hk (fun j s hs hf => ?_) ?_).mono (by omega)
  ·exact free _ 2 ow j s hc htw (by simp [hst]) rfl hs (fits_free hf) hn
  ·rw [if_neg (by omega), if_neg (by omega)]
   exact ⟨1, _, pre, ss, it_done true 1 rfl, Nat.le_refl _, by omega, rfl, .inr rfl, h, hn⟩
 have look3 : ∀ (t : Tk) (ow wd : Int) (k : Nat), t.cf = c → t.w = w → t.st = 3 → t.look = lk 1 ow k wd → k < ns c → Nm old ss none → Fin c old t pre ss (4 * ns c + 16):=by
  intro t ow wd k hc htw hst hl hk hn
  refine (fin_look (old:=old) (t:=t) (kd:=1) (ow:=ow) (wd:=wd) (Bf:=2 * ns c + 8) (Be:=ns c + 8) h h1 (.inr (.inl hst)) (ns c - k) k t (by rw [← hl]) hc (by omega) hk (fun j s hs hf => ?_) ?_).mono (by omega)
  ·have hi:=fits_idle (.inr rfl) hf
   exact lease _ 1 ow j s hc htw (.inr (by simp [hst])) rfl hs hi.1 hi.2.1 hn
  ·rw [if_neg (by omega), if_pos hst]
   exact look7 (t.search 7 2 t.w) t.w 0 0 hc htw rfl rfl (by omega) hn
 have look1 : ∀ (t : Tk) (ow wd : Int) (k : Nat), t.cf = c → t.w = w → t.st = 1 → t.look = lk 0 ow k wd → k < ns c → Nm old ss none → Fin c old t pre ss (5 * ns c + 24):=by
  intro t ow wd k hc htw hst hl hk hn
  refine (fin_look (old:=old) (t:=t) (kd:=0) (ow:=ow) (wd:=wd) (Bf:=2 * ns c + 8) (Be:=4 * ns c + 16) h h1 (.inl hst) (ns c - k) k t (by rw [← hl]) hc (by omega) hk (fun j s hs hf => ?_) ?_).mono (by omega)
  ·have hi:=fits_idle (.inl rfl) hf
   exact lease _ 0 ow j s hc htw (.inl (by simp [hst])) rfl hs hi.1 hi.2.1 hn
  ·rw [if_pos hst]
   exact look3 (t.search 3 1 t.w) t.w 0 0 hc htw rfl rfl (by omega) hn
 rcases hJ with ⟨hst, hn⟩ | ⟨kd, ow, k, wd, hst, hl, hk, hn⟩ | ⟨kd, ow, j, s, hst, hl, hs, hs2, hsb, hn⟩ | ⟨kd, ow, j, s, hst, hl, hs, hs0, hn⟩ | ⟨s, hst, hs, hwd, hs1, hso, hn⟩ | ⟨hst, hm⟩ | ⟨v, k, wd, hst, hl, hk, hm⟩ | ⟨v, k, s, hst, hl, hs, hf, hp, hm⟩ | hst
 ·have e:=rd_pre h (i:=0) (by omega)
  exact (Fin.end' (e:=5) (k:=1) (.inl rfl) (by unfold Tk.step; rw [hst]; simp only [e]; rw [if_pos h0]; rfl) h hn).mono (by omega)
 ·rcases hst with ⟨q, rfl⟩ | ⟨q, rfl⟩ | ⟨q, rfl⟩
  ·exact (look1 t ow wd k hc htw q hl hk hn).mono (by omega)
  ·exact (look3 t ow wd k hc htw q hl hk hn).mono (by omega)
  ·exact (look7 t ow wd k hc htw q hl hk hn).mono (by omega)
 ·exact (lease t kd ow j s hc htw hst hl hs hs2 hsb hn).mono (by omega)
 ·exact (free t kd ow j s hc htw hst hl hs hs0 hn).mono (by omega)
 ·exact (fin9 h h0 he hw hc htw hst hs hwd hs1 hso hn).mono (by omega)
 ·exact (fin10 h h0 he hc htw hst hm).mono (by omega)
 ·exact (fin5 h h0 he hw hc htw hst hl hk hm).mono (by omega)
 ·have hi:=fits_idle (.inl rfl) hf
  have hmv:=moveV_state s t.w
  have hr : (moveV s t.w).right = true:=move_right (h.get hs) (by rw [htw]; exact hw) hi.1
  have hkl:=(List.getElem?_eq_some_iff.1 hs).1
  rw [h.sl] at hkl
  exact (Fin.step (step6 h hc (by rw [htw]; exact hw) hst hl hs hf) (fin5 (t:={ t with look:=lk 0 v (k + 1) s.word, st:=5 }) (h.set hr) h0 he hw hc htw rfl rfl (by omega) (hm.set rfl rfl hs (by omega) (by omega)))).mono (by omega)
 ·exact absurd hst hd
end
end Go.Proofs.YtefpoidnklflnaaGreatDoor.Tk
