/- Part 2 of the walks and plain laws that the last text joins. -/
import Derived.Test.YtpmkgddjgebojaaGreatDoorD1
set_option maxRecDepth 100000
set_option maxHeartbeats 16000000
set_option linter.unusedVariables false
set_option linter.unusedSimpArgs false
namespace Go.Proofs.YtpmkgddjgebojaaGreatDoor.Life
open Go.RowKit Hp Slot RowL
theorem mark_any (w : World) (s : S) (own more : Int) : Calls Tryz.prog 121 #[cval s own more] w fun e w' => e = .returned (.tuple #[({ s with marked:=true } : S).val, .bool (s.state == 2 && !s.marked)]) ∧ Below w.heap.size w w':=by
 have hi:=fun W => is_any W s own more 2
 generalize hb : (s.state == 2) = b at *
 clear hb
 obtain ⟨st, ow, sm, br, ma, us, ge, ep, ve⟩:=s
 simp only [cval] at hi
 have hA : Below w.heap.size w (((w.alloc (.cells (Ae st ow sm br ma us ge ep ve own more) 141)).alloc (.cells zero9 59)).alloc (.cells (Ac st ow sm br true us ge ep ve) 59)):=(((Below.refl _ _).alloc (Nat.le_refl _) _).alloc (by simp) _).alloc (by simp; omega) _
 have hK : Kp (((w.alloc (.cells (Ae st ow sm br ma us ge ep ve own more) 141)).alloc (.cells zero9 59)).alloc (.cells (Ac st ow sm br true us ge ep ve) 59)) (w.heap.size + 1) (((w.alloc (.cells (Ae st ow sm br ma us ge ep ve own more) 141)).alloc (.cells zero9 59)).alloc (.cells (Ac st ow sm br true us ge ep ve) 59)):=⟨Chg.refl _ _, zero9, rfl, heap_alloc3_mid w _ _ _⟩
 have R1 : RowAt (((w.alloc (.cells (Ae st ow sm br ma us ge ep ve own more) 141)).alloc (.cells zero9 59)).alloc (.cells (Ac st ow sm br true us ge ep ve) 59)) w.heap.size (Ae st ow sm br ma us ge ep ve own more) 141:=by rw [RowAt, Below.heap_alloc _ _ _ (by simp; omega)]; exact heap_alloc2_old w _ _
 have R3 : RowAt (((w.alloc (.cells (Ae st ow sm br ma us ge ep ve own more) 141)).alloc (.cells zero9 59)).alloc (.cells (Ac st ow sm br true us ge ep ve) 59)) (w.heap.size + 1 + 1) (Ac st ow sm br true us ge ep ve) 59:=by have:=heap_alloc_new ((w.alloc (.cells (Ae st ow sm br ma us ge ep ve own more) 141)).alloc (.cells zero9 59)) (.cells (Ac st ow sm br true us ge ep ve) 59); simpa [RowAt] using this
 have rC : ∀ w', Kp (((w.alloc (.cells (Ae st ow sm br ma us ge ep ve own more) 141)).alloc (.cells zero9 59)).alloc (.cells (Ac st ow sm br true us ge ep ve) 59)) (w.heap.size + 1) w' → RowAt w' w.heap.size (Ae st ow sm br ma us ge ep ve own more) 141:=fun w' h => R1.chg h.1 (by simp)
 have rS : ∀ w', Kp (((w.alloc (.cells (Ae st ow sm br ma us ge ep ve own more) 141)).alloc (.cells zero9 59)).alloc (.cells (Ac st ow sm br true us ge ep ve) 59)) (w.heap.size + 1) w' → RowAt w' (w.heap.size + 1 + 1) (Ac st ow sm br true us ge ep ve) 59:=fun w' h => R3.chg h.1 (by simp)
 have l4 : ∀ w', Kp (((w.alloc (.cells (Ae st ow sm br ma us ge ep ve own more) 141)).alloc (.cells zero9 59)).alloc (.cells (Ac st ow sm br true us ge ep ve) 59)) (w.heap.size + 1) w' → w'.cell? ⟨w.heap.size, 4, none⟩ = some (.bool ma):=fun w' h => h.cell (by simp) (R1.cell 4)
 clear R1 R3
 go_enter Tryz.func121, Tryz.ntmps121
 go_wp2_with fail
 generalize (((w.alloc (.cells (Ae st ow sm br ma us ge ep ve own more) 141)).alloc (.cells zero9 59)).alloc (.cells (Ac st ow sm br true us ge ep ve) 59)) = wa at *
 have hKd:=hK.drew
 cases b
 ·have : True:=trivial
  refine wp_region_held_drew (S:=fun w' => Kp wa (w.heap.size + 1) w') (by kernel_rfl) (by exact hKd) (fun hHeld => ?_)
  refine tKw (gd:=none) 0 8 (.load 59 (.tmp 4)) (.agg (Ac st ow sm br true us ge ep ve)) (run_load_row 59 (.tmp 4) (w.heap.size + 1 + 1) 59 (Ac st ow sm br true us ge ep ve) _ (by kernel_rfl) Tryz.underlying59 rfl (by kernel_rfl) rS) hHeld ?_
  try simp only [Act.put, sA, sZ, sS]
  refine tKw (gd:=none) 1 9 (.load 141 (.tmp 1)) (.agg (Ae st ow sm br ma us ge ep ve own more)) (run_load_row 141 (.tmp 1) (w.heap.size) 141 (Ae st ow sm br ma us ge ep ve own more) _ (by kernel_rfl) Tryz.underlying141 rfl (by kernel_rfl) rC) hHeld ?_
  try simp only [Act.put, sA, sZ, sS]
  refine wpAnyH_ready (rs:=[2]) (by kernel_rfl) (by simp) ?_
  refine AllReadyH.cons rfl (fun K hK => ?_) AllReadyH.nil
  go_simp
  refine (hi _).mono ?_
  rintro e w6 ⟨rfl, hb6⟩
  go_simp
  refine hK.out _ _ (by exact hHeld.later hb6) (fun hHeld2 => ?_)
  clear hK K
  try simp only [Act.put, sA, sZ, sS]
  refine wpAnyH_take (i:=3) (v:=?_) rfl (by kernel_rfl) (by kernel_rfl) (by kernel_rfl) (fun _ _ _ h => h) (Or.inl ⟨rfl, ?_⟩) hHeld2 ?_
  rotate_left
  ·intro w hSw
   try dsimp only at hSw
   go_simp
   try with_reducible rfl
  try simp only [Act.put, sA, sZ, sS]
  refine wpAnyH_take (i:=4) (v:=undef) rfl (by kernel_rfl) (by kernel_rfl) (by kernel_rfl) (fun _ _ _ h => h) (Or.inr ⟨rfl, rfl⟩) hHeld2 ?_
  try simp only [Act.put, sA, sZ, sS]
  refine wpAnyH_take (i:=5) (v:=undef) rfl (by kernel_rfl) (by kernel_rfl) (by kernel_rfl) (fun _ _ _ h => h) (Or.inr ⟨rfl, rfl⟩) hHeld2 ?_
  try simp only [Act.put, sA, sZ, sS]
  refine wpAnyH_take (i:=6) (v:=undef) rfl (by kernel_rfl) (by kernel_rfl) (by kernel_rfl) (fun _ _ _ h => h) (Or.inr ⟨rfl, rfl⟩) hHeld2 ?_
  try simp only [Act.put, sA, sZ, sS]
  refine wpAnyH_take (i:=7) (v:=undef) rfl (by kernel_rfl) (by kernel_rfl) (by kernel_rfl) (fun _ _ _ h => h) (Or.inr ⟨rfl, rfl⟩) hHeld2 ?_
  try simp only [Act.put, sA, sZ, sS]
  refine wpAnyH_take (i:=8) (v:=?_) rfl (by kernel_rfl) (by kernel_rfl) (by kernel_rfl) (fun _ _ _ h => h) (Or.inl ⟨rfl, ?_⟩) hHeld2 ?_
  rotate_left
  ·intro w hSw
   try dsimp only at hSw
   go_simp
   try with_reducible rfl
  try simp only [Act.put, sA, sZ, sS]
  obtain ⟨kp1, Z, kp2, kp3⟩:=hHeld2
  refine ready_store_row (i:=9) (by kernel_rfl) 59 (.tmp 2) (.tmp 8) (by kernel_rfl) (w.heap.size + 1) _ _ (Ac st ow sm br true us ge ep ve) (by kernel_rfl) (by kernel_rfl) kp3 kp2 (by kernel_rfl) (by kernel_rfl) (Kp.set ⟨kp1, Z, kp2, kp3⟩ ⟨st, ow, sm, br, true, us, ge, ep, ve⟩) (fun hHeld3 => ?_)
  try simp only [Act.put, sA, sZ, sS]
  refine wpAnyH_take (i:=10) (v:=?_) rfl (by kernel_rfl) (by kernel_rfl) (by kernel_rfl) (fun _ _ _ h => h) (Or.inl ⟨rfl, ?_⟩) hHeld3 ?_
  rotate_left
  ·intro w hSw
   try dsimp only at hSw
   go_simp
   try with_reducible rfl
  try simp only [Act.put, sA, sZ, sS]
  refine wpAnyH_done (by kernel_rfl) ?_ _
  go_simp
  clear rC rS
  go_wp2_with fail
  refine bR2 (w.heap.size + 1) (Kp.row ⟨kp1, Z, kp2, kp3⟩ ⟨st, ow, sm, br, true, us, ge, ep, ve⟩) Tryz.underlying59 ?_
  exact ⟨rfl, Kp.below hHeld3 hA (by omega)⟩
 ·have : True:=trivial
  refine wp_region_held_drew (S:=fun w' => Kp wa (w.heap.size + 1) w') (by kernel_rfl) (by exact hKd) (fun hHeld => ?_)
  refine tKw (gd:=none) 0 8 (.load 59 (.tmp 4)) (.agg (Ac st ow sm br true us ge ep ve)) (run_load_row 59 (.tmp 4) (w.heap.size + 1 + 1) 59 (Ac st ow sm br true us ge ep ve) _ (by kernel_rfl) Tryz.underlying59 rfl (by kernel_rfl) rS) hHeld ?_
  try simp only [Act.put, sA, sZ, sS]
  refine tKw (gd:=none) 1 9 (.load 141 (.tmp 1)) (.agg (Ae st ow sm br ma us ge ep ve own more)) (run_load_row 141 (.tmp 1) (w.heap.size) 141 (Ae st ow sm br ma us ge ep ve own more) _ (by kernel_rfl) Tryz.underlying141 rfl (by kernel_rfl) rC) hHeld ?_
  try simp only [Act.put, sA, sZ, sS]
  refine wpAnyH_ready (rs:=[2]) (by kernel_rfl) (by simp) ?_
  refine AllReadyH.cons rfl (fun K hK => ?_) AllReadyH.nil
  go_simp
  refine (hi _).mono ?_
  rintro e w6 ⟨rfl, hb6⟩
  go_simp
  refine hK.out _ _ (by exact hHeld.later hb6) (fun hHeld2 => ?_)
  clear hK K
  try simp only [Act.put, sA, sZ, sS]
  refine wpAnyH_take (i:=3) (v:=?_) rfl (by kernel_rfl) (by kernel_rfl) (by kernel_rfl) (fun _ _ _ h => h) (Or.inl ⟨rfl, ?_⟩) hHeld2 ?_
  rotate_left
  ·intro w hSw
   try dsimp only at hSw
   go_simp
   try with_reducible rfl
  try simp only [Act.put, sA, sZ, sS]
  refine wpAnyH_take (i:=4) (v:=?_) rfl (by kernel_rfl) (by kernel_rfl) (by kernel_rfl) (fun _ _ _ h => h) (Or.inl ⟨rfl, ?_⟩) hHeld2 ?_
  rotate_left
  ·intro w hSw
   try dsimp only at hSw
   go_simp
   try with_reducible rfl
  try simp only [Act.put, sA, sZ, sS]
  refine wpAnyH_take (i:=5) (v:=?_) rfl (by kernel_rfl) (by kernel_rfl) (by kernel_rfl) (fun _ _ _ h => h) (Or.inl ⟨rfl, ?_⟩) hHeld2 ?_
  rotate_left
  ·intro w hSw
   try dsimp only at hSw
   go_simp
   try with_reducible rfl
  try simp only [Act.put, sA, sZ, sS]
  refine wpAnyH_take (i:=6) (v:=?_) rfl (by kernel_rfl) (by kernel_rfl) (by kernel_rfl) (fun _ _ _ h => h) (Or.inl ⟨rfl, ?_⟩) hHeld2 ?_
  rotate_left
  ·intro w hSw
   try dsimp only at hSw
   go_simp
   try with_reducible rfl
  try simp only [Act.put, sA, sZ, sS]
  refine wpAnyH_take (i:=7) (v:=?_) rfl (by kernel_rfl) (by kernel_rfl) (by kernel_rfl) (fun _ _ _ h => h) (Or.inl ⟨rfl, ?_⟩) hHeld2 ?_
  rotate_left
  ·intro w hSw
   try dsimp only at hSw
   go_simp
   try with_reducible rfl
  try simp only [Act.put, sA, sZ, sS]
  refine wpAnyH_take (i:=8) (v:=?_) rfl (by kernel_rfl) (by kernel_rfl) (by kernel_rfl) (fun _ _ _ h => h) (Or.inl ⟨rfl, ?_⟩) hHeld2 ?_
  rotate_left
  ·intro w hSw
   try dsimp only at hSw
   go_simp
   try with_reducible rfl
  try simp only [Act.put, sA, sZ, sS]
  obtain ⟨kp1, Z, kp2, kp3⟩:=hHeld2
  refine ready_store_row (i:=9) (by kernel_rfl) 59 (.tmp 2) (.tmp 8) (by kernel_rfl) (w.heap.size + 1) _ _ (Ac st ow sm br true us ge ep ve) (by kernel_rfl) (by kernel_rfl) kp3 kp2 (by kernel_rfl) (by kernel_rfl) (Kp.set ⟨kp1, Z, kp2, kp3⟩ ⟨st, ow, sm, br, true, us, ge, ep, ve⟩) (fun hHeld3 => ?_)
  try simp only [Act.put, sA, sZ, sS]
  refine wpAnyH_take (i:=10) (v:=?_) rfl (by kernel_rfl) (by kernel_rfl) (by kernel_rfl) (fun _ _ _ h => h) (Or.inl ⟨rfl, ?_⟩) hHeld3 ?_
  rotate_left
  ·intro w hSw
   try dsimp only at hSw
   go_simp
   try with_reducible rfl
  try simp only [Act.put, sA, sZ, sS]
  refine wpAnyH_done (by kernel_rfl) ?_ _
  go_simp
  clear rC rS
  go_wp2_with fail
  refine bR2 (w.heap.size + 1) (Kp.row ⟨kp1, Z, kp2, kp3⟩ ⟨st, ow, sm, br, true, us, ge, ep, ve⟩) Tryz.underlying59 ?_
  exact ⟨rfl, Kp.below hHeld3 hA (by omega)⟩
end Go.Proofs.YtpmkgddjgebojaaGreatDoor.Life
namespace Go.Proofs.YtpmkgddjgebojaaGreatDoor.R8
open Go.RowKit Hp Slot RowL Life
def plainS (s : S) (k own : Int) : S:=⟨k, own, 0, false, false, 0, s.gen, 0, s.version⟩
def leasedS (s : S) (own : Int) : S:={ plainS s 3 own with broken:=s.broken, uses:=min (s.uses + 1) 63, gen:=(s.gen + 1) % 4096 }
theorem plain_any (w : World) (s : S) (k own : Int) : Calls Tryz.prog 107 #[s.val, .i k, .i own] w fun e w' => e = .returned (plainS s k own).val ∧ Below w.heap.size w w':=by
 obtain ⟨st, ow, sm, br, ma, us, ge, ep, ve⟩:=s
 simp only [S.val, S.cells, plainS]
 go_enter Tryz.func107, Tryz.ntmps107
 go_wp2
 refine bodyPost_ret (results_cell_row rfl _ _ (w.heap.size + 1) _ _ _ _ rfl (heap_alloc2_new w _ _) Tryz.underlying59 rfl (by kernel_rfl)) rfl ?_
 exact ⟨rfl, ((Below.refl _ _).alloc (Nat.le_refl _) _).alloc (by simp) _⟩
def lowN : Nat → Nat → Nat
 | 0, _ => 0
 | f + 1, n => if n % 2 = 1 then lowN f (n / 2) + 1 else 0
theorem lowN_le : ∀ f n, lowN f n ≤ f
 | 0, _ => Nat.le_refl _
 | f + 1, n => by
  unfold lowN
  split
  ·have:=lowN_le f (n / 2); omega
  ·omega
theorem low_any (w : World) (n : Nat) (hn : n < 512) : Calls Tryz.prog 109 #[.i n] w fun e w' => e = .returned (.i (lowN 9 n)) ∧ w = w':=by
 go_enter Tryz.func109, Tryz.ntmps109
 go_wp2
 go_loop [0, 3] (fun a i => ∃ m k f : Nat, a = .i m ∧ i = .i k ∧ k + f = 9 ∧ m < 2 ^ f ∧ lowN 9 n = k + lowN f m) (fun a _ => (intOf a).toNat)
 case atStart => exact ⟨n, 0, 9, rfl, rfl, by omega, by simpa using hn, by omega⟩
 case round =>
  obtain ⟨m, k, f, rfl, rfl, hk, hm, he⟩:=hrel
  have HE:=Lib.hid he
  have HM:=Lib.hid hm
  have k0 : (0 : Int) ≤ (k : Int):=by omega
  have k1 : (k : Int) ≤ 9:=by omega
  have m1 : (m : Int) ≤ 512:=by
   have h1 : 2 ^ f ≤ 2 ^ 9:=Nat.pow_le_pow_right (by omega) (by omega)
   omega
  have m0 : (0 : Int) ≤ (m : Int):=by omega
  clear he hm
  by_cases h2 : m % 2 = 1
  ·have h3 : (m : Int) % 2 = 1:=by omega
   have H2:=Lib.hid h2
   clear h2
   have hf : 1 ≤ f:=by
    have h4:=HM.out
    have h5:=H2.out
    cases f with
    | zero => simp at h4; omega
    | succ f => omega
   obtain ⟨f', rfl⟩ : ∃ f', f = f' + 1:=⟨f - 1, by omega⟩
   go_wp2
   go_round
   case rel => exact ⟨m / 2, k + 1, f', by go_num, by go_num, by omega, by have:=HM.out; rw [Nat.pow_succ] at this; omega, by rw [HE.out, lowN, if_pos H2.out]; omega⟩
   case measure => simp [intOf]; omega
  ·have h3 : ¬ (m : Int) % 2 = 1:=by omega
   have H2:=Lib.hid h2
   clear h2
   go_wp2
   go_ret
   have h5 : lowN f m = 0:=by
    cases f with
    | zero => rfl
    | succ f => rw [lowN, if_neg H2.out]
   exact ⟨Base.ret_int (by rw [HE.out, h5]; omega), rfl⟩
def pw (n : Nat) : Nat:=2 ^ n
theorem power_any (w : World) (n : Nat) (hn : n ≤ 9) : Calls Tryz.prog 110 #[.i n] w fun e w' => e = .returned (.i (pw n : Int)) ∧ w = w':=by
 go_enter Tryz.func110, Tryz.ntmps110
 go_wp2
 go_loop [3, 4] (fun a i => ∃ P k : Nat, a = .i P ∧ i = .i k ∧ k ≤ n ∧ Hid (P = pw k)) (fun _ i => n - (intOf i).toNat)
 case atStart => exact ⟨1, 0, rfl, rfl, by omega, Lib.hid rfl⟩
 case round =>
  obtain ⟨P, k, rfl, rfl, hk, hp⟩:=hrel
  have k0 : (0 : Int) ≤ (k : Int):=by omega
  have p0 : (0 : Int) ≤ (P : Int):=by omega
  have p1 : (P : Int) ≤ 512:=by
   have h1 : 2 ^ k ≤ 2 ^ 9:=Nat.pow_le_pow_right (by omega) (by omega)
   have h2:=hp.out
   unfold pw at h2
   omega
  by_cases hlt : k < n
  ·go_wp2
   go_round
   case rel => exact ⟨P * 2, k + 1, by go_num, by go_num, by omega, Lib.hid (by rw [hp.out]; unfold pw; rw [Nat.pow_succ])⟩
   case measure => simp [intOf]; omega
  ·obtain rfl : k = n:=by omega
   go_wp2
   go_ret
   exact ⟨Base.ret_int (by rw [hp.out]), rfl⟩
end Go.Proofs.YtpmkgddjgebojaaGreatDoor.R8
namespace Go.Proofs.YtpmkgddjgebojaaGreatDoor.Find
open Go.RowKit Hp Slot
theorem ref_fits (w : World) (s : S) (kind own : Int) (hk : kind = 0 ∨ kind = 1 ∨ kind = 2 ∨ kind = 3 ∨ kind = 4 ∨ kind = 6) : Calls Tryz.prog 85 #[s.val, .i kind, .i own] w fun e w' =>
  e = .returned (.bool (fits s kind own)) ∧ Below w.heap.size w w':=by
 have hfs : RowKit.Hid (∀ k : Int, fits s k own = (if k = 0 then sound s && s.own == own else if k = 1 then sound s else if k = 2 then s.state == 0 else if k = 3 then sound s || s.state == 0 else if k = 4 then swept s own else if k = 5 then s.state == 6 else if k = 6 then s.state == 2 else false)):=fun k => rfl
 have hB : Below w.heap.size w (w.alloc (.cells s.cells 59)):=(Below.refl _ _).alloc (Nat.le_refl _) _
 obtain ⟨st, ow, sm, br, ma, us, ge, ep, ve⟩:=s
 simp only [S.cells] at hB
 go_enter Tryz.func85, Tryz.ntmps85
 simp only [S.val, S.cells]
 by_cases h2 : st = 2
 ·subst h2
  cases br
  all_goals (
   rcases hk with rfl | rfl | rfl | rfl | rfl | rfl
   ·go_wp2
    go_ret
    exact ⟨Base.ret_bool (by rw [hfs.out]; simp [sound]), hB⟩
   ·go_wp2
    go_ret
    exact ⟨Base.ret_bool (by rw [hfs.out]; simp [sound]), hB⟩
   ·go_wp2
    go_ret
    exact ⟨Base.ret_bool (by rw [hfs.out]; simp [sound]), hB⟩
   ·go_wp2
    go_ret
    exact ⟨Base.ret_bool (by rw [hfs.out]; simp [sound]), hB⟩
   ·by_cases h1 : own = 1
    ·subst h1
     go_wp2
     go_ret
     exact ⟨Base.ret_bool (by rw [hfs.out]; simp [swept]), hB⟩
    ·have hk1 : (own == 1) = false:=by simpa using h1
     go_wp2
     go_ret
     exact ⟨Base.ret_bool (by rw [hfs.out]; simp [swept, h1]), hB⟩
   ·go_wp2
    go_ret
    exact ⟨Base.ret_bool (by rw [hfs.out]; simp [sound]), hB⟩)
 ·have e2 : (st == 2) = false:=by simpa using h2
  rcases hk with rfl | rfl | rfl | rfl | rfl | rfl
  ·go_wp2
   go_ret
   exact ⟨Base.ret_bool (by rw [hfs.out]; simp [sound, h2]), hB⟩
  ·go_wp2
   go_ret
   exact ⟨Base.ret_bool (by rw [hfs.out]; simp [sound, h2]), hB⟩
  ·go_wp2
   go_ret
   exact ⟨Base.ret_bool (by rw [hfs.out]; simp [sound, h2]), hB⟩
  ·go_wp2
   go_ret
   exact ⟨Base.ret_bool (by rw [hfs.out]; simp [sound, h2]), hB⟩
  ·by_cases h3 : st = 3
   ·subst h3
    go_wp2
    go_ret
    exact ⟨Base.ret_bool (by rw [hfs.out]; simp [swept]), hB⟩
   ·have e3 : (st == 3) = false:=by simpa using h3
    go_wp2
    go_ret
    exact ⟨Base.ret_bool (by rw [hfs.out]; simp [swept, h2, h3]), hB⟩
  ·go_wp2
   go_ret
   exact ⟨Base.ret_bool (by rw [hfs.out]; simp [sound, h2]), hB⟩
end Go.Proofs.YtpmkgddjgebojaaGreatDoor.Find
