/- Part 18 of the walks and plain laws that the last text joins. -/
import Derived.Test.YtbklamnimfmjkaaGreatDoorKB6
set_option maxRecDepth 100000
set_option maxHeartbeats 16000000
set_option linter.all false
open Go.Proofs.Tryz
namespace Go.Proofs.YtbklamnimfmjkaaGreatDoor
namespace ai
open Go.RowKit Hp Slot ah Mod
theorem KA (w:World) (s:S) (own more:Int) (hs:0<=s.streams/\s.streams<=255):Calls prog 147 #[cO s own more] w fun e w'=>e=.returned (.tuple #[(act 15 s own more).1.val,.bool (act 15 s own more).2])/\Below w.heap.size w w':=by
 have hi:=fun W=>kD W s own more 3
 have ha:act 15 s own more=if (s.state == 3 && s.own == own) && decide (0<=more/\more < 8) && bT s.streams more.toNat then ({s with streams:=gP s.streams more.toNat},true) else (s,false):=rfl
 generalize act 15 s own more=res at *;generalize hb:(s.state == 3 && s.own == own)=b at *;clear hb;have HA:=uH ha;clear ha;obtain⟨st,ow,sm,br,ma,us,ge,ep,ve⟩:=s;simp only[cO]at hi hs;obtain⟨hs0,hs1⟩:=hs;have hA:Below w.heap.size w (((w.alloc (.cells (Ae st ow sm br ma us ge ep ve own more) 144)).alloc (.cells av 57)).alloc (.cells (Aa st ow sm br ma us ge ep ve) 57)):=((bZ.alloc aQ _).alloc au _).alloc (by simp;omega) _;have r1:af (((w.alloc (.cells (Ae st ow sm br ma us ge ep ve own more) 144)).alloc (.cells av 57)).alloc (.cells (Aa st ow sm br ma us ge ep ve) 57)) w.heap.size (Ae st ow sm br ma us ge ep ve own more) 144:=by rw[af,Below.heap_alloc _ _ _ (by simp;omega)];exact heap_alloc2_old w _ _
 have r2:af (((w.alloc (.cells (Ae st ow sm br ma us ge ep ve own more) 144)).alloc (.cells av 57)).alloc (.cells (Aa st ow sm br ma us ge ep ve) 57)) (w.heap.size+1) av 57:=dW w _ _ _;have r3:af (((w.alloc (.cells (Ae st ow sm br ma us ge ep ve own more) 144)).alloc (.cells av 57)).alloc (.cells (Aa st ow sm br ma us ge ep ve) 57)) (w.heap.size+1+1) (Aa st ow sm br ma us ge ep ve) 57:=by have:=heap_alloc_new ((w.alloc (.cells (Ae st ow sm br ma us ge ep ve own more) 144)).alloc (.cells av 57)) (.cells (Aa st ow sm br ma us ge ep ve) 57);simpa [af] using this
 go_enter func147,ntmps147
 go_wp2_with fail;generalize (((w.alloc (.cells (Ae st ow sm br ma us ge ep ve own more) 144)).alloc (.cells av 57)).alloc (.cells (Aa st ow sm br ma us ge ep ve) 57))=wa at *;have iT:Below wa.heap.size wa wa.drew:=bY;have rC:∀ w',Below wa.heap.size wa w'->af w' w.heap.size (Ae st ow sm br ma us ge ep ve own more) 144:=fun w' h=>r1.below h
 have l10:∀ w',Below wa.heap.size wa w'->w'.cell? ⟨w.heap.size,10,none⟩=some (.i more):=fun w' h=>(r1.below h).cell 10
 have l2:∀ w',Below wa.heap.size wa w'->w'.cell? ⟨w.heap.size+1+1,2,none⟩=some (.i sm):=fun w' h=>(r3.below h).cell 2
 cases b
 ·have zh:RowKit.Hid (res=(⟨st,ow,sm,br,ma,us,ge,ep,ve⟩,false)):=uH (by rw[HA.out];simp);clear HA;refine jr (S:=fun w'=>Below wa.heap.size wa w') (by exact iT) (fun hHeld=>?_);refine iC (gd:=none) 0 7 (.load 144 (.tmp 1)) (.agg (Ae st ow sm br ma us ge ep ve own more)) (aM 144 (.tmp 1) (w.heap.size) 144 (Ae st ow sm br ma us ge ep ve own more) _ ax underlying144 rfl ax rC) hHeld (ay ?_)
  refine mP (i:=1) 209 #[.tmp 7,.const (.i 3)] #[144,3] (some 8) (none) #[.agg (Ae st ow sm br ma us ge ep ve own more),.i 3] (aH func209) ?_;refine(hi _).mono ?_;rintro e w6 ⟨rfl,hb6⟩;refine⟨_,rfl,hHeld.trans (hb6.mono hHeld.size),fun hH2=>ay ?_⟩
  refine iC (gd:=none) 2 9 (.unOp .not 4 (.tmp 8)) ((.bool (!false))) (ng 4 (.tmp 8) false ax) hH2 (ay ?_)
  refine iC (gd:=none) 3 10 (.move (.tmp 9)) ((.bool true)) (bD (.tmp 9) (.bool true) ax) hH2 (ay ?_)
  refine sH 4 (some 11) hH2 ?_;refine sH 5 (some 12) hH2 ?_;refine sH 6 (some 13) hH2 ?_;refine iC (gd:=none) 7 14 (.pick (.tmp 10) (.const (.bool true)) (.tmp 13)) ((.bool true)) (aV (.tmp 10) (.const (.bool true)) (.tmp 13) true (.bool true) ax ax) hH2 (ay ?_)
  refine iC (gd:=none) 8 15 (.move (.tmp 14)) ((.bool true)) (bD (.tmp 14) (.bool true) ax) hH2 (ay ?_)
  refine sH 9 (some 16) hH2 ?_;refine sH 10 (some 17) hH2 ?_;refine sH 11 (some 18) hH2 ?_;refine iC (gd:=none) 12 19 (.pick (.tmp 15) (.const (.bool true)) (.tmp 18)) ((.bool true)) (aV (.tmp 15) (.const (.bool true)) (.tmp 18) true (.bool true) ax ax) hH2 (ay ?_)
  refine iC (gd:=none) 13 20 (.move (.tmp 19)) ((.bool true)) (bD (.tmp 19) (.bool true) ax) hH2 (ay ?_)
  refine sH 14 (some 21) hH2 ?_;refine sH 15 (some 22) hH2 ?_;refine sH 16 (some 23) hH2 ?_;refine sH 17 (some 24) hH2 ?_;refine sH 18 (some 25) hH2 ?_;refine sH 19 (some 26) hH2 ?_;refine sH 20 (some 27) hH2 ?_;refine iC (gd:=none) 21 28 (.pick (.tmp 20) (.const (.bool true)) (.tmp 27)) ((.bool true)) (aV (.tmp 20) (.const (.bool true)) (.tmp 27) true (.bool true) ax ax) hH2 (ay ?_)
  refine iR ?_;clear l2 l10 rC;have HB:=uH (hA.trans (hH2.mono hA.size));have r2:=r2.below hH2;have r3:=r3.below hH2;have c10:=cC more ((r1.below hH2).cell 10);have q0:=cC 0 (r2.cell 0);have f0:=r2.frozen 0;have s0:=cC st (r3.cell 0);have q1:=cC 0 (r2.cell 1);have f1:=r2.frozen 1;have s1:=cC ow (r3.cell 1);have q2:=cC 0 (r2.cell 2);have f2:=r2.frozen 2;have s2:=cC sm (r3.cell 2);have q3:=cV (.bool false) (r2.cell 3);have f3:=r2.frozen 3;have s3:=cV (.bool br) (r3.cell 3);have q4:=cV (.bool false) (r2.cell 4);have f4:=r2.frozen 4;have s4:=cV (.bool ma) (r3.cell 4);have q5:=cC 0 (r2.cell 5);have f5:=r2.frozen 5;have s5:=cC us (r3.cell 5);have q6:=cC 0 (r2.cell 6);have f6:=r2.frozen 6;have s6:=cC ge (r3.cell 6);have q7:=cC 0 (r2.cell 7);have f7:=r2.frozen 7;have s7:=cC ep (r3.cell 7);have q8:=cC 0 (r2.cell 8);have f8:=r2.frozen 8;have s8:=cC ve (r3.cell 8)
  have g2:=r3.frozen 2;have R2:=uH r2;clear r2 r3 r1 hHeld hH2 hA iT hb6 hi;go_wp2_with fail;refine jK (w.heap.size+1) ((((((((((R2.out).aB 0 _).aB 1 _).aB 2 _).aB 3 _).aB 4 _).aB 5 _).aB 6 _).aB 7 _).aB 8 _) underlying57 ?_;refine⟨by rw[zh.out];simp[S.val,S.cells],?_⟩
  iterate 9 refine Below.setCell ?_ au _
  exact HB.out
 by_cases h1:more < 0
 ·have zh:RowKit.Hid (res=(⟨st,ow,sm,br,ma,us,ge,ep,ve⟩,false)):=uH (by rw[HA.out,if_neg];simp;omega);have d1:decide (more < 0)=true:=by simpa using h1
  clear HA;refine jr (S:=fun w'=>Below wa.heap.size wa w') (by exact iT) (fun hHeld=>?_);refine iC (gd:=none) 0 7 (.load 144 (.tmp 1)) (.agg (Ae st ow sm br ma us ge ep ve own more)) (aM 144 (.tmp 1) (w.heap.size) 144 (Ae st ow sm br ma us ge ep ve own more) _ ax underlying144 rfl ax rC) hHeld (ay ?_)
  refine mP (i:=1) 209 #[.tmp 7,.const (.i 3)] #[144,3] (some 8) (none) #[.agg (Ae st ow sm br ma us ge ep ve own more),.i 3] (aH func209) ?_;refine(hi _).mono ?_;rintro e w6 ⟨rfl,hb6⟩;refine⟨_,rfl,hHeld.trans (hb6.mono hHeld.size),fun hH2=>ay ?_⟩
  refine iC (gd:=none) 2 9 (.unOp .not 4 (.tmp 8)) ((.bool (!true))) (ng 4 (.tmp 8) true ax) hH2 (ay ?_)
  refine iC (gd:=none) 3 10 (.move (.tmp 9)) ((.bool false)) (bD (.tmp 9) (.bool false) ax) hH2 (ay ?_)
  refine tH 4 11 hH2 ?_;refine tH 5 12 hH2 ?_;refine tH 6 13 hH2 ?_;refine iC (gd:=none) 7 14 (.pick (.tmp 10) (.const (.bool true)) (.tmp 13)) ((.bool true)) (aV (.tmp 10) (.const (.bool true)) (.tmp 13) false (.bool true) ax ax) hH2 (ay ?_)
  refine iC (gd:=none) 8 15 (.move (.tmp 14)) ((.bool true)) (bD (.tmp 14) (.bool true) ax) hH2 (ay ?_)
  refine sH 9 (some 16) hH2 ?_;refine sH 10 (some 17) hH2 ?_;refine sH 11 (some 18) hH2 ?_;refine iC (gd:=none) 12 19 (.pick (.tmp 15) (.const (.bool true)) (.tmp 18)) ((.bool true)) (aV (.tmp 15) (.const (.bool true)) (.tmp 18) true (.bool true) ax ax) hH2 (ay ?_)
  refine iC (gd:=none) 13 20 (.move (.tmp 19)) ((.bool true)) (bD (.tmp 19) (.bool true) ax) hH2 (ay ?_)
  refine sH 14 (some 21) hH2 ?_;refine sH 15 (some 22) hH2 ?_;refine sH 16 (some 23) hH2 ?_;refine sH 17 (some 24) hH2 ?_;refine sH 18 (some 25) hH2 ?_;refine sH 19 (some 26) hH2 ?_;refine sH 20 (some 27) hH2 ?_;refine iC (gd:=none) 21 28 (.pick (.tmp 20) (.const (.bool true)) (.tmp 27)) ((.bool true)) (aV (.tmp 20) (.const (.bool true)) (.tmp 27) true (.bool true) ax ax) hH2 (ay ?_)
  refine iR ?_;clear l2 l10 rC;have HB:=uH (hA.trans (hH2.mono hA.size));have r2:=r2.below hH2;have r3:=r3.below hH2;have c10:=cC more ((r1.below hH2).cell 10);have q0:=cC 0 (r2.cell 0);have f0:=r2.frozen 0;have s0:=cC st (r3.cell 0);have q1:=cC 0 (r2.cell 1);have f1:=r2.frozen 1;have s1:=cC ow (r3.cell 1);have q2:=cC 0 (r2.cell 2);have f2:=r2.frozen 2;have s2:=cC sm (r3.cell 2);have q3:=cV (.bool false) (r2.cell 3);have f3:=r2.frozen 3;have s3:=cV (.bool br) (r3.cell 3);have q4:=cV (.bool false) (r2.cell 4);have f4:=r2.frozen 4;have s4:=cV (.bool ma) (r3.cell 4);have q5:=cC 0 (r2.cell 5);have f5:=r2.frozen 5;have s5:=cC us (r3.cell 5);have q6:=cC 0 (r2.cell 6);have f6:=r2.frozen 6;have s6:=cC ge (r3.cell 6);have q7:=cC 0 (r2.cell 7);have f7:=r2.frozen 7;have s7:=cC ep (r3.cell 7);have q8:=cC 0 (r2.cell 8);have f8:=r2.frozen 8;have s8:=cC ve (r3.cell 8)
  have g2:=r3.frozen 2;have R2:=uH r2;clear r2 r3 r1 hHeld hH2 hA iT hb6 hi;go_wp2_with fail;refine jK (w.heap.size+1) ((((((((((R2.out).aB 0 _).aB 1 _).aB 2 _).aB 3 _).aB 4 _).aB 5 _).aB 6 _).aB 7 _).aB 8 _) underlying57 ?_;refine⟨by rw[zh.out];simp[S.val,S.cells],?_⟩
  iterate 9 refine Below.setCell ?_ au _
  exact HB.out
 have d1:decide (more < 0)=false:=by simpa using h1
 by_cases h2:8<=more
 ·have zh:RowKit.Hid (res=(⟨st,ow,sm,br,ma,us,ge,ep,ve⟩,false)):=uH (by rw[HA.out,if_neg];simp;omega);have d2:decide (8<=more)=true:=by simpa using h2
  clear HA;refine jr (S:=fun w'=>Below wa.heap.size wa w') (by exact iT) (fun hHeld=>?_);refine iC (gd:=none) 0 7 (.load 144 (.tmp 1)) (.agg (Ae st ow sm br ma us ge ep ve own more)) (aM 144 (.tmp 1) (w.heap.size) 144 (Ae st ow sm br ma us ge ep ve own more) _ ax underlying144 rfl ax rC) hHeld (ay ?_)
  refine mP (i:=1) 209 #[.tmp 7,.const (.i 3)] #[144,3] (some 8) (none) #[.agg (Ae st ow sm br ma us ge ep ve own more),.i 3] (aH func209) ?_;refine(hi _).mono ?_;rintro e w6 ⟨rfl,hb6⟩;refine⟨_,rfl,hHeld.trans (hb6.mono hHeld.size),fun hH2=>ay ?_⟩
  refine iC (gd:=none) 2 9 (.unOp .not 4 (.tmp 8)) ((.bool (!true))) (ng 4 (.tmp 8) true ax) hH2 (ay ?_)
  refine iC (gd:=none) 3 10 (.move (.tmp 9)) ((.bool false)) (bD (.tmp 9) (.bool false) ax) hH2 (ay ?_)
  refine tH 4 11 hH2 ?_;refine tH 5 12 hH2 ?_;refine tH 6 13 hH2 ?_;refine iC (gd:=none) 7 14 (.pick (.tmp 10) (.const (.bool true)) (.tmp 13)) ((.bool false)) (aV (.tmp 10) (.const (.bool true)) (.tmp 13) false (.bool false) ax ax) hH2 (ay ?_)
  refine iC (gd:=none) 8 15 (.move (.tmp 14)) ((.bool false)) (bD (.tmp 14) (.bool false) ax) hH2 (ay ?_)
  refine tH 9 16 hH2 ?_;refine tH 10 17 hH2 ?_;refine tH 11 18 hH2 ?_;refine iC (gd:=none) 12 19 (.pick (.tmp 15) (.const (.bool true)) (.tmp 18)) ((.bool true)) (aV (.tmp 15) (.const (.bool true)) (.tmp 18) false (.bool true) ax ax) hH2 (ay ?_)
  refine iC (gd:=none) 13 20 (.move (.tmp 19)) ((.bool true)) (bD (.tmp 19) (.bool true) ax) hH2 (ay ?_)
  refine sH 14 (some 21) hH2 ?_;refine sH 15 (some 22) hH2 ?_;refine sH 16 (some 23) hH2 ?_;refine sH 17 (some 24) hH2 ?_;refine sH 18 (some 25) hH2 ?_;refine sH 19 (some 26) hH2 ?_;refine sH 20 (some 27) hH2 ?_;refine iC (gd:=none) 21 28 (.pick (.tmp 20) (.const (.bool true)) (.tmp 27)) ((.bool true)) (aV (.tmp 20) (.const (.bool true)) (.tmp 27) true (.bool true) ax ax) hH2 (ay ?_)
  refine iR ?_;clear l2 l10 rC;have HB:=uH (hA.trans (hH2.mono hA.size));have r2:=r2.below hH2;have r3:=r3.below hH2;have c10:=cC more ((r1.below hH2).cell 10);have q0:=cC 0 (r2.cell 0);have f0:=r2.frozen 0;have s0:=cC st (r3.cell 0);have q1:=cC 0 (r2.cell 1);have f1:=r2.frozen 1;have s1:=cC ow (r3.cell 1);have q2:=cC 0 (r2.cell 2);have f2:=r2.frozen 2;have s2:=cC sm (r3.cell 2);have q3:=cV (.bool false) (r2.cell 3);have f3:=r2.frozen 3;have s3:=cV (.bool br) (r3.cell 3);have q4:=cV (.bool false) (r2.cell 4);have f4:=r2.frozen 4;have s4:=cV (.bool ma) (r3.cell 4);have q5:=cC 0 (r2.cell 5);have f5:=r2.frozen 5;have s5:=cC us (r3.cell 5);have q6:=cC 0 (r2.cell 6);have f6:=r2.frozen 6;have s6:=cC ge (r3.cell 6);have q7:=cC 0 (r2.cell 7);have f7:=r2.frozen 7;have s7:=cC ep (r3.cell 7);have q8:=cC 0 (r2.cell 8);have f8:=r2.frozen 8;have s8:=cC ve (r3.cell 8)
  have g2:=r3.frozen 2;have R2:=uH r2;clear r2 r3 r1 hHeld hH2 hA iT hb6 hi;go_wp2_with fail;refine jK (w.heap.size+1) ((((((((((R2.out).aB 0 _).aB 1 _).aB 2 _).aB 3 _).aB 4 _).aB 5 _).aB 6 _).aB 7 _).aB 8 _) underlying57 ?_;refine⟨by rw[zh.out];simp[S.val,S.cells],?_⟩
  iterate 9 refine Below.setCell ?_ au _
  exact HB.out
 have d2:decide (8<=more)=false:=by simpa using h2
 obtain⟨k,rfl⟩:=Int.eq_ofNat_of_zero_le (show 0<=more by omega);have l0:(0:Int)<=(k:Int):=ag
 have hk:k < 8:=ag
 have hp1:=(o9 k hk).1;have hp2:=(o9 k hk).2;have hne:((2:Int) ^ k == 0)=false:=by simp;omega
 have hwr:IntKind.i64.wrap ((2:Int) ^ k)=2 ^ k:=by
  generalize (2:Int) ^ k=p at *;rw[IntKind.wrap_i64];omega
 have hnd:=zg sm k ⟨hs0,hs1⟩ hk;have hor:=Kw sm k ⟨hs0,hs1⟩ hk;clear h1 h2;cases hb:bT sm k
 focus
  rw[hb]at hnd;simp only[Bool.false_eq_true,if_false]at hnd;have zh:RowKit.Hid (res=(⟨st,ow,sm,br,ma,us,ge,ep,ve⟩,false)):=uH (by rw[HA.out,if_neg];simp[hb]);clear HA hb hor
 rotate_left
 focus
  rw[hb]at hnd;simp only[if_true]at hnd;have hor:=hor hb;have zh:RowKit.Hid (res=(⟨st,ow,gP sm k,br,ma,us,ge,ep,ve⟩,true)):=uH (by rw[HA.out,if_pos];rfl;simp[hb];omega);clear HA hb
 rotate_left
 all_goals
  refine jr (S:=fun w'=>Below wa.heap.size wa w') (by exact iT) (fun hHeld=>?_);refine iC (gd:=none) 0 7 (.load 144 (.tmp 1)) (.agg (Ae st ow sm br ma us ge ep ve own k)) (aM 144 (.tmp 1) (w.heap.size) 144 (Ae st ow sm br ma us ge ep ve own k) _ ax underlying144 rfl ax rC) hHeld (ay ?_)
  refine mP (i:=1) 209 #[.tmp 7,.const (.i 3)] #[144,3] (some 8) (none) #[.agg (Ae st ow sm br ma us ge ep ve own k),.i 3] (aH func209) ?_;refine(hi _).mono ?_;rintro e w6 ⟨rfl,hb6⟩;refine⟨_,rfl,hHeld.trans (hb6.mono hHeld.size),fun hH2=>ay ?_⟩
  refine iC (gd:=none) 2 9 (.unOp .not 4 (.tmp 8)) ((.bool (!true))) (ng 4 (.tmp 8) true ax) hH2 (ay ?_)
  refine iC (gd:=none) 3 10 (.move (.tmp 9)) ((.bool false)) (bD (.tmp 9) (.bool false) ax) hH2 (ay ?_)
  refine tH 4 11 hH2 ?_;refine tH 5 12 hH2 ?_;refine tH 6 13 hH2 ?_;refine iC (gd:=none) 7 14 (.pick (.tmp 10) (.const (.bool true)) (.tmp 13)) ((.bool false)) (aV (.tmp 10) (.const (.bool true)) (.tmp 13) false (.bool false) ax ax) hH2 (ay ?_)
  refine iC (gd:=none) 8 15 (.move (.tmp 14)) ((.bool false)) (bD (.tmp 14) (.bool false) ax) hH2 (ay ?_)
  refine tH 9 16 hH2 ?_;refine tH 10 17 hH2 ?_;refine tH 11 18 hH2 ?_;refine iC (gd:=none) 12 19 (.pick (.tmp 15) (.const (.bool true)) (.tmp 18)) ((.bool false)) (aV (.tmp 15) (.const (.bool true)) (.tmp 18) false (.bool false) ax ax) hH2 (ay ?_)
  refine iC (gd:=none) 13 20 (.move (.tmp 19)) ((.bool false)) (bD (.tmp 19) (.bool false) ax) hH2 (ay ?_)
  refine tH 14 21 hH2 ?_;refine tH 15 22 hH2 ?_;refine tH 16 23 hH2 ?_;refine tH 17 24 hH2 ?_;refine tH 18 25 hH2 ?_;refine tH 19 26 hH2 ?_;refine tH 20 27 hH2 ?_
 focus
  refine iC (gd:=none) 21 28 (.pick (.tmp 20) (.const (.bool true)) (.tmp 27)) ((.bool true)) (aV (.tmp 20) (.const (.bool true)) (.tmp 27) false (.bool true) ax ax) hH2 ?_
 rotate_left
 focus
  refine iC (gd:=none) 21 28 (.pick (.tmp 20) (.const (.bool true)) (.tmp 27)) ((.bool false)) (aV (.tmp 20) (.const (.bool true)) (.tmp 27) false (.bool false) ax ax) hH2 ?_
 rotate_left
 all_goals
  try simp only[Act.put,sA,sZ,sS]
  refine iR ?_;clear l2 l10 rC;have HB:=uH (hA.trans (hH2.mono hA.size));have r2:=r2.below hH2;have r3:=r3.below hH2;have c10:=cC k ((r1.below hH2).cell 10);have q0:=cC 0 (r2.cell 0);have f0:=r2.frozen 0;have s0:=cC st (r3.cell 0);have q1:=cC 0 (r2.cell 1);have f1:=r2.frozen 1;have s1:=cC ow (r3.cell 1);have q2:=cC 0 (r2.cell 2);have f2:=r2.frozen 2;have s2:=cC sm (r3.cell 2);have q3:=cV (.bool false) (r2.cell 3);have f3:=r2.frozen 3;have s3:=cV (.bool br) (r3.cell 3);have q4:=cV (.bool false) (r2.cell 4);have f4:=r2.frozen 4;have s4:=cV (.bool ma) (r3.cell 4);have q5:=cC 0 (r2.cell 5);have f5:=r2.frozen 5;have s5:=cC us (r3.cell 5);have q6:=cC 0 (r2.cell 6);have f6:=r2.frozen 6;have s6:=cC ge (r3.cell 6);have q7:=cC 0 (r2.cell 7);have f7:=r2.frozen 7;have s7:=cC ep (r3.cell 7);have q8:=cC 0 (r2.cell 8);have f8:=r2.frozen 8;have s8:=cC ve (r3.cell 8)
  have g2:=r3.frozen 2;have R2:=uH r2;clear r2 r3 r1 hHeld hH2 hA iT hb6 hi;go_wp2_with fail
 ·refine jK (w.heap.size+1) ((((((((((R2.out).aB 0 _).aB 1 _).aB 2 _).aB 3 _).aB 4 _).aB 5 _).aB 6 _).aB 7 _).aB 8 _) underlying57 ?_;refine⟨by rw[zh.out];simp[S.val,S.cells],?_⟩
  iterate 9 refine Below.setCell ?_ au _
  exact HB.out
 ·go_region;go_wp2_with fail;refine bodyPost_ret (jM rfl _ _ (w.heap.size+1) _ _ _ rfl ((((((((((setOther R2.out _ au).aB 0 _).aB 1 _).aB 2 _).aB 3 _).aB 4 _).aB 5 _).aB 6 _).aB 7 _).aB 8 _).drew underlying57 rfl ax) rfl ?_;refine⟨by rw[zh.out];simp[S.val,S.cells],?_⟩;refine Below.drew ?_
  iterate 9 refine Below.setCell ?_ au _
  exact HB.out.setCell (by simp;omega) _
end ai
end Go.Proofs.YtbklamnimfmjkaaGreatDoor
