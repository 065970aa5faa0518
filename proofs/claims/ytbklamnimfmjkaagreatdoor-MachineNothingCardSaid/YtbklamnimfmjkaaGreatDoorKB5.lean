/- Part 5 of the walks and plain laws that the last text joins. -/
import Derived.Test.YtbklamnimfmjkaaGreatDoorKB3
set_option maxRecDepth 100000
set_option maxHeartbeats 16000000
set_option linter.all false
open Go.Proofs.Tryz
namespace Go.Proofs.YtbklamnimfmjkaaGreatDoor
namespace ai
open Go.RowKit Hp Slot ah
theorem DI (w:World) (s:S) (own more:Int):Calls prog 143 #[cO s own more] w fun e w'=>e=.returned (.tuple #[S.val {toK s own 6 with aJ:=more},.bool (decide (0<=more/\more<=4095) && (s.state == 2 || s.state == 3))])/\Below w.heap.size w w':=by
 have ht:=fun W=>yA W s own more
 have hi0:=fun W=>ic W s own more 2
 have hi1:=fun W=>ic W s own more 3
 generalize ({toK s own 6 with aJ:=more}:S)=r at *;generalize decide (0<=more/\more<=4095)=b at *;generalize (s.state == 2)=b0 at *;generalize (s.state == 3)=b1 at *;obtain⟨st,ow,sm,br,ma,us,ge,ep,ve⟩:=s;simp only[cO]at ht hi0 hi1;have hA:Below w.heap.size w ((w.alloc (.cells (Ae st ow sm br ma us ge ep ve own more) 144)).alloc (.cells av 57)):=(bZ.alloc aQ _).alloc au _
 go_enter func143,ntmps143
 simp only[cO];go_wp2_with fail;refine(ht _).mono ?_;rintro e w5 ⟨rfl,hb5⟩;have hB:Below w.heap.size w w5:=hA.trans (hb5.mono (by simp;omega));have hr:af w5 (w.heap.size+1) av 57:=af.below (heap_alloc2_new w _ _) hb5;have R1:af w5 w.heap.size (Ae st ow sm br ma us ge ep ve own more) 144:=af.below (heap_alloc2_old w _ _) hb5;have hne:w.heap.size+1 < w5.heap.size:=af.lt hr;clear ht hb5 hA;dsimp only;go_step;refine gl (.tuple #[r.val,.bool b]) ?_;refine gl r.val ?_;refine gl (.bool b) ?_;refine dU (ob:=.cells av 57) (Z:=av) (cs:=r.cells) (t:=57) 57 (.tmp 4) (.tmp 9) rfl ?_;refine gl (.bool b) (ay ?_)
 rw[aG];have hA2:Below w.heap.size w (w5.alloc (.cells r.cells 57)):=hB.alloc hB.size _;have hK:Kp (w5.alloc (.cells r.cells 57)) (w.heap.size+1) (w5.alloc (.cells r.cells 57)):=⟨aD.refl _ _,av,rfl,af.below hr (bZ.alloc aQ _)⟩
 have R3:af (w5.alloc (.cells r.cells 57)) w5.heap.size r.cells 57:=heap_alloc_new w5 _;have VC:af (w5.alloc (.cells r.cells 57)) w.heap.size (Ae st ow sm br ma us ge ep ve own more) 144:=af.below R1 (bZ.alloc aQ _);clear hr hB R1;generalize (w5.alloc (.cells r.cells 57))=wa at *;generalize w5.heap.size=tb at *;obtain⟨st',iN,sm',iO,iP,us',iB,lH,iQ⟩:=r;simp only[S.val,S.cells];have rC:∀ w',Kp wa (w.heap.size+1) w'->af w' w.heap.size (Ae st ow sm br ma us ge ep ve own more) 144:=fun w' h=>VC.aK h.1 au
 have rS:∀ w',Kp wa (w.heap.size+1) w'->af w' tb (Aa st' iN sm' iO iP us' iB lH iQ) 57:=fun w' h=>R3.aK h.1 ag
 have iT:=hK.drew;clear VC R3;cases b
 ·have:True:=trivial;go_wp2_with fail;refine jr (S:=fun w'=>Kp wa (w.heap.size+1) w') (by exact iT) (fun hHeld=>?_);refine iC (gd:=none) 0 11 (.load 57 (.tmp 4)) (.agg (Aa st' iN sm' iO iP us' iB lH iQ)) (aM 57 (.tmp 4) (tb) 57 (Aa st' iN sm' iO iP us' iB lH iQ) _ ax underlying57 rfl ax rS) hHeld (ay ?_)
  refine tH 1 12 hHeld ?_;refine tH 2 13 hHeld ?_;refine sH 3 (some 14) hHeld ?_;refine sH 4 (some 15) hHeld ?_;refine sH 5 (some 16) hHeld ?_;refine sH 6 (some 17) hHeld ?_;refine sH 7 (some 18) hHeld ?_;refine sH 8 (some 19) hHeld ?_;refine tH 9 20 hHeld ?_;obtain⟨nS,Z,kP,kQ⟩:=hHeld;refine Vq 10 kQ (Aa st' iN sm' iO iP us' iB lH iQ) 57 (.tmp 2) (.tmp 11) (Kp.set ⟨nS,Z,kP,kQ⟩ ⟨st',iN,sm',iO,iP,us',iB,lH,iQ⟩) ?_ (hsz:=kP)
  try simp only[Act.put,sA,sZ,sS]
  have QF:Kp wa (w.heap.size+1) _:=Kp.set ⟨nS,Z,kP,kQ⟩ ⟨st',iN,sm',iO,iP,us',iB,lH,iQ⟩;refine tH 11 3 QF ?_;refine iR ?_
  go_simp
  go_wp2_with fail;refine jK (w.heap.size+1) (Kp.row ⟨nS,Z,kP,kQ⟩ ⟨st',iN,sm',iO,iP,us',iB,lH,iQ⟩) underlying57 ?_;exact⟨rfl,QF.below hA2 ag⟩
 cases b0
 all_goals
  have:True:=trivial;go_wp2_with fail;refine jr (S:=fun w'=>Kp wa (w.heap.size+1) w') (by exact iT) (fun hHeld=>?_);refine iC (gd:=none) 0 11 (.load 57 (.tmp 4)) (.agg (Aa st' iN sm' iO iP us' iB lH iQ)) (aM 57 (.tmp 4) (tb) 57 (Aa st' iN sm' iO iP us' iB lH iQ) _ ax underlying57 rfl ax rS) hHeld (ay ?_)
  refine tH 1 12 hHeld ?_;refine tH 2 13 hHeld ?_;refine iC (gd:=(some (2,true))) 3 14 (.load 144 (.tmp 1)) (.agg (Ae st ow sm br ma us ge ep ve own more)) (aM 144 (.tmp 1) (w.heap.size) 144 (Ae st ow sm br ma us ge ep ve own more) _ ax underlying144 rfl ax rC) hHeld (ay ?_)
  refine mP (i:=4) 207 #[.tmp 14,.const (.i 2)] #[144,3] (some 15) (some (2,true)) #[.agg (Ae st ow sm br ma us ge ep ve own more),.i 2] (aH func207) ?_;refine(hi0 _).mono ?_;rintro e w6 ⟨rfl,hb6⟩;refine⟨_,rfl,hHeld.later hb6,fun kF=>ay ?_⟩
  refine tH 5 16 kF ?_
 focus
  refine iC (gd:=(some (5,false))) 6 17 (.load 144 (.tmp 1)) (.agg (Ae st ow sm br ma us ge ep ve own more)) (aM 144 (.tmp 1) (w.heap.size) 144 (Ae st ow sm br ma us ge ep ve own more) _ ax underlying144 rfl ax rC) kF (ay ?_)
  refine mP (i:=7) 207 #[.tmp 17,.const (.i 3)] #[144,3] (some 18) (some (5,false)) #[.agg (Ae st ow sm br ma us ge ep ve own more),.i 3] (aH func207) ?_;refine(hi1 _).mono ?_;rintro e w7 ⟨rfl,cB⟩;refine⟨_,rfl,kF.later cB,fun fU=>ay ?_⟩
  refine tH 8 19 fU ?_;refine tH 9 20 fU ?_;obtain⟨nS,Z,kP,kQ⟩:=fU
 rotate_left
 focus
  refine sH 6 (some 17) kF ?_;refine sH 7 (some 18) kF ?_;refine tH 8 19 kF ?_;refine tH 9 20 kF ?_;obtain⟨nS,Z,kP,kQ⟩:=kF
 rotate_left
 all_goals
  refine Vq 10 kQ (Aa st' iN sm' iO iP us' iB lH iQ) 57 (.tmp 2) (.tmp 11) (Kp.set ⟨nS,Z,kP,kQ⟩ ⟨st',iN,sm',iO,iP,us',iB,lH,iQ⟩) ?_ (hsz:=kP)
  try simp only[Act.put,sA,sZ,sS]
  have QF:Kp wa (w.heap.size+1) _:=Kp.set ⟨nS,Z,kP,kQ⟩ ⟨st',iN,sm',iO,iP,us',iB,lH,iQ⟩;refine tH 11 3 QF ?_;refine iR ?_
  go_simp
  go_wp2_with fail;refine jK (w.heap.size+1) (Kp.row ⟨nS,Z,kP,kQ⟩ ⟨st',iN,sm',iO,iP,us',iB,lH,iQ⟩) underlying57 ?_;exact⟨rfl,QF.below hA2 ag⟩
theorem N8 (w:World) (s:S) (own more:Int):Calls prog 149 #[cO s own more] w fun e w'=>e=.returned (.tuple #[S.val {toK s own 6 with aJ:=more},.bool (decide (0<=more/\more<=4095) && s.state == 6)])/\Below w.heap.size w w':=by
 have ht:=fun W=>yA W s own more
 have hi0:=fun W=>ic W s own more 6
 generalize ({toK s own 6 with aJ:=more}:S)=r at *;generalize decide (0<=more/\more<=4095)=b at *;generalize (s.state == 6)=b0 at *;obtain⟨st,ow,sm,br,ma,us,ge,ep,ve⟩:=s;simp only[cO]at ht hi0;have hA:Below w.heap.size w ((w.alloc (.cells (Ae st ow sm br ma us ge ep ve own more) 144)).alloc (.cells av 57)):=(bZ.alloc aQ _).alloc au _
 go_enter func149,ntmps149
 simp only[cO];go_wp2_with fail;refine(ht _).mono ?_;rintro e w5 ⟨rfl,hb5⟩;have hB:Below w.heap.size w w5:=hA.trans (hb5.mono (by simp;omega));have hr:af w5 (w.heap.size+1) av 57:=af.below (heap_alloc2_new w _ _) hb5;have R1:af w5 w.heap.size (Ae st ow sm br ma us ge ep ve own more) 144:=af.below (heap_alloc2_old w _ _) hb5;have hne:w.heap.size+1 < w5.heap.size:=af.lt hr;clear ht hb5 hA;dsimp only;go_step;refine gl (.tuple #[r.val,.bool b]) ?_;refine gl r.val ?_;refine gl (.bool b) ?_;refine dU (ob:=.cells av 57) (Z:=av) (cs:=r.cells) (t:=57) 57 (.tmp 4) (.tmp 9) rfl ?_;refine gl (.bool b) (ay ?_)
 rw[aG];have hA2:Below w.heap.size w (w5.alloc (.cells r.cells 57)):=hB.alloc hB.size _;have hK:Kp (w5.alloc (.cells r.cells 57)) (w.heap.size+1) (w5.alloc (.cells r.cells 57)):=⟨aD.refl _ _,av,rfl,af.below hr (bZ.alloc aQ _)⟩
 have R3:af (w5.alloc (.cells r.cells 57)) w5.heap.size r.cells 57:=heap_alloc_new w5 _;have VC:af (w5.alloc (.cells r.cells 57)) w.heap.size (Ae st ow sm br ma us ge ep ve own more) 144:=af.below R1 (bZ.alloc aQ _);clear hr hB R1;generalize (w5.alloc (.cells r.cells 57))=wa at *;generalize w5.heap.size=tb at *;obtain⟨st',iN,sm',iO,iP,us',iB,lH,iQ⟩:=r;simp only[S.val,S.cells];have rC:∀ w',Kp wa (w.heap.size+1) w'->af w' w.heap.size (Ae st ow sm br ma us ge ep ve own more) 144:=fun w' h=>VC.aK h.1 au
 have rS:∀ w',Kp wa (w.heap.size+1) w'->af w' tb (Aa st' iN sm' iO iP us' iB lH iQ) 57:=fun w' h=>R3.aK h.1 ag
 have iT:=hK.drew;clear VC R3;cases b
 all_goals
  have:True:=trivial;go_wp2_with fail;refine jr (S:=fun w'=>Kp wa (w.heap.size+1) w') (by exact iT) (fun hHeld=>?_);refine iC (gd:=none) 0 11 (.load 57 (.tmp 4)) (.agg (Aa st' iN sm' iO iP us' iB lH iQ)) (aM 57 (.tmp 4) (tb) 57 (Aa st' iN sm' iO iP us' iB lH iQ) _ ax underlying57 rfl ax rS) hHeld (ay ?_)
  refine tH 1 12 hHeld ?_;refine tH 2 13 hHeld ?_
 focus
  refine sH 3 (some 14) hHeld ?_;refine sH 4 (some 15) hHeld ?_;refine tH 5 16 hHeld ?_;obtain⟨nS,Z,kP,kQ⟩:=hHeld
 rotate_left
 focus
  refine iC (gd:=(some (2,true))) 3 14 (.load 144 (.tmp 1)) (.agg (Ae st ow sm br ma us ge ep ve own more)) (aM 144 (.tmp 1) (w.heap.size) 144 (Ae st ow sm br ma us ge ep ve own more) _ ax underlying144 rfl ax rC) hHeld (ay ?_)
  refine mP (i:=4) 207 #[.tmp 14,.const (.i 6)] #[144,3] (some 15) (some (2,true)) #[.agg (Ae st ow sm br ma us ge ep ve own more),.i 6] (aH func207) ?_;refine(hi0 _).mono ?_;rintro e w6 ⟨rfl,hb6⟩;refine⟨_,rfl,hHeld.later hb6,fun kF=>ay ?_⟩
  refine tH 5 16 kF ?_;obtain⟨nS,Z,kP,kQ⟩:=kF
 rotate_left
 all_goals
  refine Vq 6 kQ (Aa st' iN sm' iO iP us' iB lH iQ) 57 (.tmp 2) (.tmp 11) (Kp.set ⟨nS,Z,kP,kQ⟩ ⟨st',iN,sm',iO,iP,us',iB,lH,iQ⟩) ?_ (hsz:=kP)
  try simp only[Act.put,sA,sZ,sS]
  have QF:Kp wa (w.heap.size+1) _:=Kp.set ⟨nS,Z,kP,kQ⟩ ⟨st',iN,sm',iO,iP,us',iB,lH,iQ⟩;refine tH 7 3 QF ?_;refine iR ?_
  go_simp
  go_wp2_with fail;refine jK (w.heap.size+1) (Kp.row ⟨nS,Z,kP,kQ⟩ ⟨st',iN,sm',iO,iP,us',iB,lH,iQ⟩) underlying57 ?_;exact⟨rfl,QF.below hA2 ag⟩
end ai
end Go.Proofs.YtbklamnimfmjkaaGreatDoor
