/- Part 17 of the walks and plain laws that the last text joins. -/
import Derived.Test.YtbklamnimfmjkaaGreatDoorKB3
set_option maxRecDepth 100000
set_option maxHeartbeats 16000000
set_option linter.all false
open Go.Proofs.Tryz
namespace Go.Proofs.YtbklamnimfmjkaaGreatDoor
namespace ai
open Go.RowKit Hp Slot ah
theorem DD (w:World) (s:S) (own more:Int):Calls prog 145 #[cO s own more] w fun e w'=>e=.returned (.tuple #[({s with broken:=true}:S).val,.bool (!s.broken && (s.state == 2 || (s.state == 3 || s.state == 4)))])/\Below w.heap.size w w':=by
 have h2:=fun W=>ic W s own more 2
 have h3:=fun W=>ic W s own more 3
 have h4:=fun W=>ic W s own more 4
 generalize hb2:(s.state == 2)=b2 at *;generalize hb3:(s.state == 3)=b3 at *;generalize hb4:(s.state == 4)=b4 at *;clear hb2 hb3 hb4;obtain⟨st,ow,sm,br,ma,us,ge,ep,ve⟩:=s;simp only[cO]at h2 h3 h4;have hA:Below w.heap.size w (((w.alloc (.cells (Ae st ow sm br ma us ge ep ve own more) 144)).alloc (.cells av 57)).alloc (.cells (Aa st ow sm true ma us ge ep ve) 57)):=((bZ.alloc aQ _).alloc au _).alloc (by simp;omega) _;have hK:Kp (((w.alloc (.cells (Ae st ow sm br ma us ge ep ve own more) 144)).alloc (.cells av 57)).alloc (.cells (Aa st ow sm true ma us ge ep ve) 57)) (w.heap.size+1) (((w.alloc (.cells (Ae st ow sm br ma us ge ep ve own more) 144)).alloc (.cells av 57)).alloc (.cells (Aa st ow sm true ma us ge ep ve) 57)):=⟨aD.refl _ _,av,rfl,dW w _ _ _⟩
 have R1:af (((w.alloc (.cells (Ae st ow sm br ma us ge ep ve own more) 144)).alloc (.cells av 57)).alloc (.cells (Aa st ow sm true ma us ge ep ve) 57)) w.heap.size (Ae st ow sm br ma us ge ep ve own more) 144:=by rw[af,Below.heap_alloc _ _ _ (by simp;omega)];exact heap_alloc2_old w _ _
 have R3:af (((w.alloc (.cells (Ae st ow sm br ma us ge ep ve own more) 144)).alloc (.cells av 57)).alloc (.cells (Aa st ow sm true ma us ge ep ve) 57)) (w.heap.size+1+1) (Aa st ow sm true ma us ge ep ve) 57:=by have:=heap_alloc_new ((w.alloc (.cells (Ae st ow sm br ma us ge ep ve own more) 144)).alloc (.cells av 57)) (.cells (Aa st ow sm true ma us ge ep ve) 57);simpa [af] using this
 have rC:∀ w',Kp (((w.alloc (.cells (Ae st ow sm br ma us ge ep ve own more) 144)).alloc (.cells av 57)).alloc (.cells (Aa st ow sm true ma us ge ep ve) 57)) (w.heap.size+1) w'->af w' w.heap.size (Ae st ow sm br ma us ge ep ve own more) 144:=fun w' h=>R1.aK h.1 au
 have rS:∀ w',Kp (((w.alloc (.cells (Ae st ow sm br ma us ge ep ve own more) 144)).alloc (.cells av 57)).alloc (.cells (Aa st ow sm true ma us ge ep ve) 57)) (w.heap.size+1) w'->af w' (w.heap.size+1+1) (Aa st ow sm true ma us ge ep ve) 57:=fun w' h=>R3.aK h.1 au
 have l3:∀ w',Kp (((w.alloc (.cells (Ae st ow sm br ma us ge ep ve own more) 144)).alloc (.cells av 57)).alloc (.cells (Aa st ow sm true ma us ge ep ve) 57)) (w.heap.size+1) w'->w'.cell? ⟨w.heap.size,3,none⟩=some (.bool br):=fun w' h=>h.cell au (R1.cell 3)
 clear R1 R3
 go_enter func145,ntmps145
 go_wp2_with fail;generalize (((w.alloc (.cells (Ae st ow sm br ma us ge ep ve own more) 144)).alloc (.cells av 57)).alloc (.cells (Aa st ow sm true ma us ge ep ve) 57))=wa at *;have iT:=hK.drew;cases br
 focus
  cases b2
 focus
  cases b3
 rotate_left;rotate_left;rotate_left;rotate_left
 all_goals
  have:True:=trivial;refine jr (S:=fun w'=>Kp wa (w.heap.size+1) w') (by exact iT) (fun hHeld=>?_);refine iC (gd:=none) 0 8 (.load 57 (.tmp 4)) (.agg (Aa st ow sm true ma us ge ep ve)) (aM 57 (.tmp 4) (w.heap.size+1+1) 57 (Aa st ow sm true ma us ge ep ve) _ ax underlying57 rfl ax rS) hHeld (ay ?_)
  refine tH 1 9 hHeld ?_;refine tH 2 10 hHeld ?_;refine tH 3 11 hHeld ?_;refine tH 4 12 hHeld ?_;refine tH 5 13 hHeld ?_
 rotate_left;rotate_left;rotate_left
 ·refine sH 6 (some 14) hHeld ?_;refine sH 7 (some 15) hHeld ?_;refine sH 8 (some 16) hHeld ?_;refine sH 9 (some 17) hHeld ?_;refine sH 10 (some 18) hHeld ?_;refine sH 11 (some 19) hHeld ?_;refine sH 12 (some 20) hHeld ?_;refine sH 13 (some 21) hHeld ?_;refine sH 14 (some 22) hHeld ?_;refine sH 15 (some 23) hHeld ?_;refine iC (gd:=none) 16 24 (.pick (.tmp 13) (.tmp 23) (.const (.bool false))) ((.bool false)) (aV (.tmp 13) (.tmp 23) (.const (.bool false)) false (.bool false) ax ax) hHeld (ay ?_)
  obtain⟨nS,Z,kP,kQ⟩:=hHeld;refine dh (i:=17) ax 57 (.tmp 2) (.tmp 8) ax (w.heap.size+1) _ _ (Aa st ow sm true ma us ge ep ve) ax ax kQ kP ax ax (Kp.set ⟨nS,Z,kP,kQ⟩ ⟨st,ow,sm,true,ma,us,ge,ep,ve⟩) (fun mZ=>ay ?_)
  refine iC (gd:=none) 18 3 (.assign (.tmp 24)) ((.bool false)) (jb (.tmp 24) (.bool false) ax) mZ (ay ?_)
  refine iR ?_
  go_simp
  clear rC rS;go_wp2_with fail;refine jK (w.heap.size+1) (Kp.row ⟨nS,Z,kP,kQ⟩ ⟨st,ow,sm,true,ma,us,ge,ep,ve⟩) underlying57 ?_;exact⟨rfl,Kp.below mZ hA ag⟩
 all_goals
  refine fD (i:=6) (d:=some 14) (op:=.load 144 (.tmp 1)) (gd:=some (5,true)) (v:=.agg (Ae st ow sm false ma us ge ep ve own more)) ax ax ax ax (fun _ _ _ h=>h) ax (aM 144 (.tmp 1) (w.heap.size) 144 (Ae st ow sm false ma us ge ep ve own more) _ ax underlying144 rfl ax rC) hHeld (ay ?_)
  refine mP (i:=7) 207 #[.tmp 14,.const (.i 2)] #[144,3] (some 15) (some (5,true)) #[.agg (Ae st ow sm false ma us ge ep ve own more),.i 2] (aH func207) ?_;refine(h2 _).mono ?_;rintro e w6 ⟨rfl,hb6⟩;refine⟨_,rfl,hHeld.later hb6,fun hH2=>ay ?_⟩
 rotate_left;rotate_left
 ·refine fD (i:=8) (d:=some 16) (op:=.move (.tmp 15)) (gd:=some (5,true)) (v:=(.bool true)) ax ax ax ax (fun _ _ _ h=>h) ax (bD (.tmp 15) (.bool true) ax) hH2 (ay ?_)
  refine sH 9 (some 17) hH2 ?_;refine sH 10 (some 18) hH2 ?_;refine fD (i:=11) (d:=some 19) (op:=.pick (.tmp 16) (.const (.bool true)) (.tmp 18)) (gd:=some (5,true)) (v:=(.bool true)) ax ax ax ax (fun _ _ _ h=>h) ax (aV (.tmp 16) (.const (.bool true)) (.tmp 18) true (.bool true) ax ax) hH2 (ay ?_)
  refine fD (i:=12) (d:=some 20) (op:=.move (.tmp 19)) (gd:=some (5,true)) (v:=(.bool true)) ax ax ax ax (fun _ _ _ h=>h) ax (bD (.tmp 19) (.bool true) ax) hH2 (ay ?_)
  refine sH 13 (some 21) hH2 ?_;refine sH 14 (some 22) hH2 ?_;refine fD (i:=15) (d:=some 23) (op:=.pick (.tmp 20) (.const (.bool true)) (.tmp 22)) (gd:=some (5,true)) (v:=(.bool true)) ax ax ax ax (fun _ _ _ h=>h) ax (aV (.tmp 20) (.const (.bool true)) (.tmp 22) true (.bool true) ax ax) hH2 (ay ?_)
  refine iC (gd:=none) 16 24 (.pick (.tmp 13) (.tmp 23) (.const (.bool false))) ((.bool true)) (aV (.tmp 13) (.tmp 23) (.const (.bool false)) true (.bool true) ax ax) hH2 (ay ?_)
  obtain⟨nS,Z,kP,kQ⟩:=hH2;refine dh (i:=17) ax 57 (.tmp 2) (.tmp 8) ax (w.heap.size+1) _ _ (Aa st ow sm true ma us ge ep ve) ax ax kQ kP ax ax (Kp.set ⟨nS,Z,kP,kQ⟩ ⟨st,ow,sm,true,ma,us,ge,ep,ve⟩) (fun mZ=>ay ?_)
  refine iC (gd:=none) 18 3 (.assign (.tmp 24)) ((.bool true)) (jb (.tmp 24) (.bool true) ax) mZ (ay ?_)
  refine iR ?_
  go_simp
  clear rC rS;go_wp2_with fail;refine jK (w.heap.size+1) (Kp.row ⟨nS,Z,kP,kQ⟩ ⟨st,ow,sm,true,ma,us,ge,ep,ve⟩) underlying57 ?_;exact⟨rfl,Kp.below mZ hA ag⟩
 all_goals
  refine fD (i:=8) (d:=some 16) (op:=.move (.tmp 15)) (gd:=some (5,true)) (v:=(.bool false)) ax ax ax ax (fun _ _ _ h=>h) ax (bD (.tmp 15) (.bool false) ax) hH2 (ay ?_)
  refine fD (i:=9) (d:=some 17) (op:=.load 144 (.tmp 1)) (gd:=some (8,false)) (v:=.agg (Ae st ow sm false ma us ge ep ve own more)) ax ax ax ax (fun _ _ _ h=>h) ax (aM 144 (.tmp 1) (w.heap.size) 144 (Ae st ow sm false ma us ge ep ve own more) _ ax underlying144 rfl ax rC) hH2 (ay ?_)
  refine mP (i:=10) 207 #[.tmp 17,.const (.i 3)] #[144,3] (some 18) (some (8,false)) #[.agg (Ae st ow sm false ma us ge ep ve own more),.i 3] (aH func207) ?_;refine(h3 _).mono ?_;rintro e w6 ⟨rfl,hb6⟩;refine⟨_,rfl,hH2.later hb6,fun hH3=>ay ?_⟩
 focus
  refine fD (i:=11) (d:=some 19) (op:=.pick (.tmp 16) (.const (.bool true)) (.tmp 18)) (gd:=some (5,true)) (v:=(.bool false)) ax ax ax ax (fun _ _ _ h=>h) ax (aV (.tmp 16) (.const (.bool true)) (.tmp 18) false (.bool false) ax ax) hH3 (ay ?_)
  refine fD (i:=12) (d:=some 20) (op:=.move (.tmp 19)) (gd:=some (5,true)) (v:=(.bool false)) ax ax ax ax (fun _ _ _ h=>h) ax (bD (.tmp 19) (.bool false) ax) hH3 (ay ?_)
  refine fD (i:=13) (d:=some 21) (op:=.load 144 (.tmp 1)) (gd:=some (12,false)) (v:=.agg (Ae st ow sm false ma us ge ep ve own more)) ax ax ax ax (fun _ _ _ h=>h) ax (aM 144 (.tmp 1) (w.heap.size) 144 (Ae st ow sm false ma us ge ep ve own more) _ ax underlying144 rfl ax rC) hH3 (ay ?_)
  refine mP (i:=14) 207 #[.tmp 21,.const (.i 4)] #[144,3] (some 22) (some (12,false)) #[.agg (Ae st ow sm false ma us ge ep ve own more),.i 4] (aH func207) ?_;refine(h4 _).mono ?_;rintro e w6 ⟨rfl,hb6⟩;refine⟨_,rfl,hH3.later hb6,fun YS=>ay ?_⟩
  refine fD (i:=15) (d:=some 23) (op:=.pick (.tmp 20) (.const (.bool true)) (.tmp 22)) (gd:=some (5,true)) (v:=(.bool b4)) ax ax ax ax (fun _ _ _ h=>h) ax (aV (.tmp 20) (.const (.bool true)) (.tmp 22) false (.bool b4) ax ax) YS (ay ?_)
  refine iC (gd:=none) 16 24 (.pick (.tmp 13) (.tmp 23) (.const (.bool false))) ((.bool b4)) (aV (.tmp 13) (.tmp 23) (.const (.bool false)) true (.bool b4) ax ax) YS (ay ?_)
  obtain⟨nS,Z,kP,kQ⟩:=YS
 rotate_left
 focus
  refine fD (i:=11) (d:=some 19) (op:=.pick (.tmp 16) (.const (.bool true)) (.tmp 18)) (gd:=some (5,true)) (v:=(.bool true)) ax ax ax ax (fun _ _ _ h=>h) ax (aV (.tmp 16) (.const (.bool true)) (.tmp 18) false (.bool true) ax ax) hH3 (ay ?_)
  refine fD (i:=12) (d:=some 20) (op:=.move (.tmp 19)) (gd:=some (5,true)) (v:=(.bool true)) ax ax ax ax (fun _ _ _ h=>h) ax (bD (.tmp 19) (.bool true) ax) hH3 (ay ?_)
  refine sH 13 (some 21) hH3 ?_;refine sH 14 (some 22) hH3 ?_;refine fD (i:=15) (d:=some 23) (op:=.pick (.tmp 20) (.const (.bool true)) (.tmp 22)) (gd:=some (5,true)) (v:=(.bool true)) ax ax ax ax (fun _ _ _ h=>h) ax (aV (.tmp 20) (.const (.bool true)) (.tmp 22) true (.bool true) ax ax) hH3 (ay ?_)
  refine iC (gd:=none) 16 24 (.pick (.tmp 13) (.tmp 23) (.const (.bool false))) ((.bool true)) (aV (.tmp 13) (.tmp 23) (.const (.bool false)) true (.bool true) ax ax) hH3 (ay ?_)
  obtain⟨nS,Z,kP,kQ⟩:=hH3
 rotate_left
 all_goals
  refine dh (i:=17) ax 57 (.tmp 2) (.tmp 8) ax (w.heap.size+1) _ _ (Aa st ow sm true ma us ge ep ve) ax ax kQ kP ax ax (Kp.set ⟨nS,Z,kP,kQ⟩ ⟨st,ow,sm,true,ma,us,ge,ep,ve⟩) (fun mZ=>ay ?_)
 focus
  refine iC (gd:=none) 18 3 (.assign (.tmp 24)) ((.bool b4)) (jb (.tmp 24) (.bool b4) ax) mZ ?_
 rotate_left
 focus
  refine iC (gd:=none) 18 3 (.assign (.tmp 24)) ((.bool true)) (jb (.tmp 24) (.bool true) ax) mZ ?_
 rotate_left
 all_goals
  try simp only[Act.put,sA,sZ,sS]
  refine iR ?_
  go_simp
  clear rC rS;go_wp2_with fail;refine jK (w.heap.size+1) (Kp.row ⟨nS,Z,kP,kQ⟩ ⟨st,ow,sm,true,ma,us,ge,ep,ve⟩) underlying57 ?_;exact⟨rfl,Kp.below mZ hA ag⟩
end ai
end Go.Proofs.YtbklamnimfmjkaaGreatDoor
