/- Part 3 of the walks and plain laws that the last text joins. -/
import Derived.Test.YtbklamnimfmjkaaGreatDoorKB2
import Derived.Deep.RegionWith
set_option maxRecDepth 100000
set_option maxHeartbeats 16000000
set_option linter.all false
open Go.Proofs.Tryz
namespace Go.Proofs.YtbklamnimfmjkaaGreatDoor
namespace ai
open Go.RowKit Hp Slot ah
abbrev av:Array Value:=Zs
def Kp (wa:World) (rb:Nat) (w':World):Prop:=aD (fun k=>k=rb) wa w'/\∃ Z:Array Value,Z.size=9/\af w' rb Z 57
variable {wa w:World} {rb:Nat}
theorem Kp.later {w':World} (h:Kp wa rb w) (hb:Below w.heap.size w w'):Kp wa rb w':=by
 obtain⟨h1,Z,h2,h3⟩:=h;exact⟨h1.trans (aD.aF (F:=fun k=>k=rb) hb) (fun _ _ h=>h),Z,h2,h3.below hb⟩
theorem Kp.drew (h:Kp wa rb w):Kp wa rb w.drew:=by
 obtain⟨h1,Z,h2,h3⟩:=h;exact⟨h1.drew,Z,h2,h3⟩
theorem Kp.set (h:Kp wa rb w) (r:S):Kp wa rb (w.setRow rb r.cells):=by
 obtain⟨h1,Z,h2,h3⟩:=h;exact⟨mY h1 _ _ (fun _=>rfl),_,rfl,h3.set _⟩
theorem Kp.cell (h:Kp wa rb w) {p:Addr} {v:Value} (hp:p.block≠rb) (hc:wa.cell? p=some v):w.cell? p=some v:=(h.1.cell (dN hc) hp).trans hc
theorem Kp.store (h:Kp wa rb w) (r:S):(storeCells ⟨rb,0,none⟩ r.cells.toList 0).run prog w=.ok () (w.setRow rb r.cells):=by
 obtain⟨h1,Z,h2,h3⟩:=h;have h4:=run_storeCells_from (P:=prog) rb 57 r.cells.toList 0 Z w h3 (by simp[S.cells,h2]) (fun v hv=>by simp[S.cells]at hv;rcases hv with rfl | rfl | rfl | rfl | rfl | rfl | rfl | rfl | rfl<;>rfl)
 simpa using h4
theorem Kp.below {w':World} (h:Kp wa rb w') (hA:Below w.heap.size w wa) (hr:w.heap.size<=rb):Below w.heap.size w w':=hA.trans (h.1.below hA.size fun k e=>ag)
theorem Kp.row (h:Kp wa rb w) (r:S):af (w.setRow rb r.cells) rb r.cells 57:=by
 obtain⟨h1,Z,h2,h3⟩:=h;exact h3.set _
theorem boxes (w:World) (st ow sm:Int) (br ma:Bool) (us ge ep ve own more:Int) (r:S):Below w.heap.size w ((w.alloc (.cells (Ae st ow sm br ma us ge ep ve own more) 144)).alloc (.cells av 57))/\Kp ((w.alloc (.cells (Ae st ow sm br ma us ge ep ve own more) 144)).alloc (.cells av 57)) (w.heap.size+1) ((w.alloc (.cells (Ae st ow sm br ma us ge ep ve own more) 144)).alloc (.cells av 57))/\
  ∀ w',Kp ((w.alloc (.cells (Ae st ow sm br ma us ge ep ve own more) 144)).alloc (.cells av 57)) (w.heap.size+1) w'->(w'.cell? ⟨w.heap.size,0,none⟩=some (.i st)/\w'.cell? ⟨w.heap.size,1,none⟩=some (.i ow)/\w'.cell? ⟨w.heap.size,2,none⟩=some (.i sm)/\w'.cell? ⟨w.heap.size,3,none⟩=some (.bool br)/\w'.cell? ⟨w.heap.size,4,none⟩=some (.bool ma)/\w'.cell? ⟨w.heap.size,5,none⟩=some (.i us)/\w'.cell? ⟨w.heap.size,6,none⟩=some (.i ge)/\w'.cell? ⟨w.heap.size,7,none⟩=some (.i ep)/\w'.cell? ⟨w.heap.size,8,none⟩=some (.i ve)/\w'.cell? ⟨w.heap.size,9,none⟩=some (.i own)/\w'.cell? ⟨w.heap.size,10,none⟩=some (.i more))/\(storeCells ⟨w.heap.size+1,0,none⟩ r.cells.toList 0).run prog w'=.ok () (w'.setRow (w.heap.size+1) r.cells):=by
 refine⟨(bZ.alloc aQ _).alloc au _,⟨aD.refl _ _,av,rfl,heap_alloc2_new w _ _⟩,fun w' h=>⟨?_,h.store r⟩⟩;refine⟨h.cell au au,h.cell au au,h.cell au au,h.cell au au,h.cell au au,h.cell au au,h.cell au au,h.cell au au,h.cell au au,h.cell au au,h.cell au au⟩
theorem Kl (w:World) (s:S) (own more:Int):Calls prog 132 #[cO s own more] w fun e w'=>e=.returned (.tuple #[(toK s own 1).val,.bool (s.state == 0)])/\Below w.heap.size w w':=by
 have ht:=fun W=>jB W s own more 1 au
 have hi:=fun W=>ic W s own more 0
 generalize hr:toK s own 1=r at *;generalize hb:(s.state == 0)=b at *;clear hr hb;obtain⟨st,ow,sm,br,ma,us,ge,ep,ve⟩:=s;simp only[cO]at ht hi;obtain⟨hA,hK,hL⟩:=boxes w st ow sm br ma us ge ep ve own more r;have hsz:r.cells.size=9:=rfl
 go_enter func132,ntmps132
 go_wp2_with fail;generalize ((w.alloc (.cells (Ae st ow sm br ma us ge ep ve own more) 144)).alloc (.cells av 57))=wa at *;have iT:=hK.drew
 go_region_held3 (fun w'=>Kp wa (w.heap.size+1) w') (first | assumption | exact Kp.set aI r)
  ((first
  | (go_at_call 206;refine(ht _).mono ?_;rintro e w5 ⟨rfl,hb5⟩;have sV:=iT.later hb5)
  | (go_at_call 207;refine(hi _).mono ?_;rintro e w6 ⟨rfl,hb6⟩;have kT:=sV.later hb6)))
 clear hL ht hi hsz;go_wp2_with fail;refine jK (w.heap.size+1) (kT.row r) underlying57 ?_;exact⟨rfl,(kT.set r).below hA ag⟩
theorem Sc (w:World) (s:S) (own more:Int) (hu:0<=s.uses/\s.uses<=63) (hg:0<=s.gen/\s.gen<=4095):Calls prog 133 #[cO s own more] w fun e w'=>e=.returned (.tuple #[(eu s own).val,.bool (s.state == 1 && s.own == own)])/\Below w.heap.size w w':=by
 have ht:=fun W=>pY W s own more hu hg
 have hi:=fun W=>kD W s own more 1
 generalize hr:eu s own=r at *;generalize hb:(s.state == 1 && s.own == own)=b at *;clear hr hb hu hg;obtain⟨st,ow,sm,br,ma,us,ge,ep,ve⟩:=s;simp only[cO]at ht hi;obtain⟨hA,hK,hL⟩:=boxes w st ow sm br ma us ge ep ve own more r;have hsz:r.cells.size=9:=rfl
 go_enter func133,ntmps133
 go_wp2_with fail;generalize ((w.alloc (.cells (Ae st ow sm br ma us ge ep ve own more) 144)).alloc (.cells av 57))=wa at *;have iT:=hK.drew
 go_region_held3 (fun w'=>Kp wa (w.heap.size+1) w') (first | assumption | exact Kp.set aI r)
  ((first
  | (go_at_call 208;refine(ht _).mono ?_;rintro e w5 ⟨rfl,hb5⟩;have sV:=iT.later hb5)
  | (go_at_call 209;refine(hi _).mono ?_;rintro e w6 ⟨rfl,hb6⟩;have kT:=sV.later hb6)))
 clear hL ht hi hsz;go_wp2_with fail;refine jK (w.heap.size+1) (kT.row r) underlying57 ?_;exact⟨rfl,(kT.set r).below hA ag⟩
theorem Km (w:World) (s:S) (own more:Int):Calls prog 134 #[cO s own more] w fun e w'=>e=.returned (.tuple #[(toK s own 0).val,.bool (s.state == 1 && s.own == own)])/\Below w.heap.size w w':=by
 have ht:=fun W=>jB W s own more 0 au
 have hi:=fun W=>kD W s own more 1
 generalize hr:toK s own 0=r at *;generalize hb:(s.state == 1 && s.own == own)=b at *;clear hr hb;obtain⟨st,ow,sm,br,ma,us,ge,ep,ve⟩:=s;simp only[cO]at ht hi;obtain⟨hA,hK,hL⟩:=boxes w st ow sm br ma us ge ep ve own more r;have hsz:r.cells.size=9:=rfl
 go_enter func134,ntmps134
 go_wp2_with fail;generalize ((w.alloc (.cells (Ae st ow sm br ma us ge ep ve own more) 144)).alloc (.cells av 57))=wa at *;have iT:=hK.drew
 go_region_held3 (fun w'=>Kp wa (w.heap.size+1) w') (first | assumption | exact Kp.set aI r)
  ((first
  | (go_at_call 206;refine(ht _).mono ?_;rintro e w5 ⟨rfl,hb5⟩;have sV:=iT.later hb5)
  | (go_at_call 209;refine(hi _).mono ?_;rintro e w6 ⟨rfl,hb6⟩;have kT:=sV.later hb6)))
 clear hL ht hi hsz;go_wp2_with fail;refine jK (w.heap.size+1) (kT.row r) underlying57 ?_;exact⟨rfl,(kT.set r).below hA ag⟩
theorem sU (w:World) (s:S) (own more:Int) (hu:0<=s.uses/\s.uses<=63) (hg:0<=s.gen/\s.gen<=4095):Calls prog 135 #[cO s own more] w fun e w'=>e=.returned (.tuple #[(eu s own).val,.bool (s.state == 2 && !s.broken)])/\Below w.heap.size w w':=by
 have ht:=fun W=>pY W s own more hu hg
 have hi:=fun W=>jQ W s own more
 generalize hr:eu s own=r at *;generalize hb:(s.state == 2 && !s.broken)=b at *;clear hr hb hu hg;obtain⟨st,ow,sm,br,ma,us,ge,ep,ve⟩:=s;simp only[cO]at ht hi;obtain⟨hA,hK,hL⟩:=boxes w st ow sm br ma us ge ep ve own more r;have hsz:r.cells.size=9:=rfl
 go_enter func135,ntmps135
 go_wp2_with fail;generalize ((w.alloc (.cells (Ae st ow sm br ma us ge ep ve own more) 144)).alloc (.cells av 57))=wa at *;have iT:=hK.drew
 go_region_held3 (fun w'=>Kp wa (w.heap.size+1) w') (first | assumption | exact Kp.set aI r)
  ((first
  | (go_at_call 208;refine(ht _).mono ?_;rintro e w5 ⟨rfl,hb5⟩;have sV:=iT.later hb5)
  | (go_at_call 210;refine(hi _).mono ?_;rintro e w6 ⟨rfl,hb6⟩;have kT:=sV.later hb6)))
 clear hL ht hi hsz;go_wp2_with fail;refine jK (w.heap.size+1) (kT.row r) underlying57 ?_;exact⟨rfl,(kT.set r).below hA ag⟩
theorem Kn (w:World) (s:S) (own more:Int):Calls prog 137 #[cO s own more] w fun e w'=>e=.returned (.tuple #[(toK s own 4).val,.bool (s.state == 2 && !s.broken)])/\Below w.heap.size w w':=by
 have ht:=fun W=>jB W s own more 4 au
 have hi:=fun W=>jQ W s own more
 generalize hr:toK s own 4=r at *;generalize hb:(s.state == 2 && !s.broken)=b at *;clear hr hb;obtain⟨st,ow,sm,br,ma,us,ge,ep,ve⟩:=s;simp only[cO]at ht hi;obtain⟨hA,hK,hL⟩:=boxes w st ow sm br ma us ge ep ve own more r;have hsz:r.cells.size=9:=rfl
 go_enter func137,ntmps137
 go_wp2_with fail;generalize ((w.alloc (.cells (Ae st ow sm br ma us ge ep ve own more) 144)).alloc (.cells av 57))=wa at *;have iT:=hK.drew
 go_region_held3 (fun w'=>Kp wa (w.heap.size+1) w') (first | assumption | exact Kp.set aI r)
  ((first
  | (go_at_call 206;refine(ht _).mono ?_;rintro e w5 ⟨rfl,hb5⟩;have sV:=iT.later hb5)
  | (go_at_call 210;refine(hi _).mono ?_;rintro e w6 ⟨rfl,hb6⟩;have kT:=sV.later hb6)))
 clear hL ht hi hsz;go_wp2_with fail;refine jK (w.heap.size+1) (kT.row r) underlying57 ?_;exact⟨rfl,(kT.set r).below hA ag⟩
theorem Dz (w:World) (s:S) (own more:Int):Calls prog 138 #[cO s own more] w fun e w'=>e=.returned (.tuple #[(toK s own 2).val,.bool (s.state == 4)])/\Below w.heap.size w w':=by
 have ht:=fun W=>jB W s own more 2 au
 have hi:=fun W=>ic W s own more 4
 generalize hr:toK s own 2=r at *;generalize hb:(s.state == 4)=b at *;clear hr hb;obtain⟨st,ow,sm,br,ma,us,ge,ep,ve⟩:=s;simp only[cO]at ht hi;obtain⟨hA,hK,hL⟩:=boxes w st ow sm br ma us ge ep ve own more r;have hsz:r.cells.size=9:=rfl
 go_enter func138,ntmps138
 go_wp2_with fail;generalize ((w.alloc (.cells (Ae st ow sm br ma us ge ep ve own more) 144)).alloc (.cells av 57))=wa at *;have iT:=hK.drew
 go_region_held3 (fun w'=>Kp wa (w.heap.size+1) w') (first | assumption | exact Kp.set aI r)
  ((first
  | (go_at_call 206;refine(ht _).mono ?_;rintro e w5 ⟨rfl,hb5⟩;have sV:=iT.later hb5)
  | (go_at_call 207;refine(hi _).mono ?_;rintro e w6 ⟨rfl,hb6⟩;have kT:=sV.later hb6)))
 clear hL ht hi hsz;go_wp2_with fail;refine jK (w.heap.size+1) (kT.row r) underlying57 ?_;exact⟨rfl,(kT.set r).below hA ag⟩
theorem Ko (w:World) (s:S) (own more:Int):Calls prog 139 #[cO s own more] w fun e w'=>e=.returned (.tuple #[(toK s own 5).val,.bool (s.state == 0)])/\Below w.heap.size w w':=by
 have ht:=fun W=>jB W s own more 5 au
 have hi:=fun W=>ic W s own more 0
 generalize hr:toK s own 5=r at *;generalize hb:(s.state == 0)=b at *;clear hr hb;obtain⟨st,ow,sm,br,ma,us,ge,ep,ve⟩:=s;simp only[cO]at ht hi;obtain⟨hA,hK,hL⟩:=boxes w st ow sm br ma us ge ep ve own more r;have hsz:r.cells.size=9:=rfl
 go_enter func139,ntmps139
 go_wp2_with fail;generalize ((w.alloc (.cells (Ae st ow sm br ma us ge ep ve own more) 144)).alloc (.cells av 57))=wa at *;have iT:=hK.drew
 go_region_held3 (fun w'=>Kp wa (w.heap.size+1) w') (first | assumption | exact Kp.set aI r)
  ((first
  | (go_at_call 206;refine(ht _).mono ?_;rintro e w5 ⟨rfl,hb5⟩;have sV:=iT.later hb5)
  | (go_at_call 207;refine(hi _).mono ?_;rintro e w6 ⟨rfl,hb6⟩;have kT:=sV.later hb6)))
 clear hL ht hi hsz;go_wp2_with fail;refine jK (w.heap.size+1) (kT.row r) underlying57 ?_;exact⟨rfl,(kT.set r).below hA ag⟩
theorem DC (w:World) (s:S) (own more:Int):Calls prog 140 #[cO s own more] w fun e w'=>e=.returned (.tuple #[(toK s own 0).val,.bool (s.state == 5)])/\Below w.heap.size w w':=by
 have ht:=fun W=>jB W s own more 0 au
 have hi:=fun W=>ic W s own more 5
 generalize hr:toK s own 0=r at *;generalize hb:(s.state == 5)=b at *;clear hr hb;obtain⟨st,ow,sm,br,ma,us,ge,ep,ve⟩:=s;simp only[cO]at ht hi;obtain⟨hA,hK,hL⟩:=boxes w st ow sm br ma us ge ep ve own more r;have hsz:r.cells.size=9:=rfl
 go_enter func140,ntmps140
 go_wp2_with fail;generalize ((w.alloc (.cells (Ae st ow sm br ma us ge ep ve own more) 144)).alloc (.cells av 57))=wa at *;have iT:=hK.drew
 go_region_held3 (fun w'=>Kp wa (w.heap.size+1) w') (first | assumption | exact Kp.set aI r)
  ((first
  | (go_at_call 206;refine(ht _).mono ?_;rintro e w5 ⟨rfl,hb5⟩;have sV:=iT.later hb5)
  | (go_at_call 207;refine(hi _).mono ?_;rintro e w6 ⟨rfl,hb6⟩;have kT:=sV.later hb6)))
 clear hL ht hi hsz;go_wp2_with fail;refine jK (w.heap.size+1) (kT.row r) underlying57 ?_;exact⟨rfl,(kT.set r).below hA ag⟩
theorem Kq (w:World) (s:S) (own more:Int):Calls prog 141 #[cO s own more] w fun e w'=>e=.returned (.tuple #[(toK s own 2).val,.bool (s.state == 2)])/\Below w.heap.size w w':=by
 have ht:=fun W=>jB W s own more 2 au
 have hi:=fun W=>ic W s own more 2
 generalize hr:toK s own 2=r at *;generalize hb:(s.state == 2)=b at *;clear hr hb;obtain⟨st,ow,sm,br,ma,us,ge,ep,ve⟩:=s;simp only[cO]at ht hi;obtain⟨hA,hK,hL⟩:=boxes w st ow sm br ma us ge ep ve own more r;have hsz:r.cells.size=9:=rfl
 go_enter func141,ntmps141
 go_wp2_with fail;generalize ((w.alloc (.cells (Ae st ow sm br ma us ge ep ve own more) 144)).alloc (.cells av 57))=wa at *;have iT:=hK.drew
 go_region_held3 (fun w'=>Kp wa (w.heap.size+1) w') (first | assumption | exact Kp.set aI r)
  ((first
  | (go_at_call 206;refine(ht _).mono ?_;rintro e w5 ⟨rfl,hb5⟩;have sV:=iT.later hb5)
  | (go_at_call 207;refine(hi _).mono ?_;rintro e w6 ⟨rfl,hb6⟩;have kT:=sV.later hb6)))
 clear hL ht hi hsz;go_wp2_with fail;refine jK (w.heap.size+1) (kT.row r) underlying57 ?_;exact⟨rfl,(kT.set r).below hA ag⟩
theorem GJ (w:World) (s:S) (own more:Int):Calls prog 144 #[cO s own more] w fun e w'=>e=.returned (.tuple #[(toK s own 0).val,.bool (s.state == 6)])/\Below w.heap.size w w':=by
 have ht:=fun W=>jB W s own more 0 au
 have hi:=fun W=>ic W s own more 6
 generalize hr:toK s own 0=r at *;generalize hb:(s.state == 6)=b at *;clear hr hb;obtain⟨st,ow,sm,br,ma,us,ge,ep,ve⟩:=s;simp only[cO]at ht hi;obtain⟨hA,hK,hL⟩:=boxes w st ow sm br ma us ge ep ve own more r;have hsz:r.cells.size=9:=rfl
 go_enter func144,ntmps144
 go_wp2_with fail;generalize ((w.alloc (.cells (Ae st ow sm br ma us ge ep ve own more) 144)).alloc (.cells av 57))=wa at *;have iT:=hK.drew
 go_region_held3 (fun w'=>Kp wa (w.heap.size+1) w') (first | assumption | exact Kp.set aI r)
  ((first
  | (go_at_call 206;refine(ht _).mono ?_;rintro e w5 ⟨rfl,hb5⟩;have sV:=iT.later hb5)
  | (go_at_call 207;refine(hi _).mono ?_;rintro e w6 ⟨rfl,hb6⟩;have kT:=sV.later hb6)))
 clear hL ht hi hsz;go_wp2_with fail;refine jK (w.heap.size+1) (kT.row r) underlying57 ?_;exact⟨rfl,(kT.set r).below hA ag⟩
end ai
namespace ai
open Go.RowKit Hp Slot ah
theorem Kt (w:World) (s:S) (own more:Int):Calls prog 136 #[cO s own more] w fun e w'=>e=.returned (.tuple #[(toK s own 2).val,.bool ((s.state == 3 && s.own == own) && s.streams == 0)])/\Below w.heap.size w w':=by
 have ht:=fun W=>jB W s own more 2 au
 have hi:=fun W=>kD W s own more 3
 generalize hr:toK s own 2=r at *;generalize hb:(s.state == 3 && s.own == own)=b at *;clear hr hb;obtain⟨st,ow,sm,br,ma,us,ge,ep,ve⟩:=s;simp only[cO]at ht hi;have hA:Below w.heap.size w ((w.alloc (.cells (Ae st ow sm br ma us ge ep ve own more) 144)).alloc (.cells av 57)):=(bZ.alloc aQ _).alloc au _;have hK:Kp ((w.alloc (.cells (Ae st ow sm br ma us ge ep ve own more) 144)).alloc (.cells av 57)) (w.heap.size+1) ((w.alloc (.cells (Ae st ow sm br ma us ge ep ve own more) 144)).alloc (.cells av 57)):=⟨aD.refl _ _,av,rfl,heap_alloc2_new w _ _⟩
 have l0:∀ w',Kp ((w.alloc (.cells (Ae st ow sm br ma us ge ep ve own more) 144)).alloc (.cells av 57)) (w.heap.size+1) w'->w'.cell? ⟨w.heap.size,0,none⟩=some (.i st):=fun w' h=>h.cell au au
 have l1:∀ w',Kp ((w.alloc (.cells (Ae st ow sm br ma us ge ep ve own more) 144)).alloc (.cells av 57)) (w.heap.size+1) w'->w'.cell? ⟨w.heap.size,1,none⟩=some (.i ow):=fun w' h=>h.cell au au
 have l2:∀ w',Kp ((w.alloc (.cells (Ae st ow sm br ma us ge ep ve own more) 144)).alloc (.cells av 57)) (w.heap.size+1) w'->w'.cell? ⟨w.heap.size,2,none⟩=some (.i sm):=fun w' h=>h.cell au au
 have l3:∀ w',Kp ((w.alloc (.cells (Ae st ow sm br ma us ge ep ve own more) 144)).alloc (.cells av 57)) (w.heap.size+1) w'->w'.cell? ⟨w.heap.size,3,none⟩=some (.bool br):=fun w' h=>h.cell au au
 have l4:∀ w',Kp ((w.alloc (.cells (Ae st ow sm br ma us ge ep ve own more) 144)).alloc (.cells av 57)) (w.heap.size+1) w'->w'.cell? ⟨w.heap.size,4,none⟩=some (.bool ma):=fun w' h=>h.cell au au
 have l5:∀ w',Kp ((w.alloc (.cells (Ae st ow sm br ma us ge ep ve own more) 144)).alloc (.cells av 57)) (w.heap.size+1) w'->w'.cell? ⟨w.heap.size,5,none⟩=some (.i us):=fun w' h=>h.cell au au
 have l6:∀ w',Kp ((w.alloc (.cells (Ae st ow sm br ma us ge ep ve own more) 144)).alloc (.cells av 57)) (w.heap.size+1) w'->w'.cell? ⟨w.heap.size,6,none⟩=some (.i ge):=fun w' h=>h.cell au au
 have l7:∀ w',Kp ((w.alloc (.cells (Ae st ow sm br ma us ge ep ve own more) 144)).alloc (.cells av 57)) (w.heap.size+1) w'->w'.cell? ⟨w.heap.size,7,none⟩=some (.i ep):=fun w' h=>h.cell au au
 have l8:∀ w',Kp ((w.alloc (.cells (Ae st ow sm br ma us ge ep ve own more) 144)).alloc (.cells av 57)) (w.heap.size+1) w'->w'.cell? ⟨w.heap.size,8,none⟩=some (.i ve):=fun w' h=>h.cell au au
 have l9:∀ w',Kp ((w.alloc (.cells (Ae st ow sm br ma us ge ep ve own more) 144)).alloc (.cells av 57)) (w.heap.size+1) w'->w'.cell? ⟨w.heap.size,9,none⟩=some (.i own):=fun w' h=>h.cell au au
 have l10:∀ w',Kp ((w.alloc (.cells (Ae st ow sm br ma us ge ep ve own more) 144)).alloc (.cells av 57)) (w.heap.size+1) w'->w'.cell? ⟨w.heap.size,10,none⟩=some (.i more):=fun w' h=>h.cell au au
 have hst:∀ w',Kp ((w.alloc (.cells (Ae st ow sm br ma us ge ep ve own more) 144)).alloc (.cells av 57)) (w.heap.size+1) w'->(storeCells ⟨w.heap.size+1,0,none⟩ r.cells.toList 0).run prog w'=.ok () (w'.setRow (w.heap.size+1) r.cells):=fun w' h=>h.store r
 have hsz:r.cells.size=9:=rfl
 go_enter func136,ntmps136
 go_wp2_with fail;generalize ((w.alloc (.cells (Ae st ow sm br ma us ge ep ve own more) 144)).alloc (.cells av 57))=wa at *;have iT:=hK.drew;cases b
 ·first
  | (go_region_with
   ((first
   | (go_at_call 206;refine(ht _).mono ?_;rintro e w5 ⟨rfl,hb5⟩;have sV:=iT.later hb5)
   | (go_at_call 209;refine(hi _).mono ?_;rintro e w6 ⟨rfl,hb6⟩;have kT:=sV.later hb6))))
  | fail
  all_goals (
   clear hst l0 l1 l2 l3 l4 l5 l6 l7 l8 l9 l10 ht hi hsz;go_wp2_with fail;refine jK (w.heap.size+1) (kT.row r) underlying57 ?_;exact⟨rfl,(kT.set r).below hA ag⟩)
 ·go_region_held3 (fun w'=>Kp wa (w.heap.size+1) w') (first | assumption | exact Kp.set aI r)
   ((first
   | (go_at_call 206;refine(ht _).mono ?_;rintro e w5 ⟨rfl,hb5⟩;have sV:=iT.later hb5)
   | (go_at_call 209;refine(hi _).mono ?_;rintro e w6 ⟨rfl,hb6⟩;have kT:=sV.later hb6)))
  clear hst l0 l1 l2 l3 l4 l5 l6 l7 l8 l9 l10 ht hi hsz;go_wp2_with fail;refine jK (w.heap.size+1) (kT.row r) underlying57 ?_;exact⟨rfl,(kT.set r).below hA ag⟩
theorem Ku (w:World) (s:S) (own more:Int) (hu:0<=s.uses/\s.uses<=63) (hg:0<=s.gen/\s.gen<=4095):Calls prog 148 #[cO s own more] w fun e w'=>
  e=.returned (if s.state == 5 && s.own == own then .tuple #[(toK s own 1).val,.bool true] else .tuple #[(eu s own).val,.bool (s.state == 4 && s.own == own)])/\Below w.heap.size w w':=by
 have ht:=fun W=>jB W s own more 1 au
 have hl:=fun W=>pY W s own more hu hg
 have hi5:=fun W=>kD W s own more 5
 have hi4:=fun W=>kD W s own more 4
 generalize hr:toK s own 1=r at *;generalize hr2:eu s own=r2 at *;generalize hb5:(s.state == 5 && s.own == own)=b5 at *;generalize hb4:(s.state == 4 && s.own == own)=b4 at *;clear hr hb5 hr2 hb4 hu hg;obtain⟨st,ow,sm,br,ma,us,ge,ep,ve⟩:=s;simp only[cO]at ht hl hi5 hi4;have hA:Below w.heap.size w ((w.alloc (.cells (Ae st ow sm br ma us ge ep ve own more) 144)).alloc (.cells av 57)):=(bZ.alloc aQ _).alloc au _;have hK:Kp ((w.alloc (.cells (Ae st ow sm br ma us ge ep ve own more) 144)).alloc (.cells av 57)) (w.heap.size+1) ((w.alloc (.cells (Ae st ow sm br ma us ge ep ve own more) 144)).alloc (.cells av 57)):=⟨aD.refl _ _,av,rfl,heap_alloc2_new w _ _⟩
 have l0:∀ w',Kp ((w.alloc (.cells (Ae st ow sm br ma us ge ep ve own more) 144)).alloc (.cells av 57)) (w.heap.size+1) w'->w'.cell? ⟨w.heap.size,0,none⟩=some (.i st):=fun w' h=>h.cell au au
 have l1:∀ w',Kp ((w.alloc (.cells (Ae st ow sm br ma us ge ep ve own more) 144)).alloc (.cells av 57)) (w.heap.size+1) w'->w'.cell? ⟨w.heap.size,1,none⟩=some (.i ow):=fun w' h=>h.cell au au
 have l2:∀ w',Kp ((w.alloc (.cells (Ae st ow sm br ma us ge ep ve own more) 144)).alloc (.cells av 57)) (w.heap.size+1) w'->w'.cell? ⟨w.heap.size,2,none⟩=some (.i sm):=fun w' h=>h.cell au au
 have l3:∀ w',Kp ((w.alloc (.cells (Ae st ow sm br ma us ge ep ve own more) 144)).alloc (.cells av 57)) (w.heap.size+1) w'->w'.cell? ⟨w.heap.size,3,none⟩=some (.bool br):=fun w' h=>h.cell au au
 have l4:∀ w',Kp ((w.alloc (.cells (Ae st ow sm br ma us ge ep ve own more) 144)).alloc (.cells av 57)) (w.heap.size+1) w'->w'.cell? ⟨w.heap.size,4,none⟩=some (.bool ma):=fun w' h=>h.cell au au
 have l5:∀ w',Kp ((w.alloc (.cells (Ae st ow sm br ma us ge ep ve own more) 144)).alloc (.cells av 57)) (w.heap.size+1) w'->w'.cell? ⟨w.heap.size,5,none⟩=some (.i us):=fun w' h=>h.cell au au
 have l6:∀ w',Kp ((w.alloc (.cells (Ae st ow sm br ma us ge ep ve own more) 144)).alloc (.cells av 57)) (w.heap.size+1) w'->w'.cell? ⟨w.heap.size,6,none⟩=some (.i ge):=fun w' h=>h.cell au au
 have l7:∀ w',Kp ((w.alloc (.cells (Ae st ow sm br ma us ge ep ve own more) 144)).alloc (.cells av 57)) (w.heap.size+1) w'->w'.cell? ⟨w.heap.size,7,none⟩=some (.i ep):=fun w' h=>h.cell au au
 have l8:∀ w',Kp ((w.alloc (.cells (Ae st ow sm br ma us ge ep ve own more) 144)).alloc (.cells av 57)) (w.heap.size+1) w'->w'.cell? ⟨w.heap.size,8,none⟩=some (.i ve):=fun w' h=>h.cell au au
 have l9:∀ w',Kp ((w.alloc (.cells (Ae st ow sm br ma us ge ep ve own more) 144)).alloc (.cells av 57)) (w.heap.size+1) w'->w'.cell? ⟨w.heap.size,9,none⟩=some (.i own):=fun w' h=>h.cell au au
 have l10:∀ w',Kp ((w.alloc (.cells (Ae st ow sm br ma us ge ep ve own more) 144)).alloc (.cells av 57)) (w.heap.size+1) w'->w'.cell? ⟨w.heap.size,10,none⟩=some (.i more):=fun w' h=>h.cell au au
 have hst:∀ w',Kp ((w.alloc (.cells (Ae st ow sm br ma us ge ep ve own more) 144)).alloc (.cells av 57)) (w.heap.size+1) w'->∀ r,(storeCells ⟨w.heap.size+1,0,none⟩ (S.cells r).toList 0).run prog w'=.ok () (w'.setRow (w.heap.size+1) r.cells):=fun w' h r=>h.store r
 have hsz:∀ r,(S.cells r).size=9:=fun r=>rfl
 go_enter func148,ntmps148
 go_wp2_with fail;refine(hi5 _).mono ?_;rintro e wb ⟨rfl,hbb⟩;have hKb:=hK.later hbb;generalize ((w.alloc (.cells (Ae st ow sm br ma us ge ep ve own more) 144)).alloc (.cells av 57))=wa at *;have m0:=l0 _ hKb;have m1:=l1 _ hKb;have m2:=l2 _ hKb;have m3:=l3 _ hKb;have m4:=l4 _ hKb;have m5:=l5 _ hKb;have m6:=l6 _ hKb;have m7:=l7 _ hKb;have m8:=l8 _ hKb;have m9:=l9 _ hKb;have m10:=l10 _ hKb;cases b5
 ·clear hbb ht hi5;go_wp2_with fail;have iT:=hKb.drew
  go_region_held3 (fun w'=>Kp wa (w.heap.size+1) w') (first | assumption | exact Kp.set aI r2)
   ((first
   | (go_at_call 208;refine(hl _).mono ?_;rintro e w5 ⟨rfl,hb5⟩;have sV:=iT.later hb5)
   | (go_at_call 209;refine(hi4 _).mono ?_;rintro e w6 ⟨rfl,hb6⟩;have kT:=sV.later hb6)))
  clear hst l0 l1 l2 l3 l4 l5 l6 l7 l8 l9 l10 m0 m1 m2 m3 m4 m5 m6 m7 m8 m9 m10 hl hi4 hsz;go_wp2_with fail;refine jK (w.heap.size+1) (kT.row r2) underlying57 ?_;exact⟨rfl,(kT.set r2).below hA ag⟩
 ·clear hbb hl hi5 hi4;go_wp2_with fail;refine(ht _).mono ?_;rintro e wc ⟨rfl,hbc⟩;have hKc:=hKb.later hbc;have hst':=hst wc hKc;clear hst l0 l1 l2 l3 l4 l5 l6 l7 l8 l9 l10 m0 m1 m2 m3 m4 m5 m6 m7 m8 m9 m10 hbc ht;go_wp2_with fail;refine jK (w.heap.size+1) (hKc.row r) underlying57 ?_;exact⟨rfl,(hKc.set r).below hA ag⟩
theorem yA (w:World) (s:S) (own more:Int):Calls prog 211 #[cO s own more] w fun e w'=>e=.returned (.tuple #[S.val {toK s own 6 with aJ:=more},.bool (decide (0<=more/\more<=4095))])/\Below w.heap.size w w':=by
 have ht:=fun W=>jB W s own more 6 au
 generalize toK s own 6=t at *;obtain⟨st,ow,sm,br,ma,us,ge,ep,ve⟩:=s;obtain⟨st',iN,sm',iO,iP,us',iB,lH,iQ⟩:=t;simp only[cO,S.val,S.cells]at ht
 go_enter func211,ntmps211
 simp only[cO,S.val,S.cells];go_wp2_with fail;refine(ht _).mono ?_;rintro e w5 ⟨rfl,hb5⟩;have hA:Below w.heap.size w ((w.alloc (.cells (Ae st ow sm br ma us ge ep ve own more) 144)).alloc (.cells av 57)):=(bZ.alloc aQ _).alloc au _;have hB:Below w.heap.size w w5:=hA.trans (hb5.mono (by simp;omega));have hr:af w5 (w.heap.size+1) av 57:=af.below (heap_alloc2_new w _ _) hb5;have hm:w5.cell? ⟨w.heap.size,10,none⟩=some (.i more):=Field.ak hb5 au;have hne:w.heap.size+1 < w5.heap.size:=af.lt hr;have hm2:(w5.alloc (.cells (Aa st' iN sm' iO iP us' iB lH iQ) 57)).cell? ⟨w.heap.size,10,none⟩=some (.i more):=Field.ak (bZ.alloc aQ _) hm
 have UU:((w5.alloc (.cells (Aa st' iN sm' iO iP us' iB lH iQ) 57)).setCell ⟨w5.heap.size,7,none⟩ (.i more)).cell? ⟨w.heap.size,10,none⟩=some (.i more):=by rw[World.cell?_setCell_far _ _ _ _ (by simp;omega)];exact hm2
 clear ht hb5;go_wp2_with fail;have hA2:Below w.heap.size w (w5.alloc (.cells (Aa st' iN sm' iO iP us' iB more iQ) 57)):=hB.alloc hB.size _;have hK:Kp (w5.alloc (.cells (Aa st' iN sm' iO iP us' iB more iQ) 57)) (w.heap.size+1) (w5.alloc (.cells (Aa st' iN sm' iO iP us' iB more iQ) 57)):=⟨aD.refl _ _,av,rfl,af.below hr (bZ.alloc aQ _)⟩
 have R3:af (w5.alloc (.cells (Aa st' iN sm' iO iP us' iB more iQ) 57)) w5.heap.size (Aa st' iN sm' iO iP us' iB more iQ) 57:=heap_alloc_new w5 _;have hmm:(w5.alloc (.cells (Aa st' iN sm' iO iP us' iB more iQ) 57)).cell? ⟨w.heap.size,10,none⟩=some (.i more):=Field.ak (bZ.alloc aQ _) hm;clear hm2 UU hm hr hA hB;generalize (w5.alloc (.cells (Aa st' iN sm' iO iP us' iB more iQ) 57))=wa at *;generalize w5.heap.size=tb at *;have rS:∀ w',Kp wa (w.heap.size+1) w'->af w' tb (Aa st' iN sm' iO iP us' iB more iQ) 57:=fun w' h=>R3.aK h.1 ag
 have l10:∀ w',Kp wa (w.heap.size+1) w'->w'.cell? ⟨w.heap.size,10,none⟩=some (.i more):=fun w' h=>h.cell au hmm
 have iT:=hK.drew;clear hmm R3
 by_cases h0:0<=more
 focus
  have g0:decide (0<=more)=true:=by simpa using h0
 rotate_left
 focus
  have g0:decide (0<=more)=false:=by simpa using h0
 rotate_left
 all_goals
  refine jr (S:=fun w'=>Kp wa (w.heap.size+1) w') (by exact iT) (fun hHeld=>?_);refine iC (gd:=none) 0 10 (.load 57 (.tmp 4)) (.agg (Aa st' iN sm' iO iP us' iB more iQ)) (aM 57 (.tmp 4) (tb) 57 (Aa st' iN sm' iO iP us' iB more iQ) _ ax underlying57 rfl ax rS) hHeld (ay ?_)
  refine wpAnyH_take (i:=1) (v:=?_) rfl ax ax ax (fun _ _ _ h=>h) (Or.inl ⟨rfl,?_⟩) hHeld ?_;rotate_left
  ·intro w hSw
   try dsimp only at hSw
   go_simp
   try with_reducible rfl
  try simp only[Act.put,sA,sZ,sS]
  refine wpAnyH_take (i:=2) (v:=?_) rfl ax ax ax (fun _ _ _ h=>h) (Or.inl ⟨rfl,?_⟩) hHeld ?_;rotate_left
  ·intro w hSw
   try dsimp only at hSw
   go_simp
   try with_reducible rfl
  try simp only[Act.put,sA,sZ,sS]
  refine wpAnyH_take (i:=3) (v:=?_) rfl ax ax ax (fun _ _ _ h=>h) (Or.inl ⟨rfl,?_⟩) hHeld ?_;rotate_left
  ·intro w hSw
   try dsimp only at hSw
   go_simp
   try with_reducible rfl
  try simp only[Act.put,sA,sZ,sS]
  refine wpAnyH_take (i:=4) (v:=?_) rfl ax ax ax (fun _ _ _ h=>h) (Or.inl ⟨rfl,?_⟩) hHeld ?_;rotate_left
  ·intro w hSw
   try dsimp only at hSw
   go_simp
   try with_reducible rfl
  try simp only[Act.put,sA,sZ,sS]
 ·refine wpAnyH_take (i:=5) (v:=?_) rfl ax ax ax (fun _ _ _ h=>h) (Or.inl ⟨rfl,?_⟩) hHeld ?_;rotate_left
  ·intro w hSw
   try dsimp only at hSw
   go_simp
   try with_reducible rfl
  try simp only[Act.put,sA,sZ,sS]
  refine wpAnyH_take (i:=6) (v:=?_) rfl ax ax ax (fun _ _ _ h=>h) (Or.inl ⟨rfl,?_⟩) hHeld ?_;rotate_left
  ·intro w hSw
   try dsimp only at hSw
   go_simp
   try with_reducible rfl
  try simp only[Act.put,sA,sZ,sS]
  refine wpAnyH_take (i:=7) (v:=?_) rfl ax ax ax (fun _ _ _ h=>h) (Or.inl ⟨rfl,?_⟩) hHeld ?_;rotate_left
  ·intro w hSw
   try dsimp only at hSw
   go_simp
   try with_reducible rfl
  try simp only[Act.put,sA,sZ,sS]
  refine wpAnyH_take (i:=8) (v:=?_) rfl ax ax ax (fun _ _ _ h=>h) (Or.inl ⟨rfl,?_⟩) hHeld ?_;rotate_left
  ·intro w hSw
   try dsimp only at hSw
   go_simp
   try with_reducible rfl
  try simp only[Act.put,sA,sZ,sS]
  obtain⟨nS,Z,kP,kQ⟩:=hHeld;refine dh (i:=9) ax 57 (.tmp 2) (.tmp 10) ax (w.heap.size+1) _ _ (Aa st' iN sm' iO iP us' iB more iQ) ax ax kQ kP ax ax (Kp.set ⟨nS,Z,kP,kQ⟩ ⟨st',iN,sm',iO,iP,us',iB,more,iQ⟩) (fun kE=>ay ?_)
  refine wpAnyH_take (i:=10) (v:=?_) rfl ax ax ax (fun _ _ _ h=>h) (Or.inl ⟨rfl,?_⟩) kE ?_;rotate_left
  ·intro w hSw
   try dsimp only at hSw
   go_simp
   try with_reducible rfl
  try simp only[Act.put,sA,sZ,sS]
  refine iR ?_
  go_simp
  clear rS;go_wp2_with fail;refine jK (w.heap.size+1) (Kp.row ⟨nS,Z,kP,kQ⟩ ⟨st',iN,sm',iO,iP,us',iB,more,iQ⟩) underlying57 ?_;refine⟨?_,Kp.below kE hA2 ag⟩;simp[S.val,S.cells,h0]
 ·refine wpAnyH_take (i:=5) (v:=undef) rfl ax ax ax (fun _ _ _ h=>h) (Or.inr ⟨rfl,rfl⟩) hHeld (ay ?_)
  refine wpAnyH_take (i:=6) (v:=undef) rfl ax ax ax (fun _ _ _ h=>h) (Or.inr ⟨rfl,rfl⟩) hHeld (ay ?_)
  refine wpAnyH_take (i:=7) (v:=undef) rfl ax ax ax (fun _ _ _ h=>h) (Or.inr ⟨rfl,rfl⟩) hHeld (ay ?_)
  refine wpAnyH_take (i:=8) (v:=?_) rfl ax ax ax (fun _ _ _ h=>h) (Or.inl ⟨rfl,?_⟩) hHeld ?_;rotate_left
  ·intro w hSw
   try dsimp only at hSw
   go_simp
   try with_reducible rfl
  try simp only[Act.put,sA,sZ,sS]
  obtain⟨nS,Z,kP,kQ⟩:=hHeld;refine dh (i:=9) ax 57 (.tmp 2) (.tmp 10) ax (w.heap.size+1) _ _ (Aa st' iN sm' iO iP us' iB more iQ) ax ax kQ kP ax ax (Kp.set ⟨nS,Z,kP,kQ⟩ ⟨st',iN,sm',iO,iP,us',iB,more,iQ⟩) (fun kE=>ay ?_)
  refine wpAnyH_take (i:=10) (v:=?_) rfl ax ax ax (fun _ _ _ h=>h) (Or.inl ⟨rfl,?_⟩) kE ?_;rotate_left
  ·intro w hSw
   try dsimp only at hSw
   go_simp
   try with_reducible rfl
  try simp only[Act.put,sA,sZ,sS]
  refine iR ?_
  go_simp
  clear rS;go_wp2_with fail;refine jK (w.heap.size+1) (Kp.row ⟨nS,Z,kP,kQ⟩ ⟨st',iN,sm',iO,iP,us',iB,more,iQ⟩) underlying57 ?_;refine⟨?_,Kp.below kE hA2 ag⟩;simp[S.val,S.cells,h0]
theorem Kr (w:World) (s:S) (own more:Int):Calls prog 142 #[cO s own more] w fun e w'=>e=.returned (.tuple #[({s with marked:=true}:S).val,.bool (s.state == 2 && !s.marked)])/\Below w.heap.size w w':=by
 have hi:=fun W=>ic W s own more 2
 generalize hb:(s.state == 2)=b at *;clear hb;obtain⟨st,ow,sm,br,ma,us,ge,ep,ve⟩:=s;simp only[cO]at hi;have hA:Below w.heap.size w (((w.alloc (.cells (Ae st ow sm br ma us ge ep ve own more) 144)).alloc (.cells av 57)).alloc (.cells (Aa st ow sm br true us ge ep ve) 57)):=((bZ.alloc aQ _).alloc au _).alloc (by simp;omega) _;have hK:Kp (((w.alloc (.cells (Ae st ow sm br ma us ge ep ve own more) 144)).alloc (.cells av 57)).alloc (.cells (Aa st ow sm br true us ge ep ve) 57)) (w.heap.size+1) (((w.alloc (.cells (Ae st ow sm br ma us ge ep ve own more) 144)).alloc (.cells av 57)).alloc (.cells (Aa st ow sm br true us ge ep ve) 57)):=⟨aD.refl _ _,av,rfl,dW w _ _ _⟩
 have R1:af (((w.alloc (.cells (Ae st ow sm br ma us ge ep ve own more) 144)).alloc (.cells av 57)).alloc (.cells (Aa st ow sm br true us ge ep ve) 57)) w.heap.size (Ae st ow sm br ma us ge ep ve own more) 144:=by rw[af,Below.heap_alloc _ _ _ (by simp;omega)];exact heap_alloc2_old w _ _
 have R3:af (((w.alloc (.cells (Ae st ow sm br ma us ge ep ve own more) 144)).alloc (.cells av 57)).alloc (.cells (Aa st ow sm br true us ge ep ve) 57)) (w.heap.size+1+1) (Aa st ow sm br true us ge ep ve) 57:=by have:=heap_alloc_new ((w.alloc (.cells (Ae st ow sm br ma us ge ep ve own more) 144)).alloc (.cells av 57)) (.cells (Aa st ow sm br true us ge ep ve) 57);simpa [af] using this
 have rC:∀ w',Kp (((w.alloc (.cells (Ae st ow sm br ma us ge ep ve own more) 144)).alloc (.cells av 57)).alloc (.cells (Aa st ow sm br true us ge ep ve) 57)) (w.heap.size+1) w'->af w' w.heap.size (Ae st ow sm br ma us ge ep ve own more) 144:=fun w' h=>R1.aK h.1 au
 have rS:∀ w',Kp (((w.alloc (.cells (Ae st ow sm br ma us ge ep ve own more) 144)).alloc (.cells av 57)).alloc (.cells (Aa st ow sm br true us ge ep ve) 57)) (w.heap.size+1) w'->af w' (w.heap.size+1+1) (Aa st ow sm br true us ge ep ve) 57:=fun w' h=>R3.aK h.1 au
 have l4:∀ w',Kp (((w.alloc (.cells (Ae st ow sm br ma us ge ep ve own more) 144)).alloc (.cells av 57)).alloc (.cells (Aa st ow sm br true us ge ep ve) 57)) (w.heap.size+1) w'->w'.cell? ⟨w.heap.size,4,none⟩=some (.bool ma):=fun w' h=>h.cell au (R1.cell 4)
 clear R1 R3
 go_enter func142,ntmps142
 go_wp2_with fail;generalize (((w.alloc (.cells (Ae st ow sm br ma us ge ep ve own more) 144)).alloc (.cells av 57)).alloc (.cells (Aa st ow sm br true us ge ep ve) 57))=wa at *;have iT:=hK.drew;cases b
 all_goals
  have:True:=trivial;refine jr (S:=fun w'=>Kp wa (w.heap.size+1) w') (by exact iT) (fun hHeld=>?_);refine iC (gd:=none) 0 8 (.load 57 (.tmp 4)) (.agg (Aa st ow sm br true us ge ep ve)) (aM 57 (.tmp 4) (w.heap.size+1+1) 57 (Aa st ow sm br true us ge ep ve) _ ax underlying57 rfl ax rS) hHeld (ay ?_)
  refine iC (gd:=none) 1 9 (.load 144 (.tmp 1)) (.agg (Ae st ow sm br ma us ge ep ve own more)) (aM 144 (.tmp 1) (w.heap.size) 144 (Ae st ow sm br ma us ge ep ve own more) _ ax underlying144 rfl ax rC) hHeld (ay ?_)
  refine wpAnyH_ready (rs:=[2]) ax au ?_;refine AllReadyH.cons rfl (fun K hK=>?_) AllReadyH.nil
  go_simp
  refine(hi _).mono ?_;rintro e w6 ⟨rfl,hb6⟩
  go_simp
  refine hK.out _ _ (by exact hHeld.later hb6) (fun fU=>?_);clear hK K
  try simp only[Act.put,sA,sZ,sS]
  refine wpAnyH_take (i:=3) (v:=?_) rfl ax ax ax (fun _ _ _ h=>h) (Or.inl ⟨rfl,?_⟩) fU ?_;rotate_left
  ·intro w hSw
   try dsimp only at hSw
   go_simp
   try with_reducible rfl
  try simp only[Act.put,sA,sZ,sS]
 ·refine wpAnyH_take (i:=4) (v:=undef) rfl ax ax ax (fun _ _ _ h=>h) (Or.inr ⟨rfl,rfl⟩) fU (ay ?_)
  refine wpAnyH_take (i:=5) (v:=undef) rfl ax ax ax (fun _ _ _ h=>h) (Or.inr ⟨rfl,rfl⟩) fU (ay ?_)
  refine wpAnyH_take (i:=6) (v:=undef) rfl ax ax ax (fun _ _ _ h=>h) (Or.inr ⟨rfl,rfl⟩) fU (ay ?_)
  refine wpAnyH_take (i:=7) (v:=undef) rfl ax ax ax (fun _ _ _ h=>h) (Or.inr ⟨rfl,rfl⟩) fU (ay ?_)
  refine wpAnyH_take (i:=8) (v:=?_) rfl ax ax ax (fun _ _ _ h=>h) (Or.inl ⟨rfl,?_⟩) fU ?_;rotate_left
  ·intro w hSw
   try dsimp only at hSw
   go_simp
   try with_reducible rfl
  try simp only[Act.put,sA,sZ,sS]
  obtain⟨nS,Z,kP,kQ⟩:=fU;refine dh (i:=9) ax 57 (.tmp 2) (.tmp 8) ax (w.heap.size+1) _ _ (Aa st ow sm br true us ge ep ve) ax ax kQ kP ax ax (Kp.set ⟨nS,Z,kP,kQ⟩ ⟨st,ow,sm,br,true,us,ge,ep,ve⟩) (fun kE=>ay ?_)
  refine wpAnyH_take (i:=10) (v:=?_) rfl ax ax ax (fun _ _ _ h=>h) (Or.inl ⟨rfl,?_⟩) kE ?_;rotate_left
  ·intro w hSw
   try dsimp only at hSw
   go_simp
   try with_reducible rfl
  try simp only[Act.put,sA,sZ,sS]
  refine iR ?_
  go_simp
  clear rC rS;go_wp2_with fail;refine jK (w.heap.size+1) (Kp.row ⟨nS,Z,kP,kQ⟩ ⟨st,ow,sm,br,true,us,ge,ep,ve⟩) underlying57 ?_;exact⟨rfl,Kp.below kE hA ag⟩
 ·refine wpAnyH_take (i:=4) (v:=?_) rfl ax ax ax (fun _ _ _ h=>h) (Or.inl ⟨rfl,?_⟩) fU ?_;rotate_left
  ·intro w hSw
   try dsimp only at hSw
   go_simp
   try with_reducible rfl
  try simp only[Act.put,sA,sZ,sS]
  refine wpAnyH_take (i:=5) (v:=?_) rfl ax ax ax (fun _ _ _ h=>h) (Or.inl ⟨rfl,?_⟩) fU ?_;rotate_left
  ·intro w hSw
   try dsimp only at hSw
   go_simp
   try with_reducible rfl
  try simp only[Act.put,sA,sZ,sS]
  refine wpAnyH_take (i:=6) (v:=?_) rfl ax ax ax (fun _ _ _ h=>h) (Or.inl ⟨rfl,?_⟩) fU ?_;rotate_left
  ·intro w hSw
   try dsimp only at hSw
   go_simp
   try with_reducible rfl
  try simp only[Act.put,sA,sZ,sS]
  refine wpAnyH_take (i:=7) (v:=?_) rfl ax ax ax (fun _ _ _ h=>h) (Or.inl ⟨rfl,?_⟩) fU ?_;rotate_left
  ·intro w hSw
   try dsimp only at hSw
   go_simp
   try with_reducible rfl
  try simp only[Act.put,sA,sZ,sS]
  refine wpAnyH_take (i:=8) (v:=?_) rfl ax ax ax (fun _ _ _ h=>h) (Or.inl ⟨rfl,?_⟩) fU ?_;rotate_left
  ·intro w hSw
   try dsimp only at hSw
   go_simp
   try with_reducible rfl
  try simp only[Act.put,sA,sZ,sS]
  obtain⟨nS,Z,kP,kQ⟩:=fU;refine dh (i:=9) ax 57 (.tmp 2) (.tmp 8) ax (w.heap.size+1) _ _ (Aa st ow sm br true us ge ep ve) ax ax kQ kP ax ax (Kp.set ⟨nS,Z,kP,kQ⟩ ⟨st,ow,sm,br,true,us,ge,ep,ve⟩) (fun kE=>ay ?_)
  refine wpAnyH_take (i:=10) (v:=?_) rfl ax ax ax (fun _ _ _ h=>h) (Or.inl ⟨rfl,?_⟩) kE ?_;rotate_left
  ·intro w hSw
   try dsimp only at hSw
   go_simp
   try with_reducible rfl
  try simp only[Act.put,sA,sZ,sS]
  refine iR ?_
  go_simp
  clear rC rS;go_wp2_with fail;refine jK (w.heap.size+1) (Kp.row ⟨nS,Z,kP,kQ⟩ ⟨st,ow,sm,br,true,us,ge,ep,ve⟩) underlying57 ?_;exact⟨rfl,Kp.below kE hA ag⟩
end ai
end Go.Proofs.YtbklamnimfmjkaaGreatDoor
