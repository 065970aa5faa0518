/- Part 4 of the walks and plain laws that the last text joins. -/
import Derived.Test.YtbklamnimfmjkaaGreatDoorKB3
set_option maxRecDepth 100000
set_option maxHeartbeats 16000000
set_option linter.all false
open Go.Proofs.Tryz
namespace Go.Proofs.YtbklamnimfmjkaaGreatDoor
namespace ai
open Go.RowKit Hp Slot ah
theorem jO {s:S} (h:s.right=true):(0<=s.state/\s.state<=6)/\(0<=s.uses/\s.uses<=63)/\(0<=s.gen/\s.gen<=4095)/\(0<=s.version/\s.version<=32767)/\(0<=s.own/\s.own<=15)/\(0<=s.streams/\s.streams<=255):=by
 have m3:(Field.mx 3:Int)=7:=rfl;have m4:(Field.mx 4:Int)=15:=rfl;have m8:(Field.mx 8:Int)=255:=rfl;have m6:(Field.mx 6:Int)=63:=rfl;have m12:(Field.mx 12:Int)=4095:=rfl;have m15:(Field.mx 15:Int)=32767:=rfl;simp only[S.right,Field.gZ,bH,S.nums,Bool.and_eq_true,decide_eq_true_eq,m3,m4,m8,m6,m12,m15]at h;omega
def lC (s:S) (own:Int) (t:S) (b:Bool):Option S:=if s.right=true/\0<=own/\own<=15/\b=true then some {t with version:=(s.version+1) % 32768} else none
def S.zero:S:=⟨0,0,0,false,false,0,0,0,0⟩
theorem aW {wb W W':World} (h:Below wb.heap.size wb W) (hb:Below W.heap.size W W'):Below wb.heap.size wb W':=h.trans (hb.mono h.size)
theorem Pk {wb W:World} (h:Below wb.heap.size wb W) (i:Nat) (v:Value):Below wb.heap.size wb (W.setCell ⟨wb.heap.size,i,none⟩ v):=h.setCell aQ v
theorem yJ {wb W:World} (h:Below wb.heap.size wb W) (o:Obj):Below wb.heap.size wb (W.alloc o):=h.alloc h.size o
theorem setOther {w:World} {g:Nat} {cs:Array Value} {t:TypeId} (h:af w g cs t) {p:Addr} (v:Value) (hp:g≠p.block):af (w.setCell p v) g cs t:=(heap_setCell_other w p g v hp).trans h
def acts:Array Value:=#[.func (.func 132) #[] #[],.func (.func 133) #[] #[],.func (.func 134) #[] #[],.func (.func 135) #[] #[],.func (.func 136) #[] #[],.func (.func 137) #[] #[],.func (.func 138) #[] #[],.func (.func 139) #[] #[],.func (.func 140) #[] #[],.func (.func 141) #[] #[],.func (.func 142) #[] #[],.func (.func 143) #[] #[],.func (.func 144) #[] #[],.func (.func 145) #[] #[],.func (.func 146) #[] #[],.func (.func 147) #[] #[],.func (.func 148) #[] #[],.func (.func 149) #[] #[]]
theorem Cu (w:World):Calls prog 95 #[] w fun e w'=>e=.returned (.slice (some ⟨w.heap.size,0,none⟩) 18 18)/\w'=w.alloc (.cells acts 142):=by
 go_enter func95,ntmps95
 go_wp2
 go_ret;exact⟨rfl,rfl⟩
theorem xk (w:World) (s:S) (own more:Int) (F d:Nat) (t:S) (b:Bool) (hd:d < 18) (hE:∀ args w,(callFunc F args).run prog w=.ok (.enter F args) w) (hF:acts[d]? =some (.func (.func F) #[] #[])) (hL:Laid w) (hw:s.wf)
  (hac:s.right=true->∀ W,Calls prog F #[cO s own more] W fun e W'=>e=.returned (.tuple #[t.val,.bool b])/\Below W.heap.size W W'):
  Calls prog 72 #[s.val,.i d,.i own,.i more] w fun e w'=>
  e=.returned (.tuple #[((lC s own t b).getD S.zero).val,.bool (lC s own t b).isSome])/\Below w.heap.size w w':=by
 have hch:=Cu;have Gr:=fun W h=>eP W s h hw
 have hrb:=@jO s;have HN:RowKit.Hid (∀ (h:s.right=true/\0<=own/\own<=15/\b=true),lC s own t b=some {t with version:=(s.version+1) % 32768}):=fun h=>if_pos h
 have HF:RowKit.Hid (∀ (h:¬ (s.right=true/\0<=own/\own<=15/\b=true)),lC s own t b=none):=fun h=>if_neg h
 generalize lC s own t b=r at *;generalize s.right=rg at *;have hd0:(0:Int)<=(d:Int):=ag
 have hd1:(d:Int) < 18:=ag
 have hd2:(d:Int)<=17:=ag
 have HFd:=uH hF;clear hF;obtain⟨st,ow,sm,br,ma,us,ge,ep,ve⟩:=s;obtain⟨st',iN,sm',iO,iP,us',iB,lH,iQ⟩:=t;simp only[S.val,S.cells,cO]at Gr hac hrb HN;have hA:Below w.heap.size w (((w.alloc (.cells (Aa st ow sm br ma us ge ep ve) 57)).alloc (.cells Zs 57)).alloc (.cells acts 142)):=((bZ.alloc aQ _).alloc au _).alloc (by simp;omega) _;have TN:Laid (((w.alloc (.cells (Aa st ow sm br ma us ge ep ve) 57)).alloc (.cells Zs 57)).alloc (.cells acts 142)):=hL.stable (hA.block 0 (hL.lt aT));have hr1:af (((w.alloc (.cells (Aa st ow sm br ma us ge ep ve) 57)).alloc (.cells Zs 57)).alloc (.cells acts 142)) w.heap.size (Aa st ow sm br ma us ge ep ve) 57:=by rw[af,Below.heap_alloc _ _ _ (by simp;omega)];exact heap_alloc2_old w _ _
 have hr2:af (((w.alloc (.cells (Aa st ow sm br ma us ge ep ve) 57)).alloc (.cells Zs 57)).alloc (.cells acts 142)) (w.heap.size+1) Zs 57:=dW w _ _ _;have hr3:af (((w.alloc (.cells (Aa st ow sm br ma us ge ep ve) 57)).alloc (.cells Zs 57)).alloc (.cells acts 142)) (w.heap.size+1+1) acts 142:=by have:=heap_alloc_new ((w.alloc (.cells (Aa st ow sm br ma us ge ep ve) 57)).alloc (.cells Zs 57)) (.cells acts 142);simpa [af] using this
 go_enter func72,ntmps72
 simp only[S.val,S.cells];go_wp2_with fail;refine(hch _).mono ?_;rintro e wa ⟨rfl,rfl⟩;generalize (((w.alloc (.cells (Aa st ow sm br ma us ge ep ve) 57)).alloc (.cells Zs 57)).alloc (.cells acts 142))=wa at *;have hx:=Gr wa TN;have u0:=cC st (hr1.cell 0);have u1:=cC ow (hr1.cell 1);have u2:=cC sm (hr1.cell 2);have u3:=cV (.bool br) (hr1.cell 3);have u4:=cV (.bool ma) (hr1.cell 4);have u5:=cC us (hr1.cell 5);have u6:=cC ge (hr1.cell 6);have u7:=cC ep (hr1.cell 7);have u8:=cC ve (hr1.cell 8);clear Gr hch;go_wp2_with fail;refine hx.mono ?_;rintro e wb ⟨rfl,hb⟩;have hB:=hA.trans (hb.mono hA.size);have r1:=hr1.below hb;have r2:=hr2.below hb;have r3:=hr3.below hb;clear hb hx u0 u1 u2 u3 u4 u5 u6 u7 u8 hr1 hr2 hr3;have q0:=cC 0 (r2.cell 0);have f0:=r2.frozen 0;have q1:=cC 0 (r2.cell 1);have f1:=r2.frozen 1;have q2:=cC 0 (r2.cell 2);have f2:=r2.frozen 2;have q3:=cV (.bool false) (r2.cell 3)
 have f3:=r2.frozen 3;have q4:=cV (.bool false) (r2.cell 4);have f4:=r2.frozen 4;have q5:=cC 0 (r2.cell 5);have f5:=r2.frozen 5;have q6:=cC 0 (r2.cell 6);have f6:=r2.frozen 6;have q7:=cC 0 (r2.cell 7);have f7:=r2.frozen 7;have q8:=cC 0 (r2.cell 8);have f8:=r2.frozen 8;have R2:=uH r2;clear r2;cases rg
 ·have hn:RowKit.Hid (r=none):=HF.out au;go_wp2_with fail;refine jK (w.heap.size+1) (((((((((R2.out.aB 0 _).aB 1 _).aB 2 _).aB 3 _).aB 4 _).aB 5 _).aB 6 _).aB 7 _).aB 8 _) underlying57 ?_;refine⟨by rw[hn.out];rfl,?_⟩
  iterate 9 refine Below.setCell ?_ au _
  exact hB
 by_cases ho1:own < 0
 ·have hn:RowKit.Hid (r=none):=HF.out ag;go_wp2_with fail;refine jK (w.heap.size+1) (((((((((R2.out.aB 0 _).aB 1 _).aB 2 _).aB 3 _).aB 4 _).aB 5 _).aB 6 _).aB 7 _).aB 8 _) underlying57 ?_;refine⟨by rw[hn.out];rfl,?_⟩
  iterate 9 refine Below.setCell ?_ au _
  exact hB
 by_cases ho2:15 < own
 ·have hn:RowKit.Hid (r=none):=HF.out ag;go_wp2_with fail;refine jK (w.heap.size+1) (((((((((R2.out.aB 0 _).aB 1 _).aB 2 _).aB 3 _).aB 4 _).aB 5 _).aB 6 _).aB 7 _).aB 8 _) underlying57 ?_;refine⟨by rw[hn.out];rfl,?_⟩
  iterate 9 refine Below.setCell ?_ au _
  exact hB
 have Pm:=fun W=>hac rfl W
 have IQ:=hrb rfl;clear hac hrb q0 f0 q1 f1 q2 f2 q3 f3 q4 f4 q5 f5 q6 f6 q7 f7 q8 f8;have l0:∀ w',Below wb.heap.size wb w'->w'.cell? ⟨w.heap.size,0,none⟩=some (.i st):=fun w' h=>(r1.below h).cell 0
 have l1:∀ w',Below wb.heap.size wb w'->w'.cell? ⟨w.heap.size,1,none⟩=some (.i ow):=fun w' h=>(r1.below h).cell 1
 have l2:∀ w',Below wb.heap.size wb w'->w'.cell? ⟨w.heap.size,2,none⟩=some (.i sm):=fun w' h=>(r1.below h).cell 2
 have l3:∀ w',Below wb.heap.size wb w'->w'.cell? ⟨w.heap.size,3,none⟩=some (.bool br):=fun w' h=>(r1.below h).cell 3
 have l4:∀ w',Below wb.heap.size wb w'->w'.cell? ⟨w.heap.size,4,none⟩=some (.bool ma):=fun w' h=>(r1.below h).cell 4
 have l5:∀ w',Below wb.heap.size wb w'->w'.cell? ⟨w.heap.size,5,none⟩=some (.i us):=fun w' h=>(r1.below h).cell 5
 have l6:∀ w',Below wb.heap.size wb w'->w'.cell? ⟨w.heap.size,6,none⟩=some (.i ge):=fun w' h=>(r1.below h).cell 6
 have l7:∀ w',Below wb.heap.size wb w'->w'.cell? ⟨w.heap.size,7,none⟩=some (.i ep):=fun w' h=>(r1.below h).cell 7
 have l8:∀ w',Below wb.heap.size wb w'->w'.cell? ⟨w.heap.size,8,none⟩=some (.i ve):=fun w' h=>(r1.below h).cell 8
 have lf:∀ w',Below wb.heap.size wb w'->w'.cell? ⟨w.heap.size+1+1,d,none⟩=some (.func (.func F) #[] #[]):=fun w' h=>((r3.below h).cell d).trans HFd.out
 have hS0:Below wb.heap.size wb wb.drew:=bY;go_wp2_with fail
 go_region_held3 (fun w'=>Below wb.heap.size wb w') (repeat (first | (with_reducible assumption) | (with_reducible exact Below.refl _ _) | (with_reducible refine Below.drew ?_) | (with_reducible refine yJ ?_ _) | (with_reducible refine Pk ?_ _ _)))
  ((first
  | (refine(Pm _).mono ?_;rintro e w6 ⟨rfl,hb6⟩;have yK:af w6 wb.heap.size Zs 57:=af.below (w:=(wb.alloc (.cells Zs 57)).drew) (heap_alloc_new wb _) hb6;have LP:=aW (yJ bZ _).drew hb6;have zq0:=cC 0 (yK.cell 0);have zf0:=yK.frozen 0;have zq1:=cC 0 (yK.cell 1);have zf1:=yK.frozen 1;have zq2:=cC 0 (yK.cell 2);have zf2:=yK.frozen 2;have zq3:=cV (.bool false) (yK.cell 3);have zf3:=yK.frozen 3;have zq4:=cV (.bool false) (yK.cell 4);have zf4:=yK.frozen 4;have zq5:=cC 0 (yK.cell 5);have zf5:=yK.frozen 5;have zq6:=cC 0 (yK.cell 6);have zf6:=yK.frozen 6;have zq7:=cC 0 (yK.cell 7);have zf7:=yK.frozen 7;have zq8:=cC 0 (yK.cell 8);have zf8:=yK.frozen 8)
  | (refine(Pm _).mono ?_;rintro e w6 ⟨rfl,hb6⟩;have LP:=aW hS0 hb6)))
 ·have gl:=R2.out.lt;have gs:=LP.size;have gB:Below w.heap.size w (w6.alloc (.cells (Aa st' iN sm' iO iP us' iB lH iQ) 57)):=(hB.trans (LP.mono ag)).alloc ag _;have hX1:w.heap.size+1≠w6.heap.size:=ag
  have hX2:w6.heap.size≠w.heap.size:=ag
  have Lv:w.heap.size<=w6.heap.size:=ag
  have gX:af (w6.alloc (.cells (Aa st' iN sm' iO iP us' iB lH iQ) 57)) w6.heap.size (Aa st' iN sm' iO iP us' iB lH iQ) 57:=heap_alloc_new _ _;have g2:af (w6.alloc (.cells (Aa st' iN sm' iO iP us' iB lH iQ) 57)) (w.heap.size+1) Zs 57:=(R2.out.below LP).alloc _;have g1:(w6.alloc (.cells (Aa st' iN sm' iO iP us' iB lH iQ) 57)).cell? ⟨w.heap.size,8,none⟩=some (.i ve):=((r1.below LP).alloc _).cell 8;generalize (w6.alloc (.cells (Aa st' iN sm' iO iP us' iB lH iQ) 57))=W7 at *;generalize w6.heap.size=X at *;clear gl gs;clear l0 l1 l2 l3 l4 l5 l6 l7 l8 lf Pm r1 r3 hS0 R2 LP;have q0:=cC 0 (g2.cell 0);have f0:=g2.frozen 0;have q1:=cC 0 (g2.cell 1);have f1:=g2.frozen 1;have q2:=cC 0 (g2.cell 2);have f2:=g2.frozen 2;have q3:=cV (.bool false) (g2.cell 3);have f3:=g2.frozen 3;have q4:=cV (.bool false) (g2.cell 4);have f4:=g2.frozen 4;have q5:=cC 0 (g2.cell 5)
  have f5:=g2.frozen 5;have q6:=cC 0 (g2.cell 6);have f6:=g2.frozen 6;have q7:=cC 0 (g2.cell 7);have f7:=g2.frozen 7;have q8:=cC 0 (g2.cell 8);have f8:=g2.frozen 8;have x0:=cC st' (gX.cell 0);have x1:=cC iN (gX.cell 1);have x2:=cC sm' (gX.cell 2);have x3:=cV (.bool iO) (gX.cell 3);have x4:=cV (.bool iP) (gX.cell 4);have x5:=cC us' (gX.cell 5);have x6:=cC iB (gX.cell 6);have x7:=cC lH (gX.cell 7);have x8:=cC iQ (gX.cell 8);have xf:=gX.frozen 8;have G2:=uH g2;clear g2 gX;cases b
  ·have hn:RowKit.Hid (r=none):=HF.out au;clear x0 x1 x2 x3 x4 x5 x6 x7 x8 xf;go_wp2_with fail;refine jK (w.heap.size+1) (((((((((G2.out.aB 0 _).aB 1 _).aB 2 _).aB 3 _).aB 4 _).aB 5 _).aB 6 _).aB 7 _).aB 8 _) underlying57 ?_;refine⟨by rw[hn.out];rfl,?_⟩
   iterate 9 refine Below.setCell ?_ au _
   exact gB
  ·have hn:=uH (HN.out ⟨au,ag,ag,au⟩);obtain⟨_,_,_,⟨hv0,hv1⟩,_⟩:=IQ;have hm:IntKind.i64.wrap ((ve+1).tmod 32768)=(ve+1) % 32768:=by rw[Int.tmod_eq_emod_of_nonneg ag,IntKind.wrap_i64];omega
   go_wp2_with fail;refine jK (w.heap.size+1) ((((((((((setOther G2.out _ (by simpa using hX1)).aB 0 _).aB 1 _).aB 2 _).aB 3 _).aB 4 _).aB 5 _).aB 6 _).aB 7 _).aB 8 _) underlying57 ?_;refine⟨by rw[hn.out];rfl,?_⟩
   iterate 9 refine Below.setCell ?_ au _
   exact gB.setCell Lv _
 ·have gl:=R2.out.lt;have gs:=LP.size;have gB:Below w.heap.size w (((((((((w6.setCell ⟨wb.heap.size,0,none⟩ (.i st')).setCell ⟨wb.heap.size,1,none⟩ (.i iN)).setCell ⟨wb.heap.size,2,none⟩ (.i sm')).setCell ⟨wb.heap.size,3,none⟩ (.bool iO)).setCell ⟨wb.heap.size,4,none⟩ (.bool iP)).setCell ⟨wb.heap.size,5,none⟩ (.i us')).setCell ⟨wb.heap.size,6,none⟩ (.i iB)).setCell ⟨wb.heap.size,7,none⟩ (.i lH)).setCell ⟨wb.heap.size,8,none⟩ (.i iQ)):=((((((((((hB.trans (LP.mono ag)).setCell (by simp;omega) _).setCell (by simp;omega) _).setCell (by simp;omega) _).setCell (by simp;omega) _).setCell (by simp;omega) _).setCell (by simp;omega) _).setCell (by simp;omega) _).setCell (by simp;omega) _).setCell (by simp;omega) _)
  have hX1:w.heap.size+1≠wb.heap.size:=ag
  have hX2:wb.heap.size≠w.heap.size:=ag
  have Lv:w.heap.size<=wb.heap.size:=ag
  have gX:af (((((((((w6.setCell ⟨wb.heap.size,0,none⟩ (.i st')).setCell ⟨wb.heap.size,1,none⟩ (.i iN)).setCell ⟨wb.heap.size,2,none⟩ (.i sm')).setCell ⟨wb.heap.size,3,none⟩ (.bool iO)).setCell ⟨wb.heap.size,4,none⟩ (.bool iP)).setCell ⟨wb.heap.size,5,none⟩ (.i us')).setCell ⟨wb.heap.size,6,none⟩ (.i iB)).setCell ⟨wb.heap.size,7,none⟩ (.i lH)).setCell ⟨wb.heap.size,8,none⟩ (.i iQ)) wb.heap.size (Aa st' iN sm' iO iP us' iB lH iQ) 57:=(((((((((yK.aB 0 _).aB 1 _).aB 2 _).aB 3 _).aB 4 _).aB 5 _).aB 6 _).aB 7 _).aB 8 _)
  have g2:af (((((((((w6.setCell ⟨wb.heap.size,0,none⟩ (.i st')).setCell ⟨wb.heap.size,1,none⟩ (.i iN)).setCell ⟨wb.heap.size,2,none⟩ (.i sm')).setCell ⟨wb.heap.size,3,none⟩ (.bool iO)).setCell ⟨wb.heap.size,4,none⟩ (.bool iP)).setCell ⟨wb.heap.size,5,none⟩ (.i us')).setCell ⟨wb.heap.size,6,none⟩ (.i iB)).setCell ⟨wb.heap.size,7,none⟩ (.i lH)).setCell ⟨wb.heap.size,8,none⟩ (.i iQ)) (w.heap.size+1) Zs 57:=(setOther (setOther (setOther (setOther (setOther (setOther (setOther (setOther (setOther (R2.out.below LP) _ (by simp;omega)) _ (by simp;omega)) _ (by simp;omega)) _ (by simp;omega)) _ (by simp;omega)) _ (by simp;omega)) _ (by simp;omega)) _ (by simp;omega)) _ (by simp;omega))
  have g1:(((((((((w6.setCell ⟨wb.heap.size,0,none⟩ (.i st')).setCell ⟨wb.heap.size,1,none⟩ (.i iN)).setCell ⟨wb.heap.size,2,none⟩ (.i sm')).setCell ⟨wb.heap.size,3,none⟩ (.bool iO)).setCell ⟨wb.heap.size,4,none⟩ (.bool iP)).setCell ⟨wb.heap.size,5,none⟩ (.i us')).setCell ⟨wb.heap.size,6,none⟩ (.i iB)).setCell ⟨wb.heap.size,7,none⟩ (.i lH)).setCell ⟨wb.heap.size,8,none⟩ (.i iQ)).cell? ⟨w.heap.size,8,none⟩=some (.i ve):=(setOther (setOther (setOther (setOther (setOther (setOther (setOther (setOther (setOther (r1.below LP) _ (by simp;omega)) _ (by simp;omega)) _ (by simp;omega)) _ (by simp;omega)) _ (by simp;omega)) _ (by simp;omega)) _ (by simp;omega)) _ (by simp;omega)) _ (by simp;omega)).cell 8
  generalize (((((((((w6.setCell ⟨wb.heap.size,0,none⟩ (.i st')).setCell ⟨wb.heap.size,1,none⟩ (.i iN)).setCell ⟨wb.heap.size,2,none⟩ (.i sm')).setCell ⟨wb.heap.size,3,none⟩ (.bool iO)).setCell ⟨wb.heap.size,4,none⟩ (.bool iP)).setCell ⟨wb.heap.size,5,none⟩ (.i us')).setCell ⟨wb.heap.size,6,none⟩ (.i iB)).setCell ⟨wb.heap.size,7,none⟩ (.i lH)).setCell ⟨wb.heap.size,8,none⟩ (.i iQ))=W7 at *;generalize wb.heap.size=X at *;clear gl gs;clear zq0 zf0 zq1 zf1 zq2 zf2 zq3 zf3 zq4 zf4 zq5 zf5 zq6 zf6 zq7 zf7 zq8 zf8 yK l0 l1 l2 l3 l4 l5 l6 l7 l8 lf Pm r1 r3 hS0 R2 LP;have q0:=cC 0 (g2.cell 0);have f0:=g2.frozen 0;have q1:=cC 0 (g2.cell 1);have f1:=g2.frozen 1;have q2:=cC 0 (g2.cell 2);have f2:=g2.frozen 2;have q3:=cV (.bool false) (g2.cell 3);have f3:=g2.frozen 3;have q4:=cV (.bool false) (g2.cell 4);have f4:=g2.frozen 4;have q5:=cC 0 (g2.cell 5);have f5:=g2.frozen 5
  have q6:=cC 0 (g2.cell 6);have f6:=g2.frozen 6;have q7:=cC 0 (g2.cell 7);have f7:=g2.frozen 7;have q8:=cC 0 (g2.cell 8);have f8:=g2.frozen 8;have x0:=cC st' (gX.cell 0);have x1:=cC iN (gX.cell 1);have x2:=cC sm' (gX.cell 2);have x3:=cV (.bool iO) (gX.cell 3);have x4:=cV (.bool iP) (gX.cell 4);have x5:=cC us' (gX.cell 5);have x6:=cC iB (gX.cell 6);have x7:=cC lH (gX.cell 7);have x8:=cC iQ (gX.cell 8);have xf:=gX.frozen 8;have G2:=uH g2;clear g2 gX;cases b
  ·have hn:RowKit.Hid (r=none):=HF.out au;clear x0 x1 x2 x3 x4 x5 x6 x7 x8 xf;go_wp2_with fail;refine jK (w.heap.size+1) (((((((((G2.out.aB 0 _).aB 1 _).aB 2 _).aB 3 _).aB 4 _).aB 5 _).aB 6 _).aB 7 _).aB 8 _) underlying57 ?_;refine⟨by rw[hn.out];rfl,?_⟩
   iterate 9 refine Below.setCell ?_ au _
   exact gB
  ·have hn:=uH (HN.out ⟨au,ag,ag,au⟩);obtain⟨_,_,_,⟨hv0,hv1⟩,_⟩:=IQ;have hm:IntKind.i64.wrap ((ve+1).tmod 32768)=(ve+1) % 32768:=by rw[Int.tmod_eq_emod_of_nonneg ag,IntKind.wrap_i64];omega
   go_wp2_with fail;refine jK (w.heap.size+1) ((((((((((setOther G2.out _ (by simpa using hX1)).aB 0 _).aB 1 _).aB 2 _).aB 3 _).aB 4 _).aB 5 _).aB 6 _).aB 7 _).aB 8 _) underlying57 ?_;refine⟨by rw[hn.out];rfl,?_⟩
   iterate 9 refine Below.setCell ?_ au _
   exact gB.setCell Lv _
end ai
end Go.Proofs.YtbklamnimfmjkaaGreatDoor
