/- Part 40 of the walks and plain laws that the last text joins. -/
import Derived.Test.YtbklamnimfmjkaaGreatDoorKB38
set_option maxRecDepth 100000
set_option maxHeartbeats 16000000
set_option linter.all false
open Go.Proofs.Tryz
namespace Go.Proofs.YtbklamnimfmjkaaGreatDoor
namespace Mc
open Go.RowKit Hp ah aj Slot ai Tk Cl
theorem BI {W0 W:World} {p0 p:Mp} {m:Mc} {who:Nat} {k:Wk} {v:KV} {s:Sh} (h:Mx W0 p0 W p m who k v s) {x:En} (K4:x.who=who) (hst:k.st=0) (hfl:1999<=m.evs.length):Calls prog 33 #[ptr p.gb,.agg x.cells] W (fun e W'=>e=.returned (.bool false)/\Below W.heap.size W W'):=by
 obtain⟨hx0,hx1,hx2⟩:=idx h.hw;have hv:(m.mid who k s).has who=true:=h.has;obtain⟨ea,ec,hev⟩:=mH h;have h1:=h.below (bZ.alloc aQ (.cells x.cells 37));have r1:af (W.alloc (.cells x.cells 37)) W.heap.size x.cells 37:=heap_alloc_new W _;have hb1:Below W.heap.size W (W.alloc (.cells x.cells 37)):=bZ.alloc aQ _;have HB:=uH hb1;have H1:=uH h1;have R1:=uH r1;clear h hb1 h1 r1
 go_enter func33,ntmps33
 go_upto_region 1 with(fail);generalize W.alloc (.cells x.cells 37)=w1 at *;generalize hbx:W.heap.size=bx at *;have hhas:=gV (H1.out.below bY).core who;rw[hv]at hhas;rw[show(p.mid who v).gb=p.gb from rfl]at hhas
 have hS:∀ w',Below w1.drew.heap.size w1.drew w'->w'.cell? ⟨p.gb,9,none⟩=some (.slice (some ⟨p.kb,0,none⟩) m.ks.length m.ks.length)/\w'.cell? ⟨p.gb,8,none⟩=some (.slice ea m.evs.length ec)/\w'.cell? ⟨bx,1,none⟩=some (.i who)/\w'.cell? ⟨bx,2,none⟩=some (.i x.ask.op)/\w'.cell? ⟨p.kb,who * 35,none⟩=some (.i 0):=fun w' hb'=>by
  have hb:Below w1.heap.size w1 w':=bY.trans (hb'.mono (Below.refl w1.heap.size w1).drew.size);exact⟨(H1.out.below hb).az 9,((H1.out.below hb).az 8).trans (congrArg some hev),(af.cell (R1.out.below hb) 1).trans (by show some (Value.int .i64 x.who)=_;rw[K4]),af.cell (R1.out.below hb) 2,((H1.out.below hb).aL 0 (u:=.i k.st) rfl).trans (by rw[hst];rfl)⟩
 have HS:=uH hS;clear hS;have q0:(1999:Int)<=(m.evs.length:Int):=ag
 have q1:decide ((1999:Int)<=(m.evs.length:Int))=true:=decide_eq_true q0;refine jr (S:=(fun w'=>w'.cell? ⟨p.gb,9,none⟩=some (.slice (some ⟨p.kb,0,none⟩) m.ks.length m.ks.length)/\w'.cell? ⟨p.gb,8,none⟩=some (.slice ea m.evs.length ec)/\w'.cell? ⟨bx,1,none⟩=some (.i who)/\w'.cell? ⟨bx,2,none⟩=some (.i x.ask.op)/\w'.cell? ⟨p.kb,who * 35,none⟩=some (.i 0))) (by exact(HS.out _ bZ)) (fun hHeld=>?_);refine tH 0 5 hHeld ?_;refine tH 1 6 hHeld ?_;refine tH 2 7 hHeld ?_;refine mP (i:=3) 45 #[.tmp 5,.tmp 7] #[29,3] (some 8) none #[ptr p.gb,.i who] (aH func45) ?_;refine(hhas).mono ?_;rintro e w2 ⟨rfl,rfl⟩;refine⟨_,rfl,HS.out _ bZ,fun hHeld=>ay ?_⟩
 refine tH 4 9 hHeld ?_;refine tH 5 10 hHeld ?_;refine tH 6 11 hHeld ?_;refine tH 7 12 hHeld ?_;refine tH 8 13 hHeld ?_;refine tH 9 14 hHeld ?_;refine tH 10 15 hHeld ?_;refine tH 11 16 hHeld ?_;refine tH 12 17 hHeld ?_;refine tH 13 18 hHeld ?_;refine tH 14 19 hHeld ?_;refine tH 15 20 hHeld ?_;refine tH 16 21 hHeld ?_;refine tH 17 22 hHeld ?_;refine tH 18 23 hHeld ?_;refine tH 19 24 hHeld ?_;refine tH 20 25 hHeld ?_;refine tH 21 26 hHeld ?_;refine tH 22 27 hHeld ?_;refine tH 23 28 hHeld ?_;refine tH 24 29 hHeld ?_;refine tH 25 30 hHeld ?_;refine sH 26 (some 31) hHeld ?_;refine sH 27 (some 32) hHeld ?_;refine sH 28 (some 33) hHeld ?_;refine sH 29 (some 34) hHeld ?_;refine tH 30 35 hHeld ?_;refine tH 31 36 hHeld ?_;refine sH 32 (some 37) hHeld ?_;refine sH 33 (some 38) hHeld ?_;refine sH 34 (some 39) hHeld ?_;refine sH 35 (some 40) hHeld ?_;refine tH 36 41 hHeld ?_
 refine iR ?_;clear hhas;go_wp2_with fail;go_ret;refine⟨rfl,?_⟩
 first | rw[hbx] | skip
 exact HB.out.trans (bY.mono (by rw[<- hbx];exact HB.out.size))
end Mc
end Go.Proofs.YtbklamnimfmjkaaGreatDoor
