/- Part 33 of the walks and plain laws that the last text joins. -/
import Derived.Test.YtbklamnimfmjkaaGreatDoorKB32
set_option maxRecDepth 100000
set_option maxHeartbeats 16000000
set_option linter.all false
open Go.Proofs.Tryz
namespace Go.Proofs.YtbklamnimfmjkaaGreatDoor
namespace Mc
open Go.RowKit Hp ah aj Slot ai Tk Cl
theorem nY {W0 W:World} {p0 p:Mp} {m:Mc} {who:Nat} {k:Wk} {v:KV} {s:Sh} (h:Mx W0 p0 W p m who k v s) (hM:aA m.cf) (hwn:(who:Int) < m.cf.workers) (hlen:s.ws.length=sc m.cf (ns m.cf)):Calls prog 60 #[ptr p.gb,.i who] W (fun e W'=>e=.returned (.bool (decide (granted m.cf who s≠0)))/\Below W.heap.size W W'):=by
 have hgn:=fun W=>oC W m.cf who (by have:=hM.w;omega) hwn
 have hgc:(3+m.cf.workers+(who:Int))=((Ty.gc m.cf who:Nat):Int):=by have:=hM.w;unfold Ty.gc;omega
 simp only[hgc,Cf.val,Cf.cells]at hgn;have hlt:Ty.gc m.cf who < s.ws.length:=by rw[hlen];have:=hM.nw;unfold Ty.gc sc;omega
 have hwd:=yj (h.below bY).mem;have hx:=rd_some hlt;rw[show rd s.ws (Ty.gc m.cf who)=granted m.cf who s from rfl]at hx;generalize granted m.cf who s=x at *;have hxm:(s.ws.map (Value.int .i64))[Ty.gc m.cf who]? =some (.i x):=by rw[List.getElem?_map,hx];rfl
 have i0:(0:Int)<=(Ty.gc m.cf who:Int):=ag
 have i1:((Ty.gc m.cf who:Nat):Int) < (s.ws.length:Int):=ag
 obtain⟨g0,g1,g2,g3,g4⟩:=cQ m.cf h.az;have g5:=cP p.mb (h.az 5);have H:=uH (h.below bY);have hb0:RowKit.Hid (Below W.heap.size W W.drew):=uH bY;have HGN:=uH hgn;have Zx:=uH hxm;clear h hlen hgc hgn hx hxm hM hwn;have Vd:=uH hlt;clear hlt;generalize Ty.gc m.cf who=gc at *;generalize hn:s.ws.length=n at *;have HN:=uH hn;clear hn
 by_cases hz:x=0
 focus
  rw[decide_eq_false (by simpa using hz)];subst hz
 rotate_left
 focus
  rw[decide_eq_true hz];have hzb:(x != 0)=true:=by simpa using hz
  clear hz
 rotate_left
 all_goals
  go_enter func60,ntmps60
  go_wp2_with fail;have hS:∀ w',Below W.drew.heap.size W.drew w'->w'.cell? ⟨p.gb,5,none⟩=some (ptr p.mb)/\w'.cell? ⟨p.gb,0,none⟩=some (.i m.cf.workers)/\w'.cell? ⟨p.gb,1,none⟩=some (.i m.cf.slots)/\w'.cell? ⟨p.gb,2,none⟩=some (.i m.cf.streams)/\w'.cell? ⟨p.gb,3,none⟩=some (.i m.cf.waiters)/\w'.cell? ⟨p.gb,4,none⟩=some (.i m.cf.uses):=fun w' hb=>⟨(H.out.below hb).az 5,(H.out.below hb).az 0,(H.out.below hb).az 1,(H.out.below hb).az 2,(H.out.below hb).az 3,(H.out.below hb).az 4⟩
  have HS:=uH hS;clear hS;refine jr (S:=(fun w'=>w'.cell? ⟨p.gb,5,none⟩=some (ptr p.mb)/\w'.cell? ⟨p.gb,0,none⟩=some (.i m.cf.workers)/\w'.cell? ⟨p.gb,1,none⟩=some (.i m.cf.slots)/\w'.cell? ⟨p.gb,2,none⟩=some (.i m.cf.streams)/\w'.cell? ⟨p.gb,3,none⟩=some (.i m.cf.waiters)/\w'.cell? ⟨p.gb,4,none⟩=some (.i m.cf.uses))) (by exact HS.out _ bZ) (fun hHeld=>?_);refine tH 0 5 hHeld ?_;refine tH 1 6 hHeld ?_;refine tH 2 7 hHeld ?_;refine tH 3 8 hHeld ?_;refine tH 5 10 hHeld ?_;refine tH 6 11 hHeld ?_;refine tH 7 12 hHeld ?_;refine tH 8 13 hHeld ?_;refine tH 9 14 hHeld ?_;refine mP (i:=4) 40 #[.tmp 8] #[70] (some 9) none #[ptr p.mb] (aH func40) ?_;refine hwd.mono ?_;rintro e w2 ⟨a,c,rfl,hown,hfr,hb2⟩;obtain⟨aa,cc,e1,-,hcs⟩:=hown.at;simp only[Value.slice.injEq]at e1;obtain⟨ea,-,ec⟩:=e1;subst ea ec
  rcases hcs with h00 | ⟨gs,os,rfl,hcs⟩
  ·exact absurd h00 (by intro e;have:=Zx.out;rw[e]at this;simp at this)
 focus
  have hcx:w2.cell? ⟨gs,os+gc,none⟩=some (.i 0):=hcs gc _ Zx.out
 rotate_left
 focus
  have hcx:w2.cell? ⟨gs,os+gc,none⟩=some (.i x):=hcs gc _ Zx.out
 rotate_left
 all_goals
  refine⟨_,rfl,HS.out _ hb2,fun hHeld=>ay ?_⟩
  refine mP (i:=10) 78 #[.tmp 13,.tmp 14] #[27,3] (some 15) none #[(.agg (Ab m.cf.workers m.cf.slots m.cf.streams m.cf.waiters m.cf.uses)),.i who] (aH func78) ?_;refine(HGN.out _).mono ?_;rintro e w3 ⟨rfl,hb3⟩;have IC:Below W.drew.heap.size W.drew w3:=aW hb2 hb3
 focus
  have hcy:w3.cell? ⟨gs,os+gc,none⟩=some (.i 0):=(World.cell?_of_block (w:=w2) (hb3.block gs (dN hcx))).trans hcx;refine⟨_,rfl,HS.out _ IC,fun hHeld=>ay ?_⟩
  refine tH 11 16 hHeld ?_;refine aX (i:=12) ax (aY (some 17) (.i 0) ax ax (w':=w3) (by clear hHeld;go_simp;try rfl) (HS.out _ IC) (fun hHeld=>?_))
 rotate_left
 focus
  have hcy:w3.cell? ⟨gs,os+gc,none⟩=some (.i x):=(World.cell?_of_block (w:=w2) (hb3.block gs (dN hcx))).trans hcx;refine⟨_,rfl,HS.out _ IC,fun hHeld=>ay ?_⟩
  refine tH 11 16 hHeld ?_;refine aX (i:=12) ax (aY (some 17) (.i x) ax ax (w':=w3) (by clear hHeld;go_simp;try rfl) (HS.out _ IC) (fun hHeld=>?_))
 rotate_left
 all_goals
  try simp only[Act.put,sA,sZ,sS]
  refine tH 13 18 hHeld ?_;refine tH 14 4 hHeld ?_;refine iR ?_;have HB:=uH (hb0.out.trans (IC.mono hb0.out.size));clear hcx hcy hcs hown hfr hb2 hb3 IC hHeld hwd;go_wp2_with fail;go_ret
 ·exact⟨rfl,HB.out⟩
 ·exact⟨by first | rfl | rw[hzb],HB.out⟩
end Mc
end Go.Proofs.YtbklamnimfmjkaaGreatDoor
