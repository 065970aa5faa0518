/- Part 34 of the walks and plain laws that the last text joins. -/
import Derived.Test.YtbklamnimfmjkaaGreatDoorKB33
set_option maxRecDepth 100000
set_option maxHeartbeats 16000000
set_option linter.all false
open Go.Proofs.Tryz
namespace Go.Proofs.YtbklamnimfmjkaaGreatDoor
namespace Mc
open Go.RowKit Hp ah aj Slot ai Tk Cl
theorem gV {W:World} {p:Mp} {m:Mc} (h:Core W p m) (w:Int):Calls prog 45 #[ptr p.gb,.i w] W (fun e W'=>e=.returned (.bool (m.has w))/\W=W'):=by
 have c9:W.cell? ⟨p.gb,9,none⟩=some (.slice (some ⟨p.kb,0,none⟩) m.ks.length m.ks.length):=af.cell h.row 9;clear h;unfold Mc.has
 by_cases h0:0<=w
 ·by_cases h1:w < (m.ks.length:Int)
  ·rw[decide_eq_true ⟨h0,h1⟩]
   go_enter func45,ntmps45
   go_wp2_with fail;go_ret;exact⟨rfl,rfl⟩
  ·rw[decide_eq_false (fun e=>h1 e.2)]
   go_enter func45,ntmps45
   go_wp2_with fail;go_ret;exact⟨rfl,rfl⟩
 ·rw[decide_eq_false (fun e=>h0 e.1)]
  go_enter func45,ntmps45
  go_wp2_with fail;go_ret;exact⟨rfl,rfl⟩
variable {who:Nat}
theorem uI {W0 W:World} {p0 p:Mp} {m:Mc} {k:Wk} {v:KV} {s:Sh} (h:Mx W0 p0 W p m who k v s) (hM:aA m.cf) (hwn:(who:Int) < m.cf.workers) (hlen:s.ws.length=sc m.cf (ns m.cf)):Calls prog 51 #[ptr p.gb,.i who] W (fun e W'=>e=.returned (.bool (decide (granted m.cf who s≠0) || k.dA && decide (k.ask.deadline<=s.now)))/\Below W.heap.size W W'):=by
 obtain⟨hx0,hx1,hx2⟩:=idx h.hw;have g9:W.cell? ⟨p.gb,9,none⟩=some (.slice (some ⟨p.kb,0,none⟩) m.ks.length m.ks.length):=h.az 9;have hgr:=nY (h.below bY) hM hwn hlen;have H:=uH (h.below bY);have hB0:Below W.heap.size W W.drew:=bY;have HB0:=uH hB0;clear h hB0;cases hg:decide (granted m.cf who s≠0)
 focus
  rw[hg]at hgr;clear hg;rw[Bool.false_or];cases Yg:k.dA
 focus
  rw[Bool.false_and];have Zy:=uH Yg;clear Yg
  go_enter func51,ntmps51
  go_upto_region 2 with(fail);have hS:∀ w',Below W.drew.heap.size W.drew w'->w'.cell? ⟨p.kb,who * 35+16,none⟩=some (.bool false)/\w'.cell? ⟨p.gb,6,none⟩=some (ptr p.cb)/\w'.cell? ⟨p.kb,who * 35+2,none⟩=some (.i k.ask.deadline):=fun w' hb=>⟨((H.out.below hb).aL 16 (u:=.bool k.dA) rfl).trans (by rw[Zy.out]),(H.out.below hb).az 6,(H.out.below hb).aL 2 rfl⟩
  have HS:=uH hS;clear hS;refine jr (S:=(fun w'=>w'.cell? ⟨p.kb,who * 35+16,none⟩=some (.bool false)/\w'.cell? ⟨p.gb,6,none⟩=some (ptr p.cb)/\w'.cell? ⟨p.kb,who * 35+2,none⟩=some (.i k.ask.deadline))) (by exact(HS.out _ bZ)) (fun hHeld=>?_)
 rotate_left
 focus
  rw[Bool.true_and];have Zy:=uH Yg;clear Yg
  go_enter func51,ntmps51
  go_upto_region 2 with(fail);have hS:∀ w',Below W.drew.heap.size W.drew w'->w'.cell? ⟨p.kb,who * 35+16,none⟩=some (.bool true)/\w'.cell? ⟨p.gb,6,none⟩=some (ptr p.cb)/\w'.cell? ⟨p.kb,who * 35+2,none⟩=some (.i k.ask.deadline):=fun w' hb=>⟨((H.out.below hb).aL 16 (u:=.bool k.dA) rfl).trans (by rw[Zy.out]),(H.out.below hb).az 6,(H.out.below hb).aL 2 rfl⟩
  have HS:=uH hS;clear hS;refine jr (S:=(fun w'=>w'.cell? ⟨p.kb,who * 35+16,none⟩=some (.bool true)/\w'.cell? ⟨p.gb,6,none⟩=some (ptr p.cb)/\w'.cell? ⟨p.kb,who * 35+2,none⟩=some (.i k.ask.deadline))) (by exact(HS.out _ bZ)) (fun hHeld=>?_)
 rotate_left
 focus
  rw[hg]at hgr;clear hg;rw[Bool.true_or]
  go_enter func51,ntmps51
  go_upto_region 2 with(fail);have hS:∀ w',Below W.drew.heap.size W.drew w'->w'.cell? ⟨p.kb,who * 35+16,none⟩=some (.bool k.dA)/\w'.cell? ⟨p.gb,6,none⟩=some (ptr p.cb)/\w'.cell? ⟨p.kb,who * 35+2,none⟩=some (.i k.ask.deadline):=fun w' hb=>⟨(H.out.below hb).aL 16 rfl,(H.out.below hb).az 6,(H.out.below hb).aL 2 rfl⟩
  have HS:=uH hS;clear hS;refine jr (S:=(fun w'=>w'.cell? ⟨p.kb,who * 35+16,none⟩=some (.bool k.dA)/\w'.cell? ⟨p.gb,6,none⟩=some (ptr p.cb)/\w'.cell? ⟨p.kb,who * 35+2,none⟩=some (.i k.ask.deadline))) (by exact(HS.out _ bZ)) (fun hHeld=>?_)
 rotate_left
 all_goals
  refine tH 0 12 hHeld ?_;refine tH 1 13 hHeld ?_;refine mP (i:=2) 60 #[.tmp 12,.tmp 13] #[29,3] (some 14) none #[ptr p.gb,.i who] (aH func60) ?_;refine(hgr).mono ?_;rintro e w2 ⟨rfl,hb2⟩;refine⟨_,rfl,HS.out _ hb2,fun hHeld=>ay ?_⟩
  refine tH 3 15 hHeld ?_
 focus
  refine tH 4 16 hHeld ?_;refine tH 5 17 hHeld ?_;refine tH 6 18 hHeld ?_;refine tH 7 19 hHeld ?_;refine VR 8 20 hHeld ?_
 rotate_left
 ·refine tH 4 16 hHeld ?_;refine tH 5 17 hHeld ?_;refine tH 6 18 hHeld ?_;refine tH 7 19 hHeld ?_;refine tH 8 20 hHeld ?_;refine tH 9 21 hHeld ?_;refine tH 10 22 hHeld ?_;refine tH 11 23 hHeld ?_;refine tH 12 24 hHeld ?_;refine tH 13 25 hHeld ?_;refine tH 14 26 hHeld ?_;refine tH 15 27 hHeld ?_;refine tH 16 28 hHeld ?_;refine tH 17 29 hHeld ?_;refine mP (i:=18) 61 #[.tmp 24,.tmp 29] #[73,3] (some 30) (some (8,true)) #[ptr p.cb,.i k.ask.deadline] (aH func61) ?_;refine(Clock.JQ w2 ⟨p.cb,0,none⟩ s.now k.ask.deadline (af.cell (H.out.below hb2).core.JH 0)).mono ?_;rintro e w3 ⟨rfl,rfl⟩;refine⟨_,rfl,HS.out _ hb2,fun hHeld=>ay ?_⟩
  refine tH 19 31 hHeld ?_;refine tH 20 32 hHeld ?_;refine tH 21 4 hHeld ?_;refine iR ?_;have HB:=uH (HB0.out.trans (hb2.mono HB0.out.size));clear hb2 hgr hHeld;go_wp2_with fail;go_ret;exact⟨rfl,HB.out⟩
 focus
  refine sH 4 (some 16) hHeld ?_;refine sH 5 (some 17) hHeld ?_;refine sH 6 (some 18) hHeld ?_;refine sH 7 (some 19) hHeld ?_;refine X8 8 (some 20) hHeld ?_
 rotate_left
 all_goals
  try simp only[Act.put,sA,sZ,sS]
  refine sH 9 (some 21) hHeld ?_;refine sH 10 (some 22) hHeld ?_;refine sH 11 (some 23) hHeld ?_;refine sH 12 (some 24) hHeld ?_;refine sH 13 (some 25) hHeld ?_;refine sH 14 (some 26) hHeld ?_;refine sH 15 (some 27) hHeld ?_;refine sH 16 (some 28) hHeld ?_;refine sH 17 (some 29) hHeld ?_;refine sH 18 (some 30) hHeld ?_
 focus
  refine VR 19 31 hHeld ?_
 rotate_left
 focus
  refine X8 19 (some 31) hHeld ?_
 rotate_left
 all_goals
  try simp only[Act.put,sA,sZ,sS]
  refine tH 20 32 hHeld ?_;refine tH 21 4 hHeld ?_;refine iR ?_;have HB:=uH (HB0.out.trans (hb2.mono HB0.out.size));clear hb2 hgr hHeld;go_wp2_with fail;go_ret;exact⟨rfl,HB.out⟩
theorem wV {W0 W:World} {p0 p:Mp} {m:Mc} {k:Wk} {v:KV} {s:Sh} (h:Mx W0 p0 W p m who k v s) {q:Qu} {tb:Nat} (hst:k.st=8) (hv:v.queue=ptr tb) (hg:iX W tb p.mb p.wb q s.ws s.tc) (hL:In W p.ow (8+who) tb) (ok:fH m.cf q) (hM:aA m.cf) (hm:vC m.cf s.ws) (ht:(s.tc:Int)<=4000000000000000000) (eZ:q.st<=7):Calls prog 70 #[ptr p.gb,.i who] W (bV W0 p0 m who (k.leaves m.cf who q s).1 (k.leaves m.cf who q s).2):=by
 unfold Wk.leaves;dsimp only
 by_cases h8:(q.step s.ws).1.st=8
 ·rw[if_neg (fun e=>e h8)]
  by_cases he:(q.step s.ws).1.e=8
  ·rw[if_pos he];exact Cq h hst hv hg hL ok hM hm ht eZ h8 he
  ·rw[if_neg he];exact Ej h hst hv hg hL ok hM hm ht eZ h8 he
 ·rw[if_pos h8];exact Iy h hst hv hg hL ok hM hm ht eZ h8
theorem Co {W0 W:World} {p0 p:Mp} {m:Mc} {k:Wk} {v:KV} {s:Sh} (h:Mx W0 p0 W p m who k v s) (hst:k.st=6) (hh:k.half=false) (hM:aA m.cf) (hwn:(who:Int) < m.cf.workers) (hm:vC m.cf s.ws) (ht:(s.tc:Int)<=4000000000000000000) (hgr:granted m.cf who s≠0):Calls prog 68 #[ptr p.gb,.i who] W (bV W0 p0 m who {k with st:=7,word:=granted m.cf who s,half:=true} (s.cells (s.ws,1))):=by
 obtain⟨hx0,hx1,hx2⟩:=idx h.hw;have hlen:=hm.len;have g9:W.cell? ⟨p.gb,9,none⟩=some (.slice (some ⟨p.kb,0,none⟩) m.ks.length m.ks.length):=h.az 9;have hgd:=nY h hM hwn hlen;rw[decide_eq_true hgr]at hgd;have HWK:=uH (fun(w':World) (h':Mx W0 p0 w' p m who {k with st:=7} v s)=>wU h' rfl hh hM hwn hlen ht);have H:=uH h;clear h hst hh hM hwn hm hlen ht hgr
 go_enter func68,ntmps68
 go_wp2_with fail;refine hgd.mono ?_;rintro e w1 ⟨rfl,hb1⟩;have h1:=H.out.below hb1;have u0:w1.cell? ⟨p.kb,who * 35,none⟩=some (.i k.st):=h1.aL 0 rfl;have uf0:w1.frozen? ⟨p.kb,who * 35,none⟩=false:=h1.dZ 0 aT;have h2:=h1.put 0 aT (.i 7) (k':={k with st:=7}) (v':=v) rfl;have H2:=uH h2;clear h1 h2 hgd hb1;go_upto_region 3 with(fail);have hwk:=HWK.out _ H2.out;rw[show w1.setCell ⟨p.kb,who * 35+0,none⟩ (.i 7)=w1.setCell ⟨p.kb,who * 35,none⟩ (.i 7) from rfl]at hwk;clear H2;generalize w1.setCell ⟨p.kb,who * 35,none⟩ (.i 7)=w2 at *;clear u0 uf0;go_wp2_with fail;refine hwk.mono ?_;rintro e w9 ⟨rfl,p9,v9,h9,a9⟩;have H9:=uH h9;have A9:=uH a9;clear hwk h9 a9;go_wp2_with fail
 first | go_end0 | refine bP ?_
 exact⟨rfl,p9,v9,H9.out,A9.out⟩
theorem zI {W0 W:World} {p0 p:Mp} {m:Mc} {k:Wk} {v:KV} {s:Sh} (h:Mx W0 p0 W p m who k v s) (hst:k.st=6) (hh:k.half=false) (hM:aA m.cf) (hwn:(who:Int) < m.cf.workers) (hm:vC m.cf s.ws) (ht:(s.tc:Int)<=4000000000000000000) (hgr:¬ granted m.cf who s≠0):Calls prog 68 #[ptr p.gb,.i who] W (bV W0 p0 m who (({k with queue:=some (Qu.leave m.cf who),st:=8}:Wk).leaves m.cf who (Qu.leave m.cf who) s).1 (({k with queue:=some (Qu.leave m.cf who),st:=8}:Wk).leaves m.cf who (Qu.leave m.cf who) s).2):=by
 obtain⟨hx0,hx1,hx2⟩:=idx h.hw;have hlen:=hm.len;have g9:W.cell? ⟨p.gb,9,none⟩=some (.slice (some ⟨p.kb,0,none⟩) m.ks.length m.ks.length):=h.az 9;have hgd:=nY h hM hwn hlen;rw[decide_eq_false hgr]at hgd;have HLV:=uH (fun(w':World) (tb:Nat) (h':Mx W0 p0 w' p m who {k with queue:=some (Qu.leave m.cf who),st:=8} {v with queue:=ptr tb} s) (hg:iX w' tb p.mb p.wb (Qu.leave m.cf who) s.ws s.tc) (hL:In w' p.ow (8+who) tb)=>wV h' rfl rfl hg hL (fH.leave ⟨ag,hwn⟩) hM hm ht (by simp[Qu.leave]));have H:=uH h;have WG:=fun W=>Eo W m.cf who
 simp only[Cf.val,Cf.cells]at WG;clear h hst hh hM hwn hm hlen ht hgr
 go_enter func68,ntmps68
 go_wp2_with fail;refine hgd.mono ?_;rintro e w1 ⟨rfl,hb1⟩;have h1:=H.out.below hb1;have d0:w1.cell? ⟨p.gb,0,none⟩=some (.i m.cf.workers):=h1.az 0;have d1:w1.cell? ⟨p.gb,1,none⟩=some (.i m.cf.slots):=h1.az 1;have d2:w1.cell? ⟨p.gb,2,none⟩=some (.i m.cf.streams):=h1.az 2;have d3:w1.cell? ⟨p.gb,3,none⟩=some (.i m.cf.waiters):=h1.az 3;have d4:w1.cell? ⟨p.gb,4,none⟩=some (.i m.cf.uses):=h1.az 4;have hq:=WG w1;have H1:=uH h1;clear h1 hgd hb1 WG;go_wp2_with fail;refine hq.mono ?_;rintro e w2 ⟨tb,rfl,hr,hge,hb2⟩;have h2:=H1.out.below hb2;have how:p.ow tb=8+who:=H1.out.fresh tb hge;have hne:¬ tb=p.kb:=fun e=>by have:=h2.core.lk;rw[e]at how;have h7:p.ow p.kb=7:=this;omega
 have u13:w2.cell? ⟨p.kb,who * 35+13,none⟩=some (v.queue):=h2.aL 13 rfl;have ZA:w2.frozen? ⟨p.kb,who * 35+13,none⟩=false:=h2.dZ 13 aT;have h3:=h2.put 13 aT (ptr tb) (k':={k with queue:=some (Qu.leave m.cf who)}) (v':={v with queue:=ptr tb}) rfl;have hr3:=af.aK hr ((aD.refl (fun b=>b=p.kb) _).setCell ⟨p.kb,who * 35+13,none⟩ (ptr tb) (fun _=>rfl)) hne;have H3:=uH h3;have HR3:=uH hr3;have HOW:=uH how;have GV:=uH hne;clear h2 h3 hr hr3 hge hb2 hq how hne;go_upto_region 5 with(fail);generalize w2.setCell ⟨p.kb,who * 35+13,none⟩ (ptr tb)=w3 at *;clear u13 ZA;have e0:w3.cell? ⟨p.kb,who * 35,none⟩=some (.i k.st):=H3.out.aL 0 rfl;have U0:w3.frozen? ⟨p.kb,who * 35,none⟩=false:=H3.out.dZ 0 aT;have h4:=H3.out.put 0 aT (.i 8) (k':={k with queue:=some (Qu.leave m.cf who),st:=8}) (v':={v with queue:=ptr tb}) rfl
 have hr4:=af.aK HR3.out ((aD.refl (fun b=>b=p.kb) _).setCell ⟨p.kb,who * 35+0,none⟩ (.i 8) (fun _=>rfl)) GV.out;have hlv:=HLV.out _ tb h4 ⟨hr4,h4.mem,h4.apart HOW.out⟩ ⟨af.lt hr4,HOW.out⟩;rw[show w3.setCell ⟨p.kb,who * 35+0,none⟩ (.i 8)=w3.setCell ⟨p.kb,who * 35,none⟩ (.i 8) from rfl]at hlv;clear h4 hr4;go_upto_region 6 with(fail);generalize w3.setCell ⟨p.kb,who * 35,none⟩ (.i 8)=w4 at *;clear e0 U0;go_wp2_with fail;refine hlv.mono ?_;rintro e w9 ⟨rfl,p9,v9,h9,a9⟩;have H9:=uH h9;have A9:=uH a9;clear hlv h9 a9;go_wp2_with fail
 first | go_end0 | refine bP ?_
 exact⟨rfl,p9,v9,H9.out,A9.out⟩
end Mc
end Go.Proofs.YtbklamnimfmjkaaGreatDoor
