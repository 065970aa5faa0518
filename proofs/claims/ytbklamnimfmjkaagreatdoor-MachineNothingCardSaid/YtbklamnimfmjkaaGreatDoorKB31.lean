/- Part 31 of the walks and plain laws that the last text joins. -/
import Derived.Test.YtbklamnimfmjkaaGreatDoorKB30
set_option maxRecDepth 100000
set_option maxHeartbeats 16000000
set_option linter.all false
open Go.Proofs.Tryz
namespace Go.Proofs.YtbklamnimfmjkaaGreatDoor
namespace Mc
open Go.RowKit Hp ah aj Slot ai Tk Cl Find
theorem Ch {P:Program} (W:World) (r:Nat) (t kt et:TypeId) (es:Array MapEntry) (clock:Nat) (k:Int) (i:Nat) (v:Value) (hu:P.underlying t=some (.map kt et)) (hk:P.underlying kt=some (.int .i64))
  (hb:W.heap[r]? =some (.map es clock)) (hf:Instr.findNow (.int .i64) (.i k) es.toList 0=some (some (i,v))):
  (Instr.lookup t (.map (some r)) (.i k) false).run P W=.ok v W:=by
 simp[Instr.lookup,run_underlying hu,MapKept.run_getObj_map hb,MapKept.run_checkKey (k:=.i k) hk rfl,MapKept.run_findKey hk hf,Result.andThen]
theorem Wt {w:World} {g off:Nat} {z u:Value} {F:Nat} {cs:Array Value} (hu:u=.func (.func F) #[] cs) (hc:w.cell? ⟨g,off,none⟩=some z) (hf:w.frozen? ⟨g,off,none⟩=false):(Instr.storeAt 1 (.pointer (some ⟨g,off,none⟩)) u).run prog w=.ok () (w.setCell ⟨g,off,none⟩ u):=by
 subst hu
 go_simp
variable {who:Nat}
theorem fZ.fn {W:World} {gb mb wb:Nat} {L:Nat->Prop} {ws:List Int} {tc:Int} {c:Cf} {j:Az} {u:Value} (h:fZ W gb mb wb L who ws tc c j u):∃ F cs,u=.func (.func F) #[] cs:=by
 cases j with
 | get t=>obtain⟨b1,b2,b3,tb,lo,ro,h1,-⟩:=h;exact⟨_,_,h1.v⟩
 | give g=>obtain⟨b1,b2,b3,tb,ro,h1,-⟩:=h;exact⟨_,_,h1.v⟩
 | stream x=>obtain⟨b1,b2,b3,tb,s1,s2,bv,h1,-⟩:=h;exact⟨_,_,h1.v⟩
 | close f q=>obtain⟨b1,b2,b3,b4,h1,-⟩:=h;exact⟨_,_,h1⟩
 | stats t=>obtain⟨b1,b2,b3,tb,vr,vl,h1,-⟩:=h;exact⟨_,_,h1.v⟩
 | bO r=>obtain⟨b1,b2,b3,ab,fb,ro,h1,-⟩:=h;exact⟨_,_,h1.v⟩
theorem TA {W0 W:World} {p0 p:Mp} {m:Mc} {k:Wk} {v:KV} {s:Sh} {b2 b3 b5 b6 b7:Nat} (h:Mx W0 p0 W p m who k v s) (hj:qz W p.gb p.kb who m.cf k.ask b2 b3 b5 b6 b7) (hop:0<=k.ask.op/\k.ask.op < 8) (hg:k.grant<=1000):∃ i F caps,Instr.findNow (.int .i64) (.i k.ask.op) (K8 b2 b3 b5 b6 b7).toList 0=some (some (i,.func (.func F) #[] caps))/\(∀ args w,(callFunc F args).run prog w=.ok (.enter F args) w)/\
  Calls prog F caps W (uW W p.gb p.mb p.wb who s.ws s.tc m.cf (k.begin m.cf who)):=by
 have hcs:k.ask.op=0\/k.ask.op=1\/k.ask.op=2\/k.ask.op=3\/k.ask.op=4\/k.ask.op=5\/k.ask.op=6\/k.ask.op=7:=ag
 unfold Wk.begin
 rcases hcs with e | e | e | e | e | e | e | e<;>rw[e]
 ·by_cases hgr:0 < k.grant
  ·exact⟨0,100,_,rfl,aH func100,by rw[if_pos rfl,if_pos hgr];exact Cg h hj ⟨hgr,hg⟩⟩
  ·exact⟨0,100,_,rfl,aH func100,by rw[if_pos rfl,if_neg hgr];exact O1 h hj hgr⟩
 ·exact⟨1,102,_,rfl,aH func102,by simpa using OT h hj⟩
 ·exact⟨2,105,_,rfl,aH func105,by simpa using OU h hj⟩
 ·exact⟨3,106,_,rfl,aH func106,by simpa using OV h hj⟩
 ·exact⟨4,109,_,rfl,aH func109,by simpa using OW h hj⟩
 ·exact⟨5,111,_,rfl,aH func111,by simpa using O0 h hj⟩
 ·exact⟨6,113,_,rfl,aH func113,by simpa using OY h hj⟩
 ·exact⟨7,115,_,rfl,aH func115,by simpa using OX h hj⟩
theorem Ii {W0 W:World} {p0 p:Mp} {m:Mc} {k:Wk} {v:KV} {s:Sh} (h:Mx W0 p0 W p m who k v s) (hst:k.st=1) (hh:k.half=false) (hlen:2 < s.ws.length) (ht:(s.tc:Int)<=4000000000000000000):Calls prog 63 #[ptr p.gb,.i who] W (bV W0 p0 m who {k with word:=rd s.ws 2,half:=true} (s.cells (s.ws,1))):=by
 obtain⟨hx0,hx1,hx2⟩:=idx h.hw;have g5:W.cell? ⟨p.gb,5,none⟩=some (ptr p.mb):=h.az 5;have g9:W.cell? ⟨p.gb,9,none⟩=some (.slice (some ⟨p.kb,0,none⟩) m.ks.length m.ks.length):=h.az 9;have k8:W.cell? ⟨p.kb,who * 35+8,none⟩=some (.bool k.half):=h.aL 8 rfl;rw[hh]at k8;have hld:Calls prog 56 #[ptr p.mb,.i 2] W _:=aU h.mem ⟨ag,ht⟩ 2 _ (rd_some hlen);generalize rd s.ws 2=x at *;have H:=uH h;have HST:=uH hst;clear h hst hh hlen ht
 go_enter func63,ntmps63
 go_wp2_with fail;refine hld.mono ?_;rintro e w1 ⟨rfl,hm1,hc1⟩;have h1:Mx W0 p0 w1 p m who k v {s with ws:=s.ws,tc:=s.tc+1}:=H.out.bU hc1 hm1;have u9:w1.cell? ⟨p.kb,who * 35+9,none⟩=some (.i k.word):=h1.aL 9 rfl;have Zi:w1.frozen? ⟨p.kb,who * 35+9,none⟩=false:=h1.dZ 9 aT;have h2:=h1.put 9 aT (.i x) (k':={k with word:=x}) (v':=v) rfl;have H2:=uH h2;clear h1 h2 hld hm1 hc1;go_upto_region 3 with(fail);generalize w1.setCell ⟨p.kb,who * 35+9,none⟩ (.i x)=w2 at *;have e8:w2.cell? ⟨p.kb,who * 35+8,none⟩=some (.bool k.half):=H2.out.aL 8 rfl;have Wu:=H2.out.dZ 8 aT;clear u9 Zi;go_wp2_with fail
 first | go_end0 | refine bP ?_
 have h3:=H2.out.put 8 aT (.bool true) (k':={k with word:=x,half:=true}) (v':=v) rfl;exact⟨rfl,p,v,h3,⟨fun e=>absurd (HST.out.symm.trans e) aT,fun e=>absurd (HST.out.symm.trans e) aT,fun e=>e.elim (fun e=>absurd (HST.out.symm.trans e) aT) (fun e=>absurd (HST.out.symm.trans e) aT),fun e=>absurd (HST.out.symm.trans e) aT⟩⟩
theorem Ij {W0 W:World} {p0 p:Mp} {m:Mc} {k:Wk} {v:KV} {s:Sh} (h:Mx W0 p0 W p m who k v s) (hst:k.st=1) (hh:k.half=true) (hM:aA m.cf) (hwn:(who:Int) < m.cf.workers) (hop:0<=k.ask.op/\k.ask.op < 8) (hg:k.grant<=1000) (hlen:s.ws.length=sc m.cf (ns m.cf)) (ht:(s.tc:Int)<=4000000000000000000):Calls prog 63 #[ptr p.gb,.i who] W (bV W0 p0 m who {k with half:=false,bq:=some (k.begin m.cf who),st:=2} (s.cells (s.ws.set (Ty.pc who) (wrap64 (k.word+1)),1))):=by
 obtain⟨hx0,hx1,hx2⟩:=idx h.hw;have g9:W.cell? ⟨p.gb,9,none⟩=some (.slice (some ⟨p.kb,0,none⟩) m.ks.length m.ks.length):=h.az 9;have k8:W.cell? ⟨p.kb,who * 35+8,none⟩=some (.bool k.half):=h.aL 8 rfl;rw[hh]at k8;have kf8:W.frozen? ⟨p.kb,who * 35+8,none⟩=false:=h.dZ 8 aT;have hpn:=fun W=>vw W m.cf who (by have:=hM.w;omega) hwn
 have hpc:(3+(who:Int))=((Ty.pc who:Nat):Int):=by unfold Ty.pc;omega
 simp only[hpc,Cf.val,Cf.cells]at hpn;have hlt:Ty.pc who < s.ws.length:=by rw[hlen];have:=hM.nw;unfold Ty.pc sc;omega
 have hsm:=fun(w':World) (hm:bB w' p.mb p.wb s.ws s.tc)=>gu hm ⟨ag,ht⟩ (Ty.pc who) _ (rd_some hlt) (wrap64 (k.word+1))
 have HPN:=uH hpn;have UZ:=uH hsm;clear hpn hsm hpc hlt;have h1:=h.put 8 aT (.bool false) (k':={k with half:=false}) (v':=v) rfl;have H1:=uH h1;have HOP:=uH hop;have HG:=uH hg;clear h h1 hst hh hM hwn hop hg hlen ht;generalize hpc:Ty.pc who=pc at *;have HPC:=uH hpc;clear hpc
 go_enter func63,ntmps63
 go_upto_region 5 with(fail);generalize W.setCell ⟨p.kb,who * 35+8,none⟩ (.bool false)=w1 at *;clear g9 k8 kf8;have h1:=H1.out.below bY;have g0:w1.cell? ⟨p.gb,0,none⟩=some (.i m.cf.workers):=H1.out.az 0;have g1:w1.cell? ⟨p.gb,1,none⟩=some (.i m.cf.slots):=H1.out.az 1;have g2:w1.cell? ⟨p.gb,2,none⟩=some (.i m.cf.streams):=H1.out.az 2;have g3:w1.cell? ⟨p.gb,3,none⟩=some (.i m.cf.waiters):=H1.out.az 3;have g4:w1.cell? ⟨p.gb,4,none⟩=some (.i m.cf.uses):=H1.out.az 4;have g5:w1.cell? ⟨p.gb,5,none⟩=some (ptr p.mb):=H1.out.az 5;have k9:w1.cell? ⟨p.kb,who * 35+9,none⟩=some (.i k.word):=H1.out.aL 9 rfl;have HD:=uH h1;clear h1
 go_region_held3 (fun w'=>w'.cell? ⟨p.gb,0,none⟩=some (.i m.cf.workers)/\w'.cell? ⟨p.gb,1,none⟩=some (.i m.cf.slots)/\w'.cell? ⟨p.gb,2,none⟩=some (.i m.cf.streams)/\w'.cell? ⟨p.gb,3,none⟩=some (.i m.cf.waiters)/\w'.cell? ⟨p.gb,4,none⟩=some (.i m.cf.uses)/\w'.cell? ⟨p.gb,5,none⟩=some (ptr p.mb)/\w'.cell? ⟨p.kb,who * 35+9,none⟩=some (.i k.word)) (first | go_keep | exact⟨aI,aI,aI,aI,aI,aI,aI⟩)
  ((first
  | (go_at_call 80;refine(HPN.out _).mono ?_;rintro e w2 ⟨rfl,hb2⟩;have h2:=HD.out.below hb2;have d0:w2.cell? ⟨p.gb,0,none⟩=some (.i m.cf.workers):=h2.az 0;have d1:w2.cell? ⟨p.gb,1,none⟩=some (.i m.cf.slots):=h2.az 1;have d2:w2.cell? ⟨p.gb,2,none⟩=some (.i m.cf.streams):=h2.az 2;have d3:w2.cell? ⟨p.gb,3,none⟩=some (.i m.cf.waiters):=h2.az 3;have d4:w2.cell? ⟨p.gb,4,none⟩=some (.i m.cf.uses):=h2.az 4;have d5:w2.cell? ⟨p.gb,5,none⟩=some (ptr p.mb):=h2.az 5;have dk9:w2.cell? ⟨p.kb,who * 35+9,none⟩=some (.i k.word):=h2.aL 9 rfl)
  | (go_at_call 81;refine(yl _ k.word).mono ?_;rintro e w3 ⟨rfl,rfl⟩)
  | (go_at_call 57;first | (refine(UZ.out w2 h2.mem).mono ?_;rintro e w4 ⟨rfl,Oi,hc4⟩;have h4:Mx W0 p0 w4 p m who {k with half:=false} v {s with ws:=s.ws.set pc (wrap64 (k.word+1)),tc:=s.tc+1}:=h2.bU hc4 Oi;have e0:w4.cell? ⟨p.gb,0,none⟩=some (.i m.cf.workers):=h4.az 0;have e1:w4.cell? ⟨p.gb,1,none⟩=some (.i m.cf.slots):=h4.az 1;have e2:w4.cell? ⟨p.gb,2,none⟩=some (.i m.cf.streams):=h4.az 2;have e3:w4.cell? ⟨p.gb,3,none⟩=some (.i m.cf.waiters):=h4.az 3;have e4:w4.cell? ⟨p.gb,4,none⟩=some (.i m.cf.uses):=h4.az 4;have e5:w4.cell? ⟨p.gb,5,none⟩=some (ptr p.mb):=h4.az 5;have ek9:w4.cell? ⟨p.kb,who * 35+9,none⟩=some (.i k.word):=h4.aL 9 rfl))))
 have H4:=uH h4;have hjb:=La (h4.below bY);have HJB:=uH hjb;clear h2 h4 hjb hb2 Oi hc4;go_upto_region 6 with(fail);have hS:∀ w',Below w4.heap.size w4 w'->w'.cell? ⟨p.kb,who * 35+1,none⟩=some (.i k.ask.op):=fun w' hb=>(H4.out.below hb).aL 1 rfl
 have HS:=uH hS;clear hS;refine jr (S:=(fun w'=>w'.cell? ⟨p.kb,who * 35+1,none⟩=some (.i k.ask.op))) (by exact HS.out _ bY) (fun hHeld=>?_);refine tH 0 46 hHeld ?_;refine tH 1 47 hHeld ?_;refine tH 2 48 hHeld ?_;refine tH 4 50 hHeld ?_;refine tH 5 51 hHeld ?_;refine tH 6 52 hHeld ?_;refine tH 7 53 hHeld ?_;refine tH 8 54 hHeld ?_;refine mP (i:=3) 82 #[.tmp 47,.tmp 48] #[29,3] (some 49) none #[ptr p.gb,.i who] (aH func82) ?_;refine HJB.out.mono ?_;rintro e w5 ⟨r5,b2,b3,b5,b6,b7,rfl,hbx,JK,hb5⟩;have kM:Below w4.heap.size w4 w5:=aW bY hb5;have h5:=H4.out.below kM;obtain⟨ji,jF,jc,jf,jE,jC⟩:=TA h5 hbx HOP.out HG.out;refine⟨_,rfl,HS.out _ kM,fun hHeld=>ay ?_⟩
 refine aX (i:=9) ax (aY (some 55) (.func (.func jF) #[] jc) ax ax (w':=w5) ?_ (HS.out _ kM) (fun hHeld=>?_))
 ·have hlk:=Ch (P:=prog) w5 r5 123 3 122 _ 8 k.ask.op ji _ underlying123 underlying3 JK jf
  go_simp
  try rfl
 try simp only[Act.put,sA,sZ,sS]
 refine aX (i:=10) ax (kI jF 55 #[] #[] (some 56) jc ax rfl jc au jE ?_);refine jC.mono ?_;rintro e w6 ⟨u,rfl,hJ,hb6⟩;have kS:Below w4.heap.size w4 w6:=aW kM hb6;have h6:=h5.below hb6;obtain⟨uF,TB,Yb⟩:=hJ.fn;refine⟨_,rfl,HS.out _ kS,fun hHeld=>ay ?_⟩
 refine tH 11 57 hHeld ?_;refine tH 12 58 hHeld ?_;have u11:w6.cell? ⟨p.kb,who * 35+11,none⟩=some v.work:=h6.aL 11 rfl;have Ik:=h6.dZ 11 aT;have h7:=h6.put 11 aT u (k':={k with half:=false}) (v':={v with work:=u}) rfl;refine aX (i:=13) ax (bG 1 (.tmp 58) (.tmp 56) ax p.kb (who * 35+11) u ax ax (fun _=>Wt Yb u11 Ik) (h7.aL 1 rfl) (fun hHeld=>ay ?_))
 refine iR ?_;have Zj:aD (fun b=>b=p.kb) w6 (w6.setCell ⟨p.kb,who * 35+11,none⟩ u):=(aD.refl _ _).setCell _ _ (fun _=>rfl);have hs5:=kM.size;have hJ7:=hJ.aK (L':=In (w6.setCell ⟨p.kb,who * 35+11,none⟩ u) p.ow (8+who)) Zj (fun e=>by have h7:p.ow p.kb=7:=h6.core.lk;have h0:p.ow 0=0:=h6.core.l0.1;rw[<- e,h0]at h7;omega) (fun b hb e=>by have:=h6.core.uU;have hh:p.kb < w6.heap.size:=this;have hh2:=h5.core.uU;have hh3:p.kb < w5.heap.size:=hh2;omega) h7.mem (fun b hb=>⟨by have:=Zj.size;omega,h5.fresh b hb.1⟩);have H7:=uH h7;have HJ7:=uH hJ7;generalize w6.setCell ⟨p.kb,who * 35+11,none⟩ u=w7 at *;clear hJ hJ7 h7 h6 h5 Zj u11 Ik Yb jf jE jC hbx JK hb5 hb6 kM kS hHeld;have e0:w7.cell? ⟨p.kb,who * 35,none⟩=some (.i k.st):=H7.out.aL 0 rfl;have U0:w7.frozen? ⟨p.kb,who * 35,none⟩=false:=H7.out.dZ 0 aT;go_wp2_with fail
 first | go_end0 | refine bP ?_
 have h8:=H7.out.put 0 aT (.i 2) (k':={k with half:=false,st:=2,bq:=some (k.begin m.cf who)}) (v':={v with work:=u}) rfl;have hc8:aD (fun b=>b=p.kb) w7 (w7.setCell ⟨p.kb,who * 35,none⟩ (.i 2)):=(aD.refl _ _).setCell _ _ (fun _=>rfl);have hJ8:=HJ7.out.aK (L':=In (w7.setCell ⟨p.kb,who * 35,none⟩ (.i 2)) p.ow (8+who)) hc8 (fun e=>by have h7:p.ow p.kb=7:=H7.out.core.lk;have h0:p.ow 0=0:=H7.out.core.l0.1;rw[<- e,h0]at h7;omega) (fun b hb e=>H7.out.SN hb e) h8.mem (fun b hb=>hb.mono hc8.size);exact⟨rfl,p,_,h8,⟨fun _=>⟨_,rfl,hJ8⟩,fun e=>absurd (show(2:Nat)=3 from e) aT,fun e=>absurd (show(2:Nat)=4\/(2:Nat)=8 from e) aT,fun e=>absurd (show(2:Nat)=5 from e) aT⟩⟩
end Mc
end Go.Proofs.YtbklamnimfmjkaaGreatDoor
