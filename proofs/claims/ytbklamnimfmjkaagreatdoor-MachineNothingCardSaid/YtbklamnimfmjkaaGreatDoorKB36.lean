/- Part 36 of the walks and plain laws that the last text joins. -/
import Derived.Test.YtbklamnimfmjkaaGreatDoorKB35
set_option maxRecDepth 100000
set_option maxHeartbeats 16000000
set_option linter.all false
open Go.Proofs.Tryz
namespace Go.Proofs.YtbklamnimfmjkaaGreatDoor
namespace Mc
open Go.RowKit Hp ah aj Slot ai Tk Cl
theorem Cm {W0 W:World} {p0 p:Mp} {m:Mc} {who:Nat} {k:Wk} {v:KV} {s:Sh} (h:Mx W0 p0 W p m who k v s) {t:Ty.Ty} {tb:Nat} {lo ro:Option Nat} (hst:k.st=5) (hv:v.tidy=ptr tb) (hg:bu W tb p.mb p.wb lo ro t s.ws s.tc) (hd:∀ b,jo tb lo ro b->In W p.ow (8+who) b) (ok:BZ m.cf who t) (hM:aA m.cf) (hm:Ia m.cf s.ws) (ht:(s.tc:Int)<=4000000000000000000) (hdn:(t.step s.ws).1.st=17) (hpk:k.dO=false) (hev:m.evs.length<=100000000):Calls prog 67 #[ptr p.gb,.i who] W (bV W0 p0 (m.told {k.ans with ended:=true,who:=who,at':=m.at',ask:=k.ask}) who ({k with tidy:=some (t.step s.ws).1,st:=0}) (s.cells (t.step s.ws).2)):=by
 obtain⟨hx0,hx1,hx2⟩:=idx h.hw;have hcf:=ok.cf;have bJ:=tV (hg.below bY) (by rw[hm.l.len];exact ok.ok) ⟨fun o ho=>hm.pin o (by rw[<- hcf];exact ho),by obtain⟨L,hL⟩:=hm.l.line;have:=hL.bd hM;omega⟩ ⟨ag,ht⟩;unfold mJ kY at bJ;rw[decide_eq_true hdn]at bJ;obtain⟨r,hr⟩:∃ r,r=t.step s.ws:=⟨_,rfl⟩
 rw[<- hr]at bJ hdn ⊢;clear hr;obtain⟨g2,jq,n2⟩:=r;dsimp only at bJ hdn ⊢;have g5:W.cell? ⟨p.gb,5,none⟩=some (ptr p.mb):=h.az 5;have g9:W.cell? ⟨p.gb,9,none⟩=some (.slice (some ⟨p.kb,0,none⟩) m.ks.length m.ks.length):=h.az 9;have k14:W.cell? ⟨p.kb,who * 35+14,none⟩=some (ptr tb):=(h.aL 14 (u:=v.tidy) rfl).trans (by rw[hv]);have hdr:Below W.heap.size W W.drew:=bY;have H:=uH (h.below hdr);have hd0:∀ b,jo tb lo ro b->In W.drew p.ow (8+who) b:=fun b hb=>(hd b hb).mono hdr.size
 have HD:=uH hd0;have HST:=uH hst;have HV:=uH hv;have ZB:=uH hpk;have YY:=uH hev;clear h hst hv hd hd0 hdr ok hM hm ht hcf hg hdn hpk hev
 go_enter func67,ntmps67
 go_wp2_with fail
 go_region_held3 (fun w'=>w'.cell? ⟨p.kb,who * 35+14,none⟩=some (ptr tb)/\w'.cell? ⟨p.gb,5,none⟩=some (ptr p.mb)) (first | go_keep | exact⟨aI,aI⟩)
  ((first
  | (go_at_call 92;refine bJ.mono ?_;rintro e w5 ⟨rfl,jZ,iE,jD,xh,IE,gz⟩;have eG:bu w5 tb p.mb p.wb jZ iE g2 jq ((s.tc+n2:Nat):Int):=jD;have h5:=H.out.mG (fun b hb=>HD.out b hb) gz eG.mem;have F5:=H.out.zK HD.out gz.size (tu xh IE) (bu.Dc eG);have TG:w5.cell? ⟨p.kb,who * 35+14,none⟩=some (ptr tb):=(h5.aL 14 (u:=v.tidy) rfl).trans (by rw[HV.out]);have d5:w5.cell? ⟨p.gb,5,none⟩=some (ptr p.mb):=h5.az 5)))
 have h6:=h5.same (k':={k with tidy:=some g2}) (v':=v) rfl;have e15:w5.cell? ⟨p.kb,who * 35+15,none⟩=some (.bool false):=(h6.aL 15 (u:=.bool k.dO) rfl).trans (by rw[ZB.out]);have H6:=uH h6;clear h5 h6 eG gz jD bJ F5 xh IE k14 g5 g9 TG d5;go_upto_region 4 with(fail);refine wp_region_lit ?_;refine gl (.pointer (some ⟨p.kb,who * 35,none⟩)) ?_;refine gl (.pointer (some ⟨p.kb,who * 35,none⟩)) ?_;refine gl (.pointer (some ⟨p.kb,who * 35+17,none⟩)) (ay ?_)
 refine wpList_load_mid rfl 47 (.tmp 31) rfl p.kb (who * 35+17) ax k.ans.cells.toList _ H6.out.range underlying47 rfl ax (ay ?_)
 simp only[Array.toArray_toList];refine dU (ob:=.cells Mod.Ev.zero.cells 47) (Z:=Mod.Ev.zero.cells) (cs:=k.ans.cells) (t:=47) 47 (.tmp 5) (.tmp 32) rfl (ay ?_)
 rw[aG];have h7:=H6.out.below (bZ.alloc aQ (.cells k.ans.cells 47));have r7:af (w5.alloc (.cells k.ans.cells 47)) w5.heap.size k.ans.cells 47:=heap_alloc_new w5 _;have how:p.ow w5.heap.size=8+who:=H6.out.fresh _ aQ;generalize w5.alloc (.cells k.ans.cells 47)=w7 at *;generalize w5.heap.size=eb at *;have HR7:=uH r7;have H7:=uH h7
 have hS:∀ w',aD (fun b=>b=eb) w7 w'->w'.cell? ⟨p.gb,11,none⟩=some (.i m.at')/\w'.cell? ⟨p.kb,who * 35+1,none⟩=some (.i k.ask.op)/\w'.cell? ⟨p.kb,who * 35+2,none⟩=some (.i k.ask.deadline)/\w'.cell? ⟨p.kb,who * 35+3,none⟩=some (.bool k.ask.wait)/\w'.cell? ⟨p.kb,who * 35+4,none⟩=some (.bool k.ask.force)/\w'.cell? ⟨p.kb,who * 35+5,none⟩=some (.i k.ask.slot)/\w'.cell? ⟨p.kb,who * 35+6,none⟩=some (.i k.ask.gen)/\w'.cell? ⟨p.kb,who * 35+7,none⟩=some (.i k.ask.stream):=fun w' hc=>by
  have hmm:bB w' p.mb p.wb jq ((s.tc+n2:Nat):Int):=H7.out.mem.aK hc (fun e=>by rw[<- e,show p.ow p.mb=2 from H7.out.core.lm]at how;omega) (fun e=>by rw[<- e,show p.ow p.wb=3 from H7.out.core.lw]at how;omega);have hx:=H7.out.obj hc (fun b _ e=>.inl (by rw[e];exact how)) hmm;exact⟨hx.az 11,hx.aL 1 rfl,hx.aL 2 rfl,hx.aL 3 rfl,hx.aL 4 rfl,hx.aL 5 rfl,hx.aL 6 rfl,hx.aL 7 rfl⟩
 have HS:=uH hS;have HOW:=uH how;clear h7 r7 hS how e15;go_upto_region 5 with(fail);refine jr (S:=(fun w'=>w'.cell? ⟨p.gb,11,none⟩=some (.i m.at')/\w'.cell? ⟨p.kb,who * 35+1,none⟩=some (.i k.ask.op)/\w'.cell? ⟨p.kb,who * 35+2,none⟩=some (.i k.ask.deadline)/\w'.cell? ⟨p.kb,who * 35+3,none⟩=some (.bool k.ask.wait)/\w'.cell? ⟨p.kb,who * 35+4,none⟩=some (.bool k.ask.force)/\w'.cell? ⟨p.kb,who * 35+5,none⟩=some (.i k.ask.slot)/\w'.cell? ⟨p.kb,who * 35+6,none⟩=some (.i k.ask.gen)/\w'.cell? ⟨p.kb,who * 35+7,none⟩=some (.i k.ask.stream))) (by exact HS.out _ (aD.refl _ _).drew) (fun hHeld=>?_);refine tH 0 33 hHeld ?_;refine tH 1 34 hHeld ?_;refine tH 2 35 hHeld ?_;refine tH 3 36 hHeld ?_;refine tH 4 37 hHeld ?_;refine tH 5 38 hHeld ?_;refine tH 6 39 hHeld ?_;refine tH 7 40 hHeld ?_;refine tH 8 41 hHeld ?_;refine tH 9 42 hHeld ?_;have r9:=af.drew HR7.out
 have tQ:aD (fun b=>b=eb) w7 w7.drew:=(aD.refl _ _).drew;have TH:aD (fun b=>b=eb) w7 (w7.drew.setCell ⟨eb,0,none⟩ (.bool true)):=tQ.setCell _ _ (fun _=>rfl);have zy:=af.aB r9 0 (.bool true);refine aX (i:=10) ax (bG 4 (.tmp 42) (.const (.bool true)) ax eb 0 (.bool true) ax ax (fun _=>stb r9 (by simp[Mod.Ev.cells])) (HS.out _ TH) (fun hHeld=>ay ?_))
 refine tH 11 43 hHeld ?_;have TI:aD (fun b=>b=eb) w7 ((w7.drew.setCell ⟨eb,0,none⟩ (.bool true)).setCell ⟨eb,1,none⟩ (.i who)):=TH.setCell _ _ (fun _=>rfl);have Oy:=af.aB zy 1 (.i who);refine aX (i:=12) ax (bG 3 (.tmp 43) (.tmp 33) ax eb 1 (.i who) ax ax (fun _=>sti zy (by simp[Mod.Ev.cells])) (HS.out _ TI) (fun hHeld=>ay ?_))
 refine tH 13 44 hHeld ?_;have IG:aD (fun b=>b=eb) w7 (((w7.drew.setCell ⟨eb,0,none⟩ (.bool true)).setCell ⟨eb,1,none⟩ (.i who)).setCell ⟨eb,2,none⟩ (.i m.at')):=TI.setCell _ _ (fun _=>rfl);have UX:=af.aB Oy 2 (.i m.at');refine aX (i:=14) ax (bG 3 (.tmp 44) (.tmp 37) ax eb 2 (.i m.at') ax ax (fun _=>sti Oy (by simp[Mod.Ev.cells])) (HS.out _ IG) (fun hHeld=>ay ?_))
 refine tH 15 45 hHeld ?_;have hc16:aD (fun b=>b=eb) w7 ((((w7.drew.setCell ⟨eb,0,none⟩ (.bool true)).setCell ⟨eb,1,none⟩ (.i who)).setCell ⟨eb,2,none⟩ (.i m.at')).setCells eb 3 ((Ag k.ask.op k.ask.deadline k.ask.wait k.ask.force k.ask.slot k.ask.gen k.ask.stream):Array Value).toList):=IG.trans (ek eb 3 _) (fun _ _ e=>e);refine aX (i:=16) ax (nX 35 (.tmp 45) (.tmp 41) ax eb 3 (Ag k.ask.op k.ask.deadline k.ask.wait k.ask.force k.ask.slot k.ask.gen k.ask.stream) ax ax (II UX (by simp[Mod.Ev.cells])) ax ax (HS.out _ hc16) (fun hHeld=>ay ?_))
 refine iR ?_;have r16:=Nv UX k.ask;rw[RA]at r16;have WH:=H7.out.mem.aK hc16 (fun e=>by have how:=HOW.out;rw[<- e,show p.ow p.mb=2 from H7.out.core.lm]at how;omega) (fun e=>by have how:=HOW.out;rw[<- e,show p.ow p.wb=3 from H7.out.core.lw]at how;omega);have h16:=H7.out.obj hc16 (fun b _ e=>.inl (by rw[e];exact HOW.out)) WH;clear r9 zy Oy UX tQ TH TI IG hc16 WH hHeld;generalize ((((w7.drew.setCell ⟨eb,0,none⟩ (.bool true)).setCell ⟨eb,1,none⟩ (.i who)).setCell ⟨eb,2,none⟩ (.i m.at')).setCells eb 3 ((Ag k.ask.op k.ask.deadline k.ask.wait k.ask.force k.ask.slot k.ask.gen k.ask.stream):Array Value).toList)=w8 at *;generalize hy:({k.ans with ended:=true,who:=who,at':=m.at',ask:=k.ask}:Mod.Ev)=y at *;have H8:=uH h16;have ZC:=uH r16;clear h16 r16;have cg0:w8.cell? ⟨p.gb,8,none⟩=some p.ev:=H8.out.az 8
 have YP:p.gb < w8.heap.size:=H8.out.core.qp;have hD:=H8.out.below bY;have h9:=hD.below (bZ.alloc aQ (.cells y.cells 47));have r9:af (w8.drew.alloc (.cells y.cells 47)) eb y.cells 47:=(af.drew ZC.out).alloc _;have q9:af (w8.drew.alloc (.cells y.cells 47)) w8.heap.size y.cells 47:=af.new w8.drew _ _;have YZ:w8.drew.cell? ⟨p.gb,8,none⟩=some p.ev:=hD.az 8;have SX:(w8.drew.alloc (.cells y.cells 47)).cell? ⟨p.gb,8,none⟩=some p.ev:=h9.az 8;have hown:bR (w8.drew.alloc (.cells y.cells 47)) p.ev m.evs.length 18 (gL m.evs):=h9.core.evs;have H9:=uH h9;clear hD h9;go_upto_region 6 with(fail);refine jr (S:=(fun w'=>af w' eb y.cells 47)) (by exact af.drew ZC.out) (fun hHeld=>?_);refine tH 0 46 hHeld ?_;refine tH 1 47 hHeld ?_;refine tH 2 48 hHeld ?_;refine tH 3 49 hHeld ?_
 refine iC (gd:=none) 5 51 (.load 47 (.tmp 5)) (.agg y.cells) (aM 47 (.tmp 5) eb 47 y.cells _ ax underlying47 rfl ax (fun w h=>h)) hHeld (ay ?_)
 refine gI (i:=4) (k:=6) ax ?_ ?_
 focus
  refine aY (some 50) p.ev ax ax (w':=w8.drew) (by clear hHeld;go_simp;try rfl) (af.drew ZC.out) (fun hHeld=>ay ?_)
  refine aX (i:=6) ax (ja (d:=some 52) (.tmp 51) ax y ax r9 (fun hHeld=>?_))
 rotate_left
 focus
  refine ja (d:=some 52) (.tmp 51) ax y ax r9 (fun hHeld=>ay ?_)
  refine aX (i:=4) ax (aY (some 50) p.ev ax ax (w':=(w8.drew.alloc (.cells y.cells 47))) (by clear hHeld;go_simp;try rfl) r9 (fun hHeld=>?_))
 rotate_left
 all_goals
  try simp only[Act.put,sA,sZ,sS]
  refine aX (i:=7) ax (nQ (d:=some 53) (.tmp 50) (.tmp 52) ax p.ev m.evs y w8.heap.size ax hown YY.out ax q9 ?_);intro a' c' dH ho hf hc;have hne:¬ Fp p.ev eb:=fun e=>by have h6:p.ow eb=6:=H9.out.core.le eb e;have:=HOW.out;omega
  have zy:=af.aK r9 hc hne;have ND:¬ Fp p.ev p.gb:=fun e=>by have h6:p.ow p.gb=6:=H9.out.core.le _ e;have h1:p.ow p.gb=1:=H9.out.core.lg;omega
  have K6:dH.cell? ⟨p.gb,8,none⟩=some p.ev:=(aD.cell hc (p:=⟨p.gb,8,none⟩) H9.out.core.qp ND).trans SX;have Bd:dH.frozen? ⟨p.gb,8,none⟩=false:=(aD.frozen hc (p:=⟨p.gb,8,none⟩) H9.out.core.qp ND).trans (H9.out.QM 8);have h11:=H9.out.event ho hf hc;have SY:eb≠p.gb:=fun e=>by have h1:p.ow p.gb=1:=H9.out.core.lg;have:=HOW.out;rw[e]at this;omega
  refine⟨zy,(ay ?_)⟩
  refine tH 8 54 zy ?_;refine tH 9 55 zy ?_;refine aX (i:=10) ax (bG 41 (.tmp 55) (.tmp 53) ax p.gb 8 (.slice a' (m.evs.length+1) c') ax ax (fun _=>sts K6 Bd) (af.aK zy ((aD.refl (fun b=>b=p.gb) _).setCell _ _ (fun _=>rfl)) SY) (fun hHeld=>ay ?_))
  refine iR ?_;have pV:=uH h11;generalize dH.setCell ⟨p.gb,8,none⟩ (.slice a' (m.evs.length+1) c')=kU at *;have e0:kU.cell? ⟨p.kb,who * 35,none⟩=some (.i k.st):=pV.out.aL 0 rfl;have U0:kU.frozen? ⟨p.kb,who * 35,none⟩=false:=pV.out.dZ 0 aT;clear h11 ho hf hc zy K6 Bd hHeld hown r9 q9 YZ SX;go_wp2_with fail
  first | go_end0 | refine bP ?_
  exact⟨rfl,_,v,pV.out.put 0 aT (.i 0) (k':={k with tidy:=some g2,st:=0}) (v':=v) rfl,kH (.inl rfl)⟩
end Mc
end Go.Proofs.YtbklamnimfmjkaaGreatDoor
