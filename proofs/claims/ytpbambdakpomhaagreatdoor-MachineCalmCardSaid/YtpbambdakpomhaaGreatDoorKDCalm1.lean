/- Part 1 of the walks and plain laws that the last text joins. -/
import Derived.Test.YtpbambdakpomhaaGreatDoorKB47
set_option maxRecDepth 100000
set_option maxHeartbeats 16000000
set_option linter.all false
open Go.Proofs.Tryz
namespace Go.Proofs.YtpbambdakpomhaaGreatDoor
namespace Clock
open Go.RowKit
theorem P8 (w:World) (p:Addr) (n:Int) (hc:w.cell? p=some (.i n)):
  Calls prog 71 #[.pointer (some p)] w fun e w'=>e=.returned (.i n)/\w=w':=by
 go_enter func71,ntmps71
 go_wp2
 go_ret;exact⟨rfl,rfl⟩
end Clock
namespace Mc
open Go.RowKit Hp ah aj Slot ai Tk Cl
theorem CQ {W:World} {p:Mp} {m:Mc} (h:aZ W p m):Calls prog 44 #[ptr p.gb] W (fun e W'=>e=.returned (.i m.sh.now)/\Below W.heap.size W W'):=by
 have c5:W.cell? ⟨p.gb,6,none⟩=some (ptr p.cb):=af.cell h.core.row 6;have hc:=Clock.P8 W ⟨p.cb,0,none⟩ m.sh.now (af.cell h.core.JH 0);have H:=uH h;clear h
 go_enter func44,ntmps44
 go_wp2_with fail;refine hc.mono ?_;rintro e w1 ⟨rfl,rfl⟩;clear hc;go_wp2_with fail;go_ret;exact⟨rfl,Below.refl _ _⟩
end Mc
namespace Mc
open Go.RowKit Hp Slot ah ai Tk
def differ:List Int->List Int->Nat
 | a :: l,b :: r=>(if a=b then 0 else 1)+differ l r
 | _,_=>0
theorem iA:∀ l:List Int,differ l l=0
 | []=>rfl
 | a :: l=>by rw[differ,if_pos rfl,iA l]
theorem qH:∀ (l:List Int) (i:Nat) (v:Int),differ l (l.set i v)<=1
 | [],i,v=>by simp[differ]
 | a :: l,0,v=>by
  rw[List.set_cons_zero,differ,iA]
  split<;>omega
 | a :: l,i+1,v=>by
  rw[List.set_cons_succ,differ,if_pos rfl];have:=qH l i v;omega
theorem uM:∀ (a b:List Int) (q:Nat) (x y:Int),a[q]? =some x->b[q]? =some y->differ (a.take (q+1)) (b.take (q+1))=differ (a.take q) (b.take q)+(if x=y then 0 else 1)
 | [],b,q,x,y,h,_=>by simp at h
 | a :: l,[],q,x,y,_,h=>by simp at h
 | a :: l,b :: r,0,x,y,h,h2=>by
  simp only[List.getElem?_cons_zero,Option.some.injEq]at h h2;subst h h2;simp[differ]
 | a :: l,b :: r,q+1,x,y,h,h2=>by
  simp only[List.getElem?_cons_succ]at h h2;have:=uM l r q x y h h2;simp only[List.take_succ_cons,differ];omega
theorem yR:∀ a b:List Int,differ a b<=a.length
 | [],b=>by simp[differ]
 | a :: l,[]=>by simp[differ]
 | a :: l,b :: r=>by
  have:=yR l r;simp only[differ,List.length_cons]
  split<;>omega
theorem P9 (c:aj.Cf) (who:Nat) (ws:List Int) (e:Eff):∃ i v,e.run c who ws=ws.set i v:=by
 have h0:ws=ws.set ws.length 0:=by rw[List.set_eq_of_length_le aQ]
 cases e with
 | none=>exact⟨_,_,h0⟩
 | slot i d own more=>
  show ∃ j v,(match bn (rd ws (sc c i)) d own more with | some nw=>ws.set (sc c i) nw | .none=>ws)=ws.set j v
  split
  ·exact⟨_,_,rfl⟩
  ·exact⟨_,_,h0⟩
 | aJ=>exact⟨_,_,rfl⟩
 | pin x=>exact⟨_,_,rfl⟩
 | grant o x=>exact⟨_,_,rfl⟩
 | line q=>exact⟨_,_,rfl⟩
 | closed x=>exact⟨_,_,rfl⟩
structure Calm (x:En) (did:Bool) (ws aC:List Int) (now now':Int):Prop where
 len:aC.length=ws.length
 one:differ ws aC<=1
 aK:0 < differ ws aC->did=true/\(x.kind=1\/x.kind=4)
 fwd:now<=now'
 tick:now'≠now->x.kind=2
theorem Qa {n:Nat} {m:Mc} (h:Fj n m) (x:En):Calm x (m.lG x).1 m.sh.ws (m.lG x).2.sh.ws m.sh.now (m.lG x).2.sh.now:=by
 have hd:=Ke h x;generalize (m.lG x).1=b at *;generalize (m.lG x).2=m' at *;have h0:∀ did:Bool,Calm x did m.sh.ws m.sh.ws m.sh.now m.sh.now:=fun did=>⟨rfl,by rw[iA];omega,fun e=>by rw[iA]at e;omega,Int.le_refl _,fun e=>absurd rfl e⟩
 have abx:=h.now
 cases hd with
 | no tc=>exact h0 false
 | ask i k h1 h2 h3 h4 h5 h6=>exact h0 true
 | pick i k k' s' o h1 h2 h3 h4 h5 h6=>
  have hn:=(Lp h5).now;obtain⟨j,v,e⟩:=P9 m.cf i m.sh.ws (oL m.cf i k m.sh)
  show Calm x true m.sh.ws s'.ws m.sh.now s'.now
  rw[hn,h6,e];exact⟨by rw[List.length_set],qH _ _ _,fun _=>⟨rfl,.inl h1⟩,Int.le_refl _,fun e=>absurd rfl e⟩
 | tick h1=>
  refine⟨rfl,by rw[iA];omega,fun e=>by rw[iA]at e;omega,?_,fun _=>h1⟩
  show m.sh.now<=tick m.sh.now x.n
  unfold tick;omega
 | feed h1=>exact h0 true
 | brk i nw h1 h2 h3=>exact⟨by show(m.sh.ws.set (sc m.cf i) nw).length=_;rw[List.length_set],qH _ _ _,fun _=>⟨rfl,.inr h1⟩,Int.le_refl _,fun e=>absurd rfl e⟩
end Mc
namespace Mc
open Go.RowKit Hp ah aj Slot ai Tk Cl
section
variable {W0 W W':World} {p:Mp} {m m':Mc} {K:Nat->Prop} {gb n:Nat}
theorem UT.own {v:Value} {a b:Nat} {l:List Value} (h:UT K W W') (hg:∀ k,Fp v k->K k) (ho:bR W v a b l):bR W' v a b l:=ho.stable h.1 (fun k hk=>h.2 k (hg k hk))
end
end Mc
namespace Mc
open Go.RowKit Hp Slot ah ai Mod
theorem o7.below {W W':World} {v:Value} {l:List Tn} (h:o7 W v l) (hb:Below W.heap.size W W'):o7 W' v l:=by
 obtain⟨a,c,rfl,h1,h2⟩:=h;refine⟨a,c,rfl,h1,h2.imp id ?_⟩;rintro⟨g,off,rfl,h3⟩;refine⟨g,off,rfl,fun i t hi j u hu=>?_⟩;have h4:=h3 i t hi j u hu;exact(World.cell?_of_block (w:=W) (hb.block g (dN h4))).trans h4
end Mc
namespace Mc
open Go.RowKit Hp ah aj Slot ai Tk Cl
theorem Jq (W:World) (hL:Laid W) (hT:TabAt W) (g0 g1 g2 g3 g4:Int) (h0:0<=g0/\g0 < 256) (h1:0<=g1/\g1 < 256) (h2:0<=g2/\g2 < 256) (h3:0<=g3/\g3 < 256) (h4:0<=g4/\g4 < 256) (v:Value) (l:List Tn) (hl:o7 W v l):
  Calls prog 14 #[.agg #[.int .u8 g0,.int .u8 g1,.int .u8 g2,.int .u8 g3,.int .u8 g4],v] W fun e W'=>e=.returned (.bool true)/\Below W.heap.size W W':=by
 have haw:=fun w hL hT=>wC w hL hT
 have hcf:=fun w=>AP w g0 g1 g2 g3 g4 h0 h1 h2 h3 h4
 have hcr:=qM g0 g1 g2 g3 g4;generalize nP g0 g1 g2 g3 g4=c at *;have hsm:aA c:=uq hcr;clear h0 h1 h2 h3 h4;have HL2:=uH hl;obtain⟨ta,tc,rfl,Ai,htc⟩:=hl;clear Ai htc;have hW2:2 < W.heap.size:=dN (hT 0 aT);have hA:Below W.heap.size W (W.alloc (.cells #[.int .u8 g0,.int .u8 g1,.int .u8 g2,.int .u8 g3,.int .u8 g4] 23)):=bZ.alloc aQ _;have hg:af (W.alloc (.cells #[.int .u8 g0,.int .u8 g1,.int .u8 g2,.int .u8 g3,.int .u8 g4] 23)) W.heap.size #[.int .u8 g0,.int .u8 g1,.int .u8 g2,.int .u8 g3,.int .u8 g4] 23:=heap_alloc_new W _;have hL0:=hL.stable (hA.block 0 ag);have hT0:=hT.stable (hA.block 2 hW2);have HC:=uH (And.intro hL hT);clear hL hT
 go_enter func14,ntmps14
 go_upto_region 1 with(fail);generalize (W.alloc (.cells #[.int .u8 g0,.int .u8 g1,.int .u8 g2,.int .u8 g3,.int .u8 g4] 23))=w0 at *;go_wp2_with fail;refine(haw _ hL0 hT0).mono ?_;rintro e w1 ⟨rfl,hb1⟩;have HB1:=uH (hA.trans (hb1.mono hA.size));have HG:=uH (af.below hg hb1);clear haw hb1 hA hg hL0 hT0
 by_cases aab:400 < l.length
 ·have h8i:(400:Int) < (l.length:Int):=ag
  clear hcf hcr hsm HL2 HG HC;go_wp2_with fail;go_ret;exact⟨rfl,HB1.out⟩
 have h8i:¬ (400:Int) < (l.length:Int):=ag
 go_upto_region 4 with(fail);refine wp_region_lit ?_;refine grow HG.out 23 (.tmp 2) underlying23 (ay ?_)
 refine pX 19 #[.tmp 22] #[23] #[.agg #[.int .u8 g0,.int .u8 g1,.int .u8 g2,.int .u8 g3,.int .u8 g4]] (aH func19) ?_;refine(hcf _).mono ?_;rintro e w2 ⟨rfl,hb2⟩;refine⟨_,rfl,?_⟩;dsimp only;refine dU (ob:=.cells Fw 27) (Z:=Fw) (cs:=c.cells) (t:=27) 27 (.tmp 6) (.tmp 23) rfl (ay ?_)
 rw[aG];refine wpList_nil ?_;have hB2:=HB1.out.trans (hb2.mono HB1.out.size);have hB3:Below W.heap.size W (w2.alloc (.cells c.cells 27)):=hB2.alloc hB2.size _;have hr3:af (w2.alloc (.cells c.cells 27)) w2.heap.size c.cells 27:=heap_alloc_new w2 _;have hcb:w2.heap.size < (w2.alloc (.cells c.cells 27)).heap.size:=au
 have hcW:W.heap.size<=w2.heap.size:=hB2.size;generalize (w2.alloc (.cells c.cells 27))=w3 at *;generalize w2.heap.size=cb at *;have hL3:=HC.out.1.stable (hB3.block 0 ag);have XC:=HC.out.2.stable (hB3.block 2 hW2);have hnew:=wD w3 c hcr hL3 XC;clear hcf hb2 HB1 hB2 HG hL3 XC HC;go_upto_region 5 with(fail);refine wp_region_lit ?_;refine grow hr3 27 (.tmp 6) underlying27 (ay ?_)
 refine pX 20 #[.tmp 25] #[27] #[.agg c.cells] (aH func20) ?_;refine hnew.mono ?_;intro e w4 hp;obtain⟨p4,rfl,h4⟩:=Lb.first (K:=fun b=>b=cb) hp hsm hB3 hW2 (by rintro b rfl;exact hcb);have hr4:af w4 cb c.cells 27:=af.below hr3 (hp.pF);generalize p4.gb=gb at *;refine⟨_,rfl,?_⟩;dsimp only;refine gl (.tuple #[ptr gb,.i 0]) (ay ?_)
 refine gl (ptr gb) (ay ?_)
 refine gl (.i 0) (ay ?_)
 refine gl (ptr gb) (ay ?_)
 refine gl (.i 0) (ay ?_)
 refine wpList_nil ?_;have H4:RowKit.Hid (∃ p m K,Lb W K gb 0 w4 p m/\m.cf=c/\K cb/\af w4 cb c.cells 27):=uH ⟨p4,_,_,h4,rfl,rfl,hr4⟩;clear hnew hp h4 hr4 hr3 hB3;go_wp2_with fail
 go_loopw [9] (fun v wr=>∃ k:Nat,k<=l.length/\v=.i k/\RowKit.Hid (∃ p m K,Lb W K gb k wr p m/\m.cf=c/\K cb/\af wr cb c.cells 27)) (fun v _=>l.length - (intOf v).toNat)
 case atStart=>exact⟨0,ag,rfl,H4⟩
 case round=>
  obtain⟨k,hk,rfl,hM⟩:=hrel;clear H4;obtain⟨p,m,Kp,hB,hcf,hKc,hrc⟩:=hM.out;have hB0:=uH hB
  by_cases hlt:k < l.length
  rotate_left
  ·have hi:¬ (k:Int) < (l.length:Int):=ag
   have HB:=uH hB.pF;clear hB hrc hM HL2;go_wp2_with fail;go_ret;exact⟨rfl,HB.out⟩
  obtain⟨ta2,tc2,e0,Ai,htc⟩:=(HL2.out.below (hB.pF)) |> fun h=>h
  obtain⟨tn,htn⟩:∃ tn,l[k]? =some tn:=⟨_,List.getElem?_eq_getElem hlt⟩
  obtain⟨t0,t1,t2,t3,t4,t5⟩:=Ai tn (List.mem_of_getElem? htn)
  rcases htc with rfl | ⟨tg,MV,e1,htc⟩
  ·simp at hlt
  injection e0 with e0 e2 e3
  subst e3;subst e1;subst e0;have hrg:∀ w,Below wr.heap.size wr w->w.rangeAt tg (MV+k * 6) tn.cells.toList:=fun w hb j u hu=>(hb.cell (dN (htc k tn htn j u (by rw[Array.getElem?_toList]at hu;exact hu)))).trans (htc k tn htn j u (by rw[Array.getElem?_toList]at hu;exact hu))
  have hrr:∀ w,Below wr.heap.size wr w->af w cb c.cells 27:=fun w hb=>af.below hrc hb
  have UC:=hB.good.ok.evs;have hev:∀ w,Below wr.heap.size wr w->Calls prog 23 #[ptr gb] w _:=fun w hb=>(by have h:=nT (hB.at'.rest hb) ag;rw[show({p with ow:=fun b=>if b < wr.heap.size then p.ow b else 0}:Mp).gb=gb from hB.gb]at h;exact h)
  have hent:=fun w (v:Value) hv=>yz w tn.k tn.w tn.o tn.s tn.g tn.n t0 t1 t2 t3 t4 t5 c hcr v m.evs ag hv
  have b0:(0:Int)<=(k:Int):=ag
  have b1:(k:Int) < (l.length:Int):=ag
  clear htc Ai htn t0 t1 t2 t3 t4 t5 UC;go_upto_region 11 with(fail)
  go_cut [10] from 41 to 48 (fun s9 wx=>(∃ eb:Nat,s9=ptr eb/\wr.heap.size<=eb/\∃ x:En,af wx eb x.cells 37/\x.ok)/\Below wr.heap.size wr wx)
  case first=>
   rename_i JJ KK JI Fe
   refine jr (S:=fun w'=>Below wr.heap.size wr w') (by exact bY) (fun hHeld=>?_);refine tH 0 41 hHeld ?_;refine tH 1 42 hHeld ?_;refine tH 2 43 hHeld ?_;refine iC (gd:=none) 3 44 (.load 40 (.tmp 43)) (.agg tn.cells.toList.toArray) (ru 40 (.tmp 43) tg (MV+k * 6) tn.cells.toList _ ax underlying40 rfl ax hrg) hHeld (ay ?_)
   refine iC (gd:=none) 4 45 (.load 27 (.tmp 6)) (.agg c.cells) (aM 27 (.tmp 6) cb 27 c.cells _ ax underlying27 rfl ax hrr) hHeld (ay ?_)
   refine tH 5 46 hHeld ?_;clear hrg hrr;refine gI (i:=6) (k:=8) ax ?_ ?_;refine bI 23 #[.tmp 46] #[29] (some 47) none ax ax #[ptr gb] ax (aH func23) ?_;refine(hev _ hHeld).mono ?_;rintro e we ⟨ea,ec,rfl,hoe,-,hbe⟩;have Gd:Below wr.heap.size wr we:=hHeld.trans (hbe.mono hHeld.size);refine⟨_,rfl,Gd,fun hHeld=>ay ?_⟩
   refine gI (i:=7) (k:=8) ax ?_ ?_;refine bI 22 #[.tmp 44,.tmp 45,.tmp 47] #[40,27,41] (some 48) none ax ax #[.agg #[.int .u8 tn.k,.int .u8 tn.w,.int .u8 tn.o,.int .u8 tn.s,.int .u8 tn.g,.int .u8 tn.n],c.val,.slice ea m.evs.length ec] ax (aH func22) ?_;refine(hent _ _ hoe).mono ?_;rintro e wn ⟨x,rfl,hx,hbn⟩;have hbN:Below wr.heap.size wr wn:=hHeld.trans (hbn.mono hHeld.size);refine⟨_,rfl,hbN,fun hHeld=>ay ?_⟩
   have jy:Below wr.heap.size wr (wn.alloc (.cells (Ah 0 0 0 0 false false 0 0 0 0 false) 37)):=hHeld.alloc hHeld.size _;have rz:af (wn.alloc (.cells (Ah 0 0 0 0 false false 0 0 0 0 false) 37)) wn.heap.size (Ah 0 0 0 0 false false 0 0 0 0 false) 37:=af.new _ _ _;have hge:wr.heap.size<=wn.heap.size:=hHeld.size;refine aX (i:=8) ax <| aY (w':=wn.alloc (.cells (Ah 0 0 0 0 false false 0 0 0 0 false) 37)) (some 10) (ptr wn.heap.size) ax ax (by go_simp;try rfl) jy (fun hHeld=>?_)
   try simp only[Act.put,sA,sZ,sS]
   generalize wn.heap.size=eb at *;have hw:Below wr.heap.size wr (World.alloc wn (.cells (Ah 0 0 0 0 false false 0 0 0 0 false) 37)):=hHeld;generalize (wn.alloc (.cells (Ah 0 0 0 0 false false 0 0 0 0 false) 37))=wz at *;clear hw;rotate_left;have jy:Below wr.heap.size wr (we.alloc (.cells (Ah 0 0 0 0 false false 0 0 0 0 false) 37)):=hHeld.alloc hHeld.size _;have rz:af (we.alloc (.cells (Ah 0 0 0 0 false false 0 0 0 0 false) 37)) we.heap.size (Ah 0 0 0 0 false false 0 0 0 0 false) 37:=af.new _ _ _;have hge:wr.heap.size<=we.heap.size:=hHeld.size;refine aY (w':=we.alloc (.cells (Ah 0 0 0 0 false false 0 0 0 0 false) 37)) (some 10) (ptr we.heap.size) ax ax (by go_simp;try rfl) jy (fun hHeld=>ay ?_)
   generalize we.heap.size=eb at *;generalize hwy:(we.alloc (.cells (Ah 0 0 0 0 false false 0 0 0 0 false) 37))=wy at *;refine aX (i:=7) ax <| bI 22 #[.tmp 44,.tmp 45,.tmp 47] #[40,27,41] (some 48) none ax ax #[.agg #[.int .u8 tn.k,.int .u8 tn.w,.int .u8 tn.o,.int .u8 tn.s,.int .u8 tn.g,.int .u8 tn.n],c.val,.slice ea m.evs.length ec] ax (aH func22) ?_
   refine(hent _ _ (by rw[<- hwy];exact hoe.alloc _)).mono ?_;rintro e wn ⟨x,rfl,hx,hbn⟩;have hbN:Below wr.heap.size wr wn:=hHeld.trans (hbn.mono hHeld.size);refine⟨_,rfl,hbN,fun hHeld=>ay ?_⟩
   have rz:=af.below rz hbn;generalize wn=wz at *;rotate_left;have jy:Below wr.heap.size wr (wr.drew.alloc (.cells (Ah 0 0 0 0 false false 0 0 0 0 false) 37)):=hHeld.alloc hHeld.size _;have rz:af (wr.drew.alloc (.cells (Ah 0 0 0 0 false false 0 0 0 0 false) 37)) wr.drew.heap.size (Ah 0 0 0 0 false false 0 0 0 0 false) 37:=af.new _ _ _;have hge:wr.heap.size<=wr.drew.heap.size:=hHeld.size;refine aY (w':=wr.drew.alloc (.cells (Ah 0 0 0 0 false false 0 0 0 0 false) 37)) (some 10) (ptr wr.drew.heap.size) ax ax (by go_simp;try rfl) jy (fun hHeld=>ay ?_)
   generalize wr.drew.heap.size=eb at *;generalize (wr.drew.alloc (.cells (Ah 0 0 0 0 false false 0 0 0 0 false) 37))=wy at *;refine aX (i:=6) ax <| bI 23 #[.tmp 46] #[29] (some 47) none ax ax #[ptr gb] ax (aH func23) ?_
   refine(hev _ hHeld).mono ?_;rintro e we ⟨ea,ec,rfl,hoe,-,hbe⟩;have Gd:Below wr.heap.size wr we:=hHeld.trans (hbe.mono hHeld.size);refine⟨_,rfl,Gd,fun hHeld=>ay ?_⟩
   have rz:=af.below rz hbe;refine aX (i:=7) ax <| bI 22 #[.tmp 44,.tmp 45,.tmp 47] #[40,27,41] (some 48) none ax ax #[.agg #[.int .u8 tn.k,.int .u8 tn.w,.int .u8 tn.o,.int .u8 tn.s,.int .u8 tn.g,.int .u8 tn.n],c.val,.slice ea m.evs.length ec] ax (aH func22) ?_
   refine(hent _ _ hoe).mono ?_;rintro e wn ⟨x,rfl,hx,hbn⟩;have hbN:Below wr.heap.size wr wn:=hHeld.trans (hbn.mono hHeld.size);refine⟨_,rfl,hbN,fun hHeld=>ay ?_⟩
   have rz:=af.below rz hbn;generalize wn=wz at *;rotate_left
   all_goals
    have hb4:Below wr.heap.size wr (wz.setRow eb x.cells):=below_setRow hHeld hge _;have rx:=rz.set x.cells;refine aX (i:=9) ax (gp 37 (.tmp 10) (.tmp 48) ax eb 37 (Ah 0 0 0 0 false false 0 0 0 0 false) x.cells rfl rfl rz rfl ax (by simp[En.cells,Value.oneCell']) hb4 (fun _=>ay ?_))
    refine iR ?_;refine Fe _ _ (Met.intro (JI _ _ ?_))
    (repeat apply Exists.intro)
    refine⟨?rel,rfl⟩
    case rel=>exact⟨⟨eb,rfl,hge,x,rx,hx⟩,hb4⟩
  case rest=>
   obtain⟨⟨eb,rfl,Yd,x,rx,hx⟩,dm⟩:=hcut;generalize wc=w9 at *;obtain⟨p9,K9,h9,hKo,hKn⟩:=hB.more dm;have hKe:K9 eb:=hKn eb Yd (af.lt rx);have XE:=hKo cb hKc;have ym:=af.below hrc dm;clear hev hent hB dm hKo hKn hrc hKc Yd;have kr9:=XE;have Dh:=hKe;clear XE hKe hM;have hwd:=qy h9.at';rw[h9.gb]at hwd;have H9:=uH h9;clear h9;go_wp2_with fail;refine hwd.mono ?_;rintro e dH ⟨a1,q1,rfl,ho1,hf1,hb1⟩;have h9:=H9.out;obtain⟨p10,K10,h10,hKo,hKn⟩:=h9.more hb1;have rx:=af.below rx hb1;have Dh:=hKo _ Dh;have E8:=af.below ym hb1;have Jr:=hKo cb kr9;have Ym:∀ b,Fp (.slice a1 m.sh.ws.length q1) b->K10 b:=fun b e=>hKn b (hf1 b e) (bR.lt ho1 e)
   clear hwd hf1 hb1 h9 H9 ym kr9 hKo hKn;have hnw:=CQ h10.at';rw[h10.gb]at hnw;have uZ:=uH h10;clear h10;go_wp2_with fail;refine hnw.mono ?_;rintro e kU ⟨rfl,hb1⟩;have h10:=uZ.out;obtain⟨p11,K11,h11,hKo,hKn⟩:=h10.more hb1;have rx:=af.below rx hb1;have Dh:=hKo _ Dh;have XF:=af.below E8 hb1;have UD:=hKo cb Jr;have Ym:=fun b e=>hKo b (Ym b e)
   have ho1:=bR.stable ho1 hb1.size (fun b e=>hb1.block b (bR.lt ho1 e));clear hnw hb1 h10 uZ E8 Jr hKo hKn;have hk4:k<=1000:=ag
   have hd:=h11.do hk4 x ⟨by have:=hx.2;omega,by have:=hx.2;omega⟩
   go_upto_region 14 with(fail);refine wp_region_lit ?_;refine gl (ptr gb) (ay ?_)
   refine grow rx 37 (.tmp 10) underlying37 (ay ?_)
   refine pX 21 #[.tmp 53,.tmp 54] #[29,37] #[ptr gb,.agg x.cells] (aH func21) ?_;refine hd.mono ?_;rintro e uo ⟨rfl,p12,h12,IJ⟩;refine⟨_,rfl,?_⟩;dsimp only;refine gl (.bool (m.lG x).1) (ay ?_)
   refine wpList_nil ?_;have rx:=IJ.row Dh rx;have CR:=IJ.row UD XF;have ho1:=IJ.own Ym ho1;have hcm:=Qa h11.good.ok x;have Js:(m.lG x).2.cf=c:=(QV m x).trans hcf;clear hd IJ h11 XF;generalize (m.lG x).1=did at *;generalize (m.lG x).2=m2 at *;have hwd:=qy h12.at';rw[h12.gb]at hwd;have yO:=uH h12;clear h12;go_wp2_with fail;refine hwd.mono ?_;rintro e JL ⟨a2,q2,rfl,ho2,hf2,hb1⟩;have h12:=yO.out;obtain⟨Nn,K13,vV,hKo,hKn⟩:=h12.more hb1;have rx:=af.below rx hb1;have Dh:=hKo _ Dh;have xz:=af.below CR hb1;have CU:=hKo cb UD;have ho1:=bR.stable ho1 hb1.size (fun b e=>hb1.block b (bR.lt ho1 e));clear hwd hf2 hb1 h12 yO CR UD hKo hKn Ym;have hlen1:m.sh.ws.length=sc c (ns c):=by have:=hB0.out.good.ok.ws.l.len;rw[hcf]at this;exact this
   have hpos:0 < m.sh.ws.length:=by rw[hlen1];have:=hsm.nw;rw[fI];omega
   have hsmall:m.sh.ws.length<=4000:=by have h5:=hsm.nw;have h6:=hsm.ns;rw[hlen1,fI];omega
   obtain⟨g1,o1,rfl,hc1⟩:=wB ho1 hpos;obtain⟨g2,o2,rfl,hc2⟩:=wB ho2 (by rw[hcm.len];exact hpos);have hl12:=hcm.len;have Nl:=uH (And.intro vV (And.intro rx (And.intro xz (And.intro Dh CU))));have HCM:=uH hcm;have aby:=uH vV.pF;clear vV rx xz Dh CU hcm ho1 ho2 hB0
   skip
   have Yn:=uH hl12;clear hl12;generalize hw1:m.sh.ws=Np at *;generalize hw2:m2.sh.ws=jq at *;have HW:=uH (And.intro hw1 hw2);clear hw1 hw2 hlen1;go_wp2_with fail
   go_loopw [15,16] (fun a b wr2=>∃ q:Nat,q<=jq.length/\b=.i q/\a=.i (differ (Np.take q) (jq.take q):Nat)/\RowKit.Hid (Below JL.heap.size JL wr2)) (fun a b _=>jq.length - (intOf b).toNat)
   case atStart=>exact⟨0,ag,rfl,by simp[differ],uH bZ⟩
   case round=>
    obtain⟨q,hq,rfl,rfl,hb2⟩:=hrel;have hd1:(0:Int)<=((differ (Np.take q) (jq.take q):Nat):Int):=ag
    have hd2:((differ (Np.take q) (jq.take q):Nat):Int)<=5000:=by have:=yR (Np.take q) (jq.take q);have:=List.length_take_le q Np;have:=Yn.out;omega
    by_cases UE:q < jq.length
    ·obtain⟨x2,hx2⟩:∃ y,jq[q]? =some y:=⟨_,List.getElem?_eq_getElem UE⟩
     obtain⟨x1,hx1⟩:∃ y,Np[q]? =some y:=⟨_,List.getElem?_eq_getElem (by have:=Yn.out;omega)⟩
     have c2:=cC x2 (Field.ak hb2.out (hc2 q x2 hx2));have c1:=cC x1 (Field.ak hb2.out (hc1 q x1 hx1));have i0:(0:Int)<=(q:Int):=ag
     have i1:(q:Int) < (jq.length:Int):=ag
     have i2:(q:Int) < (Np.length:Int):=by have:=Yn.out;omega
     have hs:=uM Np jq q x1 x2 hx1 hx2;clear hx1 hx2 hc1 hc2
     by_cases hxy:x1=x2
     ·rw[if_pos hxy,Nat.add_zero]at hs;subst hxy;have HS:=uH hs;clear hs;go_wp2_with fail;go_region;go_wp2_with fail;refine⟨⟨q+1,ag,rfl,by rw[HS.out];rfl,uH hb2.out.drew⟩,?_⟩;simp only[intOf];omega
     ·rw[if_neg hxy]at hs;have hne:(x2 == x1)=false:=by simpa using fun e=>hxy e.symm
      have HS:=uH hs;clear hs hxy;go_wp2_with fail;go_region;go_wp2_with fail;refine⟨⟨q+1,ag,rfl,by rw[HS.out];rfl,uH hb2.out.drew⟩,?_⟩;simp only[intOf];omega
    ·have i1:¬ (q:Int) < (jq.length:Int):=ag
     obtain rfl:q=jq.length:=ag
     rw[List.take_length,List.take_of_length_le (show Np.length<=jq.length by have:=Yn.out;omega)]at *;obtain⟨vV,rx,xz,Dh,CU⟩:=Nl.out;have hb3:=hb2.out;obtain⟨Rq,K14,yE,hKo,hKn⟩:=vV.more hb3;have rx:=af.below rx hb3;have Dh:=hKo _ Dh;have MX:=af.below xz hb3;have MZ:=hKo cb CU;clear hKo hKn xz CU vV hb3 hc1 hc2 hd1 hd2 hpos hsmall;have hcm:=HCM.out;have hn1:=hcm.one;have hn2:=hcm.aK;have Sw:=hcm.fwd;have Oj:=hcm.tick;clear hcm;generalize differ Np jq=d at *
     skip
     have hnw:=fun w (hb:Below wr.heap.size wr w)=>CQ (yE.at'.rest hb)
     simp only[yE.gb]at hnw;have JN:=fun w (hb:Below wr.heap.size wr w)=>af.cell (af.below rx hb) 0
     have S9:=uH (And.intro yE (And.intro rx (And.intro MX (And.intro Dh MZ))));clear yE rx MX Dh MZ;generalize m2.sh.now=Qb at *;generalize m.sh.now=Qc at *;go_upto_region 22 with(fail);clear i1
     go_cut [111] from 75 to 111 (fun s wx=>s=.bool false/\Below wr.heap.size wr wx)
     case first=>
      have hk0:=JN wr bZ;obtain⟨kd,hkd⟩:∃ kd,kd=x.kind:=⟨_,rfl⟩
      replace hk0:wr.cell? ⟨eb,0,none⟩=some (.i kd):=hk0.trans (by rw[hkd];rfl);replace JN:∀ w,Below wr.heap.size wr w->w.cell? ⟨eb,0,none⟩=some (.i kd):=fun w hb=>(JN w hb).trans (by rw[hkd];rfl)
      rw[<- hkd]at hn2 Oj;clear hkd;have hlt1:decide (Qb < Qc)=false:=decide_eq_false ag
      skip
      rcases(show d=0\/d=1 by omega)with rfl | rfl
      ·by_cases hnn:Qb=Qc
       ·subst hnn;clear hn1 hn2 Sw Oj;go_wp2_with fail;refine(hnw wr bZ).mono ?_;rintro e wa ⟨rfl,hba⟩;have ka:=JN wa hba;go_wp2_with fail;refine(hnw wa hba).mono ?_;rintro e wb ⟨rfl,hbb⟩;have hbc:=hba.trans (hbb.mono hba.size);have kb:=JN wb hbc;go_wp2_with fail
        go_meet
        case rel=>exact⟨rfl,hbc⟩
       ·obtain rfl:kd=2:=Oj hnn;clear hn1 hn2 Sw Oj;go_wp2_with fail;refine(hnw wr bZ).mono ?_;rintro e wa ⟨rfl,hba⟩;have ka:=JN wa hba;go_wp2_with fail;refine(hnw wa hba).mono ?_;rintro e wb ⟨rfl,hbb⟩;have hbc:=hba.trans (hbb.mono hba.size);have kb:=JN wb hbc;go_wp2_with fail
        go_meet
        case rel=>exact⟨rfl,hbc⟩
      ·obtain⟨rfl,hkk⟩:=hn2 ag
       have hnn:Qb=Qc:=by
        by_cases e:Qb=Qc
        ·exact e
        ·have:=Oj e;omega
       subst hnn;clear hn1 hn2 Sw Oj
       rcases hkk with rfl | rfl
       ·skip
        go_wp2_with fail;refine(hnw wr bZ).mono ?_;rintro e wa ⟨rfl,hba⟩;have ka:=JN wa hba;go_wp2_with fail;refine(hnw wa hba).mono ?_;rintro e wb ⟨rfl,hbb⟩;have hbc:=hba.trans (hbb.mono hba.size);have kb:=JN wb hbc;go_wp2_with fail
        go_meet
        case rel=>exact⟨rfl,hbc⟩
       ·skip
        go_wp2_with fail;refine(hnw wr bZ).mono ?_;rintro e wa ⟨rfl,hba⟩;have ka:=JN wa hba;go_wp2_with fail;refine(hnw wa hba).mono ?_;rintro e wb ⟨rfl,hbb⟩;have hbc:=hba.trans (hbb.mono hba.size);have kb:=JN wb hbc;go_wp2_with fail
        go_meet
        case rel=>exact⟨rfl,hbc⟩
     case rest=>
      obtain⟨rfl,dm⟩:=hcut;generalize wc=wz at *;obtain⟨yE,rx,MX,Dh,MZ⟩:=S9.out;obtain⟨p15,K15,xE,hKo,hKn⟩:=yE.more dm;have XG:=af.below MX dm;have XH:=hKo cb MZ;have H15:RowKit.Hid (∃ p m K,Lb W K gb (k+1) wz p m/\m.cf=c/\K cb/\af wz cb c.cells 27):=uH ⟨p15,m2,K15,xE,Js,XH,XG⟩;clear hnw JN dm yE rx MX Dh MZ hKo hKn xE XG XH hn1 hn2 Sw Oj;go_wp2_with fail
      go_roundw
      case rel=>exact⟨k+1,ag,by go_num,H15⟩
      case measure=>first | (simp[intOf];done) | (simp[intOf];omega)
end Mc
end Go.Proofs.YtpbambdakpomhaaGreatDoor
