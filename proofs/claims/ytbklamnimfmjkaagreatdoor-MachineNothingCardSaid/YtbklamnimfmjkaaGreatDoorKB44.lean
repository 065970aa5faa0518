/- Part 44 of the walks and plain laws that the last text joins. -/
import Derived.Test.YtbklamnimfmjkaaGreatDoorKB35
set_option maxRecDepth 100000
set_option maxHeartbeats 16000000
set_option linter.all false
open Go.Proofs.Tryz
namespace Go.Proofs.YtbklamnimfmjkaaGreatDoor
namespace Mc
open Go.RowKit Hp ah aj Slot ai Tk Cl
def rowsOf (z:Array Value):Nat->Array Value
 | 0=>#[]
 | n+1=>rowsOf z n ++ z
theorem uG (z:Array Value):∀ n,(rowsOf z n).size=n * z.size
 | 0=>by simp[rowsOf]
 | n+1=>by simp[rowsOf,uG z n,Nat.add_mul]
theorem wT (z:Array Value):∀ (n i j:Nat),i < n->j < z.size->(rowsOf z n)[i * z.size+j]? =z[j]?
 | 0,i,j,h,_=>by omega
 | n+1,i,j,h,hj=>by
  rw[rowsOf,Array.getElem?_append,uG]
  by_cases hi:i < n
  ·have:i * z.size+j < n * z.size:=by
    have:=Nat.mul_le_mul_right z.size (show i+1<=n by omega);rw[Nat.add_mul]at this;omega
   rw[if_pos this];exact wT z n i j hi hj
  ·obtain rfl:i=n:=ag
   rw[if_neg ag,Nat.add_sub_cancel_left]
def zk:Array Value:=dx Wk.zero KV.zero
theorem Wd (W:World):(Instr.makeSlice 77 (.i 1) (.i 1)).run prog W=.ok (.slice (some ⟨W.heap.size,0,none⟩) 1 1) (W.alloc (.cells (rowsOf zk 1) 92)):=ax
theorem We (W:World):(Instr.makeSlice 77 (.i 2) (.i 2)).run prog W=.ok (.slice (some ⟨W.heap.size,0,none⟩) 2 2) (W.alloc (.cells (rowsOf zk 2) 92)):=ax
theorem Wh (W:World):(Instr.makeSlice 77 (.i 3) (.i 3)).run prog W=.ok (.slice (some ⟨W.heap.size,0,none⟩) 3 3) (W.alloc (.cells (rowsOf zk 3) 92)):=ax
theorem Wi (W:World):(Instr.makeSlice 77 (.i 4) (.i 4)).run prog W=.ok (.slice (some ⟨W.heap.size,0,none⟩) 4 4) (W.alloc (.cells (rowsOf zk 4) 92)):=ax
theorem Wj (W:World):(Instr.makeSlice 77 (.i 5) (.i 5)).run prog W=.ok (.slice (some ⟨W.heap.size,0,none⟩) 5 5) (W.alloc (.cells (rowsOf zk 5) 92)):=ax
theorem Wl (W:World):(Instr.makeSlice 77 (.i 6) (.i 6)).run prog W=.ok (.slice (some ⟨W.heap.size,0,none⟩) 6 6) (W.alloc (.cells (rowsOf zk 6) 92)):=ax
theorem Wm (W:World):(Instr.makeSlice 77 (.i 7) (.i 7)).run prog W=.ok (.slice (some ⟨W.heap.size,0,none⟩) 7 7) (W.alloc (.cells (rowsOf zk 7) 92)):=ax
theorem Wn (W:World):(Instr.makeSlice 77 (.i 8) (.i 8)).run prog W=.ok (.slice (some ⟨W.heap.size,0,none⟩) 8 8) (W.alloc (.cells (rowsOf zk 8) 92)):=ax
theorem Wo (n:Nat) (h1:1<=n) (h2:n<=8) (W:World):(Instr.makeSlice 77 (.i n) (.i n)).run prog W=.ok (.slice (some ⟨W.heap.size,0,none⟩) n n) (W.alloc (.cells (rowsOf zk n) 92)):=by
 have h:n=1\/n=2\/n=3\/n=4\/n=5\/n=6\/n=7\/n=8:=ag
 rcases h with rfl | rfl | rfl | rfl | rfl | rfl | rfl | rfl
 ·exact Wd W
 ·exact We W
 ·exact Wh W
 ·exact Wi W
 ·exact Wj W
 ·exact Wl W
 ·exact Wm W
 ·exact Wn W
structure Nk (W w:World) (n:Nat) (b6 b7 b8:Bool) (kb cb ob rb mb wb:Nat) (ws:List Int):Prop where
 pF:Below W.heap.size W w
 mem:bB w mb wb ws 0
 ml:W.heap.size<=mb/\W.heap.size<=wb
 fk:b6=true->W.heap.size<=kb/\w.heap[kb]? =some (.cells (rowsOf zk n) 92)
 fc:b7=true->W.heap.size<=cb/\af w cb #[.i 0] 96
 fw:b8=true->W.heap.size<=rb/\W.heap.size<=ob/\aO.nV w ob rb (.slice none 0 0) [] 0 0
 tag:∃ t:Nat->Nat,t mb=2/\t wb=3/\(b7=true->t cb=4)/\(b8=true->∀ k,aO.AA ob rb (.slice none 0 0) k->t k=5)/\(b6=true->t kb=7)
section
variable {W w w':World} {n:Nat} {b6 b7 b8:Bool} {kb cb ob rb mb wb:Nat} {ws:List Int}
theorem Nk.start (hb:Below W.heap.size W w) (hm:bB w mb wb ws 0) (ml:W.heap.size<=mb/\W.heap.size<=wb):Nk W w n false false false kb cb ob rb mb wb ws:=
 ⟨hb,hm,ml,nofun,nofun,nofun,⟨fun k=>if k=mb then 2 else 3,if_pos rfl,if_neg fun e=>hm.ne e.symm,nofun,nofun,nofun⟩⟩
theorem Nk.below (h:Nk W w n b6 b7 b8 kb cb ob rb mb wb ws) (hb:Below w.heap.size w w'):Nk W w' n b6 b7 b8 kb cb ob rb mb wb ws:=
 ⟨h.pF.trans (hb.mono h.pF.size),h.mem.below hb,h.ml,fun e=>⟨(h.fk e).1,(hb.block kb (Array.getElem?_eq_some_iff.1 (h.fk e).2).1).trans (h.fk e).2⟩,
  fun e=>⟨(h.fc e).1,af.below (h.fc e).2 hb⟩,fun e=>⟨(h.fw e).1,(h.fw e).2.1,(h.fw e).2.2.below hb⟩,h.tag⟩
theorem Nk.Tv (h:Nk W w n false b7 b8 kb cb ob rb mb wb ws):Nk W (w.alloc (.cells (rowsOf zk n) 92)) n true b7 b8 w.heap.size cb ob rb mb wb ws:=by
 have h2:=h.below (bZ.alloc aQ (.cells (rowsOf zk n) 92));obtain⟨t,t2,t3,t4,t5,-⟩:=h.tag;have hl:=h.mem.lt;refine⟨h2.pF,h2.mem,h2.ml,fun _=>⟨h.pF.size,heap_alloc_new _ _⟩,h2.fc,h2.fw,⟨fun k=>if k < w.heap.size then t k else 7,?_,?_,fun e=>?_,fun e k hk=>?_,fun _=>au⟩⟩
 ·exact(if_pos hl.1).trans t2
 ·exact(if_pos hl.2).trans t3
 ·exact(if_pos (af.lt (h.fc e).2)).trans (t4 e)
 ·exact(if_pos ((h.fw e).2.2.lt hk)).trans (t5 e k hk)
theorem Nk.Wp (h:Nk W w n b6 false b8 kb cb ob rb mb wb ws):Nk W (w.alloc (.cells #[.i 0] 96)) n b6 true b8 kb w.heap.size ob rb mb wb ws:=by
 have h2:=h.below (bZ.alloc aQ (.cells #[.i 0] 96));obtain⟨t,t2,t3,-,t5,t7⟩:=h.tag;have hl:=h.mem.lt;refine⟨h2.pF,h2.mem,h2.ml,h2.fk,fun _=>⟨h.pF.size,heap_alloc_new _ _⟩,h2.fw,⟨fun k=>if k < w.heap.size then t k else 4,?_,?_,fun e=>au,fun e k hk=>?_,fun e=>?_⟩⟩
 ·exact(if_pos hl.1).trans t2
 ·exact(if_pos hl.2).trans t3
 ·exact(if_pos ((h.fw e).2.2.lt hk)).trans (t5 e k hk)
 ·exact(if_pos (Array.getElem?_eq_some_iff.1 (h.fk e).2).1).trans (t7 e)
theorem Nk.Tx (h:Nk W w n b6 b7 false kb cb ob rb mb wb ws) (hA:aO.nV w' (w.heap.size+1) w.heap.size (.slice none 0 0) [] 0 0) (hb:Below w.heap.size w w'):Nk W w' n b6 b7 true kb cb (w.heap.size+1) w.heap.size mb wb ws:=by
 have h2:=h.below hb;obtain⟨t,t2,t3,t4,-,t7⟩:=h.tag;have hl:=h.mem.lt;have hs:=h.pF.size;refine⟨h2.pF,h2.mem,h2.ml,h2.fk,h2.fc,fun _=>⟨hs,ag,hA⟩,⟨fun k=>if k < w.heap.size then t k else 5,?_,?_,fun e=>?_,fun _ k hk=>?_,fun e=>?_⟩⟩
 ·exact(if_pos hl.1).trans t2
 ·exact(if_pos hl.2).trans t3
 ·exact(if_pos (af.lt (h.fc e).2)).trans (t4 e)
 ·have hge:w.heap.size<=k:=by
   rcases hk with hk | hk | hk
   ·omega
   ·omega
   ·exact(dP _ hk).elim
  show(if k < w.heap.size then t k else 5)=5
  rw[if_neg ag]
 ·exact(if_pos (Array.getElem?_eq_some_iff.1 (h.fk e).2).1).trans (t7 e)
end
theorem LF {W:World} {b n:Nat} {T:TypeId} (h:W.heap[b]? =some (.cells (rowsOf zk n) T)) (i j:Nat) (hi:i < n) (hj:j < 35):W.cell? ⟨b,i * 35+j,none⟩=zk[j]?/\W.frozen? ⟨b,i * 35+j,none⟩=false:=by
 have h1:=af.cell (show af W b (rowsOf zk n) T from h) (i * 35+j);have h2:=wT zk n i j hi (by exact hj);exact⟨h1.trans h2,by simp[World.frozen?,h]⟩
theorem Tz {W w:World} {wn:Nat} {cs cst jm cu:Int} {kb cb ob rb mb wb:Nat} (hL:Laid W) (hT:TabAt W) (hn:1<=wn)
  (hM:Nk W w wn true true true kb cb ob rb mb wb (List.replicate (sc (⟨(wn:Int),cs,cst,jm,cu⟩:Cf) (ns (⟨(wn:Int),cs,cst,jm,cu⟩:Cf))) 0)):
  ∃ p:Mp,p.gb=w.heap.size/\aZ (w.alloc (.cells #[.i (wn:Int),.i cs,.i cst,.i jm,.i cu,ptr mb,ptr cb,ptr ob,.slice none 0 0,.slice (some ⟨kb,0,none⟩) wn wn,.i 0,.i 0] 79)) p (Mc.new (⟨(wn:Int),cs,cst,jm,cu⟩:Cf))/\(∀ b,p.ow b≠0->W.heap.size<=b)/\(∀ b,b < W.heap.size->p.ow b=0)/\Below W.heap.size W (w.alloc (.cells #[.i (wn:Int),.i cs,.i cst,.i jm,.i cu,ptr mb,ptr cb,ptr ob,.slice none 0 0,.slice (some ⟨kb,0,none⟩) wn wn,.i 0,.i 0] 79)):=by
 have hM2:=hM.below (bZ.alloc aQ (.cells #[.i (wn:Int),.i cs,.i cst,.i jm,.i cu,ptr mb,ptr cb,ptr ob,.slice none 0 0,.slice (some ⟨kb,0,none⟩) wn wn,.i 0,.i 0] 79));obtain⟨hk1,hk2⟩:=hM.fk rfl;obtain⟨hc1,hc2⟩:=hM.fc rfl;obtain⟨hw1,hw2,hwA⟩:=hM.fw rfl;obtain⟨t,t2,t3,t4,t5,t7⟩:=hM.tag;have hl:=hM.mem.lt;have l3:=(Array.getElem?_eq_some_iff.1 hk2).1;have l4:=af.lt hc2;have hs:=hM.pF.size;have hL0:0 < W.heap.size:=hL.lt aT;have vQ:2 < W.heap.size:=dN (hT 0 aT);have hlen:(Mc.new (⟨(wn:Int),cs,cst,jm,cu⟩:Cf)).ks.length=wn:=by simp[Mc.new]
 refine⟨⟨w.heap.size,mb,wb,cb,ob,rb,kb,.slice none 0 0,.slice none 0 0,fun _=>KV.zero,fun k=>if k < W.heap.size then 0 else if k < w.heap.size then t k else 1⟩,rfl,⟨⟨?_,hM2.mem,(hM2.fc rfl).2,(hM2.fw rfl).2.2,fG _ _,?_,by rw[hlen];omega,hL.stable (hM2.pF.block 0 hL0),hT.below hM2.pF,?_,?_,?_,?_,?_,?_,?_,?_⟩,?_⟩,?_,?_,hM2.pF⟩
 ·rw[hlen];exact heap_alloc_new _ _
 ·refine⟨fun i k hk j u hu=>?_,fun i j hi hj=>?_⟩
  ·have hi:i < wn:=by have:=(List.getElem?_eq_some_iff.1 hk).1;rwa [hlen]at this
   have hj:j < 35:=(Array.getElem?_eq_some_iff.1 hu).1;obtain rfl:k=Wk.zero:=by have:=List.mem_of_getElem? hk;simpa [Mc.new] using (List.mem_replicate.1 this).2
   exact(LF (hM2.fk rfl).2 i j hi hj).1.trans hu
  ·exact(LF (hM2.fk rfl).2 i j (by rwa [hlen]at hi) hj).2
 ·exact⟨if_pos hL0,if_pos vQ⟩
 ·show(if w.heap.size < W.heap.size then 0 else if w.heap.size < w.heap.size then t w.heap.size else 1)=1
  rw[if_neg ag,if_neg ag]
 ·show(if mb < W.heap.size then 0 else if mb < w.heap.size then t mb else 1)=2
  rw[if_neg (by have:=hM.ml.1;omega),if_pos hl.1];exact t2
 ·show(if wb < W.heap.size then 0 else if wb < w.heap.size then t wb else 1)=3
  rw[if_neg (by have:=hM.ml.2;omega),if_pos hl.2];exact t3
 ·show(if cb < W.heap.size then 0 else if cb < w.heap.size then t cb else 1)=4
  rw[if_neg ag,if_pos l4];exact t4 rfl
 ·intro k hk;have h1:=hwA.lt hk
  have h2:W.heap.size<=k:=by
   rcases hk with hk | hk | hk
   ·have:k=ob:=hk;omega
   ·have:k=rb:=hk;omega
   ·exact(dP _ hk).elim
  show(if k < W.heap.size then 0 else if k < w.heap.size then t k else 1)=5
  rw[if_neg ag,if_pos h1];exact t5 rfl k hk
 ·intro k hk;exact(dP _ hk).elim
 ·show(if kb < W.heap.size then 0 else if kb < w.heap.size then t kb else 1)=7
  rw[if_neg ag,if_pos l3];exact t7 rfl
 ·intro i k hk;obtain rfl:k=Wk.zero:=by have:=List.mem_of_getElem? hk;simpa [Mc.new] using (List.mem_replicate.1 this).2
  exact kH (.inl rfl)
 ·intro b hb
  by_cases h:b < W.heap.size
  ·exact absurd (if_pos h) hb
  ·omega
 ·intro b hb;exact if_pos hb
def qX (W:World) (c:Cf) (e:Ending) (W':World):Prop:=
 ∃ p:Mp,e=.returned (.tuple #[ptr p.gb,.i 0])/\aZ W' p (Mc.new c)/\(∀ b,p.ow b≠0->W.heap.size<=b)/\(∀ b,b < W.heap.size->p.ow b=0)/\Below W.heap.size W W'
theorem wD (W:World) (c:Cf) (hc:c.right=true) (hL:Laid W) (hT:TabAt W):Calls prog 11 #[c.val] W (qX W c):=by
 have hr:=fun w=>aj.eP w c
 have hm:=fun w=>Nt w c hc
 simp only[hc]at hr;obtain⟨wo,cs,cst,jm,cu⟩:=c;have hcc:=hc;simp[aj.Cf.right,aj.vM]at hcc;obtain⟨wn,rfl⟩:=Int.eq_ofNat_of_zero_le (show 0<=wo by omega);have hwn:1<=wn/\wn<=8:=ag
 have mkK:=fun w=>Wo wn hwn.1 hwn.2 w
 clear hcc hc;simp only[aj.Cf.val,aj.Cf.cells]at hr hm ⊢;generalize hws:List.replicate (sc (⟨(wn:Int),cs,cst,jm,cu⟩:Cf) (ns (⟨(wn:Int),cs,cst,jm,cu⟩:Cf))) (0:Int)=ws at hm;have HWS:=uH hws;clear hws;have hB0:Below W.heap.size W (W.alloc (.cells (Ab (wn:Int) cs cst jm cu) 27)):=bZ.alloc aQ _;have a0:af (W.alloc (.cells (Ab (wn:Int) cs cst jm cu) 27)) W.heap.size (Ab (wn:Int) cs cst jm cu) 27:=af.new _ _ _;have hl0:W.heap.size < (W.alloc (.cells (Ab (wn:Int) cs cst jm cu) 27)).heap.size:=au
 go_enter func11,ntmps11
 go_upto_region 1 with(fail);generalize W.alloc (.cells (Ab (wn:Int) cs cst jm cu) 27)=w0 at *;have Y6:=cC (wn:Int) (af.cell a0 0);have Y7:=cC cs (af.cell a0 1);have Y8:=cC cst (af.cell a0 2);have Y9:=cC jm (af.cell a0 3);have Za:=cC cu (af.cell a0 4);have A0:=uH a0;clear a0;go_wp2_with fail;refine(hr _).mono ?_;rintro e w1 ⟨rfl,hb1⟩;have hB1:=hB0.trans (hb1.mono hB0.size);have a1:=af.below A0.out hb1;have Zb:=cC (wn:Int) (af.cell a1 0);have Zc:=cC cs (af.cell a1 1);have Zd:=cC cst (af.cell a1 2);have Ze:=cC jm (af.cell a1 3);have Zh:=cC cu (af.cell a1 4);have A1:=uH a1;clear a1 Y6 Y7 Y8 Y9 Za;have hl1:W.heap.size < w1.heap.size:=Nat.lt_of_lt_of_le hl0 hb1.size;clear hr hb1 hB0 A0 hl0;go_upto_region 3 with(fail);go_wp2_with fail;refine(hm _).mono ?_;rintro e w2 ⟨mb,wb,rfl,hM,hm1,hm2,hb2⟩
 have hB2:=hB1.trans (hb2.mono hB1.size);have a2:=af.below A1.out hb2;have hl2:W.heap.size < w2.heap.size:=Nat.lt_of_lt_of_le hl1 hb2.size;have hml:W.heap.size<=mb/\W.heap.size<=wb:=ag
 have A2:=uH a2;clear hm hb2 hB1 A1 hl1 hm1 hm2 a2 Zb Zc Zd Ze Zh;go_upto_region 6 with(fail);have iT:Below w2.heap.size w2 w2.drew:=bY;have LA:∀ w',Below w2.heap.size w2 w'->af w' W.heap.size (Ab (wn:Int) cs cst jm cu) 27:=fun w' h=>af.below A2.out h
 have LA0:∀ w',Below w2.heap.size w2 w'->w'.cell? ⟨W.heap.size,0,none⟩=some (.i (wn:Int)):=fun w' h=>af.cell (LA w' h) 0
 have hM0:Nk W w2.drew wn false false false 0 0 0 0 mb wb ws:=.start hB2.drew (hM.below iT) hml;clear hM hB2;refine jr (S:=fun w'=>Below w2.heap.size w2 w') (by exact iT) (fun hHeld=>?_);refine iC (gd:=none) 0 17 (.load 27 (.tmp 1)) (.agg (Ab (wn:Int) cs cst jm cu)) (aM 27 (.tmp 1) (W.heap.size) 27 (Ab (wn:Int) cs cst jm cu) _ ax underlying27 rfl ax LA) hHeld (ay ?_)
 refine tH 1 18 hHeld ?_;refine tH 4 21 hHeld ?_;refine tH 5 22 hHeld ?_;clear LA LA0;refine gI (i:=2) (k:=6) ax ?_ ?_;refine bI 31 #[] #[] (some 19) none ax ax #[] ax (aH func31) ?_;refine(Clock.iZ _).mono ?_;rintro e wx ⟨rfl,ex⟩;have UY:=hM0.Wp;have hbx:Below w2.heap.size w2 wx:=by rw[ex];exact hHeld.alloc hHeld.size _
 rw[<- ex]at UY;clear ex;refine⟨_,rfl,hbx,fun hHeld=>ay ?_⟩
 refine gI (i:=3) (k:=6) ax ?_ ?_;refine bI 32 #[] #[] (some 20) none ax ax #[] ax (aH func32) ?_;refine(aO.iZ _).mono ?_;rintro e wy ⟨rfl,Wq,hby⟩;have Ws:=UY.Tx Wq hby;have LG:Below w2.heap.size w2 wy:=hHeld.trans (hby.mono hHeld.size);refine⟨_,rfl,LG,fun hHeld=>ay ?_⟩
 have Rb:=Ws.Tv;have hbz:Below w2.heap.size w2 (wy.alloc (.cells (rowsOf zk wn) 92)):=hHeld.alloc hHeld.size _;refine aX (i:=6) ax <| aY (some 23) (.slice (some ⟨wy.heap.size,0,none⟩) wn wn) ax ax (w':=(wy.alloc (.cells (rowsOf zk wn) 92))) (by clear hHeld hbz Rb;go_simp;try rfl) hbz (fun hHeld=>?_)
 try simp only[Act.put,sA,sZ,sS]
 clear hbz;generalize (wy.alloc (.cells (rowsOf zk wn) 92))=wz at *;have hN:=Rb;rotate_left;have Rb:=UY.Tv;have hbz:Below w2.heap.size w2 (wx.alloc (.cells (rowsOf zk wn) 92)):=hHeld.alloc hHeld.size _;refine aY (some 23) (.slice (some ⟨wx.heap.size,0,none⟩) wn wn) ax ax (w':=(wx.alloc (.cells (rowsOf zk wn) 92))) (by clear hHeld hbz Rb;go_simp;try rfl) hbz (fun hHeld=>ay ?_)
 clear hbz;generalize (wx.alloc (.cells (rowsOf zk wn) 92))=wz at *;refine aX (i:=3) ax <| bI 32 #[] #[] (some 20) none ax ax #[] ax (aH func32) ?_
 refine(aO.iZ _).mono ?_;rintro e wy ⟨rfl,Wq,hby⟩;have Ws:=Rb.Tx Wq hby;have LG:Below w2.heap.size w2 wy:=hHeld.trans (hby.mono hHeld.size);refine⟨_,rfl,LG,fun hHeld=>ay ?_⟩
 have hN:=Ws;rotate_left;have Rb:=hM0.Tv;have hbz:Below w2.heap.size w2 (w2.drew.alloc (.cells (rowsOf zk wn) 92)):=hHeld.alloc hHeld.size _;refine aY (some 23) (.slice (some ⟨w2.drew.heap.size,0,none⟩) wn wn) ax ax (w':=(w2.drew.alloc (.cells (rowsOf zk wn) 92))) (by clear hHeld hbz Rb;go_simp;try rfl) hbz (fun hHeld=>ay ?_)
 clear hbz;generalize (w2.drew.alloc (.cells (rowsOf zk wn) 92))=wz at *;refine aX (i:=2) ax <| bI 31 #[] #[] (some 19) none ax ax #[] ax (aH func31) ?_
 refine(Clock.iZ _).mono ?_;rintro e wx ⟨rfl,ex⟩;have UY:=Rb.Wp;have hbx:Below w2.heap.size w2 wx:=by rw[ex];exact hHeld.alloc hHeld.size _
 rw[<- ex]at UY;clear ex;refine⟨_,rfl,hbx,fun hHeld=>ay ?_⟩
 refine aX (i:=3) ax <| bI 32 #[] #[] (some 20) none ax ax #[] ax (aH func32) ?_
 refine(aO.iZ _).mono ?_;rintro e wy ⟨rfl,Wq,hby⟩;have Ws:=UY.Tx Wq hby;have LG:Below w2.heap.size w2 wy:=hHeld.trans (hby.mono hHeld.size);refine⟨_,rfl,LG,fun hHeld=>ay ?_⟩
 have hN:=Ws;rotate_left
 all_goals
  clear mkK;refine tH 7 24 hHeld ?_;obtain⟨p,pg,hat,hge,hlow,hbel⟩:=Tz hL hT hwn.1 (by rw[HWS.out];exact hN);have HP:=uH (And.intro pg (And.intro hat (And.intro hge (And.intro hlow hbel))));clear hN pg hat hge hlow hbel;refine aX (i:=8) ax (aY (some 25) (ptr _) ax ax (by go_simp;exact⟨rfl,rfl⟩) (hHeld.alloc hHeld.size _) (fun hHeld=>ay ?_))
  refine tH 9 2 hHeld ?_;refine tH 10 3 hHeld ?_;refine iR ?_;clear hHeld;go_wp2_with fail;go_ret2;obtain⟨pg,hat,hge,hlow,hbel⟩:=HP.out;exact⟨p,by rw[pg];rfl,hat,hge,hlow,hbel⟩
end Mc
end Go.Proofs.YtbklamnimfmjkaaGreatDoor
