/- Part 16 of the walks and plain laws that the last text joins. -/
import Derived.Test.YtbklamnimfmjkaaGreatDoorKB15
import Derived.Deep.RegionLaw
set_option maxRecDepth 100000
set_option maxHeartbeats 16000000
set_option linter.all false
open Go.Proofs.Tryz
namespace Go.Proofs.YtbklamnimfmjkaaGreatDoor
namespace Mc
open Go.RowKit Hp ah aj Slot ai Tk Cl
def OR (mb wb:Nat) (F:Nat->Prop) (W:World) (F':Nat->Prop) (W':World):Prop:=(∀ k,F' k->F k\/W.heap.size<=k)/\aD (fun k=>F k\/dJ mb wb k) W W'
variable {mb wb:Nat} {F:Nat->Prop} {W:World}
theorem OR.refl:OR mb wb F W F W:=⟨fun _ h=>.inl h,aD.refl _ _⟩
variable {w:World}
theorem OR.trans {G H:Nat->Prop} {w':World} (h:OR mb wb F W G w) (h2:OR mb wb G w H w'):OR mb wb F W H w':=by
 have hs:=h.2.size;refine⟨fun k hk=>?_,h.2.trans h2.2 (fun k hk e=>?_)⟩
 ·rcases h2.1 k hk with e | e
  ·exact h.1 k e
  ·exact .inr ag
 ·rcases e with e | e
  ·rcases h.1 k e with e | e
   ·exact .inl e
   ·omega
  ·exact .inr e
theorem OR.aK {G H:Nat->Prop} {w':World} (h:OR mb wb F W G w) (hc:aD H w w') (hF:∀ k,H k->G k\/dJ mb wb k):OR mb wb F W G w':=h.trans ⟨fun _ e=>.inl e,hc.mono (fun k _ e=>hF k e)⟩
theorem OR.below {G:Nat->Prop} {w':World} (h:OR mb wb F W G w) (hb:Below w.heap.size w w'):OR mb wb F W G w':=h.trans ⟨fun _ e=>.inl e,aD.aF hb⟩
theorem OR.mem {G:Nat->Prop} {w':World} (h:OR mb wb F W G w) (hc:aD (dJ mb wb) w w'):OR mb wb F W G w':=h.aK hc (fun _ e=>.inr e)
variable {tb:Nat}
theorem OR.set {G:Nat->Prop} (h:OR mb wb F W G w) (hG:G tb) (i:Nat) (v:Value):OR mb wb F W G (w.setCell ⟨tb,i,none⟩ v):=h.aK (H:=fun k=>k=tb) ((aD.refl _ _).setCell ⟨tb,i,none⟩ _ (fun _=>rfl)) (fun k e=>.inl (by rw[e];exact hG))
def om (W:World) (v:Value) (l:List Int):Prop:=(v=.slice none 0 0/\l=[])\/∃ g,v=.slice (some ⟨g,0,none⟩) l.length l.length/\mR W g l
theorem om.aK {W':World} {v:Value} {l:List Int} (h:om W v l) (hc:aD F W W') (hF:∀ k,Fp v k->¬ F k):om W' v l:=by
 rcases h with h | ⟨g,rfl,h⟩
 ·exact .inl h
 ·exact .inr ⟨g,rfl,af.aK h hc (hF g ((fF _ _ _ _).2 rfl))⟩
theorem om.lt {v:Value} {l:List Int} (h:om W v l) {k:Nat} (hk:Fp v k):k < W.heap.size:=by
 rcases h with⟨rfl,_⟩ | ⟨g,rfl,h⟩
 ·exact(dP _ hk).elim
 ·rw[fF]at hk;subst hk;exact af.lt h
theorem yI {g:Nat} {l:List Int} (h:mR W g l) (h1:l.length<=1000):SliceAt W (.slice (some ⟨g,0,none⟩) l.length l.length) (l.map (Value.int .i64)):=by
 refine⟨some ⟨g,0,none⟩,l.length,au,by simp[maxLen];omega,.inr ⟨g,0,rfl,fun j u hu=>?_⟩⟩;rw[Nat.zero_add,af.cell h j]
 simpa using hu
theorem om.at {v:Value} {l:List Int} (h:om W v l) (h1:l.length<=1000):∃ a,v=.slice a l.length l.length/\SliceAt W (.slice a l.length l.length) (l.map (Value.int .i64)):=by
 rcases h with⟨rfl,rfl⟩ | ⟨g,rfl,h⟩
 ·exact⟨none,rfl,(fG W 1).at⟩
 ·exact⟨_,rfl,yI h h1⟩
def rW (t:Tw) (vr vl:Value):Array Value:=#[.i t.cf.workers,.i t.cf.slots,.i t.cf.streams,.i t.cf.waiters,.i t.cf.uses,vr,vl,.i t.rounds,.bool t.done]
def KM (W:World) (tb:Nat) (t:Tw) (vr vl:Value):Prop:=af W tb (rW t vr vl) 159
def qD (tb:Nat) (vr vl:Value) (k:Nat):Prop:=k=tb\/Fp vr k\/Fp vl k
structure dD (W:World) (tb mb wb:Nat) (vr vl:Value) (t:Tw) (ws:List Int) (tc:Int):Prop where
 row:KM W tb t vr vl
 own:bR W vr t.round.length 1 (t.round.map (Value.int .i64))
 last:om W vl t.last
 mem:bB W mb wb ws tc
 ap:Apart tb mb wb
 ar:∀ k,Fp vr k->Apart k mb wb/\k≠tb
 al:∀ k,Fp vl k->Apart k mb wb/\k≠tb/\¬ Fp vr k
 laid:Slot.Laid W
def xA (W:World) (tb mb wb:Nat) (vr vl:Value) (v:Value) (t:Tw) (ws:List Int) (tc:Int) (e:Ending) (W':World):Prop:=
 e=.returned v/\∃ vr' vl',dD W' tb mb wb vr' vl' t ws tc/\OR mb wb (qD tb vr vl) W (qD tb vr' vl') W'
section
variable {W W':World} {tb mb wb:Nat} {vr vl:Value} {t:Tw} {ws:List Int} {tc:Int}
theorem dD.lt (h:dD W tb mb wb vr vl t ws tc):tb < W.heap.size:=af.lt h.row
theorem dD.cell (h:dD W tb mb wb vr vl t ws tc) (i:Nat):W.cell? ⟨tb,i,none⟩=(rW t vr vl)[i]?:=af.cell h.row i
theorem dD.frozen (h:dD W tb mb wb vr vl t ws tc) (i:Nat):W.frozen? ⟨tb,i,none⟩=false:=af.frozen h.row i
theorem dD.aK {F:Nat->Prop} (h:dD W tb mb wb vr vl t ws tc) (hc:aD F W W') (h0:¬ F 0) (hF:∀ k,qD tb vr vl k->¬ F k) {aC:List Int} {eX:Int} (hm:bB W' mb wb aC eX):dD W' tb mb wb vr vl t aC eX:=
 ⟨af.aK h.row hc (hF _ (.inl rfl)),h.own.aK hc (fun k hk=>hF k (.inr (.inl hk))),h.last.aK hc (fun k hk=>hF k (.inr (.inr hk))),hm,h.ap,h.ar,h.al,h.laid.stable (hc.block 0 (h.laid.lt aT) h0)⟩
theorem dD.below (h:dD W tb mb wb vr vl t ws tc) (hb:Below W.heap.size W W'):dD W' tb mb wb vr vl t ws tc:=by
 have hc:aD (fun _=>False) W W':=aD.aF hb;exact h.aK hc (fun e=>e) (fun _ _ e=>e) (h.mem.below hb)
theorem dD.bU (h:dD W tb mb wb vr vl t ws tc) (hc:aD (dJ mb wb) W W') {aC:List Int} {eX:Int} (hm:bB W' mb wb aC eX):dD W' tb mb wb vr vl t aC eX:=by
 refine h.aK hc (fun e=>e.elim h.ap.m0 h.ap.w0) (fun k hk e=>?_) hm
 rcases hk with rfl | hk | hk
 ·exact e.elim h.ap.m h.ap.w
 ·exact e.elim (h.ar k hk).1.m (h.ar k hk).1.w
 ·exact e.elim (h.al k hk).1.m (h.al k hk).1.w
theorem dD.put (h:dD W tb mb wb vr vl t ws tc) (i:Nat) (v:Value) (t':Tw) (hrow:(rW t vr vl).setIfInBounds i v=rW t' vr vl) (hr:t'.round=t.round) (hl:t'.last=t.last):dD (W.setCell ⟨tb,i,none⟩ v) tb mb wb vr vl t' ws tc:=by
 have hc:aD (fun k=>k=tb) W (W.setCell ⟨tb,i,none⟩ v):=(aD.refl _ _).setCell _ _ (fun _=>rfl);refine⟨?_,?_,?_,h.mem.far tb i v (fun e=>h.ap.m e.symm) (fun e=>h.ap.w e.symm),h.ap,h.ar,h.al,h.laid.stable (hc.block 0 (h.laid.lt aT) h.ap.f0)⟩
 ·have:=af.aB h.row i v;rw[hrow]at this;exact this
 ·rw[hr];exact h.own.aK hc (fun k hk=>(h.ar k hk).2)
 ·rw[hl];exact h.last.aK hc (fun k hk=>(h.al k hk).2.1)
theorem dD.gN (h:dD W tb mb wb vr vl t ws tc) (v:Value) (l:List Int) (ho:bR W' v l.length 1 (l.map (Value.int .i64))) (hc:aD (Fp vr) W W') (hf:∀ k,Fp v k->Fp vr k\/W.heap.size<=k):
  dD (W'.setCell ⟨tb,5,none⟩ v) tb mb wb v vl {t with round:=l} ws tc/\OR mb wb (qD tb vr vl) W (qD tb v vl) (W'.setCell ⟨tb,5,none⟩ v):=by
 have hs:=hc.size;have hlt:=h.lt;have hml:=h.mem.lt;have h00:=h.laid.lt aT
 have hv:∀ k,Fp v k->Apart k mb wb/\k≠tb:=by
  intro k hk
  rcases hf k hk with e | e
  ·exact h.ar k e
  ·exact⟨⟨ag,ag,ag,h.ap.m0,h.ap.w0⟩,ag⟩
 have hc2:aD (fun k=>k=tb) W' (W'.setCell ⟨tb,5,none⟩ v):=(aD.refl _ _).setCell _ _ (fun _=>rfl);have hm:bB W' mb wb ws tc:=h.mem.stable (hc.block _ hml.1 (fun e=>(h.ar _ e).1.m rfl)) (hc.block _ hml.2 (fun e=>(h.ar _ e).1.w rfl));have hL:Slot.Laid W':=h.laid.stable (hc.block 0 h00 (fun e=>(h.ar _ e).1.f0 rfl));refine⟨⟨?_,ho.aK hc2 (fun k hk=>(hv k hk).2),(h.last.aK hc (fun k hk=>(h.al k hk).2.2)).aK hc2 (fun k hk=>(h.al k hk).2.1),hm.far tb 5 v (fun e=>h.ap.m e.symm) (fun e=>h.ap.w e.symm),h.ap,hv,?_,hL.stable (hc2.block 0 (hL.lt aT) h.ap.f0)⟩,?_,?_⟩
 ·exact af.aB (af.aK h.row hc (fun e=>(h.ar _ e).2 rfl)) 5 v
 ·intro k hk;have hk2:=h.last.lt hk;refine⟨(h.al k hk).1,(h.al k hk).2.1,fun e=>?_⟩
  rcases hf k e with e | e
  ·exact(h.al k hk).2.2 e
  ·omega
 ·intro k hk
  rcases hk with rfl | hk | hk
  ·exact .inl (.inl rfl)
  ·rcases hf k hk with e | e
   ·exact .inl (.inr (.inl e))
   ·exact .inr e
  ·exact .inl (.inr (.inr hk))
 ·exact(hc.mono (G:=fun k=>qD tb vr vl k\/dJ mb wb k) (fun k _ e=>.inl (.inr (.inl e)))).trans hc2 (fun k _ e=>.inl (.inl e))
theorem dD.Ga (h:dD W tb mb wb vr vl t ws tc) (g:Nat) (l:List Int) (hw:mR W' g l) (hb:Below W.heap.size W W') (hg:W.heap.size<=g):
  dD (W'.setCell ⟨tb,6,none⟩ (.slice (some ⟨g,0,none⟩) l.length l.length)) tb mb wb vr (.slice (some ⟨g,0,none⟩) l.length l.length) {t with last:=l} ws tc/\OR mb wb (qD tb vr vl) W (qD tb vr (.slice (some ⟨g,0,none⟩) l.length l.length)) (W'.setCell ⟨tb,6,none⟩ (.slice (some ⟨g,0,none⟩) l.length l.length)):=by
 have h':=h.below hb;have hlt:=h.lt;have hml:=h.mem.lt;have h00:=h.laid.lt aT;generalize hv:(Value.slice (some ⟨g,0,none⟩) l.length l.length)=v at *
 have hfp:∀ k,Fp v k->k=g:=by
  intro k hk;rw[<- hv,fF]at hk;exact hk.symm
 have hc2:aD (fun k=>k=tb) W' (W'.setCell ⟨tb,6,none⟩ v):=(aD.refl _ _).setCell _ _ (fun _=>rfl);refine⟨⟨?_,h'.own.aK hc2 (fun k hk=>(h.ar k hk).2),?_,h'.mem.far tb 6 v (fun e=>h.ap.m e.symm) (fun e=>h.ap.w e.symm),h.ap,h.ar,?_,h'.laid.stable (hc2.block 0 (h'.laid.lt aT) h.ap.f0)⟩,?_,?_⟩
 ·exact af.aB h'.row 6 v
 ·exact .inr ⟨g,hv.symm,af.aK hw hc2 ag⟩
 ·intro k hk;have:=hfp k hk;subst this;exact⟨⟨ag,ag,ag,h.ap.m0,h.ap.w0⟩,ag,fun e=>by have:=h.own.lt e;omega⟩
 ·intro k hk
  rcases hk with rfl | hk | hk
  ·exact .inl (.inl rfl)
  ·exact .inl (.inr (.inl hk))
  ·exact .inr (by have:=hfp k hk;omega)
 ·exact(aD.aF (F:=fun k=>qD tb vr vl k\/dJ mb wb k) hb).trans hc2 (fun k _ e=>.inl (.inl e))
end
theorem iy {ops:Array Oper} {o:Oper} {a:Act} {K:Act->World->Prop} {Q:Exit->Act->World->Prop} {E:Prop} (hgd:o.guard=none) (s z:Operand)
  (ho:o.op=Op.call {callee:=Callee.builtin Builtin.append,args:=#[s,z],argTypes:=#[43,43]})
  (v:Value) (n:Nat) (l:List Int) (x:Int) (b:Nat) (hs:a.eval s=v) (hown:bR w v n 1 (l.map (Value.int .i64))) (hn:n<=1000) (hz:a.eval z=.slice (some ⟨b,0,none⟩) 1 1) (hc:w.cell? ⟨b,0,none⟩=some (.i x))
  (hK:∀ a' c' w',bR w' (.slice a' (n+1) c') (n+1) 1 ((l ++ [x]).map (Value.int .i64))->(∀ k,Fp (.slice a' (n+1) c') k->Fp v k\/w.heap.size<=k)->aD (Fp v) w w'->K (a.put o.dst (.slice a' (n+1) c')) w'):
  if Region.wanted o (yielded ops a.tmps)=true then Oper.wp prog o a w K Q else E:=by
 obtain⟨i0,hi,hz0,hz1,hz2⟩:=lJ;rw[if_pos (by simp[Region.wanted,hgd])]
 obtain⟨a',c',w',hrun,r1,r2,r3⟩:=Hp.pR (P:=prog) w 43 o.type 3 i0 (.i 0) 1 8 underlying43 hi hz0 hz1 hz2 rfl aT v n (l.map (Value.int .i64)) hown ⟨b,0,none⟩ 1 1 [.i x] rfl
  (by
   intro j u hu
   cases j with
   | zero=>simp at hu;subst hu;simpa [Addr.add] using hc
   | succ j=>simp at hu)
  (by intro u hu;simp at hu;subst hu;rfl) (by unfold maxLen;omega) ag
 unfold Oper.wp;simp[execOp,ho,resolve,invoke,builtin,hs,hz,hrun,Result.andThen];exact hK _ _ _ (by simpa using r1) r2 r3
theorem nU (W:World) (c:Cf):Calls prog 172 #[c.val] W fun e W'=>∃ tb,e=.returned (ptr tb)/\KM W' tb (Tw.new c) (.slice none 0 0) (.slice none 0 0)/\W.heap.size<=tb/\Below W.heap.size W W':=by
 go_enter func172,ntmps172
 simp only[Cf.val,Cf.cells];go_wp2_with fail;go_ret;refine⟨W.heap.size+1,rfl,?_,ag,(bZ.alloc aQ _).alloc au _⟩;exact heap_alloc2_new _ _ _
variable {vr vl:Value} {ws:List Int} {tc:Int}
theorem wZ {t:Tw} (h:dD W tb mb wb vr vl t ws tc) (hd:t.done=true) (h0:0 < t.last.length) (h1:t.last.length<=1000):Calls prog 84 #[ptr tb] W (Xj W t.last):=by
 obtain⟨a,ev,hs⟩:=h.last.at h1;have Ro:=zU W a t.last.length t.last hs h0 h1;have c8:W.cell? ⟨tb,8,none⟩=some (.bool true):=by rw[<- hd];exact h.cell 8
 have c6:W.cell? ⟨tb,6,none⟩=some (.slice a t.last.length t.last.length):=by rw[<- ev];exact h.cell 6
 clear h hs ev h0 h1
 go_enter func84,ntmps84
 go_wp2_with fail;refine Ro.mono ?_;rintro e w2 ⟨g,rfl,h1,h2,h3⟩;clear Ro;go_wp2_with fail;go_ret;exact⟨g,rfl,h1,h2,h3⟩
theorem fu {P:Program} {ops:Array Oper} {o:Oper} {a:Act} {K:Act->World->Prop} {Q:Exit->Act->World->Prop} {E:Prop} (F:Nat) (args:Array Operand) (ats:Array TypeId) (hgd:o.guard=none)
  (ho:o.op=Op.call {callee:=Callee.value (Operand.func F),args:=args,argTypes:=ats}) (vals:Array Value) (hv:args.map a.eval=vals) (hE:∀ args w,(callFunc F args).run P w=.ok (.enter F args) w)
  (R:Ending->World->Prop) (hc:Calls P F vals w R) (h:∀ e w',R e w'->∃ v,e=.returned v/\K (a.put o.dst v) w'):
  if Region.wanted o (yielded ops a.tmps)=true then Oper.wp P o a w K Q else E:=by
 rw[if_pos (by simp[Region.wanted,hgd])]
 have hx:(execOp a.eval o).run P w=.ok (.enter F vals) w:=by
  unfold execOp;simp only[ho,resolve];simp[go_sem,hv,hE,Act.eval,invoke,Deferred.ofValue]
 unfold Oper.wp;rw[hx,Oper.upon_enter];refine hc.mono ?_;intro e w' hr;obtain⟨v,rfl,hk⟩:=h e w' hr;exact hk
theorem dD.dL {W':World} {t:Tw} (h:dD W tb mb wb vr vl t ws tc) (hc:aD (Fp vr) W W') (i:Nat):W'.cell? ⟨tb,i,none⟩=(rW t vr vl)[i]?:=(World.cell?_of_block (w:=W) (hc.block _ h.lt (fun e=>(h.ar _ e).2 rfl))).trans (h.cell i)
theorem dD.CL {W':World} {t:Tw} (h:dD W tb mb wb vr vl t ws tc) (hc:aD (Fp vr) W W') (i:Nat):W'.frozen? ⟨tb,i,none⟩=false:=(World.frozen?_of_block (w:=W) (hc.block _ h.lt (fun e=>(h.ar _ e).2 rfl))).trans (h.frozen i)
theorem PL (t:Tw) (ws:List Int) (h:t.done=true):t.step ws=(t,0):=by unfold Tw.step;rw[if_pos h]
theorem PM (t:Tw) (ws:List Int) (h:t.done=false) (hm:t.round.length+1 < ns t.cf):t.step ws=({t with round:=t.round ++ [rd ws (sc t.cf t.round.length)]},1):=by
 unfold Tw.step;rw[if_neg (by rw[h];decide)];dsimp only;rw[if_pos (by rw[List.length_append];exact hm)]
theorem Mv (t:Tw) (ws:List Int) (h:t.done=false) (hm:¬ t.round.length+1 < ns t.cf):t.step ws=({t with round:=[],last:=t.round ++ [rd ws (sc t.cf t.round.length)],rounds:=t.rounds+1,done:=decide (0 < t.rounds) && (t.round ++ [rd ws (sc t.cf t.round.length)] == t.last)},1):=by
 unfold Tw.step;rw[if_neg (by rw[h];decide)];dsimp only;rw[if_neg (by rw[List.length_append];exact hm)]
theorem ES {t:Tw} (h:dD W tb mb wb vr vl t ws tc) (hd:t.done=true):Calls prog 83 #[ptr tb,ptr mb] W (xA W tb mb wb vr vl (.bool (t.step ws).1.done) (t.step ws).1 ws (tc+(t.step ws).2)):=by
 rw[PL t ws hd];have c8:W.cell? ⟨tb,8,none⟩=some (.bool true):=by rw[<- hd];exact h.cell 8
 rw[hd];have H:=uH h;clear h hd
 go_enter func83,ntmps83
 go_wp2_with fail;go_ret;exact⟨rfl,vr,vl,by rw[show tc+((0:Nat):Int)=tc by simp];exact H.out,OR.refl⟩
theorem ET {t:Tw} (h:dD W tb mb wb vr vl t ws tc) (ht:0<=tc/\tc<=4000000000000000000) (hc:aA t.cf) (hlen:ws.length=sc t.cf (ns t.cf)) (hd:t.done=false) (hm:t.round.length+1 < ns t.cf):Calls prog 83 #[ptr tb,ptr mb] W (xA W tb mb wb vr vl (.bool (t.step ws).1.done) (t.step ws).1 ws (tc+(t.step ws).2)):=by
 rw[PM t ws hd hm];dsimp only;have hns:=hc.ns;have hn:t.round.length<=1000:=by have:=hc.s;omega
 have hsl:=fun W=>bg W t.cf t.round.length (by have:=hc.w;omega) (by have:=hc.s;omega)
 have hsc:(3+2 * t.cf.workers+(t.round.length:Int))=((sc t.cf t.round.length:Nat):Int):=by have:=hc.w;unfold sc;omega
 simp only[hsc,Cf.val,Cf.cells]at hsl;have hrd:=rd_some (ws:=ws) (i:=sc t.cf t.round.length) (by rw[hlen];unfold sc;omega);generalize rd ws (sc t.cf t.round.length)=x at *;have hld:=fun W (h:bB W mb wb ws tc)=>aU h ht (sc t.cf t.round.length) x hrd
 obtain⟨ra,rc,er⟩:=h.own.form;subst er;obtain⟨c0,c1,c2,c3,c4⟩:=cQ t.cf h.cell;have c5:=cV (.slice ra t.round.length rc) (h.cell 5);have c9:W.cell? ⟨tb,8,none⟩=some (.bool false):=by rw[<- hd];exact h.cell 8
 have cf5:=h.frozen 5;have H:=uH h;clear h hrd hsc;generalize sc t.cf t.round.length=cell at *
 go_enter func83,ntmps83
 go_wp2_with fail
 go_region_law ((first
  | (refine fu 54 #[.tmp 18,.tmp 23] #[27,3] rfl rfl #[(.agg (Ab t.cf.workers t.cf.slots t.cf.streams t.cf.waiters t.cf.uses)),.i t.round.length] ax (aH func54) _ (hsl _) ?_;rintro e w5 ⟨rfl,hb5⟩;refine⟨_,rfl,?_⟩;have h5:dD w5 tb mb wb (.slice ra t.round.length rc) vl t ws tc:=(by first | exact(H.out.below (bZ)).below hb5 | exact(H.out.below (bY)).below hb5 | exact(H.out.below (bY.drew)).below hb5 | exact(H.out.below (bY.drew.drew)).below hb5 | exact(H.out.below (bY.drew.drew.drew)).below hb5 | exact(H.out.below (bY.drew.drew.drew.drew)).below hb5);have q5:OR mb wb (qD tb (.slice ra t.round.length rc) vl) W (qD tb (.slice ra t.round.length rc) vl) w5:=(by first | exact(OR.refl.below (bZ)).below hb5 | exact(OR.refl.below (bY)).below hb5 | exact(OR.refl.below (bY.drew)).below hb5 | exact(OR.refl.below (bY.drew.drew)).below hb5 | exact(OR.refl.below (bY.drew.drew.drew)).below hb5 | exact(OR.refl.below (bY.drew.drew.drew.drew)).below hb5);obtain⟨a0,a1,a2,a3,a4⟩:=cQ t.cf h5.cell;have a5:=cV (.slice ra t.round.length rc) (h5.cell 5))
  | ((first | refine fu 56 #[.tmp 14,.tmp 24] #[70,3] rfl rfl #[ptr mb,.i cell] ax (aH func56) _ (hld _ (h5.below (bZ)).mem) ?_ | refine fu 56 #[.tmp 14,.tmp 24] #[70,3] rfl rfl #[ptr mb,.i cell] ax (aH func56) _ (hld _ (h5.below (bY)).mem) ?_ | refine fu 56 #[.tmp 14,.tmp 24] #[70,3] rfl rfl #[ptr mb,.i cell] ax (aH func56) _ (hld _ (h5.below (bY.drew)).mem) ?_);rintro e w6 ⟨rfl,jH,fT⟩;refine⟨_,rfl,?_⟩;have h6:dD w6 tb mb wb (.slice ra t.round.length rc) vl t ws (tc+1):=(by first | exact(h5.below (bZ)).bU fT jH | exact(h5.below (bY)).bU fT jH | exact(h5.below (bY.drew)).bU fT jH);have q6:OR mb wb (qD tb (.slice ra t.round.length rc) vl) W (qD tb (.slice ra t.round.length rc) vl) w6:=(by first | exact(q5.below (bZ)).mem fT | exact(q5.below (bY)).mem fT | exact(q5.below (bY.drew)).mem fT);have s6:tb < w6.heap.size:=h6.lt;obtain⟨b0,b1,b2,b3,b4⟩:=cQ t.cf h6.cell;have b5:=cV (.slice ra t.round.length rc) (h6.cell 5))
  | (refine iy rfl (.tmp 13) (.tmp 26) rfl (.slice ra t.round.length rc) t.round.length t.round x w6.heap.size rfl ((h6.below ((bZ.alloc aQ (.cells #[.i x] 3)))).own) hn rfl (af.cell (af.new w6 _ _) 0) ?_;intro a8 c8 w8 o8 f8 g8;have h7:=h6.below ((bZ.alloc aQ (.cells #[.i x] 3)));have p8:=h7.gN (.slice a8 (t.round.length+1) c8) (t.round ++ [x]) (by simpa using o8) g8 f8;have q7:=q6.below ((bZ.alloc aQ (.cells #[.i x] 3)));have d0:=cC t.cf.workers (h7.dL g8 0);have d1:=cC t.cf.slots (h7.dL g8 1);have d2:=cC t.cf.streams (h7.dL g8 2);have d3:=cC t.cf.waiters (h7.dL g8 3);have d4:=cC t.cf.uses (h7.dL g8 4);have d5:=cV (.slice ra t.round.length rc) (h7.dL g8 5);have f8:=h7.CL g8 5;have H9:=uH p8.1;have Q9:=uH (q7.trans p8.2))
  | (refine iy rfl (.tmp 13) (.tmp 26) rfl (.slice ra t.round.length rc) t.round.length t.round x w6.heap.size rfl ((h6.below ((bZ.alloc aQ (.cells #[.i x] 3)).drew)).own) hn rfl (af.cell (af.new w6 _ _) 0) ?_;intro a8 c8 w8 o8 f8 g8;have h7:=h6.below ((bZ.alloc aQ (.cells #[.i x] 3)).drew);have p8:=h7.gN (.slice a8 (t.round.length+1) c8) (t.round ++ [x]) (by simpa using o8) g8 f8;have q7:=q6.below ((bZ.alloc aQ (.cells #[.i x] 3)).drew);have d0:=cC t.cf.workers (h7.dL g8 0);have d1:=cC t.cf.slots (h7.dL g8 1);have d2:=cC t.cf.streams (h7.dL g8 2);have d3:=cC t.cf.waiters (h7.dL g8 3);have d4:=cC t.cf.uses (h7.dL g8 4);have d5:=cV (.slice ra t.round.length rc) (h7.dL g8 5);have f8:=h7.CL g8 5;have H9:=uH p8.1;have Q9:=uH (q7.trans p8.2))
  | (refine iy rfl (.tmp 13) (.tmp 26) rfl (.slice ra t.round.length rc) t.round.length t.round x w6.heap.size rfl ((h6.below ((bY.alloc aQ (.cells #[.i x] 3)))).own) hn rfl (af.cell (af.new w6.drew _ _) 0) ?_;intro a8 c8 w8 o8 f8 g8;have h7:=h6.below ((bY.alloc aQ (.cells #[.i x] 3)));have p8:=h7.gN (.slice a8 (t.round.length+1) c8) (t.round ++ [x]) (by simpa using o8) g8 f8;have q7:=q6.below ((bY.alloc aQ (.cells #[.i x] 3)));have d0:=cC t.cf.workers (h7.dL g8 0);have d1:=cC t.cf.slots (h7.dL g8 1);have d2:=cC t.cf.streams (h7.dL g8 2);have d3:=cC t.cf.waiters (h7.dL g8 3);have d4:=cC t.cf.uses (h7.dL g8 4);have d5:=cV (.slice ra t.round.length rc) (h7.dL g8 5);have f8:=h7.CL g8 5;have H9:=uH p8.1;have Q9:=uH (q7.trans p8.2))
  | (refine iy rfl (.tmp 13) (.tmp 26) rfl (.slice ra t.round.length rc) t.round.length t.round x w6.heap.size rfl ((h6.below ((bY.alloc aQ (.cells #[.i x] 3)).drew)).own) hn rfl (af.cell (af.new w6.drew _ _) 0) ?_;intro a8 c8 w8 o8 f8 g8;have h7:=h6.below ((bY.alloc aQ (.cells #[.i x] 3)).drew);have p8:=h7.gN (.slice a8 (t.round.length+1) c8) (t.round ++ [x]) (by simpa using o8) g8 f8;have q7:=q6.below ((bY.alloc aQ (.cells #[.i x] 3)).drew);have d0:=cC t.cf.workers (h7.dL g8 0);have d1:=cC t.cf.slots (h7.dL g8 1);have d2:=cC t.cf.streams (h7.dL g8 2);have d3:=cC t.cf.waiters (h7.dL g8 3);have d4:=cC t.cf.uses (h7.dL g8 4);have d5:=cV (.slice ra t.round.length rc) (h7.dL g8 5);have f8:=h7.CL g8 5;have H9:=uH p8.1;have Q9:=uH (q7.trans p8.2))))
 all_goals
  have e1:=cC t.cf.slots (H9.out.cell 1);have e5:=cV (.slice a8 (t.round.length+1) c8) (H9.out.cell 5);clear p8 d0 d1 d2 d3 d4 d5 f8 b0 b1 b2 b3 b4 b5 a0 a1 a2 a3 a4 a5 c0 c1 c2 c3 c4 c5 h7 q7 h6 q6 h5 q5;generalize w8.setCell ⟨tb,5,none⟩ (.slice a8 (t.round.length+1) c8)=w9 at *;have k1:(t.round.length:Int)+1 < t.cf.slots:=ag
  clear hm hns hlen;go_wp2_with fail
  go_quiet (fail)
  go_wp2_with fail;go_ret;exact⟨by rw[hd];rfl,_,_,H9.out.below (eO bZ _),Q9.out.below (eO bZ _)⟩
end Mc
end Go.Proofs.YtbklamnimfmjkaaGreatDoor
