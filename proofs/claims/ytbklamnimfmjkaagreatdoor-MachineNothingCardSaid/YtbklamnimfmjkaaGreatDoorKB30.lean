/- Part 30 of the walks and plain laws that the last text joins. -/
import Derived.Test.YtbklamnimfmjkaaGreatDoorKB29
set_option maxRecDepth 100000
set_option maxHeartbeats 16000000
set_option linter.all false
open Go.Proofs.Tryz
namespace Go.Proofs.YtbklamnimfmjkaaGreatDoor
namespace Mc
open Go.RowKit Hp ah aj Slot ai Tk Cl
def Tu (W:World) (gb who:Nat) (F:Nat) (x:Value) (T:TypeId) (e:Ending) (W':World):Prop:=
 ∃ u b1 b2 b3,e=.returned u/\qa W' gb who (fun b=>W.heap.size<=b/\b < W'.heap.size) F u x T b1 b2 b3/\Below W.heap.size W W'
theorem Ec (W:World) (gb who tb:Nat):Calls prog 86 #[ptr gb,.i who,ptr tb] W (Tu W gb who 120 (ptr tb) 128):=by
 go_enter func86,ntmps86
 go_wp2_with fail;go_ret;have h:=tL W #[ptr gb] #[.i who] #[ptr tb] 29 3 128;exact⟨_,W.heap.size+1+1,W.heap.size,W.heap.size+1,rfl,⟨rfl,h.2.2.1,h.1,h.2.1,⟨by simp<;>omega,by simp<;>omega,by simp<;>omega⟩⟩,h.2.2.2⟩
theorem OQ (W:World) (gb who tb:Nat):Calls prog 103 #[ptr gb,.i who,ptr tb] W (Tu W gb who 153 (ptr tb) 150):=by
 go_enter func103,ntmps103
 go_wp2_with fail;go_ret;have h:=tL W #[ptr gb] #[.i who] #[ptr tb] 29 3 150;exact⟨_,W.heap.size+1+1,W.heap.size,W.heap.size+1,rfl,⟨rfl,h.2.2.1,h.1,h.2.1,⟨by simp<;>omega,by simp<;>omega,by simp<;>omega⟩⟩,h.2.2.2⟩
theorem yF (W:World) (gb who tb:Nat):Calls prog 107 #[ptr gb,.i who,ptr tb] W (Tu W gb who 156 (ptr tb) 153):=by
 go_enter func107,ntmps107
 go_wp2_with fail;go_ret;have h:=tL W #[ptr gb] #[.i who] #[ptr tb] 29 3 153;exact⟨_,W.heap.size+1+1,W.heap.size,W.heap.size+1,rfl,⟨rfl,h.2.2.1,h.1,h.2.1,⟨by simp<;>omega,by simp<;>omega,by simp<;>omega⟩⟩,h.2.2.2⟩
theorem Lx (W:World) (gb who:Nat) (f:Bool):Calls prog 114 #[ptr gb,.i who,.bool f] W fun e W'=>∃ u b1 b2 b3 b4,e=.returned u/\lu W' gb who (fun b=>W.heap.size<=b/\b < W'.heap.size) f u (.pointer none) b1 b2 b3 b4/\Below W.heap.size W W':=by
 go_enter func114,ntmps114
 go_wp2_with fail;go_ret;have h:=tL W #[ptr gb] #[.i who] #[.bool f] 29 3 4;have h4:=LD W #[ptr gb] #[.i who] #[.bool f] #[.pointer none] 29 3 4 89;exact⟨_,W.heap.size+1+1+1,W.heap.size,W.heap.size+1,W.heap.size+1+1,rfl,⟨rfl,h4.2.2.1,h.1.alloc _,h4.1,h4.2.1,⟨by simp<;>omega,by simp<;>omega,by simp<;>omega,by simp<;>omega⟩,ag⟩,h4.2.2.2⟩
end Mc
namespace Mc
open Go.RowKit Hp ah aj Slot ai Tk Cl Find
structure qz (W:World) (gb kb who:Nat) (c:Cf) (a:Mod.Ask) (b2 b3 b5 b6 b7:Nat):Prop where
 r2:af W b2 #[ptr gb] 29
 r3:af W b3 #[.i who] 3
 r5:af W b5 #[.pointer (some ⟨kb,who * 35,none⟩)] 101
 r6:af W b6 (Ab c.workers c.slots c.streams c.waiters c.uses) 27
 r7:af W b7 (Ag a.op a.deadline a.wait a.force a.slot a.gen a.stream) 35
theorem qz.below {W W':World} {gb kb who:Nat} {c:Cf} {a:Mod.Ask} {b2 b3 b5 b6 b7:Nat} (h:qz W gb kb who c a b2 b3 b5 b6 b7) (hb:Below W.heap.size W W'):qz W' gb kb who c a b2 b3 b5 b6 b7:=
 ⟨af.below h.r2 hb,af.below h.r3 hb,af.below h.r5 hb,af.below h.r6 hb,af.below h.r7 hb⟩
def K8 (b2 b3 b5 b6 b7:Nat):Array MapEntry:=#[⟨.i 0,.func (.func 100) #[] #[ptr b5,ptr b2,ptr b3,ptr b6],0⟩,⟨.i 1,.func (.func 102) #[] #[ptr b2,ptr b3,ptr b6,ptr b7],1⟩,⟨.i 2,.func (.func 105) #[] #[ptr b2,ptr b3,ptr b6,ptr b7],2⟩,⟨.i 3,.func (.func 106) #[] #[ptr b2,ptr b3,ptr b6,ptr b7],3⟩,⟨.i 4,.func (.func 109) #[] #[ptr b2,ptr b3,ptr b6,ptr b7],4⟩,⟨.i 5,.func (.func 111) #[] #[ptr b2,ptr b3],5⟩,⟨.i 6,.func (.func 113) #[] #[ptr b2,ptr b3,ptr b7],6⟩,⟨.i 7,.func (.func 115) #[] #[ptr b2,ptr b3],7⟩]
def VS (W:World) (gb kb who:Nat) (c:Cf) (a:Mod.Ask) (e:Ending) (W':World):Prop:=
 ∃ r b2 b3 b5 b6 b7,e=.returned (.map (some r))/\qz W' gb kb who c a b2 b3 b5 b6 b7/\W'.heap[r]? =some (.map (K8 b2 b3 b5 b6 b7) 8)/\Below W.heap.size W W'
theorem La {W0 W:World} {p0 p:Mp} {m:Mc} {who:Nat} {k:Wk} {v:KV} {s:Sh} (h:Mx W0 p0 W p m who k v s):Calls prog 82 #[ptr p.gb,.i who] W (VS W p.gb p.kb who m.cf k.ask):=by
 obtain⟨hx0,hx1,hx2⟩:=idx h.hw;have h1:=h.below ((bZ.alloc aQ (.cells #[ptr p.gb] 29)).alloc au (.cells #[.i who] 3));have r1:=gH W #[ptr p.gb] #[.i who] 29 3;have r0:=(af.new W #[ptr p.gb] 29).alloc (.cells #[.i who] 3);have hmk:=fun W=>run_makeMap (P:=prog) 123 W
 clear h
 go_enter func82,ntmps82
 go_upto_region 1 with(fail);generalize ((W.alloc (.cells #[ptr p.gb] 29)).alloc (.cells #[.i who] 3))=w1 at *;obtain⟨g0,g1,g2,g3,g4⟩:=cQ m.cf h1.az;have g9:=cV (.slice (some ⟨p.kb,0,none⟩) m.ks.length m.ks.length) (h1.az 9);have c2:=cP p.gb (r0.cell 0);have c3:=cC who (r1.1.cell 0);have hl2:W.heap.size < w1.heap.size:=r0.lt;have hl3:W.heap.size+1 < w1.heap.size:=r1.1.lt;have hlg:p.gb < w1.heap.size:=h1.core.qp;have H1:=uH h1;have R0:=uH r0;have R1:=uH r1;clear h1 r0 r1
 go_cut [5,6] from 8 to 17 (fun kv cv wx=>∃ b5 b6,kv=ptr b5/\cv=ptr b6/\RowKit.Hid (af wx b5 #[.pointer (some ⟨p.kb,who * 35,none⟩)] 101/\af wx b6 (Ab m.cf.workers m.cf.slots m.cf.streams m.cf.waiters m.cf.uses) 27/\Below w1.heap.size w1 wx))
 case first=>
  rename_i JJ KK JI Fe
  go_region
  ·refine Fe _ _ (Met.intro (JI _ _ ?_))
   (repeat apply Exists.intro)
   refine⟨?_,rfl⟩;have a2:=gH w1 #[.pointer (some ⟨p.kb,who * 35,none⟩)] (Ab m.cf.workers m.cf.slots m.cf.streams m.cf.waiters m.cf.uses) 101 27;exact⟨w1.heap.size,w1.heap.size+1,rfl,rfl,uH ⟨((af.new w1 _ _).alloc _).drew,a2.1.drew,a2.2.drew⟩⟩
  ·refine Fe _ _ (Met.intro (JI _ _ ?_))
   (repeat apply Exists.intro)
   refine⟨?_,rfl⟩;have a2:=gH w1 (Ab m.cf.workers m.cf.slots m.cf.streams m.cf.waiters m.cf.uses) #[.pointer (some ⟨p.kb,who * 35,none⟩)] 27 101;exact⟨w1.heap.size+1,w1.heap.size,rfl,rfl,uH ⟨a2.1.drew,((af.new w1 _ _).alloc _).drew,a2.2.drew⟩⟩
 case rest=>
  obtain⟨b5,b6,rfl,rfl,HC⟩:=hcut;obtain⟨Y1,Ta,hB⟩:=HC.out;have h2:=H1.out.below hB;have k1:=cC k.ask.op (h2.aL 1 rfl);have k2:=cC k.ask.deadline (h2.aL 2 rfl);have k3:=cV (.bool k.ask.wait) (h2.aL 3 rfl);have k4:=cV (.bool k.ask.force) (h2.aL 4 rfl);have k5:=cC k.ask.slot (h2.aL 5 rfl);have k6:=cC k.ask.gen (h2.aL 6 rfl);have k7:=cC k.ask.stream (h2.aL 7 rfl);have d5:=cV (.pointer (some ⟨p.kb,who * 35,none⟩)) (Y1.cell 0);have q0:=af.below R0.out hB;have q1:=af.below R1.out.1 hB;clear g0 g1 g2 g3 g4 g9 c2 c3 hl2 hl3 hlg HC;have rb7:af (wc.alloc (.cells (Ag k.ask.op k.ask.deadline k.ask.wait k.ask.force k.ask.slot k.ask.gen k.ask.stream) 35)) wc.heap.size (Ag k.ask.op k.ask.deadline k.ask.wait k.ask.force k.ask.slot k.ask.gen k.ask.stream) 35:=af.new wc _ _
  have HJ:RowKit.Hid (qz (wc.alloc (.cells (Ag k.ask.op k.ask.deadline k.ask.wait k.ask.force k.ask.slot k.ask.gen k.ask.stream) 35)) p.gb p.kb who m.cf k.ask W.heap.size (W.heap.size+1) b5 b6 wc.heap.size):=uH ⟨q0.alloc _,q1.alloc _,Y1.alloc _,Ta.alloc _,rb7⟩;have HB:RowKit.Hid (Below W.heap.size W (wc.alloc (.cells (Ag k.ask.op k.ask.deadline k.ask.wait k.ask.force k.ask.slot k.ask.gen k.ask.stream) 35))):=uH ((R1.out.2.trans (hB.mono R1.out.2.size)).alloc (Nat.le_trans R1.out.2.size hB.size) _);clear hB h2 q0 q1 Y1 Ta rb7;go_upto_region 3 with(fail);generalize (wc.alloc (.cells (Ag k.ask.op k.ask.deadline k.ask.wait k.ask.force k.ask.slot k.ask.gen k.ask.stream) 35))=w3 at *;generalize wc.heap.size=b7 at *;clear k1 k2 k3 k4 k5 k6 k7 d5
  have h0:=bf (P:=prog) w3 w3.heap.size 123 3 122 #[] 0 0 (.func (.func 100) #[] #[ptr b5,ptr W.heap.size,ptr (W.heap.size+1),ptr b6]) underlying123 underlying3 rfl rfl;have h1:=bf (P:=prog) w3 w3.heap.size 123 3 122 #[⟨.i 0,.func (.func 100) #[] #[ptr b5,ptr W.heap.size,ptr (W.heap.size+1),ptr b6],0⟩] 1 1 (.func (.func 102) #[] #[ptr W.heap.size,ptr (W.heap.size+1),ptr b6,ptr b7]) underlying123 underlying3 rfl rfl;have h2:=bf (P:=prog) w3 w3.heap.size 123 3 122 #[⟨.i 0,.func (.func 100) #[] #[ptr b5,ptr W.heap.size,ptr (W.heap.size+1),ptr b6],0⟩,⟨.i 1,.func (.func 102) #[] #[ptr W.heap.size,ptr (W.heap.size+1),ptr b6,ptr b7],1⟩] 2 2 (.func (.func 105) #[] #[ptr W.heap.size,ptr (W.heap.size+1),ptr b6,ptr b7]) underlying123 underlying3 rfl rfl
  have h3:=bf (P:=prog) w3 w3.heap.size 123 3 122 #[⟨.i 0,.func (.func 100) #[] #[ptr b5,ptr W.heap.size,ptr (W.heap.size+1),ptr b6],0⟩,⟨.i 1,.func (.func 102) #[] #[ptr W.heap.size,ptr (W.heap.size+1),ptr b6,ptr b7],1⟩,⟨.i 2,.func (.func 105) #[] #[ptr W.heap.size,ptr (W.heap.size+1),ptr b6,ptr b7],2⟩] 3 3 (.func (.func 106) #[] #[ptr W.heap.size,ptr (W.heap.size+1),ptr b6,ptr b7]) underlying123 underlying3 rfl rfl
  have h4:=bf (P:=prog) w3 w3.heap.size 123 3 122 #[⟨.i 0,.func (.func 100) #[] #[ptr b5,ptr W.heap.size,ptr (W.heap.size+1),ptr b6],0⟩,⟨.i 1,.func (.func 102) #[] #[ptr W.heap.size,ptr (W.heap.size+1),ptr b6,ptr b7],1⟩,⟨.i 2,.func (.func 105) #[] #[ptr W.heap.size,ptr (W.heap.size+1),ptr b6,ptr b7],2⟩,⟨.i 3,.func (.func 106) #[] #[ptr W.heap.size,ptr (W.heap.size+1),ptr b6,ptr b7],3⟩] 4 4 (.func (.func 109) #[] #[ptr W.heap.size,ptr (W.heap.size+1),ptr b6,ptr b7]) underlying123 underlying3 rfl rfl
  have h5:=bf (P:=prog) w3 w3.heap.size 123 3 122 #[⟨.i 0,.func (.func 100) #[] #[ptr b5,ptr W.heap.size,ptr (W.heap.size+1),ptr b6],0⟩,⟨.i 1,.func (.func 102) #[] #[ptr W.heap.size,ptr (W.heap.size+1),ptr b6,ptr b7],1⟩,⟨.i 2,.func (.func 105) #[] #[ptr W.heap.size,ptr (W.heap.size+1),ptr b6,ptr b7],2⟩,⟨.i 3,.func (.func 106) #[] #[ptr W.heap.size,ptr (W.heap.size+1),ptr b6,ptr b7],3⟩,⟨.i 4,.func (.func 109) #[] #[ptr W.heap.size,ptr (W.heap.size+1),ptr b6,ptr b7],4⟩] 5 5 (.func (.func 111) #[] #[ptr W.heap.size,ptr (W.heap.size+1)]) underlying123 underlying3 rfl rfl
  have h6:=bf (P:=prog) w3 w3.heap.size 123 3 122 #[⟨.i 0,.func (.func 100) #[] #[ptr b5,ptr W.heap.size,ptr (W.heap.size+1),ptr b6],0⟩,⟨.i 1,.func (.func 102) #[] #[ptr W.heap.size,ptr (W.heap.size+1),ptr b6,ptr b7],1⟩,⟨.i 2,.func (.func 105) #[] #[ptr W.heap.size,ptr (W.heap.size+1),ptr b6,ptr b7],2⟩,⟨.i 3,.func (.func 106) #[] #[ptr W.heap.size,ptr (W.heap.size+1),ptr b6,ptr b7],3⟩,⟨.i 4,.func (.func 109) #[] #[ptr W.heap.size,ptr (W.heap.size+1),ptr b6,ptr b7],4⟩,⟨.i 5,.func (.func 111) #[] #[ptr W.heap.size,ptr (W.heap.size+1)],5⟩] 6 6 (.func (.func 113) #[] #[ptr W.heap.size,ptr (W.heap.size+1),ptr b7]) underlying123 underlying3 rfl rfl
  have h7:=bf (P:=prog) w3 w3.heap.size 123 3 122 #[⟨.i 0,.func (.func 100) #[] #[ptr b5,ptr W.heap.size,ptr (W.heap.size+1),ptr b6],0⟩,⟨.i 1,.func (.func 102) #[] #[ptr W.heap.size,ptr (W.heap.size+1),ptr b6,ptr b7],1⟩,⟨.i 2,.func (.func 105) #[] #[ptr W.heap.size,ptr (W.heap.size+1),ptr b6,ptr b7],2⟩,⟨.i 3,.func (.func 106) #[] #[ptr W.heap.size,ptr (W.heap.size+1),ptr b6,ptr b7],3⟩,⟨.i 4,.func (.func 109) #[] #[ptr W.heap.size,ptr (W.heap.size+1),ptr b6,ptr b7],4⟩,⟨.i 5,.func (.func 111) #[] #[ptr W.heap.size,ptr (W.heap.size+1)],5⟩,⟨.i 6,.func (.func 113) #[] #[ptr W.heap.size,ptr (W.heap.size+1),ptr b7],6⟩] 7 7 (.func (.func 115) #[] #[ptr W.heap.size,ptr (W.heap.size+1)]) underlying123 underlying3 rfl rfl;simp only[List.push_toArray,List.nil_append,List.cons_append,Nat.zero_add,Nat.reduceAdd]at hmk h0 h1 h2 h3 h4 h5 h6 h7;go_wp2_with fail;go_ret
  exact⟨w3.heap.size,W.heap.size,W.heap.size+1,b5,b6,b7,rfl,HJ.out.below (bZ.alloc aQ _),World.alloc_heap_new w3 _,HB.out.alloc HB.out.size _⟩
end Mc
namespace Mc
open Go.RowKit Hp ah aj Slot ai Tk Cl
def uW (W:World) (gb mb wb who:Nat) (ws:List Int) (tc:Int) (c:Cf) (j:Az) (e:Ending) (W':World):Prop:=
 ∃ u,e=.returned u/\fZ W' gb mb wb (fun b=>W.heap.size<=b/\b < W'.heap.size) who ws tc c j u/\Below W.heap.size W W'
section
variable {W0 W w1 w2:World} {p0 p:Mp} {m:Mc} {who:Nat} {k:Wk} {v:KV} {s:Sh}
variable {b1 b2 b3:Nat}
theorem Mx.Eb (h:Mx W0 p0 W p m who k v s) (hb1:Below W.heap.size W w1) {F:Nat} {u x:Value} {T:TypeId} (hc:qa w2 p.gb who (fun b=>w1.heap.size<=b/\b < w2.heap.size) F u x T b1 b2 b3):qa w2 p.gb who (fun b=>W.heap.size<=b/\b < w2.heap.size) F u x T b1 b2 b3:=by
 have hs:=hb1.size;exact⟨hc.v,hc.r1,hc.r2,hc.r3,⟨by have:=hc.l.1.1;omega,hc.l.1.2⟩,⟨by have:=hc.l.2.1.1;omega,hc.l.2.1.2⟩,⟨by have:=hc.l.2.2.1;omega,hc.l.2.2.2⟩⟩
theorem Mx.Cc (h:Mx W0 p0 W p m who k v s) (hb2:Below w1.heap.size w1 w2) {F:Nat} {u x:Value} {T:TypeId} {b:Nat} (hc:qa w2 p.gb who (fun b=>w1.heap.size<=b/\b < w2.heap.size) F u x T b1 b2 b3) (h1:W.heap.size<=b) (h2:b < w1.heap.size):uw (fun b=>W.heap.size<=b/\b < w2.heap.size) b1 b2 b3 b:=by
 have hs:=hb2.size;have l1:=hc.l.1.1;have l2:=hc.l.2.1.1;have l3:=hc.l.2.2.1;exact⟨⟨h1,ag⟩,ag,ag,ag⟩
theorem FK (h:Mx W0 p0 W p m who k v s) {tb:Nat} {t:Tk.Tk} (hr:OP w1 tb t none none) (ht:t.look=none/\t.rt=none) (hge:W.heap.size<=tb) (hb1:Below W.heap.size W w1) {u:Value} 
  (hc:qa w2 p.gb who (fun b=>w1.heap.size<=b/\b < w2.heap.size) 120 u (ptr tb) 128 b1 b2 b3) (hb2:Below w1.heap.size w1 w2):fZ w2 p.gb p.mb p.wb (fun b=>W.heap.size<=b/\b < w2.heap.size) who s.ws s.tc m.cf (.get t) u:=by
 have h2:=(h.below hb1).below hb2;have hlt:tb < w1.heap.size:=af.lt hr;refine⟨b1,b2,b3,tb,none,none,h.Eb hb1 hc,⟨af.below hr hb2,fun f e=>(by rw[ht.1]at e;cases e),fun f e=>(by rw[ht.2]at e;cases e),fun _ e=>(by cases e),fun _ e=>(by cases e),fun _ _ e=>(by cases e),h2.mem,h.apart (h.fresh tb hge),h2.laid⟩,?_⟩;rintro b (rfl | e | e)
 ·exact h.Cc hb2 hc hge hlt
 ·cases e
 ·cases e
theorem Lt (h:Mx W0 p0 W p m who k v s) {tb:Nat} {g:Gi} (hr:RS w1 tb g none) (ht:g.rt=none) (hge:W.heap.size<=tb) (hb1:Below W.heap.size W w1) {u:Value} 
  (hc:qa w2 p.gb who (fun b=>w1.heap.size<=b/\b < w2.heap.size) 153 u (ptr tb) 150 b1 b2 b3) (hb2:Below w1.heap.size w1 w2):fZ w2 p.gb p.mb p.wb (fun b=>W.heap.size<=b/\b < w2.heap.size) who s.ws s.tc m.cf (.give g) u:=by
 have h2:=(h.below hb1).below hb2;have hlt:tb < w1.heap.size:=af.lt hr;refine⟨b1,b2,b3,tb,none,h.Eb hb1 hc,⟨af.below hr hb2,fun f e=>(by rw[ht]at e;cases e),fun _ e=>(by cases e),h2.mem,h.apart (h.fresh tb hge),h2.laid⟩,?_⟩;rintro b (rfl | e | e)
 ·exact h.Cc hb2 hc hge hlt
 ·cases e
 ·cases e
theorem wS (h:Mx W0 p0 W p m who k v s) {sb s1 s2:Nat} {bv:Value} {x:Sm} (hr:FL w1 sb x bv) (hf:Ce w1 x s1 s2 bv) (g1:W.heap.size<=s1) (g2:W.heap.size<=s2) (n1:s1≠sb) (n2:s2≠sb) (hge:W.heap.size<=sb) (hb1:Below W.heap.size W w1) {u:Value} 
  (hc:qa w2 p.gb who (fun b=>w1.heap.size<=b/\b < w2.heap.size) 156 u (ptr sb) 153 b1 b2 b3) (hb2:Below w1.heap.size w1 w2):fZ w2 p.gb p.mb p.wb (fun b=>W.heap.size<=b/\b < w2.heap.size) who s.ws s.tc m.cf (.stream x) u:=by
 have h2:=(h.below hb1).below hb2;have hlt:sb < w1.heap.size:=af.lt hr;have l1:s1 < w1.heap.size:=af.lt hf.1
 have l2:s2 < w1.heap.size:=by
  rcases hf.2 with e | e
  ·exact af.lt e.2.2
  ·exact af.lt e.2.2
 refine⟨b1,b2,b3,sb,s1,s2,bv,h.Eb hb1 hc,⟨af.below hr hb2,hf.aK (F:=fun _=>False) (aD.aF hb2) (fun e=>e) (fun e=>e),h2.mem,h.apart (h.fresh sb hge),⟨h.apart (h.fresh s1 g1),n1⟩,⟨h.apart (h.fresh s2 g2),n2⟩,h2.laid⟩,?_⟩;rintro b (rfl | rfl | rfl)
 ·exact h.Cc hb2 hc hge hlt
 ·exact h.Cc hb2 hc g1 l1
 ·exact h.Cc hb2 hc g2 l2
end
theorem FM:(∀ {W0 W:World} {p0 p:Mp} {m:Mc} {who:Nat} {k:Wk} {v:KV} {s:Sh} {b2 b3 b5 b6 b7:Nat} (h:Mx W0 p0 W p m who k v s) (hj:qz W p.gb p.kb who m.cf k.ask b2 b3 b5 b6 b7),Calls prog 102 #[ptr b2,ptr b3,ptr b6,ptr b7] W (uW W p.gb p.mb p.wb who s.ws s.tc m.cf (.give (Gi.new m.cf who k.ask.slot k.ask.gen false))))/\(∀ {W0 W:World} {p0 p:Mp} {m:Mc} {who:Nat} {k:Wk} {v:KV} {s:Sh} {b2 b3 b5 b6 b7:Nat} (h:Mx W0 p0 W p m who k v s) (hj:qz W p.gb p.kb who m.cf k.ask b2 b3 b5 b6 b7),Calls prog 105 #[ptr b2,ptr b3,ptr b6,ptr b7] W (uW W p.gb p.mb p.wb who s.ws s.tc m.cf (.give (Gi.new m.cf who k.ask.slot k.ask.gen true))))/\(∀ {W0 W:World} {p0 p:Mp} {m:Mc} {who:Nat} {k:Wk} {v:KV} {s:Sh} {b2 b3 b5 b6 b7:Nat} (h:Mx W0 p0 W p m who k v s) (hj:qz W p.gb p.kb who m.cf k.ask b2 b3 b5 b6 b7),Calls prog 106 #[ptr b2,ptr b3,ptr b6,ptr b7] W (uW W p.gb p.mb p.wb who s.ws s.tc m.cf (.stream (Sm.open' m.cf who k.ask.slot k.ask.gen))))/\(∀ {W0 W:World} {p0 p:Mp} {m:Mc} {who:Nat} {k:Wk} {v:KV} {s:Sh} {b2 b3 b5 b6 b7:Nat} (h:Mx W0 p0 W p m who k v s) (hj:qz W p.gb p.kb who m.cf k.ask b2 b3 b5 b6 b7),Calls prog 109 #[ptr b2,ptr b3,ptr b6,ptr b7] W (uW W p.gb p.mb p.wb who s.ws s.tc m.cf (.stream (Sm.shut m.cf who k.ask.slot k.ask.gen k.ask.stream)))):=by
 refine⟨?_,?_,?_,?_⟩
 all_goals
  intro W0 W p0 p m who k v s b2 b3 b5 b6 b7 h hj;have h1:=h.below bY;have hj1:=hj.below bY;have VX:=cP p.gb (hj.r2.cell 0);have VY:=cC who (hj.r3.cell 0);obtain⟨VZ,V3,V4,V5,V6⟩:=cQ m.cf hj.r6.cell;have aah:=cC k.ask.slot (hj.r7.cell 4);have aai:=cC k.ask.gen (hj.r7.cell 5)
 focus
  have hnew:=Bc W.drew m.cf who k.ask.slot k.ask.gen false
 rotate_left
 focus
  have hnew:=Bc W.drew m.cf who k.ask.slot k.ask.gen true
 rotate_left
 ·have hnew:=Ig W.drew m.cf who k.ask.slot k.ask.gen;simp only[Cf.val,Cf.cells]at hnew;have H:=uH h1;have HJ:=uH hj1;have HW:=uH h;clear h hj h1 hj1
  go_enter func106,ntmps106
  go_wp2_with fail
  go_region_held3 (fun w'=>w'.cell? ⟨b2,0,none⟩=some (ptr p.gb)/\w'.cell? ⟨b3,0,none⟩=some (.i who)/\w'.cell? ⟨b6,0,none⟩=some (.i m.cf.workers)/\w'.cell? ⟨b6,1,none⟩=some (.i m.cf.slots)/\w'.cell? ⟨b6,2,none⟩=some (.i m.cf.streams)/\w'.cell? ⟨b6,3,none⟩=some (.i m.cf.waiters)/\w'.cell? ⟨b6,4,none⟩=some (.i m.cf.uses)/\w'.cell? ⟨b7,4,none⟩=some (.i k.ask.slot)/\w'.cell? ⟨b7,5,none⟩=some (.i k.ask.gen)) (first | go_keep | exact⟨aI,aI,aI,aI,aI,aI,aI,aI,aI⟩)
   ((first
   | (go_at_call 108;refine hnew.mono ?_;rintro e w1 ⟨tb,s1,s2,bv,rfl,hr,hf,g1,g2,n1,n2,hge,hb1⟩;have hj2:=HJ.out.below hb1;have h2:=H.out.below hb1;have FN:=cP p.gb (hj2.r2.cell 0);have FO:=cC who (hj2.r3.cell 0);obtain⟨FP,FQ,FR,FT,FU⟩:=cQ m.cf hj2.r6.cell;have QX:=cC k.ask.slot (hj2.r7.cell 4);have QY:=cC k.ask.gen (hj2.r7.cell 5))
   | (go_at_call 107;refine(yF w1 p.gb who tb).mono ?_;rintro e w2 ⟨u,q1,q2,q3,rfl,hcl,hb2⟩;have oD:=hj2.below hb2;have h3:=h2.below hb2;have FV:=cP p.gb (oD.r2.cell 0);have FW:=cC who (oD.r3.cell 0);obtain⟨FX,FY,FZ,F3,F4⟩:=cQ m.cf oD.r6.cell;have QZ:=cC k.ask.slot (oD.r7.cell 4);have Q4:=cC k.ask.gen (oD.r7.cell 5))))
  have HF:=uH (wS HW.out hr hf g1 g2 n1 n2 hge (aW bY hb1) hcl hb2);have HB:=uH (aW (aW bY hb1) hb2:Below W.heap.size W w2);clear hcl hb1 hb2 h2 h3 hj2 oD hnew;go_wp2_with fail;go_ret;exact⟨u,rfl,HF.out,HB.out⟩
 focus
  have aaj:=cC k.ask.stream (hj.r7.cell 6);have hnew:=Ih W.drew m.cf who k.ask.slot k.ask.gen k.ask.stream
 rotate_left
 all_goals
  simp only[Cf.val,Cf.cells]at hnew;have H:=uH h1;have HJ:=uH hj1;have HW:=uH h;clear h hj h1 hj1
 focus
  go_enter func102,ntmps102
 rotate_left
 focus
  go_enter func105,ntmps105
 rotate_left
 ·go_enter func109,ntmps109
  go_wp2_with fail
  go_region_held3 (fun w'=>w'.cell? ⟨b2,0,none⟩=some (ptr p.gb)/\w'.cell? ⟨b3,0,none⟩=some (.i who)/\w'.cell? ⟨b6,0,none⟩=some (.i m.cf.workers)/\w'.cell? ⟨b6,1,none⟩=some (.i m.cf.slots)/\w'.cell? ⟨b6,2,none⟩=some (.i m.cf.streams)/\w'.cell? ⟨b6,3,none⟩=some (.i m.cf.waiters)/\w'.cell? ⟨b6,4,none⟩=some (.i m.cf.uses)/\w'.cell? ⟨b7,4,none⟩=some (.i k.ask.slot)/\w'.cell? ⟨b7,5,none⟩=some (.i k.ask.gen)/\w'.cell? ⟨b7,6,none⟩=some (.i k.ask.stream)) (first | go_keep | exact⟨aI,aI,aI,aI,aI,aI,aI,aI,aI,aI⟩)
   ((first
   | (go_at_call 110;refine hnew.mono ?_;rintro e w1 ⟨tb,s1,s2,bv,rfl,hr,hf,g1,g2,n1,n2,hge,hb1⟩;have hj2:=HJ.out.below hb1;have h2:=H.out.below hb1;have FN:=cP p.gb (hj2.r2.cell 0);have FO:=cC who (hj2.r3.cell 0);obtain⟨FP,FQ,FR,FT,FU⟩:=cQ m.cf hj2.r6.cell;have QX:=cC k.ask.slot (hj2.r7.cell 4);have QY:=cC k.ask.gen (hj2.r7.cell 5);have aak:=cC k.ask.stream (hj2.r7.cell 6))
   | (go_at_call 107;refine(yF w1 p.gb who tb).mono ?_;rintro e w2 ⟨u,q1,q2,q3,rfl,hcl,hb2⟩;have oD:=hj2.below hb2;have h3:=h2.below hb2;have FV:=cP p.gb (oD.r2.cell 0);have FW:=cC who (oD.r3.cell 0);obtain⟨FX,FY,FZ,F3,F4⟩:=cQ m.cf oD.r6.cell;have QZ:=cC k.ask.slot (oD.r7.cell 4);have Q4:=cC k.ask.gen (oD.r7.cell 5);have aal:=cC k.ask.stream (oD.r7.cell 6))))
  have HF:=uH (wS HW.out hr hf g1 g2 n1 n2 hge (aW bY hb1) hcl hb2);have HB:=uH (aW (aW bY hb1) hb2:Below W.heap.size W w2);clear hcl hb1 hb2 h2 h3 hj2 oD hnew;go_wp2_with fail;go_ret;exact⟨u,rfl,HF.out,HB.out⟩
 all_goals
  go_wp2_with fail
  go_region_held3 (fun w'=>w'.cell? ⟨b2,0,none⟩=some (ptr p.gb)/\w'.cell? ⟨b3,0,none⟩=some (.i who)/\w'.cell? ⟨b6,0,none⟩=some (.i m.cf.workers)/\w'.cell? ⟨b6,1,none⟩=some (.i m.cf.slots)/\w'.cell? ⟨b6,2,none⟩=some (.i m.cf.streams)/\w'.cell? ⟨b6,3,none⟩=some (.i m.cf.waiters)/\w'.cell? ⟨b6,4,none⟩=some (.i m.cf.uses)/\w'.cell? ⟨b7,4,none⟩=some (.i k.ask.slot)/\w'.cell? ⟨b7,5,none⟩=some (.i k.ask.gen)) (first | go_keep | exact⟨aI,aI,aI,aI,aI,aI,aI,aI,aI⟩)
   ((first
   | (go_at_call 104;refine hnew.mono ?_;rintro e w1 ⟨tb,rfl,hr,hge,hb1⟩;have hj2:=HJ.out.below hb1;have h2:=H.out.below hb1;have FN:=cP p.gb (hj2.r2.cell 0);have FO:=cC who (hj2.r3.cell 0);obtain⟨FP,FQ,FR,FT,FU⟩:=cQ m.cf hj2.r6.cell;have QX:=cC k.ask.slot (hj2.r7.cell 4);have QY:=cC k.ask.gen (hj2.r7.cell 5))
   | (go_at_call 103;refine(OQ w1 p.gb who tb).mono ?_;rintro e w2 ⟨u,q1,q2,q3,rfl,hcl,hb2⟩;have oD:=hj2.below hb2;have h3:=h2.below hb2;have FV:=cP p.gb (oD.r2.cell 0);have FW:=cC who (oD.r3.cell 0);obtain⟨FX,FY,FZ,F3,F4⟩:=cQ m.cf oD.r6.cell;have QZ:=cC k.ask.slot (oD.r7.cell 4);have Q4:=cC k.ask.gen (oD.r7.cell 5))))
  have HF:=uH (Lt HW.out hr rfl hge (aW bY hb1) hcl hb2);have HB:=uH (aW (aW bY hb1) hb2:Below W.heap.size W w2);clear hcl hb1 hb2 h2 h3 hj2 oD hnew;go_wp2_with fail;go_ret;exact⟨u,rfl,HF.out,HB.out⟩
def OT:=@And.left _ _ FM
def OU:=@And.left _ _ (And.right FM)
def OV:=@And.left _ _ (And.right (And.right FM))
def OW:=@And.right _ _ (And.right (And.right FM))
theorem Lu {W0 W:World} {p0 p:Mp} {m:Mc} {who:Nat} {k:Wk} {v:KV} {s:Sh} (h:Mx W0 p0 W p m who k v s):Calls prog 116 #[ptr p.gb,.i who] W (uW W p.gb p.mb p.wb who s.ws s.tc m.cf (.stats (Tw.new m.cf))):=by
 have h1:=h.below ((bZ.alloc aQ (.cells #[ptr p.gb] 29)).alloc au (.cells #[.i who] 3));have r1:=gH W #[ptr p.gb] #[.i who] 29 3;have r0:=(af.new W #[ptr p.gb] 29).alloc (.cells #[.i who] 3);have HH:=uH h;clear h
 go_enter func116,ntmps116
 go_upto_region 1 with(fail);generalize ((W.alloc (.cells #[ptr p.gb] 29)).alloc (.cells #[.i who] 3))=w1 at *;obtain⟨g0,g1,g2,g3,g4⟩:=cQ m.cf h1.az;have c2:=cP p.gb (r0.cell 0);have hnew:=nU w1 m.cf;simp only[Cf.val,Cf.cells]at hnew;have R0:=uH r0;have R1:=uH r1;clear h1 r0 r1;go_wp2_with fail;refine hnew.mono ?_;rintro e w2 ⟨tb,rfl,hr,hge,hb⟩;have hs1:=R1.out.2.size;have DX:W.heap.size < w1.heap.size:=af.lt R0.out;have hlt1:W.heap.size+1 < w1.heap.size:=af.lt R1.out.1;have hs2:=hb.size;have q0:=(af.below R0.out hb).alloc (.cells #[ptr tb] 88);have q1:=(af.below R1.out.1 hb).alloc (.cells #[ptr tb] 88);have q2:=af.new w2 #[ptr tb] 88;have q3:=hr.alloc (.cells #[ptr tb] 88);have hB:Below W.heap.size W w2:=aW R1.out.2 hb;have hB3:=hB.alloc hB.size (.cells #[ptr tb] 88);have htl:tb < w2.heap.size:=af.lt hr;have Lv:=HH.out.below hB3
 have hfr:=HH.out.fresh tb ag;have hap:=HH.out.apart hfr
 have hJ:fZ (w2.alloc (.cells #[ptr tb] 88)) p.gb p.mb p.wb (fun b=>W.heap.size<=b/\b < (w2.alloc (.cells #[ptr tb] 88)).heap.size) who s.ws s.tc m.cf (.stats (Tw.new m.cf)) (.func (.func 173) #[] #[ptr w2.heap.size,ptr W.heap.size,ptr (W.heap.size+1)]):=by
  refine⟨w2.heap.size,W.heap.size,W.heap.size+1,tb,.slice none 0 0,.slice none 0 0,⟨rfl,q2,q0,q1,⟨by simp;omega,by simp;omega,by simp;omega⟩⟩,⟨q3,fG _ 1,.inl ⟨rfl,rfl⟩,Lv.mem,hap,fun b e=>(dP b e).elim,fun b e=>(dP b e).elim,Lv.laid⟩,?_⟩;rintro b (rfl | e | e)
  ·exact⟨⟨ag,by simp;omega⟩,ag,ag,ag⟩
  ·exact(dP b e).elim
  ·exact(dP b e).elim
 have HJ:=uH hJ;have HB:=uH hB3;clear hnew q0 q1 q2 q3 hB hB3 Lv hJ hap hfr hb hr c2 g0 g1 g2 g3 g4;go_wp2_with fail;go_ret;exact⟨_,rfl,HJ.out,HB.out⟩
theorem OX {W0 W:World} {p0 p:Mp} {m:Mc} {who:Nat} {k:Wk} {v:KV} {s:Sh} {b2 b3 b5 b6 b7:Nat} (h:Mx W0 p0 W p m who k v s) (hj:qz W p.gb p.kb who m.cf k.ask b2 b3 b5 b6 b7):Calls prog 115 #[ptr b2,ptr b3] W (uW W p.gb p.mb p.wb who s.ws s.tc m.cf (.stats (Tw.new m.cf))):=by
 have hm:=Lu h;have c2:=cP p.gb (hj.r2.cell 0);have c3:=cC who (hj.r3.cell 0);clear h hj
 go_enter func115,ntmps115
 go_wp2_with fail;refine hm.mono ?_;rintro e w9 ⟨u,rfl,h1,h2⟩;have H1:=uH h1;have H2:=uH h2;clear hm h1 h2;go_wp2_with fail;go_ret;exact⟨u,rfl,H1.out,H2.out⟩
theorem OY {W0 W:World} {p0 p:Mp} {m:Mc} {who:Nat} {k:Wk} {v:KV} {s:Sh} {b2 b3 b5 b6 b7:Nat} (h:Mx W0 p0 W p m who k v s) (hj:qz W p.gb p.kb who m.cf k.ask b2 b3 b5 b6 b7):Calls prog 113 #[ptr b2,ptr b3,ptr b7] W (uW W p.gb p.mb p.wb who s.ws s.tc m.cf (.close k.ask.force none)):=by
 have hm:=Lx W p.gb who k.ask.force;have c2:=cP p.gb (hj.r2.cell 0);have c3:=cC who (hj.r3.cell 0);have c7:=cV (.bool k.ask.force) (hj.r7.cell 3);clear h hj
 go_enter func113,ntmps113
 go_wp2_with fail;refine hm.mono ?_;rintro e w9 ⟨u,q1,q2,q3,q4,rfl,h1,h2⟩;have H1:=uH h1;have H2:=uH h2;clear hm h1 h2;go_wp2_with fail;go_ret;exact⟨u,rfl,⟨q1,q2,q3,q4,H1.out.v,H1.out.r2,H1.out.r3,H1.out.r4,H1.out.l,H1.out.ne,H1.out.r1⟩,H2.out⟩
theorem LB {w:World} {g off:Nat} {z:Value} {b:Nat} (hc:w.cell? ⟨g,off,none⟩=some z) (hf:w.frozen? ⟨g,off,none⟩=false):(Instr.storeAt 193 (.pointer (some ⟨g,off,none⟩)) (ptr b)).run prog w=.ok () (w.setCell ⟨g,off,none⟩ (ptr b)):=by
 go_simp
structure V7 (W:World) (c:Cf) (w0 w1:World) (who ab b1 fb:Nat) (wx:World):Prop where
 row:af wx ab #[.i 0,.i 0,ptr fb,.pointer none] 196
 box:af wx b1 #[ptr ab] 193
 look:bQ wx fb c (Tk.Fd.new 6 who)
 ge:w1.heap.size<=ab/\w1.heap.size<=b1/\w1.heap.size<=fb
 ne:ab≠b1/\fb≠ab/\fb≠b1
 below:Below w1.heap.size w1 wx
theorem OZ {W0 W:World} {p0 p:Mp} {m:Mc} {who:Nat} {k:Wk} {v:KV} {s:Sh} (h:Mx W0 p0 W p m who k v s):Calls prog 112 #[ptr p.gb,.i who] W (uW W p.gb p.mb p.wb who s.ws s.tc m.cf (.bO (Rp.new who))):=by
 have h1:=h.below ((bZ.alloc aQ (.cells #[ptr p.gb] 29)).alloc au (.cells #[.i who] 3));have r1:=gH W #[ptr p.gb] #[.i who] 29 3;have r0:=(af.new W #[ptr p.gb] 29).alloc (.cells #[.i who] 3);have HH:=uH h;clear h
 go_enter func112,ntmps112
 go_upto_region 1 with(fail);generalize ((W.alloc (.cells #[ptr p.gb] 29)).alloc (.cells #[.i who] 3))=w1 at *;have hfn:=fun w'=>vT w' m.cf 6 who
 have hv:(m.cf.val:Value)=.agg (Ab m.cf.workers m.cf.slots m.cf.streams m.cf.waiters m.cf.uses):=rfl;rw[hv]at hfn;clear hv;have hS:∀ w',Below w1.heap.size w1 w'->w'.cell? ⟨W.heap.size,0,none⟩=some (ptr p.gb)/\w'.cell? ⟨W.heap.size+1,0,none⟩=some (.i who)/\w'.cell? ⟨p.gb,0,none⟩=some (.i m.cf.workers)/\w'.cell? ⟨p.gb,1,none⟩=some (.i m.cf.slots)/\w'.cell? ⟨p.gb,2,none⟩=some (.i m.cf.streams)/\w'.cell? ⟨p.gb,3,none⟩=some (.i m.cf.waiters)/\w'.cell? ⟨p.gb,4,none⟩=some (.i m.cf.uses):=fun w' hb=>⟨(af.below r0 hb).cell 0,(af.below r1.1 hb).cell 0,(h1.below hb).az 0,(h1.below hb).az 1,(h1.below hb).az 2,(h1.below hb).az 3,(h1.below hb).az 4⟩
 have HS:=uH hS;have R0:=uH r0;have R1:=uH r1;clear h1 r0 r1 hS
 go_cut [5] from 6 to 13 (fun v wx=>∃ ab b1 fb,v=ptr b1/\RowKit.Hid (V7 W m.cf W w1 who ab b1 fb wx))
 case first=>
  rename_i JJ KK JI Fe
  refine jr (S:=(fun w'=>w'.cell? ⟨W.heap.size,0,none⟩=some (ptr p.gb)/\w'.cell? ⟨W.heap.size+1,0,none⟩=some (.i who)/\w'.cell? ⟨p.gb,0,none⟩=some (.i m.cf.workers)/\w'.cell? ⟨p.gb,1,none⟩=some (.i m.cf.slots)/\w'.cell? ⟨p.gb,2,none⟩=some (.i m.cf.streams)/\w'.cell? ⟨p.gb,3,none⟩=some (.i m.cf.waiters)/\w'.cell? ⟨p.gb,4,none⟩=some (.i m.cf.uses))) (by exact HS.out _ bY) (fun hHeld=>?_);refine tH 0 6 hHeld ?_;refine tH 1 7 hHeld ?_;refine tH 2 8 hHeld ?_;refine tH 3 9 hHeld ?_;refine tH 4 10 hHeld ?_;refine gI (i:=5) (k:=8) ax ?_ ?_
  focus
   refine bI 161 #[.tmp 9,.const (.i 6),.tmp 10,.const (.i 0)] #[27,3,3,3] (some 11) none ax ax #[.agg (Ab m.cf.workers m.cf.slots m.cf.streams m.cf.waiters m.cf.uses),.i 6,.i who,.i 0] ax (aH func161) ?_;refine(hfn _).mono ?_;rintro e w5 ⟨fb,rfl,hF,hge,hb5⟩;have kM:Below w1.heap.size w1 w5:=aW bY hb5;have hge:w1.heap.size<=fb:=hge;have hs5:=kM.size;have hfl:=hF.lt;refine⟨_,rfl,HS.out _ kM,fun hHeld=>ay ?_⟩
   refine tH 6 12 hHeld ?_;refine gI (i:=7) (k:=8) ax ?_ ?_
  focus
   have hBx:Below w1.heap.size w1 (w5.alloc (.cells #[.i 0,.i 0,ptr fb,.pointer none] 196)):=kM.alloc kM.size _;refine aY (some 13) (ptr w5.heap.size) ax ax (w':=w5.alloc (.cells #[.i 0,.i 0,ptr fb,.pointer none] 196)) ax (HS.out _ hBx) (fun hHeld=>ay ?_)
   have Ra:Below w1.heap.size w1 ((w5.alloc (.cells #[.i 0,.i 0,ptr fb,.pointer none] 196)).alloc (.cells #[.pointer none] 193)):=hBx.alloc hBx.size _;have ha:=gH w5 #[.i 0,.i 0,ptr fb,.pointer none] #[.pointer none] 196 193;refine aX (i:=8) ax (aY (some 5) (ptr (w5.heap.size+1)) ax ax (w':=(w5.alloc (.cells #[.i 0,.i 0,ptr fb,.pointer none] 196)).alloc (.cells #[.pointer none] 193)) (by go_simp;try rfl) (HS.out _ Ra) (fun hHeld=>ay ?_))
   have hsb:Below w1.heap.size w1 (((w5.alloc (.cells #[.i 0,.i 0,ptr fb,.pointer none] 196)).alloc (.cells #[.pointer none] 193)).setCell ⟨w5.heap.size+1,0,none⟩ (ptr w5.heap.size)):=Ra.setCell (by simp<;>omega) _;refine aX (i:=9) ax (bG 193 (.tmp 5) (.tmp 13) ax (w5.heap.size+1) 0 (ptr w5.heap.size) ax ax (fun _=>LB ((ha.1).cell 0) ((ha.1).frozen 0)) (HS.out _ hsb) (fun _=>?_))
  rotate_left
  focus
   have hBx:Below w1.heap.size w1 (w5.alloc (.cells #[.pointer none] 193)):=kM.alloc kM.size _;refine aY (some 5) (ptr w5.heap.size) ax ax (w':=w5.alloc (.cells #[.pointer none] 193)) ax (HS.out _ hBx) (fun hHeld=>ay ?_)
   have Ra:Below w1.heap.size w1 ((w5.alloc (.cells #[.pointer none] 193)).alloc (.cells #[.i 0,.i 0,ptr fb,.pointer none] 196)):=hBx.alloc hBx.size _;have ha:=gH w5 #[.pointer none] #[.i 0,.i 0,ptr fb,.pointer none] 193 196;have ha0:=(af.new w5 #[.pointer none] 193).alloc (.cells #[.i 0,.i 0,ptr fb,.pointer none] 196);refine aX (i:=7) ax (aY (some 13) (ptr (w5.heap.size+1)) ax ax (w':=(w5.alloc (.cells #[.pointer none] 193)).alloc (.cells #[.i 0,.i 0,ptr fb,.pointer none] 196)) (by go_simp;try rfl) (HS.out _ Ra) (fun hHeld=>ay ?_))
   have hsb:Below w1.heap.size w1 (((w5.alloc (.cells #[.pointer none] 193)).alloc (.cells #[.i 0,.i 0,ptr fb,.pointer none] 196)).setCell ⟨w5.heap.size,0,none⟩ (ptr (w5.heap.size+1))):=Ra.setCell (by simp<;>omega) _;refine aX (i:=9) ax (bG 193 (.tmp 5) (.tmp 13) ax (w5.heap.size) 0 (ptr (w5.heap.size+1)) ax ax (fun _=>LB ((ha0).cell 0) ((ha0).frozen 0)) (HS.out _ hsb) (fun _=>?_))
  rotate_left
  focus
   have hBx:Below w1.heap.size w1 (w1.drew.alloc (.cells #[.pointer none] 193)):=bY.alloc aQ _;refine aY (some 5) (ptr w1.heap.size) ax ax (w':=w1.drew.alloc (.cells #[.pointer none] 193)) ax (HS.out _ hBx) (fun hHeld=>ay ?_)
   refine aX (i:=5) ax (bI 161 #[.tmp 9,.const (.i 6),.tmp 10,.const (.i 0)] #[27,3,3,3] (some 11) none ax ax #[.agg (Ab m.cf.workers m.cf.slots m.cf.streams m.cf.waiters m.cf.uses),.i 6,.i who,.i 0] ax (aH func161) ?_);refine(hfn _).mono ?_;rintro e w5 ⟨fb,rfl,hF,hge,hb5⟩;have kM:Below w1.heap.size w1 w5:=aW hBx hb5;have hsz:(w1.drew.alloc (.cells #[.pointer none] 193)).heap.size=w1.heap.size+1:=au
   rw[hsz]at hge;have hs5:=kM.size;have hfl:=hF.lt;have hr1:af w5 w1.heap.size #[.pointer none] 193:=af.below (af.new w1.drew _ _) hb5;refine⟨_,rfl,HS.out _ kM,fun hHeld=>ay ?_⟩
   refine tH 6 12 hHeld ?_;have Ra:Below w1.heap.size w1 (w5.alloc (.cells #[.i 0,.i 0,ptr fb,.pointer none] 196)):=kM.alloc kM.size _;refine aX (i:=7) ax (aY (some 13) (ptr w5.heap.size) ax ax (w':=w5.alloc (.cells #[.i 0,.i 0,ptr fb,.pointer none] 196)) ax (HS.out _ Ra) (fun hHeld=>ay ?_))
   have hr2:=hr1.alloc (.cells #[.i 0,.i 0,ptr fb,.pointer none] 196);have hl1:w1.heap.size < w5.heap.size:=af.lt hr1;have hsb:Below w1.heap.size w1 ((w5.alloc (.cells #[.i 0,.i 0,ptr fb,.pointer none] 196)).setCell ⟨w1.heap.size,0,none⟩ (ptr w5.heap.size)):=Ra.setCell (by simp<;>omega) _;refine aX (i:=9) ax (bG 193 (.tmp 5) (.tmp 13) ax (w1.heap.size) 0 (ptr w5.heap.size) ax ax (fun _=>LB ((hr2).cell 0) ((hr2).frozen 0)) (HS.out _ hsb) (fun _=>?_))
  rotate_left
  all_goals
   try simp only[Act.put,sA,sZ,sS]
   refine iR ?_;refine Fe _ _ (Met.intro (JI _ _ ?_))
   (repeat apply Exists.intro)
   refine⟨?_,rfl⟩
  ·have hcs:aD (fun b=>b=w5.heap.size+1) (((w5.alloc (.cells #[.i 0,.i 0,ptr fb,.pointer none] 196)).alloc (.cells #[.pointer none] 193))) ((((w5.alloc (.cells #[.i 0,.i 0,ptr fb,.pointer none] 196)).alloc (.cells #[.pointer none] 193))).setCell ⟨w5.heap.size+1,0,none⟩ (ptr w5.heap.size)):=(aD.refl _ _).setCell _ _ (fun _=>rfl);exact⟨w5.heap.size,w5.heap.size+1,fb,rfl,uH ⟨af.aK ((af.new w5 _ _).alloc _) hcs ag,af.aB (ha.1) 0 _,bQ.aK (bQ.below hF ha.2) hcs ag,⟨ag,ag,ag⟩,⟨ag,ag,ag⟩,hsb⟩⟩
  ·have hcs:aD (fun b=>b=w5.heap.size) (((w5.alloc (.cells #[.pointer none] 193)).alloc (.cells #[.i 0,.i 0,ptr fb,.pointer none] 196))) ((((w5.alloc (.cells #[.pointer none] 193)).alloc (.cells #[.i 0,.i 0,ptr fb,.pointer none] 196))).setCell ⟨w5.heap.size,0,none⟩ (ptr (w5.heap.size+1))):=(aD.refl _ _).setCell _ _ (fun _=>rfl);exact⟨w5.heap.size+1,w5.heap.size,fb,rfl,uH ⟨af.aK (ha.1) hcs ag,af.aB (ha0) 0 _,bQ.aK (bQ.below hF ha.2) hcs ag,⟨ag,ag,ag⟩,⟨ag,ag,ag⟩,hsb⟩⟩
  ·have hcs:aD (fun b=>b=w1.heap.size) ((w5.alloc (.cells #[.i 0,.i 0,ptr fb,.pointer none] 196))) (((w5.alloc (.cells #[.i 0,.i 0,ptr fb,.pointer none] 196))).setCell ⟨w1.heap.size,0,none⟩ (ptr w5.heap.size)):=(aD.refl _ _).setCell _ _ (fun _=>rfl);exact⟨w5.heap.size,w1.heap.size,fb,rfl,uH ⟨af.aK (af.new w5 _ _) hcs ag,af.aB (hr2) 0 _,bQ.aK (bQ.below hF (bZ.alloc aQ _)) hcs ag,⟨ag,ag,ag⟩,⟨ag,ag,ag⟩,hsb⟩⟩
 case rest=>
  obtain⟨ab,b1,fb,rfl,HR⟩:=hcut;have hR:=HR.out;have hs1:=R1.out.2.size;have DX:W.heap.size < w1.heap.size:=af.lt R0.out;have hlt1:W.heap.size+1 < w1.heap.size:=af.lt R1.out.1;have q0:=af.below R0.out hR.below;have q1:=af.below R1.out.1 hR.below;have hB3:Below W.heap.size W wc:=aW R1.out.2 hR.below;have Lv:=HH.out.below hB3;have hge:=hR.ge;have hne:=hR.ne;have la:=af.lt hR.row;have lb:=af.lt hR.box;have lf:=hR.look.lt;have fa:=HH.out.fresh ab ag;have ff:=HH.out.fresh fb ag
  have hJ:fZ wc p.gb p.mb p.wb (fun b=>W.heap.size<=b/\b < wc.heap.size) who s.ws s.tc m.cf (.bO (Rp.new who)) (.func (.func 162) #[] #[ptr b1,ptr W.heap.size,ptr (W.heap.size+1)]):=by
   refine⟨b1,W.heap.size,W.heap.size+1,ab,fb,none,⟨rfl,hR.box,q0,q1,⟨ag,ag,ag⟩⟩,⟨hR.row,hR.look,fun _ e=>(by cases e),⟨HH.out.apart ff,hne.2.1⟩,fun _ e=>(by cases e),Lv.mem,HH.out.apart fa,Lv.laid⟩,?_⟩;rintro b (rfl | e | e)
   ·exact⟨⟨ag,ag⟩,ag,ag,ag⟩
   ·cases e;exact⟨⟨ag,ag⟩,ag,ag,ag⟩
   ·cases e
  have HJ:=uH hJ;have HB:=uH hB3;clear hR hs1 DX hlt1 q0 q1 hB3 Lv hge hne la lb lf fa ff hJ hfn;go_wp2_with fail;go_ret;exact⟨_,rfl,HJ.out,HB.out⟩
theorem O0 {W0 W:World} {p0 p:Mp} {m:Mc} {who:Nat} {k:Wk} {v:KV} {s:Sh} {b2 b3 b5 b6 b7:Nat} (h:Mx W0 p0 W p m who k v s) (hj:qz W p.gb p.kb who m.cf k.ask b2 b3 b5 b6 b7):Calls prog 111 #[ptr b2,ptr b3] W (uW W p.gb p.mb p.wb who s.ws s.tc m.cf (.bO (Rp.new who))):=by
 have hm:=OZ h;have c2:=cP p.gb (hj.r2.cell 0);have c3:=cC who (hj.r3.cell 0);clear h hj
 go_enter func111,ntmps111
 go_wp2_with fail;refine hm.mono ?_;rintro e w9 ⟨u,rfl,h1,h2⟩;have H1:=uH h1;have H2:=uH h2;clear hm h1 h2;go_wp2_with fail;go_ret;exact⟨u,rfl,H1.out,H2.out⟩
theorem LC:(∀ {W0 W:World} {p0 p:Mp} {m:Mc} {who:Nat} {k:Wk} {v:KV} {s:Sh} {b2 b3 b5 b6 b7:Nat} (h:Mx W0 p0 W p m who k v s) (hj:qz W p.gb p.kb who m.cf k.ask b2 b3 b5 b6 b7) (hg:0 < k.grant/\k.grant<=1000),Calls prog 100 #[ptr b5,ptr b2,ptr b3,ptr b6] W (uW W p.gb p.mb p.wb who s.ws s.tc m.cf (.get (Tk.granted m.cf who (k.grant - 1).toNat))))/\(∀ {W0 W:World} {p0 p:Mp} {m:Mc} {who:Nat} {k:Wk} {v:KV} {s:Sh} {b2 b3 b5 b6 b7:Nat} (h:Mx W0 p0 W p m who k v s) (hj:qz W p.gb p.kb who m.cf k.ask b2 b3 b5 b6 b7) (hg:¬ 0 < k.grant),Calls prog 100 #[ptr b5,ptr b2,ptr b3,ptr b6] W (uW W p.gb p.mb p.wb who s.ws s.tc m.cf (.get (Tk.new m.cf who)))):=by
 refine⟨?_,?_⟩
 all_goals
  intro W0 W p0 p m who k v s b2 b3 b5 b6 b7 h hj hg;have VX:=cP p.gb (hj.r2.cell 0);have VY:=cC who (hj.r3.cell 0);obtain⟨VZ,V3,V4,V5,V6⟩:=cQ m.cf hj.r6.cell;have aam:=cV (.pointer (some ⟨p.kb,who * 35,none⟩)) (hj.r5.cell 0);have Y5:=cC k.grant (h.aL 10 rfl)
 focus
  obtain⟨gi,hgi⟩:∃ gi:Nat,(k.grant - 1).toNat=gi:=⟨_,rfl⟩
  rw[hgi];have xS:k.grant=(gi:Int)+1:=ag
  have hw1:IntKind.i64.wrap ((gi:Int)+1 - 1)=gi:=by rw[IntKind.wrap_i64];omega
  have hw2:IntKind.i64.wrap (gi:Int)=gi:=by rw[IntKind.wrap_i64];omega
  have hnew:=zH W.drew m.cf who gi;simp only[Cf.val,Cf.cells]at hnew;have k0:(0:Int) < (gi:Int)+1:=ag
  rw[xS]at Y5;have HGK:=uH xS;clear xS hgi;have HG:=uH hg;clear hg
 rotate_left
 focus
  have hnew:=Cl.nU W.drew m.cf who;simp only[Cf.val,Cf.cells]at hnew;have HG:=uH hg
 rotate_left
 all_goals
  have H:=uH (h.below bY);have HJ:=uH (hj.below bY);have HW:=uH h;clear h hj
  go_enter func100,ntmps100
  go_wp2_with fail
 focus
  go_region_held3 (fun w'=>w'.cell? ⟨b2,0,none⟩=some (ptr p.gb)/\w'.cell? ⟨b3,0,none⟩=some (.i who)/\w'.cell? ⟨b6,0,none⟩=some (.i m.cf.workers)/\w'.cell? ⟨b6,1,none⟩=some (.i m.cf.slots)/\w'.cell? ⟨b6,2,none⟩=some (.i m.cf.streams)/\w'.cell? ⟨b6,3,none⟩=some (.i m.cf.waiters)/\w'.cell? ⟨b6,4,none⟩=some (.i m.cf.uses)/\w'.cell? ⟨b5,0,none⟩=some (.pointer (some ⟨p.kb,who * 35,none⟩))/\w'.cell? ⟨p.kb,who * 35+10,none⟩=some (.i ((gi:Int)+1))) (first | go_keep | exact⟨aI,aI,aI,aI,aI,aI,aI,aI,aI⟩)
   ((first
   | (go_at_call 101;refine hnew.mono ?_;rintro e w1 ⟨tb,rfl,hr,hge,hb1⟩;have hj2:=HJ.out.below hb1;have h2:=H.out.below hb1;have FN:=cP p.gb (hj2.r2.cell 0);have FO:=cC who (hj2.r3.cell 0);obtain⟨FP,FQ,FR,FT,FU⟩:=cQ m.cf hj2.r6.cell;have V8:=cV (.pointer (some ⟨p.kb,who * 35,none⟩)) (hj2.r5.cell 0);have aaS:w1.cell? ⟨p.kb,who * 35+10,none⟩=some (.i ((gi:Int)+1)):=(by have hq:=h2.aL 10 (u:=.i k.grant) rfl;rw[HGK.out]at hq;exact hq))
   | (go_at_call 86;refine(Ec w1 p.gb who tb).mono ?_;rintro e w2 ⟨u,q1,q2,q3,rfl,hcl,hb2⟩;have oD:=hj2.below hb2;have h3:=h2.below hb2;have FV:=cP p.gb (oD.r2.cell 0);have FW:=cC who (oD.r3.cell 0);obtain⟨FX,FY,FZ,F3,F4⟩:=cQ m.cf oD.r6.cell;have V9:=cV (.pointer (some ⟨p.kb,who * 35,none⟩)) (oD.r5.cell 0);have aaT:w2.cell? ⟨p.kb,who * 35+10,none⟩=some (.i ((gi:Int)+1)):=(by have hq:=h3.aL 10 (u:=.i k.grant) rfl;rw[HGK.out]at hq;exact hq))))
 rotate_left
 focus
  go_region_held3 (fun w'=>w'.cell? ⟨b2,0,none⟩=some (ptr p.gb)/\w'.cell? ⟨b3,0,none⟩=some (.i who)/\w'.cell? ⟨b6,0,none⟩=some (.i m.cf.workers)/\w'.cell? ⟨b6,1,none⟩=some (.i m.cf.slots)/\w'.cell? ⟨b6,2,none⟩=some (.i m.cf.streams)/\w'.cell? ⟨b6,3,none⟩=some (.i m.cf.waiters)/\w'.cell? ⟨b6,4,none⟩=some (.i m.cf.uses)/\w'.cell? ⟨b5,0,none⟩=some (.pointer (some ⟨p.kb,who * 35,none⟩))) (first | go_keep | exact⟨aI,aI,aI,aI,aI,aI,aI,aI⟩)
   ((first
   | (go_at_call 87;refine hnew.mono ?_;rintro e w1 ⟨tb,rfl,hr,hge,hb1⟩;have hj2:=HJ.out.below hb1;have h2:=H.out.below hb1;have FN:=cP p.gb (hj2.r2.cell 0);have FO:=cC who (hj2.r3.cell 0);obtain⟨FP,FQ,FR,FT,FU⟩:=cQ m.cf hj2.r6.cell;have V8:=cV (.pointer (some ⟨p.kb,who * 35,none⟩)) (hj2.r5.cell 0))
   | (go_at_call 86;refine(Ec w1 p.gb who tb).mono ?_;rintro e w2 ⟨u,q1,q2,q3,rfl,hcl,hb2⟩;have oD:=hj2.below hb2;have h3:=h2.below hb2;have FV:=cP p.gb (oD.r2.cell 0);have FW:=cC who (oD.r3.cell 0);obtain⟨FX,FY,FZ,F3,F4⟩:=cQ m.cf oD.r6.cell;have V9:=cV (.pointer (some ⟨p.kb,who * 35,none⟩)) (oD.r5.cell 0))))
 rotate_left
 all_goals
  have HF:=uH (FK HW.out hr ⟨rfl,rfl⟩ hge (aW bY hb1) hcl hb2);have HB:=uH (aW (aW bY hb1) hb2:Below W.heap.size W w2);clear hcl hb1 hb2 h2 h3 hj2 oD hnew;go_wp2_with fail;go_ret;exact⟨u,rfl,HF.out,HB.out⟩
def Cg:=@And.left _ _ LC
def O1:=@And.right _ _ LC
end Mc
end Go.Proofs.YtbklamnimfmjkaaGreatDoor
