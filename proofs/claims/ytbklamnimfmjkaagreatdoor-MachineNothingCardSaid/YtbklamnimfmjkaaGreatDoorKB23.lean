/- Part 23 of the walks and plain laws that the last text joins. -/
import Derived.Test.YtbklamnimfmjkaaGreatDoorKB16
import Derived.Test.YtbklamnimfmjkaaGreatDoorKB21
set_option maxRecDepth 100000
set_option maxHeartbeats 16000000
set_option linter.all false
open Go.Proofs.Tryz
namespace Go.Proofs.YtbklamnimfmjkaaGreatDoor
namespace Mc
open Go.RowKit Hp ah aj Slot ai Tk Cl
def jd (x:Sm) (bv:Value):Array Value:=#[.i x.cf.workers,.i x.cf.slots,.i x.cf.streams,.i x.cf.waiters,.i x.cf.uses,.i x.w,.i x.i,.i x.gen,.i x.st,.i x.word,.i x.next,.i x.stream,bv,.i x.e]
def FL (W:World) (sb:Nat) (x:Sm) (bv:Value):Prop:=af W sb (jd x bv) 192
def Ce (W:World) (x:Sm) (b1 b2:Nat) (bv:Value):Prop:=af W b1 #[.i x.w] 3/\
  ((x.opens=true/\bv=.func (.func 159) #[] #[ptr b1,ptr b2]/\af W b2 x.cf.cells 27)\/
   (x.opens=false/\bv=.func (.func 160) #[] #[ptr b1,ptr b2]/\af W b2 #[.i x.num] 3))
def xQ (sb b1 b2:Nat) (k:Nat):Prop:=k=sb\/k=b1\/k=b2
structure eD (W:World) (sb b1 b2 mb wb:Nat) (bv:Value) (x:Sm) (ws:List Int) (tc:Int):Prop where
  row:FL W sb x bv
  fn:Ce W x b1 b2 bv
  mem:bB W mb wb ws tc
  ap:Apart sb mb wb
  a1:Apart b1 mb wb/\b1≠sb
  a2:Apart b2 mb wb/\b2≠sb
  laid:Slot.Laid W
def ig (W:World) (sb b1 b2 mb wb:Nat) (bv:Value) (v:Value) (x:Sm) (ws:List Int) (tc:Int) (e:Ending) (W':World):Prop:=
  e=.returned v/\eD W' sb b1 b2 mb wb bv x ws tc/\OR mb wb (xQ sb b1 b2) W (xQ sb b1 b2) W'
section
variable {W W':World} {sb b1 b2 mb wb:Nat} {bv:Value} {x:Sm} {ws:List Int} {tc:Int}
theorem Ce.aK {F:Nat->Prop} (h:Ce W x b1 b2 bv) (hc:aD F W W') (h1:¬ F b1) (h2:¬ F b2):Ce W' x b1 b2 bv:=
  ⟨af.aK h.1 hc h1,h.2.imp (fun e=>⟨e.1,e.2.1,af.aK e.2.2 hc h2⟩) (fun e=>⟨e.1,e.2.1,af.aK e.2.2 hc h2⟩)⟩
theorem eD.lt (h:eD W sb b1 b2 mb wb bv x ws tc):sb < W.heap.size:=af.lt h.row
theorem eD.cell (h:eD W sb b1 b2 mb wb bv x ws tc) (i:Nat):W.cell? ⟨sb,i,none⟩=(jd x bv)[i]?:=af.cell h.row i
theorem eD.frozen (h:eD W sb b1 b2 mb wb bv x ws tc) (i:Nat):W.frozen? ⟨sb,i,none⟩=false:=af.frozen h.row i
theorem eD.aK {F:Nat->Prop} (h:eD W sb b1 b2 mb wb bv x ws tc) (hc:aD F W W') (h0:¬ F 0) (hF:∀ k,xQ sb b1 b2 k->¬ F k) {aC:List Int} {eX:Int} (hm:bB W' mb wb aC eX):eD W' sb b1 b2 mb wb bv x aC eX:=
  ⟨af.aK h.row hc (hF _ (.inl rfl)),h.fn.aK hc (hF _ (.inr (.inl rfl))) (hF _ (.inr (.inr rfl))),hm,h.ap,h.a1,h.a2,h.laid.stable (hc.block 0 (h.laid.lt aT) h0)⟩
theorem eD.below (h:eD W sb b1 b2 mb wb bv x ws tc) (hb:Below W.heap.size W W'):eD W' sb b1 b2 mb wb bv x ws tc:=by
  have hc:aD (fun _=>False) W W':=aD.aF hb;exact h.aK hc (fun e=>e) (fun _ _ e=>e) (h.mem.below hb)
theorem eD.bU (h:eD W sb b1 b2 mb wb bv x ws tc) (hc:aD (dJ mb wb) W W') {aC:List Int} {eX:Int} (hm:bB W' mb wb aC eX):eD W' sb b1 b2 mb wb bv x aC eX:=by
  refine h.aK hc (fun e=>e.elim h.ap.m0 h.ap.w0) (fun k hk e=>?_) hm
  rcases hk with rfl | rfl | rfl
  · exact e.elim h.ap.m h.ap.w
  · exact e.elim h.a1.1.m h.a1.1.w
  · exact e.elim h.a2.1.m h.a2.1.w
theorem eD.put (h:eD W sb b1 b2 mb wb bv x ws tc) (i:Nat) (v:Value) (x':Sm) (hrow:(jd x bv).setIfInBounds i v=jd x' bv) (hw:x'.w=x.w) (hcf:x'.cf=x.cf) (ho:x'.opens=x.opens) (hn:x'.num=x.num):eD (W.setCell ⟨sb,i,none⟩ v) sb b1 b2 mb wb bv x' ws tc:=by
  have hc:aD (fun k=>k=sb) W (W.setCell ⟨sb,i,none⟩ v):=(aD.refl _ _).setCell _ _ (fun _=>rfl);refine⟨?_,?_,h.mem.far sb i v (fun e=>h.ap.m e.symm) (fun e=>h.ap.w e.symm),h.ap,h.a1,h.a2,h.laid.stable (hc.block 0 (h.laid.lt aT) h.ap.f0)⟩
  · have:=af.aB h.row i v
    rw[hrow]at this;exact this
  · have:=h.fn.aK hc h.a1.2 h.a2.2
    unfold Ce at this ⊢;rw[hw,hcf,ho,hn];exact this
end
theorem mM {W:World} {sb b1 b2 mb wb:Nat} {bv:Value} {x:Sm} {ws:List Int} {tc:Int} (h:eD W sb b1 b2 mb wb bv x ws tc) (e:Int):Calls prog 218 #[ptr sb,.i e] W (ig W sb b1 b2 mb wb bv (.tuple #[]) (x.finish e) ws tc):=by
  have c8:=cC x.st (h.cell 8);have c13:=cC x.e (h.cell 13);have U6:=h.frozen 8;have RU:=h.frozen 13;have H:=uH h;clear h
  go_enter func218,ntmps218
  go_wp2_with fail
  first | go_end0 | refine bP ?_
  exact⟨rfl,(H.out.put 13 _ {x with e:=e} rfl rfl rfl rfl rfl).put 8 _ (x.finish e) rfl rfl rfl rfl rfl,(OR.refl.set (tb:=sb) (.inl rfl) 13 _).set (tb:=sb) (.inl rfl) 8 _⟩
theorem Bz {W:World} {sb b1 b2 mb wb:Nat} {bv:Value} {x:Sm} {ws:List Int} {tc:Int} (h:eD W sb b1 b2 mb wb bv x ws tc) (hst:x.st=3):Calls prog 158 #[ptr sb] W fun e W'=>e=.returned (.tuple #[.i x.answer.1,.i x.answer.2,.bool true])/\Below W.heap.size W W':=by
  have c8:=cC x.st (h.cell 8);have c11:=cC x.stream (h.cell 11);have c13:=cC x.e (h.cell 13);have e3:(x.st:Int)=3:=ag
  rw[e3]at c8;clear h e3 hst;unfold Sm.answer;generalize x.e=xe at *;generalize x.stream=xs at *
  by_cases h0:xe=0
  · subst h0
    go_enter func158,ntmps158
    go_wp2_with fail
    first | (go_region_held3 (fun w'=>w'.cell? ⟨sb,11,none⟩=some (.i xs)) (first | go_keep | assumption) (fail)) | fail
    go_wp2_with fail
    go_ret3
    exact⟨rfl,bY⟩
  · have k0:(xe != 0)=true:=by simpa using h0
    rw[if_neg h0];have K0:=uH h0;clear h0
    go_enter func158,ntmps158
    go_wp2_with fail
    go_ret3
    exact⟨rfl,Below.refl _ _⟩
theorem tL (W:World) (a b c:Array Value) (s u v:TypeId):af (((W.alloc (.cells a s)).alloc (.cells b u)).alloc (.cells c v)) W.heap.size a s/\af (((W.alloc (.cells a s)).alloc (.cells b u)).alloc (.cells c v)) (W.heap.size+1) b u/\
    af (((W.alloc (.cells a s)).alloc (.cells b u)).alloc (.cells c v)) (W.heap.size+1+1) c v/\Below W.heap.size W (((W.alloc (.cells a s)).alloc (.cells b u)).alloc (.cells c v)):=by
  refine⟨((af.new W a s).alloc _).alloc _,?_,?_,((bZ.alloc aQ _).alloc au _).alloc (by simp;omega) _⟩
  · have h:=(af.new (W.alloc (.cells a s)) b u).alloc (.cells c v)
    simpa using h
  · have h:=af.new ((W.alloc (.cells a s)).alloc (.cells b u)) c v
    simpa using h
theorem LD (W:World) (a b c d:Array Value) (s u v z:TypeId):af ((((W.alloc (.cells a s)).alloc (.cells b u)).alloc (.cells c v)).alloc (.cells d z)) (W.heap.size+1) b u/\af ((((W.alloc (.cells a s)).alloc (.cells b u)).alloc (.cells c v)).alloc (.cells d z)) (W.heap.size+1+1) c v/\
    af ((((W.alloc (.cells a s)).alloc (.cells b u)).alloc (.cells c v)).alloc (.cells d z)) (W.heap.size+1+1+1) d z/\Below W.heap.size W ((((W.alloc (.cells a s)).alloc (.cells b u)).alloc (.cells c v)).alloc (.cells d z)):=by
  obtain⟨h1,h2,h3,h4⟩:=tL W a b c s u v;refine⟨h2.alloc _,h3.alloc _,?_,h4.alloc h4.size _⟩;have h:=af.new (((W.alloc (.cells a s)).alloc (.cells b u)).alloc (.cells c v)) d z
  simpa using h
theorem Ig (W:World) (c:Cf) (w i gen:Int):Calls prog 108 #[c.val,.i w,.i i,.i gen] W fun e W'=>∃ sb b1 b2 bv,e=.returned (ptr sb)/\FL W' sb (Sm.open' c w i gen) bv/\Ce W' (Sm.open' c w i gen) b1 b2 bv/\W.heap.size<=b1/\W.heap.size<=b2/\b1≠sb/\b2≠sb/\W.heap.size<=sb/\Below W.heap.size W W':=by
  go_enter func108,ntmps108
  simp only[Cf.val,Cf.cells];go_wp2_with fail;go_ret;have h:=tL W c.cells #[.i w] (jd (Sm.open' c w i gen) (.func (.func 159) #[] #[ptr (W.heap.size+1),ptr W.heap.size])) 27 3 192;exact⟨W.heap.size+1+1,W.heap.size+1,W.heap.size,_,rfl,h.2.2.1,⟨h.2.1,.inl ⟨rfl,rfl,h.1⟩⟩,ag,ag,ag,ag,ag,h.2.2.2⟩
theorem Ih (W:World) (c:Cf) (w i gen num:Int):Calls prog 110 #[c.val,.i w,.i i,.i gen,.i num] W fun e W'=>∃ sb b1 b2 bv,e=.returned (ptr sb)/\FL W' sb (Sm.shut c w i gen num) bv/\Ce W' (Sm.shut c w i gen num) b1 b2 bv/\W.heap.size<=b1/\W.heap.size<=b2/\b1≠sb/\b2≠sb/\W.heap.size<=sb/\Below W.heap.size W W':=by
  go_enter func110,ntmps110
  simp only[Cf.val,Cf.cells];go_wp2_with fail;go_ret;have h:=LD W c.cells #[.i w] #[.i num] (jd (Sm.shut c w i gen num) (.func (.func 160) #[] #[ptr (W.heap.size+1),ptr (W.heap.size+1+1)])) 27 3 3 192;refine⟨W.heap.size+1+1+1,W.heap.size+1,W.heap.size+1+1,_,?_,h.2.2.1,⟨h.1,.inr ⟨rfl,rfl,h.2.1⟩⟩,ag,ag,ag,ag,ag,?_⟩
  · rfl
  · exact h.2.2.2
theorem gH (W:World) (a b:Array Value) (s u:TypeId):af ((W.alloc (.cells a s)).alloc (.cells b u)) (W.heap.size+1) b u/\Below W.heap.size W ((W.alloc (.cells a s)).alloc (.cells b u)):=by
 refine⟨?_,(bZ.alloc aQ _).alloc au _⟩;have h:=af.new (W.alloc (.cells a s)) b u
 simpa using h
theorem I7 (W:World) (s:S) (b1 b2:Nat) (own num:Int) (h1:af W b1 #[.i own] 3) (h2:af W b2 #[.i num] 3) (hr:s.right=true) (hL:Laid W):
  Calls prog 160 #[s.val,ptr b1,ptr b2] W fun e W'=>e=.returned (.tuple #[((Tk.bC s 15 own num).getD S.zero).val,.i (if (Tk.bC s 15 own num).isSome then 0 else 11)])/\Below W.heap.size W W':=by
 have hnx:=fun w' hL=>oJ w' s 15 own num (by unfold iw;omega) hr hL
 generalize Tk.bC s 15 own num=N at *;have l1:=h1.lt;have l2:=h2.lt;have c1:=cC own (h1.cell 0);have c2:=cC num (h2.cell 0);clear h1 h2
 go_enter func160,ntmps160
 simp only[S.val,S.cells];go_wp2_with fail;refine(hnx _ (hL.stable ((gH W s.cells av 57 57).2.block 0 (hL.lt aT)))).mono ?_;rintro e w5 ⟨rfl,hb5⟩;have hz2:=(gH W s.cells av 57 57).1;have hb2:=(gH W s.cells av 57 57).2;have hsz:W.heap.size+1+1=((W.alloc (.cells s.cells 57)).alloc (.cells av 57)).heap.size:=au
 have hs5:=hb5.size;have JE:af w5 (W.heap.size+1) av 57:=af.below hz2 hb5;have kM:Below W.heap.size W w5:=hb2.trans (hb5.mono hb2.size);have hsb:W.heap.size+1+1<=w5.heap.size:=by rw[hsz];exact hs5
 clear hb5 hb2 hz2 hsz hs5 hnx;dsimp only;go_step;refine gl (.tuple #[(N.getD S.zero).val,.bool N.isSome]) ?_;refine gl (N.getD S.zero).val ?_;refine gl (.bool N.isSome) ?_;refine dU (ob:=.cells av 57) (Z:=av) (cs:=(N.getD S.zero).cells) (t:=57) 57 (.tmp 6) (.tmp 13) rfl ?_;refine gl (.bool N.isSome) (ay ?_)
 rw[aG];have hs:af (w5.alloc (.cells (N.getD S.zero).cells 57)) w5.heap.size (N.getD S.zero).cells 57:=heap_alloc_new w5 _;have hz:af (w5.alloc (.cells (N.getD S.zero).cells 57)) (W.heap.size+1) av 57:=JE.alloc _;have hB:Below W.heap.size W (w5.alloc (.cells (N.getD S.zero).cells 57)):=kM.alloc kM.size _;generalize (w5.alloc (.cells (N.getD S.zero).cells 57))=wa at *;generalize w5.heap.size=sb at *;clear JE kM
 cases N with
 | none=>
  simp only[Option.getD_none,Option.isSome_none]at *;go_upto_region 3 with(fail);refine wp_region_lit ?_;refine gl (.agg av) ?_;refine uR hz av 57 (.tmp 4) (.tmp 17) ?_;refine gl (.i 11) (ay ?_)
  have kN:Below W.heap.size W (wa.setRow (W.heap.size+1) av):=bX hB ag _;have F9:af (wa.setRow (W.heap.size+1) av) (W.heap.size+1) av 57:=hz.set _;generalize wa.setRow (W.heap.size+1) av=wb at *;go_wp2_with fail;refine jK (W.heap.size+1) F9 underlying57 ?_;exact⟨rfl,kN⟩
 | some n=>
  simp only[Option.getD_some,Option.isSome_some]at *;go_upto_region 4 with(fail);refine wp_region_lit ?_;refine grow hs 57 (.tmp 6) underlying57 ?_;refine uR hz n.cells 57 (.tmp 4) (.tmp 18) ?_;refine gl (.i 0) (ay ?_)
  have kN:Below W.heap.size W (wa.setRow (W.heap.size+1) n.cells):=bX hB ag _;have F9:af (wa.setRow (W.heap.size+1) n.cells) (W.heap.size+1) n.cells 57:=hz.set _;generalize wa.setRow (W.heap.size+1) n.cells=wb at *;go_wp2_with fail;refine jK (W.heap.size+1) F9 underlying57 ?_;exact⟨rfl,kN⟩
theorem I8 (W:World) (s:S) (b1 b2:Nat) (own:Int) (c:Cf) (h1:af W b1 #[.i own] 3) (h2:af W b2 c.cells 27) (hr:s.right=true) (hL:Laid W) (hb:s.broken=false):
  Calls prog 159 #[s.val,ptr b1,ptr b2] W fun e W'=>e=.returned (.tuple #[((Tk.bC s 14 own c.streams).getD S.zero).val,.i (if (Tk.bC s 14 own c.streams).isSome then 0 else 10)])/\Below W.heap.size W W':=by
 obtain⟨st,ow,sm,br,ma,us,ge,ep,ve⟩:=s;dsimp only at hb;subst hb;have hnx:=fun w' hL=>oJ w' (S.mk st ow sm false ma us ge ep ve) 14 own c.streams (by unfold iw;omega) hr hL
 generalize Tk.bC (S.mk st ow sm false ma us ge ep ve) 14 own c.streams=N at *;have l1:=h1.lt;have l2:=h2.lt;have c1:=cC own (h1.cell 0);have c2:=cC c.streams (h2.cell 2);clear h1 h2
 go_enter func159,ntmps159
 simp only[S.val,S.cells];go_wp2_with fail;refine(hnx _ (hL.stable ((gH W (S.mk st ow sm false ma us ge ep ve).cells av 57 57).2.block 0 (hL.lt aT)))).mono ?_;rintro e w5 ⟨rfl,hb5⟩;have hz2:=(gH W (S.mk st ow sm false ma us ge ep ve).cells av 57 57).1;have hb2:=(gH W (S.mk st ow sm false ma us ge ep ve).cells av 57 57).2;have hsz:W.heap.size+1+1=((W.alloc (.cells (S.mk st ow sm false ma us ge ep ve).cells 57)).alloc (.cells av 57)).heap.size:=au
 have hs5:=hb5.size;have JE:af w5 (W.heap.size+1) av 57:=af.below hz2 hb5;have kM:Below W.heap.size W w5:=hb2.trans (hb5.mono hb2.size);have hsb:W.heap.size+1+1<=w5.heap.size:=by rw[hsz];exact hs5
 clear hb5 hb2 hz2 hsz hs5 hnx;dsimp only;go_step;refine gl (.tuple #[(N.getD S.zero).val,.bool N.isSome]) ?_;refine gl (N.getD S.zero).val ?_;refine gl (.bool N.isSome) ?_;refine dU (ob:=.cells av 57) (Z:=av) (cs:=(N.getD S.zero).cells) (t:=57) 57 (.tmp 6) (.tmp 17) rfl ?_;refine gl (.bool N.isSome) (ay ?_)
 rw[aG];have hs:af (w5.alloc (.cells (N.getD S.zero).cells 57)) w5.heap.size (N.getD S.zero).cells 57:=heap_alloc_new w5 _;have hz:af (w5.alloc (.cells (N.getD S.zero).cells 57)) (W.heap.size+1) av 57:=JE.alloc _;have hB:Below W.heap.size W (w5.alloc (.cells (N.getD S.zero).cells 57)):=kM.alloc kM.size _;generalize (w5.alloc (.cells (N.getD S.zero).cells 57))=wa at *;generalize w5.heap.size=sb at *;clear JE kM
 cases N with
 | none=>
  simp only[Option.getD_none,Option.isSome_none]at *;go_upto_region 5 with(fail);refine wp_region_lit ?_;refine gl (.agg av) ?_;refine uR hz av 57 (.tmp 4) (.tmp 21) ?_;refine gl (.i 10) (ay ?_)
  have kN:Below W.heap.size W (wa.setRow (W.heap.size+1) av):=bX hB ag _;have F9:af (wa.setRow (W.heap.size+1) av) (W.heap.size+1) av 57:=hz.set _;generalize wa.setRow (W.heap.size+1) av=wb at *;go_wp2_with fail;refine jK (W.heap.size+1) F9 underlying57 ?_;exact⟨rfl,kN⟩
 | some n=>
  simp only[Option.getD_some,Option.isSome_some]at *;go_upto_region 6 with(fail);refine wp_region_lit ?_;refine grow hs 57 (.tmp 6) underlying57 ?_;refine uR hz n.cells 57 (.tmp 4) (.tmp 22) ?_;refine gl (.i 0) (ay ?_)
  have kN:Below W.heap.size W (wa.setRow (W.heap.size+1) n.cells):=bX hB ag _;have F9:af (wa.setRow (W.heap.size+1) n.cells) (W.heap.size+1) n.cells 57:=hz.set _;generalize wa.setRow (W.heap.size+1) n.cells=wb at *;go_wp2_with fail;refine jK (W.heap.size+1) F9 underlying57 ?_;exact⟨rfl,kN⟩
theorem zN (W:World) (s:S) (b1 b2:Nat) (hb:s.broken=true):
  Calls prog 159 #[s.val,ptr b1,ptr b2] W fun e W'=>e=.returned (.tuple #[S.zero.val,.i 9])/\Below W.heap.size W W':=by
 obtain⟨st,ow,sm,br,ma,us,ge,ep,ve⟩:=s;dsimp only at hb;subst hb
 go_enter func159,ntmps159
 simp only[S.val,S.cells];go_upto_region 2 with(fail);have hz2:=(gH W (S.mk st ow sm true ma us ge ep ve).cells av 57 57).1;have hb2:=(gH W (S.mk st ow sm true ma us ge ep ve).cells av 57 57).2;refine wp_region_lit ?_;refine gl (.agg av) ?_;refine uR hz2 av 57 (.tmp 4) (.tmp 10) ?_;refine gl (.i 9) (ay ?_)
 have kN:=bX hb2 (by omega:W.heap.size<=W.heap.size+1) av;have F9:=hz2.set av;go_wp2_with fail;refine jK (W.heap.size+1) F9 underlying57 ?_;exact⟨rfl,kN⟩
theorem CB {W:World} {sb b1 b2 mb wb:Nat} {bv:Value} {x:Sm} {ws:List Int} {tc:Int} (h:eD W sb b1 b2 mb wb bv x ws tc) (ht:0<=tc/\tc<=4000000000000000000) (hlen:1 < ws.length) (hk:x.st=0):Calls prog 157 #[ptr sb,ptr mb] W (ig W sb b1 b2 mb wb bv (.bool (decide ((x.step ws).1.st=3))) (x.step ws).1 (x.step ws).2.1 (tc+(x.step ws).2.2)):=by
 have hx:=rd_some (ws:=ws) (i:=0) ag
 have hst:x.step ws=if rd ws 0=2 then (x.finish 5,ws,1) else ({x with st:=1},ws,1):=by
  unfold Sm.step;rw[hk];rfl
 rw[hst];clear hst;generalize rd ws 0=q at *;have c8:W.cell? ⟨sb,8,none⟩=some (.i 0):=by have:=h.cell 8;rw[show(jd x bv)[8]? =some (.i x.st) from rfl,hk]at this;exact this
 have U6:=h.frozen 8;have h1:=h.put 8 (.i 1) {x with st:=1} rfl rfl rfl rfl rfl;have q1:OR mb wb (xQ sb b1 b2) W (xQ sb b1 b2) (W.setCell ⟨sb,8,none⟩ (.i 1)):=OR.refl.set (tb:=sb) (.inl rfl) 8 _;have hld:Calls prog 56 #[ptr mb,.i 0] (W.setCell ⟨sb,8,none⟩ (.i 1)) _:=aU h1.mem ht 0 _ hx;clear h hx hlen;have H1:=uH h1;have Q1:=uH q1;clear h1 q1
 by_cases hq:q=2
 ·rw[if_pos hq];subst hq
  go_enter func157,ntmps157
  go_wp2_with fail;refine hld.mono ?_;rintro e w5 ⟨rfl,gq,dS⟩;have hen:=mM (H1.out.bU dS gq) 5;have Q5:=uH (Q1.out.mem dS);clear hld gq dS c8 U6 H1;go_wp2_with fail;refine hen.mono ?_;rintro e w9 ⟨rfl,h9,q9⟩;have d8:=cC 3 (h9.cell 8);have H9:=uH h9;have Q9:=uH (Q5.out.trans q9);clear hen h9 q9;go_wp2_with fail;go_ret;exact⟨rfl,H9.out,Q9.out⟩
 ·rw[if_neg hq];have hqb:(q == 2)=false:=by simpa using hq
  have HQ:=uH hq;clear hq
  go_enter func157,ntmps157
  go_wp2_with fail;refine hld.mono ?_;rintro e w5 ⟨rfl,gq,dS⟩;have h5:=H1.out.bU dS gq;have d8:=cC 1 (h5.cell 8);have H5:=uH h5;have Q5:=uH (Q1.out.mem dS);clear hld gq dS c8 U6 H1 h5;go_wp2_with fail;go_ret;exact⟨rfl,H5.out,Q5.out⟩
theorem EB {W:World} {sb b1 b2 mb wb:Nat} {bv:Value} {x:Sm} {ws:List Int} {tc:Int} (h:eD W sb b1 b2 mb wb bv x ws tc) (hk:x.st=3):Calls prog 157 #[ptr sb,ptr mb] W (ig W sb b1 b2 mb wb bv (.bool (decide ((x.step ws).1.st=3))) (x.step ws).1 (x.step ws).2.1 (tc+(x.step ws).2.2)):=by
 have hst:x.step ws=(x,ws,0):=by
  unfold Sm.step;rw[hk];rfl
 rw[hst];dsimp only;rw[hk];have c8:W.cell? ⟨sb,8,none⟩=some (.i 3):=by have:=h.cell 8;rw[show(jd x bv)[8]? =some (.i x.st) from rfl,hk]at this;exact this
 have H:=uH h;clear h hst hk
 go_enter func157,ntmps157
 go_wp2_with fail;go_ret;exact⟨rfl,by rw[show tc+((0:Nat):Int)=tc by simp];exact H.out,OR.refl⟩
theorem XV (n k:Nat):((n:Int) == ((k:Nat):Int))=decide (n=k):=by
 rw[Bool.eq_iff_iff];simp;omega
variable {gb mb wb:Nat} {ro:Option Nat} {ws aC:List Int} {tc eX:Int}
theorem NP {W:World} {g:Gi} (h:iU W gb mb wb ro g ws tc) (hk:g.st=0) {g':Gi} (hS:Calls prog 214 #[ptr gb,ptr mb] W (iq W gb mb wb ro (.tuple #[]) g' aC eX)):
  Calls prog 154 #[ptr gb,ptr mb] W (iq W gb mb wb ro (.bool (decide (g'.st=4))) g' aC eX):=by
 have c9:=cC g.st (h.cell 9);have hk1:(g.st:Int)=0:=ag
 rw[hk1]at c9;clear h hk hk1
 go_enter func154,ntmps154
 go_wp2_with fail;refine hS.mono ?_;rintro e w5 ⟨rfl,iE,h5,q5⟩;have d9:=cC g'.st (h5.cell 9);have H5:=uH h5;have Q5:=uH q5;clear hS h5 q5;go_wp2_with fail;go_ret;exact⟨Base.aN (XV _ 4),iE,H5.out,Q5.out⟩
theorem NQ {W:World} {g:Gi} (h:iU W gb mb wb ro g ws tc) (hk:g.st=1) {g':Gi} (hS:Calls prog 215 #[ptr gb,ptr mb] W (iq W gb mb wb ro (.tuple #[]) g' aC eX)):
  Calls prog 154 #[ptr gb,ptr mb] W (iq W gb mb wb ro (.bool (decide (g'.st=4))) g' aC eX):=by
 have c9:=cC g.st (h.cell 9);have hk1:(g.st:Int)=1:=ag
 rw[hk1]at c9;clear h hk hk1
 go_enter func154,ntmps154
 go_wp2_with fail;refine hS.mono ?_;rintro e w5 ⟨rfl,iE,h5,q5⟩;have d9:=cC g'.st (h5.cell 9);have H5:=uH h5;have Q5:=uH q5;clear hS h5 q5;go_wp2_with fail;go_ret;exact⟨Base.aN (XV _ 4),iE,H5.out,Q5.out⟩
theorem NR {W:World} {g:Gi} (h:iU W gb mb wb ro g ws tc) (hk:g.st=2) {g':Gi} (hS:Calls prog 216 #[ptr gb,ptr mb] W (iq W gb mb wb ro (.tuple #[]) g' aC eX)):
  Calls prog 154 #[ptr gb,ptr mb] W (iq W gb mb wb ro (.bool (decide (g'.st=4))) g' aC eX):=by
 have c9:=cC g.st (h.cell 9);have hk1:(g.st:Int)=2:=ag
 rw[hk1]at c9;clear h hk hk1
 go_enter func154,ntmps154
 go_wp2_with fail;refine hS.mono ?_;rintro e w5 ⟨rfl,iE,h5,q5⟩;have d9:=cC g'.st (h5.cell 9);have H5:=uH h5;have Q5:=uH q5;clear hS h5 q5;go_wp2_with fail;go_ret;exact⟨Base.aN (XV _ 4),iE,H5.out,Q5.out⟩
theorem NS {W:World} {g:Gi} (h:iU W gb mb wb ro g ws tc) (hk:g.st=3) {g':Gi} (hS:Calls prog 217 #[ptr gb,ptr mb] W (iq W gb mb wb ro (.tuple #[]) g' aC eX)):
  Calls prog 154 #[ptr gb,ptr mb] W (iq W gb mb wb ro (.bool (decide (g'.st=4))) g' aC eX):=by
 have c9:=cC g.st (h.cell 9);have hk1:(g.st:Int)=3:=ag
 rw[hk1]at c9;clear h hk hk1
 go_enter func154,ntmps154
 go_wp2_with fail;refine hS.mono ?_;rintro e w5 ⟨rfl,iE,h5,q5⟩;have d9:=cC g'.st (h5.cell 9);have H5:=uH h5;have Q5:=uH q5;clear hS h5 q5;go_wp2_with fail;go_ret;exact⟨Base.aN (XV _ 4),iE,H5.out,Q5.out⟩
theorem GG {W:World} {g:Gi} (h:iU W gb mb wb ro g ws tc) (hok:pW g.cf g) (hc:aA g.cf) (hw:0<=g.w/\g.w<=15) (hlen:ws.length=sc g.cf (ns g.cf)) (ht:0<=tc/\tc<=4000000000000000000) (hst:g.st<=3):
  Calls prog 154 #[ptr gb,ptr mb] W (iq W gb mb wb ro (.bool (decide ((g.step ws).1.st=4))) (g.step ws).1 (g.step ws).2.1 (tc+(g.step ws).2.2)):=by
 have hl3:3<=ws.length:=by rw[hlen,fI];omega
 have hcs:g.st=0\/g.st=1\/g.st=2\/g.st=3:=ag
 rcases hcs with hk | hk | hk | hk
 ·exact NP h hk (NL h ht ag hk)
 ·refine NQ h hk ?_;cases hh:bW g.cf g.i
  ·exact Du h ht hc hh hk
  ·cases hd:dec (rd ws (sc g.cf g.i.toNat))with
   | none=>exact Be h ht hc hlen hh hd hk
   | some s=>
    by_cases e3:s.state=3
    ·by_cases eo:s.own=g.w
     ·by_cases eg:s.gen=g.gen
      ·by_cases es:s.streams=0
       ·exact yu h ht hc hlen hh hd e3 eo eg (.inl es) hk
       ·cases ed:g.discard
        ·exact Bf h ht hc hlen hh hd e3 eo eg es ed hk
        ·exact yu h ht hc hlen hh hd e3 eo eg (.inr ed) hk
      ·exact Dw h ht hc hlen hh hd e3 eo eg hk
     ·exact Dv h ht hc hlen hh hd e3 eo hk
    ·exact ze h ht hc hlen hh hd e3 hk
 ·obtain⟨s,h1,h2,h3,h4,h5⟩:=hok.uses hk
  have hn:bC s 4 g.w 0=some {(gG 4 s g.w 0).1 with version:=(s.version+1) % 32768}:=by
   unfold owns at h2;simp only[Bool.and_eq_true,beq_iff_eq]at h2;refine NT (gM h1).1 hw ?_;simp[gG,Mod.act,h2,h4]
  exact NR h hk (RY h ht hc hlen (hok.has (.inl hk)) hk h1 hn)
 ·obtain⟨r,hr⟩:=hok.kz hk;have hro:=(hok.rt r hr).1;rw[<- hlen]at hro;exact NS h hk (RV h ht hl3 hk hr hro)
end Mc
namespace Mc
open Go.RowKit Hp ah aj Slot ai Tk Cl
theorem EC {W:World} {sb b1 b2 mb wb:Nat} {bv:Value} {x:Sm} {ws:List Int} {tc:Int} (h:eD W sb b1 b2 mb wb bv x ws tc) (ht:0<=tc/\tc<=4000000000000000000) (hc:aA x.cf) (hlen:ws.length=sc x.cf (ns x.cf)) (hi0:0<=x.i/\x.i < x.cf.slots) (hk:x.st=2):Calls prog 157 #[ptr sb,ptr mb] W (ig W sb b1 b2 mb wb bv (.bool (decide ((x.step ws).1.st=3))) (x.step ws).1 (x.step ws).2.1 (tc+(x.step ws).2.2)):=by
 have hns:=hc.ns;have hin:x.i.toNat < ns x.cf:=ag
 have hi1:((x.i.toNat:Nat):Int)=x.i:=Int.toNat_of_nonneg hi0.1;have hsl:=fun W=>bg W x.cf x.i.toNat (by have:=hc.w;omega) (by have:=hc.s;omega)
 have hsc:(3+2 * x.cf.workers+x.i)=((sc x.cf x.i.toNat:Nat):Int):=by have:=hc.w;unfold sc;omega
 simp only[hi1,hsc,Cf.val,Cf.cells]at hsl;have hrd:=rd_some (ws:=ws) (i:=sc x.cf x.i.toNat) (by rw[hlen];unfold sc;omega)
 have hst:x.step ws=if (dF ws (sc x.cf x.i.toNat) x.word x.next).1 then (x.finish 0,(dF ws (sc x.cf x.i.toNat) x.word x.next).2,1) else ({x with st:=1},(dF ws (sc x.cf x.i.toNat) x.word x.next).2,1):=by
  unfold Sm.step;rw[hk];rfl
 rw[hst];clear hst hlen hin hns hi1 hsc hi0;generalize sc x.cf x.i.toNat=cell at *;have c8:W.cell? ⟨sb,8,none⟩=some (.i 2):=by have:=h.cell 8;rw[show(jd x bv)[8]? =some (.i x.st) from rfl,hk]at this;exact this
 have U6:=h.frozen 8;have H1:=uH (h.put 8 (.i 1) {x with st:=1} rfl rfl rfl rfl rfl);have Q1:RowKit.Hid (OR mb wb (xQ sb b1 b2) W (xQ sb b1 b2) (W.setCell ⟨sb,8,none⟩ (.i 1))):=uH (OR.refl.set (tb:=sb) (.inl rfl) 8 _);clear h hk
 by_cases hx:rd ws cell=x.word
 ·rw[oK hx];simp only[if_true];have hcs:=fun W (hm:bB W mb wb ws tc)=>jv hm ht cell x.word (by rw[<- hx];exact hrd) x.next
  have HX:=uH hx;clear hx hrd
  go_enter func157,ntmps157
  go_upto_region 10 with(fail);generalize W.setCell ⟨sb,8,none⟩ (.i 1)=w1 at *;clear c8 U6;obtain⟨c0,c1,c2,c3,c4⟩:=cQ x.cf H1.out.cell;have c6:=cC x.i (H1.out.cell 6);have c9:=cC x.word (H1.out.cell 9);have c10:=cC x.next (H1.out.cell 10)
  go_region_held3 (fun w'=>w'.cell? ⟨sb,0,none⟩=some (.i x.cf.workers)/\w'.cell? ⟨sb,1,none⟩=some (.i x.cf.slots)/\w'.cell? ⟨sb,2,none⟩=some (.i x.cf.streams)/\w'.cell? ⟨sb,3,none⟩=some (.i x.cf.waiters)/\w'.cell? ⟨sb,4,none⟩=some (.i x.cf.uses)/\w'.cell? ⟨sb,6,none⟩=some (.i x.i)/\w'.cell? ⟨sb,9,none⟩=some (.i x.word)/\w'.cell? ⟨sb,10,none⟩=some (.i x.next)) (first | go_keep | exact⟨aI,aI,aI,aI,aI,aI,aI,aI⟩)
   ((first
   | (go_at_call 54;refine(hsl _).mono ?_;rintro e w5 ⟨rfl,hb5⟩;have h5:=(H1.out.below bY).below hb5;have q5:=(Q1.out.below bY).below hb5;have Mf:=hcs _ h5.mem;obtain⟨a0,a1,a2,a3,a4⟩:=cQ x.cf h5.cell;have a6:=cC x.i (h5.cell 6);have a9:=cC x.word (h5.cell 9);have a10:=cC x.next (h5.cell 10))
   | (go_at_call 166;refine(Mf).mono ?_;rintro e w6 ⟨rfl,jH,fT⟩;have h6:=h5.bU fT jH;have q6:=q5.mem fT;obtain⟨b0,b1,b2,b3,b4⟩:=cQ x.cf h6.cell;have b6:=cC x.i (h6.cell 6);have b9:=cC x.word (h6.cell 9);have b10:=cC x.next (h6.cell 10))))
  have hen:=mM h6 0;have Q6:=uH q6;clear h6 q6 hcs Mf hsl h5 q5;go_wp2_with fail;refine hen.mono ?_;rintro e w9 ⟨rfl,h9,q9⟩;have d8:=cC 3 (h9.cell 8);have H9:=uH h9;have Q9:=uH (Q6.out.trans q9);clear hen h9 q9;go_wp2_with fail;go_ret;exact⟨rfl,H9.out,Q9.out⟩
 ·rw[lM hx];simp only[Bool.false_eq_true,if_false];have hcs:=fun W (hm:bB W mb wb ws tc)=>jw hm ht cell _ hrd x.word x.next hx
  have HX:=uH hx;clear hx hrd
  go_enter func157,ntmps157
  go_upto_region 10 with(fail);generalize W.setCell ⟨sb,8,none⟩ (.i 1)=w1 at *;clear c8 U6;obtain⟨c0,c1,c2,c3,c4⟩:=cQ x.cf H1.out.cell;have c6:=cC x.i (H1.out.cell 6);have c9:=cC x.word (H1.out.cell 9);have c10:=cC x.next (H1.out.cell 10)
  go_region_held3 (fun w'=>w'.cell? ⟨sb,0,none⟩=some (.i x.cf.workers)/\w'.cell? ⟨sb,1,none⟩=some (.i x.cf.slots)/\w'.cell? ⟨sb,2,none⟩=some (.i x.cf.streams)/\w'.cell? ⟨sb,3,none⟩=some (.i x.cf.waiters)/\w'.cell? ⟨sb,4,none⟩=some (.i x.cf.uses)/\w'.cell? ⟨sb,6,none⟩=some (.i x.i)/\w'.cell? ⟨sb,9,none⟩=some (.i x.word)/\w'.cell? ⟨sb,10,none⟩=some (.i x.next)) (first | go_keep | exact⟨aI,aI,aI,aI,aI,aI,aI,aI⟩)
   ((first
   | (go_at_call 54;refine(hsl _).mono ?_;rintro e w5 ⟨rfl,hb5⟩;have h5:=(H1.out.below bY).below hb5;have q5:=(Q1.out.below bY).below hb5;have Mf:=hcs _ h5.mem;obtain⟨a0,a1,a2,a3,a4⟩:=cQ x.cf h5.cell;have a6:=cC x.i (h5.cell 6);have a9:=cC x.word (h5.cell 9);have a10:=cC x.next (h5.cell 10))
   | (go_at_call 166;refine(Mf).mono ?_;rintro e w6 ⟨rfl,jH,fT⟩;have h6:=h5.bU fT jH;have q6:=q5.mem fT;obtain⟨b0,b1,b2,b3,b4⟩:=cQ x.cf h6.cell;have b6:=cC x.i (h6.cell 6);have b9:=cC x.word (h6.cell 9);have b10:=cC x.next (h6.cell 10))))
  have d8:=cC 1 (h6.cell 8);have H6:=uH h6;have Q6:=uH q6;clear h6 q6 hcs Mf hsl h5 q5;go_wp2_with fail;go_ret;exact⟨rfl,H6.out,Q6.out⟩
theorem rU (x:Sm) (ws:List Int) (hk:x.st=1):x.step ws=if bW x.cf x.i then
   (match dec (rd ws (sc x.cf x.i.toNat))with
   | none=>({x with word:=rd ws (sc x.cf x.i.toNat)}.finish 2,ws,1)
   | some s=>
    if !owns s x.w x.gen then ({x with word:=rd ws (sc x.cf x.i.toNat)}.finish 2,ws,1)
    else match x.becomes s with
     | .inr e=>({x with word:=rd ws (sc x.cf x.i.toNat)}.finish e,ws,1)
     | .inl t=>({x with word:=rd ws (sc x.cf x.i.toNat),next:=t.word,stream:=x.which s,st:=2},ws,1))
  else (x.finish 2,ws,0):=by
 unfold Sm.step;rw[hk];rfl
theorem ED {W:World} {sb b1 b2 mb wb:Nat} {bv:Value} {x:Sm} {ws:List Int} {tc:Int} (h:eD W sb b1 b2 mb wb bv x ws tc) (hh:bW x.cf x.i=false) (hk:x.st=1):Calls prog 219 #[ptr sb,ptr mb] W (ig W sb b1 b2 mb wb bv (.tuple #[]) (x.step ws).1 (x.step ws).2.1 (tc+(x.step ws).2.2)):=by
 rw[rU x ws hk,hh];simp only[Bool.false_eq_true,if_false];have hsl:=fun W=>sJ W x.cf x.i (by unfold bW at hh;have:=of_decide_eq_false hh;omega)
 simp only[Cf.val,Cf.cells]at hsl;obtain⟨c0,c1,c2,c3,c4⟩:=cQ x.cf h.cell;have c6:=cC x.i (h.cell 6);have H:=uH h;clear h
 go_enter func219,ntmps219
 go_wp2_with fail
 go_region_held3 (fun w'=>w'.cell? ⟨sb,0,none⟩=some (.i x.cf.workers)/\w'.cell? ⟨sb,1,none⟩=some (.i x.cf.slots)/\w'.cell? ⟨sb,2,none⟩=some (.i x.cf.streams)/\w'.cell? ⟨sb,3,none⟩=some (.i x.cf.waiters)/\w'.cell? ⟨sb,4,none⟩=some (.i x.cf.uses)/\w'.cell? ⟨sb,6,none⟩=some (.i x.i)) (first | go_keep | exact⟨aI,aI,aI,aI,aI,aI⟩)
  ((first
  | (go_at_call 54;refine(hsl _).mono ?_;rintro e w5 ⟨rfl,hb5⟩;have h5:=(H.out.below bY).below hb5;have q5:OR mb wb (xQ sb b1 b2) W (xQ sb b1 b2) w5:=(OR.refl.below bY).below hb5;obtain⟨a0,a1,a2,a3,a4⟩:=cQ x.cf h5.cell;have a6:=cC x.i (h5.cell 6))))
 clear hsl hb5;have hen:=mM h5 2;have Q5:=uH q5;clear h5 q5;go_wp2_with fail;refine hen.mono ?_;rintro e w9 ⟨rfl,h9,q9⟩;have H9:=uH h9;have Q9:=uH (Q5.out.trans q9);clear hen h9 q9;go_wp2_with fail
 first | go_end0 | refine bP ?_
 exact⟨rfl,by rw[show tc+((0:Nat):Int)=tc by simp];exact H9.out,Q9.out⟩
theorem EE {W:World} {sb b1 b2 mb wb:Nat} {bv:Value} {x x':Sm} {ws aC:List Int} {tc eX:Int} (h:eD W sb b1 b2 mb wb bv x ws tc) (hk:x.st=1) (hl:Calls prog 219 #[ptr sb,ptr mb] W (ig W sb b1 b2 mb wb bv (.tuple #[]) x' aC eX)):Calls prog 157 #[ptr sb,ptr mb] W (ig W sb b1 b2 mb wb bv (.bool (decide (x'.st=3))) x' aC eX):=by
 have c8:W.cell? ⟨sb,8,none⟩=some (.i 1):=by have:=h.cell 8;rw[show(jd x bv)[8]? =some (.i x.st) from rfl,hk]at this;exact this
 clear h
 go_enter func157,ntmps157
 go_wp2_with fail;refine hl.mono ?_;rintro e w9 ⟨rfl,h9,q9⟩;have d8:=cC x'.st (h9.cell 8);have H9:=uH h9;have Q9:=uH q9;clear hl h9 q9
 by_cases h3:x'.st=3
 ·rw[h3]at d8;have HH:=uH h3;clear h3;go_wp2_with fail;go_ret;exact⟨Base.aN (by rw[decide_eq_true HH.out]),H9.out,Q9.out⟩
 ·have hb:(((x'.st:Nat):Int) == 3)=false:=by simpa using (by omega:¬ ((x'.st:Nat):Int)=3)
  have HH:=uH h3;clear h3;generalize ((x'.st:Nat):Int)=z at *;go_wp2_with fail;go_ret;exact⟨Base.aN (by rw[decide_eq_false HH.out]),H9.out,Q9.out⟩
theorem zO:(∀ {W:World} {sb b1 b2 mb wb:Nat} {bv:Value} {x:Sm} {ws:List Int} {tc:Int} (h:eD W sb b1 b2 mb wb bv x ws tc) (ht:0<=tc/\tc<=4000000000000000000) (hc:aA x.cf) (hlen:ws.length=sc x.cf (ns x.cf)) (hh:bW x.cf x.i=true) (hd:dec (rd ws (sc x.cf x.i.toNat))=none) (hk:x.st=1),Calls prog 219 #[ptr sb,ptr mb] W (ig W sb b1 b2 mb wb bv (.tuple #[]) (x.step ws).1 (x.step ws).2.1 (tc+(x.step ws).2.2)))/\(∀ {W:World} {sb b1 b2 mb wb:Nat} {bv:Value} {x:Sm} {ws:List Int} {tc:Int} (h:eD W sb b1 b2 mb wb bv x ws tc) (ht:0<=tc/\tc<=4000000000000000000) (hc:aA x.cf) (hlen:ws.length=sc x.cf (ns x.cf)) (hh:bW x.cf x.i=true) {s:S} (hd:dec (rd ws (sc x.cf x.i.toNat))=some s) (e3:s.state≠3) (hk:x.st=1),Calls prog 219 #[ptr sb,ptr mb] W (ig W sb b1 b2 mb wb bv (.tuple #[]) (x.step ws).1 (x.step ws).2.1 (tc+(x.step ws).2.2)))/\(∀ {W:World} {sb b1 b2 mb wb:Nat} {bv:Value} {x:Sm} {ws:List Int} {tc:Int} (h:eD W sb b1 b2 mb wb bv x ws tc) (ht:0<=tc/\tc<=4000000000000000000) (hc:aA x.cf) (hlen:ws.length=sc x.cf (ns x.cf)) (hh:bW x.cf x.i=true) {s:S} (hd:dec (rd ws (sc x.cf x.i.toNat))=some s) (e3:s.state=3) (eo:s.own≠x.w) (hk:x.st=1),Calls prog 219 #[ptr sb,ptr mb] W (ig W sb b1 b2 mb wb bv (.tuple #[]) (x.step ws).1 (x.step ws).2.1 (tc+(x.step ws).2.2)))/\(∀ {W:World} {sb b1 b2 mb wb:Nat} {bv:Value} {x:Sm} {ws:List Int} {tc:Int} (h:eD W sb b1 b2 mb wb bv x ws tc) (ht:0<=tc/\tc<=4000000000000000000) (hc:aA x.cf) (hlen:ws.length=sc x.cf (ns x.cf)) (hh:bW x.cf x.i=true) {s:S} (hd:dec (rd ws (sc x.cf x.i.toNat))=some s) (e3:s.state=3) (eo:s.own=x.w) (eg:s.gen≠x.gen) (hk:x.st=1),Calls prog 219 #[ptr sb,ptr mb] W (ig W sb b1 b2 mb wb bv (.tuple #[]) (x.step ws).1 (x.step ws).2.1 (tc+(x.step ws).2.2))):=by
 refine⟨?_,?_,?_,?_⟩
 ·intro W sb b1 b2 mb wb bv x ws tc h ht hc hlen hh hd hk;have hi0:0<=x.i/\x.i < x.cf.slots:=of_decide_eq_true hh;have hns:=hc.ns;have hin:x.i.toNat < ns x.cf:=ag
  have hi1:((x.i.toNat:Nat):Int)=x.i:=Int.toNat_of_nonneg hi0.1;have hsl:=fun W=>bg W x.cf x.i.toNat (by have:=hc.w;omega) (by have:=hc.s;omega)
  have hsc:(3+2 * x.cf.workers+x.i)=((sc x.cf x.i.toNat:Nat):Int):=by have:=hc.w;unfold sc;omega
  simp only[hi1,hsc,Cf.val,Cf.cells]at hsl;have hrd:=rd_some (ws:=ws) (i:=sc x.cf x.i.toNat) (by rw[hlen];unfold sc;omega);rw[rU x ws hk,hh];simp only[if_true];generalize rd ws (sc x.cf x.i.toNat)=y at *;have hld:=fun W (h:bB W mb wb ws tc)=>aU h ht (sc x.cf x.i.toNat) y hrd
  have hdc:=fun W hL=>aS W y hL
  obtain⟨c0,c1,c2,c3,c4⟩:=cQ x.cf h.cell;have c6:=cC x.i (h.cell 6);have H:=uH h;have T0:=uH (OR.refl (W:=W) (mb:=mb) (wb:=wb) (F:=xQ sb b1 b2));clear h hrd hsc hi1 hin hns hi0 hlen;generalize sc x.cf x.i.toNat=cell at *;rw[hd];simp only[hd,Option.getD_none,Option.isSome_none]at hdc;dsimp only
  go_enter func219,ntmps219
  go_wp2_with fail
  go_region_held3 (fun w'=>w'.cell? ⟨sb,0,none⟩=some (.i x.cf.workers)/\w'.cell? ⟨sb,1,none⟩=some (.i x.cf.slots)/\w'.cell? ⟨sb,2,none⟩=some (.i x.cf.streams)/\w'.cell? ⟨sb,3,none⟩=some (.i x.cf.waiters)/\w'.cell? ⟨sb,4,none⟩=some (.i x.cf.uses)/\w'.cell? ⟨sb,6,none⟩=some (.i x.i)) (first | go_keep | exact⟨aI,aI,aI,aI,aI,aI⟩ | (refine⟨?_,?_,?_,?_,?_,?_⟩<;>first | assumption | (rw[World.cell?_setCell_other _ _ _ _ au];assumption)))
   ((first
   | (go_at_call 54;refine(hsl _).mono ?_;rintro e w5 ⟨rfl,hb5⟩;have h5:=(H.out.below bY).below hb5;have q5:=((T0.out).below bY).below hb5;obtain⟨a0,a1,a2,a3,a4⟩:=cQ x.cf h5.cell;have a6:=cC x.i (h5.cell 6))))
  have qU:=hld w5 h5.mem;have H5:=uH h5;have Q5:=uH q5;clear h5 q5 hb5 hsl;go_wp2_with fail;refine qU.mono ?_;rintro e w6 ⟨rfl,jH,fT⟩;have h6:=H5.out.bU fT jH;have q6:=Q5.out.mem fT;have b11:=cC x.word (h6.cell 9);have za:=h6.frozen 9;have h7:=h6.put 9 (.i y) {x with word:=y} rfl rfl rfl rfl rfl;have q7:=q6.set (tb:=sb) (.inl rfl) 9 (.i y);clear qU jH fT h6 q6;go_upto_region 4 with(fail);generalize (w6.setCell ⟨sb,9,none⟩ (.i y))=w7 at *;clear b11 za;have d11:=cC y (h7.cell 9);have hD:=hdc w7 h7.laid;have H7:=uH h7;have Q7:=uH q7;clear h7 q7;go_wp2_with fail;refine hD.mono ?_;rintro e w8 ⟨rfl,cZ⟩;have h8:=H7.out.below cZ;have q8:=Q7.out.below cZ;dsimp only;go_step;refine gl (.tuple #[S.zero.val,.bool false]) ?_;refine gl S.zero.val ?_;refine gl (.bool false) ?_;refine dU (ob:=.cells av 57) (Z:=av) (cs:=S.zero.cells) (t:=57) 57 (.tmp 5) (.tmp 34) rfl ?_
  refine gl (.bool false) (ay ?_)
  rw[aG];have dm:Below w8.heap.size w8 (w8.alloc (.cells S.zero.cells 57)):=bZ.alloc aQ _;have fe:af (w8.alloc (.cells S.zero.cells 57)) w8.heap.size S.zero.cells 57:=heap_alloc_new w8 _;have h9:=h8.below dm;have q9:=q8.below dm;have Kb:sb < w8.heap.size:=h8.lt;generalize (w8.alloc (.cells S.zero.cells 57))=w9 at *;generalize w8.heap.size=db at *;clear hD cZ dm h8 q8 d11 hld hdc;have e5:=cC x.w (h9.cell 5);have e7:=cC x.gen (h9.cell 7);have s0:=cC 0 (af.cell fe 0);have s1:=cC 0 (af.cell fe 1);have s6:=cC 0 (af.cell fe 6);have h10:=h9.below bY;have qV:=q9.below bY;clear h9 q9 fe;go_wp2_with fail;go_region;have hen:=mM h10 2;have zb:=uH qV;clear h10 qV;go_wp2_with fail;refine hen.mono ?_;rintro e w9 ⟨rfl,h9,q9⟩;have H9:=uH h9;have Q9:=uH (zb.out.trans q9);clear hen h9 q9;go_wp2_with fail
  first | go_end0 | refine bP ?_
  exact⟨rfl,H9.out,Q9.out⟩
 focus
  intro W sb b1 b2 mb wb bv x ws tc h ht hc hlen hh s hd e3 hk;have how:owns s x.w x.gen=false:=by unfold owns;simp[e3]
 rotate_left
 focus
  intro W sb b1 b2 mb wb bv x ws tc h ht hc hlen hh s hd e3 eo hk;have how:owns s x.w x.gen=false:=by unfold owns;simp[eo]
 rotate_left
 focus
  intro W sb b1 b2 mb wb bv x ws tc h ht hc hlen hh s hd e3 eo eg hk;have how:owns s x.w x.gen=false:=by unfold owns;simp[eg]
 rotate_left
 all_goals
  have hi0:0<=x.i/\x.i < x.cf.slots:=of_decide_eq_true hh;have hns:=hc.ns;have hin:x.i.toNat < ns x.cf:=ag
  have hi1:((x.i.toNat:Nat):Int)=x.i:=Int.toNat_of_nonneg hi0.1;have hsl:=fun W=>bg W x.cf x.i.toNat (by have:=hc.w;omega) (by have:=hc.s;omega)
  have hsc:(3+2 * x.cf.workers+x.i)=((sc x.cf x.i.toNat:Nat):Int):=by have:=hc.w;unfold sc;omega
  simp only[hi1,hsc,Cf.val,Cf.cells]at hsl;have hrd:=rd_some (ws:=ws) (i:=sc x.cf x.i.toNat) (by rw[hlen];unfold sc;omega);rw[rU x ws hk,hh];simp only[if_true];generalize rd ws (sc x.cf x.i.toNat)=y at *;have hld:=fun W (h:bB W mb wb ws tc)=>aU h ht (sc x.cf x.i.toNat) y hrd
  have hdc:=fun W hL=>aS W y hL
  obtain⟨c0,c1,c2,c3,c4⟩:=cQ x.cf h.cell;have c6:=cC x.i (h.cell 6);have H:=uH h;have T0:=uH (OR.refl (W:=W) (mb:=mb) (wb:=wb) (F:=xQ sb b1 b2));clear h hrd hsc hi1 hin hns hi0 hlen;generalize sc x.cf x.i.toNat=cell at *;rw[hd];simp only[hd,Option.getD_some,Option.isSome_some]at hdc;dsimp only;rw[how];simp only[Bool.not_false,if_true]
  go_enter func219,ntmps219
  go_wp2_with fail
  go_region_held3 (fun w'=>w'.cell? ⟨sb,0,none⟩=some (.i x.cf.workers)/\w'.cell? ⟨sb,1,none⟩=some (.i x.cf.slots)/\w'.cell? ⟨sb,2,none⟩=some (.i x.cf.streams)/\w'.cell? ⟨sb,3,none⟩=some (.i x.cf.waiters)/\w'.cell? ⟨sb,4,none⟩=some (.i x.cf.uses)/\w'.cell? ⟨sb,6,none⟩=some (.i x.i)) (first | go_keep | exact⟨aI,aI,aI,aI,aI,aI⟩ | (refine⟨?_,?_,?_,?_,?_,?_⟩<;>first | assumption | (rw[World.cell?_setCell_other _ _ _ _ au];assumption)))
   ((first
   | (go_at_call 54;refine(hsl _).mono ?_;rintro e w5 ⟨rfl,hb5⟩;have h5:=(H.out.below bY).below hb5;have q5:=((T0.out).below bY).below hb5;obtain⟨a0,a1,a2,a3,a4⟩:=cQ x.cf h5.cell;have a6:=cC x.i (h5.cell 6))))
  have qU:=hld w5 h5.mem;have H5:=uH h5;have Q5:=uH q5;clear h5 q5 hb5 hsl;go_wp2_with fail;refine qU.mono ?_;rintro e w6 ⟨rfl,jH,fT⟩;have h6:=H5.out.bU fT jH;have q6:=Q5.out.mem fT;have b11:=cC x.word (h6.cell 9);have za:=h6.frozen 9;have h7:=h6.put 9 (.i y) {x with word:=y} rfl rfl rfl rfl rfl;have q7:=q6.set (tb:=sb) (.inl rfl) 9 (.i y);clear qU jH fT h6 q6;go_upto_region 4 with(fail);generalize (w6.setCell ⟨sb,9,none⟩ (.i y))=w7 at *;clear b11 za;have d11:=cC y (h7.cell 9);have hD:=hdc w7 h7.laid;have H7:=uH h7;have Q7:=uH q7;clear h7 q7;go_wp2_with fail;refine hD.mono ?_;rintro e w8 ⟨rfl,cZ⟩;have h8:=H7.out.below cZ;have q8:=Q7.out.below cZ;dsimp only;go_step;refine gl (.tuple #[s.val,.bool true]) ?_;refine gl s.val ?_;refine gl (.bool true) ?_;refine dU (ob:=.cells av 57) (Z:=av) (cs:=s.cells) (t:=57) 57 (.tmp 5) (.tmp 34) rfl ?_
  refine gl (.bool true) (ay ?_)
  rw[aG];have dm:Below w8.heap.size w8 (w8.alloc (.cells s.cells 57)):=bZ.alloc aQ _;have fe:af (w8.alloc (.cells s.cells 57)) w8.heap.size s.cells 57:=heap_alloc_new w8 _;have h9:=h8.below dm;have q9:=q8.below dm;have Kb:sb < w8.heap.size:=h8.lt;generalize (w8.alloc (.cells s.cells 57))=w9 at *;generalize w8.heap.size=db at *;clear hD cZ dm h8 q8 d11 hld hdc;have e5:=cC x.w (h9.cell 5);have e7:=cC x.gen (h9.cell 7)
 focus
  have s0:=cC s.state ((af.cell fe 0).trans (by show some (Value.int .i64 s.state)=_;first | rfl | rw[e3]));have s1:=cC s.own ((af.cell fe 1).trans (by show some (Value.int .i64 s.own)=_;first | rfl | rw[eo]));have s6:=cC s.gen ((af.cell fe 6).trans (by show some (Value.int .i64 s.gen)=_;first | rfl | rw[eg]));have f1:(s.state == 3)=false:=by simpa using e3
  have f2:(s.state != 3)=true:=by simpa using e3
  clear e3
 rotate_left
 focus
  have s0:=cC 3 ((af.cell fe 0).trans (by show some (Value.int .i64 s.state)=_;first | rfl | rw[e3]));have s1:=cC s.own ((af.cell fe 1).trans (by show some (Value.int .i64 s.own)=_;first | rfl | rw[eo]));have s6:=cC s.gen ((af.cell fe 6).trans (by show some (Value.int .i64 s.gen)=_;first | rfl | rw[eg]));have f1:(s.own == x.w)=false:=by simpa using eo
  have f2:(s.own != x.w)=true:=by simpa using eo
  clear e3 eo
 rotate_left
 focus
  have s0:=cC 3 ((af.cell fe 0).trans (by show some (Value.int .i64 s.state)=_;first | rfl | rw[e3]));have s1:=cC x.w ((af.cell fe 1).trans (by show some (Value.int .i64 s.own)=_;first | rfl | rw[eo]));have s6:=cC s.gen ((af.cell fe 6).trans (by show some (Value.int .i64 s.gen)=_;first | rfl | rw[eg]));have f1:(s.gen == x.gen)=false:=by simpa using eg
  have f2:(s.gen != x.gen)=true:=by simpa using eg
  clear e3 eo eg
 rotate_left
 all_goals
  have h10:=h9.below bY;have qV:=q9.below bY;clear h9 q9 fe how;go_wp2_with fail;go_region;have hen:=mM h10 2;have zb:=uH qV;clear h10 qV;go_wp2_with fail;refine hen.mono ?_;rintro e w9 ⟨rfl,h9,q9⟩;have H9:=uH h9;have Q9:=uH (zb.out.trans q9);clear hen h9 q9;go_wp2_with fail
  first | go_end0 | refine bP ?_
  exact⟨rfl,H9.out,Q9.out⟩
def CE:=@And.left _ _ zO
def zP:=@And.left _ _ (And.right zO)
def EF:=@And.left _ _ (And.right (And.right zO))
def EH:=@And.right _ _ (And.right (And.right zO))
end Mc
end Go.Proofs.YtbklamnimfmjkaaGreatDoor
