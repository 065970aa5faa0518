/- Part 9 of the walks and plain laws that the last text joins. -/
import Derived.Test.YtbklamnimfmjkaaGreatDoorKB7
import Derived.Test.YtbklamnimfmjkaaGreatDoorKB8
set_option maxRecDepth 100000
set_option maxHeartbeats 16000000
set_option linter.all false
open Go.Proofs.Tryz
namespace Go.Proofs.YtbklamnimfmjkaaGreatDoor
namespace Cl
open Go.RowKit Hp ah aj Tk Slot ai
def fJ:Option Nat->Value
 | some b=>ptr b
 | none=>.pointer none
def jo (tb:Nat) (lo ro:Option Nat) (k:Nat):Prop:=k=tb\/lo=some k\/ro=some k
def Grow (W:World) (lo lo':Option Nat):Prop:=lo'=lo\/∃ b,lo'=some b/\W.heap.size<=b
section
variable {W:World} {tb mb wb:Nat} {lo ro:Option Nat}
theorem Grow.refl:Grow W lo lo:=.inl rfl
theorem Grow.trans {W1:World} {l1 l2:Option Nat} (h:Grow W lo l1) (h2:Grow W1 l1 l2) (hs:W.heap.size<=W1.heap.size):Grow W lo l2:=by
 rcases h2 with rfl | ⟨b,h2,h3⟩
 ·exact h
 ·exact .inr ⟨b,h2,ag⟩
theorem Grow.fp {W1:World} {l1 r1:Option Nat} (hl:Grow W lo l1) (hr:Grow W ro r1) {k:Nat} (h:jo tb l1 r1 k):jo tb lo ro k\/W.heap.size<=k:=by
 rcases h with rfl | h | h
 ·exact .inl (.inl rfl)
 ·rcases hl with rfl | ⟨b,h2,h3⟩
  ·exact .inl (.inr (.inl h))
  ·rw[h]at h2;cases h2;exact .inr h3
 ·rcases hr with rfl | ⟨b,h2,h3⟩
  ·exact .inl (.inr (.inr h))
  ·rw[h]at h2;cases h2;exact .inr h3
end
def TR (W:World) (tb mb wb:Nat) (lo ro:Option Nat) (W':World) (lo' ro':Option Nat):Prop:=Grow W lo lo'/\Grow W ro ro'/\aD (fun k=>jo tb lo ro k\/dJ mb wb k) W W'
section
variable {W w w':World} {tb mb wb:Nat} {lo ro l1 r1 l2 r2:Option Nat}
theorem TR.refl:TR W tb mb wb lo ro W lo ro:=⟨Grow.refl,Grow.refl,aD.refl _ _⟩
theorem TR.trans (h:TR W tb mb wb lo ro w l1 r1) (h2:TR w tb mb wb l1 r1 w' l2 r2):TR W tb mb wb lo ro w' l2 r2:=by
 refine⟨h.1.trans h2.1 h.2.2.size,h.2.1.trans h2.2.1 h.2.2.size,h.2.2.trans h2.2.2 (fun k hk e=>?_)⟩
 rcases e with e | e
 ·rcases Grow.fp (W1:=w) (tb:=tb) h.1 h.2.1 e with e | e
  ·exact .inl e
  ·omega
 ·exact .inr e
theorem TR.aK {F:Nat->Prop} (h:TR W tb mb wb lo ro w l1 r1) (hc:aD F w w') (hF:∀ k,F k->jo tb l1 r1 k\/dJ mb wb k):TR W tb mb wb lo ro w' l1 r1:=h.trans ⟨Grow.refl,Grow.refl,hc.mono (fun k _ e=>hF k e)⟩
theorem TR.below (h:TR W tb mb wb lo ro w l1 r1) (hb:Below w.heap.size w w'):TR W tb mb wb lo ro w' l1 r1:=h.trans ⟨Grow.refl,Grow.refl,aD.aF hb⟩
theorem TR.set (h:TR W tb mb wb lo ro w l1 r1) (i:Nat) (v:Value):TR W tb mb wb lo ro (w.setCell ⟨tb,i,none⟩ v) l1 r1:=h.trans ⟨Grow.refl,Grow.refl,(aD.refl _ _).setCell ⟨tb,i,none⟩ _ (fun _=>.inl (.inl rfl))⟩
theorem TR.mem (h:TR W tb mb wb lo ro w l1 r1) (hc:aD (dJ mb wb) w w'):TR W tb mb wb lo ro w' l1 r1:=h.aK hc (fun _ e=>.inr e)
end
def nx (word:Int) (d:Nat) (own more:Int):Option S:=(dec word).bind fun s=>Tk.bC s d own more
def wG:Option S->Int
 | some s=>s.word
 | none=>0
theorem zo {word:Int} {d:Nat} {own more:Int} (h:dec word=none):nx word d own more=none:=by unfold nx;rw[h];rfl
theorem zq {word:Int} {d:Nat} {own more:Int} {s:S} (h:dec word=some s):nx word d own more=Tk.bC s d own more:=by unfold nx;rw[h];rfl
theorem rd_some {ws:List Int} {i:Nat} (h:i < ws.length):ws[i]? =some (Tk.rd ws i):=by
 unfold Tk.rd;rw[List.getD_eq_getElem?_getD,List.getElem?_eq_getElem h];rfl
end Cl
namespace Cl
open Go.RowKit Hp ah aj Tk
def zR (t:Tk) (lo ro:Option Nat):Array Value:=#[.i t.cf.workers,.i t.cf.slots,.i t.cf.streams,.i t.cf.waiters,.i t.cf.uses,.i t.w,.i t.st,fJ lo,.i t.i,.i t.word,.i t.gen,.bool t.passes,fJ ro,.i t.e]
def OP (W:World) (tb:Nat) (t:Tk) (lo ro:Option Nat):Prop:=af W tb (zR t lo ro) 169
structure bz (W:World) (tb mb wb:Nat) (lo ro:Option Nat) (t:Tk) (ws:List Int) (tc:Int):Prop where
 row:OP W tb t lo ro
 look:∀ f,t.look=some f->∃ fb,lo=some fb/\bQ W fb t.cf f
 ret:∀ r,t.rt=some r->∃ rb,ro=some rb/\cK W rb r
 la:∀ b,lo=some b->Apart b mb wb/\b≠tb/\b < W.heap.size
 ra:∀ b,ro=some b->Apart b mb wb/\b≠tb/\b < W.heap.size
 lr:∀ a b,lo=some a->ro=some b->a≠b
 mem:bB W mb wb ws tc
 ap:Apart tb mb wb
 laid:Slot.Laid W
def jk (W:World) (tb mb wb:Nat) (lo ro:Option Nat) (v:Value) (t:Tk) (ws:List Int) (tc:Int) (e:Ending) (W':World):Prop:=
 e=.returned v/\∃ lo' ro',bz W' tb mb wb lo' ro' t ws tc/\Grow W lo lo'/\Grow W ro ro'/\aD (fun k=>jo tb lo ro k\/dJ mb wb k) W W'
section
variable {W W':World} {tb mb wb:Nat} {lo ro:Option Nat} {t:Tk} {ws:List Int} {tc:Int}
theorem bz.lt (h:bz W tb mb wb lo ro t ws tc):tb < W.heap.size:=af.lt h.row
theorem bz.cell (h:bz W tb mb wb lo ro t ws tc) (i:Nat):W.cell? ⟨tb,i,none⟩=(zR t lo ro)[i]?:=af.cell h.row i
theorem bz.frozen (h:bz W tb mb wb lo ro t ws tc) (i:Nat):W.frozen? ⟨tb,i,none⟩=false:=af.frozen h.row i
variable {aC:List Int} {eX:Int}
theorem bz.aK {F:Nat->Prop} (h:bz W tb mb wb lo ro t ws tc) (hc:aD F W W') (h0:¬ F 0) (hF:∀ k,jo tb lo ro k->¬ F k) (hm:bB W' mb wb aC eX):bz W' tb mb wb lo ro t aC eX:=by
 have hs:=hc.size;refine⟨(hc.block _ h.lt (hF _ (.inl rfl))).trans h.row,?_,?_,?_,?_,h.lr,hm,h.ap,h.laid.stable (hc.block 0 (h.laid.lt aT) h0)⟩
 ·intro f hf;obtain⟨fb,h1,h2⟩:=h.look f hf;exact⟨fb,h1,h2.aK hc (hF _ (.inr (.inl h1)))⟩
 ·intro r hr;obtain⟨rb,h1,h2⟩:=h.ret r hr;exact⟨rb,h1,h2.aK hc (hF _ (.inr (.inr h1)))⟩
 ·intro b hb;obtain⟨h1,h2,h3⟩:=h.la b hb;exact⟨h1,h2,ag⟩
 ·intro b hb;obtain⟨h1,h2,h3⟩:=h.ra b hb;exact⟨h1,h2,ag⟩
theorem bz.below (h:bz W tb mb wb lo ro t ws tc) (hb:Below W.heap.size W W'):bz W' tb mb wb lo ro t ws tc:=by
 have hc:aD (fun _=>False) W W':=aD.aF hb;exact h.aK hc (fun e=>e) (fun _ _ e=>e) (h.mem.below hb)
theorem bz.bU (h:bz W tb mb wb lo ro t ws tc) (hc:aD (dJ mb wb) W W') (hm:bB W' mb wb aC eX):bz W' tb mb wb lo ro t aC eX:=by
 refine h.aK hc (fun e=>e.elim h.ap.m0 h.ap.w0) (fun k hk e=>?_) hm
 rcases hk with rfl | hk | hk
 ·exact e.elim h.ap.m h.ap.w
 ·exact e.elim (h.la k hk).1.m (h.la k hk).1.w
 ·exact e.elim (h.ra k hk).1.m (h.ra k hk).1.w
theorem bz.put (h:bz W tb mb wb lo ro t ws tc) (i:Nat) (v:Value) (t':Tk) (hrow:(zR t lo ro).setIfInBounds i v=zR t' lo ro) (hcf:t'.cf=t.cf) (hl:t'.look=t.look) (hr:t'.rt=t.rt):bz (W.setCell ⟨tb,i,none⟩ v) tb mb wb lo ro t' ws tc:=by
 have hc:aD (fun k=>k=tb) W (W.setCell ⟨tb,i,none⟩ v):=(aD.refl _ _).setCell _ _ (fun _=>rfl);have hs:=hc.size;refine⟨?_,?_,?_,?_,?_,h.lr,h.mem.far tb i v (fun e=>h.ap.m e.symm) (fun e=>h.ap.w e.symm),h.ap,h.laid.stable (hc.block 0 (h.laid.lt aT) h.ap.f0)⟩
 ·have:=af.aB h.row i v;rw[hrow]at this;exact this
 ·intro f hf;rw[hl]at hf;obtain⟨fb,h1,h2⟩:=h.look f hf;rw[hcf];exact⟨fb,h1,h2.aK hc (h.la fb h1).2.1⟩
 ·intro r hq;rw[hr]at hq;obtain⟨rb,h1,h2⟩:=h.ret r hq;exact⟨rb,h1,h2.aK hc (h.ra rb h1).2.1⟩
 ·intro b hb;obtain⟨h1,h2,h3⟩:=h.la b hb;exact⟨h1,h2,ag⟩
 ·intro b hb;obtain⟨h1,h2,h3⟩:=h.ra b hb;exact⟨h1,h2,ag⟩
theorem bz.zQ (h:bz W tb mb wb lo ro t ws tc) {fb:Nat} {f:Tk.Fd} (hf:bQ W fb t.cf f) (ha:Apart fb mb wb) (hne:fb≠tb) (hr:ro≠some fb):bz (W.setCell ⟨tb,7,none⟩ (ptr fb)) tb mb wb (some fb) ro {t with look:=some f} ws tc:=by
 have hc:aD (fun k=>k=tb) W (W.setCell ⟨tb,7,none⟩ (ptr fb)):=(aD.refl _ _).setCell _ _ (fun _=>rfl);have hs:=hc.size;refine⟨af.aB h.row 7 _,?_,?_,?_,?_,?_,h.mem.far tb 7 _ (fun e=>h.ap.m e.symm) (fun e=>h.ap.w e.symm),h.ap,h.laid.stable (hc.block 0 (h.laid.lt aT) h.ap.f0)⟩
 ·intro f' hf';cases hf';exact⟨fb,rfl,hf.aK hc hne⟩
 ·intro r hq;obtain⟨rb,h1,h2⟩:=h.ret r hq;exact⟨rb,h1,h2.aK hc (h.ra rb h1).2.1⟩
 ·intro b hb;cases hb;have:=hf.lt;exact⟨ha,hne,ag⟩
 ·intro b hb;obtain⟨h1,h2,h3⟩:=h.ra b hb;exact⟨h1,h2,ag⟩
 ·intro a b h1 h2 h3;cases h1;exact hr (by rw[h2,h3])
theorem bz.mW (h:bz W tb mb wb lo ro t ws tc) {rb:Nat} {r:Rt} (hf:cK W rb r) (ha:Apart rb mb wb) (hne:rb≠tb) (hr:lo≠some rb):bz (W.setCell ⟨tb,12,none⟩ (ptr rb)) tb mb wb lo (some rb) {t with rt:=some r} ws tc:=by
 have hc:aD (fun k=>k=tb) W (W.setCell ⟨tb,12,none⟩ (ptr rb)):=(aD.refl _ _).setCell _ _ (fun _=>rfl);have hs:=hc.size;refine⟨af.aB h.row 12 _,?_,?_,?_,?_,?_,h.mem.far tb 12 _ (fun e=>h.ap.m e.symm) (fun e=>h.ap.w e.symm),h.ap,h.laid.stable (hc.block 0 (h.laid.lt aT) h.ap.f0)⟩
 ·intro f hq;obtain⟨fb,h1,h2⟩:=h.look f hq;exact⟨fb,h1,h2.aK hc (h.la fb h1).2.1⟩
 ·intro f' hf';cases hf';exact⟨rb,rfl,hf.aK hc hne⟩
 ·intro b hb;obtain⟨h1,h2,h3⟩:=h.la b hb;exact⟨h1,h2,ag⟩
 ·intro b hb;cases hb;have:=hf.lt;exact⟨ha,hne,ag⟩
 ·intro a b h1 h2 h3;cases h2;exact hr (by rw[h1,h3])
theorem bz.jI (h:bz W tb mb wb lo ro t ws tc) {fb:Nat} (hl:lo=some fb) (hc:aD (fun k=>k=fb\/dJ mb wb k) W W') {f:Tk.Fd} (hf:bQ W' fb t.cf f) (hm:bB W' mb wb aC eX):bz W' tb mb wb lo ro {t with look:=some f} aC eX:=by
 have hs:=hc.size;have hA:=(h.la fb hl)
 refine⟨(hc.block _ h.lt (fun e=>e.elim (fun e=>hA.2.1 e.symm) fun e=>e.elim h.ap.m h.ap.w)).trans h.row,?_,?_,?_,?_,h.lr,hm,h.ap,h.laid.stable (hc.block 0 (h.laid.lt aT) (fun e=>e.elim hA.1.f0 fun e=>e.elim h.ap.m0 h.ap.w0))⟩
 ·intro f' hf';cases hf';exact⟨fb,hl,hf⟩
 ·intro r hq;obtain⟨rb,h1,h2⟩:=h.ret r hq;exact⟨rb,h1,h2.aK hc (fun e=>e.elim (fun e=>h.lr fb rb hl h1 e.symm) fun e=>e.elim (h.ra rb h1).1.m (h.ra rb h1).1.w)⟩
 ·intro b hb;obtain⟨h1,h2,h3⟩:=h.la b hb;exact⟨h1,h2,ag⟩
 ·intro b hb;obtain⟨h1,h2,h3⟩:=h.ra b hb;exact⟨h1,h2,ag⟩
theorem bz.lK (h:bz W tb mb wb lo ro t ws tc) {rb:Nat} (hl:ro=some rb) (hc:aD (fun k=>k=rb\/dJ mb wb k) W W') {r:Rt} (hf:cK W' rb r) (hm:bB W' mb wb aC eX):bz W' tb mb wb lo ro {t with rt:=some r} aC eX:=by
 have hs:=hc.size;have hA:=(h.ra rb hl)
 refine⟨(hc.block _ h.lt (fun e=>e.elim (fun e=>hA.2.1 e.symm) fun e=>e.elim h.ap.m h.ap.w)).trans h.row,?_,?_,?_,?_,h.lr,hm,h.ap,h.laid.stable (hc.block 0 (h.laid.lt aT) (fun e=>e.elim hA.1.f0 fun e=>e.elim h.ap.m0 h.ap.w0))⟩
 ·intro f hq;obtain⟨fb,h1,h2⟩:=h.look f hq;exact⟨fb,h1,h2.aK hc (fun e=>e.elim (fun e=>h.lr fb rb h1 hl e) fun e=>e.elim (h.la fb h1).1.m (h.la fb h1).1.w)⟩
 ·intro f' hf';cases hf';exact⟨rb,hl,hf⟩
 ·intro b hb;obtain⟨h1,h2,h3⟩:=h.la b hb;exact⟨h1,h2,ag⟩
 ·intro b hb;obtain⟨h1,h2,h3⟩:=h.ra b hb;exact⟨h1,h2,ag⟩
end
end Cl
namespace Cl
open Go.RowKit Hp Slot ah ai
theorem kL {W:World} {tb mb wb:Nat} {lo ro:Option Nat} {t:Tk.Tk} {ws:List Int} {tc:Int} (h:bz W tb mb wb lo ro t ws tc) (word:Int) (d:Nat) (hd:gD d):
  Calls prog 263 #[ptr tb,.i word,.i d] W fun e W'=>
   e=.returned (.tuple #[((nx word d t.w 0).getD S.zero).val,.i (wG (nx word d t.w 0)),.bool (nx word d t.w 0).isSome])/\Below W.heap.size W W':=by
 have hA:Below W.heap.size W (W.alloc (.cells av 57)):=bZ.alloc aQ _;have hdc:=aS (W.alloc (.cells av 57)) word (h.laid.stable (hA.block 0 (h.laid.lt aT)));have H:=uH h;clear h
 cases hdw:dec word with
 | none=>
  rw[hdw]at hdc;rw[zo hdw];simp only[Option.getD_none,Option.isSome_none,wG]at hdc ⊢
  go_enter func263,ntmps263
  go_wp2_with fail;refine hdc.mono ?_;rintro e w5 ⟨rfl,hb5⟩;have hB:Below W.heap.size W w5:=hA.trans (hb5.mono hA.size);have hr:af w5 W.heap.size av 57:=af.below (heap_alloc_new W _) hb5;have hne:W.heap.size < w5.heap.size:=af.lt hr;clear hdc hb5 hA;dsimp only;go_step;refine gl (.tuple #[S.zero.val,.bool false]) ?_;refine gl S.zero.val ?_;refine gl (.bool false) ?_;refine dU (ob:=.cells av 57) (Z:=av) (cs:=S.zero.cells) (t:=57) 57 (.tmp 9) (.tmp 15) rfl ?_;refine gl (.bool false) (ay ?_)
  rw[aG];have hz:af (w5.alloc (.cells S.zero.cells 57)) W.heap.size av 57:=af.below hr (bZ.alloc aQ _);have Xd:Below W.heap.size W (w5.alloc (.cells S.zero.cells 57)):=hB.alloc hB.size _;generalize (w5.alloc (.cells S.zero.cells 57))=wa at *;go_upto_region 3 with(fail);refine wp_region_lit ?_;refine gl (.agg Zs) ?_;refine uR hz Zs 57 (.tmp 6) (.tmp 19) ?_;go_wp2_with fail;refine ZN W.heap.size (hz.set Zs) underlying57 ?_;exact⟨rfl,bX Xd aQ _⟩
 | some s=>
  rw[hdw]at hdc;rw[zq hdw];simp only[Option.getD_some,Option.isSome_some]at hdc;have xG:=(gM hdw).1;have hnr:=fun s' (h:Tk.bC s d t.w 0=some s')=>Tk.fC hd.x h
  have hnx:=fun w' hL=>yL w' s d t.w 0 hd xG hL
  generalize Tk.bC s d t.w 0=N at *
  go_enter func263,ntmps263
  go_wp2_with fail;refine hdc.mono ?_;rintro e w5 ⟨rfl,hb5⟩;have hB:Below W.heap.size W w5:=hA.trans (hb5.mono hA.size);have hr:af w5 W.heap.size av 57:=af.below (heap_alloc_new W _) hb5;have hne:W.heap.size < w5.heap.size:=af.lt hr;clear hdc hb5 hA;dsimp only;go_step;refine gl (.tuple #[s.val,.bool true]) ?_;refine gl s.val ?_;refine gl (.bool true) ?_;refine dU (ob:=.cells av 57) (Z:=av) (cs:=s.cells) (t:=57) 57 (.tmp 9) (.tmp 15) rfl ?_;refine gl (.bool true) (ay ?_)
  rw[aG];have hz:af (w5.alloc (.cells s.cells 57)) W.heap.size av 57:=af.below hr (bZ.alloc aQ _);have hs:af (w5.alloc (.cells s.cells 57)) w5.heap.size s.cells 57:=heap_alloc_new w5 _;have Xd:Below W.heap.size W (w5.alloc (.cells s.cells 57)):=hB.alloc hB.size _;clear hr hB;generalize (w5.alloc (.cells s.cells 57))=wa at *;generalize w5.heap.size=sb at *;have h5:∀ w',Below W.heap.size W w'->w'.cell? ⟨tb,5,none⟩=some (.i t.w):=fun w' hb=>(H.out.below hb).cell 5
  have hnx:=hnx wa.drew ((H.out.below Xd.drew).laid);have hBd:=Xd.drew;go_upto_region 4 with(fail);refine jr (S:=fun w'=>Below W.heap.size W w') (by exact hBd) (fun hHeld=>?_);refine tH 1 22 hHeld ?_;refine tH 2 23 hHeld ?_;refine tH 3 24 hHeld ?_;refine tH 4 25 hHeld ?_;refine tH 5 26 hHeld ?_;refine Vp 0 21 (show af wa.drew sb s.cells 57 from hs) 57 (.tmp 9) underlying57 hHeld (ay ?_)
  refine mP (i:=6) 72 #[.tmp 21,.tmp 22,.tmp 26,.const (.i 0)] #[57,3,3,3] (some 27) none #[s.val,.i d,.i t.w,.i 0] (aH func72) ?_;refine hnx.mono ?_;rintro e w6 ⟨rfl,hb6⟩;have kS:=hBd.trans (hb6.mono hBd.size);have hz6:af w6 W.heap.size av 57:=af.below (w:=wa.drew) hz hb6;have hs6:af w6 sb s.cells 57:=af.below (w:=wa.drew) hs hb6;clear hz hs hnx hb6 Xd hBd;refine⟨_,rfl,kS,fun hHeld=>ay ?_⟩
  refine tH 7 20 hHeld ?_;refine tH 8 28 hHeld ?_;refine tH 9 29 hHeld ?_;refine Vq 10 hs6 (N.getD S.zero).cells 57 (.tmp 9) (.tmp 28) (bX hHeld ag _) (ay ?_)
  refine VR 11 10 (bX hHeld ag _) (ay ?_)
  refine iR ?_;have hs7:af (w6.setRow sb (N.getD S.zero).cells) sb (N.getD S.zero).cells 57:=hs6.set _;have F9:af (w6.setRow sb (N.getD S.zero).cells) W.heap.size av 57:=(setRow_other _ _ _ _ ag).trans hz6;have kN:Below W.heap.size W (w6.setRow sb (N.getD S.zero).cells):=bX hHeld ag _;generalize (w6.setRow sb (N.getD S.zero).cells)=wb at *;clear hs6 hz6 kS hHeld
  cases N with
  | none=>
   simp only[Option.getD_none,Option.isSome_none,wG]at *;go_upto_region 6 with(fail);refine wp_region_lit ?_;refine gl (.agg Zs) ?_;refine uR F9 Zs 57 (.tmp 6) (.tmp 32) ?_;go_wp2_with fail;refine ZN W.heap.size (F9.set Zs) underlying57 ?_;exact⟨rfl,bX kN aQ _⟩
  | some n=>
   simp only[Option.getD_some,Option.isSome_some,wG]at *;have hen:=fP wb n ((H.out.below kN).laid) (hnr n rfl);go_upto_region 7 with(fail);refine wp_region_lit ?_;refine grow hs7 57 (.tmp 9) underlying57 (ay ?_)
   refine pM 73 #[.tmp 34] #[57] #[n.val] (aH func73) ?_;refine hen.mono ?_;rintro e w8 ⟨rfl,cZ⟩;refine⟨_,rfl,?_⟩;have Sg:af w8 sb n.cells 57:=af.below hs7 cZ;have hz8:af w8 W.heap.size av 57:=af.below F9 cZ;have SL:=kN.trans (cZ.mono kN.size);clear hs7 F9 kN hen cZ;go_upto_region 8 with(fail);refine wp_region_lit ?_;refine grow Sg 57 (.tmp 9) underlying57 ?_;refine gl (.i n.word) ?_;refine gl (.bool true) (ay ?_)
   refine uR hz8 n.cells 57 (.tmp 6) (.tmp 38) ?_;go_wp2_with fail;refine ZN W.heap.size (hz8.set _) underlying57 ?_;exact⟨rfl,bX SL aQ _⟩
variable {tb mb wb:Nat} {lo ro:Option Nat} {ws:List Int} {tc:Int}
theorem jk.same {W:World} {t:Tk.Tk} (h:bz W tb mb wb lo ro t ws tc) {W':World} {aC:List Int} {eX:Int} {v:Value} {e:Ending} (he:e=.returned v) (h':bz W' tb mb wb lo ro t aC eX) (hc:aD (fun k=>jo tb lo ro k\/dJ mb wb k) W W'):jk W tb mb wb lo ro v t aC eX e W':=
 ⟨he,lo,ro,h',Grow.refl,Grow.refl,hc⟩
theorem EM {W:World} {t:Tk.Tk} (h:bz W tb mb wb lo ro t ws tc) (i:Nat) (word:Int) (d:Nat) (hd:gD d) (hN:nx word d t.w 0=none):
  Calls prog 264 #[ptr tb,ptr mb,.i i,.i word,.i d] W (jk W tb mb wb lo ro (.bool false) t ws tc):=by
 have iJ:=kL h word d hd;rw[hN]at iJ;simp only[Option.getD_none,Option.isSome_none,wG]at iJ;have H:=uH h;clear h
 go_enter func264,ntmps264
 go_wp2_with fail;refine iJ.mono ?_;rintro e w5 ⟨rfl,hb5⟩;clear iJ;dsimp only;go_step;refine gl (.tuple #[S.zero.val,.i 0,.bool false]) ?_;refine gl S.zero.val ?_;refine gl (.i 0) ?_;refine gl (.bool false) ?_;refine dU (ob:=.cells av 57) (Z:=av) (cs:=S.zero.cells) (t:=57) 57 (.tmp 11) (.tmp 19) rfl ?_;refine gl (.i 0) ?_;refine gl (.bool false) (ay ?_)
 rw[aG];have hB:Below W.heap.size W (w5.alloc (.cells S.zero.cells 57)):=hb5.alloc hb5.size _;generalize (w5.alloc (.cells S.zero.cells 57))=wa at *;clear hb5;go_wp2_with fail;go_ret;exact jk.same H.out rfl (H.out.below hB) (aD.aF hB)
theorem Mr {W:World} {t:Tk.Tk} (h:bz W tb mb wb lo ro t ws tc) (hc:Small t.cf) (ht:0<=tc/\tc<=4000000000000000000) (i:Nat) (hi:i < Tk.ns t.cf) (hlen:Tk.sc t.cf i < ws.length) (word:Int) (d:Nat) (hd:gD d) {s:S} (hN:nx word d t.w 0=some s) (hx:Tk.rd ws (Tk.sc t.cf i)=word):
  Calls prog 264 #[ptr tb,ptr mb,.i i,.i word,.i d] W (jk W tb mb wb lo ro (.bool true) {t with i:=i,word:=s.word,gen:=s.gen} (ws.set (Tk.sc t.cf i) s.word) (tc+1)):=by
 have iJ:=kL h word d hd;rw[hN]at iJ;simp only[Option.getD_some,Option.isSome_some,wG]at iJ;have hsl:=fun W=>bg W t.cf i hc.w ⟨by have:=hc.s;unfold Tk.ns at hi;omega,hc.s.2⟩
 have hsc:(3+2 * t.cf.workers+(i:Int))=((Tk.sc t.cf i:Nat):Int):=by have:=hc.w;unfold Tk.sc;omega
 simp only[hsc,aj.Cf.val,aj.Cf.cells]at hsl;have hrd:=rd_some hlen;rw[hx]at hrd;have hcs:=fun W (h:bB W mb wb ws tc)=>jv h ht (Tk.sc t.cf i) word hrd s.word
 have H:=uH h;have hml:=h.mem.lt;have htl:=h.lt;clear h hrd
 go_enter func264,ntmps264
 go_wp2_with fail;refine iJ.mono ?_;rintro e w5 ⟨rfl,hb5⟩;clear iJ;dsimp only;go_step;refine gl (.tuple #[s.val,.i s.word,.bool true]) ?_;refine gl s.val ?_;refine gl (.i s.word) ?_;refine gl (.bool true) ?_;refine dU (ob:=.cells av 57) (Z:=av) (cs:=s.cells) (t:=57) 57 (.tmp 11) (.tmp 19) rfl ?_;refine gl (.i s.word) ?_;refine gl (.bool true) (ay ?_)
 rw[aG];have hB:Below W.heap.size W (w5.alloc (.cells s.cells 57)):=hb5.alloc hb5.size _;have hs:af (w5.alloc (.cells s.cells 57)) w5.heap.size s.cells 57:=heap_alloc_new w5 _;have hsb:=hb5.size;generalize (w5.alloc (.cells s.cells 57))=wa at *;generalize w5.heap.size=sb at *;clear hb5;have ha:=H.out.below hB;obtain⟨c0,c1,c2,c3,c4⟩:=cQ t.cf ha.cell;have Ha:=uH ha;clear ha;go_wp2_with fail;refine(hsl _).mono ?_;rintro e w6 ⟨rfl,hb6⟩;have h6:=Ha.out.below hb6;have hs6:af w6 sb s.cells 57:=af.below hs hb6;have kS:=hB.trans (hb6.mono hB.size);have Ms:=hcs w6 h6.mem;have H6:=uH h6;clear h6 hs hb6 hsl hcs c0 c1 c2 c3 c4;go_wp2_with fail;refine Ms.mono ?_;rintro e w7 ⟨rfl,qQ,eY⟩;have h7:=H6.out.bU eY qQ;have hC:aD (fun k=>jo tb lo ro k\/dJ mb wb k) W w7:=(aD.aF (F:=fun k=>jo tb lo ro k\/dJ mb wb k) kS).trans eY (fun _ _ e=>.inr e)
 have hs7:af w7 sb s.cells 57:=(eY.block _ (af.lt hs6) (fun e=>e.elim (fun e=>ag) (fun e=>ag))).trans hs6;have d8:=cC t.i (h7.cell 8);have d9:=cC t.word (h7.cell 9);have d10:=cC t.gen (h7.cell 10);have Zm:=h7.frozen 8;have df9:=h7.frozen 9;have ZV:=h7.frozen 10;have s6:=cC s.gen (af.cell hs7 6);have hne:sb≠tb:=ag
 have H7:=uH h7;have HC:=uH hC;clear h7 Ms hs6 hs7 qQ eY hC kS;go_wp2_with fail;go_region;go_wp2_with fail;go_ret;have hfin:=((H7.out.put 8 (.i i) {t with i:=i} rfl rfl rfl rfl).put 9 (.i s.word) {t with i:=i,word:=s.word} rfl rfl rfl rfl).put 10 (.i s.gen) {t with i:=i,word:=s.word,gen:=s.gen} rfl rfl rfl rfl;refine⟨rfl,lo,ro,hfin.below bY,Grow.refl,Grow.refl,?_⟩;exact(((HC.out.setCell ⟨tb,8,none⟩ _ (fun _=>.inl (.inl rfl))).setCell ⟨tb,9,none⟩ _ (fun _=>.inl (.inl rfl))).setCell ⟨tb,10,none⟩ _ (fun _=>.inl (.inl rfl))).drew
theorem Mt {W:World} {t:Tk.Tk} (h:bz W tb mb wb lo ro t ws tc) (hc:Small t.cf) (ht:0<=tc/\tc<=4000000000000000000) (i:Nat) (hi:i < Tk.ns t.cf) (hlen:Tk.sc t.cf i < ws.length) (word:Int) (d:Nat) (hd:gD d) {s:S} (hN:nx word d t.w 0=some s) (hx:Tk.rd ws (Tk.sc t.cf i)≠word):
  Calls prog 264 #[ptr tb,ptr mb,.i i,.i word,.i d] W (jk W tb mb wb lo ro (.bool false) t ws (tc+1)):=by
 have iJ:=kL h word d hd;rw[hN]at iJ;simp only[Option.getD_some,Option.isSome_some,wG]at iJ;have hsl:=fun W=>bg W t.cf i hc.w ⟨by have:=hc.s;unfold Tk.ns at hi;omega,hc.s.2⟩
 have hsc:(3+2 * t.cf.workers+(i:Int))=((Tk.sc t.cf i:Nat):Int):=by have:=hc.w;unfold Tk.sc;omega
 simp only[hsc,aj.Cf.val,aj.Cf.cells]at hsl;have hrd:=rd_some hlen;generalize Tk.rd ws (Tk.sc t.cf i)=x at *;have hcs:=fun W (h:bB W mb wb ws tc)=>jw h ht (Tk.sc t.cf i) x hrd word s.word hx
 have H:=uH h;have hml:=h.mem.lt;have htl:=h.lt;clear h hrd
 go_enter func264,ntmps264
 go_wp2_with fail;refine iJ.mono ?_;rintro e w5 ⟨rfl,hb5⟩;clear iJ;dsimp only;go_step;refine gl (.tuple #[s.val,.i s.word,.bool true]) ?_;refine gl s.val ?_;refine gl (.i s.word) ?_;refine gl (.bool true) ?_;refine dU (ob:=.cells av 57) (Z:=av) (cs:=s.cells) (t:=57) 57 (.tmp 11) (.tmp 19) rfl ?_;refine gl (.i s.word) ?_;refine gl (.bool true) (ay ?_)
 rw[aG];have hB:Below W.heap.size W (w5.alloc (.cells s.cells 57)):=hb5.alloc hb5.size _;have hs:af (w5.alloc (.cells s.cells 57)) w5.heap.size s.cells 57:=heap_alloc_new w5 _;have hsb:=hb5.size;generalize (w5.alloc (.cells s.cells 57))=wa at *;generalize w5.heap.size=sb at *;clear hb5;have ha:=H.out.below hB;obtain⟨c0,c1,c2,c3,c4⟩:=cQ t.cf ha.cell;have Ha:=uH ha;clear ha;go_wp2_with fail;refine(hsl _).mono ?_;rintro e w6 ⟨rfl,hb6⟩;have h6:=Ha.out.below hb6;have hs6:af w6 sb s.cells 57:=af.below hs hb6;have kS:=hB.trans (hb6.mono hB.size);have Ms:=hcs w6 h6.mem;have H6:=uH h6;clear h6 hs hb6 hsl hcs c0 c1 c2 c3 c4;go_wp2_with fail;refine Ms.mono ?_;rintro e w7 ⟨rfl,qQ,eY⟩;have h7:=H6.out.bU eY qQ;have hC:aD (fun k=>jo tb lo ro k\/dJ mb wb k) W w7:=(aD.aF (F:=fun k=>jo tb lo ro k\/dJ mb wb k) kS).trans eY (fun _ _ e=>.inr e)
 have hs7:af w7 sb s.cells 57:=(eY.block _ (af.lt hs6) (fun e=>e.elim (fun e=>ag) (fun e=>ag))).trans hs6;have H7:=uH h7;have HC:=uH hC;clear h7 Ms hs6 hs7 qQ eY hC kS;go_wp2_with fail;go_ret;exact jk.same H.out rfl H7.out HC.out
theorem pE {W:World} {t:Tk.Tk} (h:bz W tb mb wb lo ro t ws tc) (hc:Small t.cf) (ht:0<=tc/\tc<=4000000000000000000) (i:Nat) (hi:i < Tk.ns t.cf) (hlen:Tk.sc t.cf i < ws.length) (word:Int) (d:Nat) (hd:gD d):
  Calls prog 264 #[ptr tb,ptr mb,.i i,.i word,.i d] W (jk W tb mb wb lo ro (.bool (t.swap i word d ws).1) (t.swap i word d ws).2.1 (t.swap i word d ws).2.2.1 (tc+(t.swap i word d ws).2.2.2)):=by
 have e:t.swap i word d ws=match nx word d t.w 0 with
  | some s=>if Tk.rd ws (Tk.sc t.cf i)=word then (true,{t with i:=i,word:=s.word,gen:=s.gen},ws.set (Tk.sc t.cf i) s.word,1) else (false,t,ws,1)
  | none=>(false,t,ws,0):=rfl
 rw[e]
 cases hN:nx word d t.w 0 with
 | none=>simpa using EM h i word d hd hN
 | some s=>
  dsimp only
  by_cases hx:Tk.rd ws (Tk.sc t.cf i)=word
  ·rw[if_pos hx];exact Mr h hc ht i hi hlen word d hd hN hx
  ·rw[if_neg hx];exact Mt h hc ht i hi hlen word d hd hN hx
end Cl
namespace Cl
open Go.RowKit Hp Slot ah ai
variable {W:World} {tb mb wb:Nat} {lo ro:Option Nat} {ws:List Int} {tc:Int}
theorem bz.jh {t:Tk.Tk} (h:bz W tb mb wb lo ro t ws tc) {b:Nat} (hb:W.heap.size<=b):Apart b mb wb/\b≠tb/\ro≠some b/\lo≠some b:=by
 have h1:=h.mem.lt;have h2:=h.lt;have h0:0 < W.heap.size:=h.laid.lt aT;refine⟨⟨ag,ag,ag,h.ap.m0,h.ap.w0⟩,ag,fun e=>?_,fun e=>?_⟩
 ·have:=(h.ra b e).2.2;omega
 ·have:=(h.la b e).2.2;omega
theorem Jb {fb:Nat} {c:aj.Cf} {f:Tk.Fd} (hL:Laid W) (h:bQ W fb c f) (hm:bB W mb wb ws tc) (hc:Small c) (ha:Apart fb mb wb) (ht:0<=tc/\tc<=4000000000000000000)
  (hf:Tk.lF c f) (hlen:ws.length=3+2 * c.workers.toNat+Tk.ns c):
  Calls prog 163 #[ptr fb,ptr mb] W (uk W fb mb wb c ws tc (f.step c ws)):=by
 by_cases hI:f.found=true\/Tk.ns c<=f.at'
 ·exact vR h hm hc hI
 ·simp only[not_or]at hI;have hlt:Tk.sc c f.at' < ws.length:=by unfold Tk.sc;omega
  have hx:ws[Tk.sc c f.at']? =some ws[Tk.sc c f.at']:=List.getElem?_eq_getElem hlt;exact Dq hL h hm hc ha ht (by have:=hf.1;omega) (by simpa using hI.1) ag hx
theorem rest_step {t:Tk.Tk} (h:bz W tb mb wb lo ro t ws tc) (good:Bool):Calls prog 240 #[ptr tb,ptr mb,.bool good] W (jk W tb mb wb lo ro (.tuple #[]) t ws tc):=by
 have H:=uH h;clear h
 go_enter func240,ntmps240
 first | go_end0 | (go_wp2_with fail;first | go_end0 | refine bP ?_)
 exact⟨rfl,lo,ro,H.out,Grow.refl,Grow.refl,aD.refl _ _⟩
theorem iL {t:Tk.Tk} (h:bz W tb mb wb lo ro t ws tc) (e:Int):Calls prog 259 #[ptr tb,.i e] W (jk W tb mb wb lo ro (.tuple #[]) (t.finish e) ws tc):=by
 have c6:=cC t.st (h.cell 6);have c9:=cC t.word (h.cell 9);have De:=h.frozen 6;have UO:=h.frozen 9;have c13:=cC t.e (h.cell 13);have RU:=h.frozen 13;have H:=uH h;clear h
 go_enter func259,ntmps259
 go_wp2_with fail
 first | go_end0 | refine bP ?_
 refine⟨rfl,lo,ro,(H.out.put 13 (.i e) {t with e:=e} rfl rfl rfl rfl).put 6 (.i 15) (t.finish e) rfl rfl rfl rfl,Grow.refl,Grow.refl,?_⟩;exact((aD.refl _ W).setCell ⟨tb,13,none⟩ _ (fun _=>.inl (.inl rfl))).setCell ⟨tb,6,none⟩ _ (fun _=>.inl (.inl rfl))
theorem nE {t:Tk.Tk} (h:bz W tb mb wb lo ro t ws tc) (st:Nat) (kind own:Int):Calls prog 260 #[ptr tb,.i st,.i kind,.i own] W (jk W tb mb wb lo ro (.tuple #[]) (t.search st kind own) ws tc):=by
 have hn:=fun W=>vT W t.cf kind own
 simp only[aj.Cf.val,aj.Cf.cells]at hn;obtain⟨c0,c1,c2,c3,c4⟩:=cQ t.cf h.cell;have c6:=cC t.st (h.cell 6);have c7:=cV (fJ lo) (h.cell 7);have De:=h.frozen 6;have cf7:=h.frozen 7;have H:=uH h;clear h
 go_enter func260,ntmps260
 go_wp2_with fail;refine(hn _).mono ?_;rintro e w5 ⟨fb,rfl,hF,hge,hb5⟩;have h5:=H.out.below hb5;have d6:=cC t.st (h5.cell 6);have d7:=cV (fJ lo) (h5.cell 7);have Df:=h5.frozen 6;have df7:=h5.frozen 7;have H5:=uH h5;have HF:=uH hF;have HB:=uH hb5;clear h5 hF hb5 hn c0 c1 c2 c3 c4 c6 c7 De cf7;go_wp2_with fail
 first | go_end0 | refine bP ?_
 obtain⟨n1,n2,n3,n4⟩:=H.out.jh hge;refine⟨rfl,some fb,ro,(H5.out.zQ HF.out n1 n2 n3).put 6 (.i st) (t.search st kind own) rfl rfl rfl rfl,.inr ⟨fb,rfl,hge⟩,Grow.refl,?_⟩;exact((aD.aF (F:=fun k=>jo tb lo ro k\/dJ mb wb k) HB.out).setCell ⟨tb,7,none⟩ _ (fun _=>.inl (.inl rfl))).setCell ⟨tb,6,none⟩ _ (fun _=>.inl (.inl rfl))
theorem rV {t:Tk.Tk} (h:bz W tb mb wb lo ro t ws tc) (hok:Tk.dR t ws) (ht:0<=tc/\tc<=4000000000000000000) (h1:1<=t.st) (h8:t.st<=8):
  Calls prog 261 #[ptr tb,ptr mb] W (jk W tb mb wb lo ro (.tuple #[.bool (t.dz ws).1,.bool (t.dz ws).2.1]) (t.dz ws).2.2.1 ws (tc+(t.dz ws).2.2.2)):=by
 obtain⟨f,hl,-⟩:=hok.has h1 h8;obtain⟨fb,rfl,hF⟩:=h.look f hl;have hA:=h.la fb rfl;rw[Tk.jP hl];have hst:=Jb h.laid hF h.mem ⟨hok.c.w,hok.c.s⟩ hA.1 ht (hok.look f hl) hok.len;clear hF;generalize f.step t.cf ws=q at *;obtain⟨b,f',n⟩:=q;dsimp only at *;have c7:=cP fb (h.cell 7);have H:=uH h;clear h
 go_enter func261,ntmps261
 go_wp2_with fail;refine hst.mono ?_;rintro e w5 ⟨rfl,uS,gq,dS⟩;have h5:=H.out.jI rfl dS uS gq;have d7:=cP fb (h5.cell 7);have hfo:=dV uS;have H5:=uH h5;have HC:=uH (dS.mono (G:=fun k=>jo tb (some fb) ro k\/dJ mb wb k) fun k _ e=>e.elim (fun e=>.inl (.inr (.inl (by rw[e])))) .inr);clear h5 hst c7 uS gq dS;cases hf:f'.found<;>rw[hf]at hfo<;>cases b
 all_goals
  go_wp2_with fail;refine hfo.mono ?_;rintro e w6 ⟨rfl,hb6⟩;clear hfo;go_wp2_with fail;go_ret2;exact⟨by(rw[hf];rfl),some fb,ro,H5.out.below hb6,Grow.refl,Grow.refl,HC.out.trans (aD.aF hb6) (fun _ _ e=>e)⟩
theorem qw {t:Tk.Tk} (h:bz W tb mb wb lo ro t ws tc):Calls prog 124 #[ptr tb] W fun e W'=>e=.returned (.tuple #[.i t.answer.1,.i t.answer.2.1,.i t.answer.2.2])/\Below W.heap.size W W':=by
 have c6:=cC t.st (h.cell 6);have c8:=cC t.i (h.cell 8);have c10:=cC t.gen (h.cell 10);have c13:=cC t.e (h.cell 13);clear h
 go_enter func124,ntmps124
 by_cases xE:t.st=15
 ·rw[xE]at c6
  by_cases he:t.e=0
  ·rw[he]at c13;go_wp2_with fail;go_region;go_wp2_with fail
   go_ret3
   exact⟨by simp[Tk.Tk.answer,xE,he],bY⟩
  ·go_wp2_with fail
   go_ret3
   exact⟨by simp[Tk.Tk.answer,xE,he],Below.refl _ _⟩
 ·have hz:¬ ((t.st:Int)=15):=ag
  go_wp2_with fail
  go_ret3
  exact⟨by simp[Tk.Tk.answer,xE],Below.refl _ _⟩
theorem nU (W:World) (c:aj.Cf) (w:Int):Calls prog 87 #[c.val,.i w] W fun e W'=>∃ tb,e=.returned (ptr tb)/\OP W' tb (Tk.Tk.new c w) none none/\W.heap.size<=tb/\Below W.heap.size W W':=by
 obtain⟨cw,cs,cst,jm,cu⟩:=c
 go_enter func87,ntmps87
 simp only[aj.Cf.val,aj.Cf.cells];go_wp2_with fail;go_ret;refine⟨W.heap.size+1,rfl,?_,ag,(bZ.alloc aQ _).alloc au _⟩;exact heap_alloc2_new _ _ _
theorem zH (W:World) (c:aj.Cf) (w:Int) (i:Nat):Calls prog 101 #[c.val,.i w,.i i] W fun e W'=>∃ tb,e=.returned (ptr tb)/\OP W' tb (Tk.Tk.granted c w i) none none/\W.heap.size<=tb/\Below W.heap.size W W':=by
 obtain⟨cw,cs,cst,jm,cu⟩:=c
 go_enter func101,ntmps101
 simp only[aj.Cf.val,aj.Cf.cells];go_wp2_with fail;go_ret;refine⟨W.heap.size+1,rfl,?_,ag,(bZ.alloc aQ _).alloc au _⟩;exact heap_alloc2_new _ _ _
end Cl
namespace Cl
open Go.RowKit Hp Slot ah ai
def dI (W:World) (tb mb wb:Nat) (lo ro:Option Nat) (t:Tk.Tk) (ws:List Int) (tc:Int) (good:Bool):Ending->World->Prop:=
 jk W tb mb wb lo ro (.tuple #[]) (t.step ws good).1 (t.step ws good).2.1 (tc+(t.step ws good).2.2)
variable {t:Tk.Tk} {ws:List Int}
theorem og (hok:Tk.dR t ws) {i:Nat} (hi:i < Tk.ns t.cf):Tk.sc t.cf i < ws.length:=by have:=hok.len;unfold Tk.sc;omega
theorem Rl (hok:Tk.dR t ws):0 < ws.length:=by have:=hok.len;omega
variable {W:World} {tb mb wb:Nat} {lo ro:Option Nat} {tc:Int}
theorem tY (h:bz W tb mb wb lo ro t ws tc) (hc:Small t.cf) (ht:0<=tc/\tc<=4000000000000000000) {f:Tk.Fd} (hl:t.look=some f) (hf:f.found=true) (hi:f.at' < Tk.ns t.cf) (hlen:Tk.sc t.cf f.at' < ws.length) (d:Nat) (hd:gD d):
  Calls prog 262 #[ptr tb,ptr mb,.i d] W (jk W tb mb wb lo ro (.bool (t.di d ws).1) (t.di d ws).2.1 (t.di d ws).2.2.1 (tc+(t.di d ws).2.2.2)):=by
 obtain⟨fb,rfl,hF⟩:=h.look f hl;have iV:t.fd=f:=by unfold Tk.Tk.fd;rw[hl];rfl
 have hfo:=dV hF;rw[hf,if_pos rfl]at hfo;have hsw:=fun w h=>pE (W:=w) (lo:=some fb) (ro:=ro) (tb:=tb) (mb:=mb) (wb:=wb) (t:=t) (ws:=ws) (tc:=tc) h hc ht f.at' hi hlen f.word d hd
 have hse:t.di d ws=if (t.swap f.at' f.word d ws).1 then t.swap f.at' f.word d ws else (false,{(t.swap f.at' f.word d ws).2.1 with look:=some (t.swap f.at' f.word d ws).2.1.fd.again},(t.swap f.at' f.word d ws).2.2):=by unfold Tk.Tk.di;rw[iV]
 have hst:=Tk.iY t f.at' f.word d ws;rw[hse];clear hse;generalize t.swap f.at' f.word d ws=q at *;obtain⟨b,t',aC,n⟩:=q;dsimp only at *;have c7:=cP fb (h.cell 7);have H:=uH h;clear h;cases b
 focus
  have ht':t'=t:=by
   rcases hst with⟨x,g,-,e⟩ | ⟨e,-⟩
   ·cases e
   ·exact e
  subst ht';rw[if_neg au,iV]
 rotate_left
 focus
  rw[if_pos rfl]
 rotate_left
 all_goals
  dsimp only
  go_enter func262,ntmps262
  go_wp2_with fail;refine hfo.mono ?_;rintro e w5 ⟨rfl,hb5⟩;have hS:=hsw w5 (H.out.below hb5);clear hfo hsw c7;go_wp2_with fail;refine hS.mono ?_;rintro e w6 ⟨rfl,nN,nM,h6,r6⟩;have q6:=(TR.refl.below hb5).trans r6
 ·obtain⟨Pz,rfl,CJ⟩:=h6.look f hl;have d7:=cP Pz (h6.cell 7);have hag:=oH CJ;have H6:=uH h6;have Q6:=uH q6;clear hS r6 q6 h6 CJ hb5;go_wp2_with fail;refine hag.mono ?_;rintro e w7 ⟨rfl,um,eY⟩;have hA:=H6.out.la Pz rfl;have h7:=H6.out.jI rfl (eY.mono (G:=fun k=>k=Pz\/dJ mb wb k) (fun _ _ e=>.inl e)) um (H6.out.mem.aK eY (fun e=>hA.1.m e.symm) (fun e=>hA.1.w e.symm));have q7:=Q6.out.aK eY (fun k e=>.inl (.inr (.inl (by rw[e]))));have H7:=uH h7;have Q7:=uH q7;clear h7 q7 hag um eY d7;go_wp2_with fail;go_ret;exact⟨rfl,some Pz,nM,H7.out,Q7.out⟩
 ·have H6:=uH h6;have Q6:=uH q6;clear hS r6 q6 h6 hb5;go_wp2_with fail;go_ret;exact⟨rfl,nN,nM,H6.out,Q6.out⟩
theorem Mk (h:bz W tb mb wb lo ro t ws tc) (hok:Tk.dR t ws) (ht:0<=tc/\tc<=4000000000000000000) (hk:t.st=0) (good:Bool):Calls prog 225 #[ptr tb,ptr mb,.bool good] W (dI W tb mb wb lo ro t ws tc good):=by
 unfold dI;have hx:=rd_some (Rl hok);have hld:Calls prog 56 #[ptr mb,.i 0] W _:=aU h.mem ht 0 _ hx;rw[Tk.BM hk];generalize Tk.rd ws 0=x at *;have H:=uH h;clear h hx
 by_cases hz:x=0
 focus
  subst hz
  try rw[if_neg au]
  dsimp only
  go_enter func225,ntmps225
  go_wp2_with fail;refine hld.mono ?_;rintro e w5 ⟨rfl,gq,dS⟩;have h5:=H.out.bU dS gq;have q5:=(TR.refl (W:=W) (tb:=tb) (mb:=mb) (wb:=wb) (lo:=lo) (ro:=ro)).mem dS;have d5:=cC t.w (h5.cell 5);have hcl:=nE h5 1 0 t.w
 rotate_left
 focus
  have hz2:=hz;rw[if_pos hz];dsimp only
  go_enter func225,ntmps225
  go_wp2_with fail;refine hld.mono ?_;rintro e w5 ⟨rfl,gq,dS⟩;have h5:=H.out.bU dS gq;have q5:=(TR.refl (W:=W) (tb:=tb) (mb:=mb) (wb:=wb) (lo:=lo) (ro:=ro)).mem dS;have hcl:=iL h5 5
 rotate_left
 all_goals
  have Q5:=uH q5;clear q5;go_wp2_with fail;refine hcl.mono ?_;rintro e w6 ⟨rfl,nN,nM,h6,r6⟩;have H6:=uH h6;have Q6:=uH (Q5.out.trans r6);clear hcl h6 r6;go_wp2_with fail
  first | go_end0 | refine bP ?_
  exact⟨rfl,nN,nM,H6.out,Q6.out⟩
theorem PD (h:bz W tb mb wb lo ro t ws tc) (hok:Tk.dR t ws) (ht:0<=tc/\tc<=4000000000000000000) (hk:t.st=10) (good:Bool):Calls prog 235 #[ptr tb,ptr mb,.bool good] W (dI W tb mb wb lo ro t ws tc good):=by
 unfold dI;have hx:=rd_some (Rl hok);have hld:Calls prog 56 #[ptr mb,.i 0] W _:=aU h.mem ht 0 _ hx;rw[Tk.uy hk];generalize Tk.rd ws 0=x at *;have H:=uH h;clear h hx
 by_cases hz:x=0
 focus
  subst hz
  try rw[if_pos rfl]
 rotate_left
 focus
  have hz2:=hz;rw[if_neg hz]
 rotate_left
 all_goals
  dsimp only
  go_enter func235,ntmps235
  go_wp2_with fail;refine hld.mono ?_;rintro e w5 ⟨rfl,gq,dS⟩;have h5:=H.out.bU dS gq;have q5:=(TR.refl (W:=W) (tb:=tb) (mb:=mb) (wb:=wb) (lo:=lo) (ro:=ro)).mem dS
 ·have hcl:=iL h5 0;have Q5:=uH q5;clear q5;go_wp2_with fail;refine hcl.mono ?_;rintro e w6 ⟨rfl,nN,nM,h6,r6⟩;have H6:=uH h6;have Q6:=uH (Q5.out.trans r6);clear hcl h6 r6;go_wp2_with fail
  first | go_end0 | refine bP ?_
  exact⟨rfl,nN,nM,H6.out,Q6.out⟩
 ·have d6:=cC t.st (h5.cell 6);have Df:=h5.frozen 6;have H5:=uH h5;have Q5:=uH q5;clear h5 q5 gq dS;go_wp2_with fail
  first | go_end0 | refine bP ?_
  exact⟨rfl,lo,ro,H5.out.put 6 (.i 11) {t with st:=11} rfl rfl rfl rfl,Q5.out.set 6 _⟩
theorem Xe (h:bz W tb mb wb lo ro t ws tc) (hok:Tk.dR t ws) (ht:0<=tc/\tc<=4000000000000000000) (hk:t.st=1) (good:Bool):Calls prog 226 #[ptr tb,ptr mb,.bool good] W (dI W tb mb wb lo ro t ws tc good):=by
 unfold dI;have hsk:=rV h hok ht ag ag;rw[Tk.BN hk];have hw:(t.dz ws).2.2.1.w=t.w:=rfl;generalize t.dz ws=q at *;obtain⟨b1,b2,t',n⟩:=q;dsimp only at *
 try rw[<- hw]
 have H:=uH h;clear h hw;cases b1
 focus
  rw[if_neg au];cases b2
 focus
  rw[if_neg au]
 rotate_left
 focus
  rw[if_pos rfl]
 rotate_left
 focus
  rw[if_pos rfl]
 rotate_left
 all_goals
  dsimp only
  go_enter func226,ntmps226
  go_wp2_with fail;refine hsk.mono ?_;rintro e w5 ⟨rfl,jZ,iE,h5,r5⟩;have q5:TR W tb mb wb lo ro w5 jZ iE:=r5
 ·have H5:=uH h5;clear h5 r5 hsk;go_wp2_with fail
  first | go_end0 | refine bP ?_
  exact⟨rfl,jZ,iE,H5.out,q5⟩
 ·have d5:=cC t'.w (h5.cell 5);have hcl:=nE h5 3 1 t'.w;have Q5:=uH q5;clear q5;go_wp2_with fail;refine hcl.mono ?_;rintro e w6 ⟨rfl,nN,nM,h6,r6⟩;have H6:=uH h6;have Q6:=uH (Q5.out.trans r6);clear hcl h6 r6;go_wp2_with fail
  first | go_end0 | refine bP ?_
  exact⟨rfl,nN,nM,H6.out,Q6.out⟩
 ·have d6:=cC t'.st (h5.cell 6);have Df:=h5.frozen 6;have H5:=uH h5;have Q5:=uH q5;clear h5 r5 q5 hsk;go_wp2_with fail
  first | go_end0 | refine bP ?_
  exact⟨rfl,jZ,iE,H5.out.put 6 (.i 2) {t' with st:=2} rfl rfl rfl rfl,Q5.out.set 6 _⟩
theorem Xf (h:bz W tb mb wb lo ro t ws tc) (hok:Tk.dR t ws) (ht:0<=tc/\tc<=4000000000000000000) (hk:t.st=3) (good:Bool):Calls prog 228 #[ptr tb,ptr mb,.bool good] W (dI W tb mb wb lo ro t ws tc good):=by
 unfold dI;have hsk:=rV h hok ht ag ag;rw[Tk.BP hk];have hw:(t.dz ws).2.2.1.w=t.w:=rfl;generalize t.dz ws=q at *;obtain⟨b1,b2,t',n⟩:=q;dsimp only at *
 try rw[<- hw]
 have H:=uH h;clear h hw;cases b1
 focus
  rw[if_neg au];cases b2
 focus
  rw[if_neg au]
 rotate_left
 focus
  rw[if_pos rfl]
 rotate_left
 focus
  rw[if_pos rfl]
 rotate_left
 all_goals
  dsimp only
  go_enter func228,ntmps228
  go_wp2_with fail;refine hsk.mono ?_;rintro e w5 ⟨rfl,jZ,iE,h5,r5⟩;have q5:TR W tb mb wb lo ro w5 jZ iE:=r5
 ·have H5:=uH h5;clear h5 r5 hsk;go_wp2_with fail
  first | go_end0 | refine bP ?_
  exact⟨rfl,jZ,iE,H5.out,q5⟩
 ·have d5:=cC t'.w (h5.cell 5);have hcl:=nE h5 7 2 t'.w;have Q5:=uH q5;clear q5;go_wp2_with fail;refine hcl.mono ?_;rintro e w6 ⟨rfl,nN,nM,h6,r6⟩;have H6:=uH h6;have Q6:=uH (Q5.out.trans r6);clear hcl h6 r6;go_wp2_with fail
  first | go_end0 | refine bP ?_
  exact⟨rfl,nN,nM,H6.out,Q6.out⟩
 ·have d6:=cC t'.st (h5.cell 6);have Df:=h5.frozen 6;have H5:=uH h5;have Q5:=uH q5;clear h5 r5 q5 hsk;go_wp2_with fail
  first | go_end0 | refine bP ?_
  exact⟨rfl,jZ,iE,H5.out.put 6 (.i 4) {t' with st:=4} rfl rfl rfl rfl,Q5.out.set 6 _⟩
theorem Uj (h:bz W tb mb wb lo ro t ws tc) (hok:Tk.dR t ws) (ht:0<=tc/\tc<=4000000000000000000) (hk:t.st=7) (good:Bool):Calls prog 232 #[ptr tb,ptr mb,.bool good] W (dI W tb mb wb lo ro t ws tc good):=by
 unfold dI;have hsk:=rV h hok ht ag ag;rw[Tk.BU hk];have hw:(t.dz ws).2.2.1.w=t.w:=rfl;generalize t.dz ws=q at *;obtain⟨b1,b2,t',n⟩:=q;dsimp only at *
 try rw[<- hw]
 have H:=uH h;clear h hw;cases b1
 focus
  rw[if_neg au];cases b2
 focus
  rw[if_neg au]
 rotate_left
 focus
  rw[if_pos rfl]
 rotate_left
 focus
  rw[if_pos rfl]
 rotate_left
 all_goals
  dsimp only
  go_enter func232,ntmps232
  go_wp2_with fail;refine hsk.mono ?_;rintro e w5 ⟨rfl,jZ,iE,h5,r5⟩;have q5:TR W tb mb wb lo ro w5 jZ iE:=r5
 ·have H5:=uH h5;clear h5 r5 hsk;go_wp2_with fail
  first | go_end0 | refine bP ?_
  exact⟨rfl,jZ,iE,H5.out,q5⟩
 ·have d5:=cC t'.w (h5.cell 5);have hcl:=iL h5 3;have Q5:=uH q5;clear q5;go_wp2_with fail;refine hcl.mono ?_;rintro e w6 ⟨rfl,nN,nM,h6,r6⟩;have H6:=uH h6;have Q6:=uH (Q5.out.trans r6);clear hcl h6 r6;go_wp2_with fail
  first | go_end0 | refine bP ?_
  exact⟨rfl,nN,nM,H6.out,Q6.out⟩
 ·have d6:=cC t'.st (h5.cell 6);have Df:=h5.frozen 6;have H5:=uH h5;have Q5:=uH q5;clear h5 r5 q5 hsk;go_wp2_with fail
  first | go_end0 | refine bP ?_
  exact⟨rfl,jZ,iE,H5.out.put 6 (.i 8) {t' with st:=8} rfl rfl rfl rfl,Q5.out.set 6 _⟩
theorem Jc (h:bz W tb mb wb lo ro t ws tc) (hok:Tk.dR t ws) (ht:0<=tc/\tc<=4000000000000000000) (hk:t.st=2) (good:Bool):Calls prog 227 #[ptr tb,ptr mb,.bool good] W (dI W tb mb wb lo ro t ws tc good):=by
 unfold dI;obtain⟨f,hl,hfo⟩:=hok.has ag ag;have hf:=hfo ag;have hat:=(hok.look f hl).2.2 hf;have h1:=h.put 6 (.i 1) {t with st:=1} rfl rfl rfl rfl;have hz:=tY h1 ⟨hok.c.w,hok.c.s⟩ ht hl hf hat (og hok hat) 3 (by simp[gD]);rw[Tk.BO hk];generalize Tk.Tk.di {t with st:=1} 3 ws=q at *;obtain⟨b,t',aC,n⟩:=q;dsimp only at *;have c6:=cC t.st (h.cell 6);have De:=h.frozen 6;clear h h1;cases b
 focus
  rw[if_neg au]
 rotate_left
 focus
  rw[if_pos rfl]
 rotate_left
 all_goals
  go_enter func227,ntmps227
  go_wp2_with fail;refine hz.mono ?_;rintro e w5 ⟨rfl,jZ,iE,h5,r5⟩;have q5:=((TR.refl (W:=W) (tb:=tb) (mb:=mb) (wb:=wb) (lo:=lo) (ro:=ro)).set 6 (.i 1)).trans r5
 ·have H5:=uH h5;have Q5:=uH q5;clear h5 r5 q5 hz c6 De;go_wp2_with fail
  first | go_end0 | refine bP ?_
  exact⟨rfl,jZ,iE,H5.out,Q5.out⟩
 ·have d6:=cC t'.st (h5.cell 6);have Df:=h5.frozen 6;have H5:=uH h5;have Q5:=uH q5;clear h5 r5 q5 hz c6 De;go_wp2_with fail
  first | go_end0 | refine bP ?_
  exact⟨rfl,jZ,iE,H5.out.put 6 (.i 10) {t' with st:=10} rfl rfl rfl rfl,Q5.out.set 6 _⟩
theorem EK (h:bz W tb mb wb lo ro t ws tc) (hok:Tk.dR t ws) (ht:0<=tc/\tc<=4000000000000000000) (hk:t.st=8) (good:Bool):Calls prog 233 #[ptr tb,ptr mb,.bool good] W (dI W tb mb wb lo ro t ws tc good):=by
 unfold dI;obtain⟨f,hl,hfo⟩:=hok.has ag ag;have hf:=hfo ag;have hat:=(hok.look f hl).2.2 hf;have h1:=h.put 6 (.i 7) {t with st:=7} rfl rfl rfl rfl;have hz:=tY h1 ⟨hok.c.w,hok.c.s⟩ ht hl hf hat (og hok hat) 0 (by simp[gD]);rw[Tk.BV hk];generalize Tk.Tk.di {t with st:=7} 0 ws=q at *;obtain⟨b,t',aC,n⟩:=q;dsimp only at *;have c6:=cC t.st (h.cell 6);have De:=h.frozen 6;clear h h1;cases b
 focus
  rw[if_neg au]
 rotate_left
 focus
  rw[if_pos rfl]
 rotate_left
 all_goals
  go_enter func233,ntmps233
  go_wp2_with fail;refine hz.mono ?_;rintro e w5 ⟨rfl,jZ,iE,h5,r5⟩;have q5:=((TR.refl (W:=W) (tb:=tb) (mb:=mb) (wb:=wb) (lo:=lo) (ro:=ro)).set 6 (.i 7)).trans r5
 ·have H5:=uH h5;have Q5:=uH q5;clear h5 r5 q5 hz c6 De;go_wp2_with fail
  first | go_end0 | refine bP ?_
  exact⟨rfl,jZ,iE,H5.out,Q5.out⟩
 ·have d6:=cC t'.st (h5.cell 6);have Df:=h5.frozen 6;have H5:=uH h5;have Q5:=uH q5;clear h5 r5 q5 hz c6 De;go_wp2_with fail
  first | go_end0 | refine bP ?_
  exact⟨rfl,jZ,iE,H5.out.put 6 (.i 9) {t' with st:=9} rfl rfl rfl rfl,Q5.out.set 6 _⟩
end Cl
namespace Cl
open Go.RowKit Hp Slot ah ai
theorem Jd {t:Tk.Tk} {d:Nat} {ws:List Int} (h:(t.di d ws).1=true):∃ s,dec t.fd.word=some s:=by
 cases hd:dec t.fd.word with
 | some s=>exact⟨s,rfl⟩
 | none=>
  have e:(t.swap t.fd.at' t.fd.word d ws).1=false:=by unfold Tk.Tk.swap;rw[hd];rfl
  unfold Tk.Tk.di at h;simp[e]at h
theorem Je {W:World} {tb mb wb:Nat} {lo ro:Option Nat} {t:Tk.Tk} {ws:List Int} {tc:Int} (h:bz W tb mb wb lo ro t ws tc) (hok:Tk.dR t ws) (ht:0<=tc/\tc<=4000000000000000000) (hk:t.st=4) (good:Bool):Calls prog 229 #[ptr tb,ptr mb,.bool good] W (dI W tb mb wb lo ro t ws tc good):=by
 unfold dI;obtain⟨f,hl,hfo⟩:=hok.has ag ag;have hf:=hfo ag;have hat:=(hok.look f hl).2.2 hf;obtain⟨fb,rfl,hF⟩:=h.look f hl;have iV:t.fd=f:=by unfold Tk.Tk.fd;rw[hl];rfl
 have hfn:=dV hF;rw[hf,if_pos rfl]at hfn;have hz:=fun w (h:bz w tb mb wb (some fb) ro t ws tc)=>tY (h.put 6 (.i 3) {t with st:=3} rfl rfl rfl rfl) ⟨hok.c.w,hok.c.s⟩ ht hl hf hat (og hok hat) 3 (by simp[gD])
 have hde:=Jd (t:={t with st:=3}) (d:=3) (ws:=ws);have hw:=(Tk.Ml {t with st:=3} 3 ws).2;rw[Tk.BQ hk,iV];have Xg:Tk.Tk.fd {t with st:=3}=f:=iV;rw[Xg]at hde;generalize Tk.Tk.di {t with st:=3} 3 ws=q at *;obtain⟨b,t',aC,n⟩:=q;dsimp only at *;rw[<- hw];have c6:=cC t.st (h.cell 6);have De:=h.frozen 6;have c7:=cP fb (h.cell 7);have H:=uH h;clear h hw iV Xg hF hl;cases b
 focus
  rw[if_neg au]
 rotate_left
 focus
  rw[if_pos rfl];obtain⟨s,hs⟩:=hde rfl;rw[hs];dsimp only;have hdc:=fun w hL=>aS w f.word hL
  rw[hs]at hdc;simp only[Option.getD_some,Option.isSome_some]at hdc;clear hde hs
  by_cases ho:s.own=t'.w
 focus
  rw[if_neg (by simpa using ho)];dsimp only
 rotate_left
 focus
  rw[if_pos (by simpa using ho)];dsimp only
 rotate_left
 all_goals
  go_enter func229,ntmps229
  go_wp2_with fail;refine hfn.mono ?_;rintro e w5 ⟨rfl,hb5⟩;have h5:=H.out.below hb5;have hS:=hz w5 h5;have d6:=cC t.st (h5.cell 6);have Df:=h5.frozen 6;clear h5 hfn hz c6 c7 De;go_wp2_with fail;refine hS.mono ?_;rintro e w6 ⟨rfl,nN,nM,h6,r6⟩;have q6:=(((TR.refl (W:=W) (tb:=tb) (mb:=mb) (wb:=wb) (lo:=some fb) (ro:=ro)).below hb5).set 6 (.i 3)).trans r6;clear hb5 hS r6 d6 Df
 ·have H6:=uH h6;have Q6:=uH q6;clear h6 q6;go_wp2_with fail
  first | go_end0 | refine bP ?_
  exact⟨rfl,nN,nM,H6.out,Q6.out⟩
 rotate_left;rotate_left
 all_goals
  have h7:=h6.put 6 (.i 10) {t' with st:=10} rfl rfl rfl rfl;have hD:=hdc _ h7.laid;have q7:=q6.set 6 (.i 10);have e6:=cC t'.st (h6.cell 6);have Yk:=h6.frozen 6;have H7:=uH h7;have Q7:=uH q7;clear h6 h7 q6 q7 hdc;go_wp2_with fail;refine hD.mono ?_;rintro e w8 ⟨rfl,cZ⟩;have h8:=H7.out.below cZ;have q8:=Q7.out.below cZ;clear hD cZ e6 Yk;dsimp only;go_step;refine gl (.tuple #[s.val,.bool true]) ?_;refine gl s.val ?_;refine gl (.bool true) ?_;refine dU (ob:=.cells av 57) (Z:=av) (cs:=s.cells) (t:=57) 57 (.tmp 9) (.tmp 33) rfl ?_;refine gl (.bool true) (ay ?_)
  rw[aG];have dm:Below w8.heap.size w8 (w8.alloc (.cells s.cells 57)):=bZ.alloc aQ _;have fe:af (w8.alloc (.cells s.cells 57)) w8.heap.size s.cells 57:=heap_alloc_new w8 _;have h9:=h8.below dm;have q9:=q8.below dm;have hsb:w8.heap.size≠tb:=by have:=h8.lt;omega
  generalize (w8.alloc (.cells s.cells 57))=w9 at *;generalize w8.heap.size=sb at *;have g5:=cC t'.w (h9.cell 5);have g6:=cC 10 (h9.cell 6);have g11:=cV (.bool t'.passes) (h9.cell 11);have aa1:=h9.frozen 11;have s1:=cC s.own (af.cell fe 1);have H9:=uH h9;have Q9:=uH q9;clear h8 q8 h9 q9 dm fe
 ·rw[ho]at s1;go_wp2_with fail;go_region;go_wp2_with fail
  first | go_end0 | refine bP ?_
  exact⟨rfl,nN,nM,H9.out.below bY,Q9.out.below bY⟩
 ·have ho2:(s.own == t'.w)=false:=by simpa using ho
  have ho3:(s.own != t'.w)=true:=by simpa using ho
  have h10:=(H9.out.below bY).put 11 (.bool false) {t' with st:=10,passes:=false} rfl rfl rfl rfl;have qV:=(Q9.out.below bY).set 11 (.bool false);have hcl:=nE h10 5 0 s.own;have zb:=uH qV;clear h10 qV;go_wp2_with fail;go_region;go_wp2_with fail;refine hcl.mono ?_;rintro e kU ⟨rfl,ZO,ZP,h11,QN⟩;have pV:=uH h11;have xF:=uH (zb.out.trans QN);clear hcl h11 QN;go_wp2_with fail
  first | go_end0 | refine bP ?_
  exact⟨rfl,ZO,ZP,pV.out,xF.out⟩
theorem Un {W:World} {tb mb wb:Nat} {lo ro:Option Nat} {t:Tk.Tk} {ws:List Int} {tc:Int} (h:bz W tb mb wb lo ro t ws tc) (hok:Tk.dR t ws) (ht:0<=tc/\tc<=4000000000000000000) (hk:t.st=5) (good:Bool):Calls prog 230 #[ptr tb,ptr mb,.bool good] W (dI W tb mb wb lo ro t ws tc good):=by
 unfold dI;obtain⟨f,hl,-⟩:=hok.has ag ag;have hsk:=rV h hok ht ag ag;have Xh:=(hok.look f hl).step ws;have hsl:=hok.c.s;rw[Tk.BR hk];rw[Tk.jP hl]at hsk ⊢;generalize f.step t.cf ws=q at *;obtain⟨b2,f',n⟩:=q;dsimp only at *;have hat:f'.at'<=1000:=by have:=Xh.2.1;unfold Tk.ns at this;omega
 have H:=uH h;clear h Xh hsl
 skip
 cases hf:f'.found
 focus
  rw[if_neg (by simp[hf]),if_neg (by simp[hf])];rw[hf]at hsk;cases b2
 focus
  rw[if_neg au]
 rotate_left
 focus
  rw[if_pos (by simp[hf])]
 rotate_left
 focus
  rw[hf]at hsk;cases hp:t.passes
 focus
  rw[if_neg (by simp[hp]),if_pos rfl]
 rotate_left
 focus
  rw[if_pos (by simp[hp])]
 rotate_left
 all_goals
  dsimp only
  go_enter func230,ntmps230
  go_wp2_with fail;refine hsk.mono ?_;rintro e w5 ⟨rfl,jZ,iE,h5,r5⟩;have q5:TR W tb mb wb lo ro w5 jZ iE:=r5
 rotate_left;rotate_left;rotate_left
 focus
  obtain⟨fb,rfl,uS⟩:=h5.look f' rfl;have hne:=(h5.la fb rfl).2.1
 rotate_left
 all_goals
  have d6:=cV (.i ({t with look:=some f'}:Tk.Tk).st) (h5.cell 6)
 focus
  have d11:=cV (.bool ({t with look:=some f'}:Tk.Tk).passes) (h5.cell 11);have Df:=h5.frozen 6;have H5:=uH h5;have Q5:=uH q5;clear h5 r5 q5 hsk
 rotate_left
 focus
  have d11:=cV (.bool ({t with look:=some f'}:Tk.Tk).passes) (h5.cell 11);have Df:=h5.frozen 6;have H5:=uH h5;have Q5:=uH q5;clear h5 r5 q5 hsk
 rotate_left
 focus
  have d11:=cV (.bool false) ((h5.cell 11).trans (by show some (Value.bool t.passes)=_;rw[hp]));have Df:=h5.frozen 6;have ZQ:=h5.frozen 11;have H5:=uH h5;have Q5:=uH q5;clear h5 r5 q5 hsk
 rotate_left
 focus
  have d11:=cV (.bool true) ((h5.cell 11).trans (by show some (Value.bool t.passes)=_;rw[hp]));have Df:=h5.frozen 6;have ZQ:=h5.frozen 11;have d7:=cP fb (h5.cell 7);have h6:=h5.put 11 (.bool false) {t with look:=some f',passes:=false} rfl rfl rfl rfl;have q6:=q5.set 11 (.bool false);obtain⟨Pz,ZR,CJ⟩:=h6.look f' rfl;cases ZR;have hcl:=sI CJ hat;have H6:=uH h6;have Q6:=uH q6;clear h5 h6 r5 q5 q6 hsk uS CJ;go_wp2_with fail;refine hcl.mono ?_;rintro e w7 ⟨rfl,um,eY⟩;have hA:=H6.out.la fb rfl;have h7:=H6.out.jI rfl (eY.mono (G:=fun k=>k=fb\/dJ mb wb k) (fun _ _ e=>.inl e)) um (H6.out.mem.aK eY (fun e=>hA.1.m e.symm) (fun e=>hA.1.w e.symm));have q7:=Q6.out.aK eY (fun k e=>.inl (.inr (.inl (by rw[e]))));have H7:=uH h7;have Q7:=uH q7;clear h7 q7 hcl um eY d7
 rotate_left
 all_goals
  go_wp2_with fail
  first | go_end0 | refine bP ?_
 ·exact⟨rfl,jZ,iE,H5.out,Q5.out⟩
 ·exact⟨rfl,jZ,iE,H5.out.put 6 (.i 10) {t with look:=some f',st:=10} rfl rfl rfl rfl,Q5.out.set 6 _⟩
 ·exact⟨rfl,jZ,iE,(H5.out.put 11 (.bool true) {t with look:=some f',passes:=true} rfl rfl rfl rfl).put 6 (.i 6) {t with look:=some f',passes:=true,st:=6} rfl rfl rfl rfl,(Q5.out.set 11 _).set 6 _⟩
 ·exact⟨rfl,some fb,iE,H7.out,Q7.out⟩
theorem Mm (w:Int) (d:Nat) (own more:Int):Tk.bn w d own more=(nx w d own more).map S.word:=by
 unfold Tk.bn nx;cases dec w<;>rfl
theorem EL {W:World} {tb mb wb:Nat} {lo ro:Option Nat} {t:Tk.Tk} {ws:List Int} {tc:Int} (h:bz W tb mb wb lo ro t ws tc) (hok:Tk.dR t ws) (ht:0<=tc/\tc<=4000000000000000000) (hk:t.st=6) (good:Bool):Calls prog 231 #[ptr tb,ptr mb,.bool good] W (dI W tb mb wb lo ro t ws tc good):=by
 unfold dI;obtain⟨f,hl,hfo⟩:=hok.has ag ag;have hf:=hfo ag;have Xh:=hok.look f hl;have hi:=Xh.2.2 hf;have hlen:=og hok hi;have hc:Small t.cf:=⟨hok.c.w,hok.c.s⟩
 obtain⟨fb,rfl,hF⟩:=h.look f hl;have iV:t.fd=f:=by unfold Tk.Tk.fd;rw[hl];rfl
 have hfn:=dV hF;rw[hf,if_pos rfl]at hfn;have hat:f.at'<=1000:=by have:=Xh.2.1;have:=hc.s;unfold Tk.ns at *;omega
 have iJ:=fun w (h:bz w tb mb wb (some fb) ro t ws tc)=>kL h f.word 9 (by simp[gD])
 rw[Tk.BS hk,iV,Mm];have c7:=cP fb (h.cell 7);have H:=uH h;clear h hF
 cases hN:nx f.word 9 t.w 0 with
 | none=>
  dsimp only[Option.map_none];rw[show tc+((0:Nat):Int)=tc by simp]
  go_enter func231,ntmps231
  go_wp2_with fail;refine hfn.mono ?_;rintro e w5 ⟨rfl,hb5⟩;have h5:=H.out.below hb5;have q5:=(TR.refl (W:=W) (tb:=tb) (mb:=mb) (wb:=wb) (lo:=some fb) (ro:=ro)).below hb5;have hS:=iJ w5 h5;rw[hN]at hS;simp only[Option.getD_none,Option.isSome_none,Option.getD_some,Option.isSome_some,wG]at hS;clear hfn iJ c7 hb5;go_wp2_with fail;refine hS.mono ?_;rintro e w6 ⟨rfl,hb6⟩;have h6:=h5.below hb6;have q6:=q5.below hb6;clear hS hb6 h5 q5;dsimp only;go_step;refine gl (.tuple #[S.zero.val,.i 0,.bool false]) ?_;refine gl S.zero.val ?_;refine gl (.i 0) ?_;refine gl (.bool false) ?_;refine dU (ob:=.cells av 57) (Z:=av) (cs:=S.zero.cells) (t:=57) 57 (.tmp 9) (.tmp 25) rfl ?_;refine gl (.i 0) ?_;refine gl (.bool false) (ay ?_)
  rw[aG];have cB:Below w6.heap.size w6 (w6.alloc (.cells S.zero.cells 57)):=bZ.alloc aQ _;have h7:=h6.below cB;have q7:=q6.below cB;generalize (w6.alloc (.cells S.zero.cells 57))=w7 at *;have d7:=cP fb (h7.cell 7);have H7:=uH h7;have Q7:=uH q7;clear h6 q6 h7 q7 cB;obtain⟨fbx,Uo,Xi⟩:=H7.out.look f hl;cases Uo;have hcl:=sI Xi hat;clear Xi;go_wp2_with fail;refine hcl.mono ?_;rintro e wg ⟨rfl,hFg,PE⟩;have hA:=H7.out.la fb rfl;have hg:=H7.out.jI rfl (PE.mono (G:=fun k=>k=fb\/dJ mb wb k) (fun _ _ e=>.inl e)) hFg (H7.out.mem.aK PE (fun e=>hA.1.m e.symm) (fun e=>hA.1.w e.symm));have qg:=Q7.out.aK PE (fun k e=>.inl (.inr (.inl (by rw[e]))));have g6:=cC t.st (hg.cell 6);have Yl:=hg.frozen 6;have HG:=uH hg;have QG:=uH qg;clear hg qg hcl hFg PE;go_wp2_with fail
  first | go_end0 | refine bP ?_
  exact⟨rfl,some fb,ro,HG.out.put 6 (.i 5) {t with look:=some f.go,st:=5} rfl rfl rfl rfl,QG.out.set 6 _⟩
 | some s=>
  dsimp only[Option.map_some];have hsl:=fun W=>bg W t.cf f.at' hc.w ⟨by have:=hc.s;unfold Tk.ns at hi;omega,hc.s.2⟩
  have hsc:(3+2 * t.cf.workers+(f.at':Int))=((Tk.sc t.cf f.at':Nat):Int):=by have:=hc.w;unfold Tk.sc;omega
  simp only[hsc,aj.Cf.val,aj.Cf.cells]at hsl;clear hsc;have hrd:=rd_some hlen;unfold Tk.dF
  by_cases hx:Tk.rd ws (Tk.sc t.cf f.at')=f.word
  focus
   rw[if_pos hx];dsimp only;rw[hx]at hrd;have hcs:=fun W (h:bB W mb wb ws tc)=>jv h ht (Tk.sc t.cf f.at') f.word hrd s.word
  rotate_left
  focus
   rw[if_neg hx];dsimp only;generalize Tk.rd ws (Tk.sc t.cf f.at')=x at *;have hcs:=fun W (h:bB W mb wb ws tc)=>jw h ht (Tk.sc t.cf f.at') x hrd f.word s.word hx
  rotate_left
  all_goals
   go_enter func231,ntmps231
   go_wp2_with fail;refine hfn.mono ?_;rintro e w5 ⟨rfl,hb5⟩;have h5:=H.out.below hb5;have q5:=(TR.refl (W:=W) (tb:=tb) (mb:=mb) (wb:=wb) (lo:=some fb) (ro:=ro)).below hb5;have hS:=iJ w5 h5;rw[hN]at hS;simp only[Option.getD_none,Option.isSome_none,Option.getD_some,Option.isSome_some,wG]at hS;clear hfn iJ c7 hb5;go_wp2_with fail;refine hS.mono ?_;rintro e w6 ⟨rfl,hb6⟩;have h6:=h5.below hb6;have q6:=q5.below hb6;clear hS hb6 h5 q5;dsimp only;go_step;refine gl (.tuple #[s.val,.i s.word,.bool true]) ?_;refine gl s.val ?_;refine gl (.i s.word) ?_;refine gl (.bool true) ?_;refine dU (ob:=.cells av 57) (Z:=av) (cs:=s.cells) (t:=57) 57 (.tmp 9) (.tmp 25) rfl ?_;refine gl (.i s.word) ?_;refine gl (.bool true) (ay ?_)
   rw[aG];have cB:Below w6.heap.size w6 (w6.alloc (.cells s.cells 57)):=bZ.alloc aQ _;have h7:=h6.below cB;have q7:=q6.below cB;generalize (w6.alloc (.cells s.cells 57))=w7 at *;obtain⟨d0,d1,d2,d3,d4⟩:=cQ t.cf h7.cell;have H7:=uH h7;have Q7:=uH q7;clear h6 q6 h7 q7 cB hrd;go_wp2_with fail;refine(hsl _).mono ?_;rintro e w8 ⟨rfl,cZ⟩;have h8:=H7.out.below cZ;have q8:=Q7.out.below cZ;have hS8:=hcs w8 h8.mem;have H8:=uH h8;have Q8:=uH q8;clear h8 q8 hsl hcs cZ d0 d1 d2 d3 d4;go_wp2_with fail;refine hS8.mono ?_;rintro e w9 ⟨rfl,hM9,ZT⟩;have h9:=H8.out.bU ZT hM9;have q9:=Q8.out.mem ZT;have d7:=cP fb (h9.cell 7);have H9:=uH h9;have Q9:=uH q9;clear h9 q9 hS8 hM9 ZT;obtain⟨fbx,Uo,Xi⟩:=H9.out.look f hl;cases Uo;have hcl:=sI Xi hat;clear Xi;go_wp2_with fail;refine hcl.mono ?_;rintro e wg ⟨rfl,hFg,PE⟩;have hA:=H9.out.la fb rfl
   have hg:=H9.out.jI rfl (PE.mono (G:=fun k=>k=fb\/dJ mb wb k) (fun _ _ e=>.inl e)) hFg (H9.out.mem.aK PE (fun e=>hA.1.m e.symm) (fun e=>hA.1.w e.symm));have qg:=Q9.out.aK PE (fun k e=>.inl (.inr (.inl (by rw[e]))));have g6:=cC t.st (hg.cell 6);have Yl:=hg.frozen 6;have HG:=uH hg;have QG:=uH qg;clear hg qg hcl hFg PE;go_wp2_with fail
   first | go_end0 | refine bP ?_
   exact⟨rfl,some fb,ro,HG.out.put 6 (.i 5) {t with look:=some f.go,st:=5} rfl rfl rfl rfl,QG.out.set 6 _⟩
theorem Uk {W:World} {tb mb wb:Nat} {lo ro:Option Nat} {t:Tk.Tk} {ws:List Int} {tc:Int} (h:bz W tb mb wb lo ro t ws tc) (hok:Tk.dR t ws) (ht:0<=tc/\tc<=4000000000000000000) (hk:t.st=11) (good:Bool):Calls prog 236 #[ptr tb,ptr mb,.bool good] W (dI W tb mb wb lo ro t ws tc good):=by
 unfold dI;have hc:Small t.cf:=⟨hok.c.w,hok.c.s⟩
 have hi:=hok.i;have hlen:=og hok hok.i;have hsl:=fun W=>bg W t.cf t.i hc.w ⟨by have:=hc.s;unfold Tk.ns at hi;omega,hc.s.2⟩
 have hsc:(3+2 * t.cf.workers+(t.i:Int))=((Tk.sc t.cf t.i:Nat):Int):=by have:=hc.w;unfold Tk.sc;omega
 simp only[hsc,aj.Cf.val,aj.Cf.cells]at hsl;clear hsc;have hrd:=rd_some hlen;rw[Tk.uz hk];dsimp only;have hrn:=fun W x=>iG W t.cf t.i x hc hi
 simp only[aj.Cf.val,aj.Cf.cells]at hrn;generalize Tk.rd ws (Tk.sc t.cf t.i)=x at *;have hld:=fun W (h:bB W mb wb ws tc)=>aU h ht (Tk.sc t.cf t.i) x hrd
 have hdc:=fun W hL=>aS W x hL
 obtain⟨c0,c1,c2,c3,c4⟩:=cQ t.cf h.cell;have c8:=cC t.i (h.cell 8);have H:=uH h;clear h hrd hi
 cases yY:dec x with
 | none=>
  simp only[yY,Option.getD_none,Option.isSome_none,Option.getD_some,Option.isSome_some]at hdc;dsimp only;clear hrn
  go_enter func236,ntmps236
  go_wp2_with fail
  go_region_held3 (fun w'=>w'.cell? ⟨tb,0,none⟩=some (.i t.cf.workers)/\w'.cell? ⟨tb,1,none⟩=some (.i t.cf.slots)/\w'.cell? ⟨tb,2,none⟩=some (.i t.cf.streams)/\w'.cell? ⟨tb,3,none⟩=some (.i t.cf.waiters)/\w'.cell? ⟨tb,4,none⟩=some (.i t.cf.uses)/\w'.cell? ⟨tb,8,none⟩=some (.i t.i)) (first | go_keep | (refine⟨?_,?_,?_,?_,?_,?_⟩<;>first | assumption | (rw[World.cell?_setCell_other _ _ _ _ au];assumption)))
   ((first
   | (go_at_call 54;refine(hsl _).mono ?_;rintro e w6 ⟨rfl,hb6⟩;have h6:=(H.out.below bY).below hb6;obtain⟨d0,d1,d2,d3,d4⟩:=cQ t.cf h6.cell;have d8:=cC t.i (h6.cell 8))
   | (go_at_call 56;refine(hld _ h6.mem).mono ?_;rintro e w7 ⟨rfl,qQ,eY⟩;have h7:=h6.bU eY qQ;have k9:=h7.frozen 9;have Yj:=cC t.word (h7.cell 9);obtain⟨k0,k1,k2,k3,k4⟩:=cQ t.cf h7.cell;have k8:=cC t.i (h7.cell 8))))
  have q7:=(((TR.refl (W:=W) (tb:=tb) (mb:=mb) (wb:=wb) (lo:=lo) (ro:=ro)).below bY).below hb6).mem eY;have hD:=hdc w7 h7.laid;have H7:=uH h7;have Q7:=uH q7;clear h7 q7 h6 qQ eY hb6 hsl hld hdc k9 Yj d0 d1 d2 d3 d4 d8 c0 c1 c2 c3 c4 c8 k0 k1 k2 k3 k4 k8;go_wp2_with fail;refine hD.mono ?_;rintro e w8 ⟨rfl,cZ⟩;have h8:=H7.out.below cZ;have q8:=Q7.out.below cZ;dsimp only;go_step;refine gl (.tuple #[S.zero.val,.bool false]) ?_;refine gl S.zero.val ?_;refine gl (.bool false) ?_;refine dU (ob:=.cells av 57) (Z:=av) (cs:=S.zero.cells) (t:=57) 57 (.tmp 7) (.tmp 23) rfl ?_;refine gl (.bool false) (ay ?_)
  rw[aG];have dm:Below w8.heap.size w8 (w8.alloc (.cells S.zero.cells 57)):=bZ.alloc aQ _;have fe:af (w8.alloc (.cells S.zero.cells 57)) w8.heap.size S.zero.cells 57:=heap_alloc_new w8 _;have h9:=h8.below dm;have q9:=q8.below dm;generalize (w8.alloc (.cells S.zero.cells 57))=w9 at *;generalize w8.heap.size=sb at *;have g5:=cC t.w (h9.cell 5);have g10:=cC t.gen (h9.cell 10);have s0:=cC 0 (af.cell fe 0);have s1:=cC 0 (af.cell fe 1);have s6:=cC 0 (af.cell fe 6);have hcl:=iL (h9.below bY) 5;have Q9:=uH (q9.below bY);clear h9 q9 h8 q8 hD cZ dm fe;go_wp2_with fail;go_region;go_wp2_with fail;refine hcl.mono ?_;rintro e dH ⟨rfl,Ul,Um,h10,zy⟩;have uZ:=uH h10;have zb:=uH (Q9.out.trans zy);clear hcl h10 zy;go_wp2_with fail
  first | go_end0 | refine bP ?_
  exact⟨rfl,Ul,Um,uZ.out,zb.out⟩
 | some s=>
  simp only[yY,Option.getD_none,Option.isSome_none,Option.getD_some,Option.isSome_some]at hdc;dsimp only
  by_cases e3:s.state=3
  focus
   by_cases eo:s.own=t.w
  focus
   by_cases eg:s.gen=t.gen
  focus
   rw[if_pos ⟨e3,eo,eg⟩];dsimp only
  rotate_left
  focus
   rw[if_neg (by simp[eg])];dsimp only;clear hrn
  rotate_left
  focus
   rw[if_neg (by simp[eo])];dsimp only;clear hrn
  rotate_left
  focus
   rw[if_neg (by simp[e3])];dsimp only;clear hrn
  rotate_left
  all_goals
   go_enter func236,ntmps236
   go_wp2_with fail
   go_region_held3 (fun w'=>w'.cell? ⟨tb,0,none⟩=some (.i t.cf.workers)/\w'.cell? ⟨tb,1,none⟩=some (.i t.cf.slots)/\w'.cell? ⟨tb,2,none⟩=some (.i t.cf.streams)/\w'.cell? ⟨tb,3,none⟩=some (.i t.cf.waiters)/\w'.cell? ⟨tb,4,none⟩=some (.i t.cf.uses)/\w'.cell? ⟨tb,8,none⟩=some (.i t.i)) (first | go_keep | (refine⟨?_,?_,?_,?_,?_,?_⟩<;>first | assumption | (rw[World.cell?_setCell_other _ _ _ _ au];assumption)))
    ((first
    | (go_at_call 54;refine(hsl _).mono ?_;rintro e w6 ⟨rfl,hb6⟩;have h6:=(H.out.below bY).below hb6;obtain⟨d0,d1,d2,d3,d4⟩:=cQ t.cf h6.cell;have d8:=cC t.i (h6.cell 8))
    | (go_at_call 56;refine(hld _ h6.mem).mono ?_;rintro e w7 ⟨rfl,qQ,eY⟩;have h7:=h6.bU eY qQ;have k9:=h7.frozen 9;have Yj:=cC t.word (h7.cell 9);obtain⟨k0,k1,k2,k3,k4⟩:=cQ t.cf h7.cell;have k8:=cC t.i (h7.cell 8))))
   have q7:=(((TR.refl (W:=W) (tb:=tb) (mb:=mb) (wb:=wb) (lo:=lo) (ro:=ro)).below bY).below hb6).mem eY;have hD:=hdc w7 h7.laid;have H7:=uH h7;have Q7:=uH q7;clear h7 q7 h6 qQ eY hb6 hsl hld hdc k9 Yj d0 d1 d2 d3 d4 d8 c0 c1 c2 c3 c4 c8 k0 k1 k2 k3 k4 k8;go_wp2_with fail;refine hD.mono ?_;rintro e w8 ⟨rfl,cZ⟩;have h8:=H7.out.below cZ;have q8:=Q7.out.below cZ;dsimp only;go_step;refine gl (.tuple #[s.val,.bool true]) ?_;refine gl s.val ?_;refine gl (.bool true) ?_;refine dU (ob:=.cells av 57) (Z:=av) (cs:=s.cells) (t:=57) 57 (.tmp 7) (.tmp 23) rfl ?_;refine gl (.bool true) (ay ?_)
   rw[aG];have dm:Below w8.heap.size w8 (w8.alloc (.cells s.cells 57)):=bZ.alloc aQ _;have fe:af (w8.alloc (.cells s.cells 57)) w8.heap.size s.cells 57:=heap_alloc_new w8 _;have h9:=h8.below dm;have q9:=q8.below dm;generalize (w8.alloc (.cells s.cells 57))=w9 at *;generalize w8.heap.size=sb at *;have g5:=cC t.w (h9.cell 5);have g10:=cC t.gen (h9.cell 10)
  ·have s0:=cC 3 ((af.cell fe 0).trans (by show some (Value.int .i64 s.state)=_;first | rfl | rw[e3]));have s1:=cC t.w ((af.cell fe 1).trans (by show some (Value.int .i64 s.own)=_;first | rfl | rw[eo]));have s6:=cC t.gen ((af.cell fe 6).trans (by show some (Value.int .i64 s.gen)=_;first | rfl | rw[eg]));obtain⟨g0,g1,g2,g3,g4⟩:=cQ t.cf h9.cell;have g8:=cC t.i (h9.cell 8);have g12:=cV (fJ ro) (h9.cell 12);have aaZ:=h9.frozen 12;have HN:=uH hrn;have H9:=uH (h9.below bY);have Q9:=uH (q9.below bY);clear h9 q9 h8 q8 hD cZ dm fe hrn e3 eo eg;go_wp2_with fail;go_region;go_wp2_with fail
   go_region_held3 (fun w'=>w'.cell? ⟨tb,0,none⟩=some (.i t.cf.workers)/\w'.cell? ⟨tb,1,none⟩=some (.i t.cf.slots)/\w'.cell? ⟨tb,2,none⟩=some (.i t.cf.streams)/\w'.cell? ⟨tb,3,none⟩=some (.i t.cf.waiters)/\w'.cell? ⟨tb,4,none⟩=some (.i t.cf.uses)/\w'.cell? ⟨tb,8,none⟩=some (.i t.i)) (first | go_keep | (refine⟨?_,?_,?_,?_,?_,?_⟩<;>first | assumption | (rw[World.cell?_setCell_other _ _ _ _ au];assumption)))
    ((first
    | (go_at_call 221;refine(HN.out _ x).mono ?_;rintro e dH ⟨rb,rfl,hR,hge,jA⟩;have h10:=(H9.out.below bY).below jA;have k12:=cV (fJ ro) (h10.cell 12);have aa0:=h10.frozen 12;obtain⟨k0,k1,k2,k3,k4⟩:=cQ t.cf h10.cell;have k8:=cC t.i (h10.cell 8))))
   have qV:=(Q9.out.below bY).below jA;obtain⟨n1,n2,n3,n4⟩:=(H9.out.below bY).jh hge;have h11:=h10.mW hR n1 n2 n4;have xK:TR W tb mb wb lo ro (dH.setCell ⟨tb,12,none⟩ (ptr rb)) lo (some rb):=⟨qV.1,.inr ⟨rb,rfl,Nat.le_trans (show W.heap.size<=w9.heap.size from Q9.out.2.2.size) hge⟩,qV.2.2.setCell ⟨tb,12,none⟩ _ (fun _=>.inl (.inl rfl))⟩
   have m6:=cC t.st (h11.cell 6);have mf6:=h11.frozen 6;have pV:=uH h11;have xF:=uH xK;clear h10 qV h11 xK hR jA hge n1 n2 n3 n4;go_wp2_with fail
   first | go_end0 | refine bP ?_
   exact⟨rfl,lo,some rb,pV.out.put 6 (.i 12) {t with rt:=some (Tk.Rt.new (Tk.sc t.cf t.i) x),st:=12} rfl rfl rfl rfl,xF.out.set 6 _⟩
  focus
   have s0:=cC 3 ((af.cell fe 0).trans (by show some (Value.int .i64 s.state)=_;first | rfl | rw[e3]));have s1:=cC t.w ((af.cell fe 1).trans (by show some (Value.int .i64 s.own)=_;first | rfl | rw[eo]));have s6:=cC s.gen ((af.cell fe 6).trans (by show some (Value.int .i64 s.gen)=_;first | rfl | rw[eg]));have UW:(s.gen == t.gen)=false:=by simpa using eg
   have eg3:(s.gen != t.gen)=true:=by simpa using eg
  rotate_left
  focus
   have s0:=cC 3 ((af.cell fe 0).trans (by show some (Value.int .i64 s.state)=_;first | rfl | rw[e3]));have s1:=cC s.own ((af.cell fe 1).trans (by show some (Value.int .i64 s.own)=_;first | rfl | rw[eo]));have s6:=cC s.gen ((af.cell fe 6).trans (by show some (Value.int .i64 s.gen)=_;first | rfl | rw[eg]));have eo2:(s.own == t.w)=false:=by simpa using eo
   have eo3:(s.own != t.w)=true:=by simpa using eo
  rotate_left
  focus
   have s0:=cC s.state ((af.cell fe 0).trans (by show some (Value.int .i64 s.state)=_;first | rfl | rw[e3]));have s1:=cC s.own ((af.cell fe 1).trans (by show some (Value.int .i64 s.own)=_;first | rfl | rw[eo]));have s6:=cC s.gen ((af.cell fe 6).trans (by show some (Value.int .i64 s.gen)=_;first | rfl | rw[eg]));have e32:(s.state == 3)=false:=by simpa using e3
   have e33:(s.state != 3)=true:=by simpa using e3
  rotate_left
  all_goals
   have hcl:=iL (h9.below bY) 5;have Q9:=uH (q9.below bY);clear h9 q9 h8 q8 hD cZ dm fe;go_wp2_with fail;go_region;go_wp2_with fail;refine hcl.mono ?_;rintro e dH ⟨rfl,Ul,Um,h10,zy⟩;have uZ:=uH h10;have zb:=uH (Q9.out.trans zy);clear hcl h10 zy;go_wp2_with fail
   first | go_end0 | refine bP ?_
   exact⟨rfl,Ul,Um,uZ.out,zb.out⟩
end Cl
namespace Cl
open Go.RowKit Hp ah aj Tk
def zZ (t:Ty.Ty) (lo ro:Option Nat):Array Value:=#[.i t.cf.workers,.i t.cf.slots,.i t.cf.streams,.i t.cf.waiters,.i t.cf.uses,.i t.w,.i t.st,.i t.aJ,.i t.closed,.i t.queue,fJ lo,.i t.i,.i t.word,.i t.other,.i t.head,fJ ro]
def SA (W:World) (tb:Nat) (t:Ty.Ty) (lo ro:Option Nat):Prop:=af W tb (zZ t lo ro) 179
structure bu (W:World) (tb mb wb:Nat) (lo ro:Option Nat) (t:Ty.Ty) (ws:List Int) (tc:Int):Prop where
 row:SA W tb t lo ro
 look:∀ f,t.look=some f->∃ fb,lo=some fb/\bQ W fb t.cf f
 ret:∀ r,t.rt=some r->∃ rb,ro=some rb/\cK W rb r
 la:∀ b,lo=some b->Apart b mb wb/\b≠tb/\b < W.heap.size
 ra:∀ b,ro=some b->Apart b mb wb/\b≠tb/\b < W.heap.size
 lr:∀ a b,lo=some a->ro=some b->a≠b
 mem:bB W mb wb ws tc
 ap:Apart tb mb wb
 laid:Slot.Laid W
def kY (W:World) (tb mb wb:Nat) (lo ro:Option Nat) (v:Value) (t:Ty.Ty) (ws:List Int) (tc:Int) (e:Ending) (W':World):Prop:=
 e=.returned v/\∃ lo' ro',bu W' tb mb wb lo' ro' t ws tc/\Grow W lo lo'/\Grow W ro ro'/\aD (fun k=>jo tb lo ro k\/dJ mb wb k) W W'
section
variable {W W':World} {tb mb wb:Nat} {lo ro:Option Nat} {t:Ty.Ty} {ws:List Int} {tc:Int}
theorem bu.lt (h:bu W tb mb wb lo ro t ws tc):tb < W.heap.size:=af.lt h.row
theorem bu.cell (h:bu W tb mb wb lo ro t ws tc) (i:Nat):W.cell? ⟨tb,i,none⟩=(zZ t lo ro)[i]?:=af.cell h.row i
theorem bu.frozen (h:bu W tb mb wb lo ro t ws tc) (i:Nat):W.frozen? ⟨tb,i,none⟩=false:=af.frozen h.row i
variable {aC:List Int} {eX:Int}
theorem bu.aK {F:Nat->Prop} (h:bu W tb mb wb lo ro t ws tc) (hc:aD F W W') (h0:¬ F 0) (hF:∀ k,jo tb lo ro k->¬ F k) (hm:bB W' mb wb aC eX):bu W' tb mb wb lo ro t aC eX:=by
 have hs:=hc.size;refine⟨(hc.block _ h.lt (hF _ (.inl rfl))).trans h.row,?_,?_,?_,?_,h.lr,hm,h.ap,h.laid.stable (hc.block 0 (h.laid.lt aT) h0)⟩
 ·intro f hf;obtain⟨fb,h1,h2⟩:=h.look f hf;exact⟨fb,h1,h2.aK hc (hF _ (.inr (.inl h1)))⟩
 ·intro r hr;obtain⟨rb,h1,h2⟩:=h.ret r hr;exact⟨rb,h1,h2.aK hc (hF _ (.inr (.inr h1)))⟩
 ·intro b hb;obtain⟨h1,h2,h3⟩:=h.la b hb;exact⟨h1,h2,ag⟩
 ·intro b hb;obtain⟨h1,h2,h3⟩:=h.ra b hb;exact⟨h1,h2,ag⟩
theorem bu.below (h:bu W tb mb wb lo ro t ws tc) (hb:Below W.heap.size W W'):bu W' tb mb wb lo ro t ws tc:=by
 have hc:aD (fun _=>False) W W':=aD.aF hb;exact h.aK hc (fun e=>e) (fun _ _ e=>e) (h.mem.below hb)
theorem bu.bU (h:bu W tb mb wb lo ro t ws tc) (hc:aD (dJ mb wb) W W') (hm:bB W' mb wb aC eX):bu W' tb mb wb lo ro t aC eX:=by
 refine h.aK hc (fun e=>e.elim h.ap.m0 h.ap.w0) (fun k hk e=>?_) hm
 rcases hk with rfl | hk | hk
 ·exact e.elim h.ap.m h.ap.w
 ·exact e.elim (h.la k hk).1.m (h.la k hk).1.w
 ·exact e.elim (h.ra k hk).1.m (h.ra k hk).1.w
theorem bu.put (h:bu W tb mb wb lo ro t ws tc) (i:Nat) (v:Value) (t':Ty.Ty) (hrow:(zZ t lo ro).setIfInBounds i v=zZ t' lo ro) (hcf:t'.cf=t.cf) (hl:t'.look=t.look) (hr:t'.rt=t.rt):bu (W.setCell ⟨tb,i,none⟩ v) tb mb wb lo ro t' ws tc:=by
 have hc:aD (fun k=>k=tb) W (W.setCell ⟨tb,i,none⟩ v):=(aD.refl _ _).setCell _ _ (fun _=>rfl);have hs:=hc.size;refine⟨?_,?_,?_,?_,?_,h.lr,h.mem.far tb i v (fun e=>h.ap.m e.symm) (fun e=>h.ap.w e.symm),h.ap,h.laid.stable (hc.block 0 (h.laid.lt aT) h.ap.f0)⟩
 ·have:=af.aB h.row i v;rw[hrow]at this;exact this
 ·intro f hf;rw[hl]at hf;obtain⟨fb,h1,h2⟩:=h.look f hf;rw[hcf];exact⟨fb,h1,h2.aK hc (h.la fb h1).2.1⟩
 ·intro r hq;rw[hr]at hq;obtain⟨rb,h1,h2⟩:=h.ret r hq;exact⟨rb,h1,h2.aK hc (h.ra rb h1).2.1⟩
 ·intro b hb;obtain⟨h1,h2,h3⟩:=h.la b hb;exact⟨h1,h2,ag⟩
 ·intro b hb;obtain⟨h1,h2,h3⟩:=h.ra b hb;exact⟨h1,h2,ag⟩
theorem bu.zQ (h:bu W tb mb wb lo ro t ws tc) {fb:Nat} {f:Tk.Fd} (hf:bQ W fb t.cf f) (ha:Apart fb mb wb) (hne:fb≠tb) (hr:ro≠some fb):bu (W.setCell ⟨tb,10,none⟩ (ptr fb)) tb mb wb (some fb) ro {t with look:=some f} ws tc:=by
 have hc:aD (fun k=>k=tb) W (W.setCell ⟨tb,10,none⟩ (ptr fb)):=(aD.refl _ _).setCell _ _ (fun _=>rfl);have hs:=hc.size;refine⟨af.aB h.row 10 _,?_,?_,?_,?_,?_,h.mem.far tb 10 _ (fun e=>h.ap.m e.symm) (fun e=>h.ap.w e.symm),h.ap,h.laid.stable (hc.block 0 (h.laid.lt aT) h.ap.f0)⟩
 ·intro f' hf';cases hf';exact⟨fb,rfl,hf.aK hc hne⟩
 ·intro r hq;obtain⟨rb,h1,h2⟩:=h.ret r hq;exact⟨rb,h1,h2.aK hc (h.ra rb h1).2.1⟩
 ·intro b hb;cases hb;have:=hf.lt;exact⟨ha,hne,ag⟩
 ·intro b hb;obtain⟨h1,h2,h3⟩:=h.ra b hb;exact⟨h1,h2,ag⟩
 ·intro a b h1 h2 h3;cases h1;exact hr (by rw[h2,h3])
theorem bu.mW (h:bu W tb mb wb lo ro t ws tc) {rb:Nat} {r:Rt} (hf:cK W rb r) (ha:Apart rb mb wb) (hne:rb≠tb) (hr:lo≠some rb):bu (W.setCell ⟨tb,15,none⟩ (ptr rb)) tb mb wb lo (some rb) {t with rt:=some r} ws tc:=by
 have hc:aD (fun k=>k=tb) W (W.setCell ⟨tb,15,none⟩ (ptr rb)):=(aD.refl _ _).setCell _ _ (fun _=>rfl);have hs:=hc.size;refine⟨af.aB h.row 15 _,?_,?_,?_,?_,?_,h.mem.far tb 15 _ (fun e=>h.ap.m e.symm) (fun e=>h.ap.w e.symm),h.ap,h.laid.stable (hc.block 0 (h.laid.lt aT) h.ap.f0)⟩
 ·intro f hq;obtain⟨fb,h1,h2⟩:=h.look f hq;exact⟨fb,h1,h2.aK hc (h.la fb h1).2.1⟩
 ·intro f' hf';cases hf';exact⟨rb,rfl,hf.aK hc hne⟩
 ·intro b hb;obtain⟨h1,h2,h3⟩:=h.la b hb;exact⟨h1,h2,ag⟩
 ·intro b hb;cases hb;have:=hf.lt;exact⟨ha,hne,ag⟩
 ·intro a b h1 h2 h3;cases h2;exact hr (by rw[h1,h3])
theorem bu.jI (h:bu W tb mb wb lo ro t ws tc) {fb:Nat} (hl:lo=some fb) (hc:aD (fun k=>k=fb\/dJ mb wb k) W W') {f:Tk.Fd} (hf:bQ W' fb t.cf f) (hm:bB W' mb wb aC eX):bu W' tb mb wb lo ro {t with look:=some f} aC eX:=by
 have hs:=hc.size;have hA:=(h.la fb hl)
 refine⟨(hc.block _ h.lt (fun e=>e.elim (fun e=>hA.2.1 e.symm) fun e=>e.elim h.ap.m h.ap.w)).trans h.row,?_,?_,?_,?_,h.lr,hm,h.ap,h.laid.stable (hc.block 0 (h.laid.lt aT) (fun e=>e.elim hA.1.f0 fun e=>e.elim h.ap.m0 h.ap.w0))⟩
 ·intro f' hf';cases hf';exact⟨fb,hl,hf⟩
 ·intro r hq;obtain⟨rb,h1,h2⟩:=h.ret r hq;exact⟨rb,h1,h2.aK hc (fun e=>e.elim (fun e=>h.lr fb rb hl h1 e.symm) fun e=>e.elim (h.ra rb h1).1.m (h.ra rb h1).1.w)⟩
 ·intro b hb;obtain⟨h1,h2,h3⟩:=h.la b hb;exact⟨h1,h2,ag⟩
 ·intro b hb;obtain⟨h1,h2,h3⟩:=h.ra b hb;exact⟨h1,h2,ag⟩
theorem bu.lK (h:bu W tb mb wb lo ro t ws tc) {rb:Nat} (hl:ro=some rb) (hc:aD (fun k=>k=rb\/dJ mb wb k) W W') {r:Rt} (hf:cK W' rb r) (hm:bB W' mb wb aC eX):bu W' tb mb wb lo ro {t with rt:=some r} aC eX:=by
 have hs:=hc.size;have hA:=(h.ra rb hl)
 refine⟨(hc.block _ h.lt (fun e=>e.elim (fun e=>hA.2.1 e.symm) fun e=>e.elim h.ap.m h.ap.w)).trans h.row,?_,?_,?_,?_,h.lr,hm,h.ap,h.laid.stable (hc.block 0 (h.laid.lt aT) (fun e=>e.elim hA.1.f0 fun e=>e.elim h.ap.m0 h.ap.w0))⟩
 ·intro f hq;obtain⟨fb,h1,h2⟩:=h.look f hq;exact⟨fb,h1,h2.aK hc (fun e=>e.elim (fun e=>h.lr fb rb h1 hl e) fun e=>e.elim (h.la fb h1).1.m (h.la fb h1).1.w)⟩
 ·intro f' hf';cases hf';exact⟨rb,hl,hf⟩
 ·intro b hb;obtain⟨h1,h2,h3⟩:=h.la b hb;exact⟨h1,h2,ag⟩
 ·intro b hb;obtain⟨h1,h2,h3⟩:=h.ra b hb;exact⟨h1,h2,ag⟩
end
end Cl
namespace Cl
open Go.RowKit Hp Slot ah ai
variable {tb mb wb:Nat} {lo ro:Option Nat} {ws:List Int} {tc:Int}
theorem bu.jh {W:World} {t:Ty.Ty} (h:bu W tb mb wb lo ro t ws tc) {b:Nat} (hb:W.heap.size<=b):Apart b mb wb/\b≠tb/\ro≠some b/\lo≠some b:=by
 have h1:=h.mem.lt;have h2:=h.lt;have h0:0 < W.heap.size:=h.laid.lt aT;refine⟨⟨ag,ag,ag,h.ap.m0,h.ap.w0⟩,ag,fun e=>?_,fun e=>?_⟩
 ·have:=(h.ra b e).2.2;omega
 ·have:=(h.la b e).2.2;omega
theorem EX {W:World} {t:Ty.Ty} (h:bu W tb mb wb lo ro t ws tc):Calls prog 202 #[ptr tb,ptr mb] W (kY W tb mb wb lo ro (.tuple #[]) t ws tc):=by
 have H:=uH h;clear h
 go_enter func202,ntmps202
 first | go_end0 | (go_wp2_with fail;first | go_end0 | refine bP ?_)
 exact⟨rfl,lo,ro,H.out,Grow.refl,Grow.refl,aD.refl _ _⟩
theorem oo {W:World} {t:Ty.Ty} (h:bu W tb mb wb lo ro t ws tc) (st:Nat) (kind own:Int):Calls prog 242 #[ptr tb,.i st,.i kind,.i own] W (kY W tb mb wb lo ro (.tuple #[]) (t.search st kind own) ws tc):=by
 have hn:=fun W=>vT W t.cf kind own
 simp only[aj.Cf.val,aj.Cf.cells]at hn;obtain⟨c0,c1,c2,c3,c4⟩:=cQ t.cf h.cell;have H:=uH h;clear h
 go_enter func242,ntmps242
 go_wp2_with fail;refine(hn _).mono ?_;rintro e w5 ⟨fb,rfl,hF,hge,hb5⟩;have h5:=H.out.below hb5;have d6:=cC t.st (h5.cell 6);have d10:=cV (fJ lo) (h5.cell 10);have Df:=h5.frozen 6;have ZV:=h5.frozen 10;have H5:=uH h5;have HF:=uH hF;have HB:=uH hb5;clear h5 hF hb5 hn c0 c1 c2 c3 c4;go_wp2_with fail
 first | go_end0 | refine bP ?_
 obtain⟨n1,n2,n3,n4⟩:=H.out.jh hge;refine⟨rfl,some fb,ro,(H5.out.zQ HF.out n1 n2 n3).put 6 (.i st) (t.search st kind own) rfl rfl rfl rfl,.inr ⟨fb,rfl,hge⟩,Grow.refl,?_⟩;exact((aD.aF (F:=fun k=>jo tb lo ro k\/dJ mb wb k) HB.out).setCell ⟨tb,10,none⟩ _ (fun _=>.inl (.inl rfl))).setCell ⟨tb,6,none⟩ _ (fun _=>.inl (.inl rfl))
theorem tZ {W:World} {t:Ty.Ty} (h:bu W tb mb wb lo ro t ws tc) (hok:Ty.eH t ws.length) (ht:0<=tc/\tc<=4000000000000000000) (h1:3<=t.st) (h8:t.st<=14):
  Calls prog 243 #[ptr tb,ptr mb] W (kY W tb mb wb lo ro (.tuple #[.bool (t.dz ws).1,.bool (t.dz ws).2.1]) (t.dz ws).2.2.1 ws (tc+(t.dz ws).2.2.2)):=by
 obtain⟨f,hl⟩:=hok.has h1 h8;obtain⟨fb,rfl,hF⟩:=h.look f hl;have hA:=h.la fb rfl;rw[Ty.jP hl];have hst:=oF h.laid hF h.mem ⟨hok.c.w,hok.c.s⟩ hA.1 ht (hok.look f hl) hok.len;clear hF;generalize f.step t.cf ws=q at *;obtain⟨b,f',n⟩:=q;dsimp only at *;have c10:=cP fb (h.cell 10);have H:=uH h;clear h;cases iV:f'.found
 ·simp only[Bool.false_eq_true,if_false]
  go_enter func243,ntmps243
  go_wp2_with fail;refine hst.mono ?_;rintro e w5 ⟨rfl,uS,gq,dS⟩;have h5:=H.out.jI rfl dS uS gq;have d10:=cP fb (h5.cell 10);have hfo:=dV uS;rw[iV]at hfo;have H5:=uH h5;have HC:=uH (dS.mono (G:=fun k=>jo tb (some fb) ro k\/dJ mb wb k) fun k _ e=>e.elim (fun e=>.inl (.inr (.inl (by rw[e])))) .inr);clear h5 hst c10 uS gq dS;cases b
  all_goals
   go_wp2_with fail;refine hfo.mono ?_;rintro e w6 ⟨rfl,hb6⟩;clear hfo;go_wp2_with fail;go_ret2;exact⟨rfl,some fb,ro,H5.out.below hb6,Grow.refl,Grow.refl,HC.out.trans (aD.aF hb6) (fun _ _ e=>e)⟩
 ·simp only[if_true]
  go_enter func243,ntmps243
  go_wp2_with fail;refine hst.mono ?_;rintro e w5 ⟨rfl,uS,gq,dS⟩;have h5:=H.out.jI rfl dS uS gq;have d10:=cP fb (h5.cell 10);have hfo:=dV uS;rw[iV]at hfo;have H5:=uH h5;have HC:=uH (dS.mono (G:=fun k=>jo tb (some fb) ro k\/dJ mb wb k) fun k _ e=>e.elim (fun e=>.inl (.inr (.inl (by rw[e])))) .inr);clear h5 hst c10 uS gq dS;cases b
  all_goals
   go_wp2_with fail;refine hfo.mono ?_;rintro e w6 ⟨rfl,hb6⟩;have h6:=H5.out.below hb6;have e11:=cC t.i (h6.cell 11);have e12:=cC t.word (h6.cell 12);have aa2:=h6.frozen 11;have aa3:=h6.frozen 12;have H6:=uH h6;have C6:=uH (HC.out.trans (aD.aF hb6) (fun _ _ e=>e));clear hfo h6 hb6;go_wp2_with fail;go_ret2;exact⟨rfl,some fb,ro,(H6.out.put 11 (.i f'.at') {t with look:=some f',i:=f'.at'} rfl rfl rfl rfl).put 12 (.i f'.word) {t with look:=some f',i:=f'.at',word:=f'.word} rfl rfl rfl rfl,Grow.refl,Grow.refl,(C6.out.setCell ⟨tb,11,none⟩ _ (fun _=>.inl (.inl rfl))).setCell ⟨tb,12,none⟩ _ (fun _=>.inl (.inl rfl))⟩
theorem rY {W:World} {t:Ty.Ty} (h:bu W tb mb wb lo ro t ws tc) (hok:(t.w:Int) < t.cf.workers/\t.cf.workers<=8) (ho:-1<=t.other/\t.other < t.cf.workers):
  Calls prog 245 #[ptr tb] W (kY W tb mb wb lo ro (.bool t.another.1) t.another.2 ws tc):=by
 have c0:=cC t.cf.workers (h.cell 0);have c5:=cC t.w (h.cell 5);have c13:=cC t.other (h.cell 13);have RU:=h.frozen 13;have e1:wrap64 (t.other+1)=t.other+1:=by unfold wrap64;omega
 have e2:wrap64 (t.other+1+1)=t.other+2:=by unfold wrap64;omega
 have H:=uH h;have H1:=uH hok;have H2:=uH ho;clear h hok ho;unfold Ty.Ty.another Ty.Xl
 by_cases hq:t.other+1=t.w
 ·rw[if_pos hq];have hq2:(t.w:Int)+1=t.other+2:=ag
  have e3:wrap64 ((t.w:Int)+1)=t.other+2:=by rw[<- hq];exact e2
  rw[hq]at e1 e2
  go_enter func245,ntmps245
  go_wp2_with fail;go_region;go_wp2_with fail;go_region;go_wp2_with fail;go_ret;have eW:wrap64 (t.other+2)=t.other+2:=by have:=H1.out;have:=H2.out;unfold wrap64;omega
  rw[eW];have h1:=H.out.put 13 (.i t.w) {t with other:=t.w} rfl rfl rfl rfl;have h2:=h1.put 13 (.i (t.other+2)) {t with other:=t.other+2} rfl rfl rfl rfl;exact⟨rfl,lo,ro,(h2.below bY).below bY,Grow.refl,Grow.refl,((((aD.refl _ _).setCell ⟨tb,13,none⟩ _ (fun _=>.inl (.inl rfl))).setCell ⟨tb,13,none⟩ _ (fun _=>.inl (.inl rfl))).drew).drew⟩
 ·rw[if_neg hq];have hq2:(t.other+1 == (t.w:Int))=false:=by simpa using hq
  go_enter func245,ntmps245
  go_wp2_with fail;go_region;go_wp2_with fail;go_region;go_wp2_with fail;go_ret;have h1:=H.out.put 13 (.i (t.other+1)) {t with other:=t.other+1} rfl rfl rfl rfl;exact⟨rfl,lo,ro,(h1.below bY).below bY,Grow.refl,Grow.refl,(((aD.refl _ _).setCell ⟨tb,13,none⟩ _ (fun _=>.inl (.inl rfl))).drew).drew⟩
theorem vG {W:World} {t:Ty.Ty} (h:bu W tb mb wb lo ro t ws tc):
  Calls prog 249 #[ptr tb] W fun e W'=>e=.returned (.i t.is)/\Below W.heap.size W W':=by
 have hdc:=aS W t.word h.laid;have c12:=cC t.word (h.cell 12);unfold Ty.Ty.is;clear h
 cases hd:dec t.word with
 | none=>
  simp only[hd,Option.getD_none,Option.isSome_none]at hdc;dsimp only
  go_enter func249,ntmps249
  go_wp2_with fail;refine hdc.mono ?_;rintro e w8 ⟨rfl,cZ⟩;dsimp only;go_step;refine gl (.tuple #[S.zero.val,.bool false]) ?_;refine gl S.zero.val ?_;refine gl (.bool false) ?_;refine dU (ob:=.cells av 57) (Z:=av) (cs:=S.zero.cells) (t:=57) 57 (.tmp 3) (.tmp 11) rfl ?_;refine gl (.bool false) (ay ?_)
  rw[aG];have hB:Below W.heap.size W (w8.alloc (.cells S.zero.cells 57)):=cZ.alloc cZ.size _;generalize (w8.alloc (.cells S.zero.cells 57))=w9 at *;clear hdc cZ;go_wp2_with fail;go_ret;exact⟨rfl,hB⟩
 | some s=>
  simp only[hd,Option.getD_some,Option.isSome_some]at hdc;dsimp only
  go_enter func249,ntmps249
  go_wp2_with fail;refine hdc.mono ?_;rintro e w8 ⟨rfl,cZ⟩;dsimp only;go_step;refine gl (.tuple #[s.val,.bool true]) ?_;refine gl s.val ?_;refine gl (.bool true) ?_;refine dU (ob:=.cells av 57) (Z:=av) (cs:=s.cells) (t:=57) 57 (.tmp 3) (.tmp 11) rfl ?_;refine gl (.bool true) (ay ?_)
  rw[aG];have hB:Below W.heap.size W (w8.alloc (.cells s.cells 57)):=cZ.alloc cZ.size _;have fe:af (w8.alloc (.cells s.cells 57)) w8.heap.size s.cells 57:=heap_alloc_new w8 _;generalize (w8.alloc (.cells s.cells 57))=w9 at *;generalize w8.heap.size=sb at *;have s0:=cC s.state (af.cell fe 0);clear hdc cZ fe;go_wp2_with fail;go_ret;exact⟨rfl,hB⟩
theorem KN (W:World) (c:aj.Cf) (w:Nat):Calls prog 127 #[c.val,.i w] W fun e W'=>∃ tb,e=.returned (ptr tb)/\SA W' tb (Ty.Ty.new c w) none none/\W.heap.size<=tb/\Below W.heap.size W W':=by
 obtain⟨cw,cs,cst,jm,cu⟩:=c
 go_enter func127,ntmps127
 simp only[aj.Cf.val,aj.Cf.cells];go_wp2_with fail;go_ret;refine⟨W.heap.size+1,rfl,?_,ag,(bZ.alloc aQ _).alloc au _⟩;exact heap_alloc2_new _ _ _
end Cl
namespace Mc
open Go.RowKit Hp ah aj Tk Cl
def pJ (qb:Nat):Nat->Value
 | 0=>.func (.func 241) #[ptr qb] #[]
 | 1=>.func (.func 266) #[ptr qb] #[]
 | 2=>.func (.func 276) #[ptr qb] #[]
 | 3=>.func (.func 129) #[ptr qb] #[]
 | 4=>.func (.func 205) #[ptr qb] #[]
 | 5=>.func (.func 224) #[ptr qb] #[]
 | 6=>.func (.func 258) #[ptr qb] #[]
 | 7=>.func (.func 274) #[ptr qb] #[]
 | _=>.nilFunc
def xu (qb:Nat) (q:Qu):Array Value:=#[.i q.cf.workers,.i q.cf.slots,.i q.cf.streams,.i q.cf.waiters,.i q.cf.uses,.i q.w,.i q.line,.i q.first,pJ qb q.st,.i q.why,.i q.e]
def SB (W:World) (qb:Nat) (q:Qu):Prop:=af W qb (xu qb q) 173
structure iX (W:World) (qb mb wb:Nat) (q:Qu) (ws:List Int) (tc:Int):Prop where
 row:SB W qb q
 mem:bB W mb wb ws tc
 ap:Apart qb mb wb
def qF (qb mb wb:Nat) (k:Nat):Prop:=k=qb\/dJ mb wb k
def nZ (W:World) (qb mb wb:Nat) (v:Value) (q:Qu) (ws:List Int) (tc:Int) (e:Ending) (W':World):Prop:=
 e=.returned v/\iX W' qb mb wb q ws tc/\aD (qF qb mb wb) W W'
section
variable {W W':World} {qb mb wb:Nat} {q:Qu} {ws:List Int} {tc:Int}
theorem iX.lt (h:iX W qb mb wb q ws tc):qb < W.heap.size:=af.lt h.row
theorem iX.cell (h:iX W qb mb wb q ws tc) (i:Nat):W.cell? ⟨qb,i,none⟩=(xu qb q)[i]?:=af.cell h.row i
theorem iX.frozen (h:iX W qb mb wb q ws tc) (i:Nat):W.frozen? ⟨qb,i,none⟩=false:=af.frozen h.row i
theorem iX.below (h:iX W qb mb wb q ws tc) (hb:Below W.heap.size W W'):iX W' qb mb wb q ws tc:=⟨(hb.block _ h.lt).trans h.row,h.mem.below hb,h.ap⟩
theorem iX.bU (h:iX W qb mb wb q ws tc) (hc:aD (dJ mb wb) W W') {aC:List Int} {eX:Int} (hm:bB W' mb wb aC eX):iX W' qb mb wb q aC eX:=⟨(hc.block _ h.lt (fun e=>e.elim h.ap.m h.ap.w)).trans h.row,hm,h.ap⟩
theorem iX.put (h:iX W qb mb wb q ws tc) (i:Nat) (v:Value) (q':Qu) (hrow:(xu qb q).setIfInBounds i v=xu qb q'):iX (W.setCell ⟨qb,i,none⟩ v) qb mb wb q' ws tc:=by
 refine⟨?_,h.mem.far qb i v (fun e=>h.ap.m e.symm) (fun e=>h.ap.w e.symm),h.ap⟩;have:=af.aB h.row i v;rw[hrow]at this;exact this
theorem iX.rP {k:Nat} (h:iX W qb mb wb q ws tc) (hk:q.st=k):iX W qb mb wb {q with st:=k} ws tc:=by subst hk;exact h
theorem oK {j:Nat} {x y:Int} (h:rd ws j=x):dF ws j x y=(true,ws.set j y):=by unfold dF;rw[if_pos h]
theorem lM {j:Nat} {x y:Int} (h:rd ws j≠x):dF ws j x y=(false,ws):=by unfold dF;rw[if_neg h]
theorem Cv {W W1:World} (h:aD (qF qb mb wb) W W1) (i:Nat) (v:Value):aD (qF qb mb wb) W (W1.setCell ⟨qb,i,none⟩ v):=h.setCell _ _ (fun _=>.inl rfl)
theorem Cw {W W1 W2:World} (h:aD (qF qb mb wb) W W1) (hc:aD (dJ mb wb) W1 W2):aD (qF qb mb wb) W W2:=h.trans hc (fun _ _ e=>.inr e)
theorem qE {W W1 W2:World} (h:aD (qF qb mb wb) W W1) (hc:Below W1.heap.size W1 W2):aD (qF qb mb wb) W W2:=h.trans (aD.aF (F:=fun _=>False) hc) (fun _ _ e=>e.elim)
theorem IU {W W1 W2:World} (h:aD (qF qb mb wb) W W1) (hc:aD (qF qb mb wb) W1 W2):aD (qF qb mb wb) W W2:=h.trans hc (fun _ _ e=>e)
end
theorem bA.lq {c:Cf} {q:Int} {L:List Int} (h:bA c q L) (hc:aA c):Line.LQ q L:=⟨h.q,h.len8 hc,h.JF hc⟩
section
variable {q:Qu} {ws:List Int}
theorem WM (hk:q.st=0):q.step ws=if q.cf.waiters<=((Br (rd ws 1)).length:Int)\/JG (rd ws 1) q.w=true then ({q with line:=rd ws 1}.finish 7,ws,1) else ({q with line:=rd ws 1,st:=1},ws,1):=by
 unfold Qu.step;rw[hk];rfl
theorem WN (hk:q.st=1):q.step ws=if (dF ws 1 q.line (nH q.line q.w)).1 then ({q with st:=2},(dF ws 1 q.line (nH q.line q.w)).2,1) else ({q with st:=0},(dF ws 1 q.line (nH q.line q.w)).2,1):=by
 unfold Qu.step;rw[hk];rfl
theorem WO (hk:q.st=2):q.step ws=if rd ws 0=0 then (q.finish 0,ws,1) else ({q with why:=5,st:=3},ws,1):=by
 unfold Qu.step;rw[hk];rfl
theorem WQ (hk:q.st=3):q.step ws=if JG (rd ws 1) q.w=true then ({q with line:=rd ws 1,st:=4},ws,1) else ({q with line:=rd ws 1}.finish 8,ws,1):=by
 unfold Qu.step;rw[hk];rfl
theorem WR (hk:q.st=4):q.step ws=if (dF ws 1 q.line (nI q.line q.w)).1 then (q.finish q.why,(dF ws 1 q.line (nI q.line q.w)).2,1) else ({q with st:=3},(dF ws 1 q.line (nI q.line q.w)).2,1):=by
 unfold Qu.step;rw[hk];rfl
theorem WS (hk:q.st=5):q.step ws=if 0 < rd ws 1 then ({q with line:=rd ws 1,first:=rd ws 1 % 16 - 1,st:=6},ws,1) else ({q with line:=rd ws 1}.finish 0,ws,1):=by
 unfold Qu.step;rw[hk];rfl
theorem WT (hk:q.st=6):q.step ws=if (dF ws 1 q.line (q.line / 16)).1 then ({q with st:=7},(dF ws 1 q.line (q.line / 16)).2,1) else ({q with st:=5},(dF ws 1 q.line (q.line / 16)).2,1):=by
 unfold Qu.step;rw[hk];rfl
theorem WU (hk:q.st=7):q.step ws=({q with st:=5},ws.set (Ty.gc q.cf q.first.toNat) (-1),1):=by
 unfold Qu.step;rw[hk];rfl
end
theorem mK {W:World} {qb mb wb:Nat} {q:Qu} {ws:List Int} {tc:Int} (h:iX W qb mb wb q ws tc) (x:Int):Calls prog 204 #[ptr qb,.i x] W (nZ W qb mb wb .nilFunc {q with e:=x} ws tc):=by
 have c10:=cC q.e (h.cell 10);have Bd:=h.frozen 10;have H:=uH h;clear h
 go_enter func204,ntmps204
 go_wp2_with fail;go_ret;exact⟨rfl,H.out.put 10 _ {q with e:=x} rfl,Cv (aD.refl _ _) 10 _⟩
theorem TP {W:World} {qb mb wb:Nat} {q:Qu} {ws:List Int} {tc:Int} (h:iX W qb mb wb q ws tc) {L:List Int} (hc:aA q.cf) (hL:bA q.cf (rd ws 1) L) (hlen:1 < ws.length) (ht:0<=tc/\tc<=4000000000000000000) (hk:q.st=0):
  Calls prog 241 #[ptr qb,ptr mb] W (nZ W qb mb wb (pJ qb (q.step ws).1.st) {(q.step ws).1 with st:=0} (q.step ws).2.1 (tc+(q.step ws).2.2)):=by
 have ZJ:=hL.lq hc;have Rk:=fun W=>Line.Bq W ZJ
 have LX:=fun W=>Line.wu W ZJ q.w
 rw[WM hk,hL.Br hc,hL.JG hc];have hx:=rd_some (ws:=ws) (i:=1) hlen;generalize TQ:rd ws 1=x at *;clear TQ;have hld:Calls prog 56 #[ptr mb,.i 1] W _:=aU h.mem ht 1 _ hx;clear hL ZJ hx hlen hc;generalize hd:decide (q.w ∈ L)=d at *;clear hd;generalize L.length=n at *;obtain⟨r,hr⟩:∃ r:Qu×List Int×Nat,r=(if q.cf.waiters<=(n:Int)\/d=true then ({q with line:=x}.finish 7,ws,1) else ({q with line:=x,st:=1},ws,1)):=⟨_,rfl⟩
 rw[<- hr];have HR:=uH hr;clear hr;have H:=uH h;clear h
 go_enter func241,ntmps241
 go_wp2_with fail;refine hld.mono ?_;rintro e w5 ⟨rfl,gq,dS⟩;have h5:=H.out.bU dS gq;have q5:=Cw (qb:=qb) (aD.refl _ W) dS;have c6:=cC q.line (h5.cell 6);have De:=h5.frozen 6;have h6:=h5.put 6 (.i x) {q with line:=x} rfl;have q6:=Cv q5 6 (.i x);clear hld gq dS h5 q5;go_upto_region 2 with(fail);generalize (w5.setCell ⟨qb,6,none⟩ (.i x))=w6 at *;clear c6 De;have d3:=cC q.cf.waiters (h6.cell 3);have d5:=cC q.w (h6.cell 5);have d6:=cC x (h6.cell 6);have H6:=uH h6;have Q6:=uH q6;clear h6 q6
 by_cases hcl:q.cf.waiters<=(n:Int)
 ·have hcb:decide (q.cf.waiters<=(n:Int))=true:=decide_eq_true hcl;refine jr (S:=(fun w'=>w'.cell? ⟨qb,3,none⟩=some (.i q.cf.waiters)/\w'.cell? ⟨qb,5,none⟩=some (.i q.w)/\w'.cell? ⟨qb,6,none⟩=some (.i x))) (by exact⟨d3,d5,d6⟩) (fun hHeld=>?_);refine tH 0 10 hHeld ?_;refine tH 1 11 hHeld ?_;refine tH 2 12 hHeld ?_;refine tH 3 13 hHeld ?_;refine tH 5 15 hHeld ?_;refine tH 6 16 hHeld ?_;refine tH 7 17 hHeld ?_;refine tH 8 18 hHeld ?_;refine tH 9 19 hHeld ?_;refine mP (i:=4) 265 #[.tmp 13] #[3] (some 14) none #[.i x] (aH func265) ?_;refine(Rk _).mono ?_;rintro e w7 ⟨rfl,cB⟩;have h7:=(H6.out.below bY).below cB;have q7:=qE (qE Q6.out bY) cB;have WV:=cC q.cf.waiters (h7.cell 3);have WW:=cC q.w (h7.cell 5);have WX:=cC x (h7.cell 6);refine⟨_,rfl,⟨WV,WW,WX⟩,fun hHeld=>ay ?_⟩
  refine tH 10 20 hHeld ?_;refine tH 11 21 hHeld ?_;refine sH 12 (some 22) hHeld ?_;refine sH 13 (some 23) hHeld ?_;refine sH 14 (some 24) hHeld ?_;refine sH 15 (some 25) hHeld ?_;refine sH 16 (some 26) hHeld ?_;refine sH 17 (some 27) hHeld ?_;refine sH 18 (some 28) hHeld ?_;refine sH 19 (some 29) hHeld ?_;refine sH 20 (some 30) hHeld ?_;refine tH 21 31 hHeld ?_;refine iR ?_;have hen:=mK h7 7;have Q7:=uH q7;clear h7 q7;go_wp2_with fail;refine hen.mono ?_;rintro e w9 ⟨rfl,h9,q9⟩;have H9:=uH h9;have Q9:=uH (IU Q7.out q9);clear hen h9 q9;go_wp2_with fail;go_ret;have hr:=HR.out;rw[if_pos (.inl hcl)]at hr;subst hr;exact⟨rfl,H9.out.rP hk,Q9.out⟩
 ·have hcb:decide (q.cf.waiters<=(n:Int))=false:=decide_eq_false hcl
  go_region_held3 (fun w'=>w'.cell? ⟨qb,3,none⟩=some (.i q.cf.waiters)/\w'.cell? ⟨qb,5,none⟩=some (.i q.w)/\w'.cell? ⟨qb,6,none⟩=some (.i x)) (first | go_keep | exact⟨aI,aI,aI⟩)
   ((first
   | (go_at_call 265;refine(Rk _).mono ?_;rintro e w7 ⟨rfl,cB⟩;have h7:=(H6.out.below bY).below cB;have q7:=qE (qE Q6.out bY) cB;have WV:=cC q.cf.waiters (h7.cell 3);have WW:=cC q.w (h7.cell 5);have WX:=cC x (h7.cell 6))
   | (go_at_call 203;refine(LX _).mono ?_;rintro e w8 ⟨rfl,cZ⟩;have h8:=h7.below cZ;have q8:=qE q7 cZ;have aaW:=cC q.cf.waiters (h8.cell 3);have aaX:=cC q.w (h8.cell 5);have aaY:=cC x (h8.cell 6))))
  cases d
  ·have H8:=uH h8;have Q8:=uH q8;clear h8 q8;go_wp2_with fail;go_ret;have hr:=HR.out;rw[if_neg (by simp[hcl])]at hr;subst hr;exact⟨rfl,H8.out.rP hk,Q8.out⟩
  ·have hen:=mK h8 7;have Q8:=uH q8;clear h8 q8;go_wp2_with fail;refine hen.mono ?_;rintro e w9 ⟨rfl,h9,q9⟩;have H9:=uH h9;have Q9:=uH (IU Q8.out q9);clear hen h9 q9;go_wp2_with fail;go_ret;have hr:=HR.out;rw[if_pos au]at hr;subst hr;exact⟨rfl,H9.out.rP hk,Q9.out⟩
theorem Jh (w:World) (a b:Option Addr) (c d:Nat) (l r:List Int) (hl:SliceAt w (.slice a l.length c) (l.map (Value.int .i64))) (hr:SliceAt w (.slice b r.length d) (r.map (Value.int .i64))) (hn:l.length=r.length) (h1:l.length<=1000):
  Calls prog 117 #[.slice a l.length c,.slice b r.length d] w fun e w'=>e=.returned (.bool (decide (l=r)))/\∃ n,w.drewN n=w':=by
 have hrl:r.length=l.length:=hn.symm;have HR:=uH hr;rw[hrl]at hr;have HN:=uH hn;clear hn;rw[hrl];clear hrl
 go_enter func117,ntmps117
 go_wp2_with fail
 go_loopw [5,13] (fun _ i wr=>∃ k n:Nat,k<=l.length/\i=.i k/\wr=w.drewN n/\l.take k=r.take k) (fun _ i _=>l.length - (intOf i).toNat)
 case atStart=>exact⟨0,0,ag,rfl,rfl,au⟩
 case round=>
  obtain⟨k,n,hk,rfl,hwr,htk⟩:=hrel;have hl':SliceAt wr (.slice a l.length c) (l.map (Value.int .i64)):=by rw[hwr];exact hl.below (eO bZ _)
  have hr':SliceAt wr (.slice b r.length d) (r.map (Value.int .i64)):=by rw[hwr];exact HR.out.below (eO bZ _)
  have HW:=uH hwr;clear hwr
  by_cases hlt:k < l.length
  ·have hlt2:k < r.length:=by have:=HN.out;omega
   obtain⟨g1,o1,rfl,hc1⟩:=Bj hl' hlt;obtain⟨g2,o2,rfl,hc2⟩:=Bj hr' hlt2;have k0:(0:Int)<=(k:Int):=ag
   have k1:(k:Int) < (l.length:Int):=ag
   have k2:k<=1000:=ag
   have e1:l.take (k+1)=l.take k ++ [l[k]]:=by rw[List.take_add_one,List.getElem?_eq_getElem hlt];rfl
   have e2:r.take (k+1)=r.take k ++ [r[k]]:=by rw[List.take_add_one,List.getElem?_eq_getElem hlt2];rfl
   have E1:=uH e1;have E2:=uH e2;have TK:=uH htk;have HL:=uH hlt;have ELK:=uH (show l=r->l[k]=r[k] from fun e=>by subst e;rfl);clear e1 e2 htk hl' hr' hl hr;generalize l[k]=x at *;generalize r[k]=y at *
   by_cases hx:x=y
   ·subst hx;go_wp2_with fail
    go_quiet (fail)
    go_wp2_with fail
    go_roundw
    case rel=>exact⟨k+1,n+nq,ag,by go_num,by rw[HW.out,World.drewN_drewN],by rw[E1.out,E2.out,TK.out]⟩
    case measure=>simp[intOf];omega
   ·have hxb:(x == y)=false:=by simpa using hx
    have hxc:(x != y)=true:=by simpa using hx
    have HX:=uH hx;clear hx;go_wp2_with fail
    go_quiet (fail)
    go_wp2_with fail;go_ret;exact⟨Base.aN (by rw[decide_eq_false (fun e=>HX.out (ELK.out e))]),n+nq,by rw[HW.out,World.drewN_drewN]⟩
  ·have hke:k=l.length:=ag
   subst hke
   have e:l=r:=by
    have:=HN.out;rw[List.take_length,List.take_of_length_le ag]at htk;exact htk
   have H:=uH e;clear htk e hlt;go_wp2_with fail;go_ret;exact⟨Base.aN (by rw[decide_eq_true H.out]),n,HW.out.symm⟩
def Xj (w:World) (l:List Int) (e:Ending) (w':World):Prop:=∃ g,e=.returned (.slice (some ⟨g,0,none⟩) l.length l.length)/\mR w' g l/\w.heap.size<=g/\Below w.heap.size w w'
theorem zU (w:World) (a:Option Addr) (c:Nat) (l:List Int) (h:SliceAt w (.slice a l.length c) (l.map (Value.int .i64))) (h0:0 < l.length) (h1:l.length<=1000):
  Calls prog 118 #[.slice a l.length c] w (Xj w l):=by
 obtain⟨i0,hi,hz0,hz1,hz2⟩:=Field.info_parts Field.lJ;have hmk:=run_makeSlice (P:=prog) (w:=w) 43 3 i0 (.i 0) underlying43 hi hz0 .i64 .i64 l.length l.length ag ag (by rw[hz1];simp;omega) (by rw[hz2];omega) ag
 go_enter func118,ntmps118
 rw[show((l.length:Int)).toNat=l.length by simp,hz1,Nat.mul_one,show(Value.int IntKind.i64 0).cells=#[.i 0] from rfl,qL]at hmk
 have hA:mR (w.alloc (.cells (Array.replicate l.length (.i 0)) 3)) w.heap.size (List.replicate l.length 0):=by
  unfold mR;rw[<- yh,qL];exact af.new w _ _
 have hb:Below w.heap.size w (w.alloc (.cells (Array.replicate l.length (.i 0)) 3)):=bZ.alloc aQ _;have h':=h.below hb;have hsz1:(prog.info? 3).map (·.size)=some 1:=by rw[hi];simp[hz1]
 clear hi hz0 hz1 hz2 h;go_upto_region 2 with(fail);generalize (w.alloc (.cells (Array.replicate l.length (.i 0)) 3))=wA at *;obtain⟨aa,cc,e1,-,hcs⟩:=h';simp only[Value.slice.injEq]at e1;obtain⟨ea,-,ec⟩:=e1;subst ea ec
 rcases hcs with h00 | ⟨gs,os,rfl,hcs⟩
 ·simp at h00;subst h00;simp at h0
 have hrow:wA.heap[w.heap.size]? =some (.cells ((List.replicate l.length (0:Int)).map (Value.int .i64)).toArray 3 (0,0)):=hA;have HB:=uH hb;clear hmk hA hb;refine wp_region_lit ?_;refine gl (.slice (some ⟨w.heap.size,0,none⟩) l.length l.length) ?_;refine gl (.slice (some ⟨gs,os,none⟩) l.length c) (ay ?_)
 refine wpList_copy_splice rfl (.tmp 7) (.tmp 8) 43 43 rfl 3 underlying43 hsz1 (some ⟨w.heap.size,0,none⟩) (some ⟨gs,os,none⟩) l.length l.length l.length c rfl rfl w.heap.size 0 _ 3 hrow (l.map (Value.int .i64)) au (fun _=>⟨rfl,⟨gs,os,none⟩,rfl,fun j v hv=>?_⟩) au (by simp[Value.oneCell']) w.heap.size w HB.out aQ ?_
 ·rw[Addr.add_lit];exact hcs j v hv
 intro w2 hg2 hb2
 have hw2:mR w2 w.heap.size l:=by
  have h:=hg2.out
  have e:splice ((List.replicate l.length (0:Int)).map (Value.int .i64)) 0 (l.map (Value.int .i64))=l.map (Value.int .i64):=by
   unfold splice;simp
  rw[e]at h;exact h
 have HW:=uH hw2;have HB2:=uH hb2;clear hg2 hw2 hb2 hrow hcs hsz1
 try simp only[Act.put,sA,sZ,sS]
 go_wp2_with fail;go_ret;exact⟨w.heap.size,rfl,HW.out,Nat.le_refl _,HB2.out⟩
variable {W:World} {qb mb wb:Nat} {q:Qu} {ws:List Int} {tc:Int}
theorem TS (h:iX W qb mb wb q ws tc) {L:List Int} (hc:aA q.cf) (hL:bA q.cf q.line L) (hn:q.w ∉ L) (hw:0<=q.w/\q.w < q.cf.workers) (hwt:(L.length:Int) < q.cf.waiters) (hlen:1 < ws.length) (ht:0<=tc/\tc<=4000000000000000000) (hk:q.st=1):
  Calls prog 266 #[ptr qb,ptr mb] W (nZ W qb mb wb (pJ qb (q.step ws).1.st) {(q.step ws).1 with st:=1} (q.step ws).2.1 (tc+(q.step ws).2.2)):=by
 have hps:=fun W=>Line.GR W (hL.lq hc) (by have:=hc.wa;omega) (who:=q.w) (by have:=hc.w;omega) hn
 have hnw:q.line+(q.w+1) * 16 ^ L.length=nH q.line q.w:=by unfold nH;rw[hL.Br hc]
 rw[hnw]at hps;generalize hnn:nH q.line q.w=nw at *;clear hnw hL hn hw hwt hc;have hx:=rd_some (ws:=ws) (i:=1) hlen;rw[WN hk,hnn];clear hnn;have hce:∀ W,rd ws 1=q.line->bB W mb wb ws tc->Calls prog 166 #[ptr mb,.i 1,.i q.line,.i nw] W _:=fun W e hm=>jv hm ht 1 q.line (by rw[<- e];exact hx) nw
 have hcn:∀ W,rd ws 1≠q.line->bB W mb wb ws tc->Calls prog 166 #[ptr mb,.i 1,.i q.line,.i nw] W _:=fun W e hm=>jw hm ht 1 _ hx q.line nw e
 by_cases hr:rd ws 1=q.line
 focus
  rw[oK hr];simp only[if_true];have hcs:=fun W=>hce W hr
 rotate_left
 focus
  rw[lM hr];simp only[Bool.false_eq_true,if_false];have hcs:=fun W=>hcn W hr
 rotate_left
 all_goals
  clear hce hcn hx hr hlen;have c5:=cC q.w (h.cell 5);have c6:=cC q.line (h.cell 6);have H:=uH h;clear h;have gz:True:=trivial
  go_enter func266,ntmps266
  go_wp2_with fail
  go_region_held3 (fun w'=>w'.cell? ⟨qb,5,none⟩=some (.i q.w)/\w'.cell? ⟨qb,6,none⟩=some (.i q.line)) (first | go_keep | exact⟨aI,aI⟩)
   ((first
   | (go_at_call 275;refine(hps _).mono ?_;rintro e w7 ⟨rfl,cB⟩;have h7:=(H.out.below bY).below cB;have q7:=qE (qE (qb:=qb) (mb:=mb) (wb:=wb) (aD.refl _ W) bY) cB;have a5:=cC q.w (h7.cell 5);have a6:=cC q.line (h7.cell 6))))
  have hcs:=hcs _ h7.mem;have H7:=uH h7;have Q7:=uH q7;clear h7 q7 cB;go_wp2_with fail;refine hcs.mono ?_;rintro e w8 ⟨rfl,Dx,vB⟩;have h8:=H7.out.bU vB Dx;have q8:=Cw Q7.out vB;have H8:=uH h8;have Q8:=uH q8;clear hcs Dx vB h8 q8;go_wp2_with fail;go_ret;exact⟨rfl,H8.out.rP hk,Q8.out⟩
theorem TT (h:iX W qb mb wb q ws tc) {L:List Int} (hc:aA q.cf) (hL:bA q.cf q.line L) (hn:q.w ∈ L) (hlen:1 < ws.length) (ht:0<=tc/\tc<=4000000000000000000) (hk:q.st=4):
  Calls prog 205 #[ptr qb,ptr mb] W (nZ W qb mb wb (pJ qb (q.step ws).1.st) {(q.step ws).1 with st:=4} (q.step ws).2.1 (tc+(q.step ws).2.2)):=by
 have hps:=fun W=>Line.GM W (hL.lq hc) hL.nd hn
 have hnw:Ty.lw (L.filter fun x=>x != q.w)=nI q.line q.w:=by unfold nI;rw[hL.Br hc]
 rw[hnw]at hps;generalize hnn:nI q.line q.w=nw at *;clear hnw hL hn hc;have hx:=rd_some (ws:=ws) (i:=1) hlen;rw[WR hk,hnn];clear hnn;have hce:∀ W,rd ws 1=q.line->bB W mb wb ws tc->Calls prog 166 #[ptr mb,.i 1,.i q.line,.i nw] W _:=fun W e hm=>jv hm ht 1 q.line (by rw[<- e];exact hx) nw
 have hcn:∀ W,rd ws 1≠q.line->bB W mb wb ws tc->Calls prog 166 #[ptr mb,.i 1,.i q.line,.i nw] W _:=fun W e hm=>jw hm ht 1 _ hx q.line nw e
 by_cases hr:rd ws 1=q.line
 focus
  rw[oK hr];simp only[if_true];have hcs:=fun W=>hce W hr
 rotate_left
 focus
  rw[lM hr];simp only[Bool.false_eq_true,if_false];have hcs:=fun W=>hcn W hr
 rotate_left
 all_goals
  clear hce hcn hx hr hlen;have c5:=cC q.w (h.cell 5);have c6:=cC q.line (h.cell 6);have c9:=cC q.why (h.cell 9);have H:=uH h;clear h;have gz:True:=trivial
  go_enter func205,ntmps205
  go_wp2_with fail
  go_region_held3 (fun w'=>w'.cell? ⟨qb,5,none⟩=some (.i q.w)/\w'.cell? ⟨qb,6,none⟩=some (.i q.line)/\w'.cell? ⟨qb,9,none⟩=some (.i q.why)) (first | go_keep | exact⟨aI,aI,aI⟩)
   ((first
   | (go_at_call 252;refine(hps _).mono ?_;rintro e w7 ⟨rfl,cB⟩;have h7:=(H.out.below bY).below cB;have q7:=qE (qE (qb:=qb) (mb:=mb) (wb:=wb) (aD.refl _ W) bY) cB;have a5:=cC q.w (h7.cell 5);have a6:=cC q.line (h7.cell 6);have a9:=cC q.why (h7.cell 9))))
  have hcs:=hcs _ h7.mem;have H7:=uH h7;have Q7:=uH q7;clear h7 q7 cB;go_wp2_with fail;refine hcs.mono ?_;rintro e w8 ⟨rfl,Dx,vB⟩;have h8:=H7.out.bU vB Dx;have q8:=Cw Q7.out vB
 ·have b9:=cC q.why (h8.cell 9);have hen:=mK h8 q.why;have Q8:=uH q8;clear hcs Dx vB h8 q8;go_wp2_with fail;refine hen.mono ?_;rintro e w9 ⟨rfl,h9,q9⟩;have H9:=uH h9;have Q9:=uH (IU Q8.out q9);clear hen h9 q9;go_wp2_with fail;go_ret;exact⟨rfl,H9.out.rP hk,Q9.out⟩
 ·have H8:=uH h8;have Q8:=uH q8;clear hcs Dx vB h8 q8;go_wp2_with fail;go_ret;exact⟨rfl,H8.out.rP hk,Q8.out⟩
theorem LY (h:iX W qb mb wb q ws tc) (hlen:1 < ws.length) (ht:0<=tc/\tc<=4000000000000000000) (hk:q.st=2):
  Calls prog 276 #[ptr qb,ptr mb] W (nZ W qb mb wb (pJ qb (q.step ws).1.st) {(q.step ws).1 with st:=2} (q.step ws).2.1 (tc+(q.step ws).2.2)):=by
 have hx:=rd_some (ws:=ws) (i:=0) ag;rw[WO hk];generalize TQ:rd ws 0=x at *;clear TQ;have hld:Calls prog 56 #[ptr mb,.i 0] W _:=aU h.mem ht 0 _ hx
 by_cases h0:x=0
 focus
  subst h0;rw[if_pos rfl];have H:=uH h;clear h hx hlen
 rotate_left
 focus
  rw[if_neg h0];have hb:(x == 0)=false:=by simpa using h0
  have H:=uH h;clear h hx hlen h0
 rotate_left
 all_goals
  go_enter func276,ntmps276
  go_wp2_with fail;refine hld.mono ?_;rintro e w5 ⟨rfl,gq,dS⟩;have h5:=H.out.bU dS gq;have q5:=Cw (qb:=qb) (aD.refl _ W) dS
 ·have hen:=mK h5 0;have Q5:=uH q5;clear hld gq dS h5 q5;go_wp2_with fail;refine hen.mono ?_;rintro e w9 ⟨rfl,h9,q9⟩;have H9:=uH h9;have Q9:=uH (IU Q5.out q9);clear hen h9 q9;go_wp2_with fail;go_ret;exact⟨rfl,H9.out.rP hk,Q9.out⟩
 ·have c9:=cC q.why (h5.cell 9);have UO:=h5.frozen 9;have H5:=uH h5;have Q5:=uH q5;clear hld gq dS h5 q5;go_wp2_with fail;go_ret;have h6:=H5.out.put 9 (.i 5) {q with why:=5} rfl;have q6:=Cv Q5.out 9 (.i 5);exact⟨rfl,h6.rP hk,q6⟩
theorem TU (h:iX W qb mb wb q ws tc) {L:List Int} (hc:aA q.cf) (hL:bA q.cf (rd ws 1) L) (hlen:1 < ws.length) (ht:0<=tc/\tc<=4000000000000000000) (hk:q.st=3):
  Calls prog 129 #[ptr qb,ptr mb] W (nZ W qb mb wb (pJ qb (q.step ws).1.st) {(q.step ws).1 with st:=3} (q.step ws).2.1 (tc+(q.step ws).2.2)):=by
 have LX:=fun W=>Line.wu W (hL.lq hc) q.w
 have hx:=rd_some (ws:=ws) (i:=1) hlen;rw[WQ hk,hL.JG hc];generalize hd:decide (q.w ∈ L)=d at *;clear hd hL hlen hc;generalize TQ:rd ws 1=x at *;clear TQ;have hld:Calls prog 56 #[ptr mb,.i 1] W _:=aU h.mem ht 1 _ hx;clear hx;have H:=uH h;clear h;obtain⟨r,hr⟩:∃ r:Qu×List Int×Nat,r=(if d=true then ({q with line:=x,st:=4},ws,1) else ({q with line:=x}.finish 8,ws,1)):=⟨_,rfl⟩
 rw[<- hr];have HR:=uH hr;clear hr
 go_enter func129,ntmps129
 go_wp2_with fail;refine hld.mono ?_;rintro e w5 ⟨rfl,gq,dS⟩;have h5:=H.out.bU dS gq;have q5:=Cw (qb:=qb) (aD.refl _ W) dS;have c6:=cC q.line (h5.cell 6);have De:=h5.frozen 6;have h6:=h5.put 6 (.i x) {q with line:=x} rfl;have q6:=Cv q5 6 (.i x);clear hld gq dS h5 q5;go_upto_region 2 with(fail);generalize (w5.setCell ⟨qb,6,none⟩ (.i x))=w6 at *;clear c6 De;have d5:=cC q.w (h6.cell 5);have d6:=cC x (h6.cell 6);have H6:=uH h6;have Q6:=uH q6;clear h6 q6
 go_region_held3 (fun w'=>w'.cell? ⟨qb,5,none⟩=some (.i q.w)/\w'.cell? ⟨qb,6,none⟩=some (.i x)) (first | go_keep | exact⟨aI,aI⟩)
  ((first
  | (go_at_call 203;refine(LX _).mono ?_;rintro e w7 ⟨rfl,cB⟩;have h7:=(H6.out.below bY).below cB;have q7:=qE (qE Q6.out bY) cB;have a5:=cC q.w (h7.cell 5);have a6:=cC x (h7.cell 6))))
 cases d
 ·have hen:=mK h7 8;have Q7:=uH q7;clear h7 q7 cB;go_wp2_with fail;refine hen.mono ?_;rintro e w9 ⟨rfl,h9,q9⟩;have H9:=uH h9;have Q9:=uH (IU Q7.out q9);clear hen h9 q9;go_wp2_with fail;go_ret;have hr:=HR.out;rw[if_neg au]at hr;subst hr;exact⟨rfl,H9.out.rP hk,Q9.out⟩
 ·have H7:=uH h7;have Q7:=uH q7;clear h7 q7 cB;go_wp2_with fail;go_ret;have hr:=HR.out;rw[if_pos au]at hr;subst hr;exact⟨rfl,H7.out.rP hk,Q7.out⟩
theorem TV (h:iX W qb mb wb q ws tc) (hq:rd ws 1<=9223372036854775807) (hlen:1 < ws.length) (ht:0<=tc/\tc<=4000000000000000000) (hk:q.st=5):
  Calls prog 224 #[ptr qb,ptr mb] W (nZ W qb mb wb (pJ qb (q.step ws).1.st) {(q.step ws).1 with st:=5} (q.step ws).2.1 (tc+(q.step ws).2.2)):=by
 have hhd:=fun W=>Line.Bp W (rd ws 1) hq
 have hx:=rd_some (ws:=ws) (i:=1) hlen;rw[WS hk];clear hq hlen;generalize TQ:rd ws 1=x at *;clear TQ;have hld:Calls prog 56 #[ptr mb,.i 1] W _:=aU h.mem ht 1 _ hx;clear hx
 by_cases hp:0 < x
 focus
  rw[if_pos hp];simp only[if_pos hp]at hhd
 rotate_left
 focus
  rw[if_neg hp];simp only[if_neg hp]at hhd
 rotate_left
 all_goals
  have H:=uH h;clear h hp
  go_enter func224,ntmps224
  go_wp2_with fail;refine hld.mono ?_;rintro e w5 ⟨rfl,gq,dS⟩;have h5:=H.out.bU dS gq;have q5:=Cw (qb:=qb) (aD.refl _ W) dS;have c6:=cC q.line (h5.cell 6);have De:=h5.frozen 6;have h6:=h5.put 6 (.i x) {q with line:=x} rfl;have q6:=Cv q5 6 (.i x);clear hld gq dS h5 q5;go_upto_region 2 with(fail);generalize (w5.setCell ⟨qb,6,none⟩ (.i x))=w6 at *;clear c6 De;have d6:=cC x (h6.cell 6);have H6:=uH h6;have Q6:=uH q6;clear h6 q6;go_wp2_with fail;refine(hhd _).mono ?_;rintro e w7 ⟨rfl,cB⟩;have h7:=H6.out.below cB;have q7:=qE Q6.out cB;clear hhd cB d6
 ·have a7:=cC q.first (h7.cell 7);have af7:=h7.frozen 7;have H7:=uH h7;have Q7:=uH q7;clear h7 q7;go_wp2_with fail;go_ret;have h8:=H7.out.put 7 (.i (x % 16 - 1)) {q with line:=x,first:=x % 16 - 1} rfl;have q8:=Cv Q7.out 7 (.i (x % 16 - 1));exact⟨rfl,h8.rP hk,q8⟩
 ·have hen:=mK h7 0;have Q7:=uH q7;clear h7 q7;go_wp2_with fail;refine hen.mono ?_;rintro e w9 ⟨rfl,h9,q9⟩;have H9:=uH h9;have Q9:=uH (IU Q7.out q9);clear hen h9 q9;go_wp2_with fail;go_ret;exact⟨rfl,H9.out.rP hk,Q9.out⟩
theorem WY (h:iX W qb mb wb q ws tc) (hlen:1 < ws.length) (ht:0<=tc/\tc<=4000000000000000000) (hk:q.st=6):
  Calls prog 258 #[ptr qb,ptr mb] W (nZ W qb mb wb (pJ qb (q.step ws).1.st) {(q.step ws).1 with st:=6} (q.step ws).2.1 (tc+(q.step ws).2.2)):=by
 have hpp:=fun W=>Line.Fu W q.line
 have hx:=rd_some (ws:=ws) (i:=1) hlen;rw[WT hk];have hce:∀ W,rd ws 1=q.line->bB W mb wb ws tc->Calls prog 166 #[ptr mb,.i 1,.i q.line,.i (q.line / 16)] W _:=fun W e hm=>jv hm ht 1 q.line (by rw[<- e];exact hx) _
 have hcn:∀ W,rd ws 1≠q.line->bB W mb wb ws tc->Calls prog 166 #[ptr mb,.i 1,.i q.line,.i (q.line / 16)] W _:=fun W e hm=>jw hm ht 1 _ hx q.line _ e
 by_cases hr:rd ws 1=q.line
 focus
  rw[oK hr];simp only[if_true];have hcs:=fun W=>hce W hr
 rotate_left
 focus
  rw[lM hr];simp only[Bool.false_eq_true,if_false];have hcs:=fun W=>hcn W hr
 rotate_left
 all_goals
  clear hce hcn hx hr hlen;have c6:=cC q.line (h.cell 6);have H:=uH h;clear h
  go_enter func258,ntmps258
  go_wp2_with fail
  go_region_held3 (fun w'=>w'.cell? ⟨qb,6,none⟩=some (.i q.line)) (first | go_keep | exact by assumption)
   ((first
   | (go_at_call 250;refine(hpp _).mono ?_;rintro e w7 ⟨rfl,rfl⟩;have h7:=H.out.below bY;have q7:=qE (qb:=qb) (mb:=mb) (wb:=wb) (aD.refl _ W) bY;have R4:=hcs _ h7.mem)
   | (go_at_call 166;refine(R4).mono ?_;rintro e w8 ⟨rfl,Dx,vB⟩;have h8:=h7.bU vB Dx;have q8:=Cw q7 vB;have b6:=cC q.line (h8.cell 6))))
  have H8:=uH h8;have Q8:=uH q8;clear Dx vB h8 q8 h7 q7;go_wp2_with fail;go_ret;exact⟨rfl,H8.out.rP hk,Q8.out⟩
theorem TW (h:iX W qb mb wb q ws tc) (hc:aA q.cf) (hf:0<=q.first/\q.first < q.cf.workers) (hlen:Ty.gc q.cf q.first.toNat < ws.length) (ht:0<=tc/\tc<=4000000000000000000) (hk:q.st=7):
  Calls prog 274 #[ptr qb,ptr mb] W (nZ W qb mb wb (pJ qb (q.step ws).1.st) {(q.step ws).1 with st:=7} (q.step ws).2.1 (tc+(q.step ws).2.2)):=by
 have hgr:=fun W=>oC W q.cf q.first.toNat (by have:=hc.w;omega) ag
 have hf1:((q.first.toNat:Nat):Int)=q.first:=Int.toNat_of_nonneg hf.1;have hgc:(3+q.cf.workers+q.first)=((Ty.gc q.cf q.first.toNat:Nat):Int):=by have:=hc.w;unfold Ty.gc;omega
 simp only[hf1,hgc,aj.Cf.val,aj.Cf.cells]at hgr;have hx:=rd_some hlen;rw[WU hk];generalize Ty.gc q.cf q.first.toNat=g at *;have hst:=fun W (hm:bB W mb wb ws tc)=>gu hm ht g _ hx (-1)
 clear hf1 hgc hx hlen hf hc;obtain⟨c0,c1,c2,c3,c4⟩:=cQ q.cf h.cell;have c7:=cC q.first (h.cell 7);have H:=uH h;clear h
 go_enter func274,ntmps274
 go_wp2_with fail
 go_region_held3 (fun w'=>w'.cell? ⟨qb,0,none⟩=some (.i q.cf.workers)/\w'.cell? ⟨qb,1,none⟩=some (.i q.cf.slots)/\w'.cell? ⟨qb,2,none⟩=some (.i q.cf.streams)/\w'.cell? ⟨qb,3,none⟩=some (.i q.cf.waiters)/\w'.cell? ⟨qb,4,none⟩=some (.i q.cf.uses)/\w'.cell? ⟨qb,7,none⟩=some (.i q.first)) (first | go_keep | exact⟨aI,aI,aI,aI,aI,aI⟩)
  ((first
  | (go_at_call 78;refine(hgr _).mono ?_;rintro e w7 ⟨rfl,cB⟩;have h7:=(H.out.below bY).below cB;have q7:=qE (qE (qb:=qb) (mb:=mb) (wb:=wb) (aD.refl _ W) bY) cB;have eZ:=hst _ h7.mem;obtain⟨a0,a1,a2,a3,a4⟩:=cQ q.cf h7.cell;have a7:=cC q.first (h7.cell 7))
  | (go_at_call 57;refine(eZ).mono ?_;rintro e w8 ⟨rfl,Dx,vB⟩;have h8:=h7.bU vB Dx;have q8:=Cw q7 vB;obtain⟨b0,b1,b2,b3,b4⟩:=cQ q.cf h8.cell;have b7:=cC q.first (h8.cell 7))))
 have H8:=uH h8;have Q8:=uH q8;clear Dx vB h8 q8 h7 q7 cB;go_wp2_with fail;go_ret;exact⟨rfl,H8.out.rP hk,Q8.out⟩
end Mc
namespace Mc
open Go.RowKit Hp ah aj Tk Cl
theorem TY (qb:Nat):pJ qb 8=.nilFunc:=rfl
theorem Pn (qb:Nat) {k:Nat} (h:k<=7):∃ F,pJ qb k=.func (.func F) #[ptr qb] #[]:=by
 have hc:k=0\/k=1\/k=2\/k=3\/k=4\/k=5\/k=6\/k=7:=ag
 rcases hc with rfl | rfl | rfl | rfl | rfl | rfl | rfl | rfl<;>exact⟨_,rfl⟩
theorem TZ (F:Nat) (bs:Array Value) (w:World):(binOp .neq 171 (.func (.func F) bs #[]) .nilFunc).run prog w=.ok (.bool true) w:=ax
theorem T9 (F:Nat) (bs:Array Value) (w:World):(binOp .eql 171 (.func (.func F) bs #[]) .nilFunc).run prog w=.ok (.bool false) w:=ax
theorem F8 (w:World):(binOp .eql 171 .nilFunc .nilFunc).run prog w=.ok (.bool true) w:=ax
theorem IV {W:World} {qb mb wb:Nat} {q:Qu} {ws:List Int} {tc:Int} (h:iX W qb mb wb q ws tc) (hok:fH q.cf q) (hc:aA q.cf) (hm:vC q.cf ws) (ht:0<=tc/\tc<=4000000000000000000) (hst:q.st<=7):
  ∃ F,(∀ args w,(callFunc F args).run prog w=.ok (.enter F args) w)/\pJ qb q.st=.func (.func F) #[ptr qb] #[]/\
   Calls prog F #[ptr qb,ptr mb] W (nZ W qb mb wb (pJ qb (q.step ws).1.st) {(q.step ws).1 with st:=q.st} (q.step ws).2.1 (tc+(q.step ws).2.2)):=by
 obtain⟨L,hL⟩:=hm.line;have hlen:1 < ws.length:=by rw[hm.len,fI];omega
 have hcs:q.st=0\/q.st=1\/q.st=2\/q.st=3\/q.st=4\/q.st=5\/q.st=6\/q.st=7:=ag
 rcases hcs with hk | hk | hk | hk | hk | hk | hk | hk
 ·exact⟨_,aH func241,by rw[hk];rfl,by rw[hk];exact TP h hc hL hlen ht hk⟩
 ·obtain⟨L1,h1,h2,h3⟩:=hok.push hk;exact⟨_,aH func266,by rw[hk];rfl,by rw[hk];exact TS h hc h1 h2 hok.w h3 hlen ht hk⟩
 ·exact⟨_,aH func276,by rw[hk];rfl,by rw[hk];exact LY h hlen ht hk⟩
 ·exact⟨_,aH func129,by rw[hk];rfl,by rw[hk];exact TU h hc hL hlen ht hk⟩
 ·obtain⟨L1,h1,h2⟩:=hok.drop hk;exact⟨_,aH func205,by rw[hk];rfl,by rw[hk];exact TT h hc h1 h2 hlen ht hk⟩
 ·exact⟨_,aH func224,by rw[hk];rfl,by rw[hk];exact TV h (by have:=hL.bd hc;omega) hlen ht hk⟩
 ·exact⟨_,aH func258,by rw[hk];rfl,by rw[hk];exact WY h hlen ht hk⟩
 ·have hf:=hok.tell hk;exact⟨_,aH func274,by rw[hk];rfl,by rw[hk];exact TW h hc hf (by rw[hm.len,fI];unfold Ty.gc;omega) ht hk⟩
theorem gy {W:World} {qb mb wb:Nat} {q:Qu} {ws:List Int} {tc:Int} (h:iX W qb mb wb q ws tc) (hok:fH q.cf q) (hc:aA q.cf) (hm:vC q.cf ws) (ht:0<=tc/\tc<=4000000000000000000) (hst:q.st<=7):
  Calls prog 89 #[ptr qb,ptr mb] W (nZ W qb mb wb (.bool (decide ((q.step ws).1.st=8))) (q.step ws).1 (q.step ws).2.1 (tc+(q.step ws).2.2)):=by
 obtain⟨F,hE,hF,hS⟩:=IV h hok hc hm ht hst;have hst':=(hok.step hc hm).1.st;have c8:=cV (pJ qb q.st) (h.cell 8);rw[hF]at c8;clear hok hc hm;generalize q.step ws=r at *;have H:=uH h;clear h hF;obtain⟨r,aC,n⟩:=r;dsimp only at hS hst' ⊢
 have key:∀ (w5:World) (v:Value),v=pJ qb r.st->iX w5 qb mb wb {r with st:=q.st} aC (tc+n)->iX (w5.setCell ⟨qb,8,none⟩ v) qb mb wb r aC (tc+n):=by
  intro w5 v hv h5;rw[hv];exact h5.put 8 _ r rfl
 by_cases h8:r.st=8
 focus
  rw[h8,TY]at hS key;have KEY:=uH key;have HR:=uH (decide_eq_true h8);clear key h8 hst'
 rotate_left
 focus
  have hn:r.st<=7:=ag
  obtain⟨G,hG⟩:=Pn qb hn;rw[hG]at hS key;have KEY:=uH key;have HR:=uH (decide_eq_false h8);clear key h8 hst' hn hG
 rotate_left
 all_goals
  generalize decide (r.st=8)=d at *;have e1:=TZ;have e2:=T9;have e3:=F8
  go_enter func89,ntmps89
  go_wp2_with fail;refine hS.mono ?_;rintro e w5 ⟨rfl,h5,q5⟩;have d8:=cV (pJ qb q.st) (h5.cell 8);have Zm:=h5.frozen 8;have h6:=KEY.out w5 _ rfl h5
 ·have q6:=Cv q5 8 .nilFunc;have e8:(w5.setCell ⟨qb,8,none⟩ .nilFunc).cell? ⟨qb,8,none⟩=some .nilFunc:=World.cell?_setCell_same _ _ _ d8;have H6:=uH h6;have Q6:=uH q6;clear hS h5 q5 h6 q6;go_wp2_with fail;go_ret;exact⟨by rw[HR.out];rfl,H6.out,Q6.out⟩
 ·have q6:=Cv q5 8 (.func (.func G) #[ptr qb] #[]);have e8:(w5.setCell ⟨qb,8,none⟩ (.func (.func G) #[ptr qb] #[])).cell? ⟨qb,8,none⟩=some (.func (.func G) #[ptr qb] #[]):=World.cell?_setCell_same _ _ _ d8;have H6:=uH h6;have Q6:=uH q6;clear hS h5 q5 h6 q6;go_wp2_with fail;go_ret;exact⟨by rw[HR.out];rfl,H6.out,Q6.out⟩
theorem jl {W:World} {qb mb wb:Nat} {q:Qu} {ws:List Int} {tc:Int} (h:iX W qb mb wb q ws tc) (hst:q.st=8):Calls prog 90 #[ptr qb] W fun e W'=>e=.returned (.tuple #[.i q.e,.bool true])/\Below W.heap.size W W':=by
 have c10:=cC q.e (h.cell 10)
 have c8:W.cell? ⟨qb,8,none⟩=some .nilFunc:=by
  have c:=h.cell 8;unfold xu at c;rw[hst]at c;exact c
 clear h;have e3:=F8
 go_enter func90,ntmps90
 go_wp2_with fail
 go_quiet (fail)
 go_wp2_with fail;go_ret2;exact⟨rfl,eO bZ _⟩
def Ua (W:World) (q:Qu) (e:Ending) (W':World):Prop:=∃ qb,e=.returned (ptr qb)/\SB W' qb q/\W.heap.size<=qb/\Below W.heap.size W W'
theorem Eo (W:World) (c:Cf) (w:Int):Calls prog 93 #[c.val,.i w] W (Ua W (Qu.leave c w)):=by
 go_enter func93,ntmps93
 simp only[Cf.val,Cf.cells];go_wp2_with fail;go_ret;refine⟨W.heap.size+1,rfl,?_,ag,(bZ.alloc aQ _).alloc au _⟩;exact heap_alloc2_new _ _ _
theorem wH (W:World) (c:Cf):Calls prog 171 #[c.val] W (Ua W (Qu.drain c)):=by
 go_enter func171,ntmps171
 simp only[Cf.val,Cf.cells];go_wp2_with fail;go_ret;refine⟨W.heap.size+1,rfl,?_,ag,(bZ.alloc aQ _).alloc au _⟩;exact heap_alloc2_new _ _ _
theorem DN (W:World) (c:Cf) (w:Int):Calls prog 184 #[c.val,.i w] W (Ua W (Qu.enter c w)):=by
 go_enter func184,ntmps184
 simp only[Cf.val,Cf.cells];go_wp2_with fail;go_ret;refine⟨W.heap.size+1,rfl,?_,ag,(bZ.alloc aQ _).alloc au _⟩;exact heap_alloc2_new _ _ _
end Mc
end Go.Proofs.YtbklamnimfmjkaaGreatDoor
