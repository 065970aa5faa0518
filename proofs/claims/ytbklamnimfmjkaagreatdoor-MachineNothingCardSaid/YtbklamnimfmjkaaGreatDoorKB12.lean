/- Part 12 of the walks and plain laws that the last text joins. -/
import Derived.Test.YtbklamnimfmjkaaGreatDoorKB9
set_option maxRecDepth 100000
set_option maxHeartbeats 16000000
set_option linter.all false
open Go.Proofs.Tryz
namespace Go.Proofs.YtbklamnimfmjkaaGreatDoor
namespace Cl
open Go.RowKit Hp Slot ah ai
theorem CK {W:World} {tb mb wb:Nat} {lo ro:Option Nat} {t:Tk.Tk} {ws:List Int} {tc:Int} (h:bz W tb mb wb lo ro t ws tc) (hok:Tk.dR t ws) (ht:0<=tc/\tc<=4000000000000000000) (hk:t.st=14) (good:Bool):Calls prog 239 #[ptr tb,ptr mb,.bool good] W (dI W tb mb wb lo ro t ws tc good):=by
 unfold dI;have hc:Small t.cf:=⟨hok.c.w,hok.c.s⟩
 have hlen:=og hok hok.i;have hsw:=fun w (h:bz w tb mb wb lo ro t ws tc)=>pE h hc ht t.i hok.i hlen t.word 16 (by simp[gD])
 have hst:=Tk.iY t t.i t.word 16 ws;have iJ:=kL h t.word 16 (by simp[gD]);rw[Tk.uC hk];have enx:((dec t.word).bind fun s=>Tk.bC s 16 t.w 0)=nx t.word 16 t.w 0:=rfl;rw[enx];clear enx;generalize t.swap t.i t.word 16 ws=q at *;generalize nx t.word 16 t.w 0=N at *;obtain⟨b,t',aC,n⟩:=q;dsimp only at *;have hi:t'.i=t.i:=by rcases hst with⟨x,g,e,-⟩ | ⟨e,-⟩<;>rw[e]
 have c8:=cC t.i (h.cell 8);have c9:=cC t.word (h.cell 9);have H:=uH h;have HI:=uH hi;clear h hst hi
 cases N with
 | none=>
  simp only[Option.getD_none,Option.isSome_none,Option.getD_some,Option.isSome_some,wG]at iJ;dsimp only
  go_enter func239,ntmps239
  go_wp2_with fail;refine iJ.mono ?_;rintro e w5 ⟨rfl,hb5⟩;clear iJ;dsimp only;go_step;refine gl (.tuple #[S.zero.val,.i 0,.bool false]) ?_;refine gl S.zero.val ?_;refine gl (.i 0) ?_;refine gl (.bool false) ?_;refine dU (ob:=.cells av 57) (Z:=av) (cs:=S.zero.cells) (t:=57) 57 (.tmp 6) (.tmp 16) rfl ?_;refine gl (.i 0) ?_;refine gl (.bool false) (ay ?_)
  rw[aG];have hb6:Below W.heap.size W (w5.alloc (.cells S.zero.cells 57)):=hb5.alloc hb5.size _;have hs6:af (w5.alloc (.cells S.zero.cells 57)) w5.heap.size S.zero.cells 57:=heap_alloc_new w5 _;have hsb:=hb5.size;generalize (w5.alloc (.cells S.zero.cells 57))=w6 at *;generalize w5.heap.size=sb at *;have h6:=H.out.below hb6;have q6:=(TR.refl (W:=W) (tb:=tb) (mb:=mb) (wb:=wb) (lo:=lo) (ro:=ro)).below hb6;have hcl:=iL h6 5;have Q6:=uH q6;clear h6 q6 hb5 hb6 hs6 hsw c8 c9;go_wp2_with fail;refine hcl.mono ?_;rintro e w7 ⟨rfl,BF,BG,h7,r7⟩;have H7:=uH h7;have Q7:=uH (Q6.out.trans r7);clear hcl h7 r7;go_wp2_with fail
  first | go_end0 | refine bP ?_
  exact⟨rfl,BF,BG,by simpa using H7.out,Q7.out⟩
 | some s=>
  simp only[Option.getD_none,Option.isSome_none,Option.getD_some,Option.isSome_some,wG]at iJ;dsimp only
  by_cases hs3:s.state=3
  all_goals cases b
  focus
   have:True:=trivial;rw[if_neg au]
  rotate_left
  focus
   have:True:=trivial;rw[if_pos rfl];rw[if_pos hs3]
  rotate_left
  focus
   have:True:=trivial;rw[if_neg au]
  rotate_left
  focus
   have:True:=trivial;rw[if_pos rfl];rw[if_neg hs3]
  rotate_left
  all_goals
   dsimp only
   go_enter func239,ntmps239
   go_wp2_with fail;refine iJ.mono ?_;rintro e w5 ⟨rfl,hb5⟩;clear iJ;dsimp only;go_step;refine gl (.tuple #[s.val,.i s.word,.bool true]) ?_;refine gl s.val ?_;refine gl (.i s.word) ?_;refine gl (.bool true) ?_;refine dU (ob:=.cells av 57) (Z:=av) (cs:=s.cells) (t:=57) 57 (.tmp 6) (.tmp 16) rfl ?_;refine gl (.i s.word) ?_;refine gl (.bool true) (ay ?_)
   rw[aG];have hb6:Below W.heap.size W (w5.alloc (.cells s.cells 57)):=hb5.alloc hb5.size _;have hs6:af (w5.alloc (.cells s.cells 57)) w5.heap.size s.cells 57:=heap_alloc_new w5 _;have hsb:=hb5.size;generalize (w5.alloc (.cells s.cells 57))=w6 at *;generalize w5.heap.size=sb at *;have h6:=H.out.below hb6;have q6:=(TR.refl (W:=W) (tb:=tb) (mb:=mb) (wb:=wb) (lo:=lo) (ro:=ro)).below hb6;have d8:=cC t.i (h6.cell 8);have d9:=cC t.word (h6.cell 9);have H6:=uH h6;have Q6:=uH q6;have hml:=h6.mem.lt
   have Jf:sb≠tb/\sb≠mb/\sb≠wb/\lo≠some sb/\ro≠some sb:=by
    obtain⟨a1,a2,a3,a4⟩:=H.out.jh hsb;exact⟨a2,a1.m,a1.w,a4,a3⟩
   clear h6 q6 hb5 hb6 c8 c9;go_upto_region 4 with(fail);refine jr (S:=fun w'=>w'.cell? ⟨tb,8,none⟩=some (.i t.i)) (by exact d8) (fun hHeld=>?_);refine tH 0 28 hHeld ?_;refine tH 1 29 hHeld ?_;refine tH 2 30 hHeld ?_;refine tH 3 31 hHeld ?_;refine tH 4 32 hHeld ?_;refine tH 5 33 hHeld ?_;refine tH 6 34 hHeld ?_;refine tH 7 35 hHeld ?_;refine tH 8 36 hHeld ?_;refine rK 9 37 (.i t.word) hHeld ?_ (by go_simp;try with_reducible rfl)
   try simp only[Act.put,sA,sZ,sS]
   refine mP (i:=10) 264 #[.tmp 28,.tmp 29,.tmp 33,.tmp 37,.const (.i 16)] #[128,70,3,3,3] (some 38) none #[ptr tb,ptr mb,.i t.i,.i t.word,.i 16] (aH func264) ?_;refine(hsw _ (H6.out.below bY)).mono ?_;rintro e w7 ⟨rfl,BF,BG,h7,r7⟩;have e8:=cC t.i ((h7.cell 8).trans (by show some (Value.int .i64 (t'.i:Int))=_;rw[HI.out]));refine⟨_,rfl,e8,fun hHeld=>ay ?_⟩
   have q7:=(Q6.out.below bY).trans r7;have hs7:af w7 sb s.cells 57:=(r7.2.2.block sb (af.lt (w:=w6.drew) hs6) (fun e=>e.elim (fun e=>e.elim Jf.1 fun e=>e.elim Jf.2.2.2.1 Jf.2.2.2.2) fun e=>e.elim Jf.2.1 Jf.2.2.1)).trans hs6;refine tH 11 39 hHeld ?_;refine tH 12 27 hHeld ?_;refine iR ?_;have g6:=cC t'.st (h7.cell 6);have Yl:=h7.frozen 6;have s0:=cC s.state (af.cell hs7 0)
  focus
   rw[hs3]at s0
  rotate_left
  focus
   rw[hs3]at s0
  rotate_left
  focus
   have hs4:(s.state == 3)=false:=by simpa using hs3
  rotate_left
  focus
   have hs4:(s.state == 3)=false:=by simpa using hs3
  rotate_left
  all_goals
   have H7:=uH h7;have Q7:=uH q7;clear h7 q7 r7 hsw d8 d9 e8 hHeld hs6 hs7 Jf hml;go_wp2_with fail
   first | go_end0 | refine bP ?_
  ·exact⟨rfl,BF,BG,H7.out.put 6 (.i 13) {t' with st:=13} rfl rfl rfl rfl,Q7.out.set 6 _⟩
  ·exact⟨rfl,BF,BG,H7.out.put 6 (.i 10) {t' with st:=10} rfl rfl rfl rfl,Q7.out.set 6 _⟩
  ·exact⟨rfl,BF,BG,H7.out.put 6 (.i 13) {t' with st:=13} rfl rfl rfl rfl,Q7.out.set 6 _⟩
  ·exact⟨rfl,BF,BG,H7.out.put 6 (.i 9) {t' with st:=9} rfl rfl rfl rfl,Q7.out.set 6 _⟩
end Cl
end Go.Proofs.YtbklamnimfmjkaaGreatDoor
