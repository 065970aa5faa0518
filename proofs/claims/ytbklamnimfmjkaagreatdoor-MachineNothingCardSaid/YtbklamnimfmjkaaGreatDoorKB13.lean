/- Part 13 of the walks and plain laws that the last text joins. -/
import Derived.Test.YtbklamnimfmjkaaGreatDoorKB9
set_option maxRecDepth 100000
set_option maxHeartbeats 16000000
set_option linter.all false
open Go.Proofs.Tryz
namespace Go.Proofs.YtbklamnimfmjkaaGreatDoor
namespace Cl
open Go.RowKit Hp Slot ah ai
theorem E5 {W:World} {tb mb wb:Nat} {lo ro:Option Nat} {t:Ty.Ty} {ws:List Int} {tc:Int} (h:bu W tb mb wb lo ro t ws tc) (hc:Small t.cf) (ht:0<=tc/\tc<=4000000000000000000) (hi:t.i < Tk.ns t.cf) (hlen:Tk.sc t.cf t.i < ws.length) (d:Nat) (hd:kK d) (own:Int) (hN:dec t.word=none):
  Calls prog 247 #[ptr tb,ptr mb,.i d,.i own] W (kY W tb mb wb lo ro (.bool false) t ws tc):=by
 have hdc:=aS W t.word h.laid;rw[hN]at hdc;simp only[Option.getD_none,Option.isSome_none]at hdc;have c12:=cC t.word (h.cell 12);have H:=uH h;clear h
 go_enter func247,ntmps247
 go_wp2_with fail;refine hdc.mono ?_;rintro e w5 ⟨rfl,hb5⟩;dsimp only;go_step;refine gl (.tuple #[S.zero.val,.bool false]) ?_;refine gl S.zero.val ?_;refine gl (.bool false) ?_;refine dU (ob:=.cells av 57) (Z:=av) (cs:=S.zero.cells) (t:=57) 57 (.tmp 9) (.tmp 18) rfl ?_;refine gl (.bool false) (ay ?_)
 rw[aG];have hB:Below W.heap.size W (w5.alloc (.cells S.zero.cells 57)):=hb5.alloc hb5.size _;generalize (w5.alloc (.cells S.zero.cells 57))=wa at *;clear hdc hb5;go_wp2_with fail;go_ret;exact⟨rfl,lo,ro,H.out.below hB,Grow.refl,Grow.refl,aD.aF hB⟩
theorem uf:(∀ {W:World} {tb mb wb:Nat} {lo ro:Option Nat} {t:Ty.Ty} {ws:List Int} {tc:Int} (h:bu W tb mb wb lo ro t ws tc) (hc:Small t.cf) (ht:0<=tc/\tc<=4000000000000000000) (hi:t.i < Tk.ns t.cf) (hlen:Tk.sc t.cf t.i < ws.length) (d:Nat) (hd:kK d) (own:Int) {s:S} (hD:dec t.word=some s) (hN:Tk.bC s d own 0=none),Calls prog 247 #[ptr tb,ptr mb,.i d,.i own] W (kY W tb mb wb lo ro (.bool false) t ws tc))/\(∀ {W:World} {tb mb wb:Nat} {lo ro:Option Nat} {t:Ty.Ty} {ws:List Int} {tc:Int} (h:bu W tb mb wb lo ro t ws tc) (hc:Small t.cf) (ht:0<=tc/\tc<=4000000000000000000) (hi:t.i < Tk.ns t.cf) (hlen:Tk.sc t.cf t.i < ws.length) (d:Nat) (hd:kK d) (own:Int) {s n:S} (hD:dec t.word=some s) (hN:Tk.bC s d own 0=some n) (hx:Tk.rd ws (Tk.sc t.cf t.i)=t.word),Calls prog 247 #[ptr tb,ptr mb,.i d,.i own] W (kY W tb mb wb lo ro (.bool true) t (ws.set (Tk.sc t.cf t.i) n.word) (tc+1)))/\(∀ {W:World} {tb mb wb:Nat} {lo ro:Option Nat} {t:Ty.Ty} {ws:List Int} {tc:Int} (h:bu W tb mb wb lo ro t ws tc) (hc:Small t.cf) (ht:0<=tc/\tc<=4000000000000000000) (hi:t.i < Tk.ns t.cf) (hlen:Tk.sc t.cf t.i < ws.length) (d:Nat) (hd:kK d) (own:Int) {s n:S} (hD:dec t.word=some s) (hN:Tk.bC s d own 0=some n) (hx:Tk.rd ws (Tk.sc t.cf t.i)≠t.word),Calls prog 247 #[ptr tb,ptr mb,.i d,.i own] W (kY W tb mb wb lo ro (.bool false) t ws (tc+1))):=by
 refine⟨?_,?_,?_⟩
 focus
  intro W tb mb wb lo ro t ws tc h hc ht hi hlen d hd own s hD hN;have hdc:=aS W t.word h.laid;rw[hD]at hdc;simp only[Option.getD_some,Option.isSome_some]at hdc;have xG:=(gM hD).1;have hnx:=fun w' hL=>tX w' s d own 0 hd xG hL
  rw[hN]at hnx;simp only[Option.getD_none,Option.isSome_none]at hnx
 rotate_left
 focus
  intro W tb mb wb lo ro t ws tc h hc ht hi hlen d hd own s n hD hN hx;have hnr:=Tk.fC hd.x hN;have hsl:=fun W=>bg W t.cf t.i hc.w ⟨by have:=hc.s;unfold Tk.ns at hi;omega,hc.s.2⟩
  have hsc:(3+2 * t.cf.workers+(t.i:Int))=((Tk.sc t.cf t.i:Nat):Int):=by have:=hc.w;unfold Tk.sc;omega
  simp only[hsc,aj.Cf.val,aj.Cf.cells]at hsl;have hrd:=rd_some hlen;rw[hx]at hrd;have hcs:=fun W (h:bB W mb wb ws tc)=>jv h ht (Tk.sc t.cf t.i) t.word hrd n.word
  clear hrd hsc;have hdc:=aS W t.word h.laid;rw[hD]at hdc;simp only[Option.getD_some,Option.isSome_some]at hdc;have xG:=(gM hD).1;have hnx:=fun w' hL=>tX w' s d own 0 hd xG hL
  rw[hN]at hnx;simp only[Option.getD_some,Option.isSome_some]at hnx
 rotate_left
 focus
  intro W tb mb wb lo ro t ws tc h hc ht hi hlen d hd own s n hD hN hx;have hnr:=Tk.fC hd.x hN;have hsl:=fun W=>bg W t.cf t.i hc.w ⟨by have:=hc.s;unfold Tk.ns at hi;omega,hc.s.2⟩
  have hsc:(3+2 * t.cf.workers+(t.i:Int))=((Tk.sc t.cf t.i:Nat):Int):=by have:=hc.w;unfold Tk.sc;omega
  simp only[hsc,aj.Cf.val,aj.Cf.cells]at hsl;have hrd:=rd_some hlen;generalize Tk.rd ws (Tk.sc t.cf t.i)=x at *;have hcs:=fun W (h:bB W mb wb ws tc)=>jw h ht (Tk.sc t.cf t.i) x hrd t.word n.word hx
  clear hrd hsc;have hdc:=aS W t.word h.laid;rw[hD]at hdc;simp only[Option.getD_some,Option.isSome_some]at hdc;have xG:=(gM hD).1;have hnx:=fun w' hL=>tX w' s d own 0 hd xG hL
  rw[hN]at hnx;simp only[Option.getD_some,Option.isSome_some]at hnx
 rotate_left
 all_goals
  have c12:=cC t.word (h.cell 12);have H:=uH h;clear h
  go_enter func247,ntmps247
  go_wp2_with fail;refine hdc.mono ?_;rintro e w5 ⟨rfl,hb5⟩;dsimp only;go_step;refine gl (.tuple #[s.val,.bool true]) ?_;refine gl s.val ?_;refine gl (.bool true) ?_;refine dU (ob:=.cells av 57) (Z:=av) (cs:=s.cells) (t:=57) 57 (.tmp 9) (.tmp 18) rfl ?_;refine gl (.bool true) (ay ?_)
  rw[aG];have hB:Below W.heap.size W (w5.alloc (.cells s.cells 57)):=hb5.alloc hb5.size _;have hs:af (w5.alloc (.cells s.cells 57)) w5.heap.size s.cells 57:=heap_alloc_new w5 _;have hsb:=hb5.size;generalize (w5.alloc (.cells s.cells 57))=wa at *;generalize w5.heap.size=sb at *;clear hdc hb5;have hnx:=hnx wa (H.out.below hB).laid;go_upto_region 4 with(fail);refine wp_region_lit ?_;refine grow hs 57 (.tmp 9) underlying57 (ay ?_)
  refine gl (.i d) (ay ?_)
  refine gl (.i own) (ay ?_)
  refine pM 72 #[.tmp 23,.tmp 24,.tmp 25,.const (.i 0)] #[57,3,3,3] #[s.val,.i d,.i own,.i 0] (aH func72) ?_;refine hnx.mono ?_;rintro e w6 ⟨rfl,hb6⟩;refine⟨_,rfl,?_⟩;have hs6:af w6 sb s.cells 57:=af.below hs hb6;have kS:=hB.trans (hb6.mono hB.size);clear hs hnx hb6 hB
  try simp only[Act.put,sA,sZ,sS]
 ·refine gl (.tuple #[S.zero.val,.bool false]) (ay ?_)
  refine gl S.zero.val (ay ?_)
  refine gl (.bool false) (ay ?_)
  refine uR hs6 S.zero.cells 57 (.tmp 9) (.tmp 27) (ay ?_)
  refine gl (.bool false) (ay ?_)
  have hs7:af (w6.setRow sb S.zero.cells) sb S.zero.cells 57:=hs6.set _;have kN:Below W.heap.size W (w6.setRow sb S.zero.cells):=bX kS ag _;generalize (w6.setRow sb S.zero.cells)=w7 at *;clear hs6 kS;go_wp2_with fail;go_ret;exact⟨rfl,lo,ro,H.out.below kN,Grow.refl,Grow.refl,aD.aF kN⟩
 rotate_left;rotate_left
 all_goals
  refine gl (.tuple #[n.val,.bool true]) (ay ?_)
  refine gl n.val (ay ?_)
  refine gl (.bool true) (ay ?_)
  refine uR hs6 n.cells 57 (.tmp 9) (.tmp 27) (ay ?_)
  refine gl (.bool true) (ay ?_)
  have hs7:af (w6.setRow sb n.cells) sb n.cells 57:=hs6.set _;have kN:Below W.heap.size W (w6.setRow sb n.cells):=bX kS ag _;generalize (w6.setRow sb n.cells)=w7 at *;clear hs6 kS;have hen:=fP w7 n ((H.out.below kN).laid) hnr;go_upto_region 7 with(fail);refine wp_region_lit ?_;refine grow hs7 57 (.tmp 9) underlying57 (ay ?_)
  refine pM 73 #[.tmp 32] #[57] #[n.val] (aH func73) ?_;refine hen.mono ?_;rintro e w8 ⟨rfl,cZ⟩;refine⟨_,rfl,?_⟩;have SL:=kN.trans (cZ.mono kN.size);clear hs7 kN hen cZ
  try simp only[Act.put,sA,sZ,sS]
  refine gl (.tuple #[.i n.word,.bool true]) (ay ?_)
  refine gl (.i n.word) (ay ?_)
  refine gl (.bool true) (ay ?_)
  refine gl (.i n.word) (ay ?_)
  refine gl (.bool true) (ay ?_)
  have UB:=SL.drew;have h8:=H.out.below UB;have H8:=uH h8;obtain⟨q0,q1,q2,q3,q4⟩:=cQ t.cf h8.cell;have xK:=cC t.i (h8.cell 11);have Vo:=cC t.word (h8.cell 12);clear h8;go_upto_region 8 with(fail);refine jr (S:=(fun w'=>w'.cell? ⟨tb,0,none⟩=some (.i t.cf.workers)/\w'.cell? ⟨tb,1,none⟩=some (.i t.cf.slots)/\w'.cell? ⟨tb,2,none⟩=some (.i t.cf.streams)/\w'.cell? ⟨tb,3,none⟩=some (.i t.cf.waiters)/\w'.cell? ⟨tb,4,none⟩=some (.i t.cf.uses)/\w'.cell? ⟨tb,11,none⟩=some (.i t.i)/\w'.cell? ⟨tb,12,none⟩=some (.i t.word))) (by exact⟨q0,q1,q2,q3,q4,xK,Vo⟩) (fun hHeld=>?_);refine tH 0 36 hHeld ?_;refine tH 1 37 hHeld ?_;refine tH 2 38 hHeld ?_;refine tH 3 39 hHeld ?_;refine tH 4 40 hHeld ?_;refine tH 5 41 hHeld ?_;refine tH 6 42 hHeld ?_;refine tH 7 43 hHeld ?_;refine tH 8 44 hHeld ?_;refine tH 9 45 hHeld ?_;refine tH 10 46 hHeld ?_;refine tH 12 48 hHeld ?_
  refine tH 13 49 hHeld ?_;refine tH 14 50 hHeld ?_;refine tH 15 51 hHeld ?_;refine tH 16 52 hHeld ?_;refine mP (i:=11) 54 #[.tmp 42,.tmp 46] #[27,3] (some 47) (some (1,true)) #[.agg (Ab t.cf.workers t.cf.slots t.cf.streams t.cf.waiters t.cf.uses),.i t.i] (aH func54) ?_;refine(hsl _).mono ?_;rintro e w9 ⟨rfl,dm⟩;have h9:=H8.out.below dm;have hB9:=UB.trans (dm.mono UB.size);obtain⟨r0,r1,r2,r3,r4⟩:=cQ t.cf h9.cell;have QN:=cC t.i (h9.cell 11);have Oy:=cC t.word (h9.cell 12);have XB:=hcs w9 h9.mem;have H9:=uH h9;clear h9 hsl hcs;refine⟨_,rfl,⟨r0,r1,r2,r3,r4,QN,Oy⟩,fun hHeld=>ay ?_⟩
  refine mP (i:=17) 166 #[.tmp 38,.tmp 47,.tmp 51,.tmp 52] #[70,3,3,3] (some 53) (some (1,true)) #[ptr mb,.i (Tk.sc t.cf t.i),.i t.word,.i n.word] (aH func166) ?_;refine(XB).mono ?_;rintro e wb7 ⟨rfl,qQ,eY⟩;have h10:=H9.out.bU eY qQ;obtain⟨u0,u1,u2,u3,u4⟩:=cQ t.cf h10.cell;have u11:=cC t.i (h10.cell 11);have u12:=cC t.word (h10.cell 12);have uZ:=uH h10;have hC:=uH ((aD.aF (F:=fun k=>jo tb lo ro k\/dJ mb wb k) hB9).trans eY (fun _ _ e=>.inr e));clear h10 XB qQ eY;refine⟨_,rfl,⟨u0,u1,u2,u3,u4,u11,u12⟩,fun hHeld=>ay ?_⟩
  refine tH 18 54 hHeld ?_;refine tH 19 8 hHeld ?_;refine iR ?_;go_wp2_with fail;go_ret;exact⟨rfl,lo,ro,uZ.out,Grow.refl,Grow.refl,hC.out⟩
def MQ:=@And.left _ _ uf
def MR:=@And.left _ _ (And.right uf)
def MS:=@And.right _ _ (And.right uf)
theorem mO {W:World} {tb mb wb:Nat} {lo ro:Option Nat} {t:Ty.Ty} {ws:List Int} {tc:Int} (h:bu W tb mb wb lo ro t ws tc) (hc:Small t.cf) (ht:0<=tc/\tc<=4000000000000000000) (hi:t.i < Tk.ns t.cf) (hlen:Tk.sc t.cf t.i < ws.length) (d:Nat) (hd:kK d) (own:Int):
  Calls prog 247 #[ptr tb,ptr mb,.i d,.i own] W (kY W tb mb wb lo ro (.bool (t.swap d own ws).1) t (t.swap d own ws).2.1 (tc+(t.swap d own ws).2.2)):=by
 cases hD:dec t.word with
 | none=>
  have e:t.swap d own ws=(false,ws,0):=by unfold Ty.Ty.swap Tk.bn;rw[hD];rfl
  rw[e]
  simpa using E5 h hc ht hi hlen d hd own hD
 | some s=>
  cases hN:Tk.bC s d own 0 with
  | none=>
   have e:t.swap d own ws=(false,ws,0):=by unfold Ty.Ty.swap Tk.bn;rw[hD];simp only[Option.bind_some,hN];rfl
   rw[e]
   simpa using MQ h hc ht hi hlen d hd own hD hN
  | some n=>
   by_cases hx:Tk.rd ws (Tk.sc t.cf t.i)=t.word
   ·have e:t.swap d own ws=(true,ws.set (Tk.sc t.cf t.i) n.word,1):=by unfold Ty.Ty.swap Tk.bn;rw[hD];simp only[Option.bind_some,hN,Option.map_some,Tk.dF,if_pos hx]
    rw[e];exact MR h hc ht hi hlen d hd own hD hN hx
   ·have e:t.swap d own ws=(false,ws,1):=by unfold Ty.Ty.swap Tk.bn;rw[hD];simp only[Option.bind_some,hN,Option.map_some,Tk.dF,if_neg hx]
    rw[e];exact MS h hc ht hi hlen d hd own hD hN hx
end Cl
end Go.Proofs.YtbklamnimfmjkaaGreatDoor
