/- Part 25 of the walks and plain laws that the last text joins. -/
import Derived.Test.YtbklamnimfmjkaaGreatDoorKB10
import Derived.Test.YtbklamnimfmjkaaGreatDoorKB11
import Derived.Test.YtbklamnimfmjkaaGreatDoorKB12
set_option maxRecDepth 100000
set_option maxHeartbeats 16000000
set_option linter.all false
open Go.Proofs.Tryz
namespace Go.Proofs.YtbklamnimfmjkaaGreatDoor
namespace Cl
open Go.RowKit Hp Slot ah ai
theorem Ur {W:World} {tb mb wb:Nat} {lo ro:Option Nat} {t:Tk.Tk} {ws:List Int} {tc:Int} (h:bz W tb mb wb lo ro t ws tc) (hok:Tk.dR t ws) (ht:0<=tc/\tc<=4000000000000000000) (hk:t.st=12) (good:Bool):Calls prog 237 #[ptr tb,ptr mb,.bool good] W (dI W tb mb wb lo ro t ws tc good):=by
 unfold dI;obtain⟨r,hl⟩:=hok.kz hk;have hro:=hok.rt r hl;obtain⟨rb,rfl,hR⟩:=h.ret r hl;have hA:=h.ra rb rfl;have hrt:t.ret=r:=by unfold Tk.Tk.ret;rw[hl];rfl
 have hst:=jS hR h.mem hA.1 ht h.laid hro.1 hro.2 (by have:=hok.len;omega);rw[Tk.uA hk,hrt];clear hR hrt hl hro;generalize r.step ws=q at *;obtain⟨b,r',aC,n⟩:=q;dsimp only at *;have c12:=cP rb (h.cell 12);have H:=uH h;clear h;cases b
 ·rw[if_neg au]
  go_enter func237,ntmps237
  go_wp2_with fail;refine hst.mono ?_;rintro e w5 ⟨rfl,Dt,gq,dS⟩;have h5:=H.out.lK rfl dS Dt gq;have q5:=(TR.refl (W:=W) (tb:=tb) (mb:=mb) (wb:=wb) (lo:=lo) (ro:=some rb)).aK dS (fun k e=>e.elim (fun e=>.inl (.inr (.inr (by rw[e])))) .inr);have H5:=uH h5;have Q5:=uH q5;clear h5 q5 hst c12 Dt gq dS;go_wp2_with fail
  first | go_end0 | refine bP ?_
  exact⟨rfl,lo,some rb,H5.out,Q5.out⟩
 ·rw[if_pos rfl];have hdn:=fun w (h:cK w rb r')=>oI h
  cases hsw:r'.swapped
  all_goals rw[hsw]at hdn
  focus
   rw[if_neg au]
  rotate_left
  focus
   rw[if_pos rfl]
  rotate_left
  all_goals
   go_enter func237,ntmps237
   go_wp2_with fail;refine hst.mono ?_;rintro e w5 ⟨rfl,Dt,gq,dS⟩;have h5:=H.out.lK rfl dS Dt gq;have q5:=(TR.refl (W:=W) (tb:=tb) (mb:=mb) (wb:=wb) (lo:=lo) (ro:=some rb)).aK dS (fun k e=>e.elim (fun e=>.inl (.inr (.inr (by rw[e])))) .inr);have d6:=cC t.st (h5.cell 6);have Df:=h5.frozen 6;have d12:=cP rb (h5.cell 12);have h6:=h5.put 6 (.i 11) {t with rt:=some r',st:=11} rfl rfl rfl rfl;have q6:=q5.set 6 (.i 11);obtain⟨rb',RX,Qy⟩:=h6.ret r' rfl;cases RX;have GD:=hdn _ Qy;have H6:=uH h6;have Q6:=uH q6;clear h5 q5 h6 q6 hst c12 Dt gq dS Qy hdn;go_wp2_with fail;refine GD.mono ?_;rintro e w7 ⟨rfl,cB⟩;have h7:=H6.out.below cB;have q7:=Q6.out.below cB
  ·have H7:=uH h7;have Q7:=uH q7;clear h7 q7 GD cB;go_wp2_with fail
   first | go_end0 | refine bP ?_
   exact⟨rfl,lo,some rb,H7.out,Q7.out⟩
  ·have hcl:=iL h7 5;have Q7:=uH q7;clear h7 q7 GD cB;go_wp2_with fail;refine hcl.mono ?_;rintro e w8 ⟨rfl,Rm,Rn,h8,r8⟩;have H8:=uH h8;have Q8:=uH (Q7.out.trans r8);clear hcl h8 r8;go_wp2_with fail
   first | go_end0 | refine bP ?_
   exact⟨rfl,Rm,Rn,H8.out,Q8.out⟩
def oh:List Value:=[.func (.func 225) #[] #[],.func (.func 226) #[] #[],.func (.func 227) #[] #[],.func (.func 228) #[] #[],.func (.func 229) #[] #[],.func (.func 230) #[] #[],.func (.func 231) #[] #[],.func (.func 232) #[] #[],.func (.func 233) #[] #[],.func (.func 234) #[] #[],.func (.func 235) #[] #[],.func (.func 236) #[] #[],.func (.func 237) #[] #[],.func (.func 238) #[] #[],.func (.func 239) #[] #[],.func (.func 240) #[] #[]]
abbrev Mo:Array Value:=#[.nilFunc,.nilFunc,.nilFunc,.nilFunc,.nilFunc,.nilFunc,.nilFunc,.nilFunc,.nilFunc,.nilFunc,.nilFunc,.nilFunc,.nilFunc,.nilFunc,.nilFunc,.nilFunc]
theorem uK (W:World):Calls prog 183 #[] W fun e W'=>e=.returned (.agg ⟨oh⟩)/\Below W.heap.size W W':=by
 have hz:af (W.alloc (.cells Mo 206)) W.heap.size Mo 206:=heap_alloc_new W _;have hB:Below W.heap.size W (W.alloc (.cells Mo 206)):=bZ.alloc aQ _
 go_enter func183,ntmps183
 go_upto_region 1 with(fail);refine wp_region_lit ?_;refine gl (.agg ⟨oh⟩) ?_;refine uR hz ⟨oh⟩ 206 (.tmp 0) (.tmp 1) ?_;go_wp2_with fail;refine N7 W.heap.size (hz.set ⟨oh⟩) underlying206 ?_;exact⟨rfl,bX hB aQ _⟩
theorem ZU (n:Nat):((n:Int) == 15)=decide (n=15):=by
 rw[Bool.eq_iff_iff];simp;omega
theorem Mq (W:World) {st G:Nat} (hF:oh[st]? =some (.func (.func G) #[] #[])):(Instr.index 206 (.agg ⟨oh⟩) (.i st)).run prog W=.ok (.func (.func G) #[] #[]) W:=by
 have hl:st < 16:=by
  have:=(List.getElem?_eq_some_iff.1 hF).1
  simpa [oh] using this
 have hcases:st=0\/st=1\/st=2\/st=3\/st=4\/st=5\/st=6\/st=7\/st=8\/st=9\/st=10\/st=11\/st=12\/st=13\/st=14\/st=15:=ag
 rcases hcases with rfl | rfl | rfl | rfl | rfl | rfl | rfl | rfl | rfl | rfl | rfl | rfl | rfl | rfl | rfl | rfl<;>(cases hF;rfl)
theorem Jg {t:Tk.Tk} {ws:List Int} (hok:Tk.dR t ws):∃ F,(∀ args w,(callFunc F args).run prog w=.ok (.enter F args) w)/\oh[t.st]? =some (.func (.func F) #[] #[])/\
  ∀ {W:World} {tb mb wb:Nat} {lo ro:Option Nat} {tc:Int},bz W tb mb wb lo ro t ws tc->0<=tc/\tc<=4000000000000000000->∀ good,Calls prog F #[ptr tb,ptr mb,.bool good] W (dI W tb mb wb lo ro t ws tc good):=by
 have hst:=hok.st;have hcases:t.st=0\/t.st=1\/t.st=2\/t.st=3\/t.st=4\/t.st=5\/t.st=6\/t.st=7\/t.st=8\/t.st=9\/t.st=10\/t.st=11\/t.st=12\/t.st=13\/t.st=14\/t.st=15:=ag
 rcases hcases with hk | hk | hk | hk | hk | hk | hk | hk | hk | hk | hk | hk | hk | hk | hk | hk
 ·exact⟨_,aH func225,by rw[hk];rfl,fun h ht good=>Mk h hok ht hk good⟩
 ·exact⟨_,aH func226,by rw[hk];rfl,fun h ht good=>Xe h hok ht hk good⟩
 ·exact⟨_,aH func227,by rw[hk];rfl,fun h ht good=>Jc h hok ht hk good⟩
 ·exact⟨_,aH func228,by rw[hk];rfl,fun h ht good=>Xf h hok ht hk good⟩
 ·exact⟨_,aH func229,by rw[hk];rfl,fun h ht good=>Je h hok ht hk good⟩
 ·exact⟨_,aH func230,by rw[hk];rfl,fun h ht good=>Un h hok ht hk good⟩
 ·exact⟨_,aH func231,by rw[hk];rfl,fun h ht good=>EL h hok ht hk good⟩
 ·exact⟨_,aH func232,by rw[hk];rfl,fun h ht good=>Uj h hok ht hk good⟩
 ·exact⟨_,aH func233,by rw[hk];rfl,fun h ht good=>EK h hok ht hk good⟩
 ·exact⟨_,aH func234,by rw[hk];rfl,fun h ht good=>Uq h hok ht hk good⟩
 ·exact⟨_,aH func235,by rw[hk];rfl,fun h ht good=>PD h hok ht hk good⟩
 ·exact⟨_,aH func236,by rw[hk];rfl,fun h ht good=>Uk h hok ht hk good⟩
 ·exact⟨_,aH func237,by rw[hk];rfl,fun h ht good=>Ur h hok ht hk good⟩
 ·exact⟨_,aH func238,by rw[hk];rfl,fun h ht good=>PG h hok ht hk good⟩
 ·exact⟨_,aH func239,by rw[hk];rfl,fun h ht good=>CK h hok ht hk good⟩
 ·refine⟨_,aH func240,by rw[hk];rfl,fun h ht good=>?_⟩;unfold dI;rw[Tk.uD hk];refine(rest_step h good).mono ?_;rintro e w' ⟨rfl,lo',ro',h',r'⟩;exact⟨rfl,lo',ro',by simpa using h',r'⟩
def rE (W:World) (tb mb wb:Nat) (lo ro:Option Nat) (t:Tk.Tk) (ws:List Int) (tc:Int) (good:Bool):Ending->World->Prop:=
 jk W tb mb wb lo ro (.bool (decide ((t.step ws good).1.st=15))) (t.step ws good).1 (t.step ws good).2.1 (tc+(t.step ws good).2.2)
theorem jY {W:World} {tb mb wb:Nat} {lo ro:Option Nat} {t:Tk.Tk} {ws:List Int} {tc:Int} (h:bz W tb mb wb lo ro t ws tc) (hok:Tk.dR t ws) (ht:0<=tc/\tc<=4000000000000000000) (good:Bool):Calls prog 123 #[ptr tb,ptr mb,.bool good] W (rE W tb mb wb lo ro t ws tc good):=by
 unfold rE;have hst:=hok.st;obtain⟨G,hE,hF,hm⟩:=Jg hok;have hm2:=fun w (h:bz w tb mb wb lo ro t ws tc)=>hm h ht good
 unfold dI at hm2;generalize t.step ws good=q at *;obtain⟨t',aC,n⟩:=q;dsimp only at *;have c6:=cC t.st (h.cell 6);have H:=uH h;clear h hm
 go_enter func123,ntmps123
 go_upto_region 1 with(fail);refine jr (S:=fun w'=>True) trivial (fun hHeld=>?_);refine tH 1 8 hHeld ?_;refine tH 2 9 hHeld ?_;refine tH 3 10 hHeld ?_;refine tH 6 13 hHeld ?_;refine tH 7 14 hHeld ?_;refine tH 8 15 hHeld ?_;refine gI (i:=0) (k:=4) ax ?_ ?_
 focus
  refine bI 183 #[] #[] (some 7) none ax ax #[] ax (aH func183) ?_;refine(uK _).mono ?_;rintro e w5 ⟨rfl,hb5⟩;have h5:=(H.out.below bY).below hb5;have Q5:=uH (((TR.refl (W:=W) (tb:=tb) (mb:=mb) (wb:=wb) (lo:=lo) (ro:=ro)).below bY).below hb5);have hS5:=hm2 w5 h5;have e6:=cC t.st (h5.cell 6);clear h5;refine⟨_,rfl,trivial,fun hHeld=>ay ?_⟩
  refine rK 4 11 (.i t.st) hHeld ?_ (by go_simp;try with_reducible rfl)
 rotate_left
 focus
  refine aY (some 11) (.i t.st) ax ax (by go_simp;try with_reducible rfl) trivial (fun hHeld=>ay ?_)
  refine mP (i:=0) 183 #[] #[] (some 7) none #[] (aH func183) ?_;refine(uK _).mono ?_;rintro e w5 ⟨rfl,hb5⟩;have h5:=(H.out.below bY).below hb5;have Q5:=uH (((TR.refl (W:=W) (tb:=tb) (mb:=mb) (wb:=wb) (lo:=lo) (ro:=ro)).below bY).below hb5);have hS5:=hm2 w5 h5;have e6:=cC t.st (h5.cell 6);clear h5;refine⟨_,rfl,trivial,fun hHeld=>?_⟩
 rotate_left
 all_goals
  try simp only[Act.put,sA,sZ,sS]
  have hix:=Mq w5 hF;refine rK 5 12 (.func (.func G) #[] #[]) hHeld ?_ (by go_simp;try with_reducible rfl)
  try simp only[Act.put,sA,sZ,sS]
  refine Yc (i:=9) G 12 #[.tmp 13,.tmp 14,.tmp 15] #[128,70,4] (some 16) none #[ptr tb,ptr mb,.bool good] hE ax ?_;refine hS5.mono ?_;rintro e w6 ⟨rfl,nN,nM,h6,r6⟩;refine⟨_,rfl,trivial,fun hHeld=>ay ?_⟩
  refine iR ?_;have q6:=Q5.out.trans r6;have d6:=cC t'.st (h6.cell 6);have H6:=uH h6;have Q6:=uH q6;clear h6 r6 q6 hS5;go_wp2_with fail;go_ret;exact⟨Base.aN (ZU _),nN,nM,H6.out,Q6.out⟩
end Cl
end Go.Proofs.YtbklamnimfmjkaaGreatDoor
