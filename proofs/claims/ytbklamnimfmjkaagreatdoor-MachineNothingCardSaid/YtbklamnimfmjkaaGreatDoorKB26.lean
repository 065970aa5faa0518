/- Part 26 of the walks and plain laws that the last text joins. -/
import Derived.Test.YtbklamnimfmjkaaGreatDoorKB15
set_option maxRecDepth 100000
set_option maxHeartbeats 16000000
set_option linter.all false
open Go.Proofs.Tryz
namespace Go.Proofs.YtbklamnimfmjkaaGreatDoor
namespace Cl
open Go.RowKit Hp Slot ah ai
def oq:List Value:=[.func (.func 185) #[] #[],.func (.func 186) #[] #[],.func (.func 187) #[] #[],.func (.func 188) #[] #[],.func (.func 189) #[] #[],.func (.func 190) #[] #[],.func (.func 191) #[] #[],.func (.func 192) #[] #[],.func (.func 193) #[] #[],.func (.func 194) #[] #[],.func (.func 195) #[] #[],.func (.func 196) #[] #[],.func (.func 197) #[] #[],.func (.func 198) #[] #[],.func (.func 199) #[] #[],.func (.func 200) #[] #[],.func (.func 201) #[] #[],.func (.func 202) #[] #[]]
abbrev MO:Array Value:=#[.nilFunc,.nilFunc,.nilFunc,.nilFunc,.nilFunc,.nilFunc,.nilFunc,.nilFunc,.nilFunc,.nilFunc,.nilFunc,.nilFunc,.nilFunc,.nilFunc,.nilFunc,.nilFunc,.nilFunc,.nilFunc]
theorem uL (W:World):Calls prog 128 #[] W fun e W'=>e=.returned (.agg ⟨oq⟩)/\Below W.heap.size W W':=by
 have hz:af (W.alloc (.cells MO 176)) W.heap.size MO 176:=heap_alloc_new W _;have hB:Below W.heap.size W (W.alloc (.cells MO 176)):=bZ.alloc aQ _
 go_enter func128,ntmps128
 go_upto_region 1 with(fail);refine wp_region_lit ?_;refine gl (.agg ⟨oq⟩) ?_;refine uR hz ⟨oq⟩ 176 (.tmp 0) (.tmp 1) ?_;go_wp2_with fail;refine N7 W.heap.size (hz.set ⟨oq⟩) underlying176 ?_;exact⟨rfl,bX hB aQ _⟩
theorem aaa (n:Nat):((n:Int) == 17)=decide (n=17):=by
 rw[Bool.eq_iff_iff];simp;omega
theorem MP (W:World) {st G:Nat} (hF:oq[st]? =some (.func (.func G) #[] #[])):(Instr.index 176 (.agg ⟨oq⟩) (.i st)).run prog W=.ok (.func (.func G) #[] #[]) W:=by
 have hl:st < 18:=by
  have:=(List.getElem?_eq_some_iff.1 hF).1
  simpa [oq] using this
 have hcases:st=0\/st=1\/st=2\/st=3\/st=4\/st=5\/st=6\/st=7\/st=8\/st=9\/st=10\/st=11\/st=12\/st=13\/st=14\/st=15\/st=16\/st=17:=ag
 rcases hcases with rfl | rfl | rfl | rfl | rfl | rfl | rfl | rfl | rfl | rfl | rfl | rfl | rfl | rfl | rfl | rfl | rfl | rfl<;>(cases hF;rfl)
structure XA (t:Ty.Ty) (ws:List Int):Prop where
 p:∀ o:Nat,o < t.cf.workers.toNat->Tk.rd ws (Ty.pc o)<=9223372036854775807
 q:Tk.rd ws 1<=9223372036854775807
theorem Jp {t:Ty.Ty} {ws:List Int} (hok:Ty.eH t ws.length) (hm:XA t ws):∃ F,(∀ args w,(callFunc F args).run prog w=.ok (.enter F args) w)/\oq[t.st]? =some (.func (.func F) #[] #[])/\
  ∀ {W:World} {tb mb wb:Nat} {lo ro:Option Nat} {tc:Int},bu W tb mb wb lo ro t ws tc->0<=tc/\tc<=4000000000000000000->Calls prog F #[ptr tb,ptr mb] W (bL W tb mb wb lo ro t ws tc):=by
 have hst:=hok.st;have hcases:t.st=0\/t.st=1\/t.st=2\/t.st=3\/t.st=4\/t.st=5\/t.st=6\/t.st=7\/t.st=8\/t.st=9\/t.st=10\/t.st=11\/t.st=12\/t.st=13\/t.st=14\/t.st=15\/t.st=16\/t.st=17:=ag
 rcases hcases with hk | hk | hk | hk | hk | hk | hk | hk | hk | hk | hk | hk | hk | hk | hk | hk | hk | hk
 ·exact⟨_,aH func185,by rw[hk];rfl,fun h ht=>PO h hok ht hk⟩
 ·exact⟨_,aH func186,by rw[hk];rfl,fun h ht=>Xm h hok ht hk⟩
 ·exact⟨_,aH func187,by rw[hk];rfl,fun h ht=>EY h hok ht hk⟩
 ·exact⟨_,aH func188,by rw[hk];rfl,fun h ht=>PY h hok ht hk⟩
 ·exact⟨_,aH func189,by rw[hk];rfl,fun h ht=>Ut h hok ht hk⟩
 ·exact⟨_,aH func190,by rw[hk];rfl,fun h ht=>Xp h hok ht hk⟩
 ·exact⟨_,aH func191,by rw[hk];rfl,fun h ht=>Uy h hok ht hk hm.p⟩
 ·exact⟨_,aH func192,by rw[hk];rfl,fun h ht=>PZ h hok ht hk⟩
 ·exact⟨_,aH func193,by rw[hk];rfl,fun h ht=>Uz h hok ht hk hm.q⟩
 ·exact⟨_,aH func194,by rw[hk];rfl,fun h ht=>Uu h hok ht hk⟩
 ·exact⟨_,aH func195,by rw[hk];rfl,fun h ht=>Uv h hok ht hk⟩
 ·exact⟨_,aH func196,by rw[hk];rfl,fun h ht=>Xv h hok ht hk⟩
 ·exact⟨_,aH func197,by rw[hk];rfl,fun h ht=>P6 h hok ht hk⟩
 ·exact⟨_,aH func198,by rw[hk];rfl,fun h ht=>Uw h hok ht hk⟩
 ·exact⟨_,aH func199,by rw[hk];rfl,fun h ht=>MM h hok ht hk⟩
 ·exact⟨_,aH func200,by rw[hk];rfl,fun h ht=>PW h hok ht hk⟩
 ·exact⟨_,aH func201,by rw[hk];rfl,fun h ht=>PX h hok ht hk⟩
 ·refine⟨_,aH func202,by rw[hk];rfl,fun h ht=>?_⟩;unfold bL;rw[Ty.FD hk];refine(EX h).mono ?_;rintro e w' ⟨rfl,lo',ro',h',r'⟩;exact⟨rfl,lo',ro',by simpa using h',r'⟩
def mJ (W:World) (tb mb wb:Nat) (lo ro:Option Nat) (t:Ty.Ty) (ws:List Int) (tc:Int):Ending->World->Prop:=
 kY W tb mb wb lo ro (.bool (decide ((t.step ws).1.st=17))) (t.step ws).1 (t.step ws).2.1 (tc+(t.step ws).2.2)
theorem tV {W:World} {tb mb wb:Nat} {lo ro:Option Nat} {t:Ty.Ty} {ws:List Int} {tc:Int} (h:bu W tb mb wb lo ro t ws tc) (hok:Ty.eH t ws.length) (hme:XA t ws) (ht:0<=tc/\tc<=4000000000000000000):Calls prog 92 #[ptr tb,ptr mb] W (mJ W tb mb wb lo ro t ws tc):=by
 unfold mJ;have hst:=hok.st;obtain⟨G,hE,hF,hm⟩:=Jp hok hme;have hm2:=fun w (h:bu w tb mb wb lo ro t ws tc)=>hm h ht
 unfold bL at hm2;generalize t.step ws=q at *;obtain⟨t',aC,n⟩:=q;dsimp only at *;have c6:=cC t.st (h.cell 6);have H:=uH h;clear h hm
 go_enter func92,ntmps92
 go_upto_region 1 with(fail);refine jr (S:=fun w'=>True) trivial (fun hHeld=>?_);refine tH 1 6 hHeld ?_;refine tH 2 7 hHeld ?_;refine tH 3 8 hHeld ?_;refine tH 6 11 hHeld ?_;refine tH 7 12 hHeld ?_;refine gI (i:=0) (k:=4) ax ?_ ?_
 focus
  refine bI 128 #[] #[] (some 5) none ax ax #[] ax (aH func128) ?_;refine(uL _).mono ?_;rintro e w5 ⟨rfl,hb5⟩;have h5:=(H.out.below bY).below hb5;have Q5:=uH (((TR.refl (W:=W) (tb:=tb) (mb:=mb) (wb:=wb) (lo:=lo) (ro:=ro)).below bY).below hb5);have hS5:=hm2 w5 h5;have e6:=cC t.st (h5.cell 6);clear h5;refine⟨_,rfl,trivial,fun hHeld=>ay ?_⟩
  refine rK 4 9 (.i t.st) hHeld ?_ (by go_simp;try with_reducible rfl)
 rotate_left
 focus
  refine aY (some 9) (.i t.st) ax ax (by go_simp;try with_reducible rfl) trivial (fun hHeld=>ay ?_)
  refine mP (i:=0) 128 #[] #[] (some 5) none #[] (aH func128) ?_;refine(uL _).mono ?_;rintro e w5 ⟨rfl,hb5⟩;have h5:=(H.out.below bY).below hb5;have Q5:=uH (((TR.refl (W:=W) (tb:=tb) (mb:=mb) (wb:=wb) (lo:=lo) (ro:=ro)).below bY).below hb5);have hS5:=hm2 w5 h5;have e6:=cC t.st (h5.cell 6);clear h5;refine⟨_,rfl,trivial,fun hHeld=>?_⟩
 rotate_left
 all_goals
  try simp only[Act.put,sA,sZ,sS]
  have hix:=MP w5 hF;refine rK 5 10 (.func (.func G) #[] #[]) hHeld ?_ (by go_simp;try with_reducible rfl)
  try simp only[Act.put,sA,sZ,sS]
  refine Yc (i:=8) G 10 #[.tmp 11,.tmp 12] #[90,70] (some 13) none #[ptr tb,ptr mb] hE ax ?_;refine hS5.mono ?_;rintro e w6 ⟨rfl,nN,nM,h6,r6⟩;refine⟨_,rfl,trivial,fun hHeld=>ay ?_⟩
  refine iR ?_;have q6:=Q5.out.trans r6;have d6:=cC t'.st (h6.cell 6);have H6:=uH h6;have Q6:=uH q6;clear h6 r6 q6 hS5;go_wp2_with fail;go_ret;exact⟨Base.aN (aaa _),nN,nM,H6.out,Q6.out⟩
end Cl
end Go.Proofs.YtbklamnimfmjkaaGreatDoor
