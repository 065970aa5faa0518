/- Part 21 of the walks and plain laws that the last text joins. -/
import Derived.Test.YtbklamnimfmjkaaGreatDoorKB15
import Derived.Test.YtbklamnimfmjkaaGreatDoorKB20
set_option maxRecDepth 100000
set_option maxHeartbeats 16000000
set_option linter.all false
open Go.Proofs.Tryz
namespace Go.Proofs.YtbklamnimfmjkaaGreatDoor
namespace Mc
open Go.RowKit Hp ah aj Slot ai Tk Cl
theorem RY {W:World} {gb mb wb:Nat} {ro:Option Nat} {g:Gi} {ws:List Int} {tc:Int} (h:iU W gb mb wb ro g ws tc) (ht:0<=tc/\tc<=4000000000000000000) (hc:aA g.cf) (hlen:ws.length=sc g.cf (ns g.cf)) (hi0:0<=g.i/\g.i < g.cf.slots) (hk:g.st=2) {s t:S} (hd:dec g.word=some s) (hN:bC s 4 g.w 0=some t):
  Calls prog 216 #[ptr gb,ptr mb] W (iq W gb mb wb ro (.tuple #[]) (g.step ws).1 (g.step ws).2.1 (tc+(g.step ws).2.2)):=by
 have hns:=hc.ns;have hin:g.i.toNat < ns g.cf:=ag
 have hi1:((g.i.toNat:Nat):Int)=g.i:=Int.toNat_of_nonneg hi0.1;have hsl:=fun W=>bg W g.cf g.i.toNat (by have:=hc.w;omega) (by have:=hc.s;omega)
 have hsc:(3+2 * g.cf.workers+g.i)=((sc g.cf g.i.toNat:Nat):Int):=by have:=hc.w;unfold sc;omega
 simp only[hi1,hsc,Cf.val,Cf.cells]at hsl;have hrd:=rd_some (ws:=ws) (i:=sc g.cf g.i.toNat) (by rw[hlen];unfold sc;omega);have hnw:bn g.word 4 g.w 0=some t.word:=by unfold bn;rw[hd];simp[hN]
 have hs:g.step ws=if (dF ws (sc g.cf g.i.toNat) g.word t.word).1 then (g.finish 0,(dF ws (sc g.cf g.i.toNat) g.word t.word).2,1) else ({g with st:=1},(dF ws (sc g.cf g.i.toNat) g.word t.word).2,1):=by
  unfold Gi.step;rw[hk,hnw];rfl
 rw[hs];clear hs hnw hin hi1 hsc hns;generalize sc g.cf g.i.toNat=cell at *;have xG:=(gM hd).1;have htr:=fC (Cl.iw.x (.inl rfl)) hN;have hdc:=aS W g.word h.laid;simp only[hd,Option.getD_some,Option.isSome_some]at hdc;have hnx:=fun w' hL=>oJ w' s 4 g.w 0 (.inl rfl) xG hL
 simp only[hN,Option.getD_some,Option.isSome_some]at hnx;have hen:=fun w' hL=>fP w' t hL htr
 have hce:∀ W,rd ws cell=g.word->bB W mb wb ws tc->Calls prog 166 #[ptr mb,.i cell,.i g.word,.i t.word] W _:=fun W e hm=>jv hm ht cell g.word (by rw[<- e];exact hrd) _
 have hcn:∀ W,rd ws cell≠g.word->bB W mb wb ws tc->Calls prog 166 #[ptr mb,.i cell,.i g.word,.i t.word] W _:=fun W e hm=>jw hm ht cell _ hrd g.word _ e
 have YP:=h.lt;have aaO:=h.mem.lt;clear xG htr hN hc hlen hi0
 by_cases hx:rd ws cell=g.word
 focus
  rw[oK hx];simp only[if_true];have hcs:=fun W=>hce W hx
 rotate_left
 focus
  rw[lM hx];simp only[Bool.false_eq_true,if_false];have hcs:=fun W=>hcn W hx
 rotate_left
 all_goals
  clear hce hcn hx hrd;have c9:=cC g.st (h.cell 9);have c11:=cC g.word (h.cell 11);have UO:=h.frozen 9;have hst:=h.put 9 (.i 1) {g with st:=1} rfl rfl;have q0:=(TR.refl (W:=W) (tb:=gb) (mb:=mb) (wb:=wb) (lo:=none) (ro:=ro)).set 9 (.i 1);clear h
  go_enter func216,ntmps216
  go_upto_region 1 with(fail);generalize (W.setCell ⟨gb,9,none⟩ (.i 1))=w1 at *;clear c9 UO;have NN:=aS w1 g.word hst.laid;rw[hd]at NN;simp only[Option.getD_some,Option.isSome_some]at NN;clear hdc hd;have d11:=cC g.word (hst.cell 11);have H1:=uH hst;have Q1:=uH q0;clear hst q0 c11;go_wp2_with fail;refine NN.mono ?_;rintro e w2 ⟨rfl,hb2⟩;clear NN d11;dsimp only;go_step;refine gl (.tuple #[s.val,.bool true]) ?_;refine gl s.val ?_;refine gl (.bool true) ?_;refine dU (ob:=.cells av 57) (Z:=av) (cs:=s.cells) (t:=57) 57 (.tmp 4) (.tmp 16) rfl ?_;refine gl (.bool true) (ay ?_)
  rw[aG];have hB:Below w1.heap.size w1 (w2.alloc (.cells s.cells 57)):=hb2.alloc hb2.size _;have hs3:af (w2.alloc (.cells s.cells 57)) w2.heap.size s.cells 57:=heap_alloc_new w2 _;have hsb:=hb2.size;have h3:=H1.out.below hB;have q3:=Q1.out.below hB;have hsz:=Q1.out.2.2.size;generalize (w2.alloc (.cells s.cells 57))=w3 at *;generalize w2.heap.size=sb at *;clear hB hb2;have RZ:af w3.drew sb s.cells 57:=hs3;have YQ:=h3.below bY;have q3d:=q3.below bY;have e5d:=cC g.w (YQ.cell 5);have H3:=uH YQ;have Q3:=uH q3d;have NX:=uH hnx;have EN:=uH hen;have CS:=uH hcs;have SLT:=uH hsl;clear h3 q3 YQ q3d hnx hen hcs hsl;go_upto_region 3 with(fail);refine jr (S:=(fun w'=>w'.cell? ⟨gb,5,none⟩=some (.i g.w))) (by exact e5d) (fun hHeld=>?_);refine tH 1 22 hHeld ?_;refine tH 2 23 hHeld ?_;refine tH 3 24 hHeld ?_;refine tH 4 25 hHeld ?_
  refine Vp 0 21 RZ 57 (.tmp 4) underlying57 hHeld (ay ?_)
  refine mP (i:=5) 72 #[.tmp 21,(.const (.i 4)),.tmp 25,(.const (.i 0))] #[57,3,3,3] (some 26) none #[s.val,.i 4,.i g.w,.i 0] (aH func72) ?_;refine(NX.out _ H3.out.laid).mono ?_;rintro e w4 ⟨rfl,hb4⟩;have h4:=H3.out.below hb4;have q4:=Q3.out.below hb4;have hs4:af w4 sb s.cells 57:=af.below RZ hb4;have f5:=cC g.w (h4.cell 5);refine⟨_,rfl,f5,fun hHeld=>ay ?_⟩
  refine tH 6 20 hHeld ?_;refine tH 7 27 hHeld ?_;refine tH 8 28 hHeld ?_;have YR:(w4.setRow sb t.cells).cell? ⟨gb,5,none⟩=some (.i g.w):=(World.cell?_of_block (setRow_other w4 sb gb t.cells ag)).trans f5;refine Vq 9 hs4 t.cells 57 (.tmp 4) (.tmp 27) YR ?_;have hHeld:=YR
  try simp only[Act.put,sA,sZ,sS]
  refine tH 10 5 hHeld ?_;refine iR ?_;have dS:aD (fun k=>k=sb) w4 (w4.setRow sb t.cells):=mY (aD.refl _ _) sb _ (fun _=>rfl);have n0:0 < sb:=by have:=h4.laid.lt aT;have:=H1.out.laid.lt aT;omega
  have h5:=h4.aK dS ag (fun k hk e=>by rcases hk with rfl | hk | hk;omega;cases hk;have:=(H1.out.ra k hk).2.2;omega) (h4.mem.aK dS ag ag);have q5:TR W gb mb wb none ro (w4.setRow sb t.cells) none ro:=⟨q4.1,q4.2.1,q4.2.2.trans dS (fun k hk e=>ag)⟩
  have hs5:af (w4.setRow sb t.cells) sb t.cells 57:=hs4.set _;generalize w4.setRow sb t.cells=w5 at *;have en5:=EN.out w5 h5.laid;have H5:=uH h5;have Q5:=uH q5;clear h4 q4 hb4 f5 YR hHeld dS h5 q5 hs4 hs3 RZ e5d;go_upto_region 5 with(fail);refine wp_region_lit ?_;refine grow hs5 57 (.tmp 4) underlying57 (ay ?_)
  refine pM 73 #[.tmp 32] #[57] #[t.val] (aH func73) ?_;refine en5.mono ?_;rintro e w6 ⟨rfl,hb6⟩;refine⟨_,rfl,?_⟩;have h6:=H5.out.below hb6;have q6:=Q5.out.below hb6;dsimp only;refine gl (.tuple #[.i t.word,.bool true]) ?_;refine gl (.i t.word) ?_;refine gl (.bool true) ?_;refine gl (.i t.word) ?_;refine gl (.bool true) (ay ?_)
  obtain⟨c0,c1,c2,c3,c4⟩:=cQ g.cf h6.cell;have c6:=cC g.i (h6.cell 6);have c11:=cC g.word (h6.cell 11);have H6:=uH h6;have Q6:=uH q6;clear h6 q6 hb6 en5 hs5;go_wp2_with fail
  go_region_held3 (fun w'=>w'.cell? ⟨gb,0,none⟩=some (.i g.cf.workers)/\w'.cell? ⟨gb,1,none⟩=some (.i g.cf.slots)/\w'.cell? ⟨gb,2,none⟩=some (.i g.cf.streams)/\w'.cell? ⟨gb,3,none⟩=some (.i g.cf.waiters)/\w'.cell? ⟨gb,4,none⟩=some (.i g.cf.uses)/\w'.cell? ⟨gb,6,none⟩=some (.i g.i)/\w'.cell? ⟨gb,11,none⟩=some (.i g.word)) (first | go_keep | exact⟨aI,aI,aI,aI,aI,aI,aI⟩ | (refine⟨?_,?_,?_,?_,?_,?_,?_⟩<;>first | assumption | (rw[World.cell?_setCell_other _ _ _ _ au];assumption)))
   ((first
   | (go_at_call 54;refine(SLT.out _).mono ?_;rintro e w7 ⟨rfl,cB⟩;have h7:=(H6.out.below bY).below cB;have q7:=(Q6.out.below bY).below cB;have R4:=CS.out _ h7.mem;obtain⟨a0,a1,a2,a3,a4⟩:=cQ g.cf h7.cell;have a6:=cC g.i (h7.cell 6);have a11:=cC g.word (h7.cell 11))
   | (go_at_call 166;refine(R4).mono ?_;rintro e w8 ⟨rfl,Dx,vB⟩;have h8:=h7.bU vB Dx;have q8:=q7.mem vB;obtain⟨b0,b1,b2,b3,b4⟩:=cQ g.cf h8.cell;have b6:=cC g.i (h8.cell 6);have b11:=cC g.word (h8.cell 11))))
 ·have hen:=iF h8 0;have Q8:=uH q8;clear h8 q8;go_wp2_with fail;refine hen.mono ?_;rintro e w9 ⟨rfl,GA,h9,q9⟩;have H9:=uH h9;have Q9:=uH (Q8.out.trans q9);clear hen h9 q9;go_wp2_with fail
  first | go_end0 | refine bP ?_
  exact⟨rfl,GA,H9.out,Q9.out⟩
 ·have H8:=uH h8;have Q8:=uH q8;clear h8 q8 h7 q7 cB Dx vB;go_wp2_with fail
  first | go_end0 | refine bP ?_
  exact⟨rfl,ro,H8.out,Q8.out⟩
end Mc
end Go.Proofs.YtbklamnimfmjkaaGreatDoor
