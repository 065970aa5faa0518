/- Part 22 of the walks and plain laws that the last text joins. -/
import Derived.Test.YtbklamnimfmjkaaGreatDoorKB16
import Derived.Deep.CutRange
set_option maxRecDepth 100000
set_option maxHeartbeats 16000000
set_option linter.all false
open Go.Proofs.Tryz
namespace Go.Proofs.YtbklamnimfmjkaaGreatDoor
namespace Mc
open Go.RowKit Hp ah aj Slot ai Tk Cl
theorem CO {w:World} {g off:Nat} {z:Value} {b:Bool} (hc:w.cell? ⟨g,off,none⟩=some z) (hf:w.frozen? ⟨g,off,none⟩=false):(Instr.storeAt 4 (.pointer (some ⟨g,off,none⟩)) (.bool b)).run prog w=.ok () (w.setCell ⟨g,off,none⟩ (.bool b)):=by
 go_simp
theorem dD.Us {W:World} {tb mb wb:Nat} {vr vl:Value} {t:Tw} {ws:List Int} {tc:Int} (h:dD W tb mb wb vr vl t ws tc) {la:Option Addr} (e:vl=.slice la t.last.length t.last.length) (h1:t.last.length<=1000):SliceAt W (.slice la t.last.length t.last.length) (t.last.map (Value.int .i64)):=by
 obtain⟨a,e2,h2⟩:=h.last.at h1;rw[<- e,e2];exact h2
theorem Mw:(∀ {W:World} {tb mb wb:Nat} {vr vl:Value} {t:Tw} {ws:List Int} {tc:Int} (h:dD W tb mb wb vr vl t ws tc) (ht:0<=tc/\tc<=4000000000000000000) (hc:aA t.cf) (hlen:ws.length=sc t.cf (ns t.cf)) (hd:t.done=false) (hrl:t.round.length < ns t.cf) (hm:¬ t.round.length+1 < ns t.cf) (h0:t.rounds=0),Calls prog 83 #[ptr tb,ptr mb] W (xA W tb mb wb vr vl (.bool (t.step ws).1.done) (t.step ws).1 ws (tc+(t.step ws).2)))/\(∀ {W:World} {tb mb wb:Nat} {vr vl:Value} {t:Tw} {ws:List Int} {tc:Int} (h:dD W tb mb wb vr vl t ws tc) (ht:0<=tc/\tc<=4000000000000000000) (hc:aA t.cf) (hlen:ws.length=sc t.cf (ns t.cf)) (hd:t.done=false) (hrl:t.round.length < ns t.cf) (hm:¬ t.round.length+1 < ns t.cf) (h0:0 < t.rounds) (h9:t.rounds<=1000000) (hll:t.last.length=ns t.cf),Calls prog 83 #[ptr tb,ptr mb] W (xA W tb mb wb vr vl (.bool (t.step ws).1.done) (t.step ws).1 ws (tc+(t.step ws).2))):=by
 refine⟨?_,?_⟩
 focus
  intro W tb mb wb vr vl t ws tc h ht hc hlen hd hrl hm h0;rw[Mv t ws hd hm];dsimp only;rw[show(decide (0 < t.rounds) && (t.round ++ [rd ws (sc t.cf t.round.length)] == t.last))=false by rw[h0];rfl];have RH:=uH (show(0:Int)=t.rounds by omega);clear h0
 rotate_left
 focus
  intro W tb mb wb vr vl t ws tc h ht hc hlen hd hrl hm h0 h9 hll;rw[Mv t ws hd hm];dsimp only;rw[show(decide (0 < t.rounds) && (t.round ++ [rd ws (sc t.cf t.round.length)] == t.last))=decide (t.round ++ [rd ws (sc t.cf t.round.length)]=t.last) by rw[decide_eq_true h0,Bool.true_and,Bool.eq_iff_iff];simp];obtain⟨ρ,hρ⟩:∃ ρ:Int,ρ=t.rounds:=⟨_,rfl⟩
  have k7:0 < ρ:=ag
  have k2a:0<=ρ:=ag
  have k2b:ρ<=1000000:=ag
  have RH:=uH hρ;clear hρ h0 h9;obtain⟨la,ev,-⟩:=h.last.at (by have:=hc.ns;omega);have EV:=uH ev;clear ev
 rotate_left
 all_goals
  have hns:=hc.ns;have hn:t.round.length<=1000:=by have:=hc.s;omega
  have hsl:=fun W=>bg W t.cf t.round.length (by have:=hc.w;omega) (by have:=hc.s;omega)
  have hsc:(3+2 * t.cf.workers+(t.round.length:Int))=((sc t.cf t.round.length:Nat):Int):=by have:=hc.w;unfold sc;omega
  simp only[hsc,Cf.val,Cf.cells]at hsl;have hrd:=rd_some (ws:=ws) (i:=sc t.cf t.round.length) (by rw[hlen];unfold sc;omega);generalize rd ws (sc t.cf t.round.length)=x at *;obtain⟨r,hr⟩:∃ r,r=t.round ++ [x]:=⟨_,rfl⟩
  rw[<- hr];have HR:=uH hr;clear hr;have hld:=fun W (h:bB W mb wb ws tc)=>aU h ht (sc t.cf t.round.length) x hrd
  obtain⟨ra,rc,er⟩:=h.own.form;subst er;obtain⟨c0,c1,c2,c3,c4⟩:=cQ t.cf h.cell;have c5:=cV (.slice ra t.round.length rc) (h.cell 5);have c9:W.cell? ⟨tb,8,none⟩=some (.bool false):=by rw[<- hd];exact h.cell 8
  have cf5:=h.frozen 5;have H:=uH h;clear h hrd hsc;generalize sc t.cf t.round.length=cell at *
  go_enter func83,ntmps83
  go_wp2_with fail
  go_cut [4] from 9 to 29 (fun s wx=>s=.bool false/\∃ a8 c8,RowKit.Hid (dD wx tb mb wb (.slice a8 (t.round.length+1) c8) vl {t with round:=t.round ++ [x]} ws (tc+1))/\RowKit.Hid (OR mb wb (qD tb (.slice ra t.round.length rc) vl) W (qD tb (.slice a8 (t.round.length+1) c8) vl) wx))
  case first=>
   rename_i JJ KK JI Fe
   go_region_law ((first
    | (refine fu 54 #[.tmp 18,.tmp 23] #[27,3] rfl rfl #[(.agg (Ab t.cf.workers t.cf.slots t.cf.streams t.cf.waiters t.cf.uses)),.i t.round.length] ax (aH func54) _ (hsl _) ?_;rintro e w5 ⟨rfl,hb5⟩;refine⟨_,rfl,?_⟩;have h5:dD w5 tb mb wb (.slice ra t.round.length rc) vl t ws tc:=(by first | exact(H.out.below (bZ)).below hb5 | exact(H.out.below (bY)).below hb5 | exact(H.out.below (bY.drew)).below hb5 | exact(H.out.below (bY.drew.drew)).below hb5 | exact(H.out.below (bY.drew.drew.drew)).below hb5 | exact(H.out.below (bY.drew.drew.drew.drew)).below hb5);have q5:OR mb wb (qD tb (.slice ra t.round.length rc) vl) W (qD tb (.slice ra t.round.length rc) vl) w5:=(by first | exact(OR.refl.below (bZ)).below hb5 | exact(OR.refl.below (bY)).below hb5 | exact(OR.refl.below (bY.drew)).below hb5 | exact(OR.refl.below (bY.drew.drew)).below hb5 | exact(OR.refl.below (bY.drew.drew.drew)).below hb5 | exact(OR.refl.below (bY.drew.drew.drew.drew)).below hb5);obtain⟨a0,a1,a2,a3,a4⟩:=cQ t.cf h5.cell;have a5:=cV (.slice ra t.round.length rc) (h5.cell 5))
    | ((first | refine fu 56 #[.tmp 14,.tmp 24] #[70,3] rfl rfl #[ptr mb,.i cell] ax (aH func56) _ (hld _ (h5.below (bZ)).mem) ?_ | refine fu 56 #[.tmp 14,.tmp 24] #[70,3] rfl rfl #[ptr mb,.i cell] ax (aH func56) _ (hld _ (h5.below (bY)).mem) ?_ | refine fu 56 #[.tmp 14,.tmp 24] #[70,3] rfl rfl #[ptr mb,.i cell] ax (aH func56) _ (hld _ (h5.below (bY.drew)).mem) ?_);rintro e w6 ⟨rfl,jH,fT⟩;refine⟨_,rfl,?_⟩;have h6:dD w6 tb mb wb (.slice ra t.round.length rc) vl t ws (tc+1):=(by first | exact(h5.below (bZ)).bU fT jH | exact(h5.below (bY)).bU fT jH | exact(h5.below (bY.drew)).bU fT jH);have q6:OR mb wb (qD tb (.slice ra t.round.length rc) vl) W (qD tb (.slice ra t.round.length rc) vl) w6:=(by first | exact(q5.below (bZ)).mem fT | exact(q5.below (bY)).mem fT | exact(q5.below (bY.drew)).mem fT);have s6:tb < w6.heap.size:=h6.lt;obtain⟨b0,b1,b2,b3,b4⟩:=cQ t.cf h6.cell;have b5:=cV (.slice ra t.round.length rc) (h6.cell 5))
    | (refine iy rfl (.tmp 13) (.tmp 26) rfl (.slice ra t.round.length rc) t.round.length t.round x w6.heap.size rfl ((h6.below ((bZ.alloc aQ (.cells #[.i x] 3)))).own) hn rfl (af.cell (af.new w6 _ _) 0) ?_;intro a8 c8 w8 o8 f8 g8;have h7:=h6.below ((bZ.alloc aQ (.cells #[.i x] 3)));have p8:=h7.gN (.slice a8 (t.round.length+1) c8) (t.round ++ [x]) (by simpa using o8) g8 f8;have q7:=q6.below ((bZ.alloc aQ (.cells #[.i x] 3)));have d0:=cC t.cf.workers (h7.dL g8 0);have d1:=cC t.cf.slots (h7.dL g8 1);have d2:=cC t.cf.streams (h7.dL g8 2);have d3:=cC t.cf.waiters (h7.dL g8 3);have d4:=cC t.cf.uses (h7.dL g8 4);have d5:=cV (.slice ra t.round.length rc) (h7.dL g8 5);have f8:=h7.CL g8 5;have H9:=uH p8.1;have Q9:=uH (q7.trans p8.2))
    | (refine iy rfl (.tmp 13) (.tmp 26) rfl (.slice ra t.round.length rc) t.round.length t.round x w6.heap.size rfl ((h6.below ((bZ.alloc aQ (.cells #[.i x] 3)).drew)).own) hn rfl (af.cell (af.new w6 _ _) 0) ?_;intro a8 c8 w8 o8 f8 g8;have h7:=h6.below ((bZ.alloc aQ (.cells #[.i x] 3)).drew);have p8:=h7.gN (.slice a8 (t.round.length+1) c8) (t.round ++ [x]) (by simpa using o8) g8 f8;have q7:=q6.below ((bZ.alloc aQ (.cells #[.i x] 3)).drew);have d0:=cC t.cf.workers (h7.dL g8 0);have d1:=cC t.cf.slots (h7.dL g8 1);have d2:=cC t.cf.streams (h7.dL g8 2);have d3:=cC t.cf.waiters (h7.dL g8 3);have d4:=cC t.cf.uses (h7.dL g8 4);have d5:=cV (.slice ra t.round.length rc) (h7.dL g8 5);have f8:=h7.CL g8 5;have H9:=uH p8.1;have Q9:=uH (q7.trans p8.2))
    | (refine iy rfl (.tmp 13) (.tmp 26) rfl (.slice ra t.round.length rc) t.round.length t.round x w6.heap.size rfl ((h6.below ((bY.alloc aQ (.cells #[.i x] 3)))).own) hn rfl (af.cell (af.new w6.drew _ _) 0) ?_;intro a8 c8 w8 o8 f8 g8;have h7:=h6.below ((bY.alloc aQ (.cells #[.i x] 3)));have p8:=h7.gN (.slice a8 (t.round.length+1) c8) (t.round ++ [x]) (by simpa using o8) g8 f8;have q7:=q6.below ((bY.alloc aQ (.cells #[.i x] 3)));have d0:=cC t.cf.workers (h7.dL g8 0);have d1:=cC t.cf.slots (h7.dL g8 1);have d2:=cC t.cf.streams (h7.dL g8 2);have d3:=cC t.cf.waiters (h7.dL g8 3);have d4:=cC t.cf.uses (h7.dL g8 4);have d5:=cV (.slice ra t.round.length rc) (h7.dL g8 5);have f8:=h7.CL g8 5;have H9:=uH p8.1;have Q9:=uH (q7.trans p8.2))
    | (refine iy rfl (.tmp 13) (.tmp 26) rfl (.slice ra t.round.length rc) t.round.length t.round x w6.heap.size rfl ((h6.below ((bY.alloc aQ (.cells #[.i x] 3)).drew)).own) hn rfl (af.cell (af.new w6.drew _ _) 0) ?_;intro a8 c8 w8 o8 f8 g8;have h7:=h6.below ((bY.alloc aQ (.cells #[.i x] 3)).drew);have p8:=h7.gN (.slice a8 (t.round.length+1) c8) (t.round ++ [x]) (by simpa using o8) g8 f8;have q7:=q6.below ((bY.alloc aQ (.cells #[.i x] 3)).drew);have d0:=cC t.cf.workers (h7.dL g8 0);have d1:=cC t.cf.slots (h7.dL g8 1);have d2:=cC t.cf.streams (h7.dL g8 2);have d3:=cC t.cf.waiters (h7.dL g8 3);have d4:=cC t.cf.uses (h7.dL g8 4);have d5:=cV (.slice ra t.round.length rc) (h7.dL g8 5);have f8:=h7.CL g8 5;have H9:=uH p8.1;have Q9:=uH (q7.trans p8.2))))
   all_goals
    refine Fe _ _ (Met.intro (JI _ _ ?_))
    (repeat apply Exists.intro)
    refine⟨?_,rfl⟩;exact⟨rfl,a8,c8,H9,Q9⟩
 ·case rest=>
   obtain⟨rfl,a8,c8,H9,Q9⟩:=hcut;have hr:=HR.out;have n1:t.round.length+1=r.length:=by rw[hr];simp
   rw[<- hr,n1]at H9;rw[n1]at Q9;have n2:0 < r.length/\r.length<=1000:=ag
   have k1:t.cf.slots<=(r.length:Int):=ag
   have k3:¬ (r.length:Int) < t.cf.slots:=ag
   clear n1 hm hrl hns hlen hr;have e1:=cC t.cf.slots (H9.out.cell 1);have e5:=cV (.slice a8 r.length c8) (H9.out.cell 5);have e7:wc.cell? ⟨tb,7,none⟩=some (.i 0):=by rw[RH.out];exact H9.out.cell 7
   have e8:=cV (.bool t.done) (H9.out.cell 8);have Wu:=H9.out.frozen 8;go_wp2_with fail
   go_quiet (fail)
   go_wp2_with fail;have h10:dD (wc.drewN nq).drew tb mb wb (.slice a8 r.length c8) vl {t with round:=r} ws (tc+1):=(H9.out.below (eO bZ nq)).below bY;have qV:OR mb wb (qD tb (.slice ra t.round.length rc) vl) W (qD tb (.slice a8 r.length c8) vl) (wc.drewN nq).drew:=(Q9.out.below (eO bZ nq)).below bY;have g7:(wc.drewN nq).drew.cell? ⟨tb,7,none⟩=some (.i 0):=by rw[RH.out];exact h10.cell 7
   have H0:=uH h10;have Q0:=uH qV;clear h10 qV e1 e5 e7 e8 Wu;have JM:=H0.out;have Xk:=Q0.out;refine jr (S:=(fun w'=>w'.cell? ⟨tb,7,none⟩=some (.i 0))) (by exact g7) (fun hHeld=>?_);refine tH 0 41 hHeld ?_;refine tH 1 42 hHeld ?_;refine tH 2 43 hHeld ?_;refine tH 3 44 hHeld ?_;refine tH 4 45 hHeld ?_;refine tH 5 46 hHeld ?_;refine tH 6 47 hHeld ?_;refine sH 7 (some 48) hHeld ?_;refine sH 8 (some 49) hHeld ?_;refine sH 9 (some 50) hHeld ?_;refine sH 10 (some 51) hHeld ?_;refine sH 11 (some 52) hHeld ?_;refine sH 12 (some 53) hHeld ?_;refine sH 13 (some 54) hHeld ?_;refine sH 14 (some 55) hHeld ?_;refine sH 15 (some 56) hHeld ?_;refine tH 16 57 hHeld ?_;refine tH 17 58 hHeld ?_;refine tH 18 59 hHeld ?_;have zV:=JM.put 8 (.bool false) {t with round:=r,done:=false} rfl rfl rfl
   have s7:((wc.drewN nq).drew.setCell ⟨tb,8,none⟩ (.bool false)).cell? ⟨tb,7,none⟩=some (.i 0):=by rw[RH.out];exact zV.cell 7
   refine aX (i:=19) ax (bG 4 (.tmp 59) (.tmp 57) ax tb 8 (.bool false) ax ax (fun _=>CO (JM.cell 8) (JM.frozen 8)) s7 (fun hHeld=>ay ?_))
   refine iR ?_;have uZ:=uH zV;have zb:=uH (Xk.set (tb:=tb) (.inl rfl) 8 (.bool false));generalize (wc.drewN nq).drew.setCell ⟨tb,8,none⟩ (.bool false)=kU at *;clear H0 Q0 JM Xk zV s7 g7 hHeld;have e5:=cV (.slice a8 r.length c8) (uZ.out.cell 5);have e7:kU.cell? ⟨tb,7,none⟩=some (.i 0):=by rw[RH.out];exact uZ.out.cell 7
   have ef7:=uZ.out.frozen 7;have pV:=uH (uZ.out.put 7 (.i 1) {t with round:=r,rounds:=t.rounds+1,done:=false} (by rw[show(1:Int)=t.rounds+1 by have:=RH.out;omega];rfl) rfl rfl);have xF:=uH (zb.out.set (tb:=tb) (.inl rfl) 7 (.i 1));have Ro:=zU (kU.setCell ⟨tb,7,none⟩ (.i 1)) a8 c8 r pV.out.own.at n2.1 n2.2;clear uZ zb;go_wp2_with fail;refine Ro.mono ?_;rintro e uo ⟨g,rfl,MB,MC,jL⟩;have yO:=pV.out.below jL;have Nn:=pV.out.Ga g r MB jL MC;have Rq:=Nn.1.gN (.slice none 0 0) [] (fG _ 1) (aD.refl _ _) (fun k hk=>(dP k hk).elim);have d5:=cV (.slice a8 r.length c8) (yO.cell 5);have d6:=cV vl (yO.cell 6);have d8:=cV (.bool false) (yO.cell 8);have df5:=yO.frozen 5;have Df:=yO.frozen 6;have ZW:=uH Rq.1;have Xc:=uH ((xF.out.trans Nn.2).trans Rq.2);clear Ro MB MC jL yO Nn Rq pV xF;go_wp2_with fail;go_ret
   exact⟨rfl,_,_,ZW.out,Xc.out⟩
 ·case rest=>
   obtain⟨rfl,a8,c8,H9,Q9⟩:=hcut;have hr:=HR.out;have n1:t.round.length+1=r.length:=by rw[hr];simp
   rw[<- hr,n1]at H9;rw[n1]at Q9;have n2:0 < r.length/\r.length<=1000:=ag
   have k1:t.cf.slots<=(r.length:Int):=ag
   have k3:¬ (r.length:Int) < t.cf.slots:=ag
   have n3:r.length=t.last.length:=ag
   have n4:t.last.length<=1000:=ag
   have N3:=uH n3;clear n3 hll;clear n1 hm hrl hns hlen hr;have e1:=cC t.cf.slots (H9.out.cell 1);have e5:=cV (.slice a8 r.length c8) (H9.out.cell 5);have e7:wc.cell? ⟨tb,7,none⟩=some (.i ρ):=by rw[RH.out];exact H9.out.cell 7
   have e8:=cV (.bool t.done) (H9.out.cell 8);have Wu:=H9.out.frozen 8;have e6:wc.cell? ⟨tb,6,none⟩=some (.slice la t.last.length t.last.length):=by rw[<- EV.out];exact H9.out.cell 6
   go_wp2_with fail
   go_quiet (fail)
   go_wp2_with fail;have h10:dD (wc.drewN nq).drew tb mb wb (.slice a8 r.length c8) vl {t with round:=r} ws (tc+1):=(H9.out.below (eO bZ nq)).below bY;have qV:OR mb wb (qD tb (.slice ra t.round.length rc) vl) W (qD tb (.slice a8 r.length c8) vl) (wc.drewN nq).drew:=(Q9.out.below (eO bZ nq)).below bY;have g7:(wc.drewN nq).drew.cell? ⟨tb,7,none⟩=some (.i ρ):=by rw[RH.out];exact h10.cell 7
   have g5:(wc.drewN nq).drew.cell? ⟨tb,5,none⟩=some (.slice a8 r.length c8):=h10.cell 5;have g6:(wc.drewN nq).drew.cell? ⟨tb,6,none⟩=some (.slice la t.last.length t.last.length):=by rw[<- EV.out];exact h10.cell 6
   have heq:=Jh (wc.drewN nq).drew a8 la c8 t.last.length r t.last h10.own.at (h10.Us EV.out n4) N3.out n2.2;have H0:=uH h10;have Q0:=uH qV;clear h10 qV e1 e5 e7 e8 Wu;refine jr (S:=(fun w'=>w'.cell? ⟨tb,7,none⟩=some (.i ρ)/\w'.cell? ⟨tb,5,none⟩=some (.slice a8 r.length c8)/\w'.cell? ⟨tb,6,none⟩=some (.slice la t.last.length t.last.length))) (by exact⟨g7,g5,g6⟩) (fun hHeld=>?_);refine tH 0 41 hHeld ?_;refine tH 1 42 hHeld ?_;refine tH 2 43 hHeld ?_;refine tH 3 44 hHeld ?_;refine tH 4 45 hHeld ?_;refine tH 5 46 hHeld ?_;refine tH 6 47 hHeld ?_;refine tH 7 48 hHeld ?_;refine tH 8 49 hHeld ?_;refine tH 9 50 hHeld ?_;refine tH 10 51 hHeld ?_;refine tH 11 52 hHeld ?_;refine tH 12 53 hHeld ?_;refine tH 13 54 hHeld ?_;refine tH 14 55 hHeld ?_
   refine mP (i:=15) 117 #[.tmp 51,.tmp 55] #[43,43] (some 56) (some (6,true)) #[.slice a8 r.length c8,.slice la t.last.length t.last.length] (aH func117) ?_;refine(heq).mono ?_;rintro e dH ⟨rfl,m,rfl⟩;have JM:=H0.out.below (eO bZ m);have Xk:=Q0.out.below (eO bZ m);have f7:((wc.drewN nq).drew.drewN m).cell? ⟨tb,7,none⟩=some (.i ρ):=by rw[RH.out];exact JM.cell 7
   have f5:=cV (.slice a8 r.length c8) (JM.cell 5);have f6:((wc.drewN nq).drew.drewN m).cell? ⟨tb,6,none⟩=some (.slice la t.last.length t.last.length):=by rw[<- EV.out];exact JM.cell 6
   refine⟨_,rfl,⟨f7,f5,f6⟩,fun hHeld=>ay ?_⟩
   refine tH 16 57 hHeld ?_;refine tH 17 58 hHeld ?_;refine tH 18 59 hHeld ?_;have zV:=JM.put 8 (.bool (decide (r=t.last))) {t with round:=r,done:=(decide (r=t.last))} rfl rfl rfl;have s7:(((wc.drewN nq).drew.drewN m).setCell ⟨tb,8,none⟩ (.bool (decide (r=t.last)))).cell? ⟨tb,7,none⟩=some (.i ρ):=by rw[RH.out];exact zV.cell 7
   have s5:=cV (.slice a8 r.length c8) (zV.cell 5);have s6:(((wc.drewN nq).drew.drewN m).setCell ⟨tb,8,none⟩ (.bool (decide (r=t.last)))).cell? ⟨tb,6,none⟩=some (.slice la t.last.length t.last.length):=by rw[<- EV.out];exact zV.cell 6
   refine aX (i:=19) ax (bG 4 (.tmp 59) (.tmp 57) ax tb 8 (.bool (decide (r=t.last))) ax ax (fun _=>CO (JM.cell 8) (JM.frozen 8)) ⟨s7,s5,s6⟩ (fun hHeld=>ay ?_))
   refine iR ?_;have uZ:=uH zV;have zb:=uH (Xk.set (tb:=tb) (.inl rfl) 8 (.bool (decide (r=t.last))));generalize ((wc.drewN nq).drew.drewN m).setCell ⟨tb,8,none⟩ (.bool (decide (r=t.last)))=kU at *;clear heq H0 Q0 JM Xk zV s7 s5 s6 f7 f5 f6 g7 g5 g6 hHeld;generalize decide (r=t.last)=bb at *;have e5:=cV (.slice a8 r.length c8) (uZ.out.cell 5);have e7:kU.cell? ⟨tb,7,none⟩=some (.i ρ):=by rw[RH.out];exact uZ.out.cell 7
   have ef7:=uZ.out.frozen 7;have pV:=uH (uZ.out.put 7 (.i (ρ+1)) {t with round:=r,rounds:=t.rounds+1,done:=bb} (by rw[RH.out];rfl) rfl rfl);have xF:=uH (zb.out.set (tb:=tb) (.inl rfl) 7 (.i (ρ+1)));have Ro:=zU (kU.setCell ⟨tb,7,none⟩ (.i (ρ+1))) a8 c8 r pV.out.own.at n2.1 n2.2;clear uZ zb;go_wp2_with fail;refine Ro.mono ?_;rintro e uo ⟨g,rfl,MB,MC,jL⟩;have yO:=pV.out.below jL;have Nn:=pV.out.Ga g r MB jL MC;have Rq:=Nn.1.gN (.slice none 0 0) [] (fG _ 1) (aD.refl _ _) (fun k hk=>(dP k hk).elim);have d5:=cV (.slice a8 r.length c8) (yO.cell 5);have d6:=cV vl (yO.cell 6);have d8:=cV (.bool bb) (yO.cell 8);have df5:=yO.frozen 5;have Df:=yO.frozen 6;have ZW:=uH Rq.1;have Xc:=uH ((xF.out.trans Nn.2).trans Rq.2);clear Ro MB MC jL yO Nn Rq pV xF;go_wp2_with fail;go_ret;exact⟨rfl,_,_,ZW.out,Xc.out⟩
def EU:=@And.left _ _ Mw
def EW:=@And.right _ _ Mw
theorem jY {W:World} {tb mb wb:Nat} {vr vl:Value} {t:Tw} {ws:List Int} {tc:Int} (h:dD W tb mb wb vr vl t ws tc) (ht:0<=tc/\tc<=4000000000000000000) (hc:aA t.cf) (hlen:ws.length=sc t.cf (ns t.cf)) (ok:pG t.cf t) (h9:t.rounds<=1000000):Calls prog 83 #[ptr tb,ptr mb] W (xA W tb mb wb vr vl (.bool (t.step ws).1.done) (t.step ws).1 ws (tc+(t.step ws).2)):=by
 cases hd:t.done
 ·by_cases hm:t.round.length+1 < ns t.cf
  ·exact ET h ht hc hlen hd hm
  ·by_cases h0:t.rounds=0
   ·exact EU h ht hc hlen hd ok.round hm h0
   ·exact EW h ht hc hlen hd ok.round hm ag h9 (ok.last ag)
 ·exact ES h hd
end Mc
end Go.Proofs.YtbklamnimfmjkaaGreatDoor
