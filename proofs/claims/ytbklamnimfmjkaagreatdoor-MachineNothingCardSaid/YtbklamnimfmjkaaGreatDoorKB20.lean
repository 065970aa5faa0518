/- Part 20 of the walks and plain laws that the last text joins. -/
import Derived.Test.YtbklamnimfmjkaaGreatDoorKB17
import Derived.Test.YtbklamnimfmjkaaGreatDoorKB18
import Derived.Test.YtbklamnimfmjkaaGreatDoorKB19
set_option maxRecDepth 100000
set_option maxHeartbeats 16000000
set_option linter.all false
open Go.Proofs.Tryz
namespace Go.Proofs.YtbklamnimfmjkaaGreatDoor
namespace Cl
open Go.RowKit Hp Slot ah ai
def iw (d:Nat):Prop:=d=4\/d=10\/d=13\/d=14\/d=15
theorem iw.x {d:Nat} (h:iw d):Tk.xm d:=.inl (by unfold iw at h;unfold Mod.Done;omega)
theorem LW (d:Nat) (hd:iw d) (s:S) (own more:Int):∃ F,(∀ args w,(callFunc F args).run prog w=.ok (.enter F args) w)/\acts[d]? =some (.func (.func F) #[] #[])/\
  (s.right=true->∀ W,Calls prog F #[cO s own more] W fun e W'=>e=.returned (.tuple #[(Tk.gG d s own more).1.val,.bool (Tk.gG d s own more).2])/\Below W.heap.size W W'):=by
 have hm:=fun h=>(jO (s:=s) h).2.2.2.2.2
 rcases hd with rfl | rfl | rfl | rfl | rfl
 ·exact⟨_,aH func136,rfl,fun h W=>Kt W s own more⟩
 ·exact⟨_,aH func142,rfl,fun h W=>Kr W s own more⟩
 ·exact⟨_,aH func145,rfl,fun h W=>DD W s own more⟩
 ·exact⟨_,aH func146,rfl,fun h W=>Ky W s own more (hm h)⟩
 ·exact⟨_,aH func147,rfl,fun h W=>KA W s own more (hm h)⟩
theorem oJ (W:World) (s:S) (d:Nat) (own more:Int) (hd:iw d) (hr:s.right=true) (hL:Laid W):Calls prog 72 #[s.val,.i d,.i own,.i more] W fun e W'=>
  e=.returned (.tuple #[((Tk.bC s d own more).getD S.zero).val,.bool (Tk.bC s d own more).isSome])/\Below W.heap.size W W':=by
 obtain⟨F,h1,h2,h3⟩:=LW d hd s own more;exact xk W s own more F d _ _ (by unfold iw at hd;omega) h1 h2 hL (Mod.vK hr) h3
end Cl
namespace Mod
open Go.RowKit Hp Slot ah ai
theorem eO {B:Nat} {a w:World} (h:Below B a w) (n:Nat):Below B a (w.drewN n):=⟨h.os,h.tape,h.output,h.size,h.block⟩
theorem DV {w:World} {base:Nat} {e:TypeId} {size:Nat} {v:Value} {n:Nat} {xs:List Value} (h:w.ownsRow base e size v n xs) (hv:v≠.slice none 0 0):∃ g cap,v=.slice (some ⟨g,0,none⟩) n cap/\base<=g:=by
 rcases h.2 with h2 | ⟨g,cap,cur,rfl,hb,_⟩
 ·exact absurd h2.1 hv
 ·exact⟨g,cap,rfl,hb⟩
end Mod
end Go.Proofs.YtbklamnimfmjkaaGreatDoor
