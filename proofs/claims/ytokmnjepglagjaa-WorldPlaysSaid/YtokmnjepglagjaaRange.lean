/- The statement 'for .. := range f' over a function f of which a contract is known: the law by which a caller is walked. No program is named. -/
import Derived.Test.YtokmnjepglagjaaOwn
import Derived.RangeFuncNested
import Derived.RangeFuncBound
import Derived.RangeFuncCalls
import Derived.RangeFuncLeaves
import Derived.Shelf.Abstract
import Derived.Shelf.RegionOpen
import Derived.OwnWalkIn
import Derived.TacticsInMore
import Derived.LoopNIn
import Derived.LoopIn
namespace Go.Proofs.Ytokmnjepglagjaa.Rng
set_option linter.unusedVariables false
set_option linter.unusedSimpArgs false
open Go.RowKit Hp

/-- What the loop's own book-keeping changes: blocks from B on that hold no cells; new ones come. -/
structure Turn (B : Nat) (W W' : World) : Prop where
  os : W'.os = W.os
  tape : W'.tape = W.tape
  output : W'.output = W.output
  size : W.heap.size ≤ W'.heap.size
  block : ∀ k, k < B → k < W.heap.size → W'.heap[k]? = W.heap[k]?
  cells : ∀ (k : Nat) (o : Obj), W.heap[k]? = some o → o.isCells = true → W'.heap[k]? = some o

theorem Turn.refl (B : Nat) (W : World) : Turn B W W := ⟨rfl, rfl, rfl, Nat.le_refl _, fun _ _ _ => rfl, fun _ _ h _ => h⟩
theorem Turn.alloc {B : Nat} {W W' : World} (h : Turn B W W') (o : Obj) : Turn B W (W'.alloc o) :=
  ⟨h.os, h.tape, h.output, by have := h.size; simp; omega, fun k hk hs => (Below.heap_alloc _ _ _ (Nat.lt_of_lt_of_le hs h.size)).trans (h.block k hk hs),
    fun k o hk hc => (Below.heap_alloc _ _ _ (Array.getElem?_eq_some_iff.1 (h.cells k o hk hc)).1).trans (h.cells k o hk hc)⟩
theorem Turn.putObj {B : Nat} {W W' : World} (h : Turn B W W') {l : Nat} {o : Obj} (o' : Obj) (hl : B ≤ l) (ho : W'.heap[l]? = some o) (hc : o.isCells = false) : Turn B W (W'.putObj l o') :=
  ⟨h.os, h.tape, h.output, by have := h.size; simpa using this, fun k hk hs => (World.putObj_heap_other (by omega)).trans (h.block k hk hs),
    fun k o2 hk hc2 => by
      have h1 := h.cells k o2 hk hc2
      refine (World.putObj_heap_other (fun e => ?_)).trans h1
      subst e
      rw [ho] at h1; cases h1; rw [hc] at hc2; cases hc2⟩
theorem Turn.below {B A : Nat} {w W W' : World} (h : Turn B W W') (hb : Below A w W) (hA : A ≤ B) (hw : A ≤ w.heap.size) : Below A w W' :=
  hb.trans ⟨h.os, h.tape, h.output, h.size, fun k hk => h.block k (by omega) (by have := hb.size; omega)⟩
theorem Turn.chg {B : Nat} {F : Nat → Prop} {w W W' : World} (h : Turn B W W') (hb : Chg F w W) (hw : w.heap.size ≤ B) : Chg F w W' :=
  ⟨h.os.trans hb.os, h.tape.trans hb.tape, h.output.trans hb.output, Nat.le_trans hb.size h.size, fun k hk hf => (h.block k (by omega) (Nat.lt_of_lt_of_le hk hb.size)).trans (hb.block k hk hf)⟩
theorem Turn.cell {B : Nat} {W W' : World} (h : Turn B W W') {p : Addr} {v : Value} (hc : W.cell? p = some v) : W'.cell? p = some v := by
  obtain ⟨o, ho, hoc⟩ := cells_of_cell hc
  exact (World.cell?_of_block ((h.cells _ _ ho hoc).trans ho.symm)).trans hc
theorem Turn.frozen {B : Nat} {W W' : World} (h : Turn B W W') {p : Addr} {v : Value} (hc : W.cell? p = some v) : W'.frozen? p = W.frozen? p := by
  obtain ⟨o, ho, hoc⟩ := cells_of_cell hc
  exact World.frozen?_of_block ((h.cells _ _ ho hoc).trans ho.symm)

theorem Turn.isC {B : Nat} {W W' : World} (h : Turn B W W') {g : Nat} (hg : IsC W g) : IsC W' g := by
  obtain ⟨o, h1, h2⟩ := hg; exact ⟨o, h.cells g o h1 h2, h2⟩
theorem Turn.own {B : Nat} {W W' : World} (ht : Turn B W W') {v : Value} {n size : Nat} {xs : List Value} (h : OwnS W v n size xs) : OwnS W' v n size xs := by
  obtain ⟨h1, h2⟩ := h
  refine ⟨h1, h2.imp id ?_⟩
  rintro ⟨g, off, cap, hv, a1, a2, a3, a4, a5, a6⟩
  refine ⟨g, off, cap, hv, a1, a2, ht.isC a3, fun j hj => ?_, fun j hj => ?_, fun j u hu => ht.cell (a6 j u hu)⟩
  · obtain ⟨u, hu⟩ := Option.isSome_iff_exists.1 (a4 j hj)
    rw [ht.cell hu]; rfl
  · obtain ⟨u, hu⟩ := Option.isSome_iff_exists.1 (a4 j hj)
    rw [ht.frozen hu]; exact a5 j hj

theorem _root_.Go.Proofs.Ytokmnjepglagjaa.Hp.SliceAt.turn {B : Nat} {w w' : World} {v : Value} {xs : List Value} (h : SliceAt w v xs) (ht : Turn B w w') : SliceAt w' v xs := h.stable fun p u hp => ht.cell hp

/-- What a round leaves of the loop's own book-keeping, and of what the iterator goes by. -/
structure Keeps (B : Nat) (Rd : Nat → Prop) (W W' : World) : Prop where
  size : W.heap.size ≤ W'.heap.size
  same : ∀ (k : Nat) (o : Obj), B ≤ k → W.heap[k]? = some o → o.isCells = false → W'.heap[k]? = some o
  read : ∀ k, Rd k → W'.heap[k]? = W.heap[k]?

theorem Keeps.refl (B : Nat) (W : World) : Keeps B (fun _ => False) W W := ⟨Nat.le_refl _, fun _ _ _ h _ => h, fun _ h => h.elim⟩
/-- A round that changes blocks of cells alone, none of which the iterator goes by. -/
theorem Keeps.of_chg {B : Nat} {Rd F : Nat → Prop} {W W' : World} (h : Chg F W W') (hF : ∀ k, k < W.heap.size → F k → k < B ∨ IsC W k) (hR : ∀ k, Rd k → k < W.heap.size ∧ ¬ F k) : Keeps B Rd W W' :=
  ⟨h.size, fun k o hk ho hc => (h.block k (Array.getElem?_eq_some_iff.1 ho).1 (fun hf => by
    rcases hF k (Array.getElem?_eq_some_iff.1 ho).1 hf with h1 | ⟨o', h1, h2⟩
    · omega
    · rw [ho] at h1; cases h1; rw [hc] at h2; cases h2)).trans ho, fun k hk => h.block k (hR k hk).1 (hR k hk).2⟩

/-- The contract of an iterator f = func gf with what it captured, begun in the world W: in state s, what J says of the world being so, it skips to s', or tells x and is in s' behind the round. It writes blocks of Wr alone; a round keeps what Rd and Wr name. -/
def SeqAt {σ α : Type} (P : Program) (gf : Nat) (lb : Array Value) (encs : α → Array Value) (I : σ → World → Prop) (Rd Wr : Nat → Prop) (Skips : σ → World → σ → Prop) (Yields : σ → World → α → σ → Prop) (Done : σ → World → Prop) (s0 : σ) (W : World) : Prop :=
  ∀ (l : Nat) (J : σ → World → Prop) (Jx : World → Prop),
    (∀ s W, J s W → I s W) → (∀ s W W', J s W → Chg Wr W W' → J s W') → (∀ s s' W, J s W → Skips s W s' → J s' W) →
    (∀ s x s' W, J s W → Yields s W x s' → YieldAt Fence.wide 7 P l (encs x) W fun e W' =>
      (e = .returned (.bool true) ∧ J s' W' ∧ W.heap.size ≤ W'.heap.size ∧ ∀ k, Rd k ∨ Wr k → W'.heap[k]? = W.heap[k]?) ∨ (e = .returned (.bool false) ∧ Jx W')) →
    J s0 W →
    CallsIn Fence.wide 8 P gf (#[.func (.yield l) #[] #[]] ++ lb) W fun e W' => (∃ v, e = .returned v) ∧ ((∃ s, Done s W' ∧ J s W') ∨ Jx W')

/-- How the body of a round may be left. -/
def roundOut (B : Nat) (Rd Wr : Nat → Prop) (K : World → Prop) (Kx : Code → World → Prop) (W : World) : Exit → Act → World → Prop
  | .normal, _, W' => Keeps B (fun k => Rd k ∨ Wr k) W W' ∧ K W'
  | .ret, _, W' => Keeps B (fun _ => False) W W' ∧ Kx .ret W'
  | .exit id, _, W' => Keeps B (fun _ => False) W W' ∧ Kx (.exit id) W'
  | .goto t, _, W' => Keeps B (fun _ => False) W W' ∧ Kx (.goto t) W'
  | .panic _, _, _ => False
  | .outgrown, _, _ => False

theorem wpIn_range {σ α : Type} {P : Program} {g : Operand} {ps : Array Tmp} {assign body : Code} {Q : Exit → Act → World → Prop} {a : Act} {w : World}
    {gf : Nat} {lb : Array Value} (hg : a.eval g = .func (.func gf) #[] lb) (eg : ∀ args w, (callFunc gf args).run P w = .ok (.enter gf args) w)
    {encs : α → Array Value} {I : σ → World → Prop} {Rd Wr : Nat → Prop} {Skips : σ → World → σ → Prop} {Yields : σ → World → α → σ → Prop} {Done : σ → World → Prop} {s0 : σ}
    (hps : ∀ x, (encs x).size = ps.size) (hRd : ∀ k, Rd k ∨ Wr k → k < w.heap.size)
    (hseq : ∀ W1, Turn w.heap.size w W1 → SeqAt P gf lb encs I Rd Wr Skips Yields Done s0 W1)
    (K : σ → World → Prop) (Kx : Code → World → Prop)
    (hKI : ∀ s W, K s W → I s W) (hKs : ∀ s W W', K s W → Chg Wr W W' → K s W') (hKk : ∀ s s' W, K s W → Skips s W s' → K s' W)
    (hKt : ∀ s W W', K s W → Turn w.heap.size W W' → K s W') (hKxt : ∀ c W W', Kx c W → Turn w.heap.size W W' → Kx c W') (hYt : ∀ s x s' W W', Yields s W x s' → Turn w.heap.size W W' → Yields s W' x s')
    (hDt : ∀ s W W', Done s W → Turn w.heap.size W W' → Done s W')
    (h0 : K s0 w)
    (hround : ∀ (l : Nat) (s : σ) (x : α) (s' : σ) (W : World), w.heap.size < l →
      assign.wpIn (Fence.wide.inRound l) 7 P (Exit.then (fun a' W' => W = W' ∧ ∀ W2 : World, (∃ r, W2.heap[l]? = some (.loop r)) → K s W2 → Yields s W2 x s' →
        body.wpIn (Fence.wide.inRound l) 7 P (roundOut w.heap.size Rd Wr (K s') Kx W2) a' W2) (fun _ _ _ => False)) { tmps := (ps.zip (encs x)).foldl (fun t (p, v) => t.setIfInBounds p v) a.tmps, defers := [] } W)
    (hdone : ∀ (D : Nat) (s : σ) (W : World), w.heap.size ≤ D → Done s W → K s W → W.heap[D]? = some (.deferred (some [])) → Q .normal { a with defers := { target := .collected D, args := #[] } :: a.defers } W)
    (hstop : ∀ (D : Nat) (c : Code) (W : World), w.heap.size ≤ D → Kx c W → W.heap[D]? = some (.deferred (some [])) → c.wpIn Fence.wide 9 P Q { a with defers := { target := .collected D, args := #[] } :: a.defers } W) :
    (Code.rangeFunc g ps assign body).wpIn Fence.wide 9 P Q a w := by
  refine wpIn_rangeFunc ?_
  intro fn hfn
  obtain ⟨rec, hrec⟩ : ∃ rec : LoopState → Option Code → Loop, rec = fun st pe => { state := st, pending := pe, fn, tmps := a.tmps, params := ps, assign, body, defers := w.heap.size } := ⟨_, rfl⟩
  obtain ⟨W1, hW1⟩ : ∃ W1, (w.alloc (.deferred (some []))).alloc (.loop (rec .ready none)) = W1 := ⟨_, rfl⟩
  have hL1 : W1.heap[w.heap.size + 1]? = some (.loop (rec .ready none)) := by
    rw [← hW1]; have := World.alloc_heap_new (w.alloc (.deferred (some []))) (.loop (rec .ready none)); rwa [World.size_alloc] at this
  have hK1 : W1.heap[w.heap.size]? = some (.deferred (some [])) := by
    rw [← hW1]; exact (Below.heap_alloc _ _ _ (by simp)).trans (World.alloc_heap_new w _)
  have hT1 : Turn w.heap.size w W1 := by rw [← hW1]; exact ((Turn.refl _ _).alloc _).alloc _
  refine ⟨w.heap.size + 1, [{ target := .collected w.heap.size, args := #[] }], W1, { target := .fn (.func gf) lb, args := #[.func (.yield (w.heap.size + 1)) #[] #[]] }, W1, gf,
    #[.func (.yield (w.heap.size + 1)) #[] #[]] ++ lb, W1, ?_, ?_, ?_, ?_, fun h => by simp [Fence.wide] at h, ?_⟩
  · rw [← hW1, hrec]; exact run_enterLoop_outer _ _ _ _ _
  · simp only [resolve, hg]
    simp [go_sem]
  · intro f' hf'; exact trivial
  · simp [invoke, go_sem, eg]
  · refine ((hseq W1 hT1) (w.heap.size + 1)
      (fun s W => K s W ∧ W.heap[w.heap.size + 1]? = some (.loop (rec .ready none)) ∧ W.heap[w.heap.size]? = some (.deferred (some [])))
      (fun W => ∃ c, Kx c W ∧ W.heap[w.heap.size + 1]? = some (.loop (rec .done (some c))) ∧ W.heap[w.heap.size]? = some (.deferred (some [])))
      (fun s W h => hKI s W h.1)
      (fun s W W' h hc => ⟨hKs s W W' h.1 hc, (hc.block _ (Array.getElem?_eq_some_iff.1 h.2.1).1 (fun hw => by have := hRd _ (.inr hw); omega)).trans h.2.1, (hc.block _ (Array.getElem?_eq_some_iff.1 h.2.2).1 (fun hw => by have := hRd _ (.inr hw); omega)).trans h.2.2⟩)
      (fun s s' W h hs => ⟨hKk s s' W h.1 hs, h.2⟩)
      ?_ ⟨hKt _ _ _ h0 hT1, hL1, hK1⟩).mono ?_
    · rintro s x s' W ⟨hi, hl, hk⟩ hyl
      have hlt : w.heap.size + 1 < W.heap.size := (Array.getElem?_eq_some_iff.1 hl).1
      have hy := run_yield (P := P) (args := encs x) hl (by rw [hrec]; exact hps x)
      rw [hrec] at hy
      refine ⟨fn, _, assign, body, hy, roundIn_of_wpIn hfn (wpIn_mono (hround _ s x s' W (by omega)) ?_)⟩
      clear hy
      rintro e a' W' he
      cases e with
      | normal => ?_
      | ret => exact he
      | exit id => exact he
      | goto t => exact he
      | panic ch => exact he
      | outgrown => exact he
      obtain ⟨rfl, hbody⟩ := he
      refine ⟨_, run_beginRound hl (by rw [hrec]), ?_⟩
      have hl2 : (W.putObj (w.heap.size + 1) (.loop { rec .ready none with state := .busy })).heap[w.heap.size + 1]? = some (.loop { rec .ready none with state := .busy }) := World.putObj_heap_same hlt
      have hk2 : (W.putObj (w.heap.size + 1) (.loop { rec .ready none with state := .busy })).heap[w.heap.size]? = some (.deferred (some [])) := (World.putObj_heap_other (by omega)).trans hk
      have hT2 : Turn w.heap.size W (W.putObj (w.heap.size + 1) (.loop { rec .ready none with state := .busy })) := (Turn.refl _ _).putObj _ (by omega) hl rfl
      refine wpIn_mono (hbody _ ⟨_, hl2⟩ (hKt _ _ _ hi hT2) (hYt _ _ _ _ _ hyl hT2)) ?_
      have fin : ∀ (jump : Option Code) (Rd' : Nat → Prop) (W3 : World), Keeps w.heap.size Rd' (W.putObj (w.heap.size + 1) (.loop { rec .ready none with state := .busy })) W3 →
          (Instr.endRound (w.heap.size + 1) jump).run P W3 = .ok (.bool jump.isNone) (W3.putObj (w.heap.size + 1) (.loop (rec (if jump.isNone then .ready else .done) jump))) ∧
          W3.heap[w.heap.size + 1]? = some (.loop { rec .ready none with state := .busy }) ∧
          (W3.putObj (w.heap.size + 1) (.loop (rec (if jump.isNone then .ready else .done) jump))).heap[w.heap.size + 1]? = some (.loop (rec (if jump.isNone then .ready else .done) jump)) ∧
          (W3.putObj (w.heap.size + 1) (.loop (rec (if jump.isNone then .ready else .done) jump))).heap[w.heap.size]? = some (.deferred (some [])) := fun jump Rd' W3 hk3 => by
        have hl3 := hk3.same _ _ (by omega) hl2 rfl
        have := run_endRound (P := P) jump hl3
        rw [hrec] at this ⊢
        exact ⟨this, by rw [hrec] at hl3; exact hl3, World.putObj_heap_same (Array.getElem?_eq_some_iff.1 hl3).1, (World.putObj_heap_other (by omega)).trans (hk3.same _ _ (Nat.le_refl _) hk2 rfl)⟩
      rintro e a3 W3 hp
      cases e with
      | normal =>
        obtain ⟨hk3, hi3⟩ := hp
        obtain ⟨hr, hl3, hl4, hk4⟩ := fin none _ W3 hk3
        refine ⟨_, _, hr, .inl ⟨rfl, ⟨hKt _ _ _ hi3 ((Turn.refl _ _).putObj _ (by omega) hl3 rfl), hl4, hk4⟩, ?_, fun k hkk => ?_⟩⟩
        · have := hk3.size; simpa using this
        · have h1 := hRd k hkk
          exact (World.putObj_heap_other (by omega)).trans ((hk3.read k hkk).trans (World.putObj_heap_other (by omega)))
      | ret =>
        obtain ⟨hk3, hi3⟩ := hp
        obtain ⟨hr, hl3, hl4, hk4⟩ := fin (some .ret) _ W3 hk3
        exact ⟨_, _, hr, .inr ⟨rfl, .ret, hKxt _ _ _ hi3 ((Turn.refl _ _).putObj _ (by omega) hl3 rfl), hl4, hk4⟩⟩
      | exit id =>
        obtain ⟨hk3, hi3⟩ := hp
        obtain ⟨hr, hl3, hl4, hk4⟩ := fin (some (.exit id)) _ W3 hk3
        exact ⟨_, _, hr, .inr ⟨rfl, .exit id, hKxt _ _ _ hi3 ((Turn.refl _ _).putObj _ (by omega) hl3 rfl), hl4, hk4⟩⟩
      | goto t =>
        obtain ⟨hk3, hi3⟩ := hp
        obtain ⟨hr, hl3, hl4, hk4⟩ := fin (some (.goto t)) _ W3 hk3
        exact ⟨_, _, hr, .inr ⟨rfl, .goto t, hKxt _ _ _ hi3 ((Turn.refl _ _).putObj _ (by omega) hl3 rfl), hl4, hk4⟩⟩
      | panic ch => exact hp.elim
      | outgrown => exact hp.elim
    · rintro e W2 ⟨⟨v, rfl⟩, (⟨s, hD, hi, hl, hk⟩ | ⟨c, hi, hl, hk⟩)⟩
      · have hT : Turn w.heap.size W2 (W2.putObj (w.heap.size + 1) (.loop { rec .ready none with state := .exhausted })) := (Turn.refl _ _).putObj _ (by omega) hl rfl
        exact ⟨none, _, by have := run_endLoop (P := P) hl (by rw [hrec]; simp); rw [hrec] at this; exact this, hdone _ s _ (Nat.le_refl _) (by rw [hrec] at hT; exact hDt _ _ _ hD hT) (by rw [hrec] at hT; exact hKt _ _ _ hi hT) ((World.putObj_heap_other (by omega)).trans hk)⟩
      · have hT : Turn w.heap.size W2 (W2.putObj (w.heap.size + 1) (.loop { rec .done (some c) with state := .exhausted })) := (Turn.refl _ _).putObj _ (by omega) hl rfl
        exact ⟨some c, _, by have := run_endLoop (P := P) hl (by rw [hrec]; simp); rw [hrec] at this; exact this, hstop _ c _ (Nat.le_refl _) (by rw [hrec] at hT; exact hKxt _ _ _ hi hT) ((World.putObj_heap_other (by omega)).trans hk)⟩

theorem run_equalIn_func_nil {P : Program} (w : World) (d : Nat) (t : TypeId) {x y : Array TypeId} {z : Bool} (fn : Fn) (fs cap : Array Value) (h : P.underlying t = some (.func x y z)) :
    (Op.equalIn (d + 1) t (.func fn fs cap) .nilFunc).run P w = .ok false w := by
  simp [Op.equalIn, run_underlying h]

theorem run_eql_func_nil {P : Program} (w : World) (t : TypeId) {x y : Array TypeId} {z : Bool} (fn : Fn) (fs cap : Array Value) (h : P.underlying t = some (.func x y z)) :
    (binOp .eql t (.func fn fs cap) .nilFunc).run P w = .ok (.bool false) w := by
  simp only [binOp]
  simp [Op.equal, Op.maxDepth, run_equalIn_func_nil w 9999 t fn fs cap h]

end Go.Proofs.Ytokmnjepglagjaa.Rng
