import Derived.Calls
import Derived.Orders
import Derived.Still
namespace Go.Proofs.Ytcpicekmnkjceaa.VI
set_option linter.unusedVariables false
set_option linter.unusedSimpArgs false

inductive V where
  | u
  | b (x : Bool) | i (k : IntKind) (n : Int) | s (x : ByteArray)
  | agg (cs : List V) | tup (vs : List V)
  | sl (n sz : Nat) (cs : List V) | si (n : Nat) (k : IntKind) (xs : List Int) | sr (n sz : Nat) (g : Nat → List V) | nils
  | ref (id gen off : Nat) | pl (cs : List V) | nilp
  | own (id gen off n sz : Nat)
  | fn (f : FuncId) (caps : List V) | nilf

/-- A value of one cell. -/
def one : Value → Bool
  | .agg _ | .tuple _ => false
  | _ => true

/-- What a block holds: any cells, or whole numbers of one kind. -/
inductive D where
  | list (cs : List V)
  | ints (k : IntKind) (xs : List Int)
def D.toV : D → List V
  | .list cs => cs
  | .ints k xs => xs.map (.i k)

structure Blk where
  gen : Nat
  elem : TypeId
  d : D
  wr : Bool
def Blk.cs (b : Blk) : List V := b.d.toV

abbrev Heap := List Blk

structure Cx where
  P : Program
  w : World
  ρ : Nat → Nat
  h : Heap
  /-- The blocks that no value that stays may lie in. -/
  av : Nat → Prop
/-- The blocks that may be written. -/
def Cx.own (x : Cx) (n : Nat) : Prop := ∃ id b, x.h[id]? = some b ∧ 0 < b.gen ∧ b.wr = true ∧ x.ρ id = n
def Cx.bare (x : Cx) : Cx := { x with h := [] }

mutual
def VR : (x : Cx) → V → Value → Prop
  | _, .u, _ => True
  | _, .b t, v => v = .bool t
  | _, .i k n, v => v = .int k n
  | _, .s t, v => v = .string t
  | x, .agg cs, v => ∃ l : List Value, v = .agg l.toArray ∧ VRs x cs l
  | x, .tup cs, v => ∃ l : List Value, v = .tuple l.toArray ∧ VRs x cs l
  | x, .sl n sz cs, v => ∃ a cap, v = .slice a n cap ∧ n ≤ cap ∧ 0 < sz ∧ (n = 0 ∨ ∃ bk off, a = some ⟨bk, off, none⟩ ∧ ¬ x.av bk ∧ n * sz ≤ cs.length ∧ VRc x.bare cs bk off)
  | x, .si n k xs, v => ∃ a cap, v = .slice a n cap ∧ n ≤ cap ∧ (n = 0 ∨ ∃ bk off, a = some ⟨bk, off, none⟩ ∧ ¬ x.av bk ∧ n ≤ xs.length ∧ ∀ j e, j < n → xs[j]? = some e → x.w.cell? ⟨bk, off + j, none⟩ = some (.int k e))
  | x, .sr n sz g, v => ∃ a cap, v = .slice a n cap ∧ n ≤ cap ∧ 0 < sz ∧ (n = 0 ∨ ∃ bk off, a = some ⟨bk, off, none⟩ ∧ ¬ x.av bk ∧ ∀ j, j < n → (g j).length = sz ∧ VRc x.bare (g j) bk (off + j * sz))
  | _, .nils, v => ∃ a, v = .slice a 0 0
  | x, .ref id gen off, v => one v = true ∧ ∃ bk, x.h[id]? = some bk ∧ gen ≤ bk.gen ∧ (gen = bk.gen → 0 < gen → v = .pointer (some ⟨x.ρ id, off, none⟩))
  | x, .pl cs, v => ∃ bk off, v = .pointer (some ⟨bk, off, none⟩) ∧ (cs = [] ∨ (¬ x.av bk ∧ VRc x.bare cs bk off))
  | _, .nilp, v => v = .pointer none
  | x, .own id gen off n sz, v => one v = true ∧ ∃ bk, x.h[id]? = some bk ∧ gen ≤ bk.gen ∧ (gen = bk.gen → 0 < gen → ∃ o cap, v = .slice (some ⟨x.ρ id, o, none⟩) n cap ∧ n ≤ cap ∧ (0 < sz ∧ (n = 0 ∨ off + n * sz ≤ bk.cs.length)) ∧ ((n = 0 ∧ 0 < off) ∨ (o = off ∧ ∃ el tot, x.w.shape? (x.ρ id) = some (el, tot) ∧ off + cap * sz = tot)))
  | x, .fn f caps, v => ∃ l : List Value, v = .func (.func f) #[] l.toArray ∧ VRs x caps l
  | _, .nilf, v => v = .nilFunc
def VRs : (x : Cx) → List V → List Value → Prop
  | _, [], l => l = []
  | x, c :: cs, l => ∃ v vs, l = v :: vs ∧ VR x c v ∧ VRs x cs vs
def VRc : (x : Cx) → List V → Nat → Nat → Prop
  | _, [], _, _ => True
  | x, c :: cs, bk, off => (∃ v, x.w.cell? ⟨bk, off, none⟩ = some v ∧ VR x c v) ∧ VRc x cs bk (off + 1)
end

/-- What carries a value's reading from one state to another. -/
structure Mono (x y : Cx) : Prop where
  P : y.P = x.P
  gens : ∀ id bk, x.h[id]? = some bk → ∃ bk', y.h[id]? = some bk' ∧ bk.gen ≤ bk'.gen ∧ (bk.gen = bk'.gen → 0 < bk.gen → y.ρ id = x.ρ id ∧ y.w.shape? (y.ρ id) = x.w.shape? (x.ρ id) ∧ bk.cs.length ≤ bk'.cs.length)
  blocks : ∀ n, n < x.w.heap.size → ¬ x.av n → ¬ y.av n ∧ y.w.heap[n]? = x.w.heap[n]?
  size : x.w.heap.size ≤ y.w.heap.size
theorem Mono.refl (x : Cx) : Mono x x := ⟨rfl, fun _ bk h => ⟨bk, h, Nat.le_refl _, fun _ _ => ⟨rfl, rfl, Nat.le_refl _⟩⟩, fun _ _ h => ⟨h, rfl⟩, Nat.le_refl _⟩
theorem Mono.trans {x y z : Cx} (h : Mono x y) (k : Mono y z) : Mono x z := by
  refine ⟨k.P.trans h.P, fun id bk hb => ?_, fun n hn ho => ?_, Nat.le_trans h.size k.size⟩
  · obtain ⟨b1, h1, h2, h3⟩ := h.gens id bk hb
    obtain ⟨b2, k1, k2, k3⟩ := k.gens id b1 h1
    refine ⟨b2, k1, Nat.le_trans h2 k2, fun e p => ?_⟩
    have e1 : bk.gen = b1.gen := by omega
    obtain ⟨p1, p2, p3⟩ := k3 (by omega) (by omega)
    obtain ⟨q1, q2, q3⟩ := h3 e1 p
    exact ⟨p1.trans q1, p2.trans q2, Nat.le_trans q3 p3⟩
  · obtain ⟨h1, h2⟩ := h.blocks n hn ho
    obtain ⟨k1, k2⟩ := k.blocks n (Nat.lt_of_lt_of_le hn h.size) h1
    exact ⟨k1, k2.trans h2⟩
theorem Mono.bare {x y : Cx} (h : Mono x y) : Mono x.bare y.bare := ⟨h.P, fun id bk hb => by simp [Cx.bare] at hb, h.blocks, h.size⟩
theorem Mono.unbare (x : Cx) : Mono x.bare x := ⟨rfl, fun id bk hb => by simp [Cx.bare] at hb, fun _ _ h => ⟨h, rfl⟩, Nat.le_refl _⟩
/-- What an operation may do to the state. -/
structure Ext (x y : Cx) : Prop where
  mono : Mono x y
  heap : ∀ n, n < x.w.heap.size → ¬ x.own n → ¬ y.own n ∧ y.w.heap[n]? = x.w.heap[n]?
  keep : ∀ n, n < x.w.heap.size → x.av n → ¬ x.own n → y.av n
theorem Ext.refl (x : Cx) : Ext x x := ⟨Mono.refl x, fun _ _ h => ⟨h, rfl⟩, fun _ _ h _ => h⟩
theorem Ext.trans {x y z : Cx} (h : Ext x y) (k : Ext y z) : Ext x z := by
  refine ⟨h.mono.trans k.mono, fun n hn ho => ?_, fun n hn ha ho => ?_⟩
  · obtain ⟨h1, h2⟩ := h.heap n hn ho
    obtain ⟨k1, k2⟩ := k.heap n (Nat.lt_of_lt_of_le hn h.mono.size) h1
    exact ⟨k1, k2.trans h2⟩
  · exact k.keep n (Nat.lt_of_lt_of_le hn h.mono.size) (h.keep n hn ha ho) (h.heap n hn ho).1

theorem lt_of_cell {w : World} {bk off : Nat} {v : Value} (h : w.cell? ⟨bk, off, none⟩ = some v) : bk < w.heap.size := by
  rcases Nat.lt_or_ge bk w.heap.size with hlt | hge
  · exact hlt
  · simp [World.cell?, Array.getElem?_eq_none hge] at h

mutual
theorem VR.mono {x y : Cx} (e : Mono x y) : ∀ (c : V) (v : Value), VR x c v → VR y c v
  | .u, _, _ => trivial
  | .b _, _, h => h
  | .i _ _, _, h => h
  | .s _, _, h => h
  | .agg cs, _, h => by
    obtain ⟨l, hl, hs⟩ := h
    exact ⟨l, hl, VRs.mono e cs l hs⟩
  | .tup cs, _, h => by
    obtain ⟨l, hl, hs⟩ := h
    exact ⟨l, hl, VRs.mono e cs l hs⟩
  | .sl n sz cs, _, h => by
    obtain ⟨a, cap, hv, hc, hz, hr⟩ := h
    refine ⟨a, cap, hv, hc, hz, ?_⟩
    rcases hr with h0 | ⟨bk, off, ha, ho, hn, hs⟩
    · exact .inl h0
    · by_cases h0 : n = 0
      · exact .inl h0
      · have hlt : bk < x.w.heap.size := by
          cases cs with
          | nil =>
            have : 0 < n * sz := Nat.mul_pos (by omega) hz
            simp at hn; omega
          | cons c cs =>
            obtain ⟨⟨v, hv, _⟩, _⟩ := hs
            exact lt_of_cell hv
        exact .inr ⟨bk, off, ha, (e.blocks bk hlt ho).1, hn, VRc.mono e.bare cs bk off ho hs⟩
  | .si n k xs, _, h => by
    obtain ⟨a, cap, hv, hc, hr⟩ := h
    refine ⟨a, cap, hv, hc, ?_⟩
    rcases hr with h0 | ⟨bk, off, ha, ho, hn, hs⟩
    · exact .inl h0
    · by_cases h0 : n = 0
      · exact .inl h0
      · have h1 := hs 0 (xs[0]'(by omega)) (by omega) (List.getElem?_eq_getElem _)
        have hlt : bk < x.w.heap.size := lt_of_cell h1
        obtain ⟨b1, b2⟩ := e.blocks bk hlt ho
        refine .inr ⟨bk, off, ha, b1, hn, fun j el hj he => ?_⟩
        have := hs j el hj he
        simpa [World.cell?, b2] using this
  | .sr n sz g, _, h => by
    obtain ⟨a, cap, hv, hc, hz, hr⟩ := h
    refine ⟨a, cap, hv, hc, hz, ?_⟩
    rcases hr with h0 | ⟨bk, off, ha, ho, hs⟩
    · exact .inl h0
    · by_cases h0 : n = 0
      · exact .inl h0
      · have hlt : bk < x.w.heap.size := by
          obtain ⟨h1, h2⟩ := hs 0 (by omega)
          cases hg : g 0 with
          | nil => rw [hg] at h1; simp at h1; omega
          | cons c cs =>
            rw [hg] at h2
            obtain ⟨⟨v, hv, _⟩, _⟩ := h2
            exact lt_of_cell hv
        exact .inr ⟨bk, off, ha, (e.blocks bk hlt ho).1, fun j hj => ⟨(hs j hj).1, VRc.mono e.bare (g j) bk _ ho (hs j hj).2⟩⟩
  | .nils, _, h => h
  | .ref id gen off, _, h => by
    obtain ⟨h1, bk, h2, h3, h4⟩ := h
    obtain ⟨b', k1, k2, k3⟩ := e.gens id bk h2
    refine ⟨h1, b', k1, by omega, fun eg p => ?_⟩
    have : bk.gen = b'.gen := by omega
    rw [(k3 this (by omega)).1]; exact h4 (by omega) p
  | .pl cs, _, h => by
    obtain ⟨bk, off, hv, hr⟩ := h
    refine ⟨bk, off, hv, ?_⟩
    rcases hr with h0 | ⟨ho, hs⟩
    · exact .inl h0
    · cases cs with
      | nil => exact .inl rfl
      | cons c cs =>
        have hlt : bk < x.w.heap.size := by
          obtain ⟨⟨v, hv, _⟩, _⟩ := hs
          exact lt_of_cell hv
        exact .inr ⟨(e.blocks bk hlt ho).1, VRc.mono e.bare (c :: cs) bk off ho hs⟩
  | .nilp, _, h => h
  | .own id gen off n sz, _, h => by
    obtain ⟨h1, bk, h2, h3, h4⟩ := h
    obtain ⟨b', k1, k2, k3⟩ := e.gens id bk h2
    refine ⟨h1, b', k1, by omega, fun eg p => ?_⟩
    have : bk.gen = b'.gen := by omega
    obtain ⟨p1, p2, p3⟩ := k3 this (by omega)
    obtain ⟨o, cap, q1, q2, q0, q3⟩ := h4 (by omega) p
    refine ⟨o, cap, by rw [p1]; exact q1, q2, ⟨q0.1, q0.2.imp (fun z => z) (fun z => Nat.le_trans z p3)⟩, q3.imp (fun z => z) fun ⟨q4, el, tot, q5, q6⟩ => ⟨q4, el, tot, by rw [p2]; exact q5, q6⟩⟩
  | .fn _ caps, _, h => by
    obtain ⟨l, hl, hs⟩ := h
    exact ⟨l, hl, VRs.mono e caps l hs⟩
  | .nilf, _, h => h
theorem VRs.mono {x y : Cx} (e : Mono x y) : ∀ (cs : List V) (l : List Value), VRs x cs l → VRs y cs l
  | [], _, h => h
  | c :: cs, _, h => by
    obtain ⟨v, vs, hl, hv, hs⟩ := h
    exact ⟨v, vs, hl, VR.mono e c v hv, VRs.mono e cs vs hs⟩
theorem VRc.mono {x y : Cx} (e : Mono x y) : ∀ (cs : List V) (bk off : Nat), ¬ x.av bk → VRc x cs bk off → VRc y cs bk off
  | [], _, _, _, _ => trivial
  | c :: cs, bk, off, ho, h => by
    obtain ⟨⟨v, hv, hr⟩, hs⟩ := h
    refine ⟨⟨v, ?_, VR.mono e c v hr⟩, VRc.mono e cs bk (off + 1) ho hs⟩
    have := (e.blocks bk (lt_of_cell hv) ho).2
    simpa [World.cell?, this] using hv
end

theorem VRs.length {x : Cx} : ∀ {cs : List V} {l : List Value}, VRs x cs l → l.length = cs.length
  | [], _, h => by subst h; rfl
  | _ :: _, _, h => by
    obtain ⟨v, vs, hl, _, hs⟩ := h
    subst hl; simp [VRs.length hs]
theorem VRs.get {x : Cx} : ∀ {cs : List V} {l : List Value}, VRs x cs l → ∀ (j : Nat) (c : V), cs[j]? = some c → ∃ v, l[j]? = some v ∧ VR x c v
  | [], _, _, j, c, hj => by simp at hj
  | c :: cs, _, h, j, d, hj => by
    obtain ⟨v, vs, hl, hv, hs⟩ := h
    subst hl
    cases j with
    | zero => simp at hj; subst hj; exact ⟨v, rfl, hv⟩
    | succ j => simpa using VRs.get hs j d (by simpa using hj)
theorem VRs.set {x : Cx} : ∀ {cs : List V} {l : List Value}, VRs x cs l → ∀ (j : Nat) {c : V} {v : Value}, VR x c v → VRs x (cs.set j c) (l.set j v)
  | [], _, h, _, _, _, _ => by subst h; simp [VRs]
  | _ :: cs, _, h, j, d, u, hu => by
    obtain ⟨v, vs, hl, hv, hs⟩ := h
    subst hl
    cases j with
    | zero => exact ⟨u, vs, rfl, hu, hs⟩
    | succ j => exact ⟨v, vs.set j u, rfl, hv, VRs.set hs j hu⟩
theorem VRs.append {x : Cx} : ∀ {cs ds : List V} {l m : List Value}, VRs x cs l → VRs x ds m → VRs x (cs ++ ds) (l ++ m)
  | [], _, _, _, h, k => by subst h; exact k
  | _ :: _, _, _, _, h, k => by
    obtain ⟨v, vs, hl, hv, hs⟩ := h
    subst hl
    exact ⟨v, vs ++ _, rfl, hv, VRs.append hs k⟩
theorem VRs.take {x : Cx} : ∀ {cs : List V} {l : List Value}, VRs x cs l → ∀ n, VRs x (cs.take n) (l.take n)
  | [], _, h, n => by subst h; simp [VRs]
  | _ :: _, _, h, n => by
    obtain ⟨v, vs, hl, hv, hs⟩ := h
    subst hl
    cases n with
    | zero => simp [VRs]
    | succ n => exact ⟨v, vs.take n, rfl, hv, VRs.take hs n⟩
theorem VRs.drop {x : Cx} : ∀ {cs : List V} {l : List Value}, VRs x cs l → ∀ n, VRs x (cs.drop n) (l.drop n)
  | [], _, h, n => by subst h; simp [VRs]
  | _ :: _, _, h, n => by
    obtain ⟨v, vs, hl, hv, hs⟩ := h
    subst hl
    cases n with
    | zero => exact ⟨v, vs, rfl, hv, hs⟩
    | succ n => simpa using VRs.drop hs n
theorem VRs.map {x : Cx} {α : Type} {f : α → V} {g : α → Value} (h : ∀ a, VR x (f a) (g a)) : ∀ l : List α, VRs x (l.map f) (l.map g)
  | [] => rfl
  | a :: l => ⟨g a, l.map g, rfl, h a, VRs.map h l⟩
theorem VRc.get {x : Cx} : ∀ {cs : List V} {bk off : Nat}, VRc x cs bk off → ∀ (j : Nat) (c : V), cs[j]? = some c → ∃ v, x.w.cell? ⟨bk, off + j, none⟩ = some v ∧ VR x c v
  | [], _, _, _, j, c, hj => by simp at hj
  | c :: cs, bk, off, h, j, d, hj => by
    obtain ⟨h1, h2⟩ := h
    cases j with
    | zero => simp at hj; subst hj; exact h1
    | succ j =>
      have := VRc.get h2 j d (by simpa using hj)
      rwa [show off + 1 + j = off + (j + 1) by omega] at this
theorem VRc.drop {x : Cx} : ∀ {cs : List V} {bk off : Nat}, VRc x cs bk off → ∀ n, VRc x (cs.drop n) bk (off + n)
  | [], _, _, _, n => by simp [VRc]
  | c :: cs, bk, off, h, n => by
    cases n with
    | zero => exact h
    | succ n =>
      have := VRc.drop h.2 n
      rwa [show off + 1 + n = off + (n + 1) by omega] at this
theorem VRc.take {x : Cx} : ∀ {cs : List V} {bk off : Nat}, VRc x cs bk off → ∀ n, VRc x (cs.take n) bk off
  | [], _, _, _, n => by simp [VRc]
  | c :: cs, bk, off, h, n => by
    cases n with
    | zero => simp [VRc]
    | succ n => exact ⟨h.1, VRc.take h.2 n⟩

/-- A known value's own cells, as a V. -/
def ofCell : Value → V
  | .bool b => .b b
  | .int k n => .i k n
  | .string s => .s s
  | .pointer none => .nilp
  | .slice none 0 0 => .nils
  | .nilFunc => .nilf
  | _ => .u
def ofVal : Value → V
  | .agg cs => .agg (cs.toList.map ofCell)
  | .func (.func f) first caps => if first.size = 0 ∧ caps.size = 0 then .fn f [] else .u
  | v => ofCell v
theorem VR_ofCell (x : Cx) (v : Value) : VR x (ofCell v) v := by
  unfold ofCell
  split <;> simp [VR]
theorem VR_ofVal (x : Cx) (v : Value) : VR x (ofVal v) v := by
  unfold ofVal
  split
  · rename_i cs
    exact ⟨cs.toList, by simp, by have := VRs.map (fun a => VR_ofCell x a) cs.toList; simpa using this⟩
  · rename_i f first caps
    split
    · rename_i h
      have h1 : first = #[] := Array.eq_empty_of_size_eq_zero h.1
      have h2 : caps = #[] := Array.eq_empty_of_size_eq_zero h.2
      subst h1 h2
      exact ⟨[], rfl, rfl⟩
    · trivial
  · exact VR_ofCell x v

/-- The cells of a value that has a known number of them. -/
def vcells : V → Option (List V)
  | .agg cs => some cs
  | .u => none
  | .tup _ => none
  | v => some [v]
theorem VR_cells {x : Cx} {c : V} {v : Value} {cs : List V} (h : VR x c v) (hc : vcells c = some cs) : VRs x cs v.cells.toList := by
  cases c <;> simp only [vcells, Option.some.injEq, reduceCtorEq] at hc
  case agg =>
    subst hc
    obtain ⟨l, rfl, hs⟩ := h
    simpa [Value.cells] using hs
  all_goals
    subst hc
    have key : one v = true → VRs x [_] v.cells.toList := fun ho => ⟨v, [], by cases v <;> simp_all [one, Value.cells], h, rfl⟩
    first
    | exact key h.1
    | (have h' := h; simp only [VR] at h'; (first | subst h' | (obtain ⟨_, rfl, _⟩ := h') | (obtain ⟨_, _, rfl, _⟩ := h') | (obtain ⟨_, rfl⟩ := h')); exact key rfl)
/-- A cell that may be stored. -/
def okc : V → Bool
  | .u | .agg _ | .tup _ => false
  | _ => true
theorem okc_one {x : Cx} {c : V} {v : Value} (h : VR x c v) (ho : okc c = true) : one v = true := by
  cases c <;> simp only [okc, Bool.false_eq_true] at ho
  all_goals
    first
    | exact h.1
    | (have h' := h; simp only [VR] at h'; (first | subst h' | (obtain ⟨_, rfl, _⟩ := h') | (obtain ⟨_, _, rfl, _⟩ := h') | (obtain ⟨_, rfl⟩ := h')); rfl)

/-- The frame's temporaries. -/
def ev (t : List V) : Operand → V
  | .tmp n => t.getD n .u
  | .const v => ofVal v
  | .func f => .fn f []
  | .global _ => .u
theorem VR_ev {x : Cx} {t : List V} {a : Act} (h : VRs x t a.tmps.toList) (o : Operand) : VR x (ev t o) (a.eval o) := by
  cases o with
  | tmp n =>
    simp only [ev, Act.eval]
    rw [List.getD_eq_getElem?_getD]
    cases hn : t[n]? with
    | none => trivial
    | some c =>
      obtain ⟨v, hv, hr⟩ := h.get n c hn
      simp only [Option.getD_some]
      rw [Array.getD_eq_getD_getElem?]
      rw [show a.tmps[n]? = some v by simpa using hv]
      exact hr
  | const v => exact VR_ofVal x v
  | func f => exact ⟨[], rfl, rfl⟩
  | global g => trivial
def putt (t : List V) (d : Option Tmp) (c : V) : List V := match d with | some d => t.set d c | none => t
theorem VRs_put {x : Cx} {t : List V} {a : Act} (h : VRs x t a.tmps.toList) (d : Option Tmp) {c : V} {v : Value} (hc : VR x c v) : VRs x (putt t d c) (a.put d v).tmps.toList := by
  cases d with
  | none => exact h
  | some d =>
    simp only [putt, Act.put]
    have := h.set d hc
    simpa using this
end Go.Proofs.Ytcpicekmnkjceaa.VI
