import Derived.Calls
import Derived.Orders
import Derived.Still
import Derived.Laws.Entries
import Derived.Laws.Cells
import Derived.WalkKit
import Derived.Laws.Strings
import Derived.Laws.MakeOwn
import Derived.Laws.StructEq
import Derived.Laws.Cover3
import Derived.Laws.Pointers
import Derived.ChangeKeysEq
import Derived.Laws.IdiomCopy
namespace Go.Proofs.YtkmkhcmfpbffjaaGreat.VI
set_option linter.unusedVariables false
set_option linter.unusedSimpArgs false
inductive V where
  | u
  | b (x : Bool) | i (k : IntKind) (n : Int) | s (x : ByteArray)
  | agg (cs : List V) | tup (vs : List V)
  | sl (n sz : Nat) (cs : List V) | si (n : Nat) (k : IntKind) (xs : List Int) | sr (n sz : Nat) (g : Nat → List V) | nils
  | ref (id gen off : Nat) | pl (cs : List V) | nilp
  | own (id gen off n sz : Nat)
  | st (xs : List Int) | rrf (id gen row sz fld : Nat)
  | mref (id gen : Nat)
  | fn (f : FuncId) (caps : List V) | nilf
def one : Value → Bool
  | .agg _ | .tuple _ => false
  | _ => true
inductive D where
  | list (cs : List V)
  | ints (k : IntKind) (xs : List Int)
  | recs (n sz : Nat) (g : Nat → List V)
  | mix (pre : List V) (k : IntKind) (xs : List Int)
  | bm (k : IntKind) (es : List (Bool × Int))
def D.mpq : D → Bool
  | .bm _ _ => true
  | _ => false
def fit (sz : Nat) (l : List V) : List V := (l ++ List.replicate sz V.u).take sz
def fitted (sz : Nat) (g : Nat → List V) : Nat → List V
  | 0 => []
  | n + 1 => fitted sz g n ++ fit sz (g n)
def D.toV : D → List V
  | .list cs => cs
  | .ints k xs => xs.map (.i k)
  | .recs n sz g => fitted sz g n
  | .mix pre k xs => pre ++ xs.map (.i k)
  | .bm _ _ => []
structure Blk where
  gen : Nat
  elem : TypeId
  d : D
  wr : Bool
def Blk.cs (b : Blk) : List V := b.d.toV
abbrev Heap := List Blk
structure Cx where
  P : Program
  w : World
  ρ : Nat → Nat
  h : Heap
  av : Nat → Prop
  ph : Nat → Prop
def Cx.lv (x : Cx) (id : Nat) (b : Blk) : Prop := 0 < b.gen ∧ ¬ x.ph id
def Cx.own (x : Cx) (n : Nat) : Prop := ∃ id b, x.h[id]? = some b ∧ x.lv id b ∧ b.wr = true ∧ x.ρ id = n
def Cx.bare (x : Cx) : Cx := { x with h := [] }
mutual
def VR : (x : Cx) → V → Value → Prop
  | _, .u, _ => True
  | _, .b t, v => v = .bool t
  | _, .i k n, v => v = .int k n
  | _, .s t, v => v = .string t
  | x, .agg cs, v => ∃ l : List Value, v = .agg l.toArray ∧ VRs x cs l
  | x, .tup cs, v => ∃ l : List Value, v = .tuple l.toArray ∧ VRs x cs l
  | x, .sl n sz cs, v => ∃ a cap, v = .slice a n cap ∧ n ≤ cap ∧ 0 < sz ∧ (n = 0 ∨ ∃ bk off, a = some ⟨bk, off, none⟩ ∧ ¬ x.av bk ∧ n * sz ≤ cs.length ∧ VRc x.bare cs bk off)
  | x, .si n k xs, v => ∃ a cap, v = .slice a n cap ∧ n ≤ cap ∧ (n = 0 ∨ ∃ bk off, a = some ⟨bk, off, none⟩ ∧ ¬ x.av bk ∧ n ≤ xs.length ∧ ∀ j e, j < n → xs[j]? = some e → x.w.cell? ⟨bk, off + j, none⟩ = some (.int k e))
  | x, .sr n sz g, v => ∃ a cap, v = .slice a n cap ∧ n ≤ cap ∧ 0 < sz ∧ (n = 0 ∨ ∃ bk off, a = some ⟨bk, off, none⟩ ∧ ¬ x.av bk ∧ ∀ j, j < n → (g j).length = sz ∧ VRc x.bare (g j) bk (off + j * sz))
  | _, .nils, v => ∃ a, v = .slice a 0 0
  | x, .ref id gen off, v => one v = true ∧ ∃ bk, x.h[id]? = some bk ∧ gen ≤ bk.gen ∧ (gen = bk.gen → 0 < gen → ¬ x.ph id ∧ v = .pointer (some ⟨x.ρ id, off, none⟩))
  | x, .pl cs, v => ∃ bk off, v = .pointer (some ⟨bk, off, none⟩) ∧ (cs = [] ∨ (¬ x.av bk ∧ VRc x.bare cs bk off))
  | _, .nilp, v => v = .pointer none
  | x, .own id gen off n sz, v => one v = true ∧ ∃ bk, x.h[id]? = some bk ∧ gen ≤ bk.gen ∧ (gen = bk.gen → 0 < gen → ∃ a cap, v = .slice a n cap ∧ n ≤ cap ∧ 0 < sz ∧ ((n = 0 ∧ cap = 0) ∨ (¬ x.ph id ∧ ∃ o, a = some ⟨x.ρ id, o, none⟩ ∧ (n = 0 ∨ off + n * sz ≤ bk.cs.length) ∧ ((n = 0 ∧ 0 < off) ∨ (o = off ∧ ∃ el tot, x.w.shape? (x.ρ id) = some (el, tot) ∧ off + cap * sz = tot)))))
  | _, .st xs, v => ∃ b : ByteArray, v = .string b ∧ b.data.toList.map (fun c => (c.toNat : Int)) = xs
  | x, .rrf id gen row sz fld, v => one v = true ∧ ∃ bk, x.h[id]? = some bk ∧ gen ≤ bk.gen ∧ (gen = bk.gen → 0 < gen → ¬ x.ph id ∧ v = .pointer (some ⟨x.ρ id, row * sz + fld, none⟩))
  | x, .mref id gen, v => one v = true ∧ ∃ bk, x.h[id]? = some bk ∧ gen ≤ bk.gen ∧ (gen = bk.gen → 0 < gen → ¬ x.ph id ∧ v = .map (some (x.ρ id)))
  | x, .fn f caps, v => ∃ l : List Value, v = .func (.func f) #[] l.toArray ∧ VRs x caps l
  | _, .nilf, v => v = .nilFunc
def VRs : (x : Cx) → List V → List Value → Prop
  | _, [], l => l = []
  | x, c :: cs, l => ∃ v vs, l = v :: vs ∧ VR x c v ∧ VRs x cs vs
def VRc : (x : Cx) → List V → Nat → Nat → Prop
  | _, [], _, _ => True
  | x, c :: cs, bk, off => (∃ v, x.w.cell? ⟨bk, off, none⟩ = some v ∧ one v = true ∧ VR x c v) ∧ VRc x cs bk (off + 1)
end
structure Mono (x y : Cx) : Prop where
  P : y.P = x.P
  gens : ∀ id bk, x.h[id]? = some bk → ∃ bk', y.h[id]? = some bk' ∧ bk.gen ≤ bk'.gen ∧ (bk.gen = bk'.gen → x.lv id bk → ¬ y.ph id ∧ y.ρ id = x.ρ id ∧ y.w.shape? (y.ρ id) = x.w.shape? (x.ρ id) ∧ bk.cs.length ≤ bk'.cs.length)
  blocks : ∀ n, n < x.w.heap.size → ¬ x.av n → ¬ y.av n ∧ y.w.heap[n]? = x.w.heap[n]?
  size : x.w.heap.size ≤ y.w.heap.size
theorem Mono.refl (x : Cx) : Mono x x := ⟨rfl, fun _ bk h => ⟨bk, h, Nat.le_refl _, fun _ l => ⟨l.2, rfl, rfl, Nat.le_refl _⟩⟩, fun _ _ h => ⟨h, rfl⟩, Nat.le_refl _⟩
theorem Mono.trans {x y z : Cx} (h : Mono x y) (k : Mono y z) : Mono x z := by
  refine ⟨k.P.trans h.P, fun id bk hb => ?_, fun n hn ho => ?_, Nat.le_trans h.size k.size⟩
  · obtain ⟨b1, h1, h2, h3⟩ := h.gens id bk hb
    obtain ⟨b2, k1, k2, k3⟩ := k.gens id b1 h1
    refine ⟨b2, k1, Nat.le_trans h2 k2, fun e p => ?_⟩
    have e1 : bk.gen = b1.gen := by omega
    obtain ⟨q0, q1, q2, q3⟩ := h3 e1 p
    obtain ⟨p0, p1, p2, p3⟩ := k3 (by omega) ⟨by have := p.1; omega, q0⟩
    exact ⟨p0, p1.trans q1, p2.trans q2, Nat.le_trans q3 p3⟩
  · obtain ⟨h1, h2⟩ := h.blocks n hn ho
    obtain ⟨k1, k2⟩ := k.blocks n (Nat.lt_of_lt_of_le hn h.size) h1
    exact ⟨k1, k2.trans h2⟩
theorem Mono.bare {x y : Cx} (h : Mono x y) : Mono x.bare y.bare := ⟨h.P, fun id bk hb => by simp [Cx.bare] at hb, h.blocks, h.size⟩
theorem Mono.unbare (x : Cx) : Mono x.bare x := ⟨rfl, fun id bk hb => by simp [Cx.bare] at hb, fun _ _ h => ⟨h, rfl⟩, Nat.le_refl _⟩
structure Ext (x y : Cx) : Prop where
  mono : Mono x y
  heap : ∀ n, n < x.w.heap.size → ¬ x.own n → ¬ y.own n ∧ y.w.heap[n]? = x.w.heap[n]?
  keep : ∀ n, n < x.w.heap.size → x.av n → ¬ x.own n → y.av n
theorem Ext.refl (x : Cx) : Ext x x := ⟨Mono.refl x, fun _ _ h => ⟨h, rfl⟩, fun _ _ h _ => h⟩
theorem Ext.trans {x y z : Cx} (h : Ext x y) (k : Ext y z) : Ext x z := by
  refine ⟨h.mono.trans k.mono, fun n hn ho => ?_, fun n hn ha ho => ?_⟩
  · obtain ⟨h1, h2⟩ := h.heap n hn ho
    obtain ⟨k1, k2⟩ := k.heap n (Nat.lt_of_lt_of_le hn h.mono.size) h1
    exact ⟨k1, k2.trans h2⟩
  · exact k.keep n (Nat.lt_of_lt_of_le hn h.mono.size) (h.keep n hn ha ho) (h.heap n hn ho).1
theorem lt_of_cell {w : World} {bk off : Nat} {v : Value} (h : w.cell? ⟨bk, off, none⟩ = some v) : bk < w.heap.size := by
  rcases Nat.lt_or_ge bk w.heap.size with hlt | hge
  · exact hlt
  · simp [World.cell?, Array.getElem?_eq_none hge] at h
mutual
theorem VR.mono {x y : Cx} (e : Mono x y) : ∀ (c : V) (v : Value), VR x c v → VR y c v
  | .u, _, _ => trivial
  | .b _, _, h => h
  | .i _ _, _, h => h
  | .s _, _, h => h
  | .agg cs, _, h => by
    obtain ⟨l, hl, hs⟩ := h
    exact ⟨l, hl, VRs.mono e cs l hs⟩
  | .tup cs, _, h => by
    obtain ⟨l, hl, hs⟩ := h
    exact ⟨l, hl, VRs.mono e cs l hs⟩
  | .sl n sz cs, _, h => by
    obtain ⟨a, cap, hv, hc, hz, hr⟩ := h
    refine ⟨a, cap, hv, hc, hz, ?_⟩
    rcases hr with h0 | ⟨bk, off, ha, ho, hn, hs⟩
    · exact .inl h0
    · by_cases h0 : n = 0
      · exact .inl h0
      · have hlt : bk < x.w.heap.size := by
          cases cs with
          | nil =>
            have : 0 < n * sz := Nat.mul_pos (by omega) hz
            simp at hn; omega
          | cons c cs =>
            obtain ⟨⟨v, hv, _⟩, _⟩ := hs
            exact lt_of_cell hv
        exact .inr ⟨bk, off, ha, (e.blocks bk hlt ho).1, hn, VRc.mono e.bare cs bk off ho hs⟩
  | .si n k xs, _, h => by
    obtain ⟨a, cap, hv, hc, hr⟩ := h
    refine ⟨a, cap, hv, hc, ?_⟩
    rcases hr with h0 | ⟨bk, off, ha, ho, hn, hs⟩
    · exact .inl h0
    · by_cases h0 : n = 0
      · exact .inl h0
      · have h1 := hs 0 (xs[0]'(by omega)) (by omega) (List.getElem?_eq_getElem _)
        have hlt : bk < x.w.heap.size := lt_of_cell h1
        obtain ⟨b1, b2⟩ := e.blocks bk hlt ho
        refine .inr ⟨bk, off, ha, b1, hn, fun j el hj he => ?_⟩
        have := hs j el hj he
        simpa [World.cell?, b2] using this
  | .sr n sz g, _, h => by
    obtain ⟨a, cap, hv, hc, hz, hr⟩ := h
    refine ⟨a, cap, hv, hc, hz, ?_⟩
    rcases hr with h0 | ⟨bk, off, ha, ho, hs⟩
    · exact .inl h0
    · by_cases h0 : n = 0
      · exact .inl h0
      · have hlt : bk < x.w.heap.size := by
          obtain ⟨h1, h2⟩ := hs 0 (by omega)
          cases hg : g 0 with
          | nil => rw [hg] at h1; simp at h1; omega
          | cons c cs =>
            rw [hg] at h2
            obtain ⟨⟨v, hv, _⟩, _⟩ := h2
            exact lt_of_cell hv
        exact .inr ⟨bk, off, ha, (e.blocks bk hlt ho).1, fun j hj => ⟨(hs j hj).1, VRc.mono e.bare (g j) bk _ ho (hs j hj).2⟩⟩
  | .nils, _, h => h
  | .ref id gen off, _, h => by
    obtain ⟨h1, bk, h2, h3, h4⟩ := h
    obtain ⟨b', k1, k2, k3⟩ := e.gens id bk h2
    refine ⟨h1, b', k1, by omega, fun eg p => ?_⟩
    have : bk.gen = b'.gen := by omega
    obtain ⟨q0, q1⟩ := h4 (by omega) p
    obtain ⟨p0, p1, _⟩ := k3 this ⟨by omega, q0⟩
    rw [p1]; exact ⟨p0, q1⟩
  | .pl cs, _, h => by
    obtain ⟨bk, off, hv, hr⟩ := h
    refine ⟨bk, off, hv, ?_⟩
    rcases hr with h0 | ⟨ho, hs⟩
    · exact .inl h0
    · cases cs with
      | nil => exact .inl rfl
      | cons c cs =>
        have hlt : bk < x.w.heap.size := by
          obtain ⟨⟨v, hv, _⟩, _⟩ := hs
          exact lt_of_cell hv
        exact .inr ⟨(e.blocks bk hlt ho).1, VRc.mono e.bare (c :: cs) bk off ho hs⟩
  | .nilp, _, h => h
  | .own id gen off n sz, _, h => by
    obtain ⟨h1, bk, h2, h3, h4⟩ := h
    obtain ⟨b', k1, k2, k3⟩ := e.gens id bk h2
    refine ⟨h1, b', k1, by omega, fun eg p => ?_⟩
    have : bk.gen = b'.gen := by omega
    obtain ⟨a, cap, q1, q2, qz, q3⟩ := h4 (by omega) p
    refine ⟨a, cap, q1, q2, qz, ?_⟩
    rcases q3 with q3 | ⟨qp, o, qa, q0, q3⟩
    · exact .inl q3
    · obtain ⟨p0, p1, p2, p3⟩ := k3 this ⟨by omega, qp⟩
      refine .inr ⟨p0, o, by rw [p1]; exact qa, q0.imp (fun z => z) (fun z => Nat.le_trans z p3), q3.imp (fun z => z) fun ⟨q4, el, tot, q5, q6⟩ => ⟨q4, el, tot, by rw [p2]; exact q5, q6⟩⟩
  | .st _, _, h => h
  | .rrf id gen row sz fld, _, h => by
    obtain ⟨h1, bk, h2, h3, h4⟩ := h
    obtain ⟨b', k1, k2, k3⟩ := e.gens id bk h2
    refine ⟨h1, b', k1, by omega, fun eg p => ?_⟩
    have : bk.gen = b'.gen := by omega
    obtain ⟨q0, q1⟩ := h4 (by omega) p
    obtain ⟨p0, p1, _⟩ := k3 this ⟨by omega, q0⟩
    rw [p1]; exact ⟨p0, q1⟩
  | .mref id gen, _, h => by
    obtain ⟨h1, bk, h2, h3, h4⟩ := h
    obtain ⟨b', k1, k2, k3⟩ := e.gens id bk h2
    refine ⟨h1, b', k1, by omega, fun eg p => ?_⟩
    have : bk.gen = b'.gen := by omega
    obtain ⟨q0, q1⟩ := h4 (by omega) p
    obtain ⟨p0, p1, _⟩ := k3 this ⟨by omega, q0⟩
    rw [p1]; exact ⟨p0, q1⟩
  | .fn _ caps, _, h => by
    obtain ⟨l, hl, hs⟩ := h
    exact ⟨l, hl, VRs.mono e caps l hs⟩
  | .nilf, _, h => h
theorem VRs.mono {x y : Cx} (e : Mono x y) : ∀ (cs : List V) (l : List Value), VRs x cs l → VRs y cs l
  | [], _, h => h
  | c :: cs, _, h => by
    obtain ⟨v, vs, hl, hv, hs⟩ := h
    exact ⟨v, vs, hl, VR.mono e c v hv, VRs.mono e cs vs hs⟩
theorem VRc.mono {x y : Cx} (e : Mono x y) : ∀ (cs : List V) (bk off : Nat), ¬ x.av bk → VRc x cs bk off → VRc y cs bk off
  | [], _, _, _, _ => trivial
  | c :: cs, bk, off, ho, h => by
    obtain ⟨⟨v, hv, h1, hr⟩, hs⟩ := h
    refine ⟨⟨v, ?_, h1, VR.mono e c v hr⟩, VRc.mono e cs bk (off + 1) ho hs⟩
    have := (e.blocks bk (lt_of_cell hv) ho).2
    simpa [World.cell?, this] using hv
end
theorem VRs.length {x : Cx} : ∀ {cs : List V} {l : List Value}, VRs x cs l → l.length = cs.length
  | [], _, h => by subst h; rfl
  | _ :: _, _, h => by
    obtain ⟨v, vs, hl, _, hs⟩ := h
    subst hl; simp [VRs.length hs]
theorem VRs.get {x : Cx} : ∀ {cs : List V} {l : List Value}, VRs x cs l → ∀ (j : Nat) (c : V), cs[j]? = some c → ∃ v, l[j]? = some v ∧ VR x c v
  | [], _, _, j, c, hj => by simp at hj
  | c :: cs, _, h, j, d, hj => by
    obtain ⟨v, vs, hl, hv, hs⟩ := h
    subst hl
    cases j with
    | zero => simp at hj; subst hj; exact ⟨v, rfl, hv⟩
    | succ j => simpa using VRs.get hs j d (by simpa using hj)
theorem VRs.set {x : Cx} : ∀ {cs : List V} {l : List Value}, VRs x cs l → ∀ (j : Nat) {c : V} {v : Value}, VR x c v → VRs x (cs.set j c) (l.set j v)
  | [], _, h, _, _, _, _ => by subst h; simp [VRs]
  | _ :: cs, _, h, j, d, u, hu => by
    obtain ⟨v, vs, hl, hv, hs⟩ := h
    subst hl
    cases j with
    | zero => exact ⟨u, vs, rfl, hu, hs⟩
    | succ j => exact ⟨v, vs.set j u, rfl, hv, VRs.set hs j hu⟩
theorem VRs.append {x : Cx} : ∀ {cs ds : List V} {l m : List Value}, VRs x cs l → VRs x ds m → VRs x (cs ++ ds) (l ++ m)
  | [], _, _, _, h, k => by subst h; exact k
  | _ :: _, _, _, _, h, k => by
    obtain ⟨v, vs, hl, hv, hs⟩ := h
    subst hl
    exact ⟨v, vs ++ _, rfl, hv, VRs.append hs k⟩
theorem VRs.take {x : Cx} : ∀ {cs : List V} {l : List Value}, VRs x cs l → ∀ n, VRs x (cs.take n) (l.take n)
  | [], _, h, n => by subst h; simp [VRs]
  | _ :: _, _, h, n => by
    obtain ⟨v, vs, hl, hv, hs⟩ := h
    subst hl
    cases n with
    | zero => simp [VRs]
    | succ n => exact ⟨v, vs.take n, rfl, hv, VRs.take hs n⟩
theorem VRs.drop {x : Cx} : ∀ {cs : List V} {l : List Value}, VRs x cs l → ∀ n, VRs x (cs.drop n) (l.drop n)
  | [], _, h, n => by subst h; simp [VRs]
  | _ :: _, _, h, n => by
    obtain ⟨v, vs, hl, hv, hs⟩ := h
    subst hl
    cases n with
    | zero => exact ⟨v, vs, rfl, hv, hs⟩
    | succ n => simpa using VRs.drop hs n
theorem VRs.map {x : Cx} {α : Type} {f : α → V} {g : α → Value} (h : ∀ a, VR x (f a) (g a)) : ∀ l : List α, VRs x (l.map f) (l.map g)
  | [] => rfl
  | a :: l => ⟨g a, l.map g, rfl, h a, VRs.map h l⟩
theorem VRc.get1 {x : Cx} : ∀ {cs : List V} {bk off : Nat}, VRc x cs bk off → ∀ (j : Nat) (c : V), cs[j]? = some c → ∃ v, x.w.cell? ⟨bk, off + j, none⟩ = some v ∧ one v = true ∧ VR x c v
  | [], _, _, _, j, c, hj => by simp at hj
  | c :: cs, bk, off, h, j, d, hj => by
    obtain ⟨h1, h2⟩ := h
    cases j with
    | zero => simp at hj; subst hj; exact h1
    | succ j =>
      have := VRc.get1 h2 j d (by simpa using hj)
      rwa [show off + 1 + j = off + (j + 1) by omega] at this
theorem VRc.get {x : Cx} {cs : List V} {bk off : Nat} (h : VRc x cs bk off) (j : Nat) (c : V) (hj : cs[j]? = some c) : ∃ v, x.w.cell? ⟨bk, off + j, none⟩ = some v ∧ VR x c v := by
  obtain ⟨v, h1, _, h2⟩ := h.get1 j c hj
  exact ⟨v, h1, h2⟩
theorem VRc.drop {x : Cx} : ∀ {cs : List V} {bk off : Nat}, VRc x cs bk off → ∀ n, VRc x (cs.drop n) bk (off + n)
  | [], _, _, _, n => by simp [VRc]
  | c :: cs, bk, off, h, n => by
    cases n with
    | zero => exact h
    | succ n =>
      have := VRc.drop h.2 n
      rwa [show off + 1 + n = off + (n + 1) by omega] at this
theorem VRc.take {x : Cx} : ∀ {cs : List V} {bk off : Nat}, VRc x cs bk off → ∀ n, VRc x (cs.take n) bk off
  | [], _, _, _, n => by simp [VRc]
  | c :: cs, bk, off, h, n => by
    cases n with
    | zero => simp [VRc]
    | succ n => exact ⟨h.1, VRc.take h.2 n⟩
def ofCell : Value → V
  | .bool b => .b b
  | .int k n => if k.min ≤ n ∧ n ≤ k.max then .i k n else .u
  | .string s => if s.size < 2 ^ 62 then .s s else .u
  | .pointer none => .nilp
  | .slice none 0 0 => .nils
  | .nilFunc => .nilf
  | _ => .u
def ofVal : Value → V
  | .agg cs => .agg (cs.toList.map ofCell)
  | .func (.func f) first caps => if first.size = 0 ∧ caps.size = 0 then .fn f [] else .u
  | v => ofCell v
theorem VR_ofCell (x : Cx) (v : Value) : VR x (ofCell v) v := by
  unfold ofCell
  split <;> (try split) <;> simp [VR]
theorem VR_ofVal (x : Cx) (v : Value) : VR x (ofVal v) v := by
  unfold ofVal
  split
  · rename_i cs
    exact ⟨cs.toList, by simp, by have := VRs.map (fun a => VR_ofCell x a) cs.toList; simpa using this⟩
  · rename_i f first caps
    split
    · rename_i h
      have h1 : first = #[] := Array.eq_empty_of_size_eq_zero h.1
      have h2 : caps = #[] := Array.eq_empty_of_size_eq_zero h.2
      subst h1 h2
      exact ⟨[], rfl, rfl⟩
    · trivial
  · exact VR_ofCell x v
def vcells : V → Option (List V)
  | .agg cs => some cs
  | .u => none
  | .tup _ => none
  | v => some [v]
theorem VR_cells {x : Cx} {c : V} {v : Value} {cs : List V} (h : VR x c v) (hc : vcells c = some cs) : VRs x cs v.cells.toList := by
  cases c <;> simp only [vcells, Option.some.injEq, reduceCtorEq] at hc
  case agg =>
    subst hc
    obtain ⟨l, rfl, hs⟩ := h
    simpa [Value.cells] using hs
  all_goals
    subst hc
    have key : one v = true → VRs x [_] v.cells.toList := fun ho => ⟨v, [], by cases v <;> simp_all [one, Value.cells], h, rfl⟩
    first
    | exact key h.1
    | (have h' := h; simp only [VR] at h'; (first | subst h' | (obtain ⟨_, rfl, _⟩ := h') | (obtain ⟨_, _, rfl, _⟩ := h') | (obtain ⟨_, rfl⟩ := h')); exact key rfl)
def okc : V → Bool
  | .u | .agg _ | .tup _ => false
  | _ => true
theorem okc_one {x : Cx} {c : V} {v : Value} (h : VR x c v) (ho : okc c = true) : one v = true := by
  cases c <;> simp only [okc, Bool.false_eq_true] at ho
  all_goals
    first
    | exact h.1
    | (have h' := h; simp only [VR] at h'; (first | subst h' | (obtain ⟨_, rfl, _⟩ := h') | (obtain ⟨_, _, rfl, _⟩ := h') | (obtain ⟨_, rfl⟩ := h')); rfl)
def ev (t : List V) : Operand → V
  | .tmp n => t.getD n .u
  | .const v => ofVal v
  | .func f => .fn f []
  | .global _ => .u
theorem VR_ev {x : Cx} {t : List V} {a : Act} (h : VRs x t a.tmps.toList) (o : Operand) : VR x (ev t o) (a.eval o) := by
  cases o with
  | tmp n =>
    simp only [ev, Act.eval]
    rw [List.getD_eq_getElem?_getD]
    cases hn : t[n]? with
    | none => trivial
    | some c =>
      obtain ⟨v, hv, hr⟩ := h.get n c hn
      simp only [Option.getD_some]
      rw [Array.getD_eq_getD_getElem?]
      rw [show a.tmps[n]? = some v by simpa using hv]
      exact hr
  | const v => exact VR_ofVal x v
  | func f => exact ⟨[], rfl, rfl⟩
  | global g => trivial
def putt (t : List V) (d : Option Tmp) (c : V) : List V := match d with | some d => t.set d c | none => t
theorem VRs_put {x : Cx} {t : List V} {a : Act} (h : VRs x t a.tmps.toList) (d : Option Tmp) {c : V} {v : Value} (hc : VR x c v) : VRs x (putt t d c) (a.put d v).tmps.toList := by
  cases d with
  | none => exact h
  | some d =>
    simp only [putt, Act.put]
    have := h.set d hc
    simpa using this
def bareOk : V → Bool
  | .ref _ _ _ => false
  | .rrf _ _ _ _ _ => false
  | .mref _ _ => false
  | .own _ _ _ _ _ => false
  | .agg _ => false
  | .tup _ => false
  | .fn _ (_ :: _) => false
  | _ => true
theorem VR_bareOk {x : Cx} {c : V} {v : Value} (hb : bareOk c = true) (h : VR x c v) : VR x.bare c v := by
  cases c with
  | fn f caps => cases caps with
    | nil => exact h
    | cons => cases hb
  | ref => cases hb
  | rrf => cases hb
  | mref => cases hb
  | own => cases hb
  | agg => cases hb
  | tup => cases hb
  | _ => exact h
theorem VRs_bareOk {x : Cx} : ∀ {cs : List V} {l : List Value}, cs.all bareOk = true → VRs x cs l → VRs x.bare cs l
  | [], _, _, h => h
  | c :: cs, _, hb, h => by
    obtain ⟨v, vs, rfl, h1, h2⟩ := h
    simp only [List.all_cons, Bool.and_eq_true] at hb
    exact ⟨v, vs, rfl, VR_bareOk hb.1 h1, VRs_bareOk hb.2 h2⟩
def good (x : Cx) (d : D) (l : List Value) : Prop := match d with
  | .recs n s g => (∀ j, j < n → (g j).length = s) ∧ VRs x.bare (fitted s g n) l
  | .bm _ _ => False
  | _ => True
theorem good.mono {x y : Cx} (e : Mono x y) {d : D} {l : List Value} (h : good x d l) : good y d l := by
  cases d with
  | recs n s g => exact ⟨h.1, h.2.mono e.bare⟩
  | bm => exact h.elim
  | _ => trivial
def MapAt (w : World) (r : Nat) (k : IntKind) (es : List (Bool × Int)) : Prop := ∃ ents clock, w.heap[r]? = some (.map ents clock) ∧ ents.toList.map (fun e => (e.key, e.val)) = es.map fun p => (.bool p.1, .int k p.2)
theorem MapAt.of {w w' : World} {r : Nat} {k : IntKind} {es : List (Bool × Int)} (h : MapAt w r k es) (e : w'.heap[r]? = w.heap[r]?) : MapAt w' r k es := by
  obtain ⟨a, b, c, d⟩ := h
  exact ⟨a, b, e.trans c, d⟩
theorem good_mpq {x : Cx} {d : D} {l : List Value} (h : good x d l) : d.mpq = false := by
  cases d with
  | bm => exact h.elim
  | _ => rfl
structure HR (x : Cx) : Prop where
  blk : ∀ id b, x.h[id]? = some b → x.lv id b → b.d.mpq = false → ∃ cs lo hi, x.w.heap[x.ρ id]? = some (.cells cs b.elem (lo, hi)) ∧ (lo = hi ∨ cs.size ≤ lo) ∧ VRs x b.cs (cs.toList.take b.cs.length) ∧ (∀ v ∈ cs.toList, one v = true) ∧ good x b.d (cs.toList.take b.cs.length)
  mps : ∀ id b k es, x.h[id]? = some b → x.lv id b → b.d = .bm k es → MapAt x.w (x.ρ id) k es
  inj : ∀ id id' b b', x.h[id]? = some b → x.lv id b → x.h[id']? = some b' → x.lv id' b' → x.ρ id = x.ρ id' → id = id'
  ownav : ∀ n, x.own n → x.av n
  avlt : ∀ n, x.av n → n < x.w.heap.size
  safe : ∀ id b, x.h[id]? = some b → x.lv id b → b.wr = true ∨ ¬ x.av (x.ρ id)
def szOf (P : Program) (t : TypeId) : Option Nat := (P.info? t).map (·.size)
def aggOf (P : Program) (t : TypeId) : Option Bool :=
  match P.underlying t with
  | some (.struct _) => some true
  | some (.array _ _) => some true
  | some _ => some false
  | none => none
theorem run_szOf {P : Program} {t n : Nat} (h : szOf P t = some n) (w : World) : (sizeOf t).run P w = .ok n w := by
  unfold szOf at h
  cases hi : P.info? t with
  | none => simp [hi] at h
  | some i => simp [hi] at h; simp [sizeOf, typeInfo, hi, h]
theorem run_aggOf {P : Program} {t : Nat} {b : Bool} (h : aggOf P t = some b) (w : World) : (isAgg t).run P w = .ok b w := by
  unfold aggOf at h
  cases hu : P.underlying t with
  | none => simp [hu] at h
  | some d =>
    simp only [hu] at h
    unfold isAgg
    simp only [Sem.run_bind, run_underlying hu, Result.andThen_ok]
    cases d <;> simp at h <;> subst h <;> rfl
def vpart (P : Program) (t : TypeId) (cs : List V) (off : Nat) : Option V :=
  match aggOf P t with
  | some true => match szOf P t with
    | some n => some (.agg ((cs.drop off).take n))
    | none => none
  | some false => cs[off]?
  | none => none
theorem vpart_ok {x : Cx} {t : TypeId} {cs : List V} {l : List Value} {off : Nat} {r : V} (h : vpart x.P t cs off = some r) (hc : VRs x cs l) :
    ∃ v, (part t l.toArray off).run x.P x.w = .ok v x.w ∧ VR x r v := by
  unfold vpart at h
  cases ha : aggOf x.P t with
  | none => simp [ha] at h
  | some b =>
    cases b with
    | true =>
      simp only [ha] at h
      cases hs : szOf x.P t with
      | none => simp [hs] at h
      | some n =>
        simp only [hs, Option.some.injEq] at h
        subst h
        refine ⟨.agg ((l.drop off).take n).toArray, ?_, ⟨_, rfl, (hc.drop off).take n⟩⟩
        unfold part
        simp only [Sem.run_bind, run_aggOf ha, Result.andThen_ok, if_true, run_szOf hs, Sem.run_pure]
        congr 2
        apply Array.ext'
        simp
    | false =>
      simp only [ha] at h
      obtain ⟨v, hv, hr⟩ := hc.get off r h
      refine ⟨v, ?_, hr⟩
      unfold part
      simp only [Sem.run_bind, run_aggOf ha, Result.andThen_ok, Bool.false_eq_true, if_false]
      rw [show l.toArray[off]? = some v by simpa using hv]
      rfl
def bys (b : ByteArray) : List Int := b.data.toList.map fun c => (c.toNat : Int)
theorem bys_eq (a b : ByteArray) : (bys a == bys b) = (a.toList == b.toList) := by
  have inj : ∀ l m : List UInt8, l.map (fun c => (c.toNat : Int)) = m.map (fun c => (c.toNat : Int)) → l = m := by
    intro l
    induction l with
    | nil => intro m h; cases m with
      | nil => rfl
      | cons => simp at h
    | cons x l ih => intro m h; cases m with
      | nil => simp at h
      | cons y m =>
        simp only [List.map_cons, List.cons.injEq] at h
        rw [ih m h.2, UInt8.toNat_inj.1 (Int.ofNat.inj h.1)]
  have e : ∀ a : ByteArray, a.toList = a.data.toList := fun a => ByteArray.toList_eq a
  rw [Bool.eq_iff_iff, beq_iff_eq, beq_iff_eq, e, e]
  exact ⟨fun h => inj _ _ h, fun h => by unfold bys; rw [h]⟩
def sbin (op : BinOp) (xs ys : List Int) : Option V := match op with
  | .eql => some (.b (xs == ys))
  | .neq => some (.b (!(xs == ys)))
  | .add => if xs.length + ys.length < 2 ^ 62 then some (.st (xs ++ ys)) else none
  | _ => none
def vbin (op : BinOp) : V → V → Option V
  | .i k a, .i k' b =>
    match op with
    | .shl => if 0 ≤ b then some (.i k (k.wrap (a * 2 ^ min b.toNat k.bits))) else none
    | .shr => if 0 ≤ b then some (.i k (a / 2 ^ min b.toNat k.bits)) else none
    | _ =>
      if k = k' then
        match op with
        | .add => some (.i k (k.wrap (a + b)))
        | .sub => some (.i k (k.wrap (a - b)))
        | .mul => some (.i k (k.wrap (a * b)))
        | .quo => if b = 0 then none else some (.i k (k.wrap (a.tdiv b)))
        | .rem => if b = 0 then none else some (.i k (a.tmod b))
        | .and => some (.i k (Go.bits .and k a b))
        | .or => some (.i k (Go.bits .or k a b))
        | .xor => some (.i k (Go.bits .xor k a b))
        | .andNot => some (.i k (Go.bits .andNot k a b))
        | .eql => some (.b (a == b))
        | .neq => some (.b (a != b))
        | .lss => some (.b (decide (a < b)))
        | .leq => some (.b (decide (a ≤ b)))
        | .gtr => some (.b (decide (a > b)))
        | .geq => some (.b (decide (a ≥ b)))
        | _ => none
      else none
  | .s a, .s b =>
    match op with
    | .eql => some (.b (a.toList == b.toList))
    | .neq => some (.b (!(a.toList == b.toList)))
    | _ => none
  | .st xs, .st ys => sbin op xs ys
  | .s a, .st ys => sbin op (bys a) ys
  | .st xs, .s b => sbin op xs (bys b)
  | _, _ => none
theorem run_eqGuard_int {P : Program} (op : BinOp) (t : TypeId) (x y : Operand) (k k' : IntKind) (a b : Int) (w : World) : (eqGuard op t x y (.int k a) (.int k' b)).run P w = .ok () w := by
  unfold eqGuard
  split <;> rfl
theorem run_eqGuard_str {P : Program} (op : BinOp) (t : TypeId) (x y : Operand) (a b : ByteArray) (w : World) : (eqGuard op t x y (.string a) (.string b)).run P w = .ok () w := by
  unfold eqGuard
  split <;> rfl
theorem sbin_ok {x : Cx} {op : BinOp} {t : TypeId} {p q : Operand} {a b : ByteArray} {r : V} (h : sbin op (bys a) (bys b) = some r) :
    ∃ z, (do eqGuard op t p q (.string a) (.string b); binOp op t (.string a) (.string b) : Sem Value).run x.P x.w = .ok z x.w ∧ VR x r z := by
  simp only [Sem.run_bind, run_eqGuard_str, Result.andThen_ok]
  unfold sbin at h
  split at h
  · rw [bys_eq] at h; injection h with h; subst h; exact ⟨_, rfl, rfl⟩
  · rw [bys_eq] at h; injection h with h; subst h; exact ⟨_, rfl, rfl⟩
  · split at h
    · rename_i hl
      injection h with h; subst h
      refine ⟨.string (a ++ b), ?_, a ++ b, rfl, by simp [bys]⟩
      simp only [bys, List.length_map, Array.length_toList] at hl
      have e : ¬ (((a.size + b.size : Nat) : Int) > IntKind.i64.max) := by
        have h1 : a.size = a.data.size := rfl
        have h2 : b.size = b.data.size := rfl
        simp only [IntKind.max, IntKind.signed, IntKind.bits]
        omega
      simp only [binOp, Op.stringOp, if_neg e, Sem.run_pure]
    · cases h
  · cases h
theorem vbin_ok {x : Cx} {op : BinOp} {t : TypeId} {p q : Operand} {c d r : V} {v u : Value} (h : vbin op c d = some r) (hv : VR x c v) (hu : VR x d u) :
    ∃ z, (do eqGuard op t p q v u; binOp op t v u : Sem Value).run x.P x.w = .ok z x.w ∧ VR x r z := by
  cases c with
  | i k a =>
    cases d with
    | i k' b =>
      simp only [VR] at hv hu
      subst hv hu
      simp only [Sem.run_bind, run_eqGuard_int, Result.andThen_ok]
      cases op with
      | shl =>
        simp only [vbin] at h
        split at h
        · rename_i hb
          simp only [Option.some.injEq] at h; subst h
          refine ⟨_, ?_, rfl⟩
          unfold binOp Op.shift
          simp only [if_neg (by omega : ¬ b < 0), Sem.run_pure]
        · cases h
      | shr =>
        simp only [vbin] at h
        split at h
        · rename_i hb
          simp only [Option.some.injEq] at h; subst h
          refine ⟨_, ?_, rfl⟩
          unfold binOp Op.shift
          simp only [if_neg (by omega : ¬ b < 0), Sem.run_pure]
          rw [Int.fdiv_eq_ediv_of_nonneg _ (Int.le_of_lt (Int.pow_pos (by omega)))]
        · cases h
      | quo =>
        simp only [vbin] at h
        split at h
        · rename_i hk; subst hk
          split at h
          · cases h
          · rename_i hb
            simp only [Option.some.injEq] at h; subst h
            refine ⟨_, ?_, rfl⟩
            simp [binOp, Op.intDiv, hb]
        · cases h
      | rem =>
        simp only [vbin] at h
        split at h
        · rename_i hk; subst hk
          split at h
          · cases h
          · rename_i hb
            simp only [Option.some.injEq] at h; subst h
            refine ⟨_, ?_, rfl⟩
            simp [binOp, Op.intDiv, hb]
        · cases h
      | _ =>
        simp only [vbin] at h
        split at h
        · rename_i hk; subst hk
          simp only [Option.some.injEq] at h; subst h
          refine ⟨_, ?_, rfl⟩
          simp [binOp, Op.intArith, Op.intBits, Op.intCmp, Go.bits]
        · cases h
    | _ => simp [vbin] at h
  | s a =>
    cases d with
    | s b =>
      simp only [VR] at hv hu
      subst hv hu
      simp only [Sem.run_bind, run_eqGuard_str, Result.andThen_ok]
      cases op <;> simp only [vbin, Option.some.injEq, reduceCtorEq] at h
      all_goals
        subst h
        exact ⟨_, rfl, rfl⟩
    | st ys =>
      obtain ⟨b, rfl, rfl⟩ := hu
      simp only [VR] at hv
      subst hv
      exact sbin_ok h
    | _ => simp [vbin] at h
  | st xs =>
    cases d with
    | s b =>
      obtain ⟨a, rfl, rfl⟩ := hv
      simp only [VR] at hu
      subst hu
      exact sbin_ok h
    | st ys =>
      obtain ⟨a, rfl, rfl⟩ := hv
      obtain ⟨b, rfl, rfl⟩ := hu
      exact sbin_ok h
    | _ => simp [vbin] at h
  | _ => simp [vbin] at h
def mn (a b : Int) : Int := if b < a then b else a
def mx (a b : Int) : Int := if b > a then b else a
def vmin (k : IntKind) (m : Int) : List V → Option V
  | [] => some (.i k m)
  | .i k' y :: l => if k' = k then vmin k (mn m y) l else none
  | _ => none
def vmax (k : IntKind) (m : Int) : List V → Option V
  | [] => some (.i k m)
  | .i k' y :: l => if k' = k then vmax k (mx m y) l else none
  | _ => none
theorem vmin_ok {x : Cx} (k : IntKind) : ∀ (cs : List V) (l : List Value) (m : Int) (r : V), VRs x cs l → vmin k m cs = some r → ∃ z, (l.foldlM Builtin.min2 (.int k m)).run x.P x.w = .ok z x.w ∧ VR x r z
  | [], _, m, r, h, hr => by subst h; simp [vmin] at hr; subst hr; exact ⟨_, rfl, rfl⟩
  | c :: cs, _, m, r, h, hr => by
    obtain ⟨v, vs, hl, hv, hs⟩ := h
    subst hl
    cases c with
    | i k' y =>
      simp only [VR] at hv; subst hv
      simp only [vmin] at hr
      split at hr
      case isFalse => cases hr
      obtain ⟨z, h1, h2⟩ := vmin_ok k cs vs (mn m y) r hs hr
      exact ⟨z, by simpa [Builtin.min2, mn] using h1, h2⟩
    | _ => simp [vmin] at hr
theorem vmax_ok {x : Cx} (k : IntKind) : ∀ (cs : List V) (l : List Value) (m : Int) (r : V), VRs x cs l → vmax k m cs = some r → ∃ z, (l.foldlM Builtin.max2 (.int k m)).run x.P x.w = .ok z x.w ∧ VR x r z
  | [], _, m, r, h, hr => by subst h; simp [vmax] at hr; subst hr; exact ⟨_, rfl, rfl⟩
  | c :: cs, _, m, r, h, hr => by
    obtain ⟨v, vs, hl, hv, hs⟩ := h
    subst hl
    cases c with
    | i k' y =>
      simp only [VR] at hv; subst hv
      simp only [vmax] at hr
      split at hr
      case isFalse => cases hr
      obtain ⟨z, h1, h2⟩ := vmax_ok k cs vs (mx m y) r hs hr
      exact ⟨z, by simpa [Builtin.max2, mx] using h1, h2⟩
    | _ => simp [vmax] at hr
def cur (h : Heap) (id gen : Nat) : Bool := match h[id]? with | some b => b.gen == gen && decide (0 < gen) | none => false
theorem cur_ref {x : Cx} {id gen off : Nat} {v : Value} (hc : cur x.h id gen = true) (hv : VR x (.ref id gen off) v) : v = .pointer (some ⟨x.ρ id, off, none⟩) := by
  obtain ⟨_, bk, h2, _, h4⟩ := hv
  simp [cur, h2] at hc
  exact (h4 hc.1.symm hc.2).2
theorem cur_lv {x : Cx} {id gen off : Nat} {v : Value} {b : Blk} (hb : x.h[id]? = some b) (hg : b.gen = gen) (h0 : 0 < gen) (hv : VR x (.ref id gen off) v) : x.lv id b := by
  obtain ⟨_, bk, h2, _, h4⟩ := hv
  rw [hb] at h2; injection h2 with h2; subst h2
  exact ⟨by omega, (h4 hg.symm h0).1⟩
theorem cur_lvr {x : Cx} {id gen row sz fld : Nat} {v : Value} {b : Blk} (hb : x.h[id]? = some b) (hg : b.gen = gen) (h0 : 0 < gen) (hv : VR x (.rrf id gen row sz fld) v) : x.lv id b := by
  obtain ⟨_, bk, h2, _, h4⟩ := hv
  rw [hb] at h2; injection h2 with h2; subst h2
  exact ⟨by omega, (h4 hg.symm h0).1⟩
theorem cur_own {x : Cx} {id gen off n sz : Nat} {v : Value} (hc : cur x.h id gen = true) (hv : VR x (.own id gen off n sz) v) : ∃ a cap, v = .slice a n cap ∧ n ≤ cap ∧ 0 < sz ∧
    ((n = 0 ∧ cap = 0) ∨ (¬ x.ph id ∧ ∃ o, a = some ⟨x.ρ id, o, none⟩ ∧ ((n = 0 ∧ 0 < off) ∨ (o = off ∧ ∃ el tot, x.w.shape? (x.ρ id) = some (el, tot) ∧ off + cap * sz = tot)))) := by
  obtain ⟨_, bk, h2, _, h4⟩ := hv
  simp [cur, h2] at hc
  obtain ⟨a, cap, p1, p2, pz, p3⟩ := h4 hc.1.symm hc.2
  exact ⟨a, cap, p1, p2, pz, p3.imp (fun z => z) fun ⟨z, o, p5, _, p6⟩ => ⟨z, o, p5, p6⟩⟩
def vlen (P : Program) (h : Heap) (t : TypeId) (c : V) : Option V :=
  match P.underlying t, c with
  | some .string, .s a => some (.i .i64 a.size)
  | some (.slice _), .sl n _ _ => some (.i .i64 n)
  | some (.slice _), .si n _ _ => some (.i .i64 n)
  | some (.slice _), .sr n _ _ => some (.i .i64 n)
  | some (.slice _), .own id gen _ n _ => if cur h id gen = true then some (.i .i64 n) else none
  | some (.slice _), .nils => some (.i .i64 0)
  | some (.array n _), _ => if n < 2 ^ 62 then some (.i .i64 n) else none
  | some .string, .st xs => some (.i .i64 xs.length)
  | _, _ => none
theorem vlen_ok {x : Cx} {t ty : TypeId} {ts : Array TypeId} {c r : V} {v : Value} {rest : Array Value} (ht : ts[0]? = some t) (ha : rest[0]? = some v) (h : vlen x.P x.h t c = some r) (hv : VR x c v) :
    ∃ z, (Builtin.len_ ts ty rest).run x.P x.w = .ok z x.w ∧ VR x r z := by
  unfold vlen at h
  unfold Builtin.len_
  simp only [ht, ha]
  cases hu : x.P.underlying t with
  | none => simp [hu] at h
  | some d =>
    simp only [Sem.run_bind, run_underlying hu, Result.andThen_ok]
    simp only [hu] at h
    split at h
    · rename_i e; injection e with e; subst e
      simp only [Option.some.injEq] at h; subst h; simp only [VR] at hv; subst hv; exact ⟨_, rfl, rfl⟩
    · rename_i e; injection e with e; subst e
      simp only [Option.some.injEq] at h; subst h; obtain ⟨a, cap, rfl, _⟩ := hv; exact ⟨_, rfl, rfl⟩
    · rename_i e; injection e with e; subst e
      simp only [Option.some.injEq] at h; subst h; obtain ⟨a, cap, rfl, _⟩ := hv; exact ⟨_, rfl, rfl⟩
    · rename_i e; injection e with e; subst e
      simp only [Option.some.injEq] at h; subst h; obtain ⟨a, cap, rfl, _⟩ := hv; exact ⟨_, rfl, rfl⟩
    · rename_i e; injection e with e; subst e
      split at h
      · rename_i hc
        simp only [Option.some.injEq] at h; subst h; obtain ⟨o, cap, rfl, _⟩ := cur_own hc hv; exact ⟨_, rfl, rfl⟩
      · cases h
    · rename_i e; injection e with e; subst e
      simp only [Option.some.injEq] at h; subst h; obtain ⟨a, rfl⟩ := hv; exact ⟨_, rfl, rfl⟩
    · rename_i e; injection e with e; subst e
      split at h
      · simp only [Option.some.injEq] at h; subst h; exact ⟨_, rfl, rfl⟩
      · cases h
    · rename_i e; injection e with e; subst e
      simp only [Option.some.injEq] at h; subst h; obtain ⟨b, rfl, rfl⟩ := hv; exact ⟨_, rfl, by simp [VR, goInt, ← ByteArray.size_data]⟩
    · cases h
def vun : UnOp → V → Option V
  | .neg, .i k n => some (.i k (k.wrap (0 - n)))
  | .xor, .i k n => some (.i k (Go.bits .xor k (if k.signed then -1 else k.max) n))
  | .not, .b t => some (.b (!t))
  | _, _ => none
theorem vun_ok {x : Cx} {op : UnOp} {c r : V} {v : Value} (h : vun op c = some r) (hv : VR x c v) : ∃ z, (Op.unary op v).run x.P x.w = .ok z x.w ∧ VR x r z := by
  unfold vun at h
  split at h <;> simp only [Option.some.injEq, reduceCtorEq] at h <;> subst h <;> simp only [VR] at hv <;> subst hv
  · exact ⟨_, rfl, rfl⟩
  · exact ⟨_, rfl, by simp [VR, Go.bits]⟩
  · exact ⟨_, rfl, rfl⟩
def vconv (P : Program) (src dst : TypeId) : V → Option V
  | .i _ n => match P.underlying src, P.underlying dst with
    | some _, some (.int k) => some (.i k (k.wrap n))
    | _, _ => none
  | .s a => match P.underlying src, P.underlying dst with
    | some .string, some .string => some (.s a)
    | _, _ => none
  | .st a => match P.underlying src, P.underlying dst with
    | some .string, some .string => some (.st a)
    | _, _ => none
  | _ => none
theorem vconv_ok {x : Cx} {src dst : TypeId} {c r : V} {v : Value} (h : vconv x.P src dst c = some r) (hv : VR x c v) : ∃ z, (convert src dst v).run x.P x.w = .ok z x.w ∧ VR x r z := by
  unfold vconv at h
  split at h
  · split at h
    · rename_i n d k h1 h2
      simp only [Option.some.injEq] at h; subst h
      simp only [VR] at hv; subst hv
      refine ⟨_, ?_, rfl⟩
      unfold convert
      simp only [Sem.run_bind, run_underlying h1, run_underlying h2, Result.andThen_ok]
      cases d <;> rfl
    · cases h
  · split at h
    · rename_i h1 h2
      simp only [Option.some.injEq] at h; subst h
      simp only [VR] at hv; subst hv
      refine ⟨_, ?_, rfl⟩
      unfold convert
      simp only [Sem.run_bind, run_underlying h1, run_underlying h2, Result.andThen_ok]
      rfl
    · cases h
  · split at h
    · rename_i h1 h2
      simp only [Option.some.injEq] at h; subst h
      have hv' := hv
      obtain ⟨b, rfl, _⟩ := hv'
      refine ⟨_, ?_, hv⟩
      unfold convert
      simp only [Sem.run_bind, run_underlying h1, run_underlying h2, Result.andThen_ok]
      rfl
    · cases h
  · cases h
theorem mk_ref {x : Cx} {id gen off : Nat} (hc : cur x.h id gen = true) (hp : ¬ x.ph id) : VR x (.ref id gen off) (.pointer (some ⟨x.ρ id, off, none⟩)) := by
  unfold cur at hc
  cases hb : x.h[id]? with
  | none => simp [hb] at hc
  | some bk =>
    simp [hb] at hc
    exact ⟨rfl, bk, hb, by omega, fun _ _ => ⟨hp, rfl⟩⟩
theorem mk_rrf {x : Cx} {id gen row sz fld : Nat} (hc : cur x.h id gen = true) (hp : ¬ x.ph id) : VR x (.rrf id gen row sz fld) (.pointer (some ⟨x.ρ id, row * sz + fld, none⟩)) := by
  unfold cur at hc
  cases hb : x.h[id]? with
  | none => simp [hb] at hc
  | some bk =>
    simp [hb] at hc
    exact ⟨rfl, bk, hb, by omega, fun _ _ => ⟨hp, rfl⟩⟩
theorem cur_rrf {x : Cx} {id gen row sz fld : Nat} {v : Value} (hc : cur x.h id gen = true) (hv : VR x (.rrf id gen row sz fld) v) : v = .pointer (some ⟨x.ρ id, row * sz + fld, none⟩) := by
  obtain ⟨_, bk, h2, _, h4⟩ := hv
  simp [cur, h2] at hc
  exact (h4 hc.1.symm hc.2).2
theorem cur_ph {x : Cx} {id gen off : Nat} {v : Value} (hc : cur x.h id gen = true) (hv : VR x (.ref id gen off) v) : ¬ x.ph id := by
  obtain ⟨_, bk, h2, _, h4⟩ := hv
  simp [cur, h2] at hc
  exact (h4 hc.1.symm hc.2).1
theorem cur_phr {x : Cx} {id gen row sz fld : Nat} {v : Value} (hc : cur x.h id gen = true) (hv : VR x (.rrf id gen row sz fld) v) : ¬ x.ph id := by
  obtain ⟨_, bk, h2, _, h4⟩ := hv
  simp [cur, h2] at hc
  exact (h4 hc.1.symm hc.2).1
theorem addr_add (bk off n : Nat) : Addr.add ⟨bk, off, none⟩ n = ⟨bk, off + n, none⟩ := by
  unfold Addr.add; split
  · rename_i h; subst h; rfl
  · rfl
def vfieldAddr (P : Program) (h : Heap) (s : TypeId) (c : V) (f : Nat) : Option V :=
  match P.underlying s with
  | some (.struct fs) => match fs[f]? with
    | some fd => match szOf P fd.type with
      | some (_ + 1) => match c with
        | .ref id gen off => if cur h id gen = true then some (.ref id gen (off + fd.offset)) else none
        | .pl cs => some (.pl (cs.drop fd.offset))
        | .rrf id gen row sz fld => if cur h id gen = true then some (.rrf id gen row sz (fld + fd.offset)) else none
        | _ => none
      | _ => none
    | none => none
  | _ => none
theorem vfieldAddr_ok {x : Cx} {s : TypeId} {c r : V} {f : Nat} {v : Value} (h : vfieldAddr x.P x.h s c f = some r) (hv : VR x c v) : ∃ z, (Instr.fieldAt s v f).run x.P x.w = .ok z x.w ∧ VR x r z := by
  unfold vfieldAddr at h
  split at h
  · rename_i fs hu
    split at h
    · rename_i fd hf
      split at h
      · rename_i n hn
        unfold Instr.fieldAt
        simp only [Sem.run_bind, run_underlying hu, Result.andThen_ok, hf]
        have hz := run_szOf hn x.w
        split at h
        · rename_i id gen off
          split at h
          · rename_i hc
            simp only [Option.some.injEq] at h; subst h
            rw [cur_ref hc hv]
            refine ⟨_, ?_, mk_ref hc (cur_ph hc hv)⟩
            simp [Instr.sureAddr, fieldPlace, hz, addr_add]
          · cases h
        · rename_i cs
          simp only [Option.some.injEq] at h; subst h
          obtain ⟨bk, off, rfl, hr⟩ := hv
          refine ⟨.pointer (some ⟨bk, off + fd.offset, none⟩), ?_, bk, _, rfl, ?_⟩
          · simp [Instr.sureAddr, fieldPlace, hz, addr_add]
          · rcases hr with h0 | ⟨ho, hs⟩
            · subst h0; exact .inl (by simp)
            · exact .inr ⟨ho, hs.drop _⟩
        · rename_i id gen row sz fld
          split at h
          · rename_i hc
            simp only [Option.some.injEq] at h; subst h
            rw [cur_rrf hc hv]
            refine ⟨_, ?_, mk_rrf hc (cur_phr hc hv)⟩
            simp [Instr.sureAddr, fieldPlace, hz, addr_add, Nat.add_assoc]
          · cases h
        · cases h
      · cases h
    · cases h
  · cases h
def vfield (P : Program) (s : TypeId) (c : V) (f : Nat) : Option V :=
  match P.underlying s with
  | some (.struct fs) => match fs[f]? with
    | some fd => match c with
      | .agg cs => vpart P fd.type cs fd.offset
      | _ => none
    | none => none
  | _ => none
theorem vfield_ok {x : Cx} {s : TypeId} {c r : V} {f : Nat} {v : Value} (h : vfield x.P s c f = some r) (hv : VR x c v) : ∃ z, (Instr.field s v f).run x.P x.w = .ok z x.w ∧ VR x r z := by
  unfold vfield at h
  split at h
  · rename_i fs hu
    split at h
    · rename_i fd hf
      split at h
      · obtain ⟨l, rfl, hs⟩ := hv
        obtain ⟨z, h1, h2⟩ := vpart_ok h hs
        refine ⟨z, ?_, h2⟩
        unfold Instr.field
        simp only [Sem.run_bind, run_underlying hu, Result.andThen_ok, hf, asAgg, Sem.run_pure]
        exact h1
      · cases h
    · cases h
  · cases h
def veqF (P : Program) (f : TypeId → V → V → Option Bool) : List Field → List V → List V → Option Bool
  | [], _, _ => some true
  | fd :: l, cs, ds => match decide (fd.name ≠ "_") with
    | true => match vpart P fd.type cs fd.offset, vpart P fd.type ds fd.offset with
      | some a, some b => match f fd.type a b with
        | some r => match veqF P f l cs ds with
          | some q => some (r && q)
          | none => none
        | none => none
      | _, _ => none
    | false => veqF P f l cs ds
def veqA (P : Program) (f : V → V → Option Bool) (t : TypeId) (sz : Nat) (cs ds : List V) : List Nat → Option Bool
  | [] => some true
  | i :: l => match vpart P t cs (i * sz), vpart P t ds (i * sz) with
    | some a, some b => match f a b with
      | some r => match veqA P f t sz cs ds l with
        | some q => some (r && q)
        | none => none
      | none => none
    | _, _ => none
def veq (P : Program) : Nat → TypeId → V → V → Option Bool
  | 0, _, _, _ => none
  | d + 1, t, c, e => match P.underlying t with
    | some .bool => match c, e with
      | .b a, .b b => some (a == b)
      | _, _ => none
    | some (.int _) => match c, e with
      | .i k a, .i k' b => if k = k' then some (a == b) else none
      | _, _ => none
    | some .string => match c, e with
      | .s a, .s b => some (a.toList == b.toList)
      | _, _ => none
    | some (.struct fs) => match c, e with
      | .agg cs, .agg ds => match P.stoodInHeld t with
        | false => veqF P (veq P d) fs.toList cs ds
        | true => none
      | _, _ => none
    | some (.array n el) => match c, e with
      | .agg cs, .agg ds => match szOf P el with
        | some sz => veqA P (veq P d el) el sz cs ds (List.range n)
        | none => none
      | _, _ => none
    | some (.pointer _) => match c, e with
      | .pl _, .nilp => some false
      | .nilp, .nilp => some true
      | .nilp, .pl _ => some false
      | _, _ => none
    | _ => none
theorem veqF_ok {x : Cx} {n : Nat} {f : TypeId → V → V → Option Bool} (hf : ∀ t c e r v u, f t c e = some r → VR x c v → VR x e u → (Op.equalIn n t v u).run x.P x.w = .ok r x.w) :
    ∀ (fs : List Field) (cs ds : List V) (l m : List Value) (r : Bool), veqF x.P f fs cs ds = some r → VRs x cs l → VRs x ds m → (Op.eqFields n l.toArray m.toArray fs).run x.P x.w = .ok r x.w
  | [], _, _, _, _, r, h, _, _ => by simp [veqF] at h; subst h; rfl
  | fd :: fs, cs, ds, l, m, r, h, hc, hd => by
    simp only [veqF] at h
    unfold Op.eqFields
    cases hn : decide (fd.name ≠ "_") with
    | true =>
      rw [hn] at h
      simp only at h
      rw [if_pos (of_decide_eq_true hn)]
      split at h
      · rename_i a b ha hb
        split at h
        · rename_i p hp
          split at h
          · rename_i q hq
            injection h with h
            subst h
            obtain ⟨v, h1, h2⟩ := vpart_ok ha hc
            obtain ⟨u, h3, h4⟩ := vpart_ok hb hd
            have h5 := hf _ _ _ _ _ _ hp h2 h4
            have h6 := veqF_ok hf fs cs ds l m q hq hc hd
            simp only [Sem.run_bind, h1, h3, h5, Result.andThen_ok]
            cases p
            · rfl
            · simpa using h6
          · cases h
        · cases h
      · cases h
    | false =>
      rw [hn] at h
      simp only at h
      rw [if_neg (of_decide_eq_false hn)]
      exact veqF_ok hf fs cs ds l m r h hc hd
theorem veqA_ok {x : Cx} {n : Nat} {f : V → V → Option Bool} {t : TypeId} {sz : Nat} (hf : ∀ c e r v u, f c e = some r → VR x c v → VR x e u → (Op.equalIn n t v u).run x.P x.w = .ok r x.w) :
    ∀ (is : List Nat) (cs ds : List V) (l m : List Value) (r : Bool), veqA x.P f t sz cs ds is = some r → VRs x cs l → VRs x ds m → (Op.eqItems n t sz l.toArray m.toArray is).run x.P x.w = .ok r x.w
  | [], _, _, _, _, r, h, _, _ => by simp [veqA] at h; subst h; rfl
  | i :: is, cs, ds, l, m, r, h, hc, hd => by
    simp only [veqA] at h
    unfold Op.eqItems
    split at h
    · rename_i a b ha hb
      split at h
      · rename_i p hp
        split at h
        · rename_i q hq
          injection h with h
          subst h
          obtain ⟨v, h1, h2⟩ := vpart_ok ha hc
          obtain ⟨u, h3, h4⟩ := vpart_ok hb hd
          have h5 := hf _ _ _ _ _ hp h2 h4
          have h6 := veqA_ok hf is cs ds l m q hq hc hd
          simp only [Sem.run_bind, h1, h3, h5, Result.andThen_ok]
          cases p
          · rfl
          · simpa using h6
        · cases h
      · cases h
    · cases h
theorem run_pnil {P : Program} {w : World} {d : Nat} {t e : TypeId} {p : Option Addr} (h : P.underlying t = some (.pointer e)) : (Op.equalIn (d + 1) t (.pointer p) (.pointer none)).run P w = .ok p.isNone w := by
  cases p <;> simp [Op.equalIn, run_underlying h]
theorem run_nilp {P : Program} {w : World} {d : Nat} {t e : TypeId} {p : Option Addr} (h : P.underlying t = some (.pointer e)) : (Op.equalIn (d + 1) t (.pointer none) (.pointer p)).run P w = .ok p.isNone w := by
  cases p <;> simp [Op.equalIn, run_underlying h]
theorem veq_ok {x : Cx} : ∀ (d n : Nat) (t : TypeId) (c e : V) (r : Bool) (v u : Value), d ≤ n → veq x.P d t c e = some r → VR x c v → VR x e u → (Op.equalIn n t v u).run x.P x.w = .ok r x.w
  | 0, _, _, _, _, _, _, _, _, h, _, _ => by simp [veq] at h
  | d + 1, 0, _, _, _, _, _, _, hn, _, _, _ => by omega
  | d + 1, n + 1, t, c, e, r, v, u, hn, h, hv, hu => by
    simp only [veq] at h
    split at h
    · rename_i hd
      split at h
      · simp only [Option.some.injEq] at h; subst h; simp only [VR] at hv hu; subst hv hu; exact run_equalIn_bool x.w n t _ _ hd
      · cases h
    · rename_i hd
      split at h
      · split at h
        · rename_i hk; subst hk
          simp only [Option.some.injEq] at h; subst h; simp only [VR] at hv hu; subst hv hu; exact run_equalIn_int x.w n t _ _ _ _ hd
        · cases h
      · cases h
    · rename_i hd
      split at h
      · simp only [Option.some.injEq] at h; subst h; simp only [VR] at hv hu; subst hv hu; exact run_equalIn_string x.w n t _ _ hd
      · cases h
    · rename_i fs hd
      split at h
      · rename_i cs ds
        split at h
        · rename_i hp
          obtain ⟨l, rfl, hl⟩ := hv
          obtain ⟨m, rfl, hm⟩ := hu
          have hfs : x.P.fieldsOf t = fs := by unfold Program.fieldsOf; rw [hd]
          rw [run_equalIn_struct x.w n t _ _ (by rw [hfs]; exact hd) hp, hfs]
          exact veqF_ok (fun t c e r v u h1 h2 h3 => veq_ok d n t c e r v u (by omega) h1 h2 h3) _ _ _ _ _ _ h hl hm
        · cases h
      · cases h
    · rename_i k el hd
      split at h
      · rename_i cs ds
        split at h
        · rename_i sz hz
          obtain ⟨l, rfl, hl⟩ := hv
          obtain ⟨m, rfl, hm⟩ := hu
          unfold szOf at hz
          cases hi : x.P.info? el with
          | none => rw [hi] at hz; cases hz
          | some i =>
            have hz' : x.P.cellsOf el = sz := by unfold Program.cellsOf; rw [hz]; rfl
            rw [run_equalIn_array x.w n _ _ hd hi, hz']
            exact veqA_ok (fun c e r v u h1 h2 h3 => veq_ok d n el c e r v u (by omega) h1 h2 h3) _ _ _ _ _ _ h hl hm
        · cases h
      · cases h
    · rename_i el hd
      split at h
      · simp only [Option.some.injEq] at h; subst h
        obtain ⟨bk, off, rfl, _⟩ := hv
        simp only [VR] at hu; subst hu
        exact run_pnil hd
      · simp only [Option.some.injEq] at h; subst h
        simp only [VR] at hv hu; subst hv hu
        exact run_pnil hd
      · simp only [Option.some.injEq] at h; subst h
        obtain ⟨bk, off, rfl, _⟩ := hu
        simp only [VR] at hv; subst hv
        exact run_nilp hd
      · cases h
    · cases h
def vbinx (P : Program) (op : BinOp) (t : TypeId) (c d : V) : Option V :=
  match c with
  | .i _ _ => vbin op c d
  | .s _ => vbin op c d
  | .st _ => vbin op c d
  | _ => match op with
    | .eql => match P.eqGuardType P.depth t with
      | false => (veq P 8 t c d).bind fun r => some (.b r)
      | true => none
    | .neq => match P.eqGuardType P.depth t with
      | false => (veq P 8 t c d).bind fun r => some (.b (!r))
      | true => none
    | _ => none
theorem run_eqGuard_gen {P : Program} {w : World} {op : BinOp} {t : TypeId} {p q : Operand} {v u : Value} (hm : P.eqGuardType P.depth t = false) (hv : (∃ b, v = .bool b) ∨ (∃ a, v = .agg a) ∨ ∃ p, v = .pointer p) : (eqGuard op t p q v u).run P w = .ok () w := by
  rcases hv with ⟨b, rfl⟩ | ⟨b, rfl⟩ | ⟨b, rfl⟩
  · cases op <;> simp [eqGuard]
  · cases op <;> cases u <;> simp [eqGuard, run_program, hm]
  · cases op <;> simp [eqGuard]
theorem run_eql_gen {P : Program} {w : World} {t : TypeId} {v u : Value} {r : Bool} (hv : (∃ b, v = .bool b) ∨ (∃ a, v = .agg a) ∨ ∃ p, v = .pointer p) (h : (Op.equal t v u).run P w = .ok r w) :
    (binOp .eql t v u).run P w = .ok (.bool r) w ∧ (binOp .neq t v u).run P w = .ok (.bool (!r)) w := by
  rcases hv with ⟨b, rfl⟩ | ⟨b, rfl⟩ | ⟨b, rfl⟩
  · constructor <;> simp only [binOp] <;> simp [h]
  · constructor <;> simp only [binOp] <;> simp [h]
  · cases u with
    | pointer p => cases b <;> cases p <;> constructor <;> simp [binOp, h]
    | _ => cases b <;> constructor <;> simp [binOp, h]
theorem vbinx_ok {x : Cx} {op : BinOp} {t : TypeId} {p q : Operand} {c d r : V} {v u : Value} (h : vbinx x.P op t c d = some r) (hv : VR x c v) (hu : VR x d u) :
    ∃ z, (do eqGuard op t p q v u; binOp op t v u : Sem Value).run x.P x.w = .ok z x.w ∧ VR x r z := by
  unfold vbinx at h
  split at h
  · exact vbin_ok h hv hu
  · exact vbin_ok h hv hu
  · exact vbin_ok h hv hu
  · have shape : ∀ b, veq x.P 8 t c d = some b → (∃ b, v = .bool b) ∨ (∃ a, v = .agg a) ∨ ∃ p, v = .pointer p := by
      intro b hb
      cases c with
      | i k n => exact absurd rfl (by rename_i h1 h2 h3; exact h1 k n)
      | s a => exact absurd rfl (by rename_i h1 h2 h3; exact h2 a)
      | st a => exact absurd rfl (by rename_i h1 h2 h3; exact h3 a)
      | b t => exact .inl ⟨_, hv⟩
      | agg cs => obtain ⟨l, rfl, _⟩ := hv; exact .inr (.inl ⟨_, rfl⟩)
      | pl cs => obtain ⟨bk, off, rfl, _⟩ := hv; exact .inr (.inr ⟨_, rfl⟩)
      | nilp => exact .inr (.inr ⟨_, hv⟩)
      | _ =>
        exfalso
        simp only [veq] at hb
        split at hb <;> simp at hb
    split at h
    · split at h
      · rename_i hm
        cases hb : veq x.P 8 t c d with
        | none => rw [hb] at h; cases h
        | some b =>
          rw [hb] at h
          simp only [Option.bind_some, Option.some.injEq] at h
          subst h
          have hs := shape b hb
          have he := veq_ok 8 Op.maxDepth t c d b v u (by decide) hb hv hu
          have hg := (run_eql_gen hs he).1
          refine ⟨_, ?_, rfl⟩
          simp only [Sem.run_bind, run_eqGuard_gen hm hs, Result.andThen_ok, hg]
      · cases h
    · split at h
      · rename_i hm
        cases hb : veq x.P 8 t c d with
        | none => rw [hb] at h; cases h
        | some b =>
          rw [hb] at h
          simp only [Option.bind_some, Option.some.injEq] at h
          subst h
          have hs := shape b hb
          have he := veq_ok 8 Op.maxDepth t c d b v u (by decide) hb hv hu
          have hg := (run_eql_gen hs he).2
          refine ⟨_, ?_, rfl⟩
          simp only [Sem.run_bind, run_eqGuard_gen hm hs, Result.andThen_ok, hg]
      · cases h
    · cases h
def vextract : V → Nat → Option V
  | .tup cs, i => cs[i]?
  | _, _ => none
theorem vextract_ok {x : Cx} {c r : V} {i : Nat} {v : Value} (h : vextract c i = some r) (hv : VR x c v) : ∃ z, (Instr.extract v i).run x.P x.w = .ok z x.w ∧ VR x r z := by
  unfold vextract at h
  split at h
  · obtain ⟨l, rfl, hs⟩ := hv
    obtain ⟨z, h1, h2⟩ := hs.get i r h
    refine ⟨z, ?_, h2⟩
    unfold Instr.extract
    simp [h1]
  · cases h
def vindex (P : Program) (t : TypeId) (c ix : V) : Option V :=
  match ix with
  | .i _ j => match P.underlying t with
    | some (.array len elem) => match c with
      | .agg cs => match szOf P elem with
        | some sz => if 0 ≤ j ∧ j < (len : Int) then vpart P elem cs (j.toNat * sz) else none
        | none => none
      | _ => none
    | some .string => match c with
      | .s a => if 0 ≤ j ∧ j < (a.size : Int) then some (.i .u8 ((a.data.toList.getD j.toNat 0).toNat : Int)) else none
      | .st xs => if 0 ≤ j ∧ j < (xs.length : Int) then some (.i .u8 (xs.getD j.toNat 0)) else none
      | _ => none
    | _ => none
  | _ => none
theorem vindex_ok {x : Cx} {t : TypeId} {c ix r : V} {v u : Value} (h : vindex x.P t c ix = some r) (hv : VR x c v) (hu : VR x ix u) : ∃ z, (Instr.index t v u).run x.P x.w = .ok z x.w ∧ VR x r z := by
  unfold vindex at h
  split at h
  · rename_i k j
    simp only [VR] at hu; subst hu
    unfold Instr.index
    simp only [Sem.run_bind, asIntOf, Sem.run_pure, Result.andThen_ok]
    split at h
    · rename_i len elem hd
      simp only [run_underlying hd, Result.andThen_ok]
      split at h
      · rename_i cs
        obtain ⟨l, rfl, hs⟩ := hv
        split at h
        · rename_i sz hz
          split at h
          · rename_i hb
            obtain ⟨z, h1, h2⟩ := vpart_ok h hs
            refine ⟨z, ?_, h2⟩
            simp only [hb, if_true, and_self, Sem.run_bind, run_szOf hz, Result.andThen_ok]
            exact h1
          · cases h
        · cases h
      · cases h
    · rename_i hd
      simp only [run_underlying hd, Result.andThen_ok]
      split at h
      · rename_i a
        simp only [VR] at hv; subst hv
        split at h
        · rename_i hb
          simp only [Option.some.injEq] at h; subst h
          have hlt : j.toNat < a.size := by omega
          have hlt' : j.toNat < a.data.toList.length := by simpa using hlt
          refine ⟨_, ?_, rfl⟩
          simp only [hb.1, if_true]
          rw [show a[j.toNat]? = some (a.data.toList[j.toNat]) by
            rw [getElem?_pos a j.toNat hlt]; rfl]
          simp [List.getD, List.getElem?_eq_getElem hlt']
        · cases h
      · rename_i xs
        obtain ⟨a, rfl, rfl⟩ := hv
        split at h
        · rename_i hb
          simp only [Option.some.injEq] at h; subst h
          rw [List.length_map] at hb
          have hlt' : j.toNat < a.data.toList.length := by omega
          have hlt : j.toNat < a.size := by simpa using hlt'
          refine ⟨_, ?_, rfl⟩
          simp only [hb.1, if_true]
          rw [show a[j.toNat]? = some (a.data.toList[j.toNat]) by
            rw [getElem?_pos a j.toNat hlt]; rfl]
          simp only [Sem.run_pure]
          congr 2
          rw [List.getD_eq_getElem?_getD, List.getElem?_map, List.getElem?_eq_getElem hlt']; rfl
        · cases h
      · cases h
    · cases h
  · cases h
def isRows (h : Heap) (id s : Nat) : Bool := match h[id]? with
  | some b => match b.d with
    | .recs _ s' _ => s' == s
    | _ => false
  | none => false
def rowAt (h : Heap) (id gen off s j : Nat) : V := match isRows h id s && (off % s == 0) with
  | true => .rrf id gen (off / s + j) s 0
  | false => .ref id gen (off + j * s)
def vindexAddr (P : Program) (h : Heap) (t : TypeId) (c ix : V) : Option V :=
  match ix with
  | .i _ j => match P.underlying t with
    | some (.slice elem) => match szOf P elem with
      | some sz => match c with
        | .sl n s cs => if s = sz then (if 0 ≤ j ∧ j < (n : Int) then some (.pl ((cs.drop (j.toNat * s)).take s)) else none) else none
        | .si n k xs => if sz = 1 then (if 0 ≤ j ∧ j < (n : Int) then some (.pl [.i k (xs.getD j.toNat 0)]) else none) else none
        | .sr n s g => if s = sz then (if 0 ≤ j ∧ j < (n : Int) then some (.pl (g j.toNat)) else none) else none
        | .own id gen off n s => if s = sz ∧ cur h id gen = true then (if 0 ≤ j ∧ j < (n : Int) then some (rowAt h id gen off s j.toNat) else none) else none
        | _ => none
      | none => none
    | some (.array len elem) => match szOf P elem with
      | some sz => match c with
        | .ref id gen off => if cur h id gen = true then (if 0 ≤ j ∧ j < (len : Int) then some (.ref id gen (off + j.toNat * sz)) else none) else none
        | .pl cs => if 0 ≤ j ∧ j < (len : Int) then some (.pl (cs.drop (j.toNat * sz))) else none
        | _ => none
      | none => none
    | _ => none
  | _ => none
theorem vindexAddr_ok {x : Cx} {t : TypeId} {c ix r : V} {v u : Value} (h : vindexAddr x.P x.h t c ix = some r) (hv : VR x c v) (hu : VR x ix u) : ∃ z, (Instr.indexAt t v u).run x.P x.w = .ok z x.w ∧ VR x r z := by
  unfold vindexAddr at h
  split at h
  · rename_i k j
    simp only [VR] at hu; subst hu
    unfold Instr.indexAt
    simp only [Sem.run_bind, asIntOf, Sem.run_pure, Result.andThen_ok]
    split at h
    · rename_i elem hd
      split at h
      · rename_i sz hz
        have hz' := run_szOf hz x.w
        simp only [run_underlying hd, Result.andThen_ok]
        split at h
        · rename_i n s cs
          obtain ⟨a, cap, rfl, hc, hp, hr⟩ := hv
          split at h
          · rename_i hss; subst hss
            split at h
            · rename_i hb
              simp only [Option.some.injEq] at h; subst h
              rcases hr with h0 | ⟨bk, off, rfl, ho, hn, hs⟩
              · omega
              · refine ⟨.pointer (some ⟨bk, off + j.toNat * s, none⟩), ?_, bk, _, rfl, .inr ⟨ho, (hs.drop _).take _⟩⟩
                simp [hb, hz', addr_add, run_underlying hd]
            · cases h
          · cases h
        · rename_i n k xs
          obtain ⟨a, cap, rfl, hc, hr⟩ := hv
          split at h
          · rename_i hss; subst hss
            split at h
            · rename_i hb
              simp only [Option.some.injEq] at h; subst h
              rcases hr with h0 | ⟨bk, off, rfl, ho, hn, hs⟩
              · omega
              · have hj : j.toNat < xs.length := by omega
                refine ⟨.pointer (some ⟨bk, off + j.toNat * 1, none⟩), ?_, bk, _, rfl, .inr ⟨ho, ⟨_, ?_, rfl, rfl⟩, trivial⟩⟩
                · simp [hb, hz', addr_add, run_underlying hd]
                · have := hs j.toNat xs[j.toNat] (by omega) (List.getElem?_eq_getElem hj)
                  rw [Nat.mul_one]
                  simpa [List.getD, List.getElem?_eq_getElem hj, Cx.bare] using this
            · cases h
          · cases h
        · rename_i n s g
          obtain ⟨a, cap, rfl, hc, hp, hr⟩ := hv
          split at h
          · rename_i hss; subst hss
            split at h
            · rename_i hb
              simp only [Option.some.injEq] at h; subst h
              rcases hr with h0 | ⟨bk, off, rfl, ho, hs⟩
              · omega
              · refine ⟨.pointer (some ⟨bk, off + j.toNat * s, none⟩), ?_, bk, _, rfl, .inr ⟨ho, (hs j.toNat (by omega)).2⟩⟩
                simp [hb, hz', addr_add, run_underlying hd]
            · cases h
          · cases h
        · rename_i id gen off n s
          split at h
          · rename_i hsc
            obtain ⟨hss, hc⟩ := hsc
            subst hss
            split at h
            · rename_i hb
              simp only [Option.some.injEq] at h; subst h
              obtain ⟨a, cap, rfl, h1, _, h2⟩ := cur_own hc hv
              rcases h2 with h2 | ⟨hph, o, rfl, h2 | ⟨rfl, _⟩⟩
              · omega
              · omega
              · have hrow : VR x (rowAt x.h id gen o s j.toNat) (.pointer (some ⟨x.ρ id, o + j.toNat * s, none⟩)) := by
                  unfold rowAt
                  split
                  · rename_i hq
                    simp only [Bool.and_eq_true, beq_iff_eq] at hq
                    have := mk_rrf (row := o / s + j.toNat) (sz := s) (fld := 0) hc hph
                    have e : (o / s + j.toNat) * s + 0 = o + j.toNat * s := by
                      rw [Nat.add_mul, Nat.div_mul_cancel (Nat.dvd_of_mod_eq_zero hq.2)]; rfl
                    rw [e] at this; exact this
                  · exact mk_ref hc hph
                refine ⟨_, ?_, hrow⟩
                simp [hb, hz', addr_add, run_underlying hd]
            · cases h
          · cases h
        · cases h
      · cases h
    · rename_i len elem hd
      split at h
      · rename_i sz hz
        have hz' := run_szOf hz x.w
        simp only [run_underlying hd, Result.andThen_ok]
        split at h
        · rename_i id gen off
          split at h
          · rename_i hc
            split at h
            · rename_i hb
              simp only [Option.some.injEq] at h; subst h
              rw [cur_ref hc hv]
              refine ⟨_, ?_, mk_ref hc (cur_ph hc hv)⟩
              simp [hb, hz', addr_add, run_underlying hd, Instr.sureAddr]
            · cases h
          · cases h
        · rename_i cs
          split at h
          · rename_i hb
            simp only [Option.some.injEq] at h; subst h
            obtain ⟨bk, off, rfl, hr⟩ := hv
            refine ⟨.pointer (some ⟨bk, off + j.toNat * sz, none⟩), ?_, bk, _, rfl, ?_⟩
            · simp [hb, hz', addr_add, run_underlying hd, Instr.sureAddr]
            · rcases hr with h0 | ⟨ho, hs⟩
              · subst h0; exact .inl (by simp)
              · exact .inr ⟨ho, hs.drop _⟩
          · cases h
        · cases h
      · cases h
    · cases h
  · cases h
def oint (d : Int) : Option V → Option Int
  | none => some d
  | some (.i _ a) => some a
  | some _ => none
def OR (x : Cx) : Option V → Option Value → Prop
  | none, none => True
  | some c, some v => VR x c v
  | _, _ => False
theorem run_bound {P : Program} {w : World} {k : IntKind} {i : Int} {y : Nat} {code : BoundsCode} (h : 0 ≤ i ∧ i ≤ y) : (Instr.sliceBound (.int k i) y code).run P w = .ok i.toNat w := by
  simp [Instr.sliceBound, asIntOf, h]
theorem run_bounds {x : Cx} {isS : Bool} {n cap : Nat} {lo hi : Option V} {lv hv : Option Value} {l h : Int} (hl : oint 0 lo = some l) (hh : oint n hi = some h) (rl : OR x lo lv) (rh : OR x hi hv) (b : 0 ≤ l ∧ l ≤ h ∧ h ≤ n) (hc : n ≤ cap) :
    (Instr.sliceBounds isS n cap lv hv none).run x.P x.w = .ok (l.toNat, h.toNat, cap) x.w := by
  have key : ∀ (d : Nat) (o : Option V) (ov : Option Value) (r : Int), oint d o = some r → OR x o ov → (o = none ∧ ov = none ∧ r = d) ∨ ∃ k, ov = some (.int k r) := by
    intro d o ov r h1 h2
    cases o with
    | none =>
      cases ov with
      | none => simp [oint] at h1; exact .inl ⟨rfl, rfl, h1.symm⟩
      | some v => exact h2.elim
    | some c =>
      cases ov with
      | none => exact h2.elim
      | some v =>
        cases c with
        | i k a =>
          simp [oint] at h1; subst h1
          exact .inr ⟨k, by rw [show v = .int k a from h2]⟩
        | _ => simp [oint] at h1
  unfold Instr.sliceBounds
  rcases key 0 lo lv l hl rl with ⟨_, rfl, rfl⟩ | ⟨k, rfl⟩ <;> rcases key n hi hv h hh rh with ⟨_, rfl, rfl⟩ | ⟨k', rfl⟩
  · simp
  · simp [run_bound (show 0 ≤ h ∧ h ≤ (cap : Nat) by omega)]
  · simp [run_bound (show 0 ≤ l ∧ l ≤ (n : Nat) by omega)]
  · simp [run_bound (show 0 ≤ h ∧ h ≤ (cap : Nat) by omega), run_bound (show 0 ≤ l ∧ l ≤ (h.toNat : Nat) by omega)]
def vslice (P : Program) (h : Heap) (t : TypeId) (c : V) (lo hi mx : Option V) : Option V :=
  match P.underlying t with
  | some (.slice elem) => match szOf P elem with
    | some (z + 1) => match mx with
      | none => match c with
        | .sl n s cs => if s = z + 1 then (match oint 0 lo, oint n hi with
          | some l, some m => if 0 ≤ l ∧ l ≤ m ∧ m ≤ n then some (.sl (m.toNat - l.toNat) s ((cs.drop (l.toNat * s)).take ((m.toNat - l.toNat) * s))) else none
          | _, _ => none) else none
        | .si n k xs => if 1 = z + 1 then (match oint 0 lo, oint n hi with
          | some l, some m => if 0 ≤ l ∧ l ≤ m ∧ m ≤ n then some (.si (m.toNat - l.toNat) k ((xs.drop l.toNat).take (m.toNat - l.toNat))) else none
          | _, _ => none) else none
        | .sr n s g => if s = z + 1 then (match oint 0 lo, oint n hi with
          | some l, some m => if 0 ≤ l ∧ l ≤ m ∧ m ≤ n then some (.sr (m.toNat - l.toNat) s (fun j => g (l.toNat + j))) else none
          | _, _ => none) else none
        | .own id gen off n s => if s = z + 1 ∧ cur h id gen = true then (match oint 0 lo, oint n hi with
          | some l, some m => if 0 ≤ l ∧ l ≤ m ∧ m ≤ n then some (.own id gen (off + l.toNat * s) (m.toNat - l.toNat) s) else none
          | _, _ => none) else none
        | _ => none
      | some (.i _ m) => match lo, hi with
        | none, some (.i _ b) => if m = 0 ∧ b = 0 then (match c with
          | .sl _ _ _ => some .nils
          | .si _ _ _ => some .nils
          | .sr _ _ _ => some .nils
          | .own id gen _ _ _ => if cur h id gen = true then some .nils else none
          | .nils => some .nils
          | _ => none) else none
        | _, _ => none
      | _ => none
    | _ => none
  | some .string => match c, mx with
    | .s a, none => match oint 0 lo, oint a.size hi with
      | some l, some m => if 0 ≤ l ∧ l ≤ m ∧ m ≤ a.size then some (.s (a.extract l.toNat m.toNat)) else none
      | _, _ => none
    | _, _ => none
  | _ => none
theorem vslice_ok {x : Cx} {t : TypeId} {c r : V} {lo hi mx : Option V} {v : Value} {lv hv mv : Option Value} (h : vslice x.P x.h t c lo hi mx = some r) (hc : VR x c v) (rl : OR x lo lv) (rh : OR x hi hv) (rm : OR x mx mv) :
    ∃ z, (Instr.sliceAt t v lv hv mv).run x.P x.w = .ok z x.w ∧ VR x r z := by
  unfold vslice at h
  split at h
  · rename_i elem hu
    unfold Instr.sliceAt
    simp only [Sem.run_bind, run_underlying hu, Result.andThen_ok]
    unfold Instr.slice
    simp only [Sem.run_bind, run_underlying hu, Result.andThen_ok]
    split at h
    · rename_i z hz
      have hz' := run_szOf hz x.w
      split at h
      · have : mv = none := by cases mv with
          | none => rfl
          | some _ => exact rm.elim
        subst this
        split at h
        · rename_i n s cs
          obtain ⟨a, cap, rfl, hcap, hp, hr⟩ := hc
          split at h
          · rename_i hs; subst hs
            split at h
            · rename_i l m hl hm
              split at h
              · rename_i hb
                simp only [Option.some.injEq] at h; subst h
                simp only [Sem.run_bind, run_bounds hl hm rl rh hb hcap, Result.andThen_ok, hz', Sem.run_pure]
                refine ⟨_, rfl, _, _, rfl, by omega, hp, ?_⟩
                by_cases h0 : m.toNat - l.toNat = 0
                · exact .inl h0
                · rcases hr with h1 | ⟨bk, off, rfl, ho, hn, hs⟩
                  · omega
                  · refine .inr ⟨bk, off + l.toNat * (z + 1), ?_, ho, ?_, (hs.drop _).take _⟩
                    · rw [if_neg (by omega)]; simp [addr_add]
                    · have e1 : m.toNat * (z + 1) ≤ n * (z + 1) := Nat.mul_le_mul_right _ (by omega)
                      rw [List.length_take, List.length_drop, Nat.sub_mul]
                      have e2 : l.toNat * (z + 1) ≤ m.toNat * (z + 1) := Nat.mul_le_mul_right _ (by omega)
                      omega
              · cases h
            · cases h
          · cases h
        · rename_i n k xs
          obtain ⟨a, cap, rfl, hcap, hr⟩ := hc
          split at h
          · rename_i hs
            split at h
            · rename_i l m hl hm
              split at h
              · rename_i hb
                simp only [Option.some.injEq] at h; subst h
                simp only [Sem.run_bind, run_bounds hl hm rl rh hb hcap, Result.andThen_ok, hz', Sem.run_pure]
                refine ⟨_, rfl, _, _, rfl, by omega, ?_⟩
                by_cases h0 : m.toNat - l.toNat = 0
                · exact .inl h0
                · rcases hr with h1 | ⟨bk, off, rfl, ho, hn, hs⟩
                  · omega
                  · refine .inr ⟨bk, off + l.toNat, ?_, ho, ?_, fun j e hj he => ?_⟩
                    · rw [if_neg (by omega)]; simp [addr_add, show z = 0 by omega]
                    · rw [List.length_take, List.length_drop]; omega
                    · rw [List.getElem?_take, if_pos hj, List.getElem?_drop] at he
                      have := hs (l.toNat + j) e (by omega) he
                      rwa [← Nat.add_assoc] at this
              · cases h
            · cases h
          · cases h
        · rename_i n s g
          obtain ⟨a, cap, rfl, hcap, hp, hr⟩ := hc
          split at h
          · rename_i hs; subst hs
            split at h
            · rename_i l m hl hm
              split at h
              · rename_i hb
                simp only [Option.some.injEq] at h; subst h
                simp only [Sem.run_bind, run_bounds hl hm rl rh hb hcap, Result.andThen_ok, hz', Sem.run_pure]
                refine ⟨_, rfl, _, _, rfl, by omega, hp, ?_⟩
                by_cases h0 : m.toNat - l.toNat = 0
                · exact .inl h0
                · rcases hr with h1 | ⟨bk, off, rfl, ho, hs⟩
                  · omega
                  · refine .inr ⟨bk, off + l.toNat * (z + 1), ?_, ho, fun j hj => ?_⟩
                    · rw [if_neg (by omega)]; simp [addr_add]
                    · have := hs (l.toNat + j) (by omega)
                      rw [Nat.add_mul, ← Nat.add_assoc] at this
                      exact this
              · cases h
            · cases h
          · cases h
        · rename_i id gen off n s
          split at h
          · rename_i hscu
            obtain ⟨hs, hcu⟩ := hscu
            subst hs
            obtain ⟨a, cap, rfl, hcap, hsz0, hr⟩ := cur_own hcu hc
            split at h
            · rename_i l m hl hm
              split at h
              · rename_i hb
                simp only [Option.some.injEq] at h; subst h
                simp only [Sem.run_bind, run_bounds hl hm rl rh hb hcap, Result.andThen_ok, hz', Sem.run_pure]
                obtain ⟨_, bk, hbk, _, hq⟩ := hc
                have hcu' := hcu
                simp [cur, hbk] at hcu'
                obtain ⟨a', cap', qv, _, _, q⟩ := hq hcu'.1.symm hcu'.2
                obtain ⟨e1, e2⟩ : a = a' ∧ cap = cap' := by simpa using qv
                subst e1 e2
                refine ⟨_, rfl, by split <;> rfl, bk, hbk, by omega, fun _ _ => ?_⟩
                rcases q with ⟨q1, q2⟩ | ⟨qp, o, rfl, hlen, hr⟩
                · subst q1 q2
                  exact ⟨_, 0, by rw [if_pos (by omega)]; congr 1; omega, by omega, by omega, .inl ⟨by omega, rfl⟩⟩
                have hlen' : m.toNat - l.toNat = 0 ∨ off + l.toNat * (z + 1) + (m.toNat - l.toNat) * (z + 1) ≤ bk.cs.length := by
                  rcases hlen with h0 | h0
                  · exact .inl (by omega)
                  · refine .inr ?_
                    have e1 : l.toNat * (z + 1) + (m.toNat - l.toNat) * (z + 1) = m.toNat * (z + 1) := by
                      rw [← Nat.add_mul]; congr 1; omega
                    have e2 : m.toNat * (z + 1) ≤ n * (z + 1) := Nat.mul_le_mul_right _ (by omega)
                    omega
                by_cases hl0 : cap = l.toNat
                · rw [if_pos hl0]
                  refine ⟨_, _, rfl, by omega, by omega, .inr ⟨qp, o, rfl, hlen', ?_⟩⟩
                  by_cases hl1 : l.toNat = 0
                  · rcases hr with ⟨h1, h2⟩ | ⟨h1, el, tot, h2, h3⟩
                    · exact .inl ⟨by omega, by omega⟩
                    · exact .inr ⟨by rw [hl1]; omega, el, tot, h2, by rw [hl1]; simpa using h3⟩
                  · exact .inl ⟨by omega, by have : 0 < l.toNat * (z + 1) := Nat.mul_pos (by omega) (by omega); omega⟩
                · rw [if_neg hl0]
                  refine ⟨_, cap - l.toNat, rfl, by omega, by omega, .inr ⟨qp, o + l.toNat * (z + 1), by simp [addr_add], hlen', ?_⟩⟩
                  rcases hr with ⟨h1, h2⟩ | ⟨h1, el, tot, h2, h3⟩
                  · exact .inl ⟨by omega, by omega⟩
                  · refine .inr ⟨by omega, el, tot, h2, ?_⟩
                    have : (cap - l.toNat) * (z + 1) + l.toNat * (z + 1) = cap * (z + 1) := by
                      rw [← Nat.add_mul, Nat.sub_add_cancel (by omega)]
                    omega
              · cases h
            · cases h
          · cases h
        · cases h
      · rename_i k m
        have : mv = some (.int k m) := by
          cases mv with
          | none => exact rm.elim
          | some u => rw [show u = .int k m from rm]
        subst this
        split at h
        · rename_i k' b
          have e1 : lv = none := by cases lv with
            | none => rfl
            | some _ => exact rl.elim
          have e2 : hv = some (.int k' b) := by
            cases hv with
            | none => exact rh.elim
            | some u => rw [show u = .int k' b from rh]
          subst e1 e2
          split at h
          · rename_i hmb
            obtain ⟨rfl, rfl⟩ := hmb
            have key : ∀ a n cap, v = .slice a n cap → r = .nils → ∃ z, (do
                let (l, h, m) ← Instr.sliceBounds true n cap none (some (.int k' 0)) (some (.int k 0))
                let size ← sizeOf elem
                pure (Value.slice (if m = l then a else a.map (·.add (l * size))) (h - l) (m - l)) : Sem Value).run x.P x.w = .ok z x.w ∧ VR x r z := by
              intro a n cap _ hr
              subst hr
              refine ⟨.slice a 0 0, ?_, a, rfl⟩
              simp [Instr.sliceBounds, Instr.sliceBound, asIntOf, hz']
            split at h
            · simp only [Option.some.injEq] at h; obtain ⟨a, cap, rfl, _⟩ := hc; exact key a _ cap rfl h.symm
            · simp only [Option.some.injEq] at h; obtain ⟨a, cap, rfl, _⟩ := hc; exact key a _ cap rfl h.symm
            · simp only [Option.some.injEq] at h; obtain ⟨a, cap, rfl, _⟩ := hc; exact key a _ cap rfl h.symm
            · split at h
              · rename_i hcu
                simp only [Option.some.injEq] at h
                obtain ⟨a, cap, rfl, _⟩ := cur_own hcu hc
                exact key _ _ cap rfl h.symm
              · cases h
            · simp only [Option.some.injEq] at h; obtain ⟨a, rfl⟩ := hc; exact key a _ _ rfl h.symm
            · cases h
          · cases h
        · cases h
      · cases h
    · cases h
  · rename_i hu
    unfold Instr.sliceAt
    simp only [Sem.run_bind, run_underlying hu, Result.andThen_ok]
    unfold Instr.slice
    simp only [Sem.run_bind, run_underlying hu, Result.andThen_ok]
    split at h
    · rename_i a
      have : mv = none := by cases mv with
        | none => rfl
        | some _ => exact rm.elim
      subst this
      simp only [VR] at hc; subst hc
      split at h
      · rename_i l m hl hm
        split at h
        · rename_i hb
          simp only [Option.some.injEq] at h; subst h
          refine ⟨_, ?_, rfl⟩
          simp [run_bounds hl hm rl rh hb (Nat.le_refl _)]
        · cases h
      · cases h
    · cases h
  · cases h
def lay {α : Type} : List α → Nat → List α → List α
  | cs, _, [] => cs
  | cs, o, v :: vs => lay (cs.set o v) (o + 1) vs
theorem lay_length {α : Type} : ∀ (vs : List α) (cs : List α) (o : Nat), (lay cs o vs).length = cs.length
  | [], _, _ => rfl
  | v :: vs, cs, o => by simp [lay, lay_length vs]
theorem VRs.lay_ {x : Cx} : ∀ {vs : List V} {us : List Value} {cs : List V} {l : List Value} (o : Nat), VRs x vs us → VRs x cs l → VRs x (lay cs o vs) (lay l o us)
  | [], _, _, _, _, h, k => by subst h; exact k
  | _ :: _, _, _, _, o, h, k => by
    obtain ⟨v, vs, hl, hv, hs⟩ := h
    subst hl
    exact VRs.lay_ (o + 1) hs (k.set o hv)
theorem lay_take {α : Type} : ∀ (vs : List α) (cs : List α) (o n : Nat), o + vs.length ≤ n → (lay cs o vs).take n = lay (cs.take n) o vs
  | [], _, _, _, _ => rfl
  | v :: vs, cs, o, n, h => by
    simp only [lay]
    rw [lay_take vs _ _ _ (by simp at h; omega), List.take_set]
theorem fill_lay (cells : Array Value) (off : Nat) : ∀ (vs : List Value) (k : Nat) (l : List Value), (vs.zipIdx k).foldl (fun cs (c, j) => cs.setIfInBounds (off + j) c) l.toArray = (lay l (off + k) vs).toArray
  | [], _, _ => rfl
  | v :: vs, k, l => by
    simp only [List.zipIdx_cons, List.foldl_cons, lay]
    have := fill_lay cells off vs (k + 1) (l.set (off + k) v)
    rw [show off + (k + 1) = off + k + 1 by omega] at this
    rw [← this]; simp
def vfill (place : Nat → Option (Nat × Nat)) (cells : List V) : List (Nat × V) → Option (List V)
  | [] => some cells
  | (i, v) :: rest =>
    match place i with
    | none => none
    | some (off, size) => match vcells v with
      | none => none
      | some vs => if vs.length = size ∧ off + vs.length ≤ cells.length then vfill place (lay cells off vs) rest else none
theorem vfill_ok {x : Cx} {place : Nat → Option (Nat × Nat)} : ∀ (ps : List (Nat × V)) (qs : List (Nat × Value)) (cells : List V) (l : List Value) (r : List V), vfill place cells ps = some r → VRs x cells l →
    (ps.length = qs.length ∧ ∀ (j : Nat) p q, ps[j]? = some p → qs[j]? = some q → p.1 = q.1 ∧ VR x p.2 q.2) → ∃ m : List Value, Instr.fill place l.toArray qs = some m.toArray ∧ VRs x r m
  | [], [], cells, l, r, h, hc, _ => by simp [vfill] at h; subst h; exact ⟨l, rfl, hc⟩
  | [], _ :: _, _, _, _, _, _, hq => by simp at hq
  | _ :: _, [], _, _, _, _, _, hq => by simp at hq
  | (i, v) :: ps, (i', u) :: qs, cells, l, r, h, hc, hq => by
    obtain ⟨hlen, hrel⟩ := hq
    obtain ⟨e1, e2⟩ := hrel 0 (i, v) (i', u) rfl rfl
    simp only at e1 e2
    subst e1
    simp only [vfill] at h
    cases hp : place i with
    | none => simp [hp] at h
    | some pl =>
      obtain ⟨off, size⟩ := pl
      simp only [hp] at h
      cases hv : vcells v with
      | none => simp [hv] at h
      | some vs =>
        simp only [hv] at h
        split at h
        · rename_i hb
          have hcv := VR_cells e2 hv
          have hl1 := hcv.length
          have hl2 := hc.length
          obtain ⟨m, h1, h2⟩ := vfill_ok ps qs (lay cells off vs) (lay l off u.cells.toList) r h (VRs.lay_ off hcv hc) ⟨by simpa using hlen, fun j p q h1 h2 => hrel (j + 1) p q (by simpa using h1) (by simpa using h2)⟩
          refine ⟨m, ?_, h2⟩
          simp only [Instr.fill, hp]
          have s1 : u.cells.size = size := by rw [← Array.length_toList, hl1]; exact hb.1
          have s2 : ¬ off + u.cells.size > l.toArray.size := by
            rw [← Array.length_toList, hl1]; simp [hl2]; omega
          rw [if_neg (by simp [s1]; have := s2; simp [s1] at this; omega)]
          rw [← h1]
          congr 1
          have := fill_lay #[] off u.cells.toList 0 l
          rw [← Array.foldl_toList, Array.toList_zipIdx]
          simpa using this
        · cases h
def zcells (P : Program) (t : TypeId) : Option (List V) :=
  match P.info? t with
  | some i => match i.zero with
    | some z => if z.cells.toList.all one = true then some (z.cells.toList.map ofCell) else none
    | none => none
  | none => none
theorem zcells_ok {x : Cx} {t : TypeId} {cs : List V} (h : zcells x.P t = some cs) : ∃ z : Value, (zeroValue t).run x.P x.w = .ok z x.w ∧ VRs x cs z.cells.toList ∧ ∀ v ∈ z.cells.toList, one v = true := by
  unfold zcells at h
  split at h
  · rename_i i hi
    split at h
    · rename_i z hz
      split at h
      · rename_i ho
        simp only [Option.some.injEq] at h; subst h
        refine ⟨z, by simp [zeroValue, typeInfo, hi, hz], ?_, List.all_eq_true.1 ho⟩
        have := VRs.map (x := x) (fun a => VR_ofCell x a) z.cells.toList
        simpa using this
      · cases h
    · cases h
  · cases h
def fplaces (P : Program) : List Field → Option (List (Nat × Nat))
  | [] => some []
  | f :: fs => match szOf P f.type, fplaces P fs with
    | some n, some l => some ((f.offset, n) :: l)
    | _, _ => none
theorem fplaces_ok {x : Cx} : ∀ (fs : List Field) (l : List (Nat × Nat)), fplaces x.P fs = some l → (fs.mapM (fun f => Prod.mk f.offset <$> sizeOf f.type : Field → Sem (Nat × Nat))).run x.P x.w = .ok l x.w
  | [], l, h => by simp [fplaces] at h; subst h; rfl
  | f :: fs, l, h => by
    simp only [fplaces] at h
    split at h
    · rename_i n l' h1 h2
      simp only [Option.some.injEq] at h; subst h
      simp [List.mapM_cons, run_szOf h1, fplaces_ok fs l' h2]
    · cases h
def vbuild (P : Program) (t : TypeId) (ps : List (Nat × V)) : Option V :=
  match zcells P t with
  | none => none
  | some zs => match P.underlying t with
    | some (.struct fs) => match fplaces P fs.toList with
      | some pl => match vfill (fun i => pl[i]?) zs ps with
        | some cs => some (.agg cs)
        | none => none
      | none => none
    | some (.array _ elem) => match szOf P elem with
      | some sz => match vfill (fun i => some (i * sz, sz)) zs ps with
        | some cs => some (.agg cs)
        | none => none
      | none => none
    | _ => none
theorem vbuild_ok {x : Cx} {t : TypeId} {ps : List (Nat × V)} {qs : Array (Nat × Value)} {r : V} (h : vbuild x.P t ps = some r)
    (hq : ps.length = qs.toList.length ∧ ∀ (j : Nat) p q, ps[j]? = some p → qs.toList[j]? = some q → p.1 = q.1 ∧ VR x p.2 q.2) : ∃ z, (Instr.build t qs).run x.P x.w = .ok z x.w ∧ VR x r z := by
  unfold vbuild at h
  split at h
  · cases h
  · rename_i zs hz
    obtain ⟨z, hz1, hz2, _⟩ := zcells_ok hz
    unfold Instr.build
    simp only [Sem.run_bind, hz1, Result.andThen_ok]
    split at h
    · rename_i fs hu
      simp only [run_underlying hu, Result.andThen_ok]
      split at h
      · rename_i pl hp
        split at h
        · rename_i cs hf
          simp only [Option.some.injEq] at h; subst h
          obtain ⟨m, h1, h2⟩ := vfill_ok ps qs.toList zs z.cells.toList cs hf hz2 hq
          refine ⟨.agg m.toArray, ?_, m, rfl, h2⟩
          have hm : (fs.mapM (fun f => do pure (f.offset, ← sizeOf f.type) : Field → Sem (Nat × Nat))).run x.P x.w = .ok pl.toArray x.w := by
            rw [Array.mapM_eq_mapM_toList]
            simp [fplaces_ok fs.toList pl hp]
          simp only [Sem.run_bind, hm, Result.andThen_ok]
          have e : (fun i : Nat => pl.toArray[i]?) = (fun i : Nat => pl[i]?) := by funext i; simp
          rw [e]
          simp only [Array.toArray_toList] at h1
          rw [h1]
          rfl
        · cases h
      · cases h
    · rename_i k elem hu
      simp only [run_underlying hu, Result.andThen_ok]
      split at h
      · rename_i sz hs
        split at h
        · rename_i cs hf
          simp only [Option.some.injEq] at h; subst h
          obtain ⟨m, h1, h2⟩ := vfill_ok ps qs.toList zs z.cells.toList cs hf hz2 hq
          refine ⟨.agg m.toArray, ?_, m, rfl, h2⟩
          simp only [Sem.run_bind, run_szOf hs, Result.andThen_ok]
          simp only [Array.toArray_toList] at h1
          rw [h1]
          rfl
        · cases h
      · cases h
    · cases h
end Go.Proofs.YtkmkhcmfpbffjaaGreat.VI
